/- Texts of this claim. -/
import Derived.Lib.IndexBytes
import Derived.ChangeArms
import Derived.Deep.Slices
import Derived.Deep.Strs
import Derived.Laws.Tables
import Derived.Deep.WholeRow
import Derived.Test.YtdponihkpomheaaGreatDoorK7

set_option maxHeartbeats 4000000
set_option maxRecDepth 100000
namespace Go.Proofs.YtdponihkpomheaaGreatDoor
open Go.RowKit
open Tryz
section
open Go.Shelf
attribute[local go_sem] Oper.semAt_some
def rC(s:ByteArray)(A:Nat->Addr)(b:Nat)(xs:List Int)(W:World):Prop:=
 (U.scalars s.data.toList=some xs/\∃s',Zv W b 152 #[.string s',.nilIface])\/(U.scalars s.data.toList=none/\∃s',Zv W b 152 #[.string s',PE A 3])
theorem ar0(l:List Int):l.length<=(U.textOf l).length:=by
 induction l with
 |nil=>simp
 |cons r l XZ=>
  have:=U.c6 r;show l.length+1<=(U.enc r++U.textOf l).length
  grind
theorem E.holds{A:Nat->Addr}{B:Nat}{w w':World}(h:E A B w){own:Nat->Prop}(Uy:Holds own w w')(hB:∀k,k<B->own k):E A B w' where
 var g ZH:=(World.cell?_of_block (Uy.block g (hB _ (h.lt g ZH).1))).trans (h.var g ZH)
 row g ZH:=by
  obtain⟨c,t,ZT⟩:=h.row g ZH;exact⟨c,t,(Uy.block _ (hB _ (h.lt g ZH).2)).trans ZT⟩
 lt:=h.lt
 ne:=h.ne
theorem Holds.blk{own:Nat->Prop}{A B:World}(h:Holds own A B){g:Nat}{t:TypeId}{cs:Array Value}(Z8:Zv A g t cs)(ZH:own g):Zv B g t cs:=(h.block g ZH).trans Z8
theorem E.only{A:Nat->Addr}{B:Nat}{w w':World}{b:Nat}(h:E A B w)(ZH:w.grownBy w' (some b))(hB:B<=b)(afP:B<=w.heap.size):E A B w':=h.below (A6 ZH hB afP)
theorem apO(n:Nat)(A:Nat->Addr)(B b IJ:Nat)(s:ByteArray)(_:s.size<=maxLen)(l:Nat)(YH:World)(YN:E A B YH)(hB:B<=b)(_:B<=IJ)(_:b≠IJ)(Z8:Zv YH b 152 #[.string s,.nilIface])(p5:Zv YH IJ 148 #[Zn b]):
  r5 (n+1) prog 160 #[Zn IJ] (λx:Int=>#[Z9 x]) (λk=>k=b) (λk=>k=b\/k=IJ\/k<B) (λZC _=>ZC.length<s.size) (rC s A b) l YH:=by
 intro J PL Pj Gb VX ZI;have Wn:=bx VX;have TE:=bx Pj;clear VX Pj;refine callsIn_of_wp func160 rfl trivial ?_;simp only[ntmps160,My,U3,SK,Nat.reduceAdd,Nat.reduceSub,Mu,Mg,Og,Mo,RQ,SI]
 gi_wp2
 refine wpIn_wide.2 (wp_scope_straight ((wpIn_wide (n:=n+1)).1 ?_))
 gi_wp2
 refine wpIn_label ?_
 gi_wp2
 gi_loopw [3] (λ_ wr=>∃(ZC:List Int)(rest:ByteArray),rest.size<=s.size/\Box (U.textOf ZC++rest.data.toList=s.data.toList/\∀r∈ZC,U.right r=true)/\E A B wr/\Zv wr b 152 #[.string rest,.nilIface]/\Zv wr IJ 148 #[Zn b]/\J ZC wr)
  (λ_ wr=>match wr.cell? ⟨b,0,none⟩ with|some (.string r)=>r.size|_=>0)
 ·exact⟨[],s,Wq _,⟨⟨rfl,λr ZT=>by cases ZT⟩⟩,YN,Z8,p5,ZI⟩
 obtain⟨ZC,rest,jW,hp,Di,Xk,yp,YO⟩:=hrel;have YV:=Xk.q0;have c1:=yp.q0
 cases hl:rest.data.toList with
 |nil=>
  have ZY:=isEmpty_nil hl;have Xe:=bx (show rC s A b ZC wr from .inl ⟨(U.bI _ _).2 ⟨by rw[<-hp.o.1,hl,L3],hp.o.2⟩,rest,Xk⟩);clear hl
  gi_wp2
  rw[Exit.noGoto_normal]
  go_end0
  exact⟨⟨_,rfl⟩,.inl ⟨ZC,Xe.o,YO⟩⟩
 |cons c t=>
  have ZY:=isEmpty_cons hl;have ZE:=bx ((callsIn_wide (n:=n)).2 (next_any A B b .nilIface rest wr (by omega) Di hB Xk));have W1:B<=wr.heap.size:=by have:=Xk.lt;omega
  have aip:=bx Di;have aif:=bx yp;have i9:=bx YO;have W4:=bx hl;clear Di Xk yp YO hl
  gi_wp2
  refine⟨trivial,ZE.o.mono ?_⟩;intro e ZB Zp;unfold Ar at Zp
  cases Zm:U.dec rest.data.toList with
  |none=>
   rw[Zm]at Zp;obtain⟨rfl,Zz,XL⟩:=Zp;have Xe:=bx (show rC s A b ZC ZB from .inr ⟨by
    rw[<-hp.o.1,U.eT _ hp.o.2,U.fu (by rw[W4.o];simp) Zm];rfl,rest,Zz⟩)
   have aiz:=bx (TE.o _ _ _ i9.o (Turns.aef XL rfl));clear Zm Zz XL
   gi_wp2
   refine⟨λ_ h=>(by cases h),?_⟩
   gi_wp2
   rw[Exit.noGoto_normal]
   go_end0
   exact⟨⟨_,rfl⟩,.inl ⟨ZC,Xe.o,aiz.o⟩⟩
  |some p=>
   obtain⟨r,m⟩:=p;rw[Zm]at Zp;obtain⟨rfl,Zz,XL⟩:=Zp;obtain⟨ZT,he,Pg,_,hm⟩:=U.cX Zm;have kk:=TE.o _ _ _ i9.o (Turns.aef XL rfl);have afR:=aip.o.only XL hB W1;have abT:=aif.o.grown XL (by grind);have Zt:=bx Zz;have CJ:=bx afR;have auQ:=bx abT;have Hq:=size_eq rest;have WI:=bx (show(rest.extract m rest.size).size<=s.size/\(rest.extract m rest.size).size<rest.size/\U.textOf (ZC++[r])++(rest.extract m rest.size).data.toList=s.data.toList/\∀x∈ZC++[r],U.right x=true by
    have Z4:=Lib.extract_to_end rest m;have Il:(rest.extract m rest.size).size=rest.size-m:=by simp
    refine⟨by omega,by omega,?_,?_⟩
    ·rw[U.ds,Z4,M8,<-hp.o.1]
     congr 1
     show U.enc r++[]++_=_
     rw[he,L3,I0]
    intro x Z4
    rcases Nb.1 Z4 with Z4|Z4
    ·exact hp.o.2 x Z4
    grind)
   have Jl:=bx (show ZC.length<s.size by
    have Z7:=congrArg List.length hp.o.1;have Z5:=ar0 ZC;rw[WR,<-size_eq,<-size_eq]at Z7;omega)
   obtain⟨fn,tmps,assign,body,ZJ,WS⟩:=Wn.o ZC r ZB kk Jl.o;have ZK:=bx WS;have RV:((m:Int)==0)=false:=by grind
   clear Zm Zz XL afR abT kk WS he ZT Hq
   gi_wp2
   refine ZK.o.mono ?_;rintro e XE (⟨rfl,Oq,Sx⟩|⟨rfl,L7⟩)
   ·have Zb:=Sx.blk Zt.o (.inl rfl);have Gk:=bx (show∃(ZC:List Int)(rest:ByteArray),rest.size<=s.size/\Box (U.textOf ZC++rest.data.toList=s.data.toList/\∀r∈ZC,U.right r=true)/\E A B XE/\Zv XE b 152 #[.string rest,.nilIface]/\Zv XE IJ 148 #[Zn b]/\J ZC XE from
     ⟨ZC++[r],_,WI.o.1,⟨WI.o.2.2⟩,CJ.o.holds Sx (λk Z3=>.inr (.inr Z3)),Zb,Sx.blk auQ.o (.inr (.inl rfl)),Oq⟩)
    have c3:=Zb.q0;have Un:=bx c3;have aih:=bx YV;clear Zb Oq Sx c3 YV c1
    gi_wp2
    go_roundw
    ·exact Gk.o
    rw[Un.o,aih.o];exact WI.o.2.1
   gi_wp2
   rw[Exit.noGoto_normal]
   go_end0
   grind
theorem arY(p:Option Addr)(w:World):
  Calls prog 89 #[.pointer p] w λe w'=>e=.returned (.func (.func 160) #[] #[Zn (w.heap.size)])/\w.alloc (.cells #[.pointer p] 148)=w':=by
 go_in
 go_wp2
 go_ret
 simp
theorem Turns.anR{own:Nat->Prop}{A B:World}{row:Option Nat}(h:A.grownBy B row)(ZT:∀k,row=some k->own k):Turns own A B:=
 ⟨h.os,h.tape,h.output,h.size,λi hi YT=>h.block i hi (λe=>YT (ZT i e.symm))⟩
theorem aoo{w:World}{base BU:Nat}{e:TypeId}{size:Nat}{v:Value}{n:Nat}{xs:List Value}(h:w.ownsRow base e size v n xs)(_:BU<=base):w.ownsRow BU e size v n xs:=by
 refine⟨h.1,?_⟩
 rcases h.2 with h|⟨g,ZU,VY,Z7,Z5,ZS⟩
 ·grind
 exact .inr ⟨g,ZU,VY,Z7,by omega,ZS⟩
def qU(s:ByteArray)(w:World)(e:Ending)(w':World):Prop:=
 Z6 w w'/\match U.scalars s.data.toList with
 |none=>e=.returned (.tuple #[Z1,Z9 11])
 |some xs=>∃v,e=.returned (.tuple #[v,Z9 0])/\w'.ownsRow w.heap.size 3 1 v xs.length (xs.map (Value.int .i64))
theorem lP:(prog.info? 3).map (λi=>(i.zero,i.size,i.bytes))=some (some (Z9 0),1,8):=by rfl
theorem nd(A:Nat->Addr)(B:Nat)(s:ByteArray)(w:World)(_:s.size<=16777216)(YN:E A B w)(hB:B<=w.heap.size):
  Calls prog 35 #[.string s] w (qU s w):=by
 have Xn:=bx YN;have azR:=bx YN;clear YN;refine(callsIn_wide (n:=9)).1 (callsIn_of_wp_marks func35 rfl trivial (wpIn_wide.2 ?_));simp only[ntmps35,My,U3,SK,Nat.reduceAdd,Nat.reduceSub,Mu,Mg,Og,Mo,RQ,SI];go_wp2_with (go_at_call 89;refine YW (arY _ _) ?_)
 have Z8:Zv (((w.alloc (.cells #[.string s,.nilIface] 152)).alloc (.cells #[Z1] 22)).alloc (.cells #[Zn (w.heap.size)] 148)) w.heap.size 152 #[.string s,.nilIface]:=((Zv.new w _ _).alloc _).alloc _;have YT:Zv (((w.alloc (.cells #[.string s,.nilIface] 152)).alloc (.cells #[Z1] 22)).alloc (.cells #[Zn (w.heap.size)] 148)) (w.heap.size+1) 22 #[Z1]:=by
  have:=(Zv.new (w.alloc (.cells #[.string s,.nilIface] 152)) 22 #[Z1]).alloc (.cells #[Zn (w.heap.size)] 148)
  simp_all
 have ZP:Zv (((w.alloc (.cells #[.string s,.nilIface] 152)).alloc (.cells #[Z1] 22)).alloc (.cells #[Zn (w.heap.size)] 148)) (w.heap.size+1+1) 148 #[Zn (w.heap.size)]:=by
  have:=Zv.new ((w.alloc (.cells #[.string s,.nilIface] 152)).alloc (.cells #[Z1] 22)) 148 #[Zn (w.heap.size)]
  simp_all
 have Vt:Z6 w (((w.alloc (.cells #[.string s,.nilIface] 152)).alloc (.cells #[Z1] 22)).alloc (.cells #[Zn (w.heap.size)] 148)):=
  ((YU.alloc Ys _).alloc (by simp) _).alloc (by simp;omega) _
 have W1:(((w.alloc (.cells #[.string s,.nilIface] 152)).alloc (.cells #[Z1] 22)).alloc (.cells #[Zn (w.heap.size)] 148)).heap.size=w.heap.size+3:=by simp
 generalize((w.alloc (.cells #[.string s,.nilIface] 152)).alloc (.cells #[Z1] 22)).alloc (.cells #[Zn (w.heap.size)] 148)=Xs at Z8 YT ZP Vt W1⊢;have A1:=Xn.o.below (Vt.mono hB);refine(wpIn_wide (n:=9)).1 (vh (α:=Int) (gf:=160) (lb:=#[Zn (w.heap.size+1+1)]) rfl (enters_of func160 (by rfl) rfl)
  (encs:=λx=>#[Z9 x]) (own:=λk=>k=w.heap.size) (keep:=λk=>k=w.heap.size\/k=w.heap.size+1+1\/k<B) (ok:=λZC _=>ZC.length<s.size) (S:=rC s A w.heap.size)
  (λk Z3=>by omega)
  (λYH ZM=>apO 7 A B w.heap.size (w.heap.size+1+1) s (by grind[maxLen]) _ YH (A1.below (ZM.below (by omega) (λ_ h=>h.elim))) hB (by omega) (by omega) (ZM.blk Z8 (λh=>h)) (ZM.blk ZP (λh=>h)))
  (λ_=>rfl)
  (λZC W=>(∃v,Zv W (w.heap.size+1) 22 #[v]/\W.ownsRow (Xs.heap.size+2) 3 1 v ZC.length (ZC.map (Value.int .i64)))/\Z6 w W)
  (λ_ _ _=>False) ?UW (λ_ _ _ _ h _=>h) ⟨⟨_,YT,World.ownsRow_nil _ _ _ _⟩,Vt⟩
  (λx a1 _=>a1={tmps:=#[.string s,undef,Z1,Z9 0,Zn (w.heap.size),Zn (w.heap.size+1),Z9 x,.string s,.agg #[.string s],.agg #[.string s,.nilIface],Zn (w.heap.size),Zn (w.heap.size),.func (.func 160) #[] #[Zn (w.heap.size+1+1)],Z9 x,undef,undef,undef,undef,undef,undef,undef,undef,undef,undef,undef,undef,undef,undef,undef],defers:=[]})
  (λ_ _ _ _ h _=>h) ?assign ?body ?done (λ_ _ _ _ h _=>h.elim) ?hS)
 case UW=>
  rintro ZC W W' ⟨⟨v,Z2,ZT⟩,Km⟩ ZM;refine⟨⟨v,ZM.blk Z2 (by omega),ZM.row ZT (λk Z3=>by have:=(ZT.lt k Z3).1;omega)⟩,Km.trans (ZM.below Km.size (λk Z3=>by omega))⟩
 case assign=>
  intro x W K _ Xc
  gi_wp2
  exact Xc _ _ (Turns.refl _ _) rfl
 case hS=>
  rintro xs W W' (⟨Z7,s',Z5⟩|⟨Z7,s',Z5⟩) ZM
  ·exact .inl ⟨Z7,s',ZM.blk Z5 (by omega)⟩
  exact .inr ⟨Z7,s',ZM.blk Z5 (by omega)⟩
 case body=>
  rintro ZC x a1 W Yj ⟨⟨v,Z2,ZT⟩,Km⟩ Ty rfl;obtain⟨i0,hi,Vs,Up,Vf⟩:=info_parts lP;have ZL:=Z2.q0;have Yz:=Z2.frozen 0;have ZN:=bx Z2;have Zu:=Z2.lt;have aAr:=Km.size;clear Z2;have Rw:v.ownBlock≠some (w.heap.size+1):=λe=>by have:=(ZT.lt _ e).1;omega
  have Q7:=bx Rw;have Wy:=bx W1;clear Rw W1 A1 Vt Z8 YT ZP
  gi_wp2_with (gi_at_builtin;refine wpListIn_append_own _ rfl _ _ 22 rfl (Xs.heap.size+2) 3 i0 (Z9 0) 1 8 underlying22 hi Vs Up Vf rfl (by decide) _ _ _ rfl (ZT.alloc _) ⟨W.heap.size,0,none⟩ 1 1 [Z9 x] rfl rfl (cell_one_new _ _ _) (by simp[Value.oneCell']) (by grind[maxLen]) (by omega) (by simp;omega) ?_;intro Zy ZV Tf UN _;obtain⟨Ui,cap',rfl⟩:=ownsRow_succ Tf;have WV:=(ZN.o.alloc _).grown UN (Ne.symm Q7.o);have W2:=WV.cell 0;have MH:=WV.frozen 0;simp at W2)
  have Uf:=λk(Z3:v.ownBlock=some k)=>ZT.lt k Z3
  have Yo:Turns (λk=>v.ownBlock=some k\/k=w.heap.size+1) W (ZV.setCell ⟨w.heap.size+1,0,none⟩ (.slice (some ⟨Ui,0,none⟩) (ZC.length+1) cap')):=
   ((Turns.alloc W _).trans (Turns.anR UN (λk Z3=>.inl Z3))).trans (Turns.setCell _ (.inr rfl) _)
  have ZY:=Wy.o;have K6:=(Tf.lt Ui rfl).1;have LD:=Q7.o;refine⟨Holds.cA Yo (λk Z3=>by omega) (λk Z3 h=>?_),⟨_,WV.ai 0 _,?_⟩,Km.trans (Yo.below Km.size (λk Z3=>?_))⟩
  ·grind
  ·have:=(Turns.setCell (own:=λk=>k=w.heap.size+1) ZV (p:=⟨w.heap.size+1,0,none⟩) rfl (.slice (some ⟨Ui,0,none⟩) (ZC.length+1) cap')).row Tf (λk Z3=>by grind[Value.ownBlock])
   grind
  grind
 case done=>
  intro xs W Yj hS ⟨⟨v,Z2,ZT⟩,Km⟩ XU;have ZN:=bx Z2;have ZL:=Z2.q0;have ZK:=bx ZT;have Xf:=bx XU;have Wy:=bx W1;clear ZT XU W1 Z2 A1 Vt Z8 YT ZP
  rcases hS with⟨Z7,s',Z5⟩|⟨Z7,s',Z5⟩
  ·have Zq:=Z5.q1;have Xe:=bx Z7;clear Z7 Z5;go_wp2_with fail;refine⟨by simp,.inl ⟨_,_,rfl,run_takeDeferred Xf.o,?_⟩⟩;refine⟨_,results_tmp2 rfl _ _ _,?_⟩;have ZY:=Wy.o;unfold qU;rw[Xe.o];refine⟨Km.trans ((Turns.putObj (own:=λk=>k=Xs.heap.size) W rfl _).below Km.size (λk Z3=>by omega)),v,rfl,?_⟩;have ZT:=(Turns.putObj (own:=λk=>k=Xs.heap.size) W rfl (.deferred none)).row ZK.o (λk Z3=>by have:=(ZK.o.lt k Z3).1;omega);exact aoo ZT (by omega)
  have Zq:=Z5.q1;unfold PE at Zq;have Xe:=bx Z7;have Y8:=bx (aoO A B W (Xn.o.below (Km.mono hB)));clear Z7 Z5;go_wp2_with (go_at_call 90;refine YW Y8.o ?_)
  refine⟨by simp,.inl ⟨_,_,rfl,run_takeDeferred Xf.o,?_⟩⟩;refine⟨_,results_tmp2 rfl _ _ _,?_⟩;have ZY:=Wy.o;unfold qU;rw[Xe.o];exact⟨Km.trans ((Turns.putObj (own:=λk=>k=Xs.heap.size) W rfl _).below Km.size (λk Z3=>by omega)),rfl⟩
theorem alH(A:Nat->Addr)(B:Nat)(s:ByteArray)(w:World)(Z0:s.size<=16777216)(YN:E A B w)(hB:B<=w.heap.size):
  Calls prog 32 #[.string s] w λe w'=>e=.returned (.bool (U.valid s.data.toList))/\Z6 w w':=by
 have Xe:=bx (nd A B s w Z0 YN hB);clear YN
 go_in
 go_wp2_with fail;refine Xe.o.mono ?_;rintro e w' ⟨Z8,hp⟩
 cases Zm:U.scalars s.data.toList with
 |none=>
  rw[Zm]at hp;obtain rfl:=hp;have ZN:=bx (show U.valid s.data.toList=false by grind[U.valid]);clear Zm
  go_wp2
  go_ret
  exact⟨by rw[ZN.o];rfl,Z8⟩
 |some xs=>
  rw[Zm]at hp;obtain⟨v,rfl,_⟩:=hp;have ZN:=bx (show U.valid s.data.toList=true by grind[U.valid]);clear Zm
  go_wp2
  go_ret
  exact⟨by rw[ZN.o];rfl,Z8⟩
end
theorem abo{l:List UInt8}(h:U.dec l=none):Of l=.tuple #[Z9 0,Z9 0,.bool false]:=by unfold Of;rw[h];rfl
theorem nJ{l:List UInt8}{r:Int}{n:Nat}(h:U.dec l=some (r,n)):Of l=.tuple #[Z9 r,Z9 n,.bool true]:=by unfold Of;rw[h];rfl
def hit(p t:List UInt8):Bool:=match U.dec (p++t)with|some (_,n)=>n==p.length+t.length|none=>false
theorem am9(p:List UInt8):M.dt p=(hit p [128]||hit p [128,128]):=rfl
theorem acS(p t:List UInt8):(hit p t=false/\Of (p++t)=.tuple #[Z9 0,Z9 0,.bool false])\/(∃(r:Int)(n:Nat),hit p t=false/\Of (p++t)=.tuple #[Z9 r,Z9 n,.bool true]/\((n:Int)==(p.length:Int)+(t.length:Int))=false)\/
  (∃(r:Int),hit p t=true/\Of (p++t)=.tuple #[Z9 r,Z9 ((p.length+t.length:Nat):Int),.bool true]):=by
 cases h:U.dec (p++t)with
 |none=>exact .inl ⟨by grind[hit],abo h⟩
 |some q=>
  obtain⟨r,n⟩:=q
  by_cases ZP:n=p.length+t.length
  ·subst ZP;exact .inr (.inr ⟨r,by grind[hit],nJ h⟩)
  exact .inr (.inl ⟨r,n,by grind[hit],nJ h,by grind⟩)
theorem acf(s t:ByteArray):(s++t).data.toList=s.data.toList++t.data.toList:=by
 rfl
theorem abx(s t:ByteArray):(s++t).size=s.size+t.size:=ByteArray.size_append
theorem adO(A:Nat->Addr)(B:Nat)(s:ByteArray)(w:World)(_:s.size<=16777216)(YN:E A B w)(hB:B<=w.heap.size):
  Calls prog 235 #[.string s] w λe w'=>e=.returned (.bool (M.dt s.data.toList))/\Z6 w w':=by
 have Yn:=(Below.refl w.heap.size w).alloc Ys (.cells #[.string ⟨#[128]⟩,.string ⟨#[128,128]⟩] 9);have Xn:=bx (YN.below (Yn.mono hB));have ZR:=bx Yn;have Wy:=bx (size_eq s);have WH:=bx (Zv.new w 9 #[.string ⟨#[128]⟩,.string ⟨#[128,128]⟩]);rw[am9];clear YN Yn
 go_in
 go_wp2_with fail;refine wp_loop_rounds 3 ?_;rw[rounds_succ];go_wp2_with fail;refine(rM A B _ _ ?_ Xn.o (XJ hB ZR.o.size)).mono ?_
 ·rw[abx];show s.size+1<=maxLen;grind[maxLen]
 rintro e ZV ⟨rfl,ZZ⟩;rw[acf,show(⟨#[128]⟩:ByteArray).data.toList=[128]from rfl];have ZW:=Zw ZR ZZ;have Pu:=bx (Xn.o.below (ZZ.mono (XJ hB ZR.o.size)));have Hy:=WH.o.below ZZ WH.o.lt;have c1:=Hy.q1;clear ZZ Hy;have H1:=bx (acS s.data.toList [128]);have U5:=bx (acS s.data.toList [128,128])
 rcases H1.o with⟨Z7,Z5⟩|⟨r,n,Z7,Z5,ZS⟩|⟨r,Z7,Z5⟩
 case inr.inr=>
  have ZN:=bx Z5;have Q2:=bx Z7;have t1:(((s.data.toList.length+1:Nat):Int)==(s.size:Int)+1)=true:=by simp
  rw[Z5];clear Z7 Z5 H1 U5
  go_wp2
  go_ret
  exact⟨by rw[Q2.o];rfl,ZW.o⟩
 all_goals
  have pc:=bx Z7;rw[Z5]
  first|(have t1:((n:Int)==(s.size:Int)+1)=false:=by simp_all)|skip
  clear Z7 Z5 H1
  try clear ZS
  go_wp2_with fail;rw[rounds_succ];go_wp2_with fail;refine(rM A B _ _ ?_ Pu.o (XJ hB ZW.o.size)).mono ?_
  ·rw[abx];show s.size+2<=maxLen;grind[maxLen]
  rintro e ZB ⟨rfl,Zz⟩;rw[acf,show(⟨#[128,128]⟩:ByteArray).data.toList=[128,128]from rfl];have Zt:=Zw ZW Zz;clear Zz c1
  rcases U5.o with⟨Zx,Zr⟩|⟨axY,n',Zx,Zr,Zk⟩|⟨axY,Zx,Zr⟩
  ·have wU:=bx Zx;rw[Zr];clear Zx Zr U5;go_wp2_with fail;rw[rounds_succ]
   go_wp2
   go_ret
   exact⟨by rw[pc.o,wU.o];rfl,Zt.o⟩
  ·have wU:=bx Zx;have t2:((n':Int)==(s.size:Int)+2)=false:=by simp_all
   rw[Zr];clear Zx Zr Zk U5;go_wp2_with fail;rw[rounds_succ]
   go_wp2
   go_ret
   exact⟨by rw[pc.o,wU.o];rfl,Zt.o⟩
  have wU:=bx Zx;have t2:(((s.data.toList.length+2:Nat):Int)==(s.size:Int)+2)=true:=by simp
  rw[Zr];clear Zx Zr U5
  go_wp2
  go_ret
  exact⟨by rw[pc.o,wU.o];rfl,Zt.o⟩
def B3(l:List UInt8):Value:=.agg #[Z9 ((M.unit l).1:Int),.bool (M.unit l).2]
theorem al3(s:ByteArray)(a:Nat):(s.extract a s.size).data.toList=s.data.toList.drop a:=Lib.extract_to_end s a
theorem apg(s:ByteArray)(a:Nat):(s.extract a s.size).size=s.size-a:=by
 simp
theorem ajD(A:Nat->Addr)(B:Nat)(tb:Nat)(s:ByteArray)(a:Nat)(w:World)(ZM:w.cell? ⟨tb,0,none⟩=some (.string s))(_:a<=s.size)(Z0:s.size<=16777216)(YN:E A B w)(hB:B<=w.heap.size):
  Calls prog 153 #[Zn tb,Z9 a] w λe w'=>e=.returned (B3 (s.data.toList.drop a))/\Z6 w w':=by
 have BB:=World.block_lt_of_cell? w _ ZM;obtain⟨X,TM⟩:∃X,X=s.extract a s.size:=⟨_,rfl⟩
 have Fy:X.data.toList=s.data.toList.drop a:=by rw[TM];exact al3 s a
 have ym:X.size<=16777216:=by grind[apg]
 have YD:=bx TM;rw[<-Fy];have Yn:=((Below.refl w.heap.size w).alloc Ys (.cells #[Z9 0,.bool false] 138)).alloc (by simp) (.cells #[Z9 1,.bool false] 138);have Xn:=bx (YN.below (Yn.mono hB));have ZR:=bx Yn;have WH:=bx ((Zv.new w 138 #[Z9 0,.bool false]).alloc (.cells #[Z9 1,.bool false] 138));have aa3:=bx (show Zv ((w.alloc (.cells #[Z9 0,.bool false] 138)).alloc (.cells #[Z9 1,.bool false] 138)) (w.heap.size+1) 138 #[Z9 1,.bool false] by
  have:=Zv.new (w.alloc (.cells #[Z9 0,.bool false] 138)) 138 #[Z9 1,.bool false]
  simp_all)
 clear YN Yn TM Fy Z0
 cases hl:X.data.toList with
 |nil=>
  have ZY:=isEmpty_nil hl;rw[YD.o]at ZY;have Me:=bx (show B3 X.data.toList=.agg #[Z9 0,.bool false] by rw[hl];rfl);rw[<-hl];clear hl
  go_in
  go_wp2_with fail;refine Nr 0 rfl ?_;go_wp2_with fail;rw[Jq];exact bodyPost_ret (v:=.agg #[Z9 0,.bool false]) (by simp[results,results153,go_sem]) rfl ⟨by rw[Me.o],ZR.o⟩
 |cons c t=>
  have ZY:=isEmpty_cons hl;rw[YD.o]at ZY;have W4:=bx hl;rw[<-hl];clear hl;have Xf:=bx (rM A B X _ (by grind[maxLen]) Xn.o (XJ hB ZR.o.size))
  go_in
  go_wp2_with fail;refine Nr 0 rfl ?_;go_wp2_with fail;rw[<-YD.o];refine Y3 Xf.o λZV ZZ=>?_
  have ZW:=Zw ZR ZZ;have Pu:=bx (Xn.o.below (ZZ.mono (XJ hB ZR.o.size)));have XY:=WH.o.below ZZ WH.o.lt;have lG:=aa3.o.below ZZ aa3.o.lt;clear ZZ ZY
  cases Zm:U.dec X.data.toList with
  |some q=>
   obtain⟨r,n⟩:=q;rw[nJ Zm];have Me:=bx (show B3 X.data.toList=.agg #[Z9 n,.bool true] by unfold B3;rw[M.ek Zm]);have YV:=XY.q0;have c1:=XY.q1;have f0:=XY.frozen 0;have f1:=XY.frozen 1;clear Zm lG;have QJ:=(XY.ai 0 (Z9 n)).ai 1 (.bool true);have MV:=(ZW.o.setCell (p:=⟨w.heap.size,0,none⟩) Ys (Z9 n)).setCell (p:=⟨w.heap.size,1,none⟩) Ys (.bool true);have nZ:=bx QJ;have awj:=bx MV;clear QJ MV XY;go_wp2_with fail;rw[Jq];have QJ:=nZ.o;have MV:=awj.o;generalize(ZV.setCell ⟨w.heap.size,0,none⟩ (Z9 n)).setCell ⟨w.heap.size,1,none⟩ (.bool true)=UF at QJ MV⊢;have d0:=QJ.q0;have d1:=QJ.q1;exact bodyPost_ret (v:=.agg #[Z9 n,.bool true]) (by simp[results,results153,go_sem,d0,d1]) rfl ⟨by rw[Me.o],MV⟩
  |none=>
   rw[abo Zm];have B0:=bx (show B3 X.data.toList=.agg #[Z9 (M.aZ X.data.toList),.bool false] by grind[B3,M.ez]);clear Zm;have Ze:=bx XY;have NM:=bx lG;have Ux:=ZW;have Wg:=bx (size_eq X);clear XY lG
   cases ht':t with
   |nil=>
    have XW:=bx (show M.aZ X.data.toList=1 by rw[W4.o,ht'];rfl);have t2:decide ((2:Int)<=(X.size:Int))=false:=by rw[Wg.o,W4.o,ht'];rfl
    clear ht';have YV:=Ze.o.q0;have c1:=Ze.o.q1;have Zd:=NM.o.q0;have Zx:=NM.o.q1;have f0:=Ze.o.frozen 0;have f1:=Ze.o.frozen 1;go_wp2_with fail;refine wp_loop_rounds 1 ?_;rw[rounds_succ];go_wp2_with fail
    go_step3
    go_wp2_with fail;rw[Jq];have QJ:=(Ze.o.ai 0 (Z9 1)).ai 1 (.bool false);have MV:=(Ux.o.setCell (p:=⟨w.heap.size,0,none⟩) Ys (Z9 1)).setCell (p:=⟨w.heap.size,1,none⟩) Ys (.bool false);generalize(ZV.setCell ⟨w.heap.size,0,none⟩ (Z9 1)).setCell ⟨w.heap.size,1,none⟩ (.bool false)=UF at QJ MV⊢;have d0:=QJ.q0;have d1:=QJ.q1;exact bodyPost_ret (v:=.agg #[Z9 1,.bool false]) (by simp[results,results153,go_sem,d0,d1]) rfl ⟨by rw[B0.o,XW.o];rfl,MV⟩
   |cons d TI=>
    have Kj:X.data.toList=c::d::TI:=by rw[W4.o,ht']
    have axp:2<=X.size:=by rw[Wg.o,Kj];simp
    have UI:=bx Kj;have Il:(X.extract 0 2).data.toList=[c,d]:=by simp_all
    have alU:(X.extract 0 2).size=2:=by simp_all
    have yv:=bx (adO A B (X.extract 0 2) ZV (by omega) Pu.o (XJ hB ZW.o.size));rw[Il,M.asH]at yv;clear Il alU Kj ht'
    cases Zz:(decide (2<=U.af (U.aa c))&&M.rng c d)with
    |false=>
     have XW:=bx (show M.aZ X.data.toList=1 by rw[UI.o];exact M.fg _ Zz);rw[Zz]at yv;clear Zz;go_wp2_with fail;refine wp_loop_rounds 3 ?_;rw[rounds_succ];go_wp2_with fail;refine Y3 yv.o λZB Zb=>?_
     have Ze:=Ze.ub Zb;have NM:=NM.ub Zb;have Ux:=Zw ZW Zb;clear Zb;have YV:=Ze.o.q0;have c1:=Ze.o.q1;have Zd:=NM.o.q0;have Zx:=NM.o.q1;have f0:=Ze.o.frozen 0;have f1:=Ze.o.frozen 1;go_wp2_with fail
     go_step3
     refine⟨rfl,?_⟩;go_wp2_with fail;rw[Exit.noGoto_ret];have QJ:=(Ze.o.ai 0 (Z9 1)).ai 1 (.bool false);have MV:=(Ux.o.setCell (p:=⟨w.heap.size,0,none⟩) Ys (Z9 1)).setCell (p:=⟨w.heap.size,1,none⟩) Ys (.bool false);generalize(ZB.setCell ⟨w.heap.size,0,none⟩ (Z9 1)).setCell ⟨w.heap.size,1,none⟩ (.bool false)=UF at QJ MV⊢;have d0:=QJ.q0;have d1:=QJ.q1;exact bodyPost_ret (v:=.agg #[Z9 1,.bool false]) (by simp[results,results153,go_sem,d0,d1]) rfl ⟨by rw[B0.o,XW.o];rfl,MV⟩
    |true=>
     rw[Zz]at yv;have sa:=bx Zz;clear Zz;go_wp2_with fail;refine wp_loop_rounds 3 ?_;rw[rounds_succ];go_wp2_with fail;refine Y3 yv.o λZB Zb=>?_
     have CJ:=bx (Pu.o.below (Zb.mono (XJ hB ZW.o.size)));have C6:=NM.o.below Zb NM.o.lt;have p0:=C6.q0;have p1:=C6.frozen 0;have Ze:=bx ((Ze.o.below Zb Ze.o.lt).far (p:=⟨w.heap.size+1,0,none⟩) (by simp) (Z9 2));have NM:=bx (C6.ai 0 (Z9 2));have na:=bt ZW.o Zb;have Ux:=bx (na.setCell (p:=⟨w.heap.size+1,0,none⟩) (by simp) (Z9 2));have sd:=bx (CJ.o.below (((Below.refl B ZB).setCell (p:=⟨w.heap.size+1,0,none⟩) (by grind) (Z9 2))));have Xb:=bx (show(ZB.setCell ⟨w.heap.size+1,0,none⟩ (Z9 2)).heap.size=ZB.heap.size by simp);have YA:=bx (XJ hB na.size);clear Zb na C6;go_wp2_with fail;generalize ZB.setCell ⟨w.heap.size+1,0,none⟩ (Z9 2)=Zh at Ze NM Ux sd Xb⊢;clear p0 p1;rw[rounds_succ]
     cases Nd:TI with
     |nil=>
      have XW:=bx (show M.aZ X.data.toList=2 by rw[UI.o,Nd];exact M.gj sa.o);have t3:decide ((3:Int)<=(X.size:Int))=false:=by rw[Wg.o,UI.o,Nd];rfl
      clear Nd;have YV:=Ze.o.q0;have c1:=Ze.o.q1;have Zd:=NM.o.q0;have Zx:=NM.o.q1;have f0:=Ze.o.frozen 0;have f1:=Ze.o.frozen 1;go_wp2_with fail
      go_step3
      go_wp2_with fail;rw[Jq];have QJ:=(Ze.o.ai 0 (Z9 2)).ai 1 (.bool false);have MV:=(Ux.o.setCell (p:=⟨w.heap.size,0,none⟩) Ys (Z9 2)).setCell (p:=⟨w.heap.size,1,none⟩) Ys (.bool false);generalize(Zh.setCell ⟨w.heap.size,0,none⟩ (Z9 2)).setCell ⟨w.heap.size,1,none⟩ (.bool false)=UF at QJ MV⊢;have d0:=QJ.q0;have d1:=QJ.q1;exact bodyPost_ret (v:=.agg #[Z9 2,.bool false]) (by simp[results,results153,go_sem,d0,d1]) rfl ⟨by rw[B0.o,XW.o];rfl,MV⟩
     |cons R8 t2=>
      have Dh:X.data.toList=c::d::R8::t2:=by rw[UI.o,Nd]
      have tG:3<=X.size:=by rw[Wg.o,Dh];simp
      have Ro:=bx Dh;have L7:(X.extract 0 3).data.toList=[c,d,R8]:=by simp_all
      have al5:(X.extract 0 3).size=3:=by simp_all
      have yU:=bx (adO A B (X.extract 0 3) Zh (by omega) sd.o (by rw[Xb.o];exact YA.o));rw[L7,M.ajt]at yU;clear L7 al5 Dh Nd axp;have wE:=bx (show M.rng c d=true by have:=sa.o;grind);rw[wE.o,Bool.and_true]at yU
      cases X0:(decide (U.af (U.aa c)=3)&&U.aM R8)with
      |false=>
       have XW:=bx (show M.aZ X.data.toList=2 by rw[Ro.o];exact M.aao _ sa.o X0);rw[X0]at yU;clear X0;go_wp2_with fail;refine Y3 yU.o λYL Sy=>?_
       have Ux:=Zw Ux Sy;have Ze:=Ze.ub Sy;have NM:=NM.ub Sy;clear Sy;have YV:=Ze.o.q0;have c1:=Ze.o.q1;have Zd:=NM.o.q0;have Zx:=NM.o.q1;have f0:=Ze.o.frozen 0;have f1:=Ze.o.frozen 1;go_wp2_with fail
       go_step3
       refine⟨rfl,?_⟩;go_wp2_with fail;rw[Exit.noGoto_ret];have QJ:=(Ze.o.ai 0 (Z9 2)).ai 1 (.bool false);have MV:=(Ux.o.setCell (p:=⟨w.heap.size,0,none⟩) Ys (Z9 2)).setCell (p:=⟨w.heap.size,1,none⟩) Ys (.bool false);generalize(YL.setCell ⟨w.heap.size,0,none⟩ (Z9 2)).setCell ⟨w.heap.size,1,none⟩ (.bool false)=UF at QJ MV⊢;have d0:=QJ.q0;have d1:=QJ.q1;exact bodyPost_ret (v:=.agg #[Z9 2,.bool false]) (by simp[results,results153,go_sem,d0,d1]) rfl ⟨by rw[B0.o,XW.o];rfl,MV⟩
      |true=>
       have XW:=bx (show M.aZ X.data.toList=3 by rw[Ro.o];exact M.ad5 _ sa.o X0);rw[X0]at yU;clear X0;go_wp2_with fail;refine Y3 yU.o λYL Sy=>?_
       have hz:=bt Ux.o Sy;have C6:=NM.o.below Sy NM.o.lt;have p0:=C6.q0;have p1:=C6.frozen 0;have Ze:=bx ((Ze.o.below Sy Ze.o.lt).far (p:=⟨w.heap.size+1,0,none⟩) (by simp) (Z9 3));have NM:=bx (C6.ai 0 (Z9 3));have Ux:=bx (hz.setCell (p:=⟨w.heap.size+1,0,none⟩) (by simp) (Z9 3));clear Sy hz C6;go_wp2_with fail;generalize YL.setCell ⟨w.heap.size+1,0,none⟩ (Z9 3)=YK at Ze NM Ux⊢;clear p0 p1;rw[rounds_succ];have YV:=Ze.o.q0;have c1:=Ze.o.q1;have Zd:=NM.o.q0;have Zx:=NM.o.q1;have f0:=Ze.o.frozen 0;have f1:=Ze.o.frozen 1;go_wp2_with fail
       go_step3
       go_wp2_with fail;rw[Jq];have QJ:=(Ze.o.ai 0 (Z9 3)).ai 1 (.bool false);have MV:=(Ux.o.setCell (p:=⟨w.heap.size,0,none⟩) Ys (Z9 3)).setCell (p:=⟨w.heap.size,1,none⟩) Ys (.bool false);generalize(YK.setCell ⟨w.heap.size,0,none⟩ (Z9 3)).setCell ⟨w.heap.size,1,none⟩ (.bool false)=UF at QJ MV⊢;have d0:=QJ.q0;have d1:=QJ.q1;exact bodyPost_ret (v:=.agg #[Z9 3,.bool false]) (by simp[results,results153,go_sem,d0,d1]) rfl ⟨by rw[B0.o,XW.o];rfl,MV⟩
def ae5{α:Type}(n:Nat)(P:Program)(gf:Nat)(lb:Array Value)(encs:α->Array Value)(own keep:Nat->Prop)(ok:List α->α->Prop)(S:List α->World->Prop)(l:Nat)(YH:World):Prop:=
 ∀(J PL:List α->World->Prop),(∀ZC W W',J ZC W->Turns own W W'->J ZC W')->(∀ZC W W',PL ZC W->Turns own W W'->PL ZC W')->
  (∀ZC x W0 W,J ZC W0->Turns own W0 W->ok ZC x->YieldAt Fence.wide (n-1) P l (encs x) W λe W'=>(e=.returned (.bool true)/\J (ZC++[x]) W'/\Holds (λk=>keep k\/(W0.heap.size<=k/\k<W.heap.size)) W W')\/(e=.returned (.bool false)/\PL (ZC++[x]) W'))->
  J [] YH->CallsIn Fence.wide n P gf (#[.func (.yield l) #[] #[]]++lb) YH λe W'=>(∃v,e=.returned v)/\((∃xs,S xs W'/\J xs W')\/(∃ZC,PL ZC W'))
theorem aud{α:Type}{P:Program}{n:Nat}{g:Operand}{ps:Array Tmp}{assign body:Code}{Q:Exit->Act->World->Prop}{a:Act}{w:World}{gf:Nat}{lb:Array Value}(ZH:a.eval g=.func (.func gf) #[] lb)(Gd:∀args w,(callFunc gf args).run P w=.ok (.enter gf args) w){encs:α->Array Value}{own keep:Nat->Prop}{ok:List α->α->Prop}{S:List α->World->Prop}(Wo:∀k,own k\/keep k->k<w.heap.size)(hit:∀YH,Turns (λ_=>False) w YH->ae5 (n-1) P gf lb encs own keep ok S (w.heap.size+1) YH)(LC:∀x,(encs x).size=ps.size)(I:List α->World->Prop)(Tb:Code->List α->World->Prop)(UW:∀ZC W W',I ZC W->Turns (λk=>own k\/k=w.heap.size+1) W W'->I ZC W')(Kk:∀c ZC W W',Tb c ZC W->Turns (λk=>own k\/k=w.heap.size+1) W W'->Tb c ZC W')(ZI:I [] w)(P9:α->Act->World->Prop)(Gc:∀x a1 W W',P9 x a1 W->Turns (λk=>k=w.heap.size+1) W W'->P9 x a1 W')(Df:∀(x:α)(W:World)(K:Act->World->Prop),w.heap.size+2<=W.heap.size->(∀a1 YH,Turns (λ_=>False) W YH->P9 x a1 YH->K a1 YH)->
   assign.wpIn (Fence.wide.inRound (w.heap.size+1)) (n-1-1) P (Exit.then K (λ_ _ _=>False)) {tmps:=(ps.zip (encs x)).foldl (λt (p,v)=>t.setIfInBounds p v) a.tmps,defers:=[]} W)(De:∀(ZC:List α)(x:α)(a1:Act)(W0 W:World)(N:Nat),w.heap.size+2<=W0.heap.size->I ZC W0->Turns (λk=>own k\/k=w.heap.size+1) W0 W->N<=W.heap.size->ok ZC x->P9 x a1 W->
   body.wpIn (Fence.wide.inRound (w.heap.size+1)) (n-1-1) P (abJ (λk=>keep k\/(W0.heap.size<=k/\k<N)) I Tb (w.heap.size+1) w.heap.size (ZC++[x]) W) a1 W)(hdone:∀(xs:List α)(W:World),w.heap.size+2<=W.heap.size->S xs W->I xs W->W.heap[w.heap.size]?=some (.deferred (some []))->Q .normal {a with defers:={target:=.collected w.heap.size,args:=#[]}::a.defers} W)(hstop:∀(c:Code)(ZC:List α)(W:World),w.heap.size+2<=W.heap.size->Tb c ZC W->W.heap[w.heap.size]?=some (.deferred (some []))->c.wpIn Fence.wide n P Q {a with defers:={target:=.collected w.heap.size,args:=#[]}::a.defers} W)(hS:∀xs W W',S xs W->Turns (λk=>k=w.heap.size+1) W W'->S xs W'):
  (Code.rangeFunc g ps assign body).wpIn Fence.wide n P Q a w:=by
 have ZP:=λk h=>Wo k (.inl h)
 refine qA ZH Gd LC P9 Gc Df (λW=>∃xs,S xs W/\I xs W) (λc W=>∃ZC,Tb c ZC W) (λro Ex YH ZM _ WE VX=>?_)
  (λUF W ZY ⟨xs,Z7,Z5⟩ ZM Z3=>hdone xs W ZY (hS _ _ _ Z7 ZM) (UW _ _ _ Z5 (ZM.mono λ_=>.inr)) Z3) (λc UF W ZY ⟨ZC,h⟩ ZM Z3=>hstop c ZC W ZY (Kk _ _ _ _ h (ZM.mono λ_=>.inr)) Z3)
 refine(hit YH ZM (λZC W=>I ZC W/\Lp ro w.heap.size W) (λZC W=>∃c,Tb c ZC W/\Lp (Ex c) w.heap.size W) ?_ ?_ ?_ ⟨UW _ _ _ ZI (ZM.mono λ_ h=>h.elim),WE⟩).mono ?_
 ·rintro ZC W W' ⟨hi,hl⟩ ZM;exact⟨UW _ _ _ hi (ZM.mono λ_=>.inl),hl.turns ZM ZP⟩
 ·rintro ZC W W' ⟨c,hi,hl⟩ ZM;exact⟨c,Kk _ _ _ _ hi (ZM.mono λ_=>.inl),hl.turns ZM ZP⟩
 ·rintro ZC x W0 W ⟨hi,LH⟩ MC YB;have hl:=LH.turns MC ZP;have z0:=LH.lt;have UB:=hl.lt;refine(VX x W (λSZ XE=>Holds (λk=>(keep k\/(W0.heap.size<=k/\k<W.heap.size))\/k=w.heap.size+1\/k=w.heap.size) SZ XE/\I (ZC++[x]) XE) (λc XE=>Tb c (ZC++[x]) XE) hl (λa1 SZ Z8 YZ=>wpIn_mono (De ZC x a1 W0 SZ W.heap.size z0 hi ((MC.mono λ_=>.inl).trans (Z8.mono λ_=>.inr)) Z8.size YB YZ) λe _ _ hp=>by cases e <;> exact hp) (λ_ _ _ h=>h.1.mono λ_ h=>.inr h)).mono ?_;rintro e W' (⟨rfl,K5,SZ,XE,Z8,⟨Uy,L9⟩,Uq⟩|⟨rfl,c,XE,K5,Z4,Uq⟩)
  ·refine .inl ⟨rfl,⟨UW _ _ _ L9 (Uq.mono λ_=>.inr),K5⟩,?_⟩;refine⟨by have:=Z8.size;have:=Uy.size;have:=Uq.size;omega,λk YT=>?_⟩;have pL:k≠w.heap.size+1/\k<W.heap.size:=by
    grind
   have:=Z8.size;have:=Uy.size;rw[Uq.block k (by omega) pL.1,Uy.block k (.inl YT),Z8.block k pL.2 pL.1]
  exact .inr ⟨rfl,c,Kk _ _ _ _ Z4 (Uq.mono λ_=>.inr),K5⟩
 grind
section
open Go.Shelf
attribute[local go_sem] Oper.semAt_some
def qY(x:M.Place):Array Value:=#[Z9 (x.1:Int),.agg #[Z9 (x.2.1:Int),.bool x.2.2]]
def rQ(l:List UInt8)(ZC:List M.Place)(x:M.Place):Prop:=∃t,ZC++x::t=M.places l
theorem ajH(p:Option Addr)(w:World):
  Calls prog 83 #[.pointer p] w λe w'=>e=.returned (.func (.func 152) #[] #[Zn (w.heap.size)])/\w.alloc (.cells #[.pointer p] 131)=w':=by
 go_in
 go_wp2
 go_ret
 simp
theorem ani(n:Nat)(A:Nat->Addr)(B b IJ:Nat)(s:ByteArray)(Z0:s.size<=16777216)(l:Nat)(YH:World)(YN:E A B YH)(_:B<=b)(Z8:Zv YH b 135 #[.string s])(p5:Zv YH IJ 131 #[Zn b]):
  ae5 (n+1) prog 152 #[Zn IJ] qY (λ_=>False) (λk=>k=b\/k=IJ\/k<B) (rQ s.data.toList) (λxs _=>xs=M.places s.data.toList) l YH:=by
 intro J PL Pj Gb VX ZI;have Wn:=bx VX;have TE:=bx Pj;clear VX Pj;have Wy:=bx (size_eq s);refine callsIn_of_wp func152 rfl trivial ?_;simp only[ntmps152,My,U3,SK,Nat.reduceAdd,Nat.reduceSub,Mu,Mg,Og,Mo,RQ,SI]
 gi_wp2
 refine wpIn_wide.2 (wp_scope_straight ((wpIn_wide (n:=n+1)).1 ?_))
 gi_wp2
 refine wpIn_label ?_
 gi_wp2
 gi_loopw [3] (λv wr=>∃(a:Nat)(ZC:List M.Place),a<=s.size/\v=Z9 a/\Box (ZC++M.rest s.data.toList a=M.places s.data.toList)/\Box (E A B wr)/\Box (Zv wr b 135 #[.string s])/\Box (Zv wr IJ 131 #[Zn b])/\Box (J ZC wr))
  (λv _=>s.size-(intOf v).toNat)
 ·exact⟨0,[],by omega,rfl,⟨by rfl⟩,⟨YN⟩,⟨Z8⟩,⟨p5⟩,⟨ZI⟩⟩
 obtain⟨a,ZC,YZ,rfl,hp,Di,Xk,yp,YO⟩:=hrel;have YV:=Xk.o.q0;have c1:=yp.o.q0;clear YN Z8 p5 ZI
 by_cases Zu:a<s.size
 ·have WO:=bx ((callsIn_wide (n:=n)).2 (ajD A B b s a wr YV YZ Z0 Di.o (by have:=Xk.o.lt;omega)));have Uf:a<s.data.toList.length:=by simp_all
  obtain⟨m,o,hu⟩:∃m o,M.unit (s.data.toList.drop a)=(m,o):=⟨_,_,rfl⟩
  have Hc:=M.dD Uf;have C4:=M.cM s.data.toList a Uf;rw[hu]at Hc C4;simp only at Hc C4;have Me:=bx (show B3 (s.data.toList.drop a)=.agg #[Z9 m,.bool o] by grind[B3]);have WI:=bx (show ZC++(a,m,o)::M.rest s.data.toList (a+m)=M.places s.data.toList by rw[<-C4];exact hp.o);have kz:a+m<=s.size:=by simp_all
  have Pg:=Hc.1;have aw6:=Hc.2.1;clear Uf hu Hc C4
  gi_wp2
  refine⟨trivial,WO.o.mono ?_⟩;rintro e ZV ⟨rfl,ZZ⟩;rw[Me.o];have F8:Turns (λ_=>False) wr (ZV.alloc (.cells #[Z9 m,.bool o] 138)):=(Turns.of_below ZZ).trans (Turns.alloc _ _);have NI:=bx F8;have ZJ:=Wn.o ZC (a,m,o) wr _ YO.o F8 ⟨_,WI.o⟩;unfold qY at ZJ;simp only at ZJ;obtain⟨fn,tmps,assign,body,ZJ,MT⟩:=ZJ;have Kz:=bx MT;have rv:=ZZ.size;clear MT F8 ZZ
  gi_wp2
  refine Kz.o.mono ?_;rintro e XE (⟨rfl,Oq,Sx⟩|⟨rfl,L7⟩)
  ·have Gk:=bx (show Box (E A B XE)/\Box (Zv XE b 135 #[.string s])/\Box (Zv XE IJ 131 #[Zn b])/\Box (J (ZC++[(a,m,o)]) XE)from
    ⟨⟨(Di.o.below (NI.o.below (by have:=Xk.o.lt;omega) (λ_ h=>h.elim))).holds Sx (λk Z3=>.inl (.inr (.inr Z3)))⟩,⟨Sx.blk (NI.o.blk Xk.o (λh=>h)) (.inl (.inl rfl))⟩,⟨Sx.blk (NI.o.blk yp.o (λh=>h)) (.inl (.inr (.inl rfl)))⟩,⟨Oq⟩⟩)
   have SR:=Sx.blk (Zv.new ZV 138 #[Z9 m,.bool o]) (.inr ⟨rv,by simp⟩);have Ws:=SR.q0;clear Oq Sx SR
   gi_wp2
   go_roundw
   ·exact⟨a+m,ZC++[(a,m,o)],kz,by go_num,⟨by rw[M8];exact WI.o⟩,Gk.o.1,Gk.o.2.1,Gk.o.2.2.1,Gk.o.2.2.2⟩
   grind[intOf]
  gi_wp2
  rw[Exit.noGoto_normal]
  go_end0
  grind
 have Fc:=bx (show ZC=M.places s.data.toList by
  have:=hp.o;rw[M.rest_end _ _ (by simp_all),L3]at this;omega)
 gi_wp2
 rw[Exit.noGoto_normal]
 go_end0
 exact⟨⟨_,rfl⟩,.inl ⟨ZC,Fc.o,YO.o⟩⟩
theorem sl(w:World)(o:Obj):Z6 w (w.alloc o):=YU.alloc Ys o
def E4(l:List UInt8):Value:=.tuple #[Z9 ((M.unit l).1:Int),.bool (M.unit l).2]
theorem cJ(l:List UInt8):(M.places l).length<=l.length:=by
 have h:=M.at4 l 0 (by omega);have key:∀(k a:Nat),l.length<=a+k->(M.rest l a).length<=l.length-a:=by
  intro k
  induction k with
  |zero=>grind[M.rest_end]
  |succ k XZ=>
   intro a h
   by_cases hl:l.length<=a
   ·grind
   have hu:=M.dD (s:=l) (a:=a) (by omega);rw[M.cM l a (by omega),U3];grind
 have:=key l.length 0 (by omega);grind[M.dG]
theorem anJ{l:List UInt8}{ZC:List M.Place}{x:M.Place}(h:rQ l ZC x):ZC.length<l.length:=by
 obtain⟨t,ZM⟩:=h;have Z7:=congrArg List.length ZM;have Z5:=cJ l;grind
theorem three(w:World)(cs NF NE:Array Value)(SD SC SB:TypeId):
  Zv (((w.alloc (.cells cs SD)).alloc (.cells NF SC)).alloc (.cells NE SB)) w.heap.size SD cs/\Zv (((w.alloc (.cells cs SD)).alloc (.cells NF SC)).alloc (.cells NE SB)) (w.heap.size+1) SC NF/\Zv (((w.alloc (.cells cs SD)).alloc (.cells NF SC)).alloc (.cells NE SB)) (w.heap.size+1+1) SB NE/\
   Z6 w (((w.alloc (.cells cs SD)).alloc (.cells NF SC)).alloc (.cells NE SB))/\(((w.alloc (.cells cs SD)).alloc (.cells NF SC)).alloc (.cells NE SB)).heap.size=w.heap.size+3:=by
 refine⟨((Zv.new w _ _).alloc _).alloc _,?_,?_,((YU.alloc Ys _).alloc (by simp) _).alloc (by simp;omega) _,by simp⟩
 ·have:=(Zv.new (w.alloc (.cells cs SD)) SC NF).alloc (.cells NE SB)
  simp_all
 have:=Zv.new ((w.alloc (.cells cs SD)).alloc (.cells NF SC)) SB NE
 simp_all
end
theorem vN{l:List UInt8}{n:Nat}(_:U.dec l=none)(_:M.aZ l=n):E4 l=.tuple #[Z9 n,.bool false]:=by
 grind[E4,M.ez]
theorem aml{l:List UInt8}{r:Int}{n:Nat}(_:U.dec l=some (r,n)):E4 l=.tuple #[Z9 n,.bool true]:=by
 grind[E4,M.unit]
theorem as4{l:List UInt8}(h:U.dec l=none):Of l=.tuple #[Z9 0,Z9 0,.bool false]:=by unfold Of;rw[h];rfl
theorem alJ{l:List UInt8}{r:Int}{n:Nat}(h:U.dec l=some (r,n)):Of l=.tuple #[Z9 r,Z9 n,.bool true]:=by unfold Of;rw[h];rfl
theorem apF{c d:UInt8}(_:¬(U.ax (U.aa c)<=U.aa d/\U.aa d<=U.ay (U.aa c)))(p:Bool):(p&&M.rng c d)=false:=by
 have:=M.eD c d
 grind
theorem aul{c d:UInt8}(h:U.ax (U.aa c)<=U.aa d/\U.aa d<=U.ay (U.aa c))(Z3:2<=U.af (U.aa c)):(decide (2<=U.af (U.aa c))&&M.rng c d)=true:=by
 rw[(M.eD c d).2 h,Yh Z3];rfl
theorem asM{e:UInt8}(h:¬(128<=U.aa e/\U.aa e<=191))(p:Bool):(p&&U.aM e)=false:=by
 cases ZT:U.aM e with
 |false=>simp
 |true=>exact absurd (U.tail_range ZT) h
theorem aow{e:UInt8}(h:128<=U.aa e/\U.aa e<=191):U.aM e=true:=(U.a7 e).2 h
theorem adw(s:ByteArray)(w:World)(Z0:s.size<=16777216):
  Calls prog 119 #[.string s] w λe w'=>e=.returned (E4 s.data.toList)/\w=w':=by
 have Xf:=bx (m1 s w (XJ Z0 (by decide)))
 cases hl:s.data.toList with
 |nil=>
  have ZY:=isEmpty_nil hl;have ZN:=bx (show E4 []=.tuple #[Z9 0,.bool false]from rfl);clear hl Xf
  go_in
  go_wp2
  go_ret2
  exact⟨by rfl,rfl⟩
 |cons c t=>
  have ZY:=isEmpty_cons hl;rw[hl]at Xf;have i0:=JT underlying9 s 0 (d:=c) (by grind) 0 rfl;have Vl:=U.bl c;have W2:=U.bo c;have Ln:=bx (rB (U.aa c) Vl W2);have W1:(s.size:Int)=t.length+1:=by grind[size_eq]
  cases Zm:U.dec (c::t)with
  |some Ev=>
   obtain⟨r,n⟩:=Ev;have E1:=bx (alJ Zm);have ZN:=bx (aml Zm);clear hl Zm i0 Ln
   go_in
   go_wp2_with fail;refine YW Xf.o ?_;rw[E1.o]
   go_wp2
   go_ret2
   exact⟨by rw[ZN.o];rfl,rfl⟩
  |none=>
   have E1:=bx (as4 Zm)
   rcases t with _|⟨d,t⟩
   ·have ZN:=bx (vN (n:=1) Zm rfl);have agZ:s.size=1:=by grind
    clear hl Zm W1;generalize U.aa c=x at *;generalize U.af x=k at *;generalize U.ax x=lo at *;generalize U.ay x=hi at *
    go_in
    go_wp2_with fail;refine YW Xf.o ?_;rw[E1.o];go_wp2_with fail;refine YW (Ln.o _) ?_;go_wp2_with fail
    all_goals go_ret2
    all_goals exact⟨by rw[ZN.o];rfl,rfl⟩
   have i1:=JT underlying9 s 1 (d:=d) (by grind) 1 rfl;have ue:=U.bl d;have MI:=U.bo d;have Vf:2<=s.size:=by grind
   by_cases Z3:1<=U.af (U.aa c)/\U.ax (U.aa c)<=U.aa d/\U.aa d<=U.ay (U.aa c)
   ·have T8:=U.du (U.aa c) (by omega);have Nk:=U.dx (U.aa c) (by omega);have Nj:2<=U.af (U.aa c):=by
     rcases U.cY (U.aa c)with e|e|e|e|e
     ·omega
     ·omega
     ·rw[U.dv e,Y0 (by omega)]at Zm;cases Zm
     ·omega
     omega
    have ZT:=aul Z3.2 Nj
    rcases t with _|⟨e,t⟩
    ·have ZN:=bx (vN (n:=2) Zm (M.gj ZT));have agZ:s.size=2:=by grind
     clear hl Zm W1 ZT T8 Nk;generalize U.aa c=x at *;generalize U.aa d=y at *;generalize U.af x=k at *;generalize U.ax x=lo at *;generalize U.ay x=hi at *;obtain⟨Z3,Sx,Ht⟩:=Z3
     go_in
     go_wp2_with fail;refine YW Xf.o ?_;rw[E1.o];go_wp2_with fail;refine YW (Ln.o _) ?_;go_wp2_with fail
     go_rounds 1
     all_goals go_ret2
     all_goals exact⟨by rw[ZN.o];rfl,rfl⟩
    have i2:=JT underlying9 s 2 (d:=e) (by grind) 2 rfl;have LL:=U.bl e;have Tz:=U.bo e;have PF:3<=s.size:=by grind
    by_cases ZM:128<=U.aa e/\U.aa e<=191
    ·have Sx:U.af (U.aa c)=3:=by
      rcases U.cY (U.aa c)with R8 | R8 | R8 | R8 | R8
      ·omega
      ·omega
      ·omega
      ·rw[U.dw R8,Y0 (by omega)]at Zm;cases Zm
      exact R8
     have Z8:=M.ad5 t ZT (by rw[Yh Sx,aow ZM];rfl);have ZN:=bx (vN (n:=3) Zm Z8)
     rcases t with _|⟨g,t⟩
     ·have agZ:s.size=3:=by grind
      clear hl Zm W1 ZT T8 Nk Z8;generalize U.aa c=x at *;generalize U.aa d=y at *;generalize U.aa e=z at *;rw[Sx]at Ln;generalize U.af x=k at *;generalize U.ax x=lo at *;generalize U.ay x=hi at *;obtain⟨Z3,aw3,Ht⟩:=Z3;obtain⟨Sg,Nd⟩:=ZM
      go_in
      go_wp2_with fail;refine YW Xf.o ?_;rw[E1.o];go_wp2_with fail;refine YW (Ln.o _) ?_;go_wp2_with fail
      go_rounds 2
      all_goals go_ret2
      all_goals exact⟨by rw[ZN.o];rfl,rfl⟩
     have i3:=JT underlying9 s 3 (d:=g) (by grind) 3 rfl;have Jd:=U.bl g;have Y5:=U.bo g;have ahi:4<=s.size:=by grind
     have axb:¬(128<=U.aa g/\U.aa g<=191):=λh=>by
      rw[U.dM Sx,Y0 (by omega)]at Zm;cases Zm
     clear hl Zm W1 ZT T8 Nk Z8;generalize U.aa c=x at *;generalize U.aa d=y at *;generalize U.aa e=z at *;generalize U.aa g=v at *;rw[Sx]at Ln;generalize U.af x=k at *;generalize U.ax x=lo at *;generalize U.ay x=hi at *;obtain⟨Z3,aw3,Ht⟩:=Z3;obtain⟨Sg,Nd⟩:=ZM
     rcases(show v<128\/(128<=v/\191<v) by omega)with Z2|⟨Z2,SN⟩
     all_goals
      clear axb
      go_in
      go_wp2_with fail;refine YW Xf.o ?_;rw[E1.o];go_wp2_with fail;refine YW (Ln.o _) ?_;go_wp2_with fail
      go_rounds 2
      all_goals go_ret2
      all_goals exact⟨by rw[ZN.o];rfl,rfl⟩
    have ZN:=bx (vN (n:=2) Zm (M.aao t ZT (asM ZM _)));clear hl Zm W1 ZT T8 Nk;generalize U.aa c=x at *;generalize U.aa d=y at *;generalize U.aa e=z at *;generalize U.af x=k at *;generalize U.ax x=lo at *;generalize U.ay x=hi at *;obtain⟨Z3,Sx,Ht⟩:=Z3
    rcases(show z<128\/(128<=z/\191<z) by omega)with Z2|⟨Z2,SN⟩
    all_goals
     clear ZM
     go_in
     go_wp2_with fail;refine YW Xf.o ?_;rw[E1.o];go_wp2_with fail;refine YW (Ln.o _) ?_;go_wp2_with fail
     go_rounds 1
     all_goals go_ret2
     all_goals exact⟨by rw[ZN.o];rfl,rfl⟩
   have ZN:=bx (vN (n:=1) Zm (by
    by_cases TT:1<=U.af (U.aa c)
    ·exact M.fg _ (apF (λh=>Z3 ⟨TT,h⟩) _)
    exact M.fg _ (by grind)))
   clear hl Zm W1;generalize U.aa c=x at *;generalize U.aa d=y at *;generalize U.af x=k at *;generalize U.ax x=lo at *;generalize U.ay x=hi at *
   rcases(show k<1\/(1<=k/\y<lo)\/(1<=k/\lo<=y/\hi<y) by omega)with Zs|⟨NB,Py⟩|⟨NB,Py,xB⟩
   all_goals
    clear Z3
    go_in
    go_wp2_with fail;refine YW Xf.o ?_;rw[E1.o];go_wp2_with fail;refine YW (Ln.o _) ?_;go_wp2_with fail
    all_goals go_ret2
    all_goals exact⟨by rw[ZN.o];rfl,rfl⟩
section
open Go.Shelf
attribute[local go_sem] Oper.semAt_some
def HR(l:List UInt8):List Int:=(M.cuts (M.places l)).map λn:Nat=>(n:Int)
def wF(pl:List M.Place):List Value:=(M.cuts pl).map λn:Nat=>Value.int .i64 (n:Int)
theorem apV(ZC:List M.Place)(x:M.Place):wF (ZC++[x])=wF ZC++[Z9 ((x.1:Int)+(x.2.1:Int))]:=by
 simp[wF,M.cuts]
end
theorem abK(s:ByteArray)(a:Nat):(s.extract a s.size).data.toList=s.data.toList.drop a:=by
 rw[Lib.extract_data,SU (by simp)]
theorem aci{P:Program}{T:TypeId}(Yo:P.underlying T=some .string)(s:ByteArray)(lo:Int)(_:0<=lo/\lo<=s.size):
  ∀W,(Instr.slice T (.string s) (some (Z9 lo)) none none).run P W=.ok (.string (s.extract lo.toNat s.size)) W:=by
 intro W;rw[run_slice_string_from_if W _ _ _ _ Yo,Y0 (by omega)]
theorem ht(s:ByteArray)(w:World)(_:s.size<=100000):
  Calls prog 118 #[.string s] w λe w'=>(∃v,e=.returned v/\Y6 w' v (HR s.data.toList))/\Z6 w w':=by
 have Wy:=bx (size_eq s);obtain⟨i0,hi,Vs,Up,Vf⟩:=info_parts lP
 go_in
 go_wp2_with fail
 go_loopw[3,4] (λo i wr=>∃(a:Nat)(ZC:List M.Place),a<=s.size/\i=Z9 a/\Box (ZC++M.rest s.data.toList a=M.places s.data.toList)/\Box (wr.ownsRow w.heap.size 3 1 o (ZC.length+1) (wF ZC))/\Box (Z6 w wr))
  (λ_ i _=>s.size-(intOf i).toNat)
 ·
  refine⟨0,[],by omega,rfl,⟨by rfl⟩,⟨?_⟩,⟨sl _ _⟩⟩;exact World.ownsRow_lit (base:=w.heap.size) (e:=3) (size:=1) w #[Z9 0] 1 Ys (by simp[maxLen]) rfl
 obtain⟨a,ZC,YZ,rfl,hp,YT,Z8⟩:=hrel
 by_cases Zu:a<s.size
 ·have Uf:a<s.data.toList.length:=by simp_all
  obtain⟨m,ok,hu⟩:∃m ok,M.unit (s.data.toList.drop a)=(m,ok):=⟨_,_,rfl⟩
  have Hc:=M.dD Uf;have C4:=M.cM s.data.toList a Uf;rw[hu]at Hc C4;simp only at Hc C4;obtain⟨X,TM⟩:∃X,s.extract a s.size=X:=⟨_,rfl⟩
  have Fy:=abK s a;rw[TM]at Fy;have ym:X.size<=16777216:=by rw[size_eq,Fy,Px,<-Wy.o];omega
  have Me:=bx (show E4 X.data.toList=.tuple #[Z9 m,.bool ok] by grind[E4]);have WI:=bx (show ZC++(a,m,ok)::M.rest s.data.toList (a+m)=M.places s.data.toList by rw[<-C4];exact hp.o);have TK:ZC.length<s.size:=by
   have Z7:=congrArg List.length WI.o;have Z5:=cJ s.data.toList;simp only[WR,U3]at Z7;rw[<-Wy.o]at Z5;omega
  have kz:a+m<=s.size:=by simp_all
  have Pg:=Hc.1;have aw6:=Hc.2.1;have Xa:=aci (P:=prog) (T:=9) underlying9 s a ⟨by omega,by omega⟩;rw[RU,TM]at Xa;have JO:=bx (adw X wr ym);have S6:=bx (apV ZC (a,m,ok));clear Uf hu Hc C4 TM Fy ym hp;obtain⟨Tv,Wr,rfl⟩:=ownsRow_succ YT.o;go_wp2_with fail;refine YW JO.o ?_;rw[Me.o];go_wp2_with (at_builtin;refine wpList_append_own _ rfl _ _ 22 rfl w.heap.size 3 i0 (Z9 0) 1 8 underlying22 hi Vs Up Vf rfl (by decide) _ _ _ rfl (YT.o.alloc _) ⟨wr.heap.size,0,none⟩ 1 1 [Z9 ((a:Int)+(m:Int))] rfl rfl (cell_one_new _ _ _) (by simp[Value.oneCell']) (by grind[maxLen]) (by omega) (by have:=Z8.o.size;simp;omega) ?_;intro Zy YL Tf UN _;obtain⟨Ui,cap',rfl⟩:=ownsRow_succ Tf)
  have WU:=bx (show YL.ownsRow w.heap.size 3 1 (.slice (some ⟨Ui,0,none⟩) (ZC.length+1+1) cap') ((ZC++[(a,m,ok)]).length+1) (wF (ZC++[(a,m,ok)])) by rw[S6.o,WR];omega);have Ye:=bx (show Z6 w YL from(Z8.o.alloc Z8.o.size _).grown UN (by have:=Z8.o.size;simp;omega) (λq Zs=>(YT.o.lt q Zs).1));clear Tf UN
  go_wp2
  go_roundw
  ·exact⟨a+m,ZC++[(a,m,ok)],kz,by go_num,⟨by rw[M8];exact WI.o⟩,WU,Ye⟩
  grind[intOf]
 have Fc:=bx (show ZC=M.places s.data.toList by
  have:=hp.o;rw[M.rest_end _ _ (by simp_all),L3]at this;omega)
 obtain⟨Tv,Wr,rfl⟩:=ownsRow_succ YT.o
 go_wp2
 go_ret
 refine⟨⟨_,rfl,?_⟩,Z8.o⟩;have:=YT.o;rw[Fc.o]at this;refine Y6.au (n:=(M.places s.data.toList).length+1) (T:=3) (base:=w.heap.size) ?_ (by simp[HR,M.aaa]);unfold HR;rw[IZ];have Z5:ZC.length=(M.places s.data.toList).length:=by rw[Fc.o]
 rw[<-Z5];rw[<-Z5]at this;exact this
section
open Go.Shelf
attribute[local go_sem] Oper.semAt_some
def xU(n:Nat):Nat:=floatOfInt .f64 (n:Int)
end
def sN{α:Type}(n:Nat)(P:Program)(gf:Nat)(lb:Array Value)(encs:α->Array Value)(own keep:Nat->Prop)(ok:List α->α->World->Prop)(S:List α->World->Prop)(l:Nat)(YH:World):Prop:=
 ∀(J PL:Nat->List α->World->Prop),(∀Ww ZC W W',J Ww ZC W->Turns own W W'->J Ww ZC W')->(∀Ww ZC W W',PL Ww ZC W->Turns (λ_=>False) W W'->PL Ww ZC W')->
  (∀Ww ZC x W0 W,YH.heap.size<=Ww->Ww<=W.heap.size->J Ww ZC W0->Turns own W0 W->ok ZC x W->YieldAt Fence.wide (n-1) P l (encs x) W λe W'=>(e=.returned (.bool true)/\J Ww (ZC++[x]) W'/\Turns (λk=>¬(keep k\/(YH.heap.size<=k/\k<Ww)\/(W0.heap.size<=k/\k<W.heap.size))) W W')\/(e=.returned (.bool false)/\PL Ww (ZC++[x]) W'))->
  (∀Ww,YH.heap.size<=Ww->J Ww [] YH)->CallsIn Fence.wide n P gf (#[.func (.yield l) #[] #[]]++lb) YH λe W'=>(∃v,e=.returned v)/\((∃Ww xs,S xs W'/\J Ww xs W')\/(∃Ww ZC,PL Ww ZC W'))
theorem qL{α:Type}{P:Program}{n:Nat}{g:Operand}{ps:Array Tmp}{assign body:Code}{Q:Exit->Act->World->Prop}{a:Act}{w:World}{gf:Nat}{lb:Array Value}(ZH:a.eval g=.func (.func gf) #[] lb)(Gd:∀args w,(callFunc gf args).run P w=.ok (.enter gf args) w){encs:α->Array Value}{own keep:Nat->Prop}{ok:List α->α->World->Prop}{S:List α->World->Prop}(Wo:∀k,own k\/keep k->k<w.heap.size)(hit:∀YH,Turns (λ_=>False) w YH->sN (n-1) P gf lb encs own keep ok S (w.heap.size+1) YH)(LC:∀x,(encs x).size=ps.size)(I:Nat->List α->World->Prop)(Tb:Nat->Code->List α->World->Prop)(UW:∀Ww ZC W W',I Ww ZC W->Turns (λk=>own k\/k=w.heap.size+1) W W'->I Ww ZC W')(Kk:∀Ww c ZC W W',Tb Ww c ZC W->Turns (λk=>k=w.heap.size+1) W W'->Tb Ww c ZC W')(pH:∀ZC x W W',ok ZC x W->Turns (λk=>k=w.heap.size+1) W W'->ok ZC x W')(ZI:∀Ww,w.heap.size+2<=Ww->I Ww [] w)(P9:α->Act->World->Prop)(Gc:∀x a1 W W',P9 x a1 W->Turns (λk=>k=w.heap.size+1) W W'->P9 x a1 W')(Df:∀(x:α)(W:World)(K:Act->World->Prop),w.heap.size+2<=W.heap.size->(∀a1 YH,Turns (λ_=>False) W YH->P9 x a1 YH->K a1 YH)->
   assign.wpIn (Fence.wide.inRound (w.heap.size+1)) (n-1-1) P (Exit.then K (λ_ _ _=>False)) {tmps:=(ps.zip (encs x)).foldl (λt (p,v)=>t.setIfInBounds p v) a.tmps,defers:=[]} W)(De:∀(Ww:Nat)(ZC:List α)(x:α)(a1:Act)(W0 W:World)(N:Nat),w.heap.size+2<=Ww->Ww<=N->w.heap.size+2<=W0.heap.size->I Ww ZC W0->Turns (λk=>own k\/k=w.heap.size+1) W0 W->N<=W.heap.size->ok ZC x W->P9 x a1 W->
   body.wpIn (Fence.wide.inRound (w.heap.size+1)) (n-1-1) P (h8 (λk=>keep k\/(w.heap.size+2<=k/\k<Ww)\/(W0.heap.size<=k/\k<N)) (I Ww) (Tb Ww) (w.heap.size+1) w.heap.size (ZC++[x]) W) a1 W)(hdone:∀(Ww:Nat)(xs:List α)(W:World),w.heap.size+2<=W.heap.size->S xs W->I Ww xs W->W.heap[w.heap.size]?=some (.deferred (some []))->Q .normal {a with defers:={target:=.collected w.heap.size,args:=#[]}::a.defers} W)(hstop:∀(Ww:Nat)(c:Code)(ZC:List α)(W:World),w.heap.size+2<=W.heap.size->Tb Ww c ZC W->W.heap[w.heap.size]?=some (.deferred (some []))->c.wpIn Fence.wide n P Q {a with defers:={target:=.collected w.heap.size,args:=#[]}::a.defers} W)(hS:∀xs W W',S xs W->Turns (λk=>k=w.heap.size+1) W W'->S xs W'):
  (Code.rangeFunc g ps assign body).wpIn Fence.wide n P Q a w:=by
 have ZP:=λk h=>Wo k (.inl h)
 refine qA ZH Gd LC P9 Gc Df (λW=>∃Ww xs,S xs W/\I Ww xs W) (λc W=>∃Ww ZC,Tb Ww c ZC W) (λro Ex YH ZM Z0 WE VX=>?_)
  (λUF W ZY ⟨Ww,xs,Z7,Z5⟩ ZM Z3=>hdone Ww xs W ZY (hS _ _ _ Z7 ZM) (UW _ _ _ _ Z5 (ZM.mono λ_=>.inr)) Z3) (λc UF W ZY ⟨Ww,ZC,h⟩ ZM Z3=>hstop Ww c ZC W ZY (Kk _ _ _ _ _ h ZM) Z3)
 refine(hit YH ZM (λWw ZC W=>I Ww ZC W/\Lp ro w.heap.size W) (λWw ZC W=>∃c,Tb Ww c ZC W/\Lp (Ex c) w.heap.size W) ?_ ?_ ?_ (λWw h=>⟨UW _ _ _ _ (ZI Ww (by omega)) (ZM.mono λ_ h=>h.elim),WE⟩)).mono ?_
 ·rintro Ww ZC W W' ⟨hi,hl⟩ ZM;exact⟨UW _ _ _ _ hi (ZM.mono λ_=>.inl),hl.turns ZM ZP⟩
 ·rintro Ww ZC W W' ⟨c,hi,hl⟩ ZM;exact⟨c,Kk _ _ _ _ _ hi (ZM.mono λ_ h=>h.elim),hl.turns ZM (λ_ h=>h.elim)⟩
 ·rintro Ww ZC x W0 W xS GZ ⟨hi,LH⟩ MC YB;have hl:=LH.turns MC ZP;have z0:=LH.lt;have UB:=hl.lt;rw[Z0]at xS⊢;refine(VX x W (λSZ XE=>Turns (λk=>¬((keep k\/(w.heap.size+2<=k/\k<Ww)\/(W0.heap.size<=k/\k<W.heap.size))\/k=w.heap.size+1\/k=w.heap.size)) SZ XE/\I Ww (ZC++[x]) XE) (λc XE=>Tb Ww c (ZC++[x]) XE) hl (λa1 SZ Z8 YZ=>wpIn_mono (De Ww ZC x a1 W0 SZ W.heap.size xS GZ z0 hi ((MC.mono λ_=>.inl).trans (Z8.mono λ_=>.inr)) Z8.size (pH _ _ _ _ YB Z8) YZ) λe _ _ hp=>by cases e <;> exact hp) (λ_ _ ZY h=>.cA h.1 (λk Z3=>by omega) (λk Z3 ZP=>ZP (.inr Z3)))).mono ?_;rintro e W' (⟨rfl,K5,SZ,XE,Z8,⟨Uy,L9⟩,Uq⟩|⟨rfl,c,XE,K5,Z4,Uq⟩)
  ·refine .inl ⟨rfl,⟨UW _ _ _ _ L9 (Uq.mono λ_=>.inr),K5⟩,?_⟩;have xF:∀k,k=w.heap.size+1->¬(keep k\/(w.heap.size+2<=k/\k<Ww)\/(W0.heap.size<=k/\k<W.heap.size)):=by
    grind
   exact((Z8.mono xF).trans (Uy.mono λk Z3 ZP=>Z3 (.inl ZP))).trans (Uq.mono xF)
  grind
 grind
section
open Go.ChangeShapes Go.WideShapes Go.Deep
section
variable {H:Type} {enc:TypeId×Value->H} {W:World}
theorem addr_add(b off i:Nat):(⟨b,off,none⟩:Addr).add i=⟨b,off+i,none⟩:=by
 simp[Addr.add]
theorem VA.open{v:Value}{fuel:Nat}{x:DataW H×List MemPlace}(Yz:DataW.trod enc prog W 0 (λ_=>true) true fuel 250 [v]=some x):∃l,VA W v l:=by
 rcases open_slice_pairs underlying250 underlying389 (by rfl) rfl rfl (by rfl) (by rfl) Yz with⟨Z7,_⟩|⟨a,len,ZU,m,n,ayu,RM,ah3,po,ays,ayt,Z7,_,Z5,ZS,ZG,_,Zi⟩
 ·simp only[QE,and_true]at Z7;exact⟨[],.inl ⟨Z7,rfl⟩⟩
 simp only[QE,and_true]at Z7;subst Z7;simp only[if_true]at ZG;subst ZG;have key:∀i,i<m->∃y:N.Item,W.cell? (a.add (i*2))=some (Z9 y.1)/\W.cell? (a.add (i*2+1))=some (Z9 y.2):=by
  intro i hi;obtain⟨YV,c1,t0,t1⟩:=Zi i hi;obtain⟨Zd,Wz,_⟩:=DataW.trod_int underlying2 t0;obtain⟨Zx,Zq,_⟩:=DataW.trod_int underlying3 t1;simp_all
 let g:=λi=>if h:i<m then(key i h).choose else(0,0)
 have ZH:∀i,i<m->W.cell? (a.add (i*2))=some (Z9 (g i).1)/\W.cell? (a.add (i*2+1))=some (Z9 (g i).2):=by
  grind
 obtain⟨b,off,sp⟩:=a;have Ty:((List.range len).map g).length=len:=by simp
 refine⟨(List.range len).map g,.inr ⟨b,off,sp,m,by simp,by omega,ZS,λ_=>?_⟩⟩;have ZI:0<len:=by
  grind
 have Vl:=(ZH 0 (by omega)).1;have WF:sp=none:=World.cell?_spot (a:=(⟨b,off,sp⟩:Addr).add (0*2)) Vl;subst WF;refine⟨rfl,World.block_lt_of_cell? _ _ Vl,λi y ZJ=>?_⟩;rw[RX]at ZJ;obtain⟨j,YO,rfl⟩:=NU.1 ZJ;obtain⟨hi,rfl⟩:=R7 YO;simp only[Bz]at hi;grind[addr_add]
end
section
variable {H:Type} {enc:TypeId×Value->H} {W:World}
theorem aau{fuel:Nat}{cs:List Value}{x:DataW H×List MemPlace}(h:DataW.trod enc prog W 0 (λ_=>true) true fuel 252 cs=some x):
  ∃(st:Bool)(v:Value)(l:List N.Item),cs=[.bool st,v]/\VA W v l:=by
 obtain⟨RN,Vy,n,rfl,hl,ZI,Z7⟩:=trod_struct2 underlying252 h;have Ni:cs.length=2:=hl.trans (by rfl)
 match cs,Ni with
 |[YV,c1],_=>
  obtain⟨st,Wz,_⟩:=DataW.trod_bool underlying4 ZI;obtain⟨l,agy⟩:=VA.open Z7;have Dl:[YV]=[.bool st]:=Wz;grind
theorem aq8{fuel:Nat}{cs:List Value}{x:DataW H×List MemPlace}(h:DataW.trod enc prog W 0 (λ_=>true) true fuel 254 cs=some x):
  ∃(y:D.Rule)(Vj Ym:Value),cs=[.bool y.1.1,Vj,.bool y.2.1.1,Ym,.bool y.2.2]/\VA W Vj y.1.2/\VA W Ym y.2.1.2:=by
 obtain⟨RN,Vy,TX,n,rfl,hl,ZI,Z7,Z5⟩:=trod_struct3 underlying254 h;have aw4:cs.length=5:=hl.trans (by rfl)
 match cs,aw4 with
 |[YV,c1,c2,c3,VG],_=>
  obtain⟨pu,Vj,tw,Wz,xL⟩:=aau (cs:=[YV,c1]) ZI;obtain⟨ax4,Ym,pA,Zq,LK⟩:=aau (cs:=[c2,c3]) Z7;obtain⟨Mc,YP,_⟩:=DataW.trod_bool underlying4 Z5;have afG:[VG]=[.bool Mc]:=YP;simp only[QE,and_true]at Wz Zq afG;obtain⟨rfl,rfl⟩:=Wz;obtain⟨rfl,rfl⟩:=Zq;subst afG;exact⟨((pu,tw),(ax4,pA),Mc),_,_,rfl,xL,LK⟩
theorem TQ.open{fuel:Nat}{v:Value}{x:DataW H×List MemPlace}(h:DataW.trod enc prog W 0 (λ_=>true) true fuel 26 [v]=some x):∃l,TQ W v l:=by
 have ce:prog.cellsOf 254=5:=by rfl
 rcases open_slice underlying26 h with⟨Z7,_⟩|⟨a,len,ZU,m,n,jq,iy,Z7,_,Z5,ZS,ZG,_,Zi⟩
 ·simp only[QE,and_true]at Z7;exact⟨[],.inl ⟨Z7,rfl⟩⟩
 simp only[QE,and_true]at Z7;subst Z7;simp only[if_true]at ZG;subst ZG;rw[ce]at Zi;have key:∀i,i<m->∃q:D.Rule×Value×Value,(∀j u,[Value.bool q.1.1.1,q.2.1,.bool q.1.2.1.1,q.2.2,.bool q.1.2.2][j]?=some u->W.cell? ((a.add (i*5)).add j)=some u)/\VA W q.2.1 q.1.1.2/\VA W q.2.2 q.1.2.1.2:=by
  intro i hi;obtain⟨cs',Yu,VV⟩:=Zi i hi;obtain⟨_,Ty,aga⟩:=World.cells?_some Yu;obtain⟨y,Vj,Ym,rfl,Vz,WK⟩:=aq8 VV;refine⟨(y,Vj,Ym),λj u hu=>?_,Vz,WK⟩;grind
 obtain⟨q,Zs⟩:=choose_lt key;obtain⟨b,off,sp⟩:=a;have Ty:((List.range len).map λi=>(q i).1).length=len:=by simp
 refine⟨(List.range len).map λi=>(q i).1,.inr ⟨b,off,sp,m,by simp,by omega,ZS,λ_=>?_⟩⟩;have ZI:0<len:=by
  grind
 have Vl:=(Zs 0 (by omega)).1 0 _ rfl;have WF:sp=none:=World.cell?_spot (a:=((⟨b,off,sp⟩:Addr).add (0*5)).add 0) Vl;subst WF;refine⟨rfl,World.block_lt_of_cell? _ _ Vl,λi y ZJ=>?_⟩;rw[RX]at ZJ;obtain⟨j,YO,rfl⟩:=NU.1 ZJ;obtain⟨hi,rfl⟩:=R7 YO;simp only[Bz]at hi;simp only[List.getElem_range];obtain⟨Zx,Zr,Zk⟩:=Zs i (by omega);have ZL:∀j u,[Value.bool (q i).1.1.1,(q i).2.1,.bool (q i).1.2.1.1,(q i).2.2,.bool (q i).1.2.2][j]?=some u->ZQ W b (off+i*5+j)=some u:=λj u hu=>by
  grind[addr_add]
 exact⟨(q i).2.1,(q i).2.2,ZL 0 _ rfl,ZL 1 _ rfl,ZL 2 _ rfl,ZL 3 _ rfl,ZL 4 _ rfl,Zr,Zk⟩
theorem sf{fuel:Nat}{v:Value}{x:DataW H×List MemPlace}{t e:TypeId}(ZM:prog.underlying t=some (.slice e))(he:prog.underlying e=some (.int .i64))(ZL:prog.cellsOf e=1)(h:DataW.trod enc prog W 0 (λ_=>true) true fuel t [v]=some x):∃l,Y6 W v l:=by
 rcases Go.ChangeShapes.open_ints ZM he ZL h with⟨Z7,_⟩|⟨a,len,ZU,zs,Z7,_,Z5,ZS,ZG,_,Zi,_⟩
 ·simp only[QE,and_true]at Z7;exact⟨[],.inl ⟨Z7,rfl⟩⟩
 simp only[QE,and_true]at Z7;subst Z7;simp only[if_true]at ZG;have hl:(zs.take len).length=len:=by grind
 obtain⟨b,off,sp⟩:=a;refine⟨zs.take len,.inr ⟨b,off,sp,ZU,by rw[hl],by omega,ZS,λ_=>?_⟩⟩;have ZI:0<zs.length:=by
  grind
 have Vl:=Zi 0 ZI;have WF:sp=none:=World.cell?_spot (a:=(⟨b,off,sp⟩:Addr).add 0) Vl;subst WF;refine⟨rfl,World.block_lt_of_cell? _ _ Vl,λi x Z4=>?_⟩;rw[ayf]at Z4
 split at Z4
 ·have hi:=(R7 Z4).1;have:=Zi i hi
  (try unfold ZQ at *);grind[Addr.add]
 cases Z4
theorem TF.open{fuel:Nat}{v:Value}{x:DataW H×List MemPlace}(h:DataW.trod enc prog W 0 (λ_=>true) true fuel 23 [v]=some x):∃l,TF W v l:=by
 rcases open_slice1 underlying23 (by rfl) h with⟨Z7,_⟩|⟨a,len,ZU,m,n,V,jq,iy,Z7,_,Z5,ZS,ZG,_,Zi⟩
 ·simp only[QE,and_true]at Z7;exact⟨[],.inl ⟨Z7,rfl⟩⟩
 simp only[QE,and_true]at Z7;subst Z7;simp only[if_true]at ZG;subst ZG;have key:∀i,i<m->∃q:List Int,W.cell? (a.add i)=some (V i)/\Y6 W (V i) q:=λi hi=>by
  obtain⟨Zx,Zr⟩:=Zi i hi;obtain⟨q,Zs⟩:=sf underlying22 underlying3 (by rfl) Zr;grind
 obtain⟨q,Zs⟩:=choose_lt key;obtain⟨b,off,sp⟩:=a;have Ty:((List.range len).map q).length=len:=by simp
 refine⟨(List.range len).map q,.inr ⟨b,off,sp,m,by simp,by omega,ZS,λ_=>?_⟩⟩;have ZI:0<len:=by
  grind
 have Vl:=(Zs 0 (by omega)).1;have WF:sp=none:=World.cell?_spot (a:=(⟨b,off,sp⟩:Addr).add 0) Vl;subst WF;refine⟨rfl,World.block_lt_of_cell? _ _ Vl,λi _ ZJ=>?_⟩;rw[RX]at ZJ;obtain⟨j,YO,rfl⟩:=NU.1 ZJ;obtain⟨hi,rfl⟩:=R7 YO;simp only[Bz]at hi;grind[addr_add]
end
end
section
section
variable {P:Program} {W:World} {g:Nat} {t:TypeId} {cs cs':Array Value}
theorem Turns.setRow{own:Nat->Prop}(_:own g)(cs':Array Value):Turns own W (W.setRow g cs'):=
 ⟨rfl,rfl,rfl,by simp,λk _ YT=>setRow_other W g k cs' (λ_=>YT (by grind))⟩
theorem Sep.setRow{ps:List Pc}(h:Sep ps W)(i:Nat)(hi:ps[i]?=some (Pc.blk g t cs))(cs':Array Value):Sep (ps.set i (Pc.blk g t cs')) (W.setRow g cs'):=
 h.upd (own:=λk=>k=g) i hi (Turns.setRow (own:=λk=>k=g) rfl cs') (λ_ Z3 _=>Z3) ((h.blk i hi).setRow cs') (λ_ Z3=>.inl Z3)
theorem ie{o:Oper}{a:Act}{K:Act->World->Prop}{Q:Exit->Act->World->Prop}{G8:Prop}{ops:Array Oper}(Uz:o.guard=none)(ty:TypeId)(x y:Operand)(YT:o.op=.store ty x y)(g:Nat){cells:Array Value}(Z4:a.eval x=Zn g)(ZJ:a.eval y=.agg cells)(ZH:Zv W g t cs)(hi:(P.info? ty).map (·.size)=some cells.size)(hold:cs.size=cells.size)(Z7:cells.all (·.oneCell')=true)(h:K (a.put o.dst undef) (W.setRow g cells)):if Region.wanted o (yielded ops a.tmps)=true then Oper.wp P o a W K Q else G8:=by
 rw[Y0 (by simp[Region.wanted,Uz])];exact wp_store_row ty x y YT g cells Z4 ZJ t cs ZH hi hold Z7 h
end
theorem acg(a b:Value)(xs:List (List UInt8))(w:World)(YZ:XC w a xs)(Z8:XC w b xs)(ZY:xs.length<=16777216):
  Calls prog 28 #[a,b] w λe w'=>e=.returned (.bool true)/\Z6 w w':=by
 have vD:=bx YZ;have wS:=bx Z8;obtain⟨XH,ca,rfl,-⟩:=YZ.slice;obtain⟨qh,YQ,rfl,-⟩:=Z8.slice;obtain⟨N,Zp⟩:∃N,xs.length=N:=⟨_,rfl⟩
 rw[Zp]at ZY⊢;have ZE:=bx Zp;clear YZ Z8 Zp
 go_in
 go_wp2
 go_loopw[5] (λi wr=>∃k n:Nat,k<=N/\i=Z9 k/\wr=w.drewN n) (λi _=>N-(intOf i).toNat)
 ·exact⟨0,0,by omega,rfl,rfl⟩
 obtain⟨k,n,Z3,rfl,rfl⟩:=hrel
 by_cases Zu:k<N
 ·obtain⟨x,Z4⟩:=Yg xs k (by rw[ZE.o];omega);have Xq:xs≠[]:=by grind
  obtain⟨XD,UC,BT,UV,N9,RK,R0,T3⟩:=vD.o.get Xq;rw[ZE.o]at UV N9;obtain⟨rfl,rfl⟩:=XN UV;obtain⟨ll,VZ,Dn,Yn,ZZ,Zz,Zb,Yf⟩:=wS.o.get Xq;rw[ZE.o]at Yn ZZ;obtain⟨rfl,rfl⟩:=XN Yn;have c1:=T3 k x Z4;have c2:=Yf k x Z4;unfold maxLen at RK Zz;clear UV T3 Yn Yf Z4 Xq
  go_wp2
  go_region
  go_wp2
  go_roundw
  ·exact⟨k+1,n+1,Zu,by go_num,rfl⟩
  grind[intOf]
 go_wp2
 go_ret
 exact⟨rfl,Po w n⟩
