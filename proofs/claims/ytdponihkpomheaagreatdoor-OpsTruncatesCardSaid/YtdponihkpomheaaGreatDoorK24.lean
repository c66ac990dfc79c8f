/- Texts of this claim. -/
import Derived.Test.YtdponihkpomheaaGreatDoorCards
import Derived.Test.YtdponihkpomheaaGreatDoorTie
import Derived.OpenShut
import Derived.Deep.DeepHandedRow
import Derived.Deep.DeepWitnessRowRef
import Derived.Below
import Derived.ChangeSame
import Derived.WideKeyArgs
import Derived.Lib.Join
import Derived.Test.YtdponihkpomheaaGreatDoorK23

set_option maxRecDepth 100000
set_option maxHeartbeats 16000000
namespace Go.Proofs.YtdponihkpomheaaGreatDoor
open Go.RowKit
open Go.Proofs.Tryz
namespace C
theorem b6{g:Ga}{s:List UInt8}(_:aA g=false):aG g s=150:=by
 grind[aG]
end C
attribute[local go_sem] Oper.semAt_some
theorem atY(A:Nat->Addr)(B:Nat)(v:Value)(g:C.Ga)(s:ByteArray)(w:World)(Z2:Qy w v g)(Z0:Sr g.t)(hw:Pp g.w)(ZY:s.size<=800)(YN:E A B w)(XU:Ed A B w)(Vg:Eg A B w)(hB:B<=w.heap.size):
  Calls prog 31 #[v,.string s] w λe w'=>e=.returned (.tuple #[Z9 (C.ah g s.data.toList),Z9 (C.aG g s.data.toList)])/\Z6 w w':=by
 have Vb:=bx (λW(h:Z6 w W)=>Z2.below h);obtain⟨Yk,ZP⟩:∃n,n=g.t.n:=⟨_,rfl⟩
 obtain⟨wd,XS⟩:∃b,b=g.w.wide:=⟨_,rfl⟩
 obtain⟨gk,V8⟩:∃k,k=g.k:=⟨_,rfl⟩
 obtain⟨pi,YM,Y2,Zo,Za,ZD,bv,rfl,Z7,Z5⟩:=Z2;rw[<-ZP,<-XS,<-V8]at Vb;rw[<-ZP,<-XS,<-V8];obtain⟨V,ZO⟩:∃V,V=w.alloc (.cells #[Z9 Yk,pi,YM,Y2,Zo,Za,ZD,bv,.bool wd,Z9 gk] 57):=⟨_,rfl⟩
 have ZR:=bx (aB ZO);have Ze:=bx (aK ZO);have ZF:=bx (λW(h:Z6 V W)=>Ze.o.d10 h);have ZN:=bx ZO;have XW:=bx (ZR.o.trans ((Xl V (.cells #[.string s,Z9 2000] 122)).mono ZR.o.size));have Tc:=bx (alu V s 2000 122);have vw:=hB;have Tq:∀W,Z6 w W->E A B W/\Ed A B W/\Eg A B W/\B<=W.heap.size:=λW h=>⟨YN.below (h.mono hB),XU.below (h.mono hB),Vg.below (h.mono hB),XJ hB h.size⟩
 have UL:=bx Tq;have G2:=bx (hc A B _ (.slice (some ⟨V.heap.size,0,none⟩) 1 1) g [(s,2000)] _ (Vb.o _ XW.o) Z0 hw (Tq _ XW.o).1 (Tq _ XW.o).2.1 (Tq _ XW.o).2.2.1 (Tq _ XW.o).2.2.2);have Uk:=bx (aaS A B _ (.slice (some ⟨V.heap.size,0,none⟩) 1 1) g _ (Vb.o _ XW.o) Z0 hw (Tq _ XW.o).1 (Tq _ XW.o).2.1 (Tq _ XW.o).2.2.1 (Tq _ XW.o).2.2.2);have HN:=bx (λW(h:Z6 w W)=>afd A B 0 (by decide) W (Tq W h).1);obtain⟨Zd,Zx,Zr,Zk,Zl,Zg,XK,W9,W8,W7,YS⟩:=ZF.o V YU;have HH:=bx (λ(WG:C.aA g=true) W Ya hm pi YM Y2 Zo Za ZD bv (h:Z6 w W) (Xv:Mt W Ya hm pi YM Y2 Zo Za ZD bv g)=>abV A B Ya hm pi YM Y2 Zo Za ZD bv g s _ W Xv Z0 hw WG ZY (Tq W h).1 (Tq W h).2.1 (Tq W h).2.2.1 (Tq W h).2.2.2 rfl)
 cases WG:C.aA g with
 |false=>
  have ZK:=bx (show C.ah g s.data.toList=0/\C.aG g s.data.toList=150 by
   have h:=C.b6 (s:=s.data.toList) WG;grind[C.ah])
  rw[ZK.o.1,ZK.o.2];have Uk:=bx (Uk.o WG);clear G2 HH Z7 Z5 ZO Z0 hw ZP XS V8 YN XU Vg hB WG Tq vw ZY
  go_in
  go_upto_region 1 with(fail)
  rw[<-ZN.o];go_wp2_with fail;refine X7 Uk.o XW.o λZV ZW=>?_
  have NI:=bx (HN.o ZV ZW.o);clear Zd Zx Zr Zk Zl Zg XK W9 W8 W7 YS;unfold PE at NI⊢;go_wp2_with fail;refine YW NI.o ?_
  go_wp2
  go_ret2
  exact⟨rfl,ZW.o⟩
 |true=>
  have ZK:=bx (show C.ah g s.data.toList=C.aj g (C.ab g.t s.data.toList) (C.ab g.t s.data.toList).length/\C.aG g s.data.toList=0 by
   have h:=C.bd (s:=s.data.toList) WG (by rw[<-size_eq];omega);unfold C.ah;omega)
  rw[ZK.o.1,ZK.o.2];have HH:=bx (HH.o WG);generalize C.aj g (C.ab g.t s.data.toList) (C.ab g.t s.data.toList).length=res at HH⊢;have G2:=bx (G2.o WG Tc.o (by simp) (by intro x Z4;rw[Pe.1 Z4];show(s.size:Int)<=2000;omega));clear Uk Z7 Z5 ZO Z0 hw ZP XS V8 YN XU Vg hB Tq vw
  go_in
  go_upto_region 1 with(fail)
  rw[<-ZN.o];go_wp2_with fail;refine G2.o.mono ?_;rintro e ZV ⟨⟨Ya,hm,E5,Ew,Eu,EU,Fs,Jw,Jx,rfl,Xv⟩,ZZ⟩;have ZW:=Zw XW ZZ;have RB:=bx Xv;clear ZZ Xv Zd Zx Zr Zk Zl Zg XK W9 W8 W7 YS;have UH:=bx (HH.o ZV Ya hm E5 Ew Eu EU Fs Jw Jx ZW.o RB.o);clear HH;go_wp2_with fail;refine X7 UH.o ZW.o λ_ Zt=>?_
  go_wp2
  go_ret2
  exact⟨rfl,Zt.o⟩
namespace C
theorem abi(g:Ga)(s:List UInt8)(h:aG g s=0)(k:Nat):(((ae g.t s).take k).flatten).length<=3*s.length:=by
 obtain⟨Z7,Z5⟩:=mw h;have e:(ae g.t s).flatten=M.fix s:=by
  unfold ae;rw[Y0 (bY Z7 Z5),aaq (QR g.t s).2,cg]
 have ZS:((ae g.t s).take k).flatten++((ae g.t s).drop k).flatten=(ae g.t s).flatten:=by rw[<-JZ,I0]
 have ZG:=congrArg List.length ZS;rw[WR,e]at ZG;have Zi:=ba s;omega
end C
attribute[local go_sem] Oper.semAt_some
namespace C
theorem an7{xs:List Int}{ns:List Nat}(ZT:Ku xs.length ns):places xs ns=(items xs ns).map (·.1)++[(U.textOf xs).length]:=by
 have ZP:=ZT.ne;have hl:=afn (xs:=xs) ZT;refine List.ext_getElem (by rw[c8,WR,X4,c9];grind) (λi Z7 _=>?_);rw[c8]at Z7;have Zq:(places xs ns)[i]'(by omega)=(places xs ns).getD i 0:=by grind
 rw[Zq]
 by_cases hi:i+1<ns.length
 ·have YP:=l8 xs ns hi;rw[List.getElem_append_left (by grind),List.getElem_map,Fj xs ns (by omega)];grind
 have Yb:i=ns.length-1:=by omega
 subst Yb;rw[List.getElem_append_right (by simp[c9]),hl];simp
end C
open Go.Shelf
attribute[local go_sem] Oper.semAt_some
def IW(VZ:Nat)(W0:World)(v:Value)(l:List Int):List Pc:=Pc.blk VZ 22 #[v]::RO VZ W0 v l
theorem aej{VZ:Nat}{W0 W W':World}{v:Value}{l:List Int}{own:Nat->Prop}(h:Sep (IW VZ W0 v l) W)(ZM:Turns own W W')(Z7:¬own VZ)(Z5:∀g,v.ownBlock=some g->¬own g)(ZS:∀k,k<VZ->¬own k):Sep (IW VZ W0 v l) W':=h.keep ZM (λ_ hp k Z3=>by
 unfold IW RO at hp;simp only[T7,J0,or_false]at hp
 rcases hp with rfl|rfl|rfl
 ·rw[show k=VZ from Z3];exact Z7
 ·exact Z5 k Z3
 exact ZS k Z3)
theorem asj(A:Nat->Addr)(B:Nat)(v:Value)(t:Tab)(s:ByteArray)(w:World)(Z2:TabAt w v t)(Z0:Sr t)(_:s.size<=800)(YN:E A B w)(XU:Ed A B w)(Vg:Eg A B w)(hB:B<=w.heap.size)(he:Vn t s.data.toList=0):
  Calls prog 94 #[v,.string s] w λe w'=>(∃Zy,e=.returned (.tuple #[Zy,Z9 0])/\Y6 w' Zy ((C.aQ t s.data.toList).map λn:Nat=>(n:Int)))/\Z6 w w':=by
 have VE:=bx (λW(h:Z6 w W)=>Z2.below h);obtain⟨pi,YM,Y2,Zo,Za,rfl,Z7,Z5,ZS,ZG,Zi⟩:=Z2;obtain⟨V,ZO⟩:∃V,V=w.alloc (.cells #[Z9 t.n,pi,YM,Y2,Zo,Za] 31):=⟨_,rfl⟩
 have ZR:=bx (aB ZO);have Ze:=bx (aK ZO);have ZF:=bx (λW(h:Z6 V W)=>Ze.o.d6 h);have ZN:=bx ZO;have R1:=bx Z0;have US:=bx (λW(h:Z6 w W)=>show E A B W/\Ed A B W/\Eg A B W/\B<=W.heap.size from⟨YN.below (h.mono hB),XU.below (h.mono hB),Vg.below (h.mono hB),XJ hB h.size⟩);have X9:=bx (nC A B _ t s V (VE.o V ZR.o) Z0 (by omega) (US.o V ZR.o).1 (US.o V ZR.o).2.1 (US.o V ZR.o).2.2.1 (US.o V ZR.o).2.2.2 he);have GM:=bx (λW(h:Z6 w W)=>show TQ W Y2 t.r/\Oh W (.agg #[Zo,Za]) t.m from⟨ZS.below h,Zo,Za,rfl,ZG.below h,Zi.below h⟩);have Wg:=bx (show(T5 t.p (Xw s.data.toList)).length<=900 by unfold T5;rw[X4];have:=OO s.data.toList;grind[size_eq]);have JF:=bx (show OI t.r t.m t.n=true by
  have h:=(vX he).1;grind[Td])
 have Ll:=bx (show KI t.r t.m t.n.toNat (T5 t.p (Xw s.data.toList))=(Wc t s.data.toList).map (λn:Nat=>(n:Int))from(QR t s.data.toList).1);have Xx:=bx (QR t s.data.toList).2;have OA:=bx (IC s.data.toList);have Mi:=bx (C.cg s.data.toList);have Se:=bx (show(M.fix s.data.toList).length<=8000 by have:=C.ba s.data.toList;grind[size_eq]);have VO:=bx (show(C.aQ t s.data.toList).map (λn:Nat=>(n:Int))=(C.items (Xw s.data.toList) (Wc t s.data.toList)).map (λy=>(y.1:Int))++[((M.fix s.data.toList).length:Int)] by
  unfold C.aQ;rw[Y0 he,C.an7 (QR t s.data.toList).2,T9,IZ,<-C.cg]
  rfl)
 have Iz:=bx (show(C.items (Xw s.data.toList) (Wc t s.data.toList)).length<=1000000 by
  rw[C.c9];have Z7:=(QR t s.data.toList).2.len;have Z5:=OO s.data.toList;grind[size_eq])
 clear Z7 Z5 ZS ZG Zi ZO Z0 he YN XU Vg hB;obtain⟨Yk,ZP⟩:∃n,n=t.n:=⟨_,rfl⟩
 rw[<-ZP]at ZN Ze VE ZF X9 JF Ll⊢;clear ZP;obtain⟨Zd,Zx,Zr,Zk,Zl,Zg,YS⟩:=ZF.o V YU;refine(callsIn_wide (n:=9)).1 (callsIn_of_wp_marks func94 rfl trivial (wpIn_wide.2 ?_));simp only[ntmps94,My,U3,SK,Nat.reduceAdd,Nat.reduceSub,Mu,Mg,Og,Mo,RQ,SI]
 go_upto_region 1 with(fail)
 rw[<-ZN.o];go_wp2_with fail;refine X9.o.mono ?_;rintro e ZV ⟨E5,Ew,Eu,EU,Fs,VU,Yd,FA,rfl,XY,BH,ZZ⟩;obtain⟨rfl,rfl,rfl,rfl,rfl⟩:pi=E5/\YM=Ew/\Y2=Eu/\Zo=EU/\Za=Fs:=by grind
 have WH:=bx XY;have oY:=bx BH;have ZW:=Zw ZR ZZ;clear FA XY BH ZZ Zd Zx Zr Zk Zl Zg YS;go_wp2_with fail;refine YW (acJ _ _) ?_;go_wp2_with fail;have XI:=bx (show Sep (Pc.blk (ZV.heap.size+1) 142 #[Zn VU]::IW ZV.heap.size ZV Z1 []) ((ZV.alloc (.cells #[Z1] 22)).alloc (.cells #[Zn VU] 142)) by
  have h:=((Sep.start ZV).ak 22 #[Z1]).aH ZV.heap.size 1 3;have Z5:=(Sep.perm (List.Perm.swap _ _ _) h).ak 142 #[Zn VU];rw[World.size_alloc]at Z5;exact Z5)
 have JD:((ZV.alloc (.cells #[Z1] 22)).alloc (.cells #[Zn VU] 142)).heap.size=ZV.heap.size+2:=by simp
 generalize(ZV.alloc (.cells #[Z1] 22)).alloc (.cells #[Zn VU] 142)=Xs at XI JD⊢;have Wy:=bx JD;have XW:=bx (show Z6 ZV Xs from XI.o.tail.bel (n:=ZV.heap.size) (W0:=ZV) (by simp[IW,RO]));have YA:=bx (bt ZW.o XW.o);have pU:=WH.o.lt;have rv:=ZW.o.size;have pe:=bx (US.o ZV ZW.o).2.2.2;refine(wpIn_wide (n:=9)).1 (qL (α:=Nat×List UInt8) (gf:=157) (lb:=#[Zn (ZV.heap.size+1)]) rfl (enters_of func157 (by rfl) rfl)
  (encs:=λx:Nat×List UInt8=>#[Z9 (x.1:Int),.string (bs x.2)]) (own:=λ_=>False) (keep:=λk=>k<Xs.heap.size/\k≠ZV.heap.size) (ok:=λZC x _=>∃rest,C.items (Xw s.data.toList) (Wc t s.data.toList)=ZC++x::rest) (S:=λVi _=>Vi=C.items (Xw s.data.toList) (Wc t s.data.toList))
  (λk Z3=>by grind)
  (λYH ZM=>by
   have RI:=ZM.below Ys (λ_ h=>h.elim);have Vt:=bt YA.o RI;have Af:=bt XW.o RI;have hcut:=l7 A B VU Yk pi YM Y2 Zo Za (.string (bs (M.fix s.data.toList))) Yd t.r t.m _ YH (WH.o.below Af WH.o.lt) (GM.o YH Vt).1 R1.o.r1 R1.o.r2 (GM.o YH Vt).2 R1.o.m (oY.o.below Af) Wg.o (US.o YH Vt).2.1 (US.o YH Vt).2.2.1 (US.o YH Vt).2.2.2 JF.o;rw[Ll.o]at hcut;exact acU 7 A B ZV.heap.size Xs.heap.size (ZV.heap.size+1) VU _ _ _ _ _ _ _ _ _ _ _ YH ZM.size pe.o (by omega) (US.o YH Vt).1 ((XI.o.blk 0 rfl).below RI (XI.o.blk 0 rfl).lt) (WH.o.below Af WH.o.lt) ⟨by omega,by omega,by omega,by omega⟩ hcut Mi.o OA.o Xx.o Se.o)
  (λ_=>rfl)
  (λWw ZC W=>∃v,Sep (IW ZV.heap.size ZV v (ZC.map (λy=>(y.1:Int)))) W/\(∀g,v.ownBlock=some g->Ww<=g)/\Xs.heap.size+2<=Ww)
  (λ_ _ _ _=>False) ?UW (λ_ _ _ _ _ h _=>h) (λ_ _ _ _ h _=>h) (λWw h=>⟨Z1,XI.o.tail,λg ZH=>(by cases ZH),h⟩)
  (λx a1 W=>a1={tmps:=#[.agg #[Z9 Yk,pi,YM,Y2,Zo,Za],.string s,Zn (w.heap.size),undef,Z1,Z9 0,Zn VU,.nilIface,Zn (ZV.heap.size),Z9 (x.1:Int),.tuple #[Zn VU,.nilIface],.agg #[Z9 Yk,pi,YM,Y2,Zo,Za],.string s,.tuple #[Zn VU,.nilIface],Zn VU,.nilIface,.nilIface,.bool false,undef,undef,Zn VU,.func (.func 157) #[] #[Zn (ZV.heap.size+1)],Z9 (x.1:Int),.string (bs x.2),undef,undef,undef,undef,undef,undef,undef,undef,undef,undef,undef,undef],defers:=[]})
  (λ_ _ _ _ h _=>h) ?assign ?body ?done (λ_ _ _ _ _ h _=>h.elim) (λ_ _ _ h _=>h))
 case UW=>
  rintro Ww ZC W W' ⟨v,Z7,Z5,ZS⟩ ZM;exact⟨v,aej Z7 ZM (by grind) (λg ZH=>by grind) (λk Z3=>by grind),Z5,ZS⟩
 case assign=>
  intro x W K Yj Xc
  gi_wp2
  exact Xc _ _ (Turns.refl _ _) rfl
 case body=>
  rintro Ww ZC x a1 W0 W N xS GZ um ⟨v,Z7,Z5,ZS⟩ ZM Zp ⟨rest,YB⟩ rfl;have FS:=ZM.size;have F0:=λg ZH=>((Z7.row 1 rfl).lt g ZH).2
  have PD:=bx (aej Z7 ZM (by grind) (λg ZH=>by grind) (λk Z3=>by grind));have Q2:=bx (λg ZH=>show Ww<=g/\g<W0.heap.size from⟨Z5 g ZH,F0 g ZH⟩);have YV:=(PD.o.blk 0 rfl).q0;have f0:=(PD.o.blk 0 rfl).frozen 0;have S4:=(PD.o.blk 0 rfl).lt;have Kb:(ZC.map (λy=>(y.1:Int))).length<=1000000000:=by
   have h:=Iz.o;grind
  have PS:=bx YB;have aiS:=bx ZM;clear Z7 Z5 ZM YB F0
  gi_wp2_with (gi_at_builtin;refine aak (u:=Z9 (x.1:Int)) rfl _ _ 22 rfl OJ PD.o 1 rfl rfl rfl rfl Kb (by omega) (by omega) ?_;rintro Zy Zh Ri ⟨Ui,EP,rfl,-,-⟩ B8 uX;have WT:=bx Ri;have NH:=bx B8;have pm:=bx uX;have c3:=(Ri.blk 0 rfl).q0;have f3:=(Ri.blk 0 rfl).frozen 0;have Ez:=(Ri.blk 0 rfl).lt;clear Ri B8 uX)
  have Yo:=(NH.o.mono (own':=λk=>v.ownBlock=some k\/k=ZV.heap.size) (λk h=>Or.inl h)).trans ((Turns.setCell (own:=λq=>q=ZV.heap.size) Zh (p:=⟨ZV.heap.size,0,none⟩) rfl (.slice (some ⟨Ui,0,none⟩) (ZC.length+1) EP)).mono (λk h=>Or.inr h));refine⟨Yo.mono (λk Z3 _=>?_),.slice (some ⟨Ui,0,none⟩) ((ZC.map (λy=>(y.1:Int))).length+1) EP,?_,λg ZH=>?_,ZS⟩
  ·rcases Z3 with Z3|Z3
   ·have WK:=Q2.o k Z3
    omega
   omega
  ·have h:=WT.o.set 0 rfl 0 (.slice (some ⟨Ui,0,none⟩) (ZC.length+1) EP);have e:(ZC++[x]).map (λy=>(y.1:Int))=ZC.map (λy=>(y.1:Int))++[(x.1:Int)]:=by simp
   rw[e];unfold IW RO;rw[WR,T9];simp only[X4,U3,SK]at h⊢;exact h
  rcases pm.o with h|h
  ·rw[h]at ZH;exact(Q2.o g ZH).1
  grind
 case done=>
  intro Ww xs W Yj hS ⟨v,Z7,Z5,ZS⟩ XU;have YV:=(Z7.blk 0 rfl).q0;have Xf:=bx XU;have TW:=bx (show Sep (IW ZV.heap.size ZV v ((C.items (Xw s.data.toList) (Wc t s.data.toList)).map (λy=>(y.1:Int)))) W by
   grind)
  have U5:=bx Z5;clear Z7 Z5 XU hS;have TZ:=bx (TW.o.tail.bel (n:=ZV.heap.size) (W0:=ZV) (by simp[RO]));have Xm:=bx (Sep.drew (ps:=Pc.obj Xs.heap.size (.deferred (some []))::IW ZV.heap.size ZV v _) ⟨Xf.o,λq Zs k Z3 FV=>by
   have Z3:k=Xs.heap.size:=Z3;unfold IW RO at Zs;simp only[T7,J0,or_false]at Zs
   rcases Zs with rfl|rfl|rfl
   ·have:k=ZV.heap.size:=FV;omega
   ·have:=U5.o k FV;omega
   have:k<ZV.heap.size:=FV;omega,TW.o⟩)
  have Am:=bx (show Zv W.drew VU 218 #[Z9 Yk,pi,YM,Y2,Zo,Za,.string (bs (M.fix s.data.toList)),Yd]from(WH.o.below TZ.o WH.o.lt).below (VQ W 1) (WH.o.below TZ.o WH.o.lt).lt);have WP:=(Xm.o.bel (n:=ZV.heap.size) (W0:=ZV) (by simp[IW,RO])).size;have U2:=bx (λ(W':World)(h:Below W.drew.heap.size W.drew W')=>show ZQ W' ZV.heap.size 0=some v/\ZQ W' VU 6=some (.string (bs (M.fix s.data.toList)))from⟨(h.cell (p:=⟨ZV.heap.size,0,none⟩) (Xm.o.blk 1 rfl).lt).trans ((Xm.o.blk 1 rfl).q0),(h.cell (p:=⟨VU,6,none⟩) Am.o.lt).trans (Am.o.q6)⟩);have YF:=bx (U2.o W.drew YU);have SH:=bx (show((C.items (Xw s.data.toList) (Wc t s.data.toList)).map (λy=>(y.1:Int))).length<=1000000000 by rw[X4];have:=Iz.o;omega);have UB:(bs (M.fix s.data.toList)).size=(M.fix s.data.toList).length:=Wu _;generalize(C.items (Xw s.data.toList) (Wc t s.data.toList)).map (λy=>(y.1:Int))=Yc at VO TW Xm SH;clear YV JD;go_wp2_with fail;refine Vv 9 (λW'=>ZQ W' ZV.heap.size 0=some v/\ZQ W' VU 6=some (.string (bs (M.fix s.data.toList)))) (by rfl) ?_;generalize W.drew=Yl at Xm Am WP U2 YF⊢;refine Vp [0,1,2,3,4,5] ?_
  iterate 6 (refine Vq ?_ rfl YF.o ?_ ?_;rotate_left;·rintro w ⟨q1,q2⟩;go_simp;try with_reducible rfl)
  refine Vr ?_;refine Y1 6 rfl λY7 ZX=>?_
  go_simp;refine ZX.out _ _ (λ_=>U2.o _ (Xl Yl _)) ?_;clear ZX Y7;refine Y1 7 rfl λY7 ZX=>?_
  refine H6 (u:=Z9 ((M.fix s.data.toList).length:Int)) rfl _ _ 22 rfl OJ Xm.o 2 rfl rfl (by rfl) rfl SH.o (by omega) WP ?_;rintro v6 XA WC -;have WQ:=bx WC;have VN:=bx (WC.bel (n:=ZV.heap.size) (W0:=ZV) (by simp[IW,RO]));have Tj:=bx (show XA.cell? ⟨ZV.heap.size,0,none⟩=some v/\XA.cell? ⟨VU,6,none⟩=some (.string (bs (M.fix s.data.toList)))from⟨(WC.blk 1 rfl).q0,(WH.o.below VN.o WH.o.lt).q6⟩);clear WC;refine ZX.out _ _ (λ_=>Tj.o) ?_;clear ZX Y7;refine Y1 8 rfl λY7 ZX=>?_
  go_simp;refine ZX.out _ _ (λ_=>Tj.o) ?_;clear ZX Y7;refine Y1 9 rfl λY7 ZX=>?_
  go_simp;refine ZX.out _ _ (λh=>by cases h) ?_;clear ZX Y7;refine kD ?_ _;go_wp2_with fail;have awX:XA.heap[Xs.heap.size]?=some (.deferred (some [])):=WQ.o.at' 0 rfl;refine⟨by simp,.inl ⟨_,_,rfl,run_takeDeferred awX,?_⟩⟩;refine⟨_,results_tmp2 rfl _ _ _,?_⟩;have GE:=Turns.putObj (own:=λk=>k=Xs.heap.size) XA rfl (.deferred none);have ON:=WQ.o.tail.keep GE (λq Zs k Z3 e=>WQ.o.2.1 q Zs k e Z3);have awK:Y6 (XA.putObj Xs.heap.size (.deferred none)) v6 (Yc++[((M.fix s.data.toList).length:Int)]):=Y6.au (n:=Yc.length+1) (T:=3) (base:=ZV.heap.size) (by
   have h:=ON.row 1 rfl;grind) (by simp)
  exact⟨⟨_,rfl,by rw[VO.o];exact awK⟩,ZW.o.trans ((ON.bel (n:=ZV.heap.size) (W0:=ZV) (by simp[IW,RO])).mono ZW.o.size)⟩
section
attribute[local go_sem] Oper.semAt_some
theorem am2(A:Nat->Addr)(B:Nat)(v:Value)(t:Tab)(s:ByteArray)(a:Int)(w:World)(Z2:TabAt w v t)(Z0:Sr t)(ZY:s.size<=800)(YN:E A B w)(XU:Ed A B w)(Vg:Eg A B w)(hB:B<=w.heap.size)(he:Vn t s.data.toList=0):
  Calls prog 37 #[v,.string s,Z9 a] w λe w'=>e=.returned (.tuple #[.bool (C.isA t s.data.toList a),Z9 0])/\Z6 w w':=by
 have VE:=bx (λW(h:Z6 w W)=>Z2.below h);obtain⟨pi,YM,Y2,Zo,Za,rfl,Z7,Z5,ZS,ZG,Zi⟩:=Z2;obtain⟨V,ZO⟩:∃V,V=w.alloc (.cells #[Z9 t.n,pi,YM,Y2,Zo,Za] 31):=⟨_,rfl⟩
 have ZR:=bx (aB ZO);have Ze:=bx (aK ZO);have ZF:=bx (λW(h:Z6 V W)=>Ze.o.d6 h);have ZN:=bx ZO;have VB:=bx (asj A B _ t s V (VE.o V ZR.o) Z0 ZY (YN.below (ZR.o.mono hB)) (XU.below (ZR.o.mono hB)) (Vg.below (ZR.o.mono hB)) (XJ hB ZR.o.size) he);have S0:=bx (show C.isA t s.data.toList a=((C.aQ t s.data.toList).map (λn:Nat=>(n:Int))).any (·==a) by grind[C.isA]);have TK:=qT t s.data.toList;rw[<-size_eq,<-X4 (f:=λn:Nat=>(n:Int))]at TK;generalize(C.aQ t s.data.toList).map (λn:Nat=>(n:Int))=ps at VB S0 TK;generalize C.isA t s.data.toList a=res at S0⊢;have aix:=bx (show decide (a∈ps)=res by
  rw[S0.o,Lx,decide_eq_true_iff,NS];simp)
 obtain⟨Yk,ZP⟩:∃n,n=t.n:=⟨_,rfl⟩
 rw[<-ZP]at ZN Ze VE ZF VB⊢;clear Z7 Z5 ZS ZG Zi ZO Z0 ZP YN XU Vg hB he;obtain⟨Zd,Zx,Zr,Zk,Zl,Zg,YS⟩:=ZF.o V YU
 go_in
 go_upto_region 1 with(fail)
 rw[<-ZN.o];go_wp2_with fail;refine VB.o.mono ?_;rintro e ZV ⟨⟨v1,rfl,WV⟩,ZZ⟩;have Pq:=bx (avV v1 ps a ZV WV (by omega));have ZW:=Zw ZR ZZ;clear ZZ WV Zd Zx Zr Zk Zl Zg YS;go_wp2_with fail;refine YW Pq.o ?_
 go_wp2
 go_ret2
 exact⟨OB (rz aix.o) rfl,ZW.o⟩
theorem NY(a b:List UInt8):bs a++bs b=bs (a++b):=by
 rfl
theorem au8(A:Nat->Addr)(B Ya hm:Nat)(pi YM Y2 Zo Za ZD bv:Value)(g:C.Ga)(h t:List UInt8)(Zj:Int)(w:World)(Xv:Mt w Ya hm pi YM Y2 Zo Za ZD bv g)(Z0:Sr g.t)(hw:Pp g.w)(Z8:C.aA g=true)(ZY:h.length+t.length<=800)(YN:E A B w)(XU:Ed A B w)(Vg:Eg A B w)(hB:B<=w.heap.size):
  Calls prog 202 #[Zn Ya,.string (bs h),.string (bs t),Z9 Zj] w λe w'=>e=.returned (.bool (C.aW g h t Zj))/\Z6 w w':=by
 have W1:(bs (h++t)).size<=800:=by rw[Wu,WR];exact ZY
 have S0:=bx (am2 A B (.agg #[Z9 g.t.n,pi,YM,Y2,Zo,Za]) g.t (bs (h++t)) (h.length:Int) w Xv.tab Z0 W1 YN XU Vg hB (C.bY Z8 (by rw[Ky,WR];omega)));have TR:=bx (λW(Yj:Z6 w W)=>abV A B Ya hm pi YM Y2 Zo Za ZD bv g (bs (h++t)) _ W (Xv.below Yj) Z0 hw Z8 W1 (YN.below (Yj.mono hB)) (XU.below (Yj.mono hB)) (Vg.below (Yj.mono hB)) (XJ hB Yj.size) rfl);have ZK:=bx (show C.aW g h t Zj=(C.isA g.t (h++t) (h.length:Int)&&decide (C.aj g (C.ab g.t (h++t)) (C.ab g.t (h++t)).length<=Zj)) by
  unfold C.aW C.ah;rw[Y0 (C.bd Z8 (by grind))])
 rw[ZK.o];rw[Ky]at S0 TR;have Z3:=Xv.blk;have Pi:=NY h t;have BC:=Wu h;have Tg:(bs h).size+(bs t).size<=800:=by grind
 generalize C.isA g.t (h++t) (h.length:Int)=is at *;generalize C.aj g (C.ab g.t (h++t)) (C.ab g.t (h++t)).length=sm at *;generalize g.t.n=Yk at Z3 S0;generalize g.w.wide=wd at Z3;generalize g.k=gk at Z3;have YV:=Z3.q0;have c1:=Z3.q1;have c2:=Z3.q2;have c3:=Z3.q3;have VG:=Z3.q4;have Wv:=Z3.q5;have li:=Z3.lt;clear Xv Z0 Z8 YN XU Vg hB Z3 ZY W1 hw ZK
 go_in
 go_wp2_with fail
 try rw[Pi]
 try rw[BC]
 refine Y3 S0.o λZV ZZ=>?_
 have ZW:=bx ZZ;clear ZZ YV c1 c2 c3 VG Wv li
 cases is with
 |false=>
  go_wp2
  go_ret
  exact⟨rfl,ZW.o⟩
 |true=>
  have RB:=bx (TR.o ZV ZW.o);go_wp2_with fail
  try rw[Pi]
  refine X7 RB.o ZW.o λ_ Zt=>?_
  go_wp2
  go_ret
  exact⟨YG (by rfl),Zt.o⟩
end
namespace C
def wn(g:Ga)(s e:List UInt8)(n:Int):Nat->Option Nat
 |0=>none
 |k+1=>ct g s e n k
theorem ac4{g:Ga}{s e:List UInt8}{n:Int}{k:Nat}(h:aW g (headA g.t s k) (M.fix e) n=true):wn g s e n (k+1)=some k:=by
 cases k with
 |zero=>
  show(if aW g (headA g.t s 0) (M.fix e) n=true then some 0 else none)=some 0
  rw[Y0 h]
 |succ k=>
  show(if aW g (headA g.t s (k+1)) (M.fix e) n=true then some (k+1)else ct g s e n k)=some (k+1)
  rw[Y0 h]
theorem aem{g:Ga}{s e:List UInt8}{n:Int}{k:Nat}(_:aW g (headA g.t s k) (M.fix e) n=false):wn g s e n (k+1)=wn g s e n k:=by
 cases k with
 |zero=>
  show(if aW g (headA g.t s 0) (M.fix e) n=true then some 0 else none)=none
  grind
 |succ k=>
  show(if aW g (headA g.t s (k+1)) (M.fix e) n=true then some (k+1)else ct g s e n k)=ct g s e n k
  grind
theorem abZ{g:Ga}{s e:List UInt8}(_:aA g=false):b0 g s e=150:=by
 grind[b0]
theorem gn{g:Ga}{s e:List UInt8}(_:aA g=true)(_:s.length<=600)(_:e.length<=60):b0 g s e=0:=by
 grind[b0]
end C
attribute[local go_sem] Oper.semAt_some
theorem apN(A:Nat->Addr)(B:Nat)(v:Value)(g:C.Ga)(s e:ByteArray)(Zj:Int)(w:World)(Z2:Qy w v g)(Z0:Sr g.t)(hw:Pp g.w)(ZY:3*s.size+3*e.size<=800)(Xj:e.size<=60)(YN:E A B w)(XU:Ed A B w)(Vg:Eg A B w)(hB:B<=w.heap.size):
  Calls prog 115 #[v,.string s,.string e,Z9 Zj] w λX1 w'=>X1=.returned (.tuple #[Z9 ((C.aX g s.data.toList e.data.toList Zj).getD 0:Nat),.bool (C.aX g s.data.toList e.data.toList Zj).isSome,Z9 (C.b0 g s.data.toList e.data.toList)])/\Z6 w w':=by
 have Vb:=bx (λW(h:Z6 w W)=>Z2.below h);obtain⟨Yk,ZP⟩:∃n,n=g.t.n:=⟨_,rfl⟩
 obtain⟨wd,XS⟩:∃b,b=g.w.wide:=⟨_,rfl⟩
 obtain⟨gk,V8⟩:∃k,k=g.k:=⟨_,rfl⟩
 obtain⟨pi,YM,Y2,Zo,Za,ZD,bv,rfl,Z7,Z5⟩:=Z2;rw[<-ZP,<-XS,<-V8]at Vb;rw[<-ZP,<-XS,<-V8];obtain⟨V,ZO⟩:∃V,V=w.alloc (.cells #[Z9 Yk,pi,YM,Y2,Zo,Za,ZD,bv,.bool wd,Z9 gk] 57):=⟨_,rfl⟩
 have ZR:=bx (aB ZO);have Ze:=bx (aK ZO);have ZF:=bx (λW(h:Z6 V W)=>Ze.o.d10 h);have ZN:=bx ZO;have XW:=bx (ZR.o.trans ((Xl V (.cells #[.string s,Z9 600,.string e,Z9 60] 122)).mono ZR.o.size));have Tc:=bx (asB V s e 600 60 122);have vw:=hB;have Tq:∀W,Z6 w W->E A B W/\Ed A B W/\Eg A B W/\B<=W.heap.size:=λW h=>⟨YN.below (h.mono hB),XU.below (h.mono hB),Vg.below (h.mono hB),XJ hB h.size⟩
 have UL:=bx Tq;have G2:=bx (hc A B _ (.slice (some ⟨V.heap.size,0,none⟩) 2 2) g [(s,600),(e,60)] _ (Vb.o _ XW.o) Z0 hw (Tq _ XW.o).1 (Tq _ XW.o).2.1 (Tq _ XW.o).2.2.1 (Tq _ XW.o).2.2.2);have Uk:=bx (aaS A B _ (.slice (some ⟨V.heap.size,0,none⟩) 2 2) g _ (Vb.o _ XW.o) Z0 hw (Tq _ XW.o).1 (Tq _ XW.o).2.1 (Tq _ XW.o).2.2.1 (Tq _ XW.o).2.2.2);have HN:=bx (λW(h:Z6 w W)=>afd A B 0 (by decide) W (Tq W h).1);obtain⟨Zd,Zx,Zr,Zk,Zl,Zg,XK,W9,W8,W7,YS⟩:=ZF.o V YU;have OF:=bx (λ(WG:C.aA g=true) W Ya hm pi YM Y2 Zo Za ZD bv (h:Z6 w W) (Xv:Mt W Ya hm pi YM Y2 Zo Za ZD bv g)=>gN A B Ya hm pi YM Y2 Zo Za ZD bv g s W Xv Z0 WG (by omega) (Tq W h).1 (Tq W h).2.1 (Tq W h).2.2.1 (Tq W h).2.2.2);have HH:=bx (λ(WG:C.aA g=true) W Ya hm pi YM Y2 Zo Za ZD bv (Zm Es:List UInt8) (h:Z6 w W) (Xv:Mt W Ya hm pi YM Y2 Zo Za ZD bv g) (ZY:Zm.length+Es.length<=800)=>au8 A B Ya hm pi YM Y2 Zo Za ZD bv g Zm Es Zj W Xv Z0 hw WG ZY (Tq W h).1 (Tq W h).2.1 (Tq W h).2.2.1 (Tq W h).2.2.2);have KH:=bx (λW(h:Z6 w W)=>E7 A B e W (by omega) (Tq W h).1 (Tq W h).2.2.2)
 cases WG:C.aA g with
 |false=>
  have ZK:=bx (show C.aX g s.data.toList e.data.toList Zj=none/\C.b0 g s.data.toList e.data.toList=150 by
   have h:=C.abZ (s:=s.data.toList) (e:=e.data.toList) WG;grind[C.aX])
  rw[ZK.o.1,ZK.o.2];clear OF KH;have Uk:=bx (Uk.o WG);clear G2 HH Z7 Z5 ZO Z0 hw ZP XS V8 YN XU Vg hB WG Tq vw ZY
  go_in
  go_upto_region 1 with(fail)
  rw[<-ZN.o];go_wp2_with fail;refine X7 Uk.o XW.o λZV ZW=>?_
  have NI:=bx (HN.o ZV ZW.o);clear Zd Zx Zr Zk Zl Zg XK W9 W8 W7 YS;unfold PE at NI⊢;go_wp2_with fail;refine YW NI.o ?_;go_wp2_with fail
  go_ret3
  exact⟨rfl,ZW.o⟩
 |true=>
  have Rg:=C.bd (s:=s.data.toList) WG (by grind[size_eq]);have kQ:=C.gn (s:=s.data.toList) (e:=e.data.toList) WG (by grind[size_eq]) (by simp_all);have ZK:=bx (show C.aX g s.data.toList e.data.toList Zj=C.wn g s.data.toList e.data.toList Zj ((C.ae g.t s.data.toList).length+1)/\C.b0 g s.data.toList e.data.toList=0 by
   unfold C.aX;rw[Y0 kQ];exact⟨rfl,kQ⟩)
  rw[ZK.o.1,ZK.o.2];have Se:=bx (λk=>show(C.headA g.t s.data.toList k).length<=3*s.size by
   have h:=C.abi g s.data.toList Rg k;rw[<-size_eq]at h;exact h)
  have DT:=bx (show(M.fix e.data.toList).length<=3*e.size by have:=C.ba e.data.toList;simp_all);have RE:=bx (show(C.ae g.t s.data.toList).length<=1000 by
   rw[C.abG Rg,C.cD];have Z7:=(QR g.t s.data.toList).2.len;have Z5:=OO s.data.toList;grind[size_eq])
  have jb:=bx (λk=>show((C.ae g.t s.data.toList).take k).flatten=C.headA g.t s.data.toList k from rfl);have HH:=bx (HH.o WG);have OF:=bx (OF.o WG);have Wy:=bx ZY;have sC:=bx (λk=>C.ac4 (g:=g) (s:=s.data.toList) (e:=e.data.toList) (n:=Zj) (k:=k));have A8:=bx (λk=>C.aem (g:=g) (s:=s.data.toList) (e:=e.data.toList) (n:=Zj) (k:=k));have Ox:=bx (show C.wn g s.data.toList e.data.toList Zj 0=none from rfl);clear Rg ZK kQ;generalize C.wn g s.data.toList e.data.toList Zj=wn at *;generalize C.headA g.t s.data.toList=hda at *;generalize C.ae g.t s.data.toList=YJ at *;generalize M.fix e.data.toList=TC at *;obtain⟨n,ZP⟩:∃n,n=YJ.length:=⟨_,rfl⟩
  have ZE:=bx ZP;rw[<-ZP];clear ZP;have G2:=bx (G2.o WG Tc.o (by simp) (by grind));clear Uk Z7 Z5 ZO Z0 hw ZP XS V8 YN XU Vg hB Tq vw
  go_in
  go_upto_region 1 with(fail)
  rw[<-ZN.o];go_wp2_with fail;refine G2.o.mono ?_;rintro e ZV ⟨⟨Ya,hm,E5,Ew,Eu,EU,Fs,Jw,Jx,rfl,Xv⟩,ZZ⟩;have ZW:=Zw XW ZZ;have RB:=bx Xv;clear ZZ Xv Zd Zx Zr Zk Zl Zg XK W9 W8 W7 YS;have UH:=bx (OF.o ZV Ya hm E5 Ew Eu EU Fs Jw Jx ZW.o RB.o);have NO:=bx (λW Zm(h:Z6 ZV W)(ZY:Zm.length+TC.length<=800)=>HH.o W Ya hm E5 Ew Eu EU Fs Jw Jx Zm TC (bt ZW.o h) (RB.o.below h) ZY);clear HH OF;clear ZY Xj;go_wp2_with fail;refine UH.o.mono ?_;rintro Wz ZB ⟨⟨v2,rfl,SN,-⟩,Zz⟩;have Zt:=bx Zz;have Uv:=bx SN;clear Zz;obtain⟨Yr,lc,rfl,Sv,Ni⟩:=SN.slice;rw[<-ZE.o]at Sv Uv⊢;clear SN;go_wp2_with fail
  go_loopw[14] (λaxJ wr=>∃z:Int,axJ=Z9 z/\-1<=z/\z<=n/\Box (wn (n+1)=wn (z+1).toNat)/\Box (Z6 ZB wr)) (λaxJ _=>(intOf axJ+1).toNat)
  ·exact⟨_,rfl,by omega,by omega,⟨by rfl⟩,⟨Below.refl _ _⟩⟩
  obtain⟨z,rfl,Up,Vf,FP,Z8⟩:=hrel
  by_cases Zu:0<=z
  ·obtain⟨k,rfl⟩:∃k:Nat,z=k:=⟨z.toNat,by omega⟩
   have BL:k<=n:=by omega
   have Zq:((k:Int)+1).toNat=k+1:=by omega
   rw[Zq]at FP;have BB:(YJ.take k).length=k:=by rw[SW];have:=ZE.o;omega
   have oS:=bx (λW(h:Z6 ZB W)=>show Calls prog 70 #[.slice Yr k lc,.string (bs [])] W λe w'=>e=.returned (.string (bs (YJ.take k).flatten))/\Z6 W w' by
    have ZS:=Uv.o.below h;rw[ZE.o]at ZS;have Z5:=XC.take ZS k lc (by omega) Ys;rw[BB]at Z5;exact Cu _ _ W Z5 (by rw[jb.o];have:=Se.o k;have:=Wy.o;omega) (by rw[BB];have:=ZE.o;have:=RE.o;omega))
   have PI:k<=lc:=by omega
   rw[jb.o]at oS;have X3:=bx Z8.o;have YA:=bx (bt Zt.o Z8.o);have PW:=bx (show(hda k).length+TC.length<=800 by have:=Se.o k;have:=DT.o;have:=Wy.o;omega);have vp:=bx FP.o;have LP:=bx Vf
   cases MG:C.aW g (hda k) TC Zj with
   |true=>
    have DK:=bx (MG▸λW h=>NO.o W (hda k) h PW.o);have A9:=bx (vp.o.trans (sC.o k MG));clear Zq BB MG Z8 FP Up Vf;go_wp2_with fail;refine X7 (oS.o wr X3.o) YA.o λZh YY=>?_
    go_wp2_with fail;refine X7 (KH.o Zh (bt ZW.o YY.o)) YY.o λYL Ye=>?_
    go_wp2_with fail;refine X7 (DK.o YL Ye.o) Ye.o λYK X6=>?_
    go_wp2_with fail
    go_ret3
    exact⟨by rw[A9.o];rfl,bt ZW.o X6.o⟩
   |false=>
    have DK:=bx (MG▸λW h=>NO.o W (hda k) h PW.o);have A9:=bx (vp.o.trans (A8.o k MG));clear Zq BB MG Z8 FP Up Vf;go_wp2_with fail;refine Y3 (oS.o wr X3.o) λZh Zb=>?_
    have YY:=Zw YA Zb;have MB:=bx Zb;clear Zb;go_wp2_with fail;refine Y3 (KH.o Zh (bt ZW.o YY.o)) λYL Yf=>?_
    have Ye:=Zw YY Yf;have If:=bx Yf;clear Yf;go_wp2_with fail;refine Y3 (DK.o YL Ye.o) λYK X0=>?_
    have X6:=Zw Ye X0;have HU:=bx X0;have azq:=bx (show Z6 ZB YK from X3.o.trans ((MB.o.trans ((bt If.o HU.o).mono MB.o.size)).mono X3.o.size));clear X0
    go_wp2
    go_roundw
    ·grind
    simp[intOf]
  obtain rfl:z=-1:=by omega
  have vp:=bx (FP.o.trans Ox.o);rw[vp.o];clear FP;have YA:=bx (ZW.o.trans ((bt Zt.o Z8.o).mono ZW.o.size));clear Z8;go_wp2_with fail
  go_ret3
  exact⟨by rw[vp.o];rfl,YA.o⟩
section
attribute[local go_sem] Oper.semAt_some
structure Sw(A:Nat->Addr)(B:Nat)(w:World):Prop where
 e:E A B w
 d:Ed A B w
 g:Eg A B w
 t:H5 w
 le:B<=w.heap.size
theorem Sw.below{A:Nat->Addr}{B:Nat}{w w':World}(h:Sw A B w)(Z8:Z6 w w'):Sw A B w':=⟨h.e.below (Z8.mono h.le),h.d.below (Z8.mono h.le),h.g.below (Z8.mono h.le),(Z8.cell (p:=⟨6,0,none⟩) (World.block_lt_of_cell? w _ h.t)).trans h.t,XJ h.le Z8.size⟩
theorem bT{a b c:World}(h:Z6 a b)(k:Z6 b c):Z6 a c:=bt h k
theorem Qy.slices{w:World}{v:Value}{g:C.Ga}(h:Qy w v g):∃XX UB V2 z2 V4 z3 UO z4 T1 z5 S1 Oe RY Od,v=.agg #[Z9 g.t.n,.slice XX g.t.p.1.length UB,.slice V2 g.t.p.2.length z2,.slice V4 g.t.r.length z3,.slice UO g.t.m.1.length z4,.slice T1 g.t.m.2.length z5,.slice S1 g.w.p.1.length Oe,.slice RY g.w.p.2.length Od,.bool g.w.wide,Z9 g.k]:=by
 obtain⟨pi,YM,Y2,Zo,Za,ZD,bv,rfl,⟨_,_,_,_,_,Z7,t1,t2,t3,t4,t5⟩,⟨_,_,Z5,t6,t7⟩⟩:=h;injection Z7 with Z7;injection Z5 with Z5;simp only[Array.mk.injEq,QE]at Z7 Z5;obtain⟨-,rfl,rfl,rfl,rfl,rfl,-⟩:=Z7;obtain⟨rfl,rfl,-⟩:=Z5;obtain⟨a1,c1,rfl⟩:=t1.slice;obtain⟨a2,c2,rfl⟩:=t2.slice;obtain⟨a3,c3,rfl⟩:=t3.slice;obtain⟨a4,VG,rfl⟩:=t4.slice;obtain⟨a5,Wv,rfl⟩:=t5.slice;obtain⟨P8,Ov,rfl⟩:=t6.slice;obtain⟨BV,Nn,rfl⟩:=t7.slice;simp
theorem Hh(t:F.Trie):(P1 t).1.length<=4360/\(P1 t).2.length<=30/\∀r∈(P1 t).2,r.length<=260:=by
 refine⟨?_,?_,λr ZT=>?_⟩
 ·show(t.1.take 4360).length<=_;grind
 ·show((t.2.take 30).map Cb).length<=_;grind
 obtain⟨y,-,rfl⟩:=SL.1 ZT;grind[Cb]
theorem ik(t:Tab):Sr (VH t) where
 p1:=by have:=(Hh t.p).1;show(P1 t.p).1.length<=_;omega
 p2:=by have:=(Hh t.p).2.1;show(P1 t.p).2.length<=_;omega
 p3:=λr ZT=>by have:=(Hh t.p).2.2 r ZT;omega
 r1:=λ_ Z4=>by
  have Il:=List.mem_of_mem_take Z4;grind[Bd,Mv,AM]
 r2:=by show((Bd t.r).take 12).length<=_;grind
 m:=akc t.m
theorem al4(c:C.Wd):Pp (L5 c) where
 p1:=by have:=(Hh c.p).1;show(P1 c.p).1.length<=_;omega
 p2:=by have:=(Hh c.p).2.1;show(P1 c.p).2.length<=_;omega
 p3:=λr ZT=>by have:=(Hh c.p).2.2 r ZT;omega
def nv(s:ByteArray)(n:Nat):ByteArray:=s.extract 0 (min s.size n)
theorem aqF(s:ByteArray)(n:Nat):(nv s n).data.toList=s.data.toList.take n:=by
 unfold nv;rw[Lib.extract_data];have h:s.data.toList.length=s.size:=by rfl
 grind
theorem alZ(s:ByteArray)(n:Nat):(nv s n).size<=n:=by rw[size_eq,aqF,SW];omega
end
section
open Go.ChangeShapes Go.WideShapes Go.ChangeAt Go.RowKit
section
variable {H:Type} {enc:TypeId×Value->H} {P:Program}
theorem aoC{f:Func}{s:ChangeSpec}{apart fresh handsOn again:Bool}{W W':World}{args:Array Value}{v:Value}{Sj gs:List (DataW H)}{before pa pv:List MemPlace}(Yj:DataW.Whole enc P f.params.toList s.vars apart W args.toList Sj gs before)(FU:∀(b:Nat)(sp:Nat->Bool)(Zm:Bool),DataW.TrodAll enc P W' b sp Zm f.resultTypes.toList (v.resultList f.resultTypes.size) (s.fn H (Sj++gs)).results [])(af7:∀sp:Nat->Bool,(∀p∈before,sp p.block=true)->DataW.TrodAll enc P W' 0 sp true f.params.toList args.toList (s.fn H (Sj++gs)).args pa)(ag6:∀sp:Nat->Bool,(∀p∈before,sp p.block=true)->DataW.TrodVars enc P W' sp s.vars (s.fn H (Sj++gs)).vars pv)(_:before=pa++pv)(Z8:Z6 W W')(YB:∀(j:Nat)(t:TypeId)(r:Value),f.resultTypes[j]?=some t->(v.resultList f.resultTypes.size)[j]?=some r->Value.okWide P W' .any 0 t r):
  s.post enc P f apart fresh handsOn again W args v W':=by
 have Zu:=λp hp=>Yj.lt p hp
 have hold:∀p∈before,(λb=>decide (b<W.heap.size)) p.block=true:=λp hp=>by grind
 refine⟨Sj,gs,before,[],pa,pv,Yj,FU _ _ _,af7 _ hold,ag6 _ hold,World.keptBut_mono (λp hp=>⟨hp,?_⟩) (Z8.frame (·∈before)),λ_=>?_⟩
 ·grind
 obtain⟨_,_,_,_,_,ZY,ZP⟩:=Yj;refine⟨YB,_,_,([]++pa)++pv,⟨[]++pa,pv,trodAll_append (af7 _ (λ_ _=>rfl)) (FU _ _ _),ag6 _ (λ_ _=>rfl),rfl,?_,?_⟩,?_⟩
 ·intro b off hp;have Hu:MemPlace.cell b off∈before:=by grind
  rw[Z8.frozen (Zu _ Hu)];exact ZY b off Hu
 ·grind
 grind
end
theorem own:ownKnob prog.godebug=none:=by rfl
theorem auK:prog.cellsOf 467=1:=by rfl
theorem aoQ:prog.cellsOf 9=1:=by rfl
theorem h3 : "*" ++ "errors.errorString" = "*errors.errorString" :=by decide
theorem alq(u:TypeId) (h:prog.typeName? 3 u=some "*errors.errorString"):u=448:=
 typeName_ptr_named (nm:= "errors.errorString") (by rw[h3];kernel_rfl) (by kernel_rfl) (by decide) u (by rw[h3];exact h)
theorem gN0:prog.globalNamed "virama/scalar.errScalar" = some 2/\(prog.globals[2]?).map (·.type)=some 87:=⟨by rfl,by rfl⟩
theorem gN1:prog.globalNamed "virama/scalar.errUtf" = some 3/\(prog.globals[3]?).map (·.type)=some 87:=⟨by rfl,by rfl⟩
theorem gN2:prog.globalNamed "virama/dfa.errRule" = some 14/\(prog.globals[14]?).map (·.type)=some 87:=⟨by rfl,by rfl⟩
theorem gN3:prog.globalNamed "virama/dfa.errMachine" = some 10/\(prog.globals[10]?).map (·.type)=some 87:=⟨by rfl,by rfl⟩
theorem gN4:prog.globalNamed "virama/seg.errCut" = some 7/\(prog.globals[7]?).map (·.type)=some 87:=⟨by rfl,by rfl⟩
theorem gN5:prog.globalNamed "virama/title.errCase" = some 4/\(prog.globals[4]?).map (·.type)=some 87:=⟨by rfl,by rfl⟩
theorem gN6:prog.globalNamed "virama/title.errText" = some 5/\(prog.globals[5]?).map (·.type)=some 87:=⟨by rfl,by rfl⟩
theorem gN7:prog.globalNamed "virama/title.errScalar" = some 8/\(prog.globals[8]?).map (·.type)=some 87:=⟨by rfl,by rfl⟩
theorem gN8:prog.globalNamed "virama/title.errPlace" = some 9/\(prog.globals[9]?).map (·.type)=some 87:=⟨by rfl,by rfl⟩
theorem gN9:prog.globalNamed "virama/width.errWidth" = some 11/\(prog.globals[11]?).map (·.type)=some 87:=⟨by rfl,by rfl⟩
theorem akF:prog.globalNamed "virama/width.errScalar" = some 13/\(prog.globals[13]?).map (·.type)=some 87:=⟨by rfl,by rfl⟩
theorem anC:prog.globalNamed "virama/width.errUtf" = some 12/\(prog.globals[12]?).map (·.type)=some 87:=⟨by rfl,by rfl⟩
theorem ajn:prog.globalNamed "virama/gauge.errGauge" = some 0/\(prog.globals[0]?).map (·.type)=some 87:=⟨by rfl,by rfl⟩
theorem aqI:prog.globalNamed "virama/gauge.errText" = some 1/\(prog.globals[1]?).map (·.type)=some 87:=⟨by rfl,by rfl⟩
def m6:List Sent:=[("virama/scalar.errScalar",2,[110,111,32,115,99,97,108,97,114]),("virama/scalar.errUtf",3,[110,111,116,32,119,101,108,108,45,102,111,114,109,101,100]),("virama/dfa.errRule",14,[110,111,32,114,117,108,101,115]),("virama/dfa.errMachine",10,[110,111,32,109,97,99,104,105,110,101]),("virama/seg.errCut",7,[110,111,32,99,117,116,115]),("virama/title.errCase",4,[110,111,32,99,97,115,101,115]),("virama/title.errText",5,[116,111,111,32,108,111,110,103]),("virama/title.errScalar",8,[110,111,32,115,99,97,108,97,114,115]),("virama/title.errPlace",9,[110,111,32,112,108,97,99,101]),("virama/width.errWidth",11,[110,111,32,119,105,100,116,104,115]),("virama/width.errScalar",13,[110,111,32,115,99,97,108,97,114]),("virama/width.errUtf",12,[110,111,116,32,119,101,108,108,45,102,111,114,109,101,100]),("virama/gauge.errGauge",0,[110,111,32,103,97,117,103,101]),("virama/gauge.errText",1,[116,111,111,32,108,111,110,103])]
noncomputable def low:Nat:=(World.holding prog default ⟨#[],#[],[]⟩).heap.size
noncomputable def laidWorld(os:Os):World:=
 let YR:=World.holding prog os ⟨#[(.cells #[.string {data:=#[110,111,32,115,99,97,108,97,114]}] 467:Obj),(.cells #[.string {data:=#[110,111,116,32,119,101,108,108,45,102,111,114,109,101,100]}] 467:Obj),(.cells #[.string {data:=#[110,111,32,114,117,108,101,115]}] 467:Obj),(.cells #[.string {data:=#[110,111,32,109,97,99,104,105,110,101]}] 467:Obj),(.cells #[.string {data:=#[110,111,32,99,117,116,115]}] 467:Obj),(.cells #[.string {data:=#[110,111,32,99,97,115,101,115]}] 467:Obj),(.cells #[.string {data:=#[116,111,111,32,108,111,110,103]}] 467:Obj),(.cells #[.string {data:=#[110,111,32,115,99,97,108,97,114,115]}] 467:Obj),(.cells #[.string {data:=#[110,111,32,112,108,97,99,101]}] 467:Obj),(.cells #[.string {data:=#[110,111,32,119,105,100,116,104,115]}] 467:Obj),(.cells #[.string {data:=#[110,111,32,115,99,97,108,97,114]}] 467:Obj),(.cells #[.string {data:=#[110,111,116,32,119,101,108,108,45,102,111,114,109,101,100]}] 467:Obj),(.cells #[.string {data:=#[110,111,32,103,97,117,103,101]}] 467:Obj),(.cells #[.string {data:=#[116,111,111,32,108,111,110,103]}] 467:Obj)],#[],[]⟩
 {YR with heap:=(((((((((((((((YR.heap.modify 2 fun
   | .cells _ t frozen=>.cells #[.iface 448 (Zn (low+0))] t frozen
   |o=>o).modify 3 fun
   | .cells _ t frozen=>.cells #[.iface 448 (Zn (low+1))] t frozen
   |o=>o).modify 14 fun
   | .cells _ t frozen=>.cells #[.iface 448 (Zn (low+2))] t frozen
   |o=>o).modify 10 fun
   | .cells _ t frozen=>.cells #[.iface 448 (Zn (low+3))] t frozen
   |o=>o).modify 7 fun
   | .cells _ t frozen=>.cells #[.iface 448 (Zn (low+4))] t frozen
   |o=>o).modify 4 fun
   | .cells _ t frozen=>.cells #[.iface 448 (Zn (low+5))] t frozen
   |o=>o).modify 5 fun
   | .cells _ t frozen=>.cells #[.iface 448 (Zn (low+6))] t frozen
   |o=>o).modify 8 fun
   | .cells _ t frozen=>.cells #[.iface 448 (Zn (low+7))] t frozen
   |o=>o).modify 9 fun
   | .cells _ t frozen=>.cells #[.iface 448 (Zn (low+8))] t frozen
   |o=>o).modify 11 fun
   | .cells _ t frozen=>.cells #[.iface 448 (Zn (low+9))] t frozen
   |o=>o).modify 13 fun
   | .cells _ t frozen=>.cells #[.iface 448 (Zn (low+10))] t frozen
   |o=>o).modify 12 fun
   | .cells _ t frozen=>.cells #[.iface 448 (Zn (low+11))] t frozen
   |o=>o).modify 0 fun
   | .cells _ t frozen=>.cells #[.iface 448 (Zn (low+12))] t frozen
   |o=>o).modify 1 fun
   | .cells _ t frozen=>.cells #[.iface 448 (Zn (low+13))] t frozen
   |o=>o).modify 6 fun
   | .cells _ t frozen=>.cells #[.iface 351 (.agg #[.pointer (some ⟨16,87,none⟩)])] t frozen
   |o=>o)}
theorem et:prog.globalNamed "errors.errorType" = some 6:=by rfl
theorem rt:(prog.cutTypes.find? (·.1 == "internal/reflectlite.rtype")).map (·.2)=some 351:=by rfl
theorem oneRow:((List.range prog.types.size).filter λt=>prog.rowNamed t [101,114,114,111,114])=[87]:=by kernel_rfl
theorem laid_met(os:Os)(args:Array Value):laidMetH prog Rows.opsTurnedRow.laid ((laidWorld os).forCall (λ_ _=>0) ⟨#[],args,[]⟩).memory:=
 laidMetH_of_parts (laidMet_of_run (ps:=[.cell 2 0,.cell (low+0) 0,.cell 3 0,.cell (low+1) 0,.cell 14 0,.cell (low+2) 0,.cell 10 0,.cell (low+3) 0,.cell 7 0,.cell (low+4) 0,.cell 4 0,.cell (low+5) 0,.cell 5 0,.cell (low+6) 0,.cell 8 0,.cell (low+7) 0,.cell 9 0,.cell (low+8) 0,.cell 11 0,.cell (low+9) 0,.cell 13 0,.cell (low+10) 0,.cell 12 0,.cell (low+11) 0,.cell 0 0,.cell (low+12) 0,.cell 1 0,.cell (low+13) 0]) 8 (by kernel_rfl) (by rfl) (by kernel_rfl)) (by kernel_rfl)
theorem anv{W:World}(WE:laidMetH prog Rows.opsTurnedRow.laid W):(∃A:Nat->Addr,Env (m6.map (·.2.1)) 448 A W.heap.size W)/\H5 W:=by
 have TB:laidMet prog (m6.map (mM "*errors.errorString")) W/\handlesMet prog [("errors.errorType",Rows.laid_errors_errorType)] W:=WE;refine⟨asw underlying87 alq underlying448 underlying467 rfl rfl underlying9 auK aoQ m6
  (Jo.2 ⟨gN0,Jo.2 ⟨gN1,Jo.2 ⟨gN2,Jo.2 ⟨gN3,Jo.2 ⟨gN4,Jo.2 ⟨gN5,Jo.2 ⟨gN6,Jo.2 ⟨gN7,Jo.2 ⟨gN8,Jo.2 ⟨gN9,Jo.2 ⟨akF,Jo.2 ⟨anC,Jo.2 ⟨ajn,Jo.2 ⟨aqI,λ_ h=>absurd h RH⟩⟩⟩⟩⟩⟩⟩⟩⟩⟩⟩⟩⟩⟩) TB.1,?_⟩
 obtain⟨name,u,ty,Zq,YP,Yb,WW,VK⟩:=TB.2 _ (Pe.2 rfl);have X1:=(Option.some.inj Zq).symm;subst X1;obtain rfl:=Option.some.inj (rt.symm.trans YP);have hm:ty∈(List.range prog.types.size).filter λt=>prog.rowNamed t [101,114,114,111,114]:=List.mem_filter.2 ⟨Ly.2 Yb,WW⟩
 rw[oneRow]at hm;obtain rfl:=Pe.1 hm;have Uy:typeHandle prog 87=.pointer (some ⟨16,87,none⟩):=by rfl
 rw[Uy]at VK;unfold H5
 simpa using World.var?_cell et VK 0
theorem sj{W:World}(WE:laidMetH prog Rows.opsTurnedRow.laid W):∃A:Nat->Addr,Sw A W.heap.size W:=by
 obtain⟨⟨A,h⟩,ZM⟩:=anv WE;exact⟨A,m4 h (by decide),m4 h (by decide),m4 h (by decide),ZM,Wq _⟩
section
variable {H:Type} {enc:TypeId×Value->H} {P:Program}
theorem gC(hl:laidOutB P=true){W W':World}(Z8:Z6 W W'):∀(ts:List TypeId){WM:List Value}{Sj:List (DataW H)}{ps:List MemPlace},(∀t∈ts,P.readableRec t=true/\t<P.types.size)->
  DataW.TrodAll enc P W 0 (λ_=>true) true ts WM Sj ps->(∀p∈ps,p.block<W.heap.size)->∀sp:Nat->Bool,(∀p∈ps,sp p.block=true)->DataW.TrodAll enc P W' 0 sp true ts WM Sj ps
 |[],WM,Sj,ps,_,h,_,sp,_=>by
  obtain⟨rfl,rfl,rfl⟩:=trodAll_nil h;rfl
 |t::ts,WM,Sj,ps,ZT,h,Zu,sp,Z0=>by
  obtain⟨v,aAZ,d,azx,p,q,rfl,rfl,rfl,Z7,Z5⟩:=trodAll_cons h;have ZM:=ZT t (Pw ..);exact trodAll_cons_mk (WideElems.Trod_stays hl ZM.1 ZM.2 Z7 (λx Z4=>Z8.same (Zu x (List.mem_append_left _ Z4))) (λx Z4=>Z0 x (List.mem_append_left _ Z4)))
   (gC hl Z8 ts (λTI TB=>ZT TI (Oj _ TB)) Z5 (λx Z4=>Zu x (List.mem_append_right _ Z4)) sp (λx Z4=>Z0 x (List.mem_append_right _ Z4)))
theorem rV{f:Func}{s:ChangeSpec}{apart fresh handsOn again:Bool}{W W':World}{args:Array Value}{Sj:List (DataW H)}{before:List MemPlace}{tb:TypeId}(hl:laidOutB P=true)(Z2:s.vars=[])(Yj:DataW.Whole enc P f.params.toList s.vars apart W args.toList Sj [] before)(Z8:Z6 W W')(K0:P.underlying tb=some .bool)(ZT:f.resultTypes=#[tb])(axh:∀t∈f.params.toList,P.readableRec t=true/\t<P.types.size)(_:s.fn H Sj={results:=[.lit (.bool true)],args:=Sj}):
  s.post enc P f apart fresh handsOn again W args (.bool true) W':=by
 have EL:=Yj;obtain⟨p,q,PA,ZO,he,tW,BI⟩:=Yj;rw[Z2]at ZO;obtain⟨-,rfl⟩:=trodVars_none ZO;rw[L3]at he;subst he;have Zu:=λx Z4=>EL.lt x Z4
 have zI:s.fn H (Sj++[])={results:=[.lit (.bool true)],args:=Sj}:=by grind
 refine aoC (pa:=before) (pv:=[]) EL ?_ ?_ ?_ (by simp) Z8 (ok_one ZT rfl (okWide_bool_mk K0 _))
 ·intro b sp Zm;rw[zI,ZT];exact trodAll_mk1 (shut_bool K0 _)
 ·intro sp WF;rw[zI];exact gC hl Z8 _ axh PA Zu sp WF
 intro sp _;rw[zI,Z2]
 rfl
end
end
section
open Go.ChangeShapes Go.WideShapes Go.Deep
section
variable {H:Type} {enc:TypeId×Value->H} {W:World}
theorem aaT{fuel:Nat}{cs:List Value}{x:DataW H×List MemPlace}(h:DataW.trod enc prog W 0 (λ_=>true) true fuel 31 cs=some x):
  ∃(t:Tab)(pi YM Y2 Zo Za:Value),cs=[Z9 t.n,pi,YM,Y2,Zo,Za]/\TabAt W (.agg #[Z9 t.n,pi,YM,Y2,Zo,Za]) t:=by
 obtain⟨RN,Vy,TX,Qa,n,-,hl,ZI,Z7,Z5,ZS⟩:=Go.Joins.trod_struct4 underlying31 h;obtain⟨YV,c1,c2,c3,VG,Wv,rfl⟩:=afi (l:=cs) (hl.trans (by rfl));obtain⟨k,Wz,_⟩:=DataW.trod_int underlying3 ZI;have Dl:[YV]=[Z9 k]:=Wz;simp only[QE,and_true]at Dl;subst Dl;obtain⟨a2,Xd,t2,YP,Zx,Zr⟩:=qv (cs:=[c1,c2]) Z7;obtain⟨Om,Sv⟩:=TQ.open (v:=c3) Z5;obtain⟨a3,Wk,t3,Yb,Zk,Zl⟩:=atW (cs:=[VG,Wv]) ZS;simp only[QE,and_true]at YP Yb;obtain⟨rfl,rfl⟩:=YP;obtain⟨rfl,rfl⟩:=Yb;exact⟨⟨k,t2,Om,t3⟩,_,_,_,_,_,rfl,_,_,_,_,_,rfl,Zx,Zr,Sv,Zk,Zl⟩
theorem apS{α:Type}{l:List α}(h:l.length=3):∃a b c,l=[a,b,c]:=by
 match l,h with
 |[a,b,c],_=>simp
theorem apv{fuel:Nat}{cs:List Value}{x:DataW H×List MemPlace}(h:DataW.trod enc prog W 0 (λ_=>true) true fuel 33 cs=some x):
  ∃(c:C.Wd)(ZD bv:Value),cs=[ZD,bv,.bool c.wide]/\WideAt W (.agg #[ZD,bv,.bool c.wide]) c:=by
 obtain⟨RN,Vy,n,-,hl,ZI,Z7⟩:=trod_struct2 underlying33 h;obtain⟨YV,c1,c2,rfl⟩:=apS (l:=cs) (hl.trans (by rfl));obtain⟨a2,Xd,t2,YP,Zx,Zr⟩:=qv (cs:=[YV,c1]) ZI;simp only[QE,and_true]at YP;obtain⟨rfl,rfl⟩:=YP;obtain⟨b,Wz⟩:=DataW.trod_bool underlying4 Z7;have Dl:[c2]=[.bool b]:=Wz.1;simp only[QE,and_true]at Dl;subst Dl;exact⟨⟨t2,b⟩,_,_,rfl,_,_,rfl,Zx,Zr⟩
end
end
namespace C
structure Kt where
 c:Tab
 w:Tab
 d:Wd
 s:T.Cs
def ad(k:Kt):Bool:=Td k.c&&Td k.w&&aS k.d&&T.az 600 k.s
def kg(k:Kt)(i:Int):Ga:=⟨k.c,k.d,i⟩
theorem db{k:Kt}(_:ad k=true){i:Int}(_:0<=i)(_:i<=2):aA (kg k i)=true:=by
 grind[ad,aA,kg]
def ar(k:Kt)(s e:List UInt8):Int:=if ad k=false then 160 else if 600<s.length\/60<e.length then 121 else 0
theorem bO{k:Kt}{s e:List UInt8}(_:ad k=false):ar k s e=160:=by grind[ar]
theorem a6{k:Kt}{s e:List UInt8}(_:ad k=true)(_:s.length<=600)(_:e.length<=60):ar k s e=0:=by
 grind[ar]
def aO(k:Kt)(i:Int)(s:List UInt8)(n:Int)(e:List UInt8):Int:=if ar k s e=0 then(if i<0\/2<i then 150 else if n<0 then 161 else 0)else ar k s e
def cz(g:Ga)(s:List UInt8)(n:Int)(e:List UInt8):List UInt8:=if ah g s<=n then M.fix s else if n<ah g e then[]else headA g.t s ((aX g s e n).getD 0)++M.fix e
def aY(k:Kt)(i:Int)(s:List UInt8)(n:Int)(e:List UInt8):List UInt8:=if aO k i s n e=0 then cz (kg k i) s n e else[]
def bK(ls:List (List Int))(k:Nat):Nat:=((ls.take k).map λl=>(U.textOf l).length).sum
def bW(ls:List (List Int))(k:Nat):Nat:=((ls.take k).map List.length).sum
def br(ls:List (List Int))(b c:Int)(k:Nat):Bool:=decide ((bK ls k:Int)<=b)&&decide ((bW ls k:Int)<=c)
def bb(ls:List (List Int))(b c:Int):Nat->Nat
 |0=>0
 |k+1=>if br ls b c (k+1)=true then k+1 else bb ls b c k
def bp(k:Kt)(s:List UInt8)(b c:Int):Int:=if ar k s []=0 then(if b<0\/c<0 then 161 else 0)else ar k s []
def bH(k:Kt)(s:List UInt8)(b c:Int):List UInt8:=if bp k s b c=0 then headA k.c s (bb (ab k.c s) b c (ab k.c s).length)else[]
theorem al0(ls:List (List Int)){k:Nat}{l:List Int}(h:ls[k]?=some l):bK ls (k+1)=bK ls k+(U.textOf l).length:=by
 obtain⟨Z3,rfl⟩:=R7 h;unfold bK;rw[yl Z3,T9,List.sum_append];simp
theorem al1(ls:List (List Int)){k:Nat}{l:List Int}(h:ls[k]?=some l):bW ls (k+1)=bW ls k+l.length:=by
 obtain⟨Z3,rfl⟩:=R7 h;unfold bW;rw[yl Z3,T9,List.sum_append];simp
theorem anZ(ls:List (List Int))(k:Nat):bK ls k<=bK ls (k+1):=by
 grind[bK]
theorem awc(ls:List (List Int))(k:Nat):bW ls k<=bW ls (k+1):=by
 grind[bW]
theorem auS{ls:List (List Int)}{b c:Int}{k:Nat}(h:br ls b c (k+1)=true):br ls b c k=true:=by
 unfold br at *;rw[Vm]at *;have Z7:=of_decide_eq_true h.1;have Z5:=of_decide_eq_true h.2;have ZS:=anZ ls k;have ZG:=awc ls k;grind
theorem abR{ls:List (List Int)}{b c:Int}{k:Nat}(h:br ls b c (k+1)=false):∀m,bb ls b c (k+m)=bb ls b c k/\br ls b c (k+m+1)=false
 |0=>⟨rfl,h⟩
 |m+1=>by
  obtain⟨Z7,Z5⟩:=abR h m;refine⟨?_,?_⟩
  ·rw[show k+(m+1)=k+m+1 by omega];show(if br ls b c (k+m+1)=true then k+m+1 else bb ls b c (k+m))=_
   grind
  cases ZS:br ls b c (k+(m+1)+1)with
  |false=>rfl
  |true=>
   have:=auS ZS;grind
theorem aa8{ls:List (List Int)}{b c:Int}{k n:Nat}(Z3:k<=n)(_:k=0\/br ls b c k=true)(Z5:k=n\/br ls b c (k+1)=false):bb ls b c n=k:=by
 have ZL:bb ls b c k=k:=by
  cases k with
  |zero=>rfl
  |succ k=>
   grind[bb]
 rcases Z5 with Z5|Z5
 ·grind
 obtain⟨m,rfl⟩:=Nat.exists_eq_add_of_le Z3;grind[abR]
def cb(k:Kt)(s:List UInt8):List UInt8:=if ar k s []=0 then((ae k.c s).reverse).flatten else[]
def bc(k:Kt)(s:List UInt8)(a b:Int):Int:=if ar k s []=0 then(if a<0\/b<a then 162 else 0)else ar k s []
def bG(k:Kt)(s:List UInt8)(a b:Int):List UInt8:=if bc k s a b=0 then(((ae k.c s).take b.toNat).drop a.toNat).flatten else[]
def aF:List (List UInt8)->List UInt8->Nat
 |[],_=>0
 |x::t,sep=>if sep=x then 1 else if x.isPrefixOf sep=true then(match aF t (sep.drop x.length)with|0=>0|n+1=>n+2)else 0
def bV(l:List (List UInt8))(sep:List UInt8):Nat->Nat->Nat->List (List UInt8)
 |0,_,b=>[(l.drop b).flatten]
 |f+1,a,b=>if l.length<=a then[(l.drop b).flatten]else
   if 0<aF (l.drop a) sep then((l.take a).drop b).flatten::bV l sep f (a+aF (l.drop a) sep) (a+aF (l.drop a) sep)else bV l sep f (a+1) b
def bn(k:Kt)(s e:List UInt8):Int:=if ar k s e=0 then(if e=[]then 163 else 0)else ar k s e
def bN(k:Kt)(s e:List UInt8):List (List UInt8):=if bn k s e=0 then bV (ae k.c s) (M.fix e) (ae k.c s).length 0 0 else[]
def b5(g:Ga)(ls:List (List Int)):Nat->Nat->Int->List UInt8
 |0,_,_=>[]
 |f+1,i,c=>if c<=0 then[]else if c<meas g (ls.getD (i%ls.length) [])then[]else U.textOf (ls.getD (i%ls.length) [])++b5 g ls f (i+1) (c-meas g (ls.getD (i%ls.length) []))
def aU(k:Kt)(s:List UInt8)(n:Int)(e:List UInt8)(side:Int):Int:=
 if ar k s e=0 then(if n<0\/300<n then 161 else if side<0\/2<side then 2 else if ah (kg k 2) e=0 then 163 else 0)else ar k s e
end C
theorem Zv.c21{V W:World}{g:Nat}{t:TypeId}{Ws XX V2 V4 UO T1 S1 RY O2 O1 KU KT KS KA KR KQ KP KO KN ahV ahW:Value}(H:Zv V g t #[Ws,XX,V2,V4,UO,T1,S1,RY,O2,O1,KU,KT,KS,KA,KR,KQ,KP,KO,KN,ahV,ahW])(h:Z6 V W):ZQ W g 0=some Ws/\ZQ W g 1=some XX/\ZQ W g 2=some V2/\ZQ W g 3=some V4/\ZQ W g 4=some UO/\ZQ W g 5=some T1/\ZQ W g 6=some S1/\ZQ W g 7=some RY/\ZQ W g 8=some O2/\ZQ W g 9=some O1/\ZQ W g 10=some KU/\ZQ W g 11=some KT/\ZQ W g 12=some KS/\ZQ W g 13=some KA/\ZQ W g 14=some KR/\ZQ W g 15=some KQ/\ZQ W g 16=some KP/\ZQ W g 17=some KO/\ZQ W g 18=some KN/\ZQ W g 19=some ahV/\ZQ W g 20=some ahW/\g<W.heap.size:=⟨(H.below h H.lt).q0,(H.below h H.lt).q1,(H.below h H.lt).q2,(H.below h H.lt).q3,(H.below h H.lt).q4,(H.below h H.lt).q5,(H.below h H.lt).q6,(H.below h H.lt).q7,(H.below h H.lt).q8,(H.below h H.lt).q9,(H.below h H.lt).q10,((H.below h H.lt).cell 11).trans rfl,((H.below h H.lt).cell 12).trans rfl,((H.below h H.lt).cell 13).trans rfl,((H.below h H.lt).cell 14).trans rfl,((H.below h H.lt).cell 15).trans rfl,((H.below h H.lt).cell 16).trans rfl,((H.below h H.lt).cell 17).trans rfl,((H.below h H.lt).cell 18).trans rfl,((H.below h H.lt).cell 19).trans rfl,((H.below h H.lt).cell 20).trans rfl,(H.below h H.lt).lt⟩
theorem X8{ops:Array Oper}{rest:List Oper}{o:Oper}{a:Act}{w:World}{Q:Exit->Act->World->Prop}(Uz:o.guard=none)(x:Operand)(YT:o.op=.load 38 x)(g:Nat)(Z4:a.eval x=Zn g){t:TypeId}{cs:Array Value}(ZH:Zv w g t cs)(ZP:cs.size=21)(h:wpList prog ops Q rest (a.put o.dst (.agg cs)) w):wpList prog ops Q (o::rest) a w:=
 wpList_load_row Uz _ x YT g Z4 t cs (0,0) _ ZH underlying38 rfl (by rw[ZP];rfl) h
theorem wH{ops:Array Oper}{rest:List Oper}{o:Oper}{a:Act}{w:World}{Q:Exit->Act->World->Prop}(Uz:o.guard=none)(x y:Operand)(YT:o.op=.store 38 x y)(g:Nat){cells:Array Value}(Z4:a.eval x=Zn g)(ZJ:a.eval y=.agg cells){t:TypeId}{cs:Array Value}(ZH:Zv w g t cs)(_:cs.size=21)(hm:cells.size=21)(Z7:cells.all (·.oneCell')=true)(h:wpList prog ops Q rest (a.put o.dst undef) (w.setRow g cells)):wpList prog ops Q (o::rest) a w:=
 wpList_store_row Uz _ x y YT g cells Z4 ZJ t cs ZH (by rw[hm];rfl) (by omega) Z7 h
structure Aj(w:World)(ca:Int)(XQ XP X5 XR X2:Value)(Xr:Int)(wp Xz Ym Xp wf ZD bv:Value)(wd:Bool)(lo ti c1 c2 g1 g2:Value)(k:C.Kt):Prop where
 eca:ca=k.c.n
 ewa:Xr=k.w.n
 ewd:wd=k.d.wide
 c:TabAt w (.agg #[Z9 ca,XQ,XP,X5,XR,X2]) k.c
 d:WideAt w (.agg #[ZD,bv,.bool wd]) k.d
 s:Sq w (.agg #[lo,ti,c1,c2,g1,g2]) k.s
 w:TabAt w (.agg #[Z9 Xr,wp,Xz,Ym,Xp,wf]) k.w
theorem Aj.below{w w':World}{ca:Int}{XQ:Value}{XP:Value}{X5:Value}{XR:Value}{X2:Value}{Xr:Int}{wp:Value}{Xz:Value}{Ym:Value}{Xp:Value}{wf:Value}{ZD:Value}{bv:Value}{wd:Bool}{lo:Value}{ti:Value}{c1:Value}{c2:Value}{g1:Value}{g2:Value}{k:C.Kt}(h:Aj w ca XQ XP X5 XR X2 Xr wp Xz Ym Xp wf ZD bv wd lo ti c1 c2 g1 g2 k)(Z8:Z6 w w'):Aj w' ca XQ XP X5 XR X2 Xr wp Xz Ym Xp wf ZD bv wd lo ti c1 c2 g1 g2 k:=
 ⟨h.eca,h.ewa,h.ewd,h.c.below Z8,h.d.below Z8,h.s.below Z8,h.w.below Z8⟩
def WZ(w:World)(v:Value)(k:C.Kt):Prop:=∃ca XQ XP X5 XR X2 Xr wp Xz Ym Xp wf ZD bv wd lo ti c1 c2 g1 g2,v=.agg #[Z9 ca,XQ,XP,X5,XR,X2,Z9 Xr,wp,Xz,Ym,Xp,wf,ZD,bv,.bool wd,lo,ti,c1,c2,g1,g2]/\Aj w ca XQ XP X5 XR X2 Xr wp Xz Ym Xp wf ZD bv wd lo ti c1 c2 g1 g2 k
theorem WZ.below{w w':World}{v:Value}{k:C.Kt}(h:WZ w v k)(Z8:Z6 w w'):WZ w' v k:=by
 obtain⟨ca,XQ,XP,X5,XR,X2,Xr,wp,Xz,Ym,Xp,wf,ZD,bv,wd,lo,ti,c1,c2,g1,g2,Z7,Z5⟩:=h;exact⟨ca,XQ,XP,X5,XR,X2,Xr,wp,Xz,Ym,Xp,wf,ZD,bv,wd,lo,ti,c1,c2,g1,g2,Z7,Z5.below Z8⟩
theorem WZ.slices{w:World}{v:Value}{k:C.Kt}(h:WZ w v k):∃XX UB V2 z2 V4 z3 UO z4 T1 z5 S1 Oe RY Od O2 Ia O1 z9 KU Ie KT Ic KS z12 KA IX KR IK KQ IB KP Ix KO Ib KN IM,v=.agg #[Z9 k.c.n,.slice XX k.c.p.1.length UB,.slice V2 k.c.p.2.length z2,.slice V4 k.c.r.length z3,.slice UO k.c.m.1.length z4,.slice T1 k.c.m.2.length z5,Z9 k.w.n,.slice S1 k.w.p.1.length Oe,.slice RY k.w.p.2.length Od,.slice O2 k.w.r.length Ia,.slice O1 k.w.m.1.length z9,.slice KU k.w.m.2.length Ie,.slice KT k.d.p.1.length Ic,.slice KS k.d.p.2.length z12,.bool k.d.wide,.slice KA k.s.lo.length IX,.slice KR k.s.ti.length IK,.slice KQ k.s.ca.1.length IB,.slice KP k.s.ca.2.length Ix,.slice KO k.s.ig.1.length Ib,.slice KN k.s.ig.2.length IM]:=by
 obtain⟨ca,XQ,XP,X5,XR,X2,Xr,wp,Xz,Ym,Xp,wf,ZD,bv,wd,lo,ti,c1,c2,g1,g2,rfl,rfl,rfl,rfl,⟨_,_,_,_,_,Z7,t1,t2,t3,t4,t5⟩,⟨_,_,ZS,t11,t12⟩,⟨_,_,_,_,_,_,ZG,t13,t14,t15,t16,t17,t18⟩,⟨_,_,_,_,_,Z5,t6,t7,t8,t9,t10⟩⟩:=h;injection Z7 with Z7;injection Z5 with Z5;injection ZS with ZS;injection ZG with ZG;simp only[Array.mk.injEq,QE]at Z7 Z5 ZS ZG;obtain⟨-,rfl,rfl,rfl,rfl,rfl,-⟩:=Z7;obtain⟨-,rfl,rfl,rfl,rfl,rfl,-⟩:=Z5;obtain⟨rfl,rfl,-⟩:=ZS;obtain⟨rfl,rfl,rfl,rfl,rfl,rfl,-⟩:=ZG;obtain⟨a1,Wx,rfl⟩:=t1.slice;obtain⟨a2,Xd,rfl⟩:=t2.slice;obtain⟨a3,Wk,rfl⟩:=t3.slice;obtain⟨a4,UY,rfl⟩:=t4.slice;obtain⟨a5,TN,rfl⟩:=t5.slice;obtain⟨P8,MM,rfl⟩:=t6.slice;obtain⟨BV,ML,rfl⟩:=t7.slice;obtain⟨yb,xY,rfl⟩:=t8.slice;obtain⟨a9,xX,rfl⟩:=t9.slice;obtain⟨yf,x7,rfl⟩:=t10.slice;obtain⟨ye,x6,rfl⟩:=t11.slice;obtain⟨a12,x5,rfl⟩:=t12.slice;obtain⟨zx,x4,rfl,-⟩:=t13.slice;obtain⟨zv,x3,rfl,-⟩:=t14.slice;obtain⟨zw,x2,rfl⟩:=t15.slice;obtain⟨yd,x1,rfl⟩:=t16.slice;obtain⟨yc,x0,rfl⟩:=t17.slice;obtain⟨zu,xZ,rfl⟩:=t18.slice;simp
theorem Aj.dy{w:World}{ca:Int}{XQ:Value}{XP:Value}{X5:Value}{XR:Value}{X2:Value}{Xr:Int}{wp:Value}{Xz:Value}{Ym:Value}{Xp:Value}{wf:Value}{ZD:Value}{bv:Value}{wd:Bool}{lo:Value}{ti:Value}{c1:Value}{c2:Value}{g1:Value}{g2:Value}{k:C.Kt}(h:Aj w ca XQ XP X5 XR X2 Xr wp Xz Ym Xp wf ZD bv wd lo ti c1 c2 g1 g2 k)(i:Int):Qy w (.agg #[Z9 ca,XQ,XP,X5,XR,X2,ZD,bv,.bool wd,Z9 i]) (C.kg k i):=by
 have Z7:=h.c;have Z5:=h.d;rw[h.eca]at Z7⊢;rw[h.ewd]at Z5⊢;exact⟨_,_,_,_,_,_,_,rfl,Z7,Z5⟩
structure VT(k:C.Kt):Prop where
 c:Sr k.c
 w:Sr k.w
 d:Pp k.d
 s:T.Small k.s
def PB(w:World)(g:Nat)(k:C.Kt):Prop:=∃ca XQ XP X5 XR X2 Xr wp Xz Ym Xp wf ZD bv wd lo ti c1 c2 g1 g2,Zv w g 162 #[Z9 ca,XQ,XP,X5,XR,X2,Z9 Xr,wp,Xz,Ym,Xp,wf,ZD,bv,.bool wd,lo,ti,c1,c2,g1,g2]/\Aj w ca XQ XP X5 XR X2 Xr wp Xz Ym Xp wf ZD bv wd lo ti c1 c2 g1 g2 k
theorem PB.below{w w':World}{g:Nat}{k:C.Kt}(h:PB w g k)(Z8:Z6 w w'):PB w' g k:=by
 obtain⟨ca,XQ,XP,X5,XR,X2,Xr,wp,Xz,Ym,Xp,wf,ZD,bv,wd,lo,ti,c1,c2,g1,g2,Z7,Z5⟩:=h;exact⟨ca,XQ,XP,X5,XR,X2,Xr,wp,Xz,Ym,Xp,wf,ZD,bv,wd,lo,ti,c1,c2,g1,g2,Z7.below Z8 Z7.lt,Z5.below Z8⟩
section
open Go.ChangeShapes Go.WideShapes Go.Deep
section
variable {H:Type} {enc:TypeId×Value->H} {W:World}
theorem alk{fuel:Nat}{cs:List Value}{x:DataW H×List MemPlace}(h:DataW.trod enc prog W 0 (λ_=>true) true fuel 36 cs=some x):
  ∃(c:T.Cs)(lo ti c1 c2 g1 g2:Value),cs=[lo,ti,c1,c2,g1,g2]/\Sq W (.agg #[lo,ti,c1,c2,g1,g2]) c:=by
 obtain⟨RN,Vy,TX,Qa,n,-,hl,ZI,Z7,Z5,ZS⟩:=Go.Joins.trod_struct4 underlying36 h;obtain⟨YV,c1,c2,c3,VG,Wv,rfl⟩:=afi (l:=cs) (hl.trans (by rfl));obtain⟨S4,LH⟩:=NR.open (v:=YV) ZI;obtain⟨Om,Sv⟩:=NR.open (v:=c1) Z7;obtain⟨a2,Xd,t2,YP,Zx,Zr⟩:=qv (cs:=[c2,c3]) Z5;obtain⟨a3,Wk,t3,Yb,Zk,Zl⟩:=qv (cs:=[VG,Wv]) ZS;simp only[QE,and_true]at YP Yb;obtain⟨rfl,rfl⟩:=YP;obtain⟨rfl,rfl⟩:=Yb;exact⟨⟨S4,Om,t2,t3⟩,_,_,_,_,_,_,rfl,_,_,_,_,_,_,rfl,LH,Sv,Zx,Zr,Zk,Zl⟩
theorem ak4{α:Type}{l:List α}(h:l.length=21):∃YV c1 c2 c3 VG Wv Ov Nn HC Dp c10 qg qf qe qd qc qb qa p9 p8 p7,l=[YV,c1,c2,c3,VG,Wv,Ov,Nn,HC,Dp,c10,qg,qf,qe,qd,qc,qb,qa,p9,p8,p7]:=by
 match l,h with
 |[YV,c1,c2,c3,VG,Wv,Ov,Nn,HC,Dp,c10,qg,qf,qe,qd,qc,qb,qa,p9,p8,p7],_=>simp
theorem sB{base:Nat}{v:Value}{d:DataW H}{p:List MemPlace}(Z2:Value.okWide prog W .any base 38 v)(h:DataW.Trod enc prog W 0 (λ_=>true) true 38 v d p):
  ∃k:C.Kt,WZ W v k:=by
 obtain⟨cs,rfl,W1⟩:=okWide_struct underlying38 Z2;obtain⟨fuel,Yz⟩:=h;obtain⟨RN,Vy,TX,Qa,n,-,-,ZI,Z7,Z5,ZS⟩:=Go.Joins.trod_struct4 underlying38 Yz;obtain⟨cs⟩:=cs;obtain⟨YV,c1,c2,c3,VG,Wv,Ov,Nn,HC,Dp,c10,qg,qf,qe,qd,qc,qb,qa,p9,p8,p7,rfl⟩:=ak4 (l:=cs) (W1.trans (by rfl));obtain⟨t1,a1,a2,a3,a4,a5,Zq,F8⟩:=aaT (cs:=[YV,c1,c2,c3,VG,Wv]) ZI;obtain⟨t2,Wx,Xd,Wk,UY,TN,YP,uo⟩:=aaT (cs:=[Ov,Nn,HC,Dp,c10,qg]) Z7;obtain⟨wd,ZD,bv,Yb,Yj⟩:=apv (cs:=[qf,qe,qd]) Z5;obtain⟨Rm,d1,d2,d3,d4,d5,d6,WW,hC⟩:=alk (cs:=[qc,qb,qa,p9,p8,p7]) ZS;simp only[QE,and_true]at Zq YP Yb WW;obtain⟨rfl,rfl,rfl,rfl,rfl,rfl⟩:=Zq;obtain⟨rfl,rfl,rfl,rfl,rfl,rfl⟩:=YP;obtain⟨rfl,rfl,rfl⟩:=Yb;obtain⟨rfl,rfl,rfl,rfl,rfl,rfl⟩:=WW;exact⟨⟨t1,t2,wd,Rm⟩,_,_,_,_,_,_,_,_,_,_,_,_,_,_,_,_,_,_,_,_,_,rfl,rfl,rfl,rfl,F8,Yj,hC,uo⟩
