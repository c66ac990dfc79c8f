/- Texts of this claim. -/
import Derived.Test.YtdponihkpomheaaGreatDoorK13

set_option maxRecDepth 100000
set_option maxHeartbeats 8000000
namespace Go.Proofs.YtdponihkpomheaaGreatDoor
open Go.RowKit
open Tryz
section
attribute[local go_sem] Oper.semAt_some
structure Tab where
 n:Int
 p:F.Trie
 r:List D.Rule
 m:D.ao
def TabAt(w:World)(v:Value)(t:Tab):Prop:=∃pi YM Y2 Zo Za,v=.agg #[Z9 t.n,pi,YM,Y2,Zo,Za]/\Y6 w pi t.p.1/\TF w YM t.p.2/\TQ w Y2 t.r/\TF w Zo t.m.1/\Y6 w Za t.m.2
theorem TabAt.below{w w':World}{v:Value}{t:Tab}(h:TabAt w v t)(Z8:Z6 w w'):TabAt w' v t:=by
 obtain⟨pi,YM,Y2,Zo,Za,ZI,Z7,Z5,ZS,ZG,Zi⟩:=h;exact⟨pi,YM,Y2,Zo,Za,ZI,Z7.below Z8,Z5.below Z8,ZS.below Z8,ZG.below Z8,Zi.below Z8⟩
theorem aph{w:World}{n:Int}{p:F.Trie}{r:List D.Rule}{m:D.ao}{pi YM Y2 Zo Za:Value}(Z7:Y6 w pi p.1)(Z5:TF w YM p.2)(ZS:TQ w Y2 r)(ZG:TF w Zo m.1)(Zi:Y6 w Za m.2):TabAt w (.agg #[Z9 n,pi,YM,Y2,Zo,Za]) ⟨n,p,r,m⟩:=⟨pi,YM,Y2,Zo,Za,rfl,Z7,Z5,ZS,ZG,Zi⟩
theorem acR:(prog.info? 31).map (·.size)=some 6:=by rfl
section
variable {W W':World} {R:Nat} {T:TypeId}
def AU:Array Value:=#[Z9 0,Z1,Z1,Z1,Z1,Z1]
theorem wT{j:Nat}{u:Value}(h:Zv W R T AU)(hu:ZQ W R j=some u):(j=0/\u=Z9 0)\/(0<j/\u=Z1):=by
 (try unfold ZQ at hu);rw[h.cell j]at hu
 grind[AU]
def ys(xs:List Int):Bool:=decide (2<=xs.length)||(!xs.isEmpty&&xs.headD 0 != 0)
theorem nQ{v:Value}{xs:List Int}(Z8:Zv W R T AU)(ZM:Turns (λq=>q=R) W W')(h:Y6 W v xs)(Z5:ys xs=true):Y6 W' v xs:=by
 obtain⟨b,off,ZU,rfl,ZS,ZG,Zi,Yu⟩:=h.get (by grind[ys]);have Xq:b≠R:=by
  rintro rfl;unfold ys at Z5;rw[Bool.or_eq_true]at Z5
  rcases Z5 with Z5|Z5
  ·have Z5:=of_decide_eq_true Z5;have Zq:=Yu 1 xs[1] (SA (by omega))
   rcases wT Z8 Zq with⟨VV,-⟩|⟨-,VV⟩
   ·omega
   cases VV
  match xs,Z5 with
  |x::t,Z5=>
   have Zq:=Yu 0 x rfl
   rcases wT Z8 Zq with⟨-,VV⟩|⟨-,VV⟩
   ·grind
   cases VV
 exact m5 h ZM.size (λ_ ZH=>by simp[Value.ownBlock]at ZH;subst ZH;exact ZM.block _ Zi Xq)
theorem aeL{v:Value}{rows:List (List Int)}(Z8:Zv W R T AU)(ZM:Turns (λq=>q=R) W W')(h:TF W v rows)(ZP:rows≠[])(Z5:∀r∈rows,2<=r.length):TF W' v rows:=by
 obtain⟨b,off,ZU,rfl,ZS,ZG,Zi,Yu⟩:=h.get ZP;have Xq:b≠R:=by
  rintro rfl;obtain⟨S2,ME⟩:=Yg rows 0 (List.length_pos_iff.2 ZP);obtain⟨x,Z4,hi⟩:=Yu 0 S2 ME;have VV:=Z5 S2 (Xh ME)
  rcases wT Z8 Z4 with⟨-,rfl⟩|⟨-,rfl⟩
  ·rcases hi with⟨Vz,-⟩|⟨_,_,_,_,Vz,-⟩ <;> cases Vz
  rcases hi with⟨-,rfl⟩|⟨_,_,_,_,Vz,-⟩
  ·grind
  grind
 refine .inr ⟨b,off,none,ZU,rfl,ZS,ZG,λ_=>⟨rfl,Vh Zi ZM.size,λi r ZT=>?_⟩⟩;obtain⟨x,Z4,hi⟩:=Yu i r ZT;exact⟨x,(World.cell?_of_block (ZM.block b Zi Xq)).trans Z4,nQ Z8 ZM hi (by grind[ys])⟩
theorem hH{v:Value}{l:List N.Item}(Z8:Zv W R T AU)(ZM:Turns (λq=>q=R) W W')(h:VA W v l):VA W' v l:=by
 rcases h with h|⟨b,off,sp,ZU,rfl,ZS,ZG,Zi⟩
 ·exact .inl h
 refine .inr ⟨b,off,sp,ZU,rfl,ZS,ZG,λZP=>?_⟩;obtain⟨rfl,Yu,VV⟩:=Zi ZP;have Xq:b≠R:=by
  rintro rfl;obtain⟨x,Z4⟩:=Yg l 0 (List.length_pos_iff.2 ZP)
  rcases wT Z8 (VV 0 x Z4).2 with⟨Vz,-⟩|⟨-,Vz⟩
  ·omega
  cases Vz
 exact⟨rfl,Vh Yu ZM.size,λi x Z4=>⟨(World.cell?_of_block (ZM.block b Yu Xq)).trans (VV i x Z4).1,(World.cell?_of_block (ZM.block b Yu Xq)).trans (VV i x Z4).2⟩⟩
theorem are{v:Value}{l:List D.Rule}(Z8:Zv W R T AU)(ZM:Turns (λq=>q=R) W W')(h:TQ W v l)(ZP:l≠[]):TQ W' v l:=by
 obtain⟨b,off,ZU,rfl,ZS,ZG,Zi,Yu⟩:=h.get ZP;have Xq:b≠R:=by
  rintro rfl;obtain⟨x,Z4⟩:=Yg l 0 (List.length_pos_iff.2 ZP);obtain⟨Vj,Ym,VV,-⟩:=Yu 0 x Z4
  rcases wT Z8 VV with⟨-,Vz⟩|⟨-,Vz⟩ <;> cases Vz
 refine .inr ⟨b,off,none,ZU,rfl,ZS,ZG,λ_=>⟨rfl,Vh Zi ZM.size,λi x Z4=>?_⟩⟩;obtain⟨Vj,Ym,Zd,Zx,Zr,Zk,Zl,Zg,XK⟩:=Yu i x Z4;have ZL:∀(j:Nat)(u:Value),ZQ W b j=some u->ZQ W' b j=some u:=λj u h=>(World.cell?_of_block (ZM.block b Zi Xq)).trans h
 exact⟨Vj,Ym,ZL _ _ Zd,ZL _ _ Zx,ZL _ _ Zr,ZL _ _ Zk,ZL _ _ Zl,hH Z8 ZM Zg,hH Z8 ZM XK⟩
end
def n1(m:D.ao):Bool:=decide (m.1≠[])&&m.1.all (λr=>decide (2<=r.length))&&ys m.2
theorem F.aaV(l:List F.ag):(F.aC l).2≠[]:=by
 intro h;obtain⟨n,-,Z5⟩:=(F.built l 4352).at' 0 (by omega);have e:(F.bj l 4352).2=[]:=h;grind
theorem aqi(props rules:List UInt8)(Zo:Value)(names:List (List UInt8))(t:List F.ag)(r:D.Rule)(w:World)(ZP:XC w Zo names)(Rw:F.cc names=true)(hp:F.cx props names false=some t)(ZM:F.bB t=true)(xE:F.split 10 rules=[rules])(Xq:F.trim ((F.split 35 rules).headD [])≠[])(YB:F.dE names (F.trim ((F.split 35 rules).headD []))=some r)(ZY:rules.length<=20000)(Yz:Mv r)(ZL:E9 [r] (names.length:Int)=0)(j9:n1 (HM [r] (names.length:Int))=true):
  Calls prog 47 #[.string (bs props),.string (bs rules),Zo] w λe w'=>(∃v,e=.returned (.tuple #[v,Z9 0,Z9 0])/\TabAt w' v ⟨names.length,F.aC t,[r],HM [r] names.length⟩)/\Z6 w w':=by
 obtain⟨Vw,IN⟩:∃Vw,F.aC t=Vw:=⟨_,rfl⟩
 obtain⟨O0,se⟩:∃O0,HM [r] (names.length:Int)=O0:=⟨_,rfl⟩
 have QQ:=bx (show Vw.1.length=4352/\Vw.2≠[]/\∀x∈Vw.2,x.length=256 from IN▸⟨(F.dq t 4352).1,F.aaV t,(F.dq t 4352).2.2⟩);rw[IN,se];rw[se]at j9;obtain⟨U7,V5,rfl,W2,VM⟩:=ZP.slice;have Yn:=Xl w (.cells #[Z9 0,Z1,Z1,Z1,Z1,Z1] 31);have UL:=bx (lR props _ names false t _ (ZP.below Yn) Rw hp);have Nv:=bx (λW(Z8:Z6 w W)=>aso rules _ names r W (ZP.below Z8) Rw xE Xq YB ZY);have Pq:=bx (λY2 W(ZT:TQ W Y2 [r])=>show Calls prog 104 #[Y2,Z9 (names.length:Int)] W λe w'=>Z6 W w'/\∃Rq,e=.returned (.tuple #[Rq,Z9 0])/\Oh w' Rq O0 by
  have WK:=ao5 Y2 [r] (names.length:Int) W (λx Z4=>by grind) ZT (by simp);unfold aea at WK;rw[ZL,se]at WK;exact WK)
 have AL:=bx (λZc W(hl:RT W Zc t)=>IN▸aeK Zc t W hl ZM);have ZR:=bx Yn;have Bs:=bx (Zv.new w 31 #[Z9 0,Z1,Z1,Z1,Z1,Z1]);have Ct:=bx j9;clear ZP Yn Rw hp ZM xE Xq YB Yz ZL j9 IN se
 go_in
 go_wp2_with fail;refine UL.o.mono ?_;rintro e ZV ⟨⟨Zc,rfl,WJ⟩,ZZ⟩;have ZW:=Zw ZR ZZ;have SF:=Bs.ub ZZ;have O6:=bx WJ;clear ZZ WJ;go_wp2_with fail;refine(Nv.o _ ZW.o).mono ?_;rintro e ZB ⟨⟨Y2,rfl,yM⟩,Zz⟩;have Zt:=Zw ZW Zz;have iP:=SF.ub Zz;have UI:=bx (O6.o.below Zz);have AO:=bx yM;clear Zz yM;go_wp2_with fail;obtain⟨FG,rc,rfl⟩:=AO.o.slice;refine(Pq.o _ ZB AO.o).mono ?_;rintro e Zh ⟨Zb,Rq,rfl,xG⟩;have YY:=Zw Zt Zb;have Gk:=iP.ub Zb;have Ro:=bx (UI.o.below Zb);have OM:=bx (AO.o.below Zb);have sJ:=bx xG;obtain⟨mn,aAH,rfl,N6,r7⟩:=xG;obtain⟨N4,KW,rfl⟩:=N6.slice;obtain⟨R6,XG,rfl⟩:=r7.slice;clear Zb N6 r7;go_wp2_with fail;have Zl:=Xl Zh (.cells #[.slice N4 (O0).1.length KW,.slice R6 (O0).2.length XG] 29);have GN:=bx (Zv.new Zh 29 #[.slice N4 (O0).1.length KW,.slice R6 (O0).2.length XG]);have Ye:=Zw YY Zl;have xi:=Gk.ub Zl;have Lo:=bx (Ro.o.below Zl);have KK:=bx (OM.o.below Zl);have o5:=bx (sJ.o.below Zl);clear Zl;obtain⟨M,Xv⟩:∃M,Zh.heap.size=M:=⟨_,rfl⟩
 rw[Xv]at GN⊢;generalize Zh.alloc (.cells #[.slice N4 (O0).1.length KW,.slice R6 (O0).2.length XG] 29)=YL at GN Ye xi Lo KK o5⊢;clear Xv;refine(AL.o Zc YL Lo.o).mono ?_;rintro e YK ⟨⟨YI,rfl,A3⟩,X0⟩;have X6:=Zw Ye X0;have oU:=xi.ub X0;have JY:=GN.ub X0;have Jj:=bx (KK.o.below X0);have vQ:=bx (o5.o.below X0);have yh:=bx A3;obtain⟨ZD,bv,rfl,PJ,Sh⟩:=A3;obtain⟨U0,UQ,rfl⟩:=PJ.slice;obtain⟨XD,Wm,rfl⟩:=Sh.slice;clear X0 PJ Sh;clear Pq AL Nv UL sJ o5 GN Bs SF iP Gk xi ZR ZW Zt YY Ye UI Ro Lo O6 AO OM KK;have XK:=Xl YK (.cells #[.slice U0 Vw.1.length UQ,.slice XD Vw.2.length Wm] 25);have VN:=Zw X6 XK;have O5:=oU.ub XK;have Ft:=bx (Jj.o.below XK);have aiJ:=bx (vQ.o.below XK);have u1:=bx (yh.o.below XK);have Z3:=JY.o.below XK JY.o.lt;have xx:=(Z3.cell 0).trans (show _=some (Value.slice N4 O0.1.length KW)from rfl);have FN:=(Z3.cell 1).trans (show _=some (Value.slice R6 O0.2.length XG)from rfl);have pz:=Z3.lt;have S2:=(O5.o.cell 0).trans (show _=some (Value.int .i64 0)from rfl);have r1:=(O5.o.cell 1).trans (show _=some (Value.slice none 0 0)from rfl);have r2:=(O5.o.cell 2).trans (show _=some (Value.slice none 0 0)from rfl);have r3:=(O5.o.cell 3).trans (show _=some (Value.slice none 0 0)from rfl);have r4:=(O5.o.cell 4).trans (show _=some (Value.slice none 0 0)from rfl);have Tu:=(O5.o.cell 5).trans (show _=some (Value.slice none 0 0)from rfl);have f0:=O5.o.frozen 0;have f1:=O5.o.frozen 1;have f2:=O5.o.frozen 2;have f3:=O5.o.frozen 3;have f4:=O5.o.frozen 4;have f5:=O5.o.frozen 5;have rl:=O5.o.lt;clear XK Z3;go_wp2_with fail;have Yo:Turns (λq=>q=w.heap.size) (YK.alloc (.cells #[.slice U0 Vw.1.length UQ,.slice XD Vw.2.length Wm] 25)) (((((((YK.alloc (.cells #[.slice U0 Vw.1.length UQ,.slice XD Vw.2.length Wm] 25)).setCell ⟨w.heap.size,0,none⟩ (Z9 ↑names.length)).setCell ⟨w.heap.size,1,none⟩ (.slice U0 Vw.1.length UQ)).setCell ⟨w.heap.size,2,none⟩ (.slice XD Vw.2.length Wm)).setCell ⟨w.heap.size,3,none⟩ (.slice FG 1 rc)).setCell ⟨w.heap.size,4,none⟩ (.slice N4 O0.1.length KW)).setCell ⟨w.heap.size,5,none⟩ (.slice R6 O0.2.length XG)):=((((((Turns.setCell (own:=λq=>q=w.heap.size) _ (p:=⟨w.heap.size,0,none⟩) rfl _).trans (Turns.setCell (own:=λq=>q=w.heap.size) _ (p:=⟨w.heap.size,1,none⟩) rfl _)).trans (Turns.setCell (own:=λq=>q=w.heap.size) _ (p:=⟨w.heap.size,2,none⟩) rfl _)).trans (Turns.setCell (own:=λq=>q=w.heap.size) _ (p:=⟨w.heap.size,3,none⟩) rfl _)).trans (Turns.setCell (own:=λq=>q=w.heap.size) _ (p:=⟨w.heap.size,4,none⟩) rfl _)).trans (Turns.setCell (own:=λq=>q=w.heap.size) _ (p:=⟨w.heap.size,5,none⟩) rfl _))
 have od:=Ct.o;unfold n1 at od;simp only[Vm,SS,QG]at od;obtain⟨⟨Pg,Oo⟩,wJ⟩:=od;obtain⟨ZD,bv,Zq,Sg,Nd⟩:=u1.o;injection Zq with Zq;simp only[Array.mk.injEq,QE,and_true]at Zq;obtain⟨rfl,rfl⟩:=Zq;obtain⟨ZD,bv,YP,NB,Py⟩:=aiJ.o;injection YP with YP;simp only[Array.mk.injEq,QE,and_true]at YP;obtain⟨rfl,rfl⟩:=YP;have FU:Zv (YK.alloc (.cells #[.slice U0 Vw.1.length UQ,.slice XD Vw.2.length Wm] 25)) w.heap.size 31 AU:=O5.o;have q1:=nQ FU Yo Sg (by unfold ys;rw[QQ.o.1];rfl);have q2:=aeL FU Yo Nd QQ.o.2.1 (λx Z4=>by have:=QQ.o.2.2 x Z4;omega);have q3:=are FU Yo Ft.o (by simp);have q4:=aeL FU Yo NB Pg Oo;have q5:=nQ FU Yo Py wJ;have aox:TabAt (((((((YK.alloc (.cells #[.slice U0 Vw.1.length UQ,.slice XD Vw.2.length Wm] 25)).setCell ⟨w.heap.size,0,none⟩ (Z9 ↑names.length)).setCell ⟨w.heap.size,1,none⟩ (.slice U0 Vw.1.length UQ)).setCell ⟨w.heap.size,2,none⟩ (.slice XD Vw.2.length Wm)).setCell ⟨w.heap.size,3,none⟩ (.slice FG 1 rc)).setCell ⟨w.heap.size,4,none⟩ (.slice N4 O0.1.length KW)).setCell ⟨w.heap.size,5,none⟩ (.slice R6 O0.2.length XG)) (.agg #[Z9 ↑names.length,.slice U0 Vw.1.length UQ,.slice XD Vw.2.length Wm,.slice FG 1 rc,.slice N4 O0.1.length KW,.slice R6 O0.2.length XG]) ⟨↑names.length,Vw,[r],O0⟩:=aph q1 q2 q3 q4 q5;refine bodyPost_ret (v:=.tuple #[.agg #[Z9 ↑names.length,.slice U0 Vw.1.length UQ,.slice XD Vw.2.length Wm,.slice FG 1 rc,.slice N4 O0.1.length KW,.slice R6 O0.2.length XG],Z9 0,Z9 0]) (Ab results47 _ _ w.heap.size 31 #[Z9 ↑names.length,.slice U0 Vw.1.length UQ,.slice XD Vw.2.length Wm,.slice FG 1 rc,.slice N4 O0.1.length KW,.slice R6 O0.2.length XG] (0,0) _ rfl ((((((O5.o.ai 0 (Z9 ↑names.length)).ai 1 (.slice U0 Vw.1.length UQ)).ai 2 (.slice XD Vw.2.length Wm)).ai 3 (.slice FG 1 rc)).ai 4 (.slice N4 O0.1.length KW)).ai 5 (.slice R6 O0.2.length XG)) underlying31 rfl acR) rfl
  ⟨⟨_,rfl,aox⟩,((((((VN.o.setCell Ys _).setCell Ys _).setCell Ys _).setCell Ys _).setCell Ys _).setCell Ys _)⟩
theorem atA{n m:Nat}{W0 w:World}{ps:List Pc}{ZD bv:Value}{xs:List Int}{L:List (Value×List Int)}(h:Sep (Pc.row m 3 1 ZD xs.length (xs.map (Value.int .i64))::Pc.row m 22 1 bv L.length (L.map (·.1))::Pc.aL Nw L::Pc.old n W0::ps) w)(hm:n<=m):Sep (Ej n W0 ps ZD bv xs L) w:=
 (h.as 0 (p':=Pc.row n 3 1 ZD xs.length (xs.map (Value.int .i64))) rfl (λZT=>own_base ZT hm) (λ_ Z3=>Z3)).as 1 (p':=Pc.row n 22 1 bv L.length (L.map λy:Value×List Int=>y.1)) rfl (λZT=>own_base (xs:=L.map λy:Value×List Int=>y.1) ZT hm) (λ_ Z3=>Z3)
theorem abt(W:World)(a b:List UInt8)(T:TypeId):XC (W.alloc (.cells #[.string (bs a),.string (bs b)] T)) (.slice (some ⟨W.heap.size,0,none⟩) 2 2) [a,b]:=
 U8.ei (xs:=[a,b].map Vu) (T:=T) (Zv.new W T #[.string (bs a),.string (bs b)]) (by simp)
theorem abE(file name:List UInt8)(t:List F.ag)(w:World)(Rw:F.cc [[78,111],name]=true)(hp:F.cx file [[78,111],name] true=some t)(ZM:F.bB t=true):
  Calls prog 109 #[.string (bs file),.string (bs name)] w λe w'=>∃ZD bv L,e=.returned (.tuple #[.agg #[ZD,bv],Z9 0,Z9 0])/\L.map (·.2)=(F.aC t).2/\Sep (Ej w.heap.size w [] ZD bv (F.aC t).1 L) w':=by
 obtain⟨Vw,IN⟩:∃Vw,F.aC t=Vw:=⟨_,rfl⟩
 rw[IN];obtain⟨V,ZO⟩:∃V,V=w.alloc (.cells #[Z1,Z1] 25):=⟨_,rfl⟩
 have awO:V.heap.size=w.heap.size+1:=by rw[ZO];simp
 have XI:=bx (show Sep [Pc.blk w.heap.size 25 #[Z1,Z1],Pc.old w.heap.size w] V by rw[ZO];exact(Sep.start w).ak 25 #[Z1,Z1]);have S6:=bx (abt V [78,111] name 9);have UL:=bx (lR file _ [[78,111],name] true t (V.alloc (.cells #[.string (bs [78,111]),.string (bs name)] 9)) S6.o Rw hp);have AL:=bx (λZc W(hl:RT W Zc t)=>IN▸ab4 Zc t W hl ZM);have ZN:=bx ZO;clear Rw hp ZM IN awO ZO
 go_in
 go_upto_region 1 with(fail)
 rw[<-ZN.o];have XF:bs [78,111]={data:=#[78,111]}:=rfl;rw[XF]at UL;go_wp2_with fail;refine UL.o.mono ?_;rintro e ZV ⟨⟨Zc,rfl,WJ⟩,ZZ⟩;have V0:=bx ((XI.o.alloc (.cells #[.string {data:=#[78,111]},.string (bs name)] 9)).below ZZ);have O6:=bx WJ;have LG:=(V0.o.bel (n:=w.heap.size) (W0:=w) (by simp)).size;clear ZZ WJ;go_wp2_with fail;refine(AL.o Zc ZV O6.o).mono ?_;rintro e ZB ⟨ZD,bv,L,rfl,WE,Rj⟩;have W4:=bx WE;have V1:=bx (V0.o.frame (qs:=[_,_,_]) Rj);obtain⟨U0,UQ,rfl,LK,QZ⟩:=UG (Rj.row 0 rfl);obtain⟨XD,Wm,rfl,ZZ,Zz⟩:=UG (Rj.row 1 rfl);clear WE Rj;have WT:=bx (V1.o.ak 25 #[.slice U0 Vw.1.length UQ,.slice XD L.length Wm]);have ZT:=WT.o.blk 4 rfl;have S2:=(ZT.cell 0).trans (show _=some (Value.slice none 0 0)from rfl);have r1:=(ZT.cell 1).trans (show _=some (Value.slice none 0 0)from rfl);have f0:=ZT.frozen 0;have f1:=ZT.frozen 1;have rl:=ZT.lt;clear ZT;go_wp2_with fail;have Yu:=(WT.o.set 4 rfl 0 (.slice U0 Vw.1.length UQ)).set 4 rfl 1 (.slice XD L.length Wm);refine bodyPost_ret (v:=.tuple #[.agg #[.slice U0 Vw.1.length UQ,.slice XD L.length Wm],Z9 0,Z9 0]) (Ab results109 _ _ w.heap.size 25 #[.slice U0 Vw.1.length UQ,.slice XD L.length Wm] (0,0) _ rfl (Yu.blk 4 rfl) underlying25 rfl sg) rfl ⟨_,_,L,rfl,W4.o,?_⟩;exact atA ((Yu.drop 4).tail) LG
theorem aj3{w:World}{b off K:Nat}{xs:List (List Value)}(Xc:0<K)(h:∀(i:Nat)(c:List Value),xs[i]?=some c->∀(j:Nat)(u:Value),c[j]?=some u->w.cell? ⟨b,off+i*K+j,none⟩=some u)(Z3:∀c∈xs,c.length=K)(n ZU:Nat):IY w (.slice (some ⟨b,off,none⟩) n ZU) n xs.flatten:=by
 refine .inr ⟨_,_,rfl,λj u hu=>?_⟩;have TL:xs.flatten.length=xs.length*K:=by
  clear h hu
  induction xs with
  |nil=>simp
  |cons c t XZ=>grind
 have YO:j<xs.length*K:=by grind
 have hi:=Nat.div_lt_of_lt_mul (by rw[Nat.mul_comm];exact YO);obtain⟨c,ZL⟩:=Yg xs (j/K) hi;have V9:=Z3 c (Xh ZL);have hm:j%K<K:=Nat.mod_lt _ Xc;obtain⟨ahQ,ag3⟩:∃ahQ,c[j%K]?=some ahQ:=⟨_,SA (by omega)⟩
 have Z7:=ny Z3 ZL ag3;have k9:j/K*K+j%K=j:=by rw[Nat.mul_comm];exact Nat.div_add_mod j K
 rw[k9,hu]at Z7
 cases Z7;have Z5:=h (j/K) c ZL (j%K) u ag3
 (try unfold ZQ at *);grind[Addr.add]
def UR(y:Int×Value):List Value:=[Z9 y.1,y.2]
def isSlice(v:Value):Prop:=∃a n c,v=.slice a n c
theorem ov(l:List (Int×Value)):(l.flatMap UR).length=l.length*2:=by
 induction l with
 |nil=>rfl
 |cons x t XZ=>rw[I3,WR,XZ,U3];grind[UR]
theorem m2{l:List (Int×Value)}(h:∀y∈l,isSlice y.2):∀u∈l.flatMap UR,u.oneCell'=true:=by
 intro u hu;obtain⟨y,ZJ,hu⟩:=List.mem_flatMap.1 hu;simp only[UR,T7,RH,or_false]at hu;obtain⟨a,n,c,e⟩:=h y ZJ
 rcases hu with rfl|rfl
 ·rfl
 rw[e];rfl
theorem Ci:ID prog 34 272 2 32:=.mk' (z:=.agg #[Z9 0,Z1]) underlying34 (by rfl) rfl
def Ld(l:List (Int×Value))(r:Int)(t:Value):List (Int×Value):=
 l.takeWhile (λy=>decide (y.1<r))++(r,t)::match l.dropWhile (λy=>decide (y.1<r))with
  |[]=>[]
  |x::q=>if x.1=r then q else x::q
theorem aoj{l:List (Int×Value)}{a:Int}:∀{k:Nat},(∀(j:Nat)(y:Int×Value),j<k->l[j]?=some y->y.1<a)->k<=l.length->(∀y,l[k]?=some y->¬y.1<a)->l.takeWhile (λy=>decide (y.1<a))=l.take k/\l.dropWhile (λy=>decide (y.1<a))=l.drop k:=by
 induction l with
 |nil=>
  simp
 |cons x t XZ=>
  intro k Z7 Z3 Z5
  cases k with
  |zero=>
   simp_all
  |succ k=>
   have Z4:=Z7 0 x (by omega) rfl;grind[List.takeWhile_cons_of_pos,List.dropWhile_cons_of_pos]
theorem mU(a:Option Addr)(N ZU k:Nat)(l:List (Int×Value))(_:k<=N)(_:N<=ZU)(_:ZU<=9223372036854775807)(Zp:l.length=N){YR:World}(ZI:OD 2 YR (.slice a N ZU) (l.map UR)):∃L Y,L+k=N/\(∀W,(Instr.slice 34 (.slice a N ZU) (some (Z9 (k:Int))) none none).run prog W=.ok Y W)/\∀W,OD 2 W (.slice a N ZU) (l.map UR)->IY W Y L ((l.drop k).flatMap UR):=by
 subst Zp;have zT:k<=ZU:=by omega
 cases a with
 |none=>
  obtain⟨rfl,rfl⟩:l=[]/\ZU=0:=by
   rcases ZI with⟨Z7,Z5⟩|⟨b,off,sp,XV,Z7,_⟩
   ·grind
   grind
  obtain rfl:k=0:=by omega
  exact⟨0,Z1,rfl,λW=>by go_simp,λW _=>.inl ⟨rfl,rfl,rfl⟩⟩
 |some SY=>
  have key:∀(ya:Addr),(k<l.length->ya=SY.add (k*2))->∀W,OD 2 W (.slice (some SY) l.length ZU) (l.map UR)->IY W (.slice (some ya) (l.length-k) (ZU-k)) (l.length-k) ((l.drop k).flatMap UR):=by
   intro ya ul W Yj
   by_cases ZP:l=[]
   ·subst ZP;exact .inr ⟨_,_,rfl,λj u hu=>by grind⟩
   obtain⟨b,off,XV,Zq,-,-,-,ZH⟩:=Yj.get (by simp_all);obtain⟨rfl,rfl⟩:SY=⟨b,off,none⟩/\ZU=XV:=by grind
   rcases SM k l.length with Z7|Z7
   ·rw[ul Z7,show(⟨b,off,none⟩:Addr).add (k*2)=⟨b,off+k*2,none⟩ by simp[Addr.add],qK];refine aj3 (K:=2) (by omega) (λi c Hx j u hu=>?_) (λc Hx=>by obtain⟨y,-,rfl⟩:=SL.1 Hx;rfl) _ _;rw[RX,pr]at Hx;have WK:=ZH (k+i) c (by grind) j u hu;grind
   rw[Gr Z7];exact .inr ⟨_,_,rfl,λj u hu=>by grind⟩
  by_cases h:ZU=k
  ·exact⟨l.length-k,.slice (some SY) (l.length-k) (ZU-k),by omega,λW=>by go_simp,key SY (λZ7=>by omega)⟩
  exact⟨l.length-k,.slice (some (SY.add (k*2))) (l.length-k) (ZU-k),by omega,λW=>by go_simp,key _ (λ_=>rfl)⟩
theorem aeP(v:Value)(l:List (Int×Value))(r:Int)(YI:Value)(w:World)(Z2:OD 2 w v (l.map UR))(Xa:∀y∈l,isSlice y.2)(A3:isSlice YI)(ZY:l.length<=100000):
  Calls prog 194 #[v,Z9 r,YI] w λe w'=>(∃Zy,e=.returned Zy/\w'.ownsRow w.heap.size 272 2 Zy (Ld l r YI).length ((Ld l r YI).flatMap UR))/\Z6 w w':=by
 obtain⟨a,ZU,rfl,W2,VM⟩:=Z2.slice;obtain⟨VR,Yk,Ub,rfl⟩:=A3;rw[X4]at Z2 W2⊢;obtain⟨N,Zp⟩:∃N,l.length=N:=⟨_,rfl⟩
 have ZE:=bx Zp;rw[Zp]at Z2 W2 ZY⊢;have ZN:=bx Z2;have Wg:=bx Xa;have XI:=bx ((Sep.start w).aH w.heap.size 2 272);clear Z2 Zp Xa
 go_in
 go_wp2_with fail
 go_loopw[8,7] (λi o wr=>∃(k:Nat)(UP:Option Addr)(Wr:Nat),k<=N/\i=Z9 k/\o=.slice UP k Wr/\Box (∀(j:Nat)(y:Int×Value),j<k->l[j]?=some y->y.1<r)/\Box (Sep [Pc.row w.heap.size 272 2 (.slice UP k Wr) k ((l.take k).flatMap UR),Pc.old w.heap.size w] wr)) (λi _ _=>N-(intOf i).toNat)
 ·exact⟨0,none,0,by omega,rfl,rfl,⟨λj y h=>by omega⟩,XI⟩
 obtain⟨k,UP,Wr,Z3,rfl,rfl,XF,UE⟩:=hrel;have X3:=bx (UE.o.bel (n:=w.heap.size) (W0:=w) (by simp));have WP:=X3.o.size
 by_cases MG:∃y,l[k]?=some y/\y.1<r
 ·obtain⟨y,ZJ,Zu⟩:=MG;have PI:k<N:=by rw[<-ZE.o];grind
  have zr:(l.map UR)[k]?=some (UR y):=by grind
  obtain⟨g,off,XV,Y5,XL,Yi,XB,YX⟩:=(ZN.o.below X3.o).get (by grind);rw[X4,ZE.o]at Y5;obtain⟨rfl,rfl⟩:=XN Y5;obtain⟨Vy,TX⟩:=y;obtain⟨LR,ju,NJ,rfl⟩:isSlice TX:=Wg.o _ (Xh ZJ);have YV:wr.cell? ⟨g,off+k*2,none⟩=some (Z9 Vy):=YX k _ zr 0 _ rfl;have c1:wr.cell? ⟨g,off+k*2+1,none⟩=some (.slice LR ju NJ):=YX k _ zr 1 _ rfl;have Zq:decide (Vy<r)=true:=Yh Zu;have RA:=bx (show∀(j:Nat)(z:Int×Value),j<k+1->l[j]?=some z->z.1<r from λj z _ ZY=>by
   rcases SM j k with Z7|Z7
   ·exact XF.o j z Z7 ZY
   grind)
  have U1:=bx (show(l.take (k+1)).flatMap UR=(l.take k).flatMap UR++UR (Vy,.slice LR ju NJ) by rw[Uo,ZJ,Option.toList_some,Hi,List.flatMap_singleton]);unfold maxLen at Yi;clear ZJ Zu zr Y5 XL YX;go_wp2_with (at_builtin;refine GK (cs:=UR (Vy,.slice LR ju NJ)) rfl _ _ 34 rfl Ci (by decide) UE.o 0 rfl rfl rfl rfl (by intro u hu;simp only[UR,T7,RH,or_false]at hu;rcases hu with rfl|rfl <;> rfl) (by omega) (by omega) WP ?_;rintro Zy XA WC ⟨go',TV,rfl,-,-⟩)
  rw[<-U1.o]at WC;have WQ:=bx WC;clear WC
  go_wp2
  go_roundw
  ·exact⟨k+1,_,_,PI,by go_num,rfl,RA,WQ⟩
  grind[intOf]
 obtain⟨JI,yK⟩:Box (l.takeWhile (λy=>decide (y.1<r))=l.take k)/\Box (l.dropWhile (λy=>decide (y.1<r))=l.drop k):=by
  obtain⟨Z7,Z5⟩:=aoj (a:=r) XF.o (by rw[ZE.o];exact Z3) (λy ZJ h=>MG ⟨y,ZJ,h⟩);exact⟨⟨Z7⟩,⟨Z5⟩⟩
 have oc:N=k\/∃y,l[k]?=some y/\¬y.1<r:=by
  rcases SM k N with h|h
  ·exact .inr ⟨l[k]'(by rw[ZE.o];exact h),SA (by rw[ZE.o];exact h),λWK=>MG ⟨_,SA (by grind),WK⟩⟩
  omega
 clear MG XF
 rcases oc with rfl|⟨y,ZJ,Zu⟩
 ·obtain⟨L,Y,Hz,kX,hcut⟩:=mU a N ZU N l Z3 W2 VM ZE.o ZN.o;have Dz:=bx (show Ld l r (.slice VR Yk Ub)=l.take N++(r,.slice VR Yk Ub)::l.drop N by
   unfold Ld;rw[JI.o,yK.o,Gr (by rw[ZE.o];omega)])
  have Oz:=bx Hz;have GJ:=bx (λW(h:Z6 w W)=>hcut W (ZN.o.below h));have KC:=bx (m2 (l:=l.drop N) (λy ZJ=>Wg.o y (List.mem_of_mem_drop ZJ)));have afV:L<=100000:=by omega
  clear hcut Hz;go_wp2_with (first
   |(at_builtin;refine IE rfl _ _ 34 rfl Ci (by decide) WQ.o 0 rfl rfl rfl (GJ.o _ VN.o) (by rw[ov,Px,ZE.o];have:=Oz.o;omega) KC.o (by omega) (by omega) VN.o.size ?_;rintro O3 Xi Wl)
   |(at_builtin;refine GK (cs:=UR (r,.slice VR Yk Ub)) rfl _ _ 34 rfl Ci (by decide) UE.o 0 rfl rfl rfl rfl (by intro u hu;simp only[UR,T7,RH,or_false]at hu;rcases hu with rfl|rfl <;> rfl) (by omega) (by omega) WP ?_;rintro Zy XA WC ⟨go',TV,rfl,-,-⟩;have WQ:=bx WC;have VN:=bx (WQ.o.bel (n:=w.heap.size) (W0:=w) (by simp));clear WC))
  have V7:=Wl.row 0 rfl;have XM:=bx (Wl.bel (n:=w.heap.size) (W0:=w) (by simp));have Mn:=bx (show Xi.ownsRow w.heap.size 272 2 O3 (Ld l r (.slice VR Yk Ub)).length ((Ld l r (.slice VR Yk Ub)).flatMap UR) by
   rw[Dz.o,Hi,I3,WR,U3,SW,Px,ZE.o,<-M8,show min N N+(N-(N)+1)=N+1+L by have:=Oz.o;omega];omega)
  clear Wl V7
  go_wp2
  go_ret
  exact⟨⟨_,rfl,Mn.o⟩,XM.o⟩
 have PI:k<N:=by rw[<-ZE.o];grind
 have zr:(l.map UR)[k]?=some (UR y):=by grind
 obtain⟨g,off,XV,Y5,XL,Yi,XB,YX⟩:=(ZN.o.below X3.o).get (by grind);rw[X4,ZE.o]at Y5;obtain⟨rfl,rfl⟩:=XN Y5;have YV:wr.cell? ⟨g,off+k*2,none⟩=some (Z9 y.1):=YX k _ zr 0 _ rfl;have Wz:decide ((k:Int)<(N:Int))=true:=Yh (by omega);have Zq:=Yp Zu;have ud:l.drop k=y::l.drop (k+1):=by rw[H9 (by grind),(R7 ZJ).2]
 unfold maxLen at Yi;clear ZJ Zu zr Y5 XL YX
 by_cases Jf:y.1=r
 ·obtain⟨L,Y,Hz,afg,hcut⟩:=mU _ N ZU (k+1) l (by omega) W2 VM ZE.o ZN.o;have kX:=λW=>by
   have:=afg W
   rwa[show((k+1:Nat):Int)=(k:Int)+1 by omega]at this
  have Dz:=bx (show Ld l r (.slice VR Yk Ub)=l.take k++(r,.slice VR Yk Ub)::l.drop (k+1) by
   unfold Ld;rw[JI.o,yK.o,ud];grind)
  have YP:(y.1==r)=true:=by grind
  clear afg Jf ud;have Oz:=bx Hz;have GJ:=bx (λW(h:Z6 w W)=>hcut W (ZN.o.below h));have KC:=bx (m2 (l:=l.drop (k+1)) (λy ZJ=>Wg.o y (List.mem_of_mem_drop ZJ)));have afV:L<=100000:=by omega
  clear hcut Hz;go_wp2_with (first
   |(at_builtin;refine IE rfl _ _ 34 rfl Ci (by decide) WQ.o 0 rfl rfl rfl (GJ.o _ VN.o) (by rw[ov,Px,ZE.o];have:=Oz.o;omega) KC.o (by omega) (by omega) VN.o.size ?_;rintro O3 Xi Wl)
   |(at_builtin;refine GK (cs:=UR (r,.slice VR Yk Ub)) rfl _ _ 34 rfl Ci (by decide) UE.o 0 rfl rfl rfl rfl (by intro u hu;simp only[UR,T7,RH,or_false]at hu;rcases hu with rfl|rfl <;> rfl) (by omega) (by omega) WP ?_;rintro Zy XA WC ⟨go',TV,rfl,-,-⟩;have WQ:=bx WC;have VN:=bx (WQ.o.bel (n:=w.heap.size) (W0:=w) (by simp));clear WC))
  have V7:=Wl.row 0 rfl;have XM:=bx (Wl.bel (n:=w.heap.size) (W0:=w) (by simp));have Mn:=bx (show Xi.ownsRow w.heap.size 272 2 O3 (Ld l r (.slice VR Yk Ub)).length ((Ld l r (.slice VR Yk Ub)).flatMap UR) by
   rw[Dz.o,Hi,I3,WR,U3,SW,Px,ZE.o,<-M8,show min k N+(N-(k+1)+1)=k+1+L by have:=Oz.o;omega];omega)
  clear Wl V7
  go_wp2
  go_ret
  exact⟨⟨_,rfl,Mn.o⟩,XM.o⟩
 obtain⟨L,Y,Hz,kX,hcut⟩:=mU _ N ZU k l Z3 W2 VM ZE.o ZN.o;have Dz:=bx (show Ld l r (.slice VR Yk Ub)=l.take k++(r,.slice VR Yk Ub)::l.drop k by
  unfold Ld;rw[JI.o,yK.o,ud];grind)
 have YP:(y.1==r)=false:=by grind
 clear Jf ud;have Oz:=bx Hz;have GJ:=bx (λW(h:Z6 w W)=>hcut W (ZN.o.below h));have KC:=bx (m2 (l:=l.drop k) (λy ZJ=>Wg.o y (List.mem_of_mem_drop ZJ)));have afV:L<=100000:=by omega
 clear hcut Hz;go_wp2_with (first
  |(at_builtin;refine IE rfl _ _ 34 rfl Ci (by decide) WQ.o 0 rfl rfl rfl (GJ.o _ VN.o) (by rw[ov,Px,ZE.o];have:=Oz.o;omega) KC.o (by omega) (by omega) VN.o.size ?_;rintro O3 Xi Wl)
  |(at_builtin;refine GK (cs:=UR (r,.slice VR Yk Ub)) rfl _ _ 34 rfl Ci (by decide) UE.o 0 rfl rfl rfl rfl (by intro u hu;simp only[UR,T7,RH,or_false]at hu;rcases hu with rfl|rfl <;> rfl) (by omega) (by omega) WP ?_;rintro Zy XA WC ⟨go',TV,rfl,-,-⟩;have WQ:=bx WC;have VN:=bx (WQ.o.bel (n:=w.heap.size) (W0:=w) (by simp));clear WC))
 have V7:=Wl.row 0 rfl;have XM:=bx (Wl.bel (n:=w.heap.size) (W0:=w) (by simp));have Mn:=bx (show Xi.ownsRow w.heap.size 272 2 O3 (Ld l r (.slice VR Yk Ub)).length ((Ld l r (.slice VR Yk Ub)).flatMap UR) by
  rw[Dz.o,Hi,I3,WR,U3,SW,Px,ZE.o,<-M8,show min k N+(N-(k)+1)=k+1+L by have:=Oz.o;omega];exact V7)
 clear Wl V7
 go_wp2
 go_ret
 exact⟨⟨_,rfl,Mn.o⟩,XM.o⟩
theorem F.aq1{s:List UInt8}{o:List Int}(_:F.cm s=some o):(s=[]/\o=[])\/(s≠[]/\∃r,F.code s=some r/\U.right r=true/\o=[r]):=by
 grind[F.cm]
theorem rS(W:World)(r:Int)(T:TypeId):Y6 (W.alloc (.cells #[Z9 r] T)) (.slice (some ⟨W.heap.size,0,none⟩) 1 1) [r]:=by
 refine .inr ⟨W.heap.size,0,none,1,rfl,Wq _,by simp[maxLen],λ_=>⟨rfl,by simp,λi _ _=>?_⟩⟩;have hi:i=0:=by grind
 simp_all
theorem yt(s:List UInt8)(o:List Int)(w:World)(YB:F.cm s=some o)(_:s.length<=20000):
  Calls prog 192 #[.string (bs s)] w λe w'=>(∃v,e=.returned (.tuple #[v,.bool true])/\Y6 w' v o/\∀g,v.ownBlock=some g->w.heap.size<=g/\g<w'.heap.size)/\Z6 w w':=by
 rcases F.aq1 YB with⟨rfl,rfl⟩|⟨Z0,r,ZL,ZT,rfl⟩
 ·have Hw:=D3;clear YB
  go_in
  go_wp2
  go_ret2
  exact⟨⟨_,rfl,.inl ⟨rfl,rfl⟩,λg ZH=>by cases ZH⟩,Below.refl _ _⟩
 have Hw:=EZ Z0;have Pq:=bx (sy s w (by omega));rw[ZL]at Pq;unfold sv at Pq;simp only at Pq;have Xx:=bx (λW=>ZT▸AY r W);have YE:=bx (rS w r 3);have V3:=bx (Xl w (.cells #[Z9 r] 3));clear YB Z0 ZL ZT
 go_in
 go_wp2_with fail;refine YW Pq.o ?_;go_wp2_with fail;refine YW (Xx.o _) ?_
 go_wp2
 go_ret2
 exact⟨⟨_,rfl,YE.o,λg ZH=>by simp[Value.ownBlock]at ZH;simp_all⟩,V3.o⟩
theorem hT(v:Value)(xs:List Int)(r:Int)(w:World)(Z2:Y6 w v xs)(ZY:xs.length<=100000):
  Calls prog 193 #[v,Z9 r] w λe w'=>e=.returned (.bool (xs.contains r))/\w=w':=by
 have ZN:=bx Z2;obtain⟨a,ZU,rfl⟩:=Z2.slice;clear Z2
 go_in
 go_wp2_with fail
 go_loopw[5] (λi wr=>∃k:Nat,k<=xs.length/\i=Z9 k/\Box (∀(j:Nat)(y:Int),j<k->xs[j]?=some y->y≠r)/\wr=w) (λi _=>xs.length-(intOf i).toNat)
 ·exact⟨0,by omega,rfl,⟨λj y _=>by omega⟩,rfl⟩
 obtain⟨k,Z3,rfl,XF,rfl⟩:=hrel
 by_cases Zu:k<xs.length
 ·obtain⟨y,ZJ⟩:=Yg xs k Zu;obtain⟨g,off,XV,Y5,XL,Yi,XB,YX⟩:=ZN.o.get (by grind);obtain⟨rfl,rfl⟩:=XN Y5;have Q0:=YX k y ZJ;unfold maxLen at Yi;have Wn:=bx ZJ;clear ZJ Y5 YX
  by_cases he:y=r
  ·have Zq:(y==r)=true:=by grind
   have Yq:=bx (show xs.contains r=true by rw[List.contains_iff_mem];rw[<-he];exact Xh Wn.o);clear he
   go_wp2
   go_ret
   exact⟨YG Yq.o.symm,rfl⟩
  have Zq:(y==r)=false:=by grind
  have ZE:=bx (show∀(j:Nat)(z:Int),j<k+1->xs[j]?=some z->z≠r from λj z _ ZY=>by
   rcases SM j k with Z7|Z7
   ·exact XF.o j z Z7 ZY
   obtain rfl:j=k:=by omega
   rw[Wn.o]at ZY
   grind)
  clear he
  go_wp2
  go_roundw
  ·exact⟨k+1,Zu,by go_num,ZE,trivial⟩
  grind[intOf]
 obtain rfl:k=xs.length:=by omega
 have Yq:=bx (show xs.contains r=false by
  rw[Bool.eq_false_iff,ne_eq,List.contains_iff_mem];intro hm;obtain⟨i,hi,e⟩:=List.getElem_of_mem hm;exact XF.o i r hi (by grind) rfl)
 go_wp2
 go_ret
 exact⟨YG Yq.o.symm,rfl⟩
end
def F.ec(x:F.Rec):Option (Bool×List Int):=
 if x.2.1=x.2.2.1/\U.right x.2.1=true/\14<=x.2.2.2.length then
  match F.cm (x.2.2.2.getD 11 []),F.cm (x.2.2.2.getD 12 []),F.cm (x.2.2.2.getD 13 [])with
  |some [],some (s::t),some []=>some (true,s::t)
  |some _,some [],some (s::t)=>some (false,s::t)
  |_,_,_=>none
 else none
def F.bP(rs:List F.Rec):Nat->Option (List Int×List F.Map×List F.Map)
 |0=>some ([],[],[])
 |k+1=>match F.bP rs k with
  |none=>none
  |some (met,lo,ti)=>match F.ec (rs.getD k (0,0,0,[]))with
   |none=>none
   |some (b,o)=>if met.contains (rs.getD k (0,0,0,[])).2.1=true then none else some (met++[(rs.getD k (0,0,0,[])).2.1],if b=true then F.cO lo (rs.getD k (0,0,0,[])).2.1 o else lo,if b=true then ti else F.cO ti (rs.getD k (0,0,0,[])).2.1 o)
theorem F.gu{rs:List F.Rec}{k:Nat}:∀{n:Nat}{r:List Int×List F.Map×List F.Map},k<=n->F.bP rs n=some r->∃q,F.bP rs k=some q
 |0,r,Z3,h=>by grind
 |n+1,r,Z3,h=>by
  rcases SM k (n+1)with Z7|Z7
  ·unfold F.bP at h
   cases Zs:F.bP rs n with
   |none=>grind
   |some q=>exact F.gu (by omega) Zs
  grind
theorem F.avj{rs:List F.Rec}{k:Nat}{x:F.Rec}{met:List Int}{lo ti:List F.Map}{r:List Int×List F.Map×List F.Map}(_:rs[k]?=some x)(_:F.bP rs k=some (met,lo,ti))(_:F.bP rs (k+1)=some r):
  ∃b o,F.ec x=some (b,o)/\met.contains x.2.1=false/\r=(met++[x.2.1],if b=true then F.cO lo x.2.1 o else lo,if b=true then ti else F.cO ti x.2.1 o):=by
 grind[F.bP]
theorem F.amy{x:F.Rec}{b:Bool}{o:List Int}(h:F.ec x=some (b,o)):x.2.1=x.2.2.1/\U.right x.2.1=true/\14<=x.2.2.2.length/\o≠[]/\
  ((b=true/\F.cm (x.2.2.2.getD 11 [])=some []/\F.cm (x.2.2.2.getD 12 [])=some o/\F.cm (x.2.2.2.getD 13 [])=some [])\/(b=false/\(∃q,F.cm (x.2.2.2.getD 11 [])=some q)/\F.cm (x.2.2.2.getD 12 [])=some []/\F.cm (x.2.2.2.getD 13 [])=some o)):=by
 unfold F.ec at h
 split at h
 ·grind
 cases h
def HX{α:Type}(key:α->Int)(l:List α)(x:α):List α:=
 l.takeWhile (λy=>decide (key y<key x))++x::match l.dropWhile (λy=>decide (key y<key x))with
  |[]=>[]
  |z::q=>if key z=key x then q else z::q
theorem gP{α β:Type}{ka:α->Int}{kb:β->Int}(f:α->β)(_:∀x,kb (f x)=ka x)(l:List α)(x:α):(HX ka l x).map f=HX kb (l.map f) (f x):=by
 unfold HX;rw[T9,RG,List.takeWhile_map,List.dropWhile_map];have e:(λy=>decide (kb y<kb (f x)))∘f=λy=>decide (ka y<ka x):=by
  grind
 grind
theorem amk{α:Type}{key:α->Int}{l:List α}{x y:α}(h:y∈HX key l x):y∈l\/y=x:=by
 unfold HX at h
 rcases Nb.1 h with h|h
 ·exact .inl (List.takeWhile_subset _ h)
 rcases T7.1 h with h|h
 ·grind
 split at h
 ·cases h
 rename_i z q Zs
 refine .inl ((List.dropWhile_subset (λy=>decide (key y<key x)):_ ⊆ l) ?_);grind
theorem ab2{α:Type}(key:α->Int)(l:List α)(x:α):(HX key l x).length<=l.length+1:=by
 unfold HX;have:=congrArg List.length (List.takeWhile_append_dropWhile (p:=λy=>decide (key y<key x)) (l:=l));grind
theorem atX(l:List (Int×Value))(r:Int)(t:Value):HX (λy:Int×Value=>y.1) l (r,t)=Ld l r t:=by
 grind[HX,Ld]
theorem asl(l:List F.Map)(r:Int)(o:List Int):HX (λy:F.Map=>y.1) l (r,o)=F.cO l r o:=by
 grind[HX,F.cO]
abbrev QP:=F.Map×Value
def Tl(y:QP):Int×Value:=(y.1.1,y.2)
def Le(l:List QP)(r:Int)(o:List Int)(t:Value):List QP:=HX (λy:QP=>y.1.1) l ((r,o),t)
theorem ab7(l:List QP)(r:Int)(o:List Int)(t:Value):(Le l r o t).map Tl=Ld (l.map Tl) r t:=by
 exact gP (ka:=λy:QP=>y.1.1) (kb:=λy:Int×Value=>y.1) Tl (λ_=>rfl) l ((r,o),t) |>.trans (atX _ _ _)
theorem h6(l:List QP)(r:Int)(o:List Int)(t:Value):(Le l r o t).map (·.1)=F.cO (l.map (·.1)) r o:=by
 exact gP (ka:=λy:QP=>y.1.1) (kb:=λy:F.Map=>y.1) (λy:QP=>y.1) (λ_=>rfl) l ((r,o),t) |>.trans (asl _ _ _)
section
attribute[local go_sem] Oper.semAt_some
def Bg:Array Value:=#[Z1,Z1,Z1,Z1,Z1,Z1]
abbrev y5(n:Nat)(W0:World)(C R:Nat)(Zc YI Rq Y2:Value)(met:List Int)(Ti Th:List QP)(B:List (Value×List Int))(Kp:List (F.Rec×Value)):List Pc:=
 [Pc.blk C 36 #[Zc,YI,Z1,Z1,Z1,Z1],Pc.row n 3 1 Rq met.length (met.map (Value.int .i64)),
  Pc.row n 272 2 Zc (Ti.map Tl).length ((Ti.map Tl).flatMap UR),Pc.row n 272 2 YI (Th.map Tl).length ((Th.map Tl).flatMap UR),Pc.aL Nw B,
  Pc.row n 242 4 Y2 Kp.length (Kp.flatMap recC),Pc.aL Av Kp,Pc.blk R 36 Bg,Pc.old n W0]
theorem sO:(prog.info? 36).map (·.size)=some 6:=by rfl
def Mf(L:List QP)(B:List (Value×List Int)):Prop:=∀y∈L,(y.2,y.1.2)∈B/\isSlice y.2
theorem Mf.more{L:List QP}{B:List (Value×List Int)}{z:Value×List Int}(h:Mf L B):Mf L (B++[z]):=λy ZJ=>⟨List.mem_append_left _ (h y ZJ).1,(h y ZJ).2⟩
theorem Mf.put{L:List QP}{B:List (Value×List Int)}{r:Int}{o:List Int}{t:Value}(h:Mf L B)(_:isSlice t):Mf (Le L r o t) (B++[(t,o)]):=λy ZJ=>by
 rcases amk ZJ with Z7|rfl
 ·exact h.more y Z7
 grind
theorem Mf.prs{L:List QP}{B:List (Value×List Int)}(h:Mf L B):∀y∈L.map Tl,isSlice y.2:=λy ZJ=>by
 obtain⟨z,ZY,rfl⟩:=SL.1 ZJ;exact(h z ZY).2
theorem mh{w:World}{n:Nat}{T:TypeId}{v:Value}{L:List (Int×Value)}(h:w.ownsRow n T 2 v L.length (L.flatMap UR)):OD 2 w v (L.map UR):=by
 rw[qK]at h;exact OD.au h (by rw[X4]) (λ_ ZL=>by obtain⟨y,-,rfl⟩:=SL.1 ZL;rfl)
theorem F.aol{s:List UInt8}{a b:Int}{VC:List (List UInt8)}(h:F.cE s=some (some (a,b,VC)))(_:s.length<=20000):∀f∈VC,f.length<=20000:=by
 obtain⟨-,-,-,-,-,-,C8⟩:=F.fI h;intro f Yz;rw[C8]at Yz;obtain⟨q,Zs,rfl⟩:=SL.1 (List.mem_of_mem_tail Yz);have Z7:=F.dh q;have Z5:=F.dF 59 _ q Zs;have ZS:=F.dh ((F.split 35 s).headD []);obtain⟨h,t,Z0,hl⟩:=qS 35 s;grind
theorem F.ala{s:List UInt8}{rs:List F.Rec}(h:F.parse s=some rs):∀r∈rs,∀f∈r.2.2.2,f.length<=20000:=by
 unfold F.parse at h
 split at h
 rotate_left
 ·cases h
 rename_i ZY
 have key:∀{L:List (List UInt8)},(∀x∈L,x.length<=20000)->∀{k:Nat}{rs:List F.Rec},F.bq L k=some rs->∀r∈rs,∀f∈r.2.2.2,f.length<=20000:=by
  intro L WE k
  induction k with
  |zero=>intro rs h r ZT;cases h;grind
  |succ k XZ=>
   intro rs h;unfold F.bq at h
   cases Zs:F.bq L k with
   |none=>grind
   |some q=>
    rw[Zs]at h;simp only at h;have XZ:=XZ Zs;have Ug:(L.getD k []).length<=20000:=by
     grind
    cases hl:F.cE (L.getD k [])with
    |none=>grind
    |some y=>
     rw[hl]at h
     cases y with
     |none=>simp only[OS]at h;rw[<-h];exact XZ
     |some y=>
      obtain⟨a,b,VC⟩:=y;simp only at h
      split at h
      ·cases h
      simp only[OS]at h;rw[<-h];intro r ZT
      rcases Nb.1 ZT with Z7|Z7
      ·grind
      rw[Pe.1 Z7];exact F.aol hl Ug
 exact key (λx Z4=>by have:=F.dF 10 s x Z4;omega) h
theorem aqa(s:List UInt8)(rs:List F.Rec)(met:List Int)(lo ti:List F.Map)(w:World)(hp:F.parse s=some rs)(YB:F.bP rs rs.length=some (met,lo,ti)):
  Calls prog 107 #[.string (bs s),.agg #[Z1,Z1,Z1,Z1,Z1,Z1]] w λe w'=>∃Zc YI Ti Th B,e=.returned (.tuple #[.agg #[Zc,YI,Z1,Z1,Z1,Z1],Z9 0,Z9 0])/\Ti.map (·.1)=lo/\Th.map (·.1)=ti/\Mf Ti B/\Mf Th B/\Sep [Pc.row w.heap.size 272 2 Zc (Ti.map Tl).length ((Ti.map Tl).flatMap UR),Pc.row w.heap.size 272 2 YI (Th.map Tl).length ((Th.map Tl).flatMap UR),Pc.aL Nw B,Pc.old w.heap.size w] w':=by
 obtain⟨N,Zp⟩:∃N,rs.length=N:=⟨_,rfl⟩
 have Gs:=bx (show N<=100000 by rw[<-Zp];exact F.fP hp);rw[Zp]at YB;have ZE:=bx Zp;have PS:=bx YB;have GG:=bx hp;obtain⟨V,ZO⟩:∃V,V=(w.alloc (.cells Bg 36)).alloc (.cells Bg 36):=⟨_,rfl⟩
 have Z5:=((Sep.start w).ak 36 Bg).ak 36 Bg;rw[show(w.alloc (.cells Bg 36)).heap.size=w.heap.size+1 by simp,<-ZO]at Z5;have Ks:=bx Z5;have Nv:=bx (acv s rs V hp);have ZN:=bx ZO;clear hp YB Zp ZO Z5;unfold Bg at ZN
 go_in
 go_upto_region 1 with(fail)
 rw[<-ZN.o];obtain⟨n,ZP⟩:∃n,w.heap.size=n:=⟨_,rfl⟩
 rw[ZP]at Ks⊢;have SG:=bx ZP;clear ZP ZN;go_wp2_with fail;refine Nv.o.mono ?_;rintro e ZV ⟨Y2,Kp,rfl,kF,Pz⟩;have ER:=bx kF;have vz:=bx (show Kp.length=N by rw[<-ZE.o,<-kF,X4]);have V0:=bx (show Sep (y5 n w n (n+1) (Z1) (Z1) (Z1) Y2 [] [] [] [] Kp) ZV from by
  have Z7:=Ks.o.frame (qs:=[_,_]) Pz;have LG:=(Ks.o.at' 2 (p:=Pc.old n w) rfl).1;have ZS:=Z7.as 0 (p':=Pc.row n 242 4 Y2 Kp.length (Kp.flatMap recC)) rfl (λZT=>own_base ZT LG) (λ_ Z3=>Z3);have ZG:=(((ZS.fy Nw).aH n 2 272).aH n 2 272).aH n 1 3;exact ZG.front 7 rfl)
 obtain⟨FG,rc,rfl,l9,ao9⟩:=UG (V0.o.row 5 rfl);rw[vz.o]at l9;rw[vz.o];clear Pz kF Ks;go_wp2_with fail
 go_loopw[11,10] (λi m wr=>∃(k:Nat)(Zc YI:Value)(met:List Int)(Ti Th:List QP)(B:List (Value×List Int)),k<=N/\i=Z9 k/\Box (F.bP rs k=some (met,Ti.map (·.1),Th.map (·.1))/\Mf Ti B/\Mf Th B/\Ti.length<=k/\Th.length<=k/\met.length=k)/\Box (Sep (y5 n w n (n+1) Zc YI m (.slice FG Kp.length rc) met Ti Th B Kp) wr)) (λi _ _=>N-(intOf i).toNat)
 ·exact⟨0,_,_,[],[],[],[],by omega,rfl,⟨rfl,λy ZJ=>absurd ZJ RH,λy ZJ=>absurd ZJ RH,Wq _,Wq _,rfl⟩,V0⟩
 obtain⟨k,Zc,YI,met,Ti,Th,B,Z3,rfl,WF,UE⟩:=hrel;have X3:=bx (show Below w.heap.size w wr by (try unfold Z6);rw[SG.o];exact UE.o.bel (n:=n) (W0:=w) (by simp));obtain⟨Yr,lc,rfl,azh,aze⟩:=UG (UE.o.row 2 rfl);obtain⟨VR,Ub,rfl,aza,ayA⟩:=UG (UE.o.row 3 rfl);obtain⟨N4,KW,rfl,ayO,ay2⟩:=UG (UE.o.row 1 rfl)
 by_cases Zu:k<N
 ·obtain⟨x,Z4⟩:=Yg rs k (by rw[ZE.o];omega);have C3:IT wr (.slice FG Kp.length rc) rs:=by
   have WK:=IT.au (UE.o.row 5 rfl) rfl (λy ZJ=>(UE.o.aL 6 rfl y ZJ).1)
   rwa[ER.o]at WK
  obtain⟨g,off,XV,Y5,XL,Yi,XB,YX⟩:=C3.get (by grind);rw[ZE.o,vz.o]at Y5;obtain⟨rfl,rfl⟩:=XN Y5;obtain⟨YV,c1,c2,Za,c3,Kc⟩:=YX k x Z4;obtain⟨⟨CS,CT,t2⟩,ZT⟩:=F.gu (k:=k+1) (by omega) PS.o;obtain⟨b,o,K1,XF,FT⟩:=F.avj Z4 WF.o.1 ZT;obtain⟨QK,Pt,afM,agI,BC⟩:=F.amy K1;obtain⟨QF,Xo,xb,VC⟩:=x;simp only at QK Pt afM BC XF FT YV c1 c2 c3 Kc;subst QK;obtain⟨Ta,WN,XG,rfl,Da,ku,tZ,Hv⟩:=Kc.get (by grind);obtain⟨Pk,TL⟩:∃Pk,VC.length=Pk:=⟨_,rfl⟩
  rw[TL]at Da afM c3;have BO:∀i,i<Pk->VC[i]?=some (VC.getD i []):=λi hi=>by grind
  have Se:=bx (λi(hi:i<Pk)=>F.ala GG.o _ (Xh Z4) (VC.getD i []) (Xh (BO i hi)));have ZF:=bx (λW(h:Z6 wr W)=>show ZQ W Ta (WN+11)=some (.string (bs (VC.getD 11 [])))/\ZQ W Ta (WN+12)=some (.string (bs (VC.getD 12 [])))/\ZQ W Ta (WN+13)=some (.string (bs (VC.getD 13 [])))from
   ⟨(h.cell (p:=⟨Ta,WN+11,none⟩) tZ).trans (Hv 11 _ (BO 11 (by omega))),(h.cell (p:=⟨Ta,WN+12,none⟩) tZ).trans (Hv 12 _ (BO 12 (by omega))),(h.cell (p:=⟨Ta,WN+13,none⟩) tZ).trans (Hv 13 _ (BO 13 (by omega)))⟩)
  have IQ:=bx (λW(h:Z6 wr W)=>Vh tZ h.size);have Xx:=bx (λW=>Pt▸AY Xo W);have aiQ:=bx BC;have ww:=bx (show F.bP rs (k+1)=some (met++[Xo],if b=true then F.cO (Ti.map (·.1)) Xo o else Ti.map (·.1),if b=true then Th.map (·.1)else F.cO (Th.map (·.1)) Xo o) by grind);have RA:=bx XF;have KC:=bx agI;have V1:=bx (UE.o.ak 242 #[Z9 QF,Z9 Xo,Z9 Xo,.slice (some ⟨Ta,WN,none⟩) Pk XG]);have Zt:=bx (Xl wr (.cells #[Z9 QF,Z9 Xo,Z9 Xo,.slice (some ⟨Ta,WN,none⟩) Pk XG] 242));have azy:decide ((Pk:Int)<14)=false:=Yp (by omega);unfold maxLen at Yi ku;clear Z4 Y5 XL YX ZT K1 FT BC XF agI Pt Kc Hv BO TL C3;go_wp2_with fail;obtain⟨X,TM⟩:∃X,wr.heap.size=X:=⟨_,rfl⟩
  rw[TM]at V1⊢;clear TM;generalize(wr.alloc (.cells #[Z9 QF,Z9 Xo,Z9 Xo,.slice (some ⟨Ta,WN,none⟩) Pk XG] 242))=ZB at V1 Zt⊢;refine YW (Xx.o _) ?_;have Z4:=V1.o.blk 0 rfl;have XX:=Z4.q1;have V4:=Z4.q3;have Sm:=Z4.lt;clear Z4
  rcases aiQ.o with⟨rfl,tK,tJ,va⟩|⟨rfl,⟨q,tK⟩,tJ,va⟩
  ·have nn:=bx tK;have l0:=bx tJ;have mA:=bx va;clear tK tJ va;obtain⟨f11,f12,f13⟩:=ZF.o _ Zt.o;have GY:=IQ.o _ Zt.o;have vi:=bx (yt (VC.getD 11 []) [] ZB nn.o (Se.o 11 (by omega)));go_wp2_with fail;refine vi.o.mono ?_;rintro e Zh ⟨⟨v3,rfl,KZ,kq⟩,Zb⟩;have YY:=Zw Zt Zb;obtain⟨a3,Zk,rfl⟩:=KZ.slice;have WT:=bx (V1.o.below Zb);clear KZ kq Zb f11 f12 f13 GY XX V4 Sm;have Z4:=WT.o.blk 0 rfl;have XX:=Z4.q1;have V4:=Z4.q3;have Sm:=Z4.lt;clear Z4;obtain⟨f11,f12,f13⟩:=ZF.o _ YY.o;have GY:=IQ.o _ YY.o;have o1:=bx (yt (VC.getD 12 []) o Zh l0.o (Se.o 12 (by omega)));go_wp2_with fail;refine o1.o.mono ?_;rintro e YL ⟨⟨v4,rfl,C1,uJ⟩,Yf⟩;have Ye:=Zw YY Yf;obtain⟨a4,Zl,rfl⟩:=C1.slice;have Wp:=bx (Sep.eo (b:=Nw) (y:=(.slice a4 o.length Zl,o)) (L:=B) (WT.o.dC (b:=Nw) (y:=(.slice a4 o.length Zl,o)) Yf ⟨C1,λg ZH=>(uJ g ZH).2⟩ (λg ZH=>(uJ g ZH).1)) 5 rfl);clear C1 uJ Yf f11 f12 f13 GY XX V4 Sm;have Z4:=Wp.o.blk 0 rfl;have XX:=Z4.q1;have V4:=Z4.q3;have Sm:=Z4.lt;clear Z4;obtain⟨f11,f12,f13⟩:=ZF.o _ Ye.o;have GY:=IQ.o _ Ye.o;have o0:=bx (yt (VC.getD 13 []) [] YL mA.o (Se.o 13 (by omega)));go_wp2_with fail;refine o0.o.mono ?_;rintro e YK ⟨⟨v5,rfl,QH,uU⟩,X0⟩;have X6:=Zw Ye X0;obtain⟨a5,Zg,rfl⟩:=QH.slice;have XO:=bx (Wp.o.below X0);clear QH uU X0 f11 f12 f13 GY XX V4 Sm;have Z4:=XO.o.blk 0 rfl;have XX:=Z4.q1;have V4:=Z4.q3;have Sm:=Z4.lt;clear Z4;have uD:=bx (hT (.slice N4 met.length KW) met Xo YK (Y6.au (XO.o.row 2 rfl) rfl) (by have:=WF.o.2.2.2.2.2;have:=Gs.o;omega));rw[RA.o]at uD;obtain⟨no,XF⟩:∃no,o.length=no:=⟨_,rfl⟩
   have lO:=bx XF;have alr:0<no:=by rw[<-XF];exact List.length_pos_iff.2 KC.o
   rw[XF];have Wz:((no:Int)==0)=false:=by rw[Sz];omega
   have Zq:decide ((0:Int)<(no:Int))=true:=Yh (by omega);clear XF;go_wp2_with fail;refine YW uD.o ?_;have ZL:=XO.o.blk 1 rfl;have d0:=ZL.q0;have d1:=ZL.q1;have D7:=ZL.frozen 0;have DN:=ZL.frozen 1;have dl:=ZL.lt;clear ZL;have WP:=(XO.o.at' 9 (p:=Pc.old n w) rfl).1;have Ip:met.length<=1000000000:=by have:=WF.o.2.2.2.2.2;have:=Gs.o;omega
   clear XX V4 Sm d0 d1 D7 DN dl;have Z4:=XO.o.blk 0 rfl;have XX:=Z4.q1;have V4:=Z4.q3;have Sm:=Z4.lt;clear Z4;go_wp2_with (at_builtin;refine PC (u:=Z9 Xo) rfl _ _ 22 rfl OJ XO.o 2 rfl rfl rfl rfl Ip (by omega) WP ?_;rintro Zy Xi Wl ⟨k4,k3,rfl,-,-⟩;have Wb:=bx Wl;have Z4:=Wb.o.blk 0 rfl;have XX:=Z4.q1;have Sm:=Z4.lt;have ZL:=Wb.o.blk 1 rfl;have d0:=ZL.q0;have d1:=ZL.q1;have D7:=ZL.frozen 0;have DN:=ZL.frozen 1;have dl:=ZL.lt;clear Wl Z4 ZL)
   have zN:=aeP (.slice Yr (Ti.map Tl).length lc) (Ti.map Tl) Xo (.slice a4 no Zl) Xi (mh (Wb.o.row 3 rfl)) WF.o.2.1.prs ⟨_,_,_,rfl⟩ (by rw[X4];have Z7:=WF.o.2.2.2.1;have Z5:=WF.o.2.2.2.2.1;have ZS:=Gs.o;omega);rw[<-ab7 Ti Xo o,X4]at zN;have yY:=bx zN;clear zN;refine yY.o.mono ?_;rintro e Va ⟨⟨xo,rfl,Wo⟩,Rx⟩;have vd:=(Wb.o.at' 9 (p:=Pc.old n w) rfl).1;have T4:=(Wb.o.got Rx Wo vd).join 3 rfl (Sep.head (Wb.o.got Rx Wo vd)) (λ_ Z3=>.inl Z3);obtain⟨L2,Tk,rfl,V6,OU⟩:=UG Wo;obtain⟨I2,I8⟩:∃I2,((Le Ti Xo o (.slice a4 no Zl)).map Tl).length=I2:=⟨_,rfl⟩
   have S6:=bx I8;rw[I8]at T4⊢;have TS:=bx T4;clear T4 Wo Rx V6 OU I8 XX Sm d0 d1 D7 DN dl;have ZL:=TS.o.blk 1 rfl;have d0:=ZL.q0;have d1:=ZL.q1;have D7:=ZL.frozen 0;have DN:=ZL.frozen 1;have dl:=ZL.lt;clear ZL;have TP:=bx (show Sep (y5 n w n (n+1) (.slice L2 I2 Tk) (.slice VR (Th.map Tl).length Ub) (.slice (some ⟨k4,0,none⟩) (met.length+1) k3) (.slice (some ⟨g,off,none⟩) Kp.length rc) (met++[Xo]) (Le Ti Xo o (.slice a4 no Zl)) Th (B++[(.slice a4 no Zl,o)]) Kp) (Va.setCell ⟨n,0,none⟩ (.slice L2 I2 Tk)) by
    have WK:=(TS.o.set 1 rfl 0 (.slice L2 I2 Tk)).tail;rw[lO.o]at WK;rw[<-S6.o]at WK⊢;simp only[y5,T9,WR];exact WK)
   have YE:=bx (show F.bP rs (k+1)=some (met++[Xo],(Le Ti Xo o (.slice a4 no Zl)).map (·.1),Th.map (·.1))/\Mf (Le Ti Xo o (.slice a4 no Zl)) (B++[(.slice a4 no Zl,o)])/\Mf Th (B++[(.slice a4 no Zl,o)])/\(Le Ti Xo o (.slice a4 no Zl)).length<=k+1/\Th.length<=k+1/\(met++[Xo]).length=k+1 from⟨by rw[ww.o];simp[h6],Mf.put WF.o.2.1 ⟨_,_,_,rfl⟩,WF.o.2.2.1.more,by have:=ab2 (λy:QP=>y.1.1) Ti ((Xo,o),.slice a4 no Zl);have:=WF.o.2.2.2.1;show(Le Ti Xo o (.slice a4 no Zl)).length<=k+1;unfold Le;omega,by have:=WF.o.2.2.2.2.1;omega,by rw[WR,WF.o.2.2.2.2.2];rfl⟩)
   go_wp2
   go_roundw
   ·exact⟨k+1,_,_,_,_,_,_,Zu,by go_num,YE,TP⟩
   grind[intOf]
  have nn:=bx tK;have l0:=bx tJ;have mA:=bx va;clear tK tJ va;obtain⟨f11,f12,f13⟩:=ZF.o _ Zt.o;have GY:=IQ.o _ Zt.o;have vi:=bx (yt (VC.getD 11 []) q ZB nn.o (Se.o 11 (by omega)));go_wp2_with fail;refine vi.o.mono ?_;rintro e Zh ⟨⟨v3,rfl,KZ,kq⟩,Zb⟩;have YY:=Zw Zt Zb;obtain⟨a3,Zk,rfl⟩:=KZ.slice;have WT:=bx (V1.o.below Zb);clear KZ kq Zb f11 f12 f13 GY XX V4 Sm;have Z4:=WT.o.blk 0 rfl;have XX:=Z4.q1;have V4:=Z4.q3;have Sm:=Z4.lt;clear Z4;obtain⟨f11,f12,f13⟩:=ZF.o _ YY.o;have GY:=IQ.o _ YY.o;have o1:=bx (yt (VC.getD 12 []) [] Zh l0.o (Se.o 12 (by omega)));go_wp2_with fail;refine o1.o.mono ?_;rintro e YL ⟨⟨v4,rfl,C1,uJ⟩,Yf⟩;have Ye:=Zw YY Yf;obtain⟨a4,Zl,rfl⟩:=C1.slice;have Wp:=bx (WT.o.below Yf);clear C1 uJ Yf f11 f12 f13 GY XX V4 Sm;have Z4:=Wp.o.blk 0 rfl;have XX:=Z4.q1;have V4:=Z4.q3;have Sm:=Z4.lt;clear Z4;obtain⟨f11,f12,f13⟩:=ZF.o _ Ye.o;have GY:=IQ.o _ Ye.o;have o0:=bx (yt (VC.getD 13 []) o YL mA.o (Se.o 13 (by omega)));go_wp2_with fail;refine o0.o.mono ?_;rintro e YK ⟨⟨v5,rfl,QH,uU⟩,X0⟩;have X6:=Zw Ye X0;obtain⟨a5,Zg,rfl⟩:=QH.slice;have XO:=bx (Sep.eo (b:=Nw) (y:=(.slice a5 o.length Zg,o)) (L:=B) (Wp.o.dC (b:=Nw) (y:=(.slice a5 o.length Zg,o)) X0 ⟨QH,λg ZH=>(uU g ZH).2⟩ (λg ZH=>(uU g ZH).1)) 5 rfl);clear QH uU X0 f11 f12 f13 GY XX V4 Sm;have Z4:=XO.o.blk 0 rfl;have XX:=Z4.q1;have V4:=Z4.q3;have Sm:=Z4.lt;clear Z4;have uD:=bx (hT (.slice N4 met.length KW) met Xo YK (Y6.au (XO.o.row 2 rfl) rfl) (by have:=WF.o.2.2.2.2.2;have:=Gs.o;omega));rw[RA.o]at uD;obtain⟨no,XF⟩:∃no,o.length=no:=⟨_,rfl⟩
  have lO:=bx XF;have alr:0<no:=by rw[<-XF];exact List.length_pos_iff.2 KC.o
  rw[XF];have Wz:((no:Int)==0)=false:=by rw[Sz];omega
  have Zq:decide ((0:Int)<(no:Int))=true:=Yh (by omega);clear XF;go_wp2_with fail;refine YW uD.o ?_;have ZL:=XO.o.blk 1 rfl;have d0:=ZL.q0;have d1:=ZL.q1;have D7:=ZL.frozen 0;have DN:=ZL.frozen 1;have dl:=ZL.lt;clear ZL;have WP:=(XO.o.at' 9 (p:=Pc.old n w) rfl).1;have Ip:met.length<=1000000000:=by have:=WF.o.2.2.2.2.2;have:=Gs.o;omega
  clear XX V4 Sm d0 d1 D7 DN dl;have Z4:=XO.o.blk 0 rfl;have XX:=Z4.q1;have V4:=Z4.q3;have Sm:=Z4.lt;clear Z4;go_wp2_with (at_builtin;refine PC (u:=Z9 Xo) rfl _ _ 22 rfl OJ XO.o 2 rfl rfl rfl rfl Ip (by omega) WP ?_;rintro Zy Xi Wl ⟨k4,k3,rfl,-,-⟩;have Wb:=bx Wl;have Z4:=Wb.o.blk 0 rfl;have XX:=Z4.q1;have Sm:=Z4.lt;have ZL:=Wb.o.blk 1 rfl;have d0:=ZL.q0;have d1:=ZL.q1;have D7:=ZL.frozen 0;have DN:=ZL.frozen 1;have dl:=ZL.lt;clear Wl Z4 ZL)
  have zN:=aeP (.slice VR (Th.map Tl).length Ub) (Th.map Tl) Xo (.slice a5 no Zg) Xi (mh (Wb.o.row 4 rfl)) WF.o.2.2.1.prs ⟨_,_,_,rfl⟩ (by rw[X4];have Z7:=WF.o.2.2.2.1;have Z5:=WF.o.2.2.2.2.1;have ZS:=Gs.o;omega);rw[<-ab7 Th Xo o,X4]at zN;have yY:=bx zN;clear zN;refine yY.o.mono ?_;rintro e Va ⟨⟨xo,rfl,Wo⟩,Rx⟩;have vd:=(Wb.o.at' 9 (p:=Pc.old n w) rfl).1;have T4:=(Wb.o.got Rx Wo vd).join 4 rfl (Sep.head (Wb.o.got Rx Wo vd)) (λ_ Z3=>.inl Z3);obtain⟨L2,Tk,rfl,V6,OU⟩:=UG Wo;obtain⟨I2,I8⟩:∃I2,((Le Th Xo o (.slice a5 no Zg)).map Tl).length=I2:=⟨_,rfl⟩
  have S6:=bx I8;rw[I8]at T4⊢;have TS:=bx T4;clear T4 Wo Rx V6 OU I8 XX Sm d0 d1 D7 DN dl;have ZL:=TS.o.blk 1 rfl;have d0:=ZL.q0;have d1:=ZL.q1;have D7:=ZL.frozen 0;have DN:=ZL.frozen 1;have dl:=ZL.lt;clear ZL;have TP:=bx (show Sep (y5 n w n (n+1) (.slice Yr (Ti.map Tl).length lc) (.slice L2 I2 Tk) (.slice (some ⟨k4,0,none⟩) (met.length+1) k3) (.slice (some ⟨g,off,none⟩) Kp.length rc) (met++[Xo]) Ti (Le Th Xo o (.slice a5 no Zg)) (B++[(.slice a5 no Zg,o)]) Kp) (Va.setCell ⟨n,1,none⟩ (.slice L2 I2 Tk)) by
   have WK:=(TS.o.set 1 rfl 1 (.slice L2 I2 Tk)).tail;rw[lO.o]at WK;rw[<-S6.o]at WK⊢;simp only[y5,T9,WR];exact WK)
  have YE:=bx (show F.bP rs (k+1)=some (met++[Xo],Ti.map (·.1),(Le Th Xo o (.slice a5 no Zg)).map (·.1))/\Mf Ti (B++[(.slice a5 no Zg,o)])/\Mf (Le Th Xo o (.slice a5 no Zg)) (B++[(.slice a5 no Zg,o)])/\Ti.length<=k+1/\(Le Th Xo o (.slice a5 no Zg)).length<=k+1/\(met++[Xo]).length=k+1 from⟨by rw[ww.o];simp only[Bool.false_eq_true,if_false];rw[h6],WF.o.2.1.more,Mf.put WF.o.2.2.1 ⟨_,_,_,rfl⟩,by have:=WF.o.2.2.2.1;omega,by have:=ab2 (λy:QP=>y.1.1) Th ((Xo,o),.slice a5 no Zg);have:=WF.o.2.2.2.2.1;show(Le Th Xo o (.slice a5 no Zg)).length<=k+1;unfold Le;omega,by rw[WR,WF.o.2.2.2.2.2];rfl⟩)
  go_wp2
  go_roundw
  ·exact⟨k+1,_,_,_,_,_,_,Zu,by go_num,YE,TP⟩
  grind[intOf]
 obtain rfl:k=N:=by omega
 have Zs:=WF.o.1.symm.trans PS.o;simp only[OS,Prod.mk.injEq]at Zs;obtain⟨-,T8,tE⟩:=Zs;have O9:=bx T8;have Pr:=bx tE;clear T8 tE;have ZL:=UE.o.blk 0 rfl;have ZT:=UE.o.blk 7 rfl;have HS:=bx (show Zv wr (n+1) 36 #[Z1,Z1,Z1,Z1,Z1,Z1]from ZT);have d0:wr.cell? ⟨n,0,none⟩=some (.slice Yr Ti.length lc):=by have VV:=(ZL.cell 0).trans (show _=some (Value.slice Yr (Ti.map Tl).length lc)from rfl);rwa[X4]at VV
 have d1:wr.cell? ⟨n,1,none⟩=some (.slice VR Th.length Ub):=by have VV:=(ZL.cell 1).trans (show _=some (Value.slice VR (Th.map Tl).length Ub)from rfl);rwa[X4]at VV
 have d2:=ZL.q2;have d3:=ZL.q3;have d4:=ZL.q4;have d5:=ZL.q5;have S2:=ZT.q0;have f0:=ZT.frozen 0;have r1:=ZT.q1;have f1:=ZT.frozen 1;have r2:=ZT.q2;have f2:=ZT.frozen 2;have r3:=ZT.q3;have f3:=ZT.frozen 3;have r4:=ZT.q4;have f4:=ZT.frozen 4;have Tu:=ZT.q5;have f5:=ZT.frozen 5;have dl:=ZL.lt;have rl:=ZT.lt;clear ZL ZT;go_wp2_with fail;have Yo:Turns (λq=>q=n+1) wr ((((((wr.setCell ⟨n+1,0,none⟩ (.slice Yr Ti.length lc)).setCell ⟨n+1,1,none⟩ (.slice VR Th.length Ub)).setCell ⟨n+1,2,none⟩ (Z1)).setCell ⟨n+1,3,none⟩ (Z1)).setCell ⟨n+1,4,none⟩ (Z1)).setCell ⟨n+1,5,none⟩ (Z1)):=((((((Turns.setCell (own:=λq=>q=n+1) _ (p:=⟨n+1,0,none⟩) rfl _).trans (Turns.setCell (own:=λq=>q=n+1) _ (p:=⟨n+1,1,none⟩) rfl _)).trans (Turns.setCell (own:=λq=>q=n+1) _ (p:=⟨n+1,2,none⟩) rfl _)).trans (Turns.setCell (own:=λq=>q=n+1) _ (p:=⟨n+1,3,none⟩) rfl _)).trans (Turns.setCell (own:=λq=>q=n+1) _ (p:=⟨n+1,4,none⟩) rfl _)).trans (Turns.setCell (own:=λq=>q=n+1) _ (p:=⟨n+1,5,none⟩) rfl _))
 have Yz:=UE.o.front 7 rfl;have Z3:=Yz.tail.keep Yo (λp hp q Zs e=>Yz.apart hp (k:=n+1) rfl (e▸Zs));refine bodyPost_ret (v:=.tuple #[.agg #[.slice Yr Ti.length lc,.slice VR Th.length Ub,Z1,Z1,Z1,Z1],Z9 0,Z9 0]) (Ab results107 _ _ (n+1) 36 #[.slice Yr Ti.length lc,.slice VR Th.length Ub,Z1,Z1,Z1,Z1] (0,0) _ rfl ((((((HS.o.ai 0 (.slice Yr Ti.length lc)).ai 1 (.slice VR Th.length Ub)).ai 2 Z1).ai 3 Z1).ai 4 Z1).ai 5 Z1) underlying36 rfl sO) rfl ⟨_,_,rfl,Ti,O9.o,Th,Pr.o,B,WF.o.2.1,WF.o.2.2.1,?_⟩;rw[SG.o];have WK:=(((Z3.drop 6).drop 5).drop 1).tail;simp only[X4]at WK;exact WK
def NR(w:World)(v:Value)(l:List F.Map):Prop:=∃L:List QP,L.map (·.1)=l/\OD 2 w v ((L.map Tl).map UR)/\∀y∈L,Y6 w y.2 y.1.2
theorem NR.below{w w':World}{v:Value}{l:List F.Map}(h:NR w v l)(Z8:Z6 w w'):NR w' v l:=by
 obtain⟨L,Z7,Z5,ZS⟩:=h;exact⟨L,Z7,Z5.below Z8,λy ZJ=>(ZS y ZJ).below Z8⟩
def Sq(w:World)(v:Value)(c:T.Cs):Prop:=∃Zc YI ci YQ Yw Yy,v=.agg #[Zc,YI,ci,YQ,Yw,Yy]/\NR w Zc c.lo/\NR w YI c.ti/\Y6 w ci c.ca.1/\TF w YQ c.ca.2/\Y6 w Yw c.ig.1/\TF w Yy c.ig.2
theorem Sq.below{w w':World}{v:Value}{c:T.Cs}(h:Sq w v c)(Z8:Z6 w w'):Sq w' v c:=by
 obtain⟨Zc,YI,ci,YQ,Yw,Yy,ZI,Z7,Z5,ZS,ZG,Zi,Yu⟩:=h;exact⟨Zc,YI,ci,YQ,Yw,Yy,ZI,Z7.below Z8,Z5.below Z8,ZS.below Z8,ZG.below Z8,Zi.below Z8,Yu.below Z8⟩
theorem aod{P:Program}{fn:Func}{p u u2 u3:Tmp}{ty:TypeId}(h:fn.results=#[.cell p ty,.tmp u,.tmp u2,.tmp u3])(tmps:Array Value)(w:World)(g:Nat)(t:TypeId)(cs:Array Value)(HA:Nat×Nat)(d:TypeDesc)(_:tmps.getD p undef=Zn g)(ZH:w.heap[g]?=some (.cells cs t HA))(hu:P.underlying ty=some d)(Zm:(match d with|.struct _|.array _ _=>true|_=>false)=true)(hi:(P.info? ty).map (·.size)=some cs.size):
  (results fn tmps).run P w=.ok (.tuple #[.agg cs,tmps.getD u undef,tmps.getD u2 undef,tmps.getD u3 undef]) w:=by
 have tN:tmps[p]?.getD undef=Zn g:=by simp_all
 simp[results,h,tN,asAddr,run_loadVar_row w g t ty cs HA d ZH hu Zm hi,Result.andThen]
theorem F.parse_nil:F.parse []=some []:=by rfl
theorem Sep.lone{ps:List Pc}{W W':World}{g:Nat}{t:TypeId}{cs:Array Value}(h:Sep ps W)(i:Nat)(hi:ps[i]?=some (Pc.blk g t cs))(ZM:Turns (λq=>q=g) W W'):Sep (ps.eraseIdx i) W':=by
 have Yz:=h.front i hi;exact Yz.tail.keep ZM (λ_ hp q Zs e=>Yz.apart hp (k:=g) rfl (e▸Zs))
theorem asd(Yr VR:Option Addr)(QF lc Yk Ub:Nat)(w:World):
  Calls prog 108 #[.string (bs []),.agg #[.slice Yr QF lc,.slice VR Yk Ub,Z1,Z1,Z1,Z1]] w λe w'=>e=.returned (.tuple #[.agg #[.slice Yr QF lc,.slice VR Yk Ub,Z1,Z1,Z1,Z1],Z9 0,Z9 0])/\Z6 w w':=by
 obtain⟨V,ZO⟩:∃V,V=(w.alloc (.cells #[.slice Yr QF lc,.slice VR Yk Ub,Z1,Z1,Z1,Z1] 36)).alloc (.cells #[Z1,Z1,Z1,Z1,Z1,Z1] 36):=⟨_,rfl⟩
 have Z5:=((Sep.start w).ak 36 #[.slice Yr QF lc,.slice VR Yk Ub,Z1,Z1,Z1,Z1]).ak 36 #[Z1,Z1,Z1,Z1,Z1,Z1];rw[show(w.alloc (.cells #[.slice Yr QF lc,.slice VR Yk Ub,Z1,Z1,Z1,Z1] 36)).heap.size=w.heap.size+1 by simp,<-ZO]at Z5;have Ks:=bx Z5;have Nv:=bx (hM [] [] V F.parse_nil);have ZN:=bx ZO;clear ZO Z5
 go_in
 go_upto_region 1 with(fail)
 rw[<-ZN.o];obtain⟨n,ZP⟩:∃n,w.heap.size=n:=⟨_,rfl⟩
 rw[ZP]at Ks⊢;have SG:=bx ZP;clear ZP ZN;go_wp2_with fail;refine Nv.o.mono ?_;rintro e ZV ⟨⟨v,rfl,Z2⟩,ZZ⟩;have V0:=bx (Ks.o.below ZZ);obtain⟨ahR,Er,rfl,-,-⟩:=Z2.slice;clear ZZ Z2;rw[SK];have UT:=V0.o.blk 1 rfl;have YV:=UT.q0;have c1:=UT.q1;have c2:=UT.q2;have c3:=UT.q3;have VG:=UT.q4;have Wv:=UT.q5;have YJ:=UT.lt;clear UT;have Tx:=V0.o.blk 0 rfl;have S2:=Tx.q0;have r1:=Tx.q1;have r2:=Tx.q2;have r3:=Tx.q3;have r4:=Tx.q4;have Tu:=Tx.q5;have AS:=Tx.frozen 0;have A5:=Tx.frozen 1;have axZ:=Tx.frozen 2;have ax0:=Tx.frozen 3;have ax1:=Tx.frozen 4;have ax2:=Tx.frozen 5;have rl:=Tx.lt;clear Tx;have HS:=bx (V0.o.blk 0 rfl);go_wp2_with fail;refine wp_loop_rounds 1 ?_;rw[rounds_succ];go_wp2_with fail;have Yo:Turns (λq=>q=n+1) ZV ((((((ZV.setCell ⟨n+1,0,none⟩ (.slice Yr QF lc)).setCell ⟨n+1,1,none⟩ (.slice VR Yk Ub)).setCell ⟨n+1,2,none⟩ (Z1)).setCell ⟨n+1,3,none⟩ (Z1)).setCell ⟨n+1,4,none⟩ (Z1)).setCell ⟨n+1,5,none⟩ (Z1)):=((((((Turns.setCell (own:=λq=>q=n+1) _ (p:=⟨n+1,0,none⟩) rfl _).trans (Turns.setCell (own:=λq=>q=n+1) _ (p:=⟨n+1,1,none⟩) rfl _)).trans (Turns.setCell (own:=λq=>q=n+1) _ (p:=⟨n+1,2,none⟩) rfl _)).trans (Turns.setCell (own:=λq=>q=n+1) _ (p:=⟨n+1,3,none⟩) rfl _)).trans (Turns.setCell (own:=λq=>q=n+1) _ (p:=⟨n+1,4,none⟩) rfl _)).trans (Turns.setCell (own:=λq=>q=n+1) _ (p:=⟨n+1,5,none⟩) rfl _))
 have Z3:=(V0.o.lone 0 rfl Yo).tail;exact bodyPost_ret (v:=.tuple #[.agg #[.slice Yr QF lc,.slice VR Yk Ub,Z1,Z1,Z1,Z1],Z9 0,Z9 0]) (Ab results108 _ _ (n+1) 36 #[.slice Yr QF lc,.slice VR Yk Ub,Z1,Z1,Z1,Z1] (0,0) _ rfl ((((((HS.o.ai 0 (.slice Yr QF lc)).ai 1 (.slice VR Yk Ub)).ai 2 Z1).ai 3 Z1).ai 4 Z1).ai 5 Z1) underlying36 rfl sO) rfl ⟨rfl,by (try unfold Z6);rw[SG.o];exact Z3.bel (n:=n) (W0:=w) (by simp)⟩
