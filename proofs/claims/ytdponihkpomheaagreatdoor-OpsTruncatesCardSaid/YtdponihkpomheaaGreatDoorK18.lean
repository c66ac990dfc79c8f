/- Texts of this claim. -/
import Derived.Laws.MakeOwn
import Derived.Laws.CopyRow
import Derived.Laws.IdiomCopy
import Derived.Test.YtdponihkpomheaaGreatDoorK17

set_option maxRecDepth 100000
set_option maxHeartbeats 8000000
namespace Go.Proofs.YtdponihkpomheaaGreatDoor
open Go.RowKit
attribute[local go_sem] Oper.semAt_some
open Tryz
section
open Go.Shelf
def T.aN(c:T.Cs)(xs pl:List Int):Int:=if T.wrong c xs≠0 then T.wrong c xs else if T.cV pl=false then 12 else 0
theorem h9{l:List Int}:l.any (λt=>!U.right t)=!l.all U.right:=by
 grind
theorem afa(A:Nat->Addr)(B:Nat)(v Ul pv:Value)(c:T.Cs)(xs pl:List Int)(w:World)(Z2:Sq w v c)(Z0:T.Small c)(hl:Y6 w Ul xs)(ZY:xs.length<=100000)(hp:Y6 w pv pl)(_:pl.length<=100000)(YN:E A B w)(hB:B<=w.heap.size)(Xq:T.aN c xs pl=0):
  Calls prog 164 #[v,Ul,pv] w λe w'=>∃Zc YI ci YQ Yw Yy g Zf,v=.agg #[Zc,YI,ci,YQ,Yw,Yy]/\e=.returned (.tuple #[Zn g,.nilIface])/\Sep (Sp w.heap.size g Zf Zc YI ci YQ Yw Yy Ul Z1 [] c [Pc.old w.heap.size w]) w':=by
 have VO:=bx (λW(h:Z6 w W)=>Z2.below h);obtain⟨Zc,YI,ci,YQ,Yw,Yy,rfl,Z7,Z5,ZS,ZG,Zi,Yu⟩:=Z2;obtain⟨V,ZO⟩:∃V,V=w.alloc (.cells #[Zc,YI,ci,YQ,Yw,Yy] 36):=⟨_,rfl⟩
 have ZR:=bx (aB ZO);have Ze:=bx (aK ZO);have ZF:=bx (λW(h:Z6 V W)=>Ze.o.d6 h);have ZN:=bx ZO;have Vc:=bx (uC _ c V (VO.o V ZR.o) Z0);have Pq:=bx (λW(h:Z6 w W)=>adx Ul xs W (hl.below h) (by omega));have S0:=bx (λW(h:Z6 w W)=>hr pv pl W (hp.below h) (by omega));have US:=bx (λW(h:Z6 w W)=>YN.below (h.mono hB));have O6:=bx hl;obtain⟨Yr,lc,rfl⟩:=hl.slice;obtain⟨N,Zp⟩:∃N,xs.length=N:=⟨_,rfl⟩
 rw[Zp]at Pq ZY O6⊢;have ZE:=bx Zp;have LP:=bx ZY;clear Z7 Z5 ZS ZG Zi Yu Z0 ZO hl Zp hp YN;obtain⟨Zd,Zx,Zr,Zk,Zl,Zg,YS⟩:=ZF.o V YU;have KY:T.wrong c xs=0:=by
  grind[T.aN]
 have Me:=bx (show T.cV pl=true by
  grind[T.aN])
 obtain⟨E8,yz,DZ⟩:=T.e6 KY;have Xy:=bx E8;have WO:=bx (show xs.any (λt=>!U.right t)=false by grind);rw[ZE.o]at yz;have Zq:decide ((2000:Int)<(N:Int))=false:=Yp (by omega);have J9:=@run_makeMap prog;clear KY Xq E8 yz DZ
 go_in
 go_upto_region 1 with(fail)
 rw[<-ZN.o];have g0:=(US.o V ZR.o).var 4 (by decide);go_wp2_with fail;refine Nr 0 rfl ?_;go_wp2_with fail;refine Y3 Vc.o λZV ZZ=>?_
 rw[Xy.o];have ZW:=Zw ZR ZZ;have VD:=bx ZZ;clear ZZ g0 Zd Zx Zr Zk Zl Zg YS;have g1:=(US.o ZV ZW.o).var 5 (by decide);have g2:=(US.o ZV ZW.o).var 8 (by decide);have g3:=(US.o ZV ZW.o).var 9 (by decide);go_wp2_with fail;refine YW (Pq.o ZV ZW.o) ?_;rw[WO.o];go_wp2_with fail;refine Y3 (S0.o ZV ZW.o) λZh Zb=>?_
 rw[Me.o];have YY:=Zw ZW Zb;obtain⟨Zd,Zx,Zr,Zk,Zl,Zg,YS⟩:=ZF.o Zh (bt VD.o Zb);clear Zb g1 g2 g3;go_wp2_with fail;rw[Jq];have Z3:O4 (Zh.alloc (.map #[] 0)) Zh.heap.size c:=⟨#[],0,World.alloc_heap_new Zh _,λ_ _=>by grind,λ_ v _=>by grind[HT,Instr.findNow]⟩
 have V6:=((Sep.start w).below YY.o).add (Xl Zh (.map #[] 0)) (p:=Pc.known Zh.heap.size c) Z3 (λk Z3=>by rw[show k=Zh.heap.size from Z3];omega);have OU:=(V6.ak 232 #[Zc,YI,ci,YQ,Yw,Yy,.map (some Zh.heap.size),.slice Yr N lc,Z1]).aH w.heap.size 1 3;rw[show(Zh.alloc (.map #[] 0)).heap.size=Zh.heap.size+1 from by simp]at OU;have V1:=bx OU;clear V6 OU Z3;go_ret2;exact⟨Zc,YI,ci,YQ,Yw,Yy,Zh.heap.size+1,Zh.heap.size,rfl,rfl,V1.o⟩
end
section
open Go.Extern.Stop Go.Stop Go.Extern
def H5(w:World):Prop:=w.cell? ⟨6,0,none⟩=some (.iface 351 (.agg #[.pointer (some ⟨16,87,none⟩)]))
theorem gS(w:World)(g:Nat)(cs:Array Value):Turns (λk=>k=g) w (w.setRow g cs):=
 ⟨rfl,rfl,rfl,by simp,λk _ YT=>setRow_other w g k cs (λe=>YT e)⟩
theorem as_hit(l n:Int)(tb:Nat)(S3 RZ:Value)(w:World)(ZH:H5 w)(ZM:Zv w tb 320 #[S3,RZ]):
  Calls prog 114 #[.iface 320 (.agg #[Z9 l,Z9 n]),.iface 321 (Zn tb)] w λe w'=>e=.returned (.bool true)/\Zv w' tb 320 #[Z9 l,Z9 n]/\Turns (λk=>k=tb) w w':=by
 have Yu:=@run_callFunc_extern prog 198 _ (λargs=>ReflectliteValue.unpack (args.getD 0 (.tuple #[]))) func198 (by rfl) (by rfl) (by rfl) (by kernel_rfl);have VV:=@run_callFunc_extern prog 199 _ (ReflectliteValue.methodAny (ReflectliteValue.valueError "reflectlite.Value.Type" 0) (λt _ _ _=>ReflectliteType.toType t)) func199 (by rfl) (by rfl) (by rfl) (by kernel_rfl);have Vz:=@run_callFunc_extern prog 200 _ (ReflectliteValue.method (ReflectliteValue.valueError "reflectlite.Value.IsNil" 0) ReflectliteValue.isNil) func200 (by rfl) (by rfl) (by rfl) (by kernel_rfl);have awy:=@run_callFunc_extern prog 371 _ (ReflectliteType.abiMethod λt=>do pure (.int .u8 (<-Rtype.kind t))) func371 (by rfl) (by rfl) (by rfl) (by rfl);have awA:=@run_callFunc_extern prog 383 _ (ReflectliteType.method ReflectliteType.elem) func383 (by rfl) (by rfl) (by rfl) (by rfl);have awB:=@run_callFunc_extern prog 384 _ (ReflectliteType.relation "Implements" ReflectliteType.implements_) func384 (by rfl) (by rfl) (by rfl) (by rfl);have k1:=@run_callFunc_extern prog 232 _ ReflectliteType.typeOf func232 (by rfl) (by rfl) (by rfl) (by kernel_rfl);have awz:=@run_callFunc_extern prog 381 _ (ReflectliteType.relation "AssignableTo" ReflectliteType.assignableTo) func381 (by rfl) (by rfl) (by rfl) (by rfl);have k0:=@run_callFunc_extern prog 268 _ (ReflectliteValue.method (ReflectliteValue.valueError "reflectlite.Value.Elem" 0) ReflectliteValue.elem) func268 (by rfl) (by rfl) (by rfl) (by kernel_rfl);have kZ:=@run_callFunc_extern prog 269 _ ReflectliteValue.set func269 (by rfl) (by rfl) (by rfl) (by kernel_rfl);have ax5:=As.fx;have axN:=As.methodAssignableTo;have alL:=As.fG;have ax9:=As.fj;have f6:=As.eZ;have f7:=As.e1;have axQ:=As.methodKind;have axO:=As.methodElem;have axP:=As.methodImplements;have Y1:=As.fe;have EA:=As.eX;have awx:=As.fC;have axu:=As.fh;obtain⟨YH,ND⟩:∃YH,YH=w.alloc (.cells #[Zn tb] 321):=⟨_,rfl⟩
 obtain⟨UF,Nm⟩:∃UF,UF=YH.alloc (.cells #[.pointer (some ⟨16,321,none⟩),Zn (w.heap.size),.int .u64 150] 276):=⟨_,rfl⟩
 obtain⟨XE,Dg⟩:∃XE,XE=UF.alloc (.cells #[.pointer (some ⟨16,321,none⟩),Zn (w.heap.size),.int .u64 150] 276):=⟨_,rfl⟩
 obtain⟨NG,DI⟩:∃NG,NG=XE.alloc (.cells #[Z9 l,Z9 n] 320):=⟨_,rfl⟩
 have Wx:Z6 w YH:=by rw[ND];exact Xl _ _
 have Xd:Z6 YH UF:=by rw[Nm];exact Xl _ _
 have Wk:Z6 UF XE:=by rw[Dg];exact Xl _ _
 have UY:Z6 XE NG:=by rw[DI];exact Xl _ _
 have Zx:Zv YH w.heap.size 321 #[Zn tb]:=by rw[ND];exact Zv.new _ _ _
 have Zl:Zv NG XE.heap.size 320 #[Z9 l,Z9 n]:=by rw[DI];exact Zv.new _ _ _
 have t1:=ZM.below Wx ZM.lt;have t2:=t1.below Xd t1.lt;have t3:=t2.below Wk t2.lt;have t4:=t3.below UY t3.lt;have Jd:6<w.heap.size:=World.block_lt_of_cell? w _ ZH;have xw:=As.eU ⟨w.heap.size,0,none⟩ ⟨tb,0,none⟩ UF ((Zx.below Xd Zx.lt).q0);have XL:=(Xd.cell (p:=⟨6,0,none⟩) (Vh Jd Wx.size)).trans ((Wx.cell (p:=⟨6,0,none⟩) Jd).trans ZH);have el:=As.elemV ⟨w.heap.size,0,none⟩ ⟨tb,0,none⟩ XE (((Zx.below Xd Zx.lt).below Wk (Zx.below Xd Zx.lt).lt).q0);have st:=As.setW tb XE.heap.size (Z9 l) (Z9 n) S3 RZ NG Zl t4 rfl rfl;have JI:=bx (show Turns (λk=>k=tb) w (NG.setRow tb #[Z9 l,Z9 n])from
  (Turns.of_below (Wx.trans ((Xd.trans ((bt Wk UY).mono Xd.size)).mono Wx.size))).trans (gS NG tb _))
 have IR:=bx (t4.setRow #[Z9 l,Z9 n]);rw[DI,Dg,Nm,ND]at JI IR st;rw[Dg,Nm,ND]at el;rw[Nm,ND]at XL xw;clear Wx Xd Wk UY Zx Zl t1 t2 t3 t4 ND Nm Dg DI ZH Jd ZM;simp only[World.size_alloc]at st
 go_in
 go_wp2
 refine wp_loop_rounds 1 ?_;rw[rounds_succ]
 go_wp2
 go_ret
 exact⟨rfl,IR.o,JI.o⟩
theorem ajF(l n:Int)(w:World)(ZH:H5 w):
  Calls prog 156 #[.iface 320 (.agg #[Z9 l,Z9 n])] w λe w'=>e=.returned (.tuple #[Z9 l,Z9 n])/\Z6 w w':=by
 obtain⟨V,ZO⟩:∃V,V=w.alloc (.cells #[Z9 0,Z9 0] 320):=⟨_,rfl⟩
 have V3:=bx (aB ZO);have Ze:=bx (aK ZO);have ZN:=bx ZO;have WO:=bx (as_hit l n w.heap.size (Z9 0) (Z9 0) V ((V3.o.cell (p:=⟨6,0,none⟩) (World.block_lt_of_cell? w _ ZH)).trans ZH) Ze.o);clear ZO ZH
 go_in
 go_upto_region 2 with(fail)
 rw[<-ZN.o];go_wp2_with fail;refine WO.o.mono ?_;rintro e ZV ⟨rfl,TT,Sg⟩;have ZW:=bx (V3.o.trans (Sg.below V3.o.size (λ_ _=>by omega)));have Ws:=TT.q0;have XX:=TT.q1;clear TT Sg;go_wp2_with fail
 go_quiet (fail)
 have Zt:=bx (ZW.o.trans ((below_drewN (Below.refl ZV.heap.size ZV) nq).mono ZW.o.size))
 go_wp2
 go_ret2
 exact⟨rfl,Zt.o⟩
theorem akq(l n:Int)(w:World)(ZH:H5 w):
  Calls prog 87 #[.iface 320 (.agg #[Z9 l,Z9 n])] w λe w'=>e=.returned (Z9 n)/\Z6 w w':=by
 have Y8:=bx (ajF l n w ZH);clear ZH
 go_in
 go_wp2_with fail;refine Y3 Y8.o λ_ ZZ=>?_
 have V3:=bx ZZ;clear ZZ
 go_wp2
 go_ret
 exact⟨rfl,V3.o⟩
theorem abD(l n:Int)(ZP:n≠0)(w:World):
  Calls prog 155 #[Z9 l,Z9 n] w λe w'=>e=.returned (.iface 320 (.agg #[Z9 l,Z9 n]))/\w=w':=by
 have Z7:(n != 0)=true:=by grind
 clear ZP
 go_in
 go_wp2
 go_ret
 simp
end
section
open Go.Shelf
theorem amO(p:Option Addr)(v:Value)(w:World)(Z2:∃a n c,v=.slice a n c):
  Calls prog 211 #[.pointer p,v] w λe w'=>e=.returned (.func (.func 277) #[] #[Zn (w.heap.size+1),Zn (w.heap.size)])/\
   (w.alloc (.cells #[.pointer p] 289)).alloc (.cells #[v] 22)=w':=by
 obtain⟨a,n,c,rfl⟩:=Z2
 go_in
 go_wp2
 go_ret
 simp
structure yQ(YQ Et xb QM Lv Tk Ta WN XG n zC:Nat)(zB:Option Addr)(Zo Y2:Value)(S F:List Int)(W:World):Prop where
 c:Zv W YQ 291 #[Zo,.slice (some ⟨Ta,WN,none⟩) F.length XG,Y2,.slice zB n zC]
 s:Zv W Et 22 #[.slice (some ⟨QM,Lv,none⟩) S.length Tk]
 x:Zv W xb 289 #[Zn YQ]
 ss:∀i v,S[i]?=some v->ZQ W QM (Lv+i)=some (Z9 v)
 ff:∀i v,F[i]?=some v->ZQ W Ta (WN+i)=some (Z9 v)
theorem yQ.same{YQ Et xb QM Lv Tk Ta WN XG n zC:Nat}{zB:Option Addr}{Zo Y2:Value}{S F:List Int}{W W':World}(h:yQ YQ Et xb QM Lv Tk Ta WN XG n zC zB Zo Y2 S F W){K:Nat->Prop}(Z3:K YQ/\K Et/\K xb/\K QM/\K Ta)(Z8:∀k,K k->W'.heap[k]?=W.heap[k]?):yQ YQ Et xb QM Lv Tk Ta WN XG n zC zB Zo Y2 S F W' :=
 ⟨(Z8 _ Z3.1).trans h.c,(Z8 _ Z3.2.1).trans h.s,(Z8 _ Z3.2.2.1).trans h.x,λi v hi=>(World.cell?_of_block (Z8 QM Z3.2.2.2.1)).trans (h.ss i v hi),λi v hi=>(World.cell?_of_block (Z8 Ta Z3.2.2.2.2)).trans (h.ff i v hi)⟩
def IS(n k:Nat):List Nat:=(List.range (min (k-1) (n-1))).map (·+1)
theorem apJ{n k:Nat}(_:0<k)(_:k<n):IS n (k+1)=IS n k++[k]:=by
 unfold IS;rw[show min (k+1-1) (n-1)=min (k-1) (n-1)+1 by omega,List.range_succ,T9];grind
theorem aeS{n k:Nat}(_:k=0\/n<=k):IS n (k+1)=IS n k:=by
 unfold IS
 grind
theorem anS(n k:Nat):(IS n k).length=min (k-1) (n-1):=by simp[IS]
def Fu(S F:List Int)(p:Nat):Int:=F.getD (S.getD p 0).toNat 0
theorem arZ(m:Nat)(K:Nat->Prop)(YQ Et xb QM Lv Tk Ta WN XG n zC:Nat)(zB:Option Addr)(Zo Y2:Value)(S F:List Int)(hS:S.length=n+1)(axl:S.length<=Tk/\Tk<=9223372036854775807)(tY:F.length<=XG/\XG<=9223372036854775807)(_:n<=1000000)(vb:∀x∈S,0<=x/\x<F.length)(Xc:K YQ/\K Et/\K xb/\K QM/\K Ta)(l:Nat)(YH:World)(TU:yQ YQ Et xb QM Lv Tk Ta WN XG n zC zB Zo Y2 S F YH):
  r5 (m+1) prog 277 #[Zn Et,Zn xb] (λx:Nat=>#[Z9 x,Z9 (Fu S F x)]) (λ_=>False) K (λZC x=>x=ZC.length+1/\x<n)
   (λxs _=>xs=IS n (n+1)) l YH:=by
 intro J PL Pj Gb VX ZI;have Wn:=bx VX;have TE:=bx Pj;have NP:=bx vb;have Ze:=bx Xc;have Xe:=bx hS;have YV:=TU.s.q0;clear VX Pj vb Xc;refine callsIn_of_wp func277 rfl trivial ?_;simp only[ntmps277,My,U3,SK,Nat.reduceAdd,Nat.reduceSub,Mu,Mg,Og,Mo,RQ,SI]
 gi_wp2
 refine wpIn_wide.2 (wp_scope_straight ((wpIn_wide (n:=m+1)).1 ?_))
 gi_wp2
 refine wpIn_label ?_
 gi_wp2
 clear YV
 gi_loopw [8] (λi wr=>∃k:Nat,k<=n+1/\i=Z9 k/\Box (yQ YQ Et xb QM Lv Tk Ta WN XG n zC zB Zo Y2 S F wr)/\Box (J (IS n k) wr)) (λi _=>n+1-(intOf i).toNat)
 ·exact⟨0,OQ _,rfl,⟨TU⟩,⟨ZI⟩⟩
 obtain⟨k,Z3,rfl,hp,YO⟩:=hrel;clear TU ZI
 by_cases Zu:k<n+1
 ·obtain⟨s,Z0⟩:=Yg S k (by omega);obtain⟨s0,s1⟩:=NP.o s (Xh Z0);obtain⟨q,rfl⟩:=PY s0;have axe:q<F.length:=by omega
  obtain⟨f,Yz⟩:=Yg F q axe;have d0:=hp.o.ss k _ Z0;have d1:=hp.o.ff q f Yz;have d2:=hp.o.x.q0;have d3:=hp.o.c.q3;have d4:=hp.o.c.q1;have V9:=hp.o.c.lt;have MW:=bx (show Fu S F k=f by
   grind[Fu])
  obtain⟨aAT,aAU⟩:=axl;obtain⟨azC,Al⟩:=tY;clear Z0 Yz s0 s1
  rcases(show k=0\/(0<k/\k=n)\/(0<k/\k<n) by omega)with h|⟨BM,h⟩|⟨h,TB⟩
  ·have W3:=bx (aeS (n:=n) (k:=k) (.inl h));have azw:wr.cell? ⟨QM,Lv,none⟩=some (Z9 (q:Int)):=by grind
   clear d0;subst h;simp only[show((0:Nat):Int)=0 from rfl]
   gi_wp2
   go_roundw
   ·exact⟨1,by omega,by go_num,hp,⟨by rw[show(1:Nat)=0+1 from rfl,W3.o];exact YO.o⟩⟩
   simp[intOf]
  ·have W3:=bx (aeS (n:=n) (k:=k) (.inr (by omega)));have t0:((k:Int)==0)=false:=by grind
   have t1:((k:Int)==(n:Int))=true:=by grind
   clear h BM
   gi_wp2
   go_roundw
   ·exact⟨k+1,by omega,by go_num,hp,⟨by rw[W3.o];exact YO.o⟩⟩
   grind[intOf]
  have W3:=bx (apJ h TB);have t0:((k:Int)==0)=false:=by grind
  have t1:((k:Int)==(n:Int))=false:=by grind
  have ZJ:=Wn.o (IS n k) k wr YO.o ⟨by rw[anS];omega,TB⟩;rw[MW.o]at ZJ;obtain⟨fn,tmps,assign,body,ZJ,MT⟩:=ZJ;have Kz:=bx MT;clear MT h TB
  gi_wp2
  refine Kz.o.mono ?_;rintro e XE (⟨rfl,Oq,Sx⟩|⟨rfl,L7⟩)
  ·have oX:=bx (hp.o.same Ze.o (λk Z3=>Sx.block k Z3));have HO:=bx Oq;clear Oq Sx
   gi_wp2
   go_roundw
   ·exact⟨k+1,by omega,by go_num,oX,⟨by rw[W3.o];exact HO.o⟩⟩
   grind[intOf]
  gi_wp2
  rw[Exit.noGoto_normal]
  go_end0
  grind
 obtain rfl:k=n+1:=by omega
 gi_wp2
 rw[Exit.noGoto_normal]
 go_end0
 exact⟨⟨_,rfl⟩,.inl ⟨_,rfl,YO.o⟩⟩
end
def JH(n:Nat)(L:List Int)(k:Nat):Array Value:=((D.cuts n (L.take k)++L.drop k).map (Value.int .i64)).toArray
theorem aq3(n:Nat)(L:List Int):JH n L 0=(L.map (Value.int .i64)).toArray:=by rfl
theorem awm(n:Nat)(L:List Int):JH n L L.length=((D.cuts n L).map (Value.int .i64)).toArray:=by simp[JH]
theorem acL{n:Nat}{L:List Int}{k:Nat}{c:Int}(_:L[k]?=some c):(JH n L k)[k]?=some (Z9 c):=by
 grind[JH,D.cuts]
theorem lv{n:Nat}{L:List Int}{k:Nat}{c:Int}(h:L[k]?=some c):(JH n L k).setIfInBounds k (Z9 (D.cut n c))=JH n L (k+1):=by
 have Z3:=(R7 h).1;have Zm:L.drop k=c::L.drop (k+1):=by
  rw[H9 Z3]
  grind
 have ZM:D.cuts n (L.take (k+1))=D.cuts n (L.take k)++[D.cut n c]:=by
  grind[D.cuts]
 have hl:(D.cuts n (L.take k)).length=k:=by grind[D.cuts]
 grind[JH]
theorem awp{n:Nat}{L:List Int}{k:Nat}{c:Int}(h:L[k]?=some c)(ZL:D.cut n c=c):JH n L k=JH n L (k+1):=by
 rw[<-lv h,ZL];have ZH:=acL (n:=n) h
 apply Array.ext'
 rw[Array.toList_setIfInBounds]
 apply List.ext_getElem?
 grind
theorem atp{w:World}{g:Nat}{T:TypeId}{xs:List Int}(h:Zv w g T (xs.map (Value.int .i64)).toArray)(_:xs.length<=1000000):Y6 w (.slice (some ⟨g,0,none⟩) xs.length xs.length) xs:=
 .inr ⟨g,0,none,xs.length,rfl,Wq _,by grind[maxLen],λ_=>⟨rfl,h.lt,λi _ _=>by
  rw[Nat.zero_add];refine(h.cell i).trans ?_;grind⟩⟩
theorem aqz{n g:Nat}{w W:World}(h:Below n w W)(_:n<=g)(cs:Array Value):Below n w (W.setRow g cs):=
 h.trans ⟨rfl,rfl,rfl,by simp,λk _=>setRow_other W g k cs (by omega)⟩
theorem ao8(L:Nat)(_:L<=1000000)(w:World):(Instr.makeSlice 22 (Z9 (L:Int)) (Z9 (L:Int))).run prog w=.ok (.slice (some ⟨w.heap.size,0,none⟩) L L) (w.alloc (.cells (Array.replicate L (Z9 0)) 3)):=by
 have hi:(prog.info? 3).map (λi=>(i.zero,i.size,i.bytes))=some (some (Z9 0),1,8):=by rfl
 obtain⟨z,ZY,Vf⟩:=NU.1 hi;simp only[Prod.mk.injEq]at Vf;have ZY:=And.intro ZY Vf;have:=run_makeSlice (P:=prog) (w:=w) 22 3 z (Z9 0) underlying22 ZY.1 ZY.2.1 .i64 .i64 L L (by omega) (by omega) (by grind) (by grind) (by omega);have e:madeCells (Value.int .i64 0).cells ((L:Int).toNat*z.size)=Array.replicate L (Z9 0):=by
  rw[ZY.2.2.1,RU,Nat.mul_one]
  apply Array.ext'
  rw[Array.toList_replicate];exact toList_madeCells_one (Value.int .i64 0) L
 grind
theorem aor(v:Value)(L:List Int)(w:World)(Z2:Y6 w v L)(_:L.length<=1000000):∃UF q,(∀ty,(Builtin.copy_ #[22,22] ty #[.slice (some ⟨w.heap.size,0,none⟩) L.length L.length,v]).run prog (w.alloc (.cells (Array.replicate L.length (Z9 0)) 3))=.ok (goInt q) UF)/\Zv UF w.heap.size 3 (L.map (Value.int .i64)).toArray/\Z6 w UF:=by
 have Z0:(prog.info? 3).map (·.size)=some 1:=by rfl
 have Yn:=Xl w (.cells (Array.replicate L.length (Z9 0)) 3);have BM:=Zv.new w 3 (Array.replicate L.length (Z9 0));have WV:=Z2.below Yn
 rcases WV with⟨rfl,rfl⟩|⟨b,off,sp,ZU,rfl,Z5,ZS,ZG⟩
 ·exact⟨_,0,λty=>run_copy_none _ _ _ ty _ _ _ _ _ _ _ underlying22 Z0 (by simp),BM,Yn⟩
 by_cases ZP:L=[]
 ·subst ZP;exact⟨_,0,λty=>run_copy_none _ _ _ ty _ _ _ _ _ _ _ underlying22 Z0 (by simp),BM,Yn⟩
 obtain⟨rfl,Zi,Yu⟩:=ZG ZP;have W1:(Array.replicate L.length (Value.int .i64 0)).size=L.length:=Array.size_replicate;refine⟨_,_,λty=>run_copy_row (P:=prog) _ _ _ ty _ w.heap.size 0 L.length L.length ⟨b,off,none⟩ L.length ZU (Array.replicate L.length (Z9 0)) 3 (L.map (Value.int .i64)) underlying22 Z0 BM (by simp) (λj u hu=>?_) (by simp) (λu hu=>?_),?_,aqz Yn Ys _⟩
 ·rw[RX]at hu
  cases Z4:L[j]? with
  |none=>grind
  |some x=>
   rw[Z4]at hu
   cases hu
   (try unfold ZQ at *);grind[Addr.add]
 ·obtain⟨y,-,rfl⟩:=SL.1 hu
  rfl
 have e:((Array.replicate L.length (Value.int .i64 0)).toList.take 0++L.map (Value.int .i64)++(Array.replicate L.length (Value.int .i64 0)).toList.drop (0+(L.map (Value.int .i64)).length))=L.map (Value.int .i64):=by simp
 rw[e];exact setRow_heap _ w.heap.size _ _ 3 (0,0) BM
theorem asU(v:Value)(L:List Int)(Zj:Nat)(w:World)(Z2:Y6 w v L)(ZY:L.length<=1000000):
  Calls prog 209 #[v,Z9 Zj] w λe w'=>e=.returned (.slice (some ⟨w.heap.size,0,none⟩) L.length L.length)/\Zv w' w.heap.size 3 ((D.cuts Zj L).map (Value.int .i64)).toArray/\Z6 w w':=by
 have Ip:=ao8 L.length ZY w;obtain⟨UF,q,awV,Nj,Zz⟩:=aor v L w Z2 ZY;have Oi:=bx Nj;have Zt:=bx Zz;obtain⟨XH,ZU,rfl⟩:=Z2.slice;clear Z2 Nj Zz
 go_in
 go_wp2_with fail;clear Ip awV
 go_loopw[16] (λi wr=>∃k:Nat,k<=L.length/\i=Z9 k/\Box (Zv wr w.heap.size 3 (JH Zj L k))/\Box (Z6 w wr)) (λi _=>L.length-(intOf i).toNat)
 ·grind[aq3]
 obtain⟨k,Z3,rfl,XY,Z8⟩:=hrel;clear Oi
 by_cases Zu:k<L.length
 ·obtain⟨c,ZL⟩:=Yg L k Zu;have uh:=(XY.o.cell k).trans (acL ZL);have tW:=XY.o.frozen k;have Yq:=bx ZL;clear ZL
  rcases PX c 0 with ZI|ZI
  ·have ZE:=bx (show(JH Zj L k).setIfInBounds k (Z9 (-1))=JH Zj L (k+1) by rw[<-lv Yq.o];grind[D.cut])
   go_wp2
   go_roundw
   ·exact⟨k+1,Zu,by go_num,⟨by rw[<-ZE.o];exact XY.o.ai k _⟩,⟨Z8.o.setCell Ys _⟩⟩
   grind[intOf]
  rcases PX c Zj with Z7|Z7
  ·have ZE:=bx (awp (n:=Zj) Yq.o (by grind[D.cut]))
   go_wp2
   go_roundw
   ·exact⟨k+1,Zu,by go_num,⟨by rw[<-ZE.o];exact XY.o⟩,Z8⟩
   grind[intOf]
  have ZE:=bx (show(JH Zj L k).setIfInBounds k (Z9 (-1))=JH Zj L (k+1) by rw[<-lv Yq.o];grind[D.cut])
  go_wp2
  go_roundw
  ·exact⟨k+1,Zu,by go_num,⟨by rw[<-ZE.o];exact XY.o.ai k _⟩,⟨Z8.o.setCell Ys _⟩⟩
  grind[intOf]
 have YE:=bx (show Zv wr w.heap.size 3 ((D.cuts Zj L).map (Value.int .i64)).toArray by
  have Z7:k=L.length:=by omega
  have Z5:=XY.o
  grind[awm])
 go_wp2
 go_ret
 exact⟨rfl,YE.o,Z8.o⟩
section
open Go.Shelf
def OI(R:List D.Rule)(M:D.ao)(n:Int):Bool:=LV n R&&Rp n M&&M.2.all (inB R.length)
def gv(R:List D.Rule)(M:D.ao)(n:Int)(L:List Int)(w:World)(e:Ending)(w':World):Prop:=
 Z6 w w'/\((OI R M n=true/\∃v,e=.returned (.tuple #[v,Z9 0])/\Y6 w' v (KI R M n.toNat L))\/(OI R M n=false/\e=.returned (.tuple #[Z1,Z9 110])))
theorem h4(w:World)(YV c1 c2 c3 VG:Array Value)(SD SC SB Ko oK:TypeId)(W:World)(Yj:W=((((w.alloc (.cells YV SD)).alloc (.cells c1 SC)).alloc (.cells c2 SB)).alloc (.cells c3 Ko)).alloc (.cells VG oK)):
  Zv W w.heap.size SD YV/\Zv W (w.heap.size+1) SC c1/\Zv W (w.heap.size+1+1) SB c2/\Zv W (w.heap.size+1+1+1) Ko c3/\Zv W (w.heap.size+1+1+1+1) oK VG/\Z6 w W/\W.heap.size=w.heap.size+5:=by
 obtain⟨ZI,Z7,Z5,ZS,Z8,Z0⟩:=four w YV c1 c2 c3 SD SC SB Ko;have ZP:=Zv.new ((((w.alloc (.cells YV SD)).alloc (.cells c1 SC)).alloc (.cells c2 SB)).alloc (.cells c3 Ko)) oK VG;rw[Z0]at ZP;subst Yj;exact⟨ZI.alloc _,Z7.alloc _,Z5.alloc _,ZS.alloc _,ZP,Z8.alloc Z8.size _,by simp⟩
theorem wK{n:Int}{M:D.ao}(h:Rp n M=true):∀x∈M.2,0<=x/\x<1099511627776:=by
 intro x Z4;obtain⟨i,hi,e⟩:=List.getElem_of_mem Z4;obtain⟨Z7,Z5,ZS,ZG,Zi⟩:=DC h;obtain⟨Zj,rfl⟩:=PY (show 0<=n by omega);obtain⟨r,-,-,-,f,Zx,Zr,Zk⟩:=wW h (a:=i) (by omega);grind
theorem apH(A:Nat->Addr)(B:Nat)(Y2:Value)(R:List D.Rule)(Rq:Value)(M:D.ao)(n:Int)(Zc:Value)(L:List Int)(w:World)(WS:TQ w Y2 R)(Yz:∀x∈R,Mv x)(KB:R.length<=16777216)(Xv:Oh w Rq M)(MZ:JV M)(WE:Y6 w Zc L)(_:L.length<=900)(XU:Ed A B w)(YN:Eg A B w)(hB:B<=w.heap.size)(XF:OI R M n=false):
  Calls prog 124 #[Y2,Rq,Z9 n,Zc] w λe w'=>e=.returned (.tuple #[Z1,Z9 110])/\Z6 w w':=by
 have ZK:=bx WS;have W3:=bx Xv;have W4:=bx WE;have Xf:=bx XU;have Xn:=bx YN;have Yt:=bx Yz;have Ct:=bx MZ;obtain⟨ro,rc,rfl⟩:=WS.slice;obtain⟨ajb,ah8,rfl,SO,SQ⟩:=Xv;obtain⟨no,V5,rfl⟩:=SO.slice;obtain⟨WN,XG,rfl⟩:=SQ.slice;obtain⟨lo,lc,rfl⟩:=WE.slice;have Tn:=bx SQ;obtain⟨W,Yj⟩:∃W,W=((((w.alloc (.cells #[.slice no M.1.length V5,.slice WN M.2.length XG] 29)).alloc (.cells #[.slice no M.1.length V5,.slice WN M.2.length XG,.slice ro R.length rc,Z1] 291)).alloc (.cells #[Zn (w.heap.size+1)] 289)).alloc (.cells #[Z9 0] 3)).alloc (.cells #[.slice (some ⟨w.heap.size+1+1+1,0,none⟩) 1 1] 22):=⟨_,rfl⟩
 obtain⟨ZI,Z7,Z5,ZS,ZG,Ou,tF⟩:=h4 w _ _ _ _ _ _ _ _ _ _ W Yj;have TW:=bx Yj;have HI:=bx ZI;have H1:=bx Z7;have U5:=bx Z5;have Q3:=bx ZS;have Nq:=bx ZG;have YA:=bx Ou;have Wy:=bx tF;have SE:=bx (gD _ R n W Yz (WS.below Ou) KB);have YV:=ZI.q0;have c1:=ZI.q1;clear WS SO SQ WE XU YN Yj ZI Z7 Z5 ZS ZG Ou tF Yz MZ;have RA:=bx XF;clear XF
 go_in
 go_wp2_with fail;refine Nr 0 rfl ?_;go_wp2_with fail;rw[<-TW.o];refine Y3 SE.o λZV ZZ=>?_
 have ZW:=Zw YA ZZ;have Zd:=HI.o.below ZZ HI.o.lt;have Bo:=bx Zd;have U4:=H1.ub ZZ;have LO:=U5.ub ZZ;have d0:=Zd.q0;have d1:=Zd.q1;clear ZZ YV c1 Zd
 cases ZT:LV n R with
 |false=>
  have ZH:=(Xn.o.below (ZW.o.mono hB)).cell;have Y8:=bx (om A B ZV (Xn.o.below (ZW.o.mono hB)));unfold vL PE at Y8;clear ZT;go_wp2_with fail
  go_step3
  refine⟨rfl,?_⟩;go_wp2_with fail;refine YW Y8.o ?_;go_wp2_with fail;rw[Exit.noGoto_ret];go_ret2;exact⟨rfl,ZW.o⟩
 |true=>
  have HS:=bx ZT;clear ZT;have DG:=bx (oe _ M n ZV (W3.o.below ZW.o) Ct.o);go_wp2_with fail;refine Y3 DG.o λZB Zz=>?_
  have Zt:=Zw ZW Zz;have Zx:=U4.o.below Zz U4.o.lt;have Zr:=LO.o.below Zz LO.o.lt;have Zq:=Zx.q1;have YP:=Zr.q0;have Om:=Zx.lt;clear d0 d1 Zz Zx Zr
  cases hm:Rp n M with
  |false=>
   have ZH:=(Xn.o.below (Zt.o.mono hB)).cell;have Y8:=bx (om A B ZB (Xn.o.below (Zt.o.mono hB)));unfold vL PE at Y8;clear hm;go_wp2_with fail
   go_step3
   refine⟨rfl,?_⟩;go_wp2_with fail;refine YW Y8.o ?_;go_wp2_with fail;rw[Exit.noGoto_ret];go_ret2;exact⟨rfl,Zt.o⟩
  |true=>
   have pj:=bx (hx (.slice WN M.2.length XG) M.2 (wK hm) ro R.length rc (uQ HS.o).2.2.1 ZB (Tn.o.below Zt.o) (by have:=(DC hm);omega));have DY:=bx (show M.2.all (inB R.length)=false by
    have:=RA.o;unfold OI at this;rw[HS.o,hm]at this
    grind)
   clear hm;go_wp2_with fail;refine Y3 pj.o λZh Zb=>?_
   rw[DY.o];have YY:=Zw Zt Zb;clear Zb;have ZH:=(Xn.o.below (YY.o.mono hB)).cell;have Y8:=bx (om A B Zh (Xn.o.below (YY.o.mono hB)));unfold vL PE at Y8;go_wp2_with fail
   go_step3
   refine⟨rfl,?_⟩;go_wp2_with fail;refine YW Y8.o ?_;go_wp2_with fail;rw[Exit.noGoto_ret];go_ret2;exact⟨rfl,YY.o⟩
theorem Turns.narrow{own own':Nat->Prop}{A B:World}(h:Turns own A B)(hm:∀k,own k->k<A.heap.size->own' k):Turns own' A B:=⟨h.os,h.tape,h.output,h.size,λi hi YT=>h.block i hi (λe=>YT (hm i e hi))⟩
theorem ac3{R:List D.Rule}{M:D.ao}{n:Int}(_:OI R M n=true):LV n R=true/\Rp n M=true/\M.2.all (inB R.length)=true:=by
 grind[OI]
theorem ad2(A:Nat->Addr)(B:Nat)(Y2:Value)(R:List D.Rule)(Rq:Value)(M:D.ao)(n:Int)(Zc:Value)(L:List Int)(w:World)(WS:TQ w Y2 R)(Yz:∀x∈R,Mv x)(KB:R.length<=16777216)(Xv:Oh w Rq M)(MZ:JV M)(WE:Y6 w Zc L)(F9:L.length<=900)(XU:Ed A B w)(YN:Eg A B w)(hB:B<=w.heap.size)(I4:OI R M n=true):
  Calls prog 124 #[Y2,Rq,Z9 n,Zc] w λe w'=>(∃v,e=.returned (.tuple #[v,Z9 0])/\Y6 w' v (KI R M n.toNat L)/\∀g,v.ownBlock=some g->w.heap.size<=g)/\Z6 w w':=by
 obtain⟨K1,xH,pY⟩:=ac3 I4;obtain⟨Ii,CR,nW,-⟩:=uQ K1;obtain⟨Zj,rfl⟩:=PY (show 0<=n by omega);have ZK:=bx WS;have W3:=bx Xv;have W4:=bx WE;have Xf:=bx XU;have Xn:=bx YN;have Yt:=bx Yz;have Ct:=bx MZ;obtain⟨ro,rc,rfl⟩:=WS.slice;obtain⟨ajb,ah8,rfl,SO,SQ⟩:=Xv;obtain⟨no,V5,rfl⟩:=SO.slice;obtain⟨WN,XG,rfl⟩:=SQ.slice;obtain⟨lo,lc,rfl⟩:=WE.slice;have Tn:=bx SQ;obtain⟨W,Yj⟩:∃W,W=((((w.alloc (.cells #[.slice no M.1.length V5,.slice WN M.2.length XG] 29)).alloc (.cells #[.slice no M.1.length V5,.slice WN M.2.length XG,.slice ro R.length rc,Z1] 291)).alloc (.cells #[Zn (w.heap.size+1)] 289)).alloc (.cells #[Z9 0] 3)).alloc (.cells #[.slice (some ⟨w.heap.size+1+1+1,0,none⟩) 1 1] 22):=⟨_,rfl⟩
 obtain⟨ZI,Z7,Z5,ZS,ZG,Ou,tF⟩:=h4 w _ _ _ _ _ _ _ _ _ _ W Yj;have TW:=bx Yj;have HI:=bx ZI;have H1:=bx Z7;have U5:=bx Z5;have Q3:=bx ZS;have Nq:=bx ZG;have YA:=bx Ou;have Wy:=bx tF;have SE:=bx (gD _ R (Zj:Int) W Yz (WS.below Ou) KB);have YV:=ZI.q0;have c1:=ZI.q1;clear WS SO SQ WE XU YN Yj ZI Z7 Z5 ZS ZG Ou tF Yz MZ;have HS:=bx K1;have CE:=bx xH;have ar8:=bx pY;clear I4 K1 xH pY;refine(callsIn_wide (n:=9)).1 (callsIn_of_wp_marks func124 rfl trivial (wpIn_wide.2 ?_));simp only[ntmps124,My,U3,SK,Nat.reduceAdd,Nat.reduceSub,Mu,Mg,Og,Mo,RQ,SI];go_wp2_with fail;refine Nr 0 rfl ?_;go_wp2_with fail;rw[<-TW.o];refine Y3 SE.o λZV ZZ=>?_
 rw[HS.o];have ZW:=Zw YA ZZ;have Zd:=HI.o.below ZZ HI.o.lt;have Bo:=bx Zd;have U4:=H1.ub ZZ;have LO:=U5.ub ZZ;have ta:=Q3.ub ZZ;have Cm:=Nq.ub ZZ;have d0:=Zd.q0;have d1:=Zd.q1;have DG:=bx (oe _ M Zj ZV (W3.o.below ZW.o) Ct.o);clear ZZ YV c1 Zd;go_wp2_with fail;refine Y3 DG.o λZB Zz=>?_
 rw[CE.o];have Zt:=Zw ZW Zz;have Zx:=U4.o.below Zz U4.o.lt;have Zr:=LO.o.below Zz LO.o.lt;have Zq:=Zx.q1;have YP:=Zr.q0;have Om:=Zx.lt;have ai5:=Bo.ub Zz;have ai6:=bx Zx;have ai7:=bx Zr;have ai8:=ta.ub Zz;have ai9:=Cm.ub Zz;have pj:=bx (hx (.slice WN M.2.length XG) M.2 (wK CE.o) ro R.length rc nW ZB (Tn.o.below Zt.o) (by have:=(DC CE.o);omega));clear d0 d1 Zz Zx Zr;go_wp2_with fail;refine Y3 pj.o λZh Zb=>?_
 rw[ar8.o];have YY:=Zw Zt Zb;have ai3:=ai5.ub Zb;have HG:=ai6.ub Zb;have Ee:=ai7.ub Zb;have zo:=ai8.ub Zb;have iB:=ai9.ub Zb;have f2:=Ee.o.q0;have Ez:=HG.o.lt;have GV:=bx (λ(W:World)(h:Z6 Zh W)=>asU (.slice lo L.length lc) L Zj W ((W4.o.below YY.o).below h) (by omega));clear Zb Zq YP Om
 go_upto_region 5 with(fail)
 go_cut []from 40 to 45 (λNL=>∃kg:Nat,Zh.heap.size<=kg/\Box (Zv NL kg 3 ((D.cuts Zj L).map (Value.int .i64)).toArray)/\Box (Zv NL (w.heap.size+1) 291 #[.slice no M.1.length V5,.slice WN M.2.length XG,.slice ro R.length rc,.slice (some ⟨kg,0,none⟩) L.length L.length])/\Box (Turns (λk=>k=w.heap.size+1) Zh NL))
 case first=>
  have W6:=bx (show Z6 Zh Zh.drew from VQ Zh 1);have Ud:=bx ((W6.o.cell (p:=⟨w.heap.size+1+1,0,none⟩) Ee.o.lt).trans f2);refine Vv 4 (λW=>ZQ W (w.heap.size+1+1) 0=some (Zn (w.heap.size+1))) (by rfl) ?_;have Fk:=bx (GV.o _ W6.o);generalize Zh.drew=Yl at W6 Ud Fk⊢;refine Vp [0,1,2] ?_
  iterate 3 (refine Vq ?_ rfl Ud.o ?_ ?_;rotate_left;·intro w q1;go_simp;try with_reducible rfl)
  refine Vr ?_;refine Y1 3 rfl λY7 ZX=>?_
  go_simp;go_wp2_with (go_at_call 209;refine Fk.o.mono ?_;rintro e YL ⟨rfl,Ht,Yf⟩)
  have Ye:=bx (bt W6.o Yf);have GN:=bx Ht;have g4:=(HG.o.below Ye.o HG.o.lt).frozen 3;have UO:=((HG.o.below Ye.o HG.o.lt).cell 3).trans (show _=some (Value.slice none 0 0)from rfl);have xy:=(HG.o.below Ye.o HG.o.lt).lt;have Nu:=bx W6.o.size;clear Yf Ht;refine ZX.out _ _ (λ_=>(Ye.o.cell (p:=⟨w.heap.size+1+1,0,none⟩) Ee.o.lt).trans f2) ?_;clear ZX Y7;refine Y1 4 rfl λY7 ZX=>?_
  go_simp;refine ZX.out _ _ (λh=>by cases h) ?_;clear ZX Y7;refine Y1 5 rfl λY7 ZX=>?_
  go_simp;refine ZX.out _ _ (λh=>by cases h) ?_;clear ZX Y7;refine Y1 6 rfl λY7 ZX=>?_
  go_simp;refine ZX.out _ _ (λh=>by cases h) ?_;clear ZX Y7;refine kD ?_ _;go_wp2_with fail
  go_meet
  have Yo:=Turns.setCell (own:=λk=>k=w.heap.size+1) YL (p:=⟨w.heap.size+1,3,none⟩) rfl (.slice (some ⟨Yl.heap.size,0,none⟩) L.length L.length);exact⟨Yl.heap.size,Nu.o,⟨Yo.blk GN.o (by have:=HG.o.lt;have:=Nu.o;omega)⟩,⟨(HG.o.below Ye.o HG.o.lt).ai 3 _⟩,⟨(Turns.of_below Ye.o).trans Yo⟩⟩
 case rest=>
  obtain⟨kg,agt,LI,Vo,Yo⟩:=hcut;have pp:=bx (Yo.o.blk ai3.o (by omega));have ah1:=bx (Yo.o.blk Ee.o (by omega));have ah2:=bx (Yo.o.blk zo.o (by omega));have js:=bx (Yo.o.blk iB.o (by omega));have JW:=bx (show Z6 w wc from YY.o.trans (Yo.o.below YY.o.size (λk Z3=>by omega)));have d0:=pp.o.q0;have d1:=pp.o.q1;have NO:=bx (akm A B _ (.slice lo L.length lc) M Zj L wc (W3.o.below JW.o) Ct.o (W4.o.below JW.o) (by omega) (Xf.o.below (JW.o.mono hB)) (XJ hB JW.o.size));have apK:=js.o.lt;have apb:=LI.o.lt;clear f2 Ez Yo;go_wp2_with fail;refine NO.o.mono ?_;rintro e YK ⟨X0,k2,rfl,Wo⟩;rw[show goCode Zj M=0 by unfold goCode;rw[CE.o];rfl];rw[CE.o,Y0 rfl,Y0 rfl,RU]at Wo;have Zu:=Wo.lt;obtain⟨QM,Tk,rfl⟩:=ownsRow_succ Wo;have jc:=bx Wo;have aqG:=Zu QM rfl;have ah3:=pp.ub X0;have po:=Vo.ub X0;have jr:=ah1.ub X0;have ah4:=ah2.ub X0;have ah5:=js.ub X0;have ah6:=LI.ub X0;have Y9:=bx (bt JW.o X0);have afO:=X0.size;have f2:=jr.o.q0;clear d0 d1 X0 Wo Zu;go_wp2_with (go_at_call 211;refine YW (amO _ _ _ ⟨_,_,_,rfl⟩) ?_)
  clear f2;obtain⟨Xs,Fq⟩:∃Xs,Xs=(YK.alloc (.cells #[Zn (w.heap.size+1)] 289)).alloc (.cells #[.slice (some ⟨QM,0,none⟩) (L.length+1) Tk] 22):=⟨_,rfl⟩
  rw[<-Fq];have JD:Xs.heap.size=YK.heap.size+2:=by rw[Fq];simp
  have Us:Z6 YK Xs:=by rw[Fq];exact(YU.alloc Ys _).alloc (by simp) _
  have ahb:Zv Xs YK.heap.size 289 #[Zn (w.heap.size+1)]:=by rw[Fq];exact(Zv.new YK _ _).alloc _
  have axk:Zv Xs (YK.heap.size+1) 22 #[.slice (some ⟨QM,0,none⟩) (L.length+1) Tk]:=by
   rw[Fq];have:=Zv.new (YK.alloc (.cells #[Zn (w.heap.size+1)] 289)) 22 #[.slice (some ⟨QM,0,none⟩) (L.length+1) Tk]
   simp_all
  obtain⟨TO,Rs⟩:∃TO,TO=(Q4 Zj M L).map λx:Nat=>(x:Int):=⟨_,rfl⟩
  have af0:TO.length=L.length+1:=by grind[Q4]
  obtain⟨FN,CS,axL,axM,ahu⟩:=DC CE.o;obtain⟨Ta,HV,av7,ahn,axC,axD,axE,aho⟩:=(Tn.o.below (bt Y9.o Us)).get (by grind);obtain⟨rfl,rfl⟩:=XN ahn;have kr:Ta<w.heap.size:=by
   obtain⟨azD,ayR,azk,q1,q2,q3,q4,q5⟩:=Tn.o.get (by grind);grind
  have lw:=own_below jc.o Us;have acF:yQ (w.heap.size+1) (YK.heap.size+1) YK.heap.size QM 0 Tk Ta HV XG L.length L.length (some ⟨kg,0,none⟩) (.slice no M.1.length V5) (.slice ro R.length rc) TO M.2 Xs:=by
   refine⟨po.o.below Us po.o.lt,by grind,ahb,λi v hi=>?_,aho⟩;have ZL:=lw.cells (g:=QM) rfl i (Z9 v) (by
    rw[Rs]at hi;rw[RX]at hi⊢
    cases hgi:(Q4 Zj M L)[i]? with
    |none=>grind
    |some y=>rw[hgi]at hi;cases hi;rfl)
   (try unfold ZQ at *);grind[Addr.add]
  have gy:L.length+1<=Tk/\Tk<=9223372036854775807:=by
   rcases lw.2 with⟨Z7,Z5⟩|⟨Ui,cap',afB,Z7,Z5,ZS,ZG,Zi,Yu⟩
   ·cases Z7
   grind[maxLen]
  have vb:∀x∈TO,0<=x/\x<M.2.length:=by
   intro x Z4;rw[Rs]at Z4;obtain⟨y,ZJ,rfl⟩:=SL.1 Z4;unfold Q4 at ZJ;obtain⟨i,-,rfl⟩:=SL.1 ZJ;have:=qQ CE.o L i;omega
  have acM:∀x,x<=L.length->Fu TO M.2 x=Jn M (stM Zj M L x):=by
   intro x Z4;unfold Fu Jn;grind[Q4]
  have MW:=bx acM;have Np:=jr.ub Us;have Bm:=ah4.ub Us;have s8:=ah5.ub Us;have iz:=ah6.ub Us;have XW:=bx (bt Y9.o Us);have ME:Xs.ownsRow (w.heap.size+1+1+1) 3 1 (.slice (some ⟨w.heap.size+1+1+1,0,none⟩) 1 1) 1 [Z9 0]:=
   ⟨rfl,.inr ⟨w.heap.size+1+1+1,1,#[Z9 0],rfl,Wq _,Bm.o,Wq _,by unfold maxLen;omega,rfl,rfl⟩⟩
  have hJ:Zh.heap.size<=kg/\kg<Xs.heap.size:=⟨agt,iz.o.lt⟩
  have Nc:=YY.o.size;have tG:=Wy.o;have tU:=iB.o.lt;have jM:=JW.o.size;have iA:=bx (show∀g,g<w.heap.size\/g=w.heap.size+1\/Zh.heap.size<=g->g≠w.heap.size+1+1+1/\g≠w.heap.size+1+1+1+1 from λg h=>by omega);have aqw:=afO;have aoG:Zh.heap.size<=wc.heap.size:=by omega
  have ZX:∀g,g<Xs.heap.size->(g<w.heap.size\/g=w.heap.size+1\/Zh.heap.size<=g)->g<Xs.heap.size/\g≠w.heap.size+1+1+1/\g≠w.heap.size+1+1+1+1:=λg Z7 Z5=>⟨Z7,iA.o g Z5⟩
  have Ze:=bx (show(w.heap.size+1<Xs.heap.size/\w.heap.size+1≠w.heap.size+1+1+1/\w.heap.size+1≠w.heap.size+1+1+1+1)/\(YK.heap.size+1<Xs.heap.size/\YK.heap.size+1≠w.heap.size+1+1+1/\YK.heap.size+1≠w.heap.size+1+1+1+1)/\(YK.heap.size<Xs.heap.size/\YK.heap.size≠w.heap.size+1+1+1/\YK.heap.size≠w.heap.size+1+1+1+1)/\(QM<Xs.heap.size/\QM≠w.heap.size+1+1+1/\QM≠w.heap.size+1+1+1+1)/\(Ta<Xs.heap.size/\Ta≠w.heap.size+1+1+1/\Ta≠w.heap.size+1+1+1+1)from
   ⟨ZX _ (by omega) (by omega),ZX _ (by omega) (by omega),ZX _ (by omega) (by omega),ZX _ (by omega) (by omega),ZX _ (by omega) (by omega)⟩)
  have abv:=bx acF;have Bs:=bx ME;have i8:=bx hJ;have RF:=bx (wK CE.o);have anG:=bx vb;have ER:=bx (ZK.o.below XW.o);have afU:w.heap.size+1+1+1+1+1<=Xs.heap.size:=by omega
  have vQ:=bx ahu;have Wg:=bx Rs;have iM:=bx af0;unfold maxLen at axD;clear ahu Rs af0 vb FN CS axL axM Fq Us ahb axk lw acF ME hJ ZX acM jM aqw aoG tG tU Nc aqG afO apK apb ahn aho axE kr agt LI Vo JD;refine(wpIn_wide (n:=9)).1 (vh (α:=Nat) (gf:=277) (lb:=#[Zn (YK.heap.size+1),Zn (YK.heap.size)]) rfl (enters_of func277 (by kernel_rfl) rfl)
   (encs:=λx:Nat=>#[Z9 x,Z9 (Fu TO M.2 x)]) (own:=λ_=>False) (keep:=λk=>k<Xs.heap.size/\k≠w.heap.size+1+1+1/\k≠w.heap.size+1+1+1+1) (ok:=λZC x=>x=ZC.length+1/\x<L.length) (S:=λxs _=>xs=IS L.length (L.length+1))
   (λk Z3=>by rcases Z3 with h|h;exact h.elim;exact h.1)
   (λYH ZM=>arZ 7 _ (w.heap.size+1) (YK.heap.size+1) YK.heap.size QM 0 Tk Ta HV XG L.length L.length (some ⟨kg,0,none⟩) (.slice no M.1.length V5) (.slice ro R.length rc) TO M.2 iM.o ⟨by rw[iM.o];exact gy.1,gy.2⟩ ⟨axC,by omega⟩ (by omega) anG.o Ze.o _ YH
    (abv.o.same (K:=λk=>k<Xs.heap.size) ⟨Ze.o.1.1,Ze.o.2.1.1,Ze.o.2.2.1.1,Ze.o.2.2.2.1.1,Ze.o.2.2.2.2.1⟩ (λk Z3=>ZM.block k Z3 (λh=>h))))
   (λ_=>rfl)
   (λZC W=>(∃v,Zv W (w.heap.size+1+1+1+1) 22 #[v]/\W.ownsRow (w.heap.size+1+1+1) 3 1 v ((ZC.filter (cutAt R M Zj L)).length+1) (D2 (0::ZC.filter (cutAt R M Zj L)))/\∀g,v.ownBlock=some g->g=w.heap.size+1+1+1\/Xs.heap.size+2<=g)/\Turns (λk=>k=w.heap.size+1+1+1\/k=w.heap.size+1+1+1+1) Xs W)
   (λ_ _ _=>False) ?UW (λ_ _ _ _ h _=>h) ⟨⟨_,s8.o,Bs.o,λg ZH=>by cases ZH;exact .inl rfl⟩,Turns.refl _ _⟩
   (λx a1 _=>a1={tmps:=#[Value.slice ro R.length rc,Value.agg #[Value.slice no M.fst.length V5,Value.slice (some ⟨Ta,HV,none⟩) M.snd.length XG],Value.int IntKind.i64 (Zj:Int),Value.slice lo L.length lc,undef,Value.pointer (some ⟨w.heap.size,0,none⟩),undef,undef,Value.slice none 0 0,Value.int IntKind.i64 0,Value.pointer (some ⟨w.heap.size+1+1,0,none⟩),Value.pointer (some ⟨w.heap.size+1+1+1+1,0,none⟩),Value.slice (some ⟨QM,0,none⟩) (L.length+1) Tk,Z9 (x:Int),Z9 (Fu TO M.2 x),Value.agg #[Value.slice no M.fst.length V5,Value.slice (some ⟨Ta,HV,none⟩) M.snd.length XG],Value.slice ro R.length rc,Value.agg #[Value.slice no M.fst.length V5,Value.slice (some ⟨Ta,HV,none⟩) M.snd.length XG,Value.slice ro R.length rc,Value.slice none 0 0],Value.pointer (some ⟨w.heap.size+1,0,none⟩),Value.slice (some ⟨w.heap.size+1+1+1,0,none⟩) 1 1,Value.slice ro R.length rc,Value.int IntKind.i64 (Zj:Int),Value.bool true,Value.bool false,Value.bool false,Value.agg #[Value.slice no M.fst.length V5,Value.slice (some ⟨Ta,HV,none⟩) M.snd.length XG],Value.int IntKind.i64 (Zj:Int),Value.bool true,Value.bool false,Value.bool false,Value.bool false,Value.pointer (some ⟨w.heap.size+1,0,none⟩),Value.pointer (some ⟨w.heap.size+1,0,none⟩),Value.pointer (some ⟨w.heap.size+1,0,none⟩),Value.pointer (some ⟨w.heap.size+1,1,none⟩),Value.slice (some ⟨Ta,HV,none⟩) M.snd.length XG,Value.slice ro R.length rc,Value.bool true,Value.bool false,Value.bool false,u40,u41,u42,u43,u44,u45,Value.tuple #[Value.slice (some ⟨QM,0,none⟩) (L.length+1) Tk,Value.int IntKind.i64 0],Value.agg #[Value.slice no M.fst.length V5,Value.slice (some ⟨Ta,HV,none⟩) M.snd.length XG],Value.int IntKind.i64 (Zj:Int),Value.slice lo L.length lc,Value.tuple #[Value.slice (some ⟨QM,0,none⟩) (L.length+1) Tk,Value.int IntKind.i64 0],Value.slice (some ⟨QM,0,none⟩) (L.length+1) Tk,Value.int IntKind.i64 0,Value.pointer (some ⟨w.heap.size+1,0,none⟩),Value.slice (some ⟨QM,0,none⟩) (L.length+1) Tk,Value.func (Fn.func 277) #[] #[Value.pointer (some ⟨YK.heap.size+1,0,none⟩),Value.pointer (some ⟨YK.heap.size,0,none⟩)],Z9 (x:Int),Z9 (Fu TO M.2 x),undef,undef,undef,undef,undef,undef,undef,undef,undef,undef,undef,undef,undef,undef,undef,undef,undef,undef,undef],defers:=[]})
   (λ_ _ _ _ h _=>h) ?assign ?body ?done (λ_ _ _ _ h _=>h.elim) (λ_ _ _ h _=>h))
  case UW=>
   rintro ZC W W' ⟨⟨v,Z7,Z5,ZS⟩,ZG⟩ ZM;have Zi:Turns (λk=>k=w.heap.size+1+1+1\/k=w.heap.size+1+1+1+1\/k=Xs.heap.size+1) Xs W':=(ZG.mono λk Z3=>by
    rcases Z3 with h|h
    ·exact .inl h
    ·exact .inr (.inl h)).trans (ZM.mono λk Z3=>by
    rcases Z3 with h|h
    ·exact h.elim
    exact .inr (.inr h))
   exact⟨⟨v,ZM.blk Z7 (by rintro(h|h);exact h;omega),ZM.row Z5 (λk Z3=>by have:=ZS k Z3;rintro(h|h);exact h;omega),ZS⟩,Zi.narrow λk Z3 hl=>by
    rcases Z3 with h|h|h
    ·exact .inl h
    ·exact .inr h
    omega⟩
  case assign=>
   intro x W K _ Xc
   gi_wp2
   exact Xc _ _ (Turns.refl _ _) rfl
  case body=>
   rintro ZC x a1 W Yj ⟨⟨v,Z7,Z5,ZS⟩,ZG⟩ ⟨Z4,Ik⟩ rfl;obtain⟨f0,f1⟩:0<=Fu TO M.2 x/\Fu TO M.2 x<1099511627776:=by
    rw[MW.o x (by omega)];unfold Jn
    cases Zs:M.2[stM Zj M L x]? with
    |none=>rw[Rl,Zs];simp
    |some y=>rw[Rl,Zs];exact RF.o y (Xh Zs)
   obtain⟨xU,qI⟩:=PY f0;have TL:xU<1099511627776:=by omega
   have Cl:=bx (show cutAt R M Zj L x=G.c0 R (D.cuts Zj L) xU (x:Int) by
    unfold cutAt;rw[<-MW.o x (by omega),qI,RU])
   rw[qI];have SP:∀k,k<Xs.heap.size/\k≠w.heap.size+1+1+1/\k≠w.heap.size+1+1+1+1->W.heap[k]?=Xs.heap[k]?:=λk Z3=>ZG.block k Z3.1 (λe=>by rcases e with e|e;exact Z3.2.1 e;exact Z3.2.2 e)
   have PI:∀k t cs,k<Xs.heap.size/\k≠w.heap.size+1+1+1/\k≠w.heap.size+1+1+1+1->Zv Xs k t cs->Zv W k t cs:=λk t cs Z3 Z8=>(SP k Z3).trans Z8
   have azN:w.heap.size+1+1+1<=Xs.heap.size:=by omega
   have afQ:Z6 w W:=XW.o.trans (ZG.below XW.o.size (λk Z3=>by omega));have aiu:=bx ((callsIn_wide (n:=9-1-1-1)).2 (aqA (w.heap.size+1) (.slice no M.1.length V5) (.slice (some ⟨Ta,HV,none⟩) M.2.length XG) (.slice ro R.length rc) (.slice (some ⟨kg,0,none⟩) L.length L.length) R (D.cuts Zj L) (x:Int) xU W
    (PI _ _ _ Ze.o.1 abv.o.c) (ZK.o.below afQ)
    (by
     have Z8:=PI kg _ _ ⟨i8.o.2,iA.o kg (.inr (.inr i8.o.1))⟩ iz.o;have hl:(D.cuts Zj L).length=L.length:=by unfold D.cuts;rw[X4]
     have:=atp Z8 (by rw[hl];omega)
     rwa[hl]at this) Yt.o (by unfold D.cuts;rw[X4];exact F9) TL nW))
   have c2:=(PI (w.heap.size+1+1) _ _ ⟨by omega,by omega,by omega⟩ Np.o).q0;have Zu:=Z5.lt;have axj:=ZG.size;have TK:(ZC.filter (cutAt R M Zj L)).length<1000000:=by
    have:=List.length_filter_le (cutAt R M Zj L) ZC;omega
   have YD:=bx Z4;have H1:=bx Z7;have U5:=bx Z5;have Q3:=bx ZS;have Nq:=bx ZG;have ayn:=bx Zu;have ayD:=bx qI;clear Z7 Z5 ZS ZG Z4 qI f0 f1 SP PI afQ Zu
   gi_wp2
   refine⟨trivial,aiu.o.mono ?_⟩;rintro e YL ⟨rfl,Yf⟩;rw[<-Cl.o];have Ye:=bx Yf;have azg:=Yf.size;clear c2 Yf
   cases Kf:cutAt R M Zj L x with
   |false=>
    have m9:=bx (show(ZC++[x]).filter (cutAt R M Zj L)=ZC.filter (cutAt R M Zj L) by rw[List.filter_append];simp[Kf]);clear Kf
    gi_wp2
    have DM:Turns (λ_=>False) W YL:=Turns.of_below Ye.o;refine⟨Holds.cA (own:=λk=>(k<Xs.heap.size/\k≠w.heap.size+1+1+1/\k≠w.heap.size+1+1+1+1)\/k=Xs.heap.size+1\/k=Xs.heap.size) DM (λk Z3=>by omega) (λk Z3 h=>h),⟨v,DM.blk H1.o (λh=>h),?_,Q3.o⟩,Nq.o.trans (DM.mono λ_ h=>h.elim)⟩;rw[m9.o];exact DM.row U5.o (λ_ _ h=>h)
   |true=>
    have m9:=bx (show(ZC++[x]).filter (cutAt R M Zj L)=ZC.filter (cutAt R M Zj L)++[x] by rw[List.filter_append];simp[Kf]);have S6:=bx (nz (0::ZC.filter (cutAt R M Zj L)) x);clear Kf;have DM:Turns (λ_=>False) W YL:=Turns.of_below Ye.o;have pF:=DM.row U5.o (λ_ _ h=>h);have ru:=DM.blk H1.o (λh=>h);have ZL:=ru.q0;have Yz:=ru.frozen 0;obtain⟨i0,hi,Vs,Up,Vf⟩:=info_parts sw;have Q7:=bx (show v.ownBlock≠some (w.heap.size+1+1+1+1)from λe=>by rcases Q3.o _ e with h|h <;> omega);have ZN:=bx ru;have Jk:=bx pF;have Gi:=bx DM;have ET:=bx pF.lt;obtain⟨Tv,Wr,rfl⟩:=ownsRow_succ pF;clear pF ru DM
    gi_wp2_with (gi_at_builtin;refine wpListIn_append_own_at _ rfl _ _ 22 rfl (w.heap.size+1+1+1) 3 i0 (Z9 0) 1 8 underlying22 hi Vs Up Vf rfl (by decide) (.slice (some ⟨Tv,0,none⟩) ((ZC.filter (cutAt R M Zj L)).length+1) Wr) _ _ rfl (Jk.o.alloc _) ⟨YL.heap.size,0,none⟩ 1 1 [Z9 (x:Int)] rfl rfl (cell_one_new _ _ _) (by simp[Value.oneCell']) (by unfold maxLen;omega) (by omega) (by simp;omega) ?_;intro Zy ZV Tf UN _ MK;obtain⟨Ui,cap',rfl⟩:=ownsRow_succ Tf;have WV:=(ZN.o.alloc _).grown UN (Ne.symm Q7.o);have W2:=WV.cell 0;have MH:=WV.frozen 0;simp at W2)
    have K6:Ui=Tv\/Ui=YL.heap.size+1:=by
     rcases MK with h|h
     ·left;simpa[Value.ownBlock]using h
     right;simpa[Value.ownBlock]using h
    have pI:=Q3.o Tv rfl;have mI:=(ET.o Tv rfl).2;have Yo:Turns (λk=>k=Tv\/k=w.heap.size+1+1+1+1) W (ZV.setCell ⟨w.heap.size+1+1+1+1,0,none⟩ (.slice (some ⟨Ui,0,none⟩) ((ZC.filter (cutAt R M Zj L)).length+1+1) cap')):=
     (((Gi.o.mono λ_ h=>h.elim).trans (Turns.alloc YL _)).trans (CH UN (λk Z3=>.inl (by simpa[Value.ownBlock]using Z3.symm)))).trans (Turns.setCell _ (.inr rfl) _)
    refine⟨Holds.cA (own:=λk=>(k<Xs.heap.size/\k≠w.heap.size+1+1+1/\k≠w.heap.size+1+1+1+1)\/k=Xs.heap.size+1\/k=Xs.heap.size) Yo (λk Z3=>by omega) (λk Z3 h=>by omega),⟨_,WV.ai 0 _,?_,λg ZH=>?_⟩,(Nq.o.mono (own':=λk=>k=w.heap.size+1+1+1\/k=w.heap.size+1+1+1+1\/k=Tv) (λk Z3=>by omega)).trans (Yo.mono (λk Z3=>by omega)) |>.narrow (λk Z3 hl=>by omega)⟩
    ·rw[m9.o,<-SI,S6.o];have:=(Turns.setCell (own:=λk=>k=w.heap.size+1+1+1+1) ZV (p:=⟨w.heap.size+1+1+1+1,0,none⟩) rfl (.slice (some ⟨Ui,0,none⟩) ((ZC.filter (cutAt R M Zj L)).length+1+1) cap')).row Tf (λk Z3=>by simp[Value.ownBlock]at Z3;omega)
     simpa using this
    have:g=Ui:=by simpa[Value.ownBlock]using ZH.symm
    omega
  case done=>
   intro xs W Yj hS ⟨⟨v,Z7,Z5,ZS⟩,ZG⟩ XU;have CV:xs.filter (cutAt R M Zj L)=Fe R M Zj L (L.length-1):=by
    rw[hS];unfold IS Fe;rw[show min (L.length+1-1) (L.length-1)=L.length-1 by omega]
   rw[CV]at Z5;obtain⟨Q,VI⟩:∃Q,Fe R M Zj L (L.length-1)=Q:=⟨_,rfl⟩
   have afZ:Q.length<=900:=by
    rw[<-VI];unfold Fe;have:=List.length_filter_le (cutAt R M Zj L) ((List.range (L.length-1)).map (·+1));simp only[X4,Bz]at this;omega
   rw[VI]at Z5;have TJ:=bx (show KI R M Zj L=(0::Q).map (λn:Nat=>(n:Int))++if 0<L.length then[(L.length:Int)]else[] by unfold KI;rw[VI]);have YV:=Z7.q0;have X2:=Z7.frozen 0;have YJ:=Z7.lt;have Zu:=Z5.lt;have axj:=ZG.size;have H1:=bx Z7;have U5:=bx Z5;have Q3:=bx ZS;have Nq:=bx ZG;have Bt:=bx XU;have ET:=bx Zu;have GU:=bx (show Z6 w W from XW.o.trans (ZG.below XW.o.size (λk Z3=>by omega)));clear Z7 Z5 ZS ZG XU Zu CV VI hS
   by_cases ZI:0<L.length
   ·obtain⟨i0,hi,Vs,Up,Vf⟩:=info_parts sw;have Q7:=bx (show v.ownBlock≠some (w.heap.size+1+1+1+1)from λe=>by rcases Q3.o _ e with h|h <;> omega);obtain⟨Tv,Wr,rfl⟩:=ownsRow_succ U5.o;go_wp2_with (at_builtin;refine wpList_append_own_at _ rfl _ _ 22 rfl (w.heap.size+1+1+1) 3 i0 (Z9 0) 1 8 underlying22 hi Vs Up Vf rfl (by decide) (.slice (some ⟨Tv,0,none⟩) (Q.length+1) Wr) _ _ rfl (U5.o.alloc _) ⟨W.heap.size,0,none⟩ 1 1 [Z9 (L.length:Int)] rfl rfl (cell_one_new _ _ _) (by simp[Value.oneCell']) (by unfold maxLen;omega) (by omega) (by simp;omega) ?_;intro Zy ZV Tf UN _ MK;obtain⟨Ui,cap',rfl⟩:=ownsRow_succ Tf;have WV:=(H1.o.alloc _).grown UN (Ne.symm Q7.o);have W2:=WV.cell 0;have MH:=WV.frozen 0;have Sv:=WV.lt;simp at W2)
    rw[Jq];have K6:Ui=Tv\/Ui=W.heap.size+1:=by
     rcases MK with h|h
     ·left;simpa[Value.ownBlock]using h
     right;simpa[Value.ownBlock]using h
    have pI:=Q3.o Tv rfl;have mI:=(ET.o Tv rfl).2;have Yo:Turns (λk=>k=Tv\/k=w.heap.size+1+1+1+1) W (ZV.setCell ⟨w.heap.size+1+1+1+1,0,none⟩ (.slice (some ⟨Ui,0,none⟩) (Q.length+1+1) cap')):=
     ((Turns.alloc W _).trans (CH UN (λk Z3=>.inl (by simpa[Value.ownBlock]using Z3.symm)))).trans (Turns.setCell _ (.inr rfl) _)
    have hf:=(Turns.setCell (own:=λk=>k=w.heap.size+1+1+1+1) ZV (p:=⟨w.heap.size+1+1+1+1,0,none⟩) rfl (.slice (some ⟨Ui,0,none⟩) (Q.length+1+1) cap')).row Tf (λk Z3=>by simp[Value.ownBlock]at Z3;omega);have kE:=GU.o.trans (Yo.below GU.o.size (λk Z3=>by omega));generalize hWf:ZV.setCell ⟨w.heap.size+1+1+1+1,0,none⟩ (.slice (some ⟨Ui,0,none⟩) (Q.length+1+1) cap')=Wf at Yo hf kE⊢;have awJ:=(Yo.block Xs.heap.size (by omega) (by omega)).trans Bt.o;refine⟨by simp,.inl ⟨_,_,rfl,run_takeDeferred awJ,?_⟩⟩;refine⟨_,results_tmp2 rfl _ _ _,?_⟩;have GE:=Turns.putObj (own:=λk=>k=Xs.heap.size) Wf rfl (.deferred none);have vr:=GE.row hf (λk Z3=>by simp[Value.ownBlock]at Z3;omega);refine⟨⟨.slice (some ⟨Ui,0,none⟩) (Q.length+1+1) cap',rfl,?_,λg ZH=>XJ (by omega) (vr.lt g ZH).1⟩,kE.trans (GE.below kE.size (λk Z3=>by omega))⟩;rw[RU Zj,TJ.o,Y0 ZI];refine Y6.au (n:=Q.length+1+1) (T:=3) (base:=w.heap.size+1+1+1) ?_ (by simp);have e:((0::Q).map (λn:Nat=>(n:Int))++[(L.length:Int)]).map (Value.int .i64)=D2 (0::Q)++[Z9 (L.length:Int)]:=by
     unfold D2;rw[T9,IZ]
     rfl
    rw[e];exact vr
   obtain⟨Tv,Wr,rfl⟩:=ownsRow_succ U5.o;go_wp2_with fail;rw[Jq];have pI:=Q3.o Tv rfl;refine⟨by simp,.inl ⟨_,_,rfl,run_takeDeferred Bt.o,?_⟩⟩;refine⟨_,results_tmp2 rfl _ _ _,?_⟩;have GE:=Turns.putObj (own:=λk=>k=Xs.heap.size) W rfl (.deferred none);have vr:=GE.row U5.o (λk Z3=>by simp[Value.ownBlock]at Z3;omega);refine⟨⟨.slice (some ⟨Tv,0,none⟩) (Q.length+1) Wr,rfl,?_,λg ZH=>XJ (by omega) (vr.lt g ZH).1⟩,GU.o.trans (GE.below GU.o.size (λk Z3=>by omega))⟩;rw[RU Zj,TJ.o,Y4 ZI,L3];exact mJ vr (by simp)
theorem au4(A:Nat->Addr)(B:Nat)(Y2:Value)(R:List D.Rule)(Rq:Value)(M:D.ao)(n:Int)(Zc:Value)(L:List Int)(w:World)(WS:TQ w Y2 R)(Yz:∀x∈R,Mv x)(KB:R.length<=16777216)(Xv:Oh w Rq M)(MZ:JV M)(WE:Y6 w Zc L)(F9:L.length<=900)(XU:Ed A B w)(YN:Eg A B w)(hB:B<=w.heap.size)(I4:OI R M n=true):
  Calls prog 124 #[Y2,Rq,Z9 n,Zc] w λe w'=>(∃v,e=.returned (.tuple #[v,Z9 0])/\Y6 w' v (KI R M n.toNat L))/\Z6 w w' :=
 (ad2 A B Y2 R Rq M n Zc L w WS Yz KB Xv MZ WE F9 XU YN hB I4).mono λ_ _ ⟨⟨v,Z7,Z5,_⟩,ZS⟩=>⟨⟨v,Z7,Z5⟩,ZS⟩
theorem aoa(A:Nat->Addr)(B:Nat)(Y2:Value)(R:List D.Rule)(Rq:Value)(M:D.ao)(n:Int)(Zc:Value)(L:List Int)(w:World)(WS:TQ w Y2 R)(Yz:∀x∈R,Mv x)(KB:R.length<=16777216)(Xv:Oh w Rq M)(MZ:JV M)(WE:Y6 w Zc L)(F9:L.length<=900)(XU:Ed A B w)(YN:Eg A B w)(hB:B<=w.heap.size):
  Calls prog 124 #[Y2,Rq,Z9 n,Zc] w (gv R M n L w):=by
 cases h:OI R M n with
 |true=>
  refine(au4 A B Y2 R Rq M n Zc L w WS Yz KB Xv MZ WE F9 XU YN hB h).mono ?_;rintro e w' ⟨Z7,Z5⟩;exact⟨Z5,.inl ⟨h,Z7⟩⟩
 |false=>
  refine(apH A B Y2 R Rq M n Zc L w WS Yz KB Xv MZ WE F9 XU YN hB h).mono ?_;rintro e w' ⟨Z7,Z5⟩;exact⟨Z5,.inr ⟨h,Z7⟩⟩
end
namespace N
def aP(x:Item)(cs:List Int)(F:List Bool):Nat->Bool×Bool
 |0=>(false,false)
 |i+1=>
  let WN:=(aP x cs F i).1||(F.getD i false&&decide (x.2≠0))
  if aV x.1 (cs.getD i (-1))=true then(if x.2=0 then(F.getD i false,false)else if x.2=1 then(WN,false)else((aP x cs F i).2,WN))else(false,false)
def bg(x:Item)(cs:List Int)(F:List Bool)(i:Nat):Bool:=(aP x cs F i).1||(F.getD i false&&decide (x.2≠0))
def cp(x:Item)(cs:List Int)(F:List Bool):List Bool:=(List.range (cs.length+1)).map (bg x cs F)
def bQ(cs:List Int):List Item->List Bool->List Bool
 |[],F=>F
 |x::t,F=>bQ cs t (cp x cs F)
theorem eA(x:Item)(cs:List Int)(F:List Bool):(cp x cs F).length=cs.length+1:=by simp[cp]
theorem aq4{x:Item}{cs:List Int}{F:List Bool}{i:Nat}(_:i<=cs.length):(cp x cs F).getD i false=bg x cs F i:=by
 grind[cp]
theorem fq{cs:List Int}:∀{l:List Item}{F:List Bool},F.length=cs.length+1->(bQ cs l F).length=cs.length+1
 |[],_,h=>h
 |x::t,F,_=>by
  show(bQ cs t (cp x cs F)).length=_
  exact fq (eA x cs F)
theorem adP(cs:List Int)(y:Item):∀(l:List Item)(F:List Bool),bQ cs (l++[y]) F=cp y cs (bQ cs l F)
 |[],_=>rfl
 |_::t,_=>adP cs y t _
theorem ajX{l:List Item}{cs:List Int}{k i:Nat}(hi:i<cs.length):w6 l cs k i↔aV (l.getD k (0,0)).1 (cs.getD i (-1))=true:=by
 unfold w6;rw[Rl (l:=cs),SA hi]
 constructor
 ·rintro⟨c,ZL,h⟩;injection ZL with ZL;rw[ZL];exact h
 intro h;exact⟨_,rfl,h⟩
theorem gX{l:List Item}{cs:List Int}{k:Nat}{F:List Bool}(Uy:aJ l k=0\/aJ l k=1\/aJ l k=2):
  ∀i,i<=cs.length->((aP (l.getD k (0,0)) cs F i).1=true↔∃b,b<i/\F.getD b false=true/\full l cs k b i)/\((aP (l.getD k (0,0)) cs F i).2=true↔aJ l k=2/\∃b,b<i/\F.getD b false=true/\wN l cs k b i/\(i-b)%2=1)
 |0,_=>by
  simp[aP]
 |i+1,hi=>by
  obtain⟨axv,axw⟩:=gX (cs:=cs) (F:=F) Uy i (by omega);have YB:=ajX (l:=l) (cs:=cs) (k:=k) (show i<cs.length by omega);have EI:bg (l.getD k (0,0)) cs F i=true↔∃b,b<=i/\F.getD b false=true/\full l cs k b i:=by
   unfold bg;rw[Bool.or_eq_true,axv,Vm,SS]
   constructor
   ·rintro(⟨b,Z7,Z5,ZS⟩|⟨Z7,Z5⟩)
    ·grind
    exact⟨i,Wq _,Z7,Wq _,λj ZS ZG=>by omega,λh=>absurd h Z5,λ_=>by simp⟩
   rintro⟨b,Z7,Z5,ZS⟩
   rcases Nat.eq_or_lt_of_le Z7 with e|e
   ·subst e;refine .inr ⟨Z5,λZI=>?_⟩;have:=ZS.2.2.1 ZI;omega
   grind
  have xC:∀b,b<=i->(wN l cs k b (i+1)↔wN l cs k b i/\w6 l cs k i):=λb Z8=>
   ⟨λh=>⟨λj Z7 Z5=>h j Z7 (by omega),h i Z8 (by omega)⟩,λ⟨h,TB⟩ j Z7 Z5=>by
    rcases Nat.eq_or_lt_of_le (show j<=i by omega)with e|e
    ·grind
    exact h j Z7 e⟩
  have ayz:(l.getD k (0,0)).2=aJ l k:=rfl;have e:aP (l.getD k (0,0)) cs F (i+1)=if aV (l.getD k (0,0)).1 (cs.getD i (-1))=true then(if aJ l k=0 then(F.getD i false,false)else if aJ l k=1 then(bg (l.getD k (0,0)) cs F i,false)else((aP (l.getD k (0,0)) cs F i).2,bg (l.getD k (0,0)) cs F i))else(false,false):=rfl
  rw[e]
  by_cases ZL:aV (l.getD k (0,0)).1 (cs.getD i (-1))=true
  rotate_left
  ·rw[Y4 ZL];have XF:¬w6 l cs k i:=λh=>ZL (YB.1 h)
   refine⟨⟨λh=>absurd h Bool.false_ne_true,λ⟨b,Z7,_,ZS⟩=>absurd (ZS.2.1 i (by omega) (by omega)) XF⟩,⟨λh=>absurd h Bool.false_ne_true,λ⟨_,b,Z7,_,ZS,_⟩=>absurd (ZS i (by omega) (by omega)) XF⟩⟩
  rw[Y0 ZL];have I4:=YB.2 ZL
  rcases Uy with ZI|Z7|Z5
  ·rw[Y0 ZI];refine⟨⟨λh=>⟨i,by omega,h,by omega,λj ZS ZG=>?_,λ_=>rfl,λh=>by omega⟩,λ⟨b,ZS,ZG,Zi⟩=>?_⟩,⟨λh=>absurd h Bool.false_ne_true,λ⟨h,_⟩=>by omega⟩⟩
   ·grind
   have:=Zi.2.2.1 ZI;grind
  ·rw[Y4 (by omega),Y0 Z7];refine⟨?_,⟨λh=>absurd h Bool.false_ne_true,λ⟨h,_⟩=>by omega⟩⟩;rw[EI]
   constructor
   ·rintro⟨b,ZS,ZG,Zi⟩;exact⟨b,by omega,ZG,by omega,(xC b ZS).2 ⟨Zi.2.1,I4⟩,λh=>by omega,λh=>by omega⟩
   rintro⟨b,ZS,ZG,Zi⟩;exact⟨b,by omega,ZG,by omega,((xC b (by omega)).1 Zi.2.1).1,λh=>by omega,λh=>by omega⟩
  rw[Y4 (by omega),Y4 (by omega)];refine⟨?_,?_⟩
  ·rw[axw]
   constructor
   ·rintro⟨-,b,ZS,ZG,Zi,Yu⟩;exact⟨b,by omega,ZG,by omega,(xC b (by omega)).2 ⟨Zi,I4⟩,λh=>by omega,λ_=>by omega⟩
   rintro⟨b,ZS,ZG,Zi⟩;have hp:=Zi.2.2.2 Z5;refine⟨Z5,b,by omega,ZG,((xC b (by omega)).1 Zi.2.1).1,by omega⟩
  rw[EI]
  constructor
  ·rintro⟨b,ZS,ZG,Zi⟩;have hp:=Zi.2.2.2 Z5;exact⟨Z5,b,by omega,ZG,(xC b ZS).2 ⟨Zi.2.1,I4⟩,by omega⟩
  rintro⟨-,b,ZS,ZG,Zi,Yu⟩;exact⟨b,by omega,ZG,by omega,((xC b (by omega)).1 Zi).1,λh=>by omega,λ_=>by omega⟩
theorem anr{l:List Item}{cs:List Int}{k:Nat}{F:List Bool}(Uy:aJ l k=0\/aJ l k=1\/aJ l k=2){i:Nat}(hi:i<=cs.length):
  bg (l.getD k (0,0)) cs F i=true↔∃b,b<=i/\F.getD b false=true/\full l cs k b i:=by
 unfold bg;rw[Bool.or_eq_true,(gX (F:=F) Uy i hi).1,Vm,SS]
 constructor
 ·rintro(⟨b,Z7,Z5,ZS⟩|⟨Z7,Z5⟩)
  ·grind
  exact⟨i,Wq _,Z7,Wq _,λ_ ZS _=>by omega,λh=>absurd h Z5,λ_=>by simp⟩
 rintro⟨b,Z7,Z5,ZS⟩
 rcases Nat.eq_or_lt_of_le Z7 with e|e
 ·subst e;refine .inr ⟨Z5,λZI=>?_⟩;have:=ZS.2.2.1 ZI;omega
 grind
def b2(n p:Nat):List Bool:=(List.range n).map λi=>i==p
theorem dP(n p:Nat):(b2 n p).length=n:=by simp[b2]
theorem auG{n p i:Nat}(_:i<n):(b2 n p).getD i false=(i==p):=by
 grind[b2]
theorem fF{l:List Item}{cs:List Int}(Uy:∀i,aJ l i=0\/aJ l i=1\/aJ l i=2){p:Nat}(hp:p<=cs.length):
  ∀k,k<=l.length->∀i,i<=cs.length->((bQ cs (l.take k) (b2 (cs.length+1) p)).getD i false=true↔Ends l cs k p i)
 |0,_,i,hi=>by
  rw[J3,bQ,auG (by omega),Lz];rfl
 |k+1,Z3,i,hi=>by
  have XZ:=fF (cs:=cs) Uy hp k (by omega);have Z4:l[k]?=some (l.getD k (0,0)):=by
   grind
  have ZM:l.take (k+1)=l.take k++[l.getD k (0,0)]:=by
   rw[Uo,Z4]
   rfl
  rw[ZM,adP,aq4 hi,anr (Uy k) hi]
  constructor
  ·rintro⟨b,Z7,Z5,ZS⟩;exact⟨b,(XZ b (by omega)).1 Z5,ZS⟩
  rintro⟨b,Z7,Z5⟩;exact⟨b,Z5.1,(XZ b (by have:=Z5.1;omega)).2 Z7,Z5⟩
theorem Ends.top{l:List Item}{cs:List Int}:∀{i f a:Nat},f<=cs.length->Ends l cs i f a->a<=cs.length
 |0,f,a,Yz,h=>by grind[Ends]
 |i+1,f,a,Yz,h=>by
  obtain⟨b,Z7,Z5⟩:=h;have Z8:=Z7.top Yz
  rcases Nat.eq_or_lt_of_le Z5.1 with e|e
  ·omega
  obtain⟨c,ZL,-⟩:=Z5.2.1 (a-1) (by omega) (by omega);grind
end N
def IL(st:Bool)(l:List N.Item)(cs:List Int)(p:Int):Bool:=
 Ss l&&decide (0<=p)&&decide (p<=cs.length)&&!(st&&decide (0<p))&&(N.bQ cs l (N.b2 (cs.length+1) p.toNat)).any id
theorem ajL(st:Bool)(l:List N.Item)(cs:List Int)(p:Int):IL st l cs p=NQ st l cs p:=by
 unfold IL NQ
 cases ZT:Ss l with
 |false=>rfl
 |true=>
  by_cases ZI:0<=p/\p<=cs.length
  rotate_left
  ·grind
  obtain⟨n,rfl⟩:=PY ZI.1;have ZP:n<=cs.length:=by omega
  congr 1
  rw[RU,Lx,SS,NS];have hi:=N.fF (l:=l) (cs:=cs) (mf ZT) ZP l.length Ys;have YT:=afq (l:=l) (cs:=cs) (mf ZT) n l.length Ys;rw[OR]at hi;have Ty:(N.bQ cs l (N.b2 (cs.length+1) n)).length=cs.length+1:=N.fq (N.dP _ _)
  constructor
  ·rintro⟨b,Z8,Zz⟩;obtain⟨i,LK,QZ⟩:=List.getElem_of_mem Z8;have he:=(hi i (by omega)).1 (by grind);have hm:=(YT (i:Int)).2 ⟨i,rfl,he⟩;grind
  intro Ng;obtain⟨b,Z8⟩:=List.exists_mem_of_length_pos Ng;obtain⟨i,rfl,he⟩:=(YT b).1 Z8;have axr:=he.top ZP;have ZH:=(hi i axr).2 he;refine⟨_,List.getElem_mem (l:=N.bQ cs l (N.b2 (cs.length+1) n)) (n:=i) (by omega),?_⟩;grind
