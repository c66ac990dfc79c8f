/- Texts of this claim. -/
import Derived.Test.YtdponihkpomheaaGreatDoorK7
import Derived.Test.YtdponihkpomheaaGreatDoorK15

set_option maxHeartbeats 8000000
set_option maxRecDepth 100000
namespace Go.Proofs.YtdponihkpomheaaGreatDoor
open Go.RowKit
attribute[local go_sem] Oper.semAt_some
open Tryz
theorem au0(v:Value)(xs:List Int)(w:World)(Z2:Y6 w v xs)(ZY:xs.length<=16777216):
  Calls prog 220 #[v] w λe w'=>e=.returned (.bool (T.toB xs))/\w=w':=by
 have Yq:=bx (auj v xs w Z2 ZY);have WO:=bx (w8 (p:=λt:Int=>!U.right t) (q:=U.right) (λ_=>rfl) xs);obtain⟨a,ZU,rfl⟩:=Z2.slice;obtain⟨N,Zp⟩:∃N,xs.length=N:=⟨_,rfl⟩
 rw[Zp]at Yq⊢;have ZE:=bx Zp;generalize xs.any (λt:Int=>!U.right t)=b at Yq WO;clear Z2 Zp
 by_cases h:N<=3
 ·have Zq:decide ((N:Int)<=3)=true:=Yh (by omega);have V3:=bx (show T.toB xs=!b by unfold T.toB;rw[WO.o,ZE.o,Yh h,Bool.true_and]);clear h
  go_in
  go_wp2_with fail;refine YW Yq.o ?_
  go_wp2
  go_ret
  exact⟨YG (by rw[V3.o]),rfl⟩
 have Zq:decide ((N:Int)<=3)=false:=Yp (by omega);have V3:=bx (show T.toB xs=false by unfold T.toB;rw[ZE.o,Yp h,Bool.false_and]);clear h
 go_in
 go_wp2
 go_ret
 exact⟨YG V3.o.symm,rfl⟩
theorem aaD{r:Int}(_:U.right r=true):0<=r:=by
 grind[U.right]
def yx(l:List F.Map)(k:Nat):Int:=if k=0 then -1 else(l.getD (k-1) (0,[])).1
theorem acz(v:Value)(l:List F.Map)(w:World)(Z2:NR w v l)(ZY:l.length<=100000)(G4:∀x∈l,x.2.length<=100000):
  Calls prog 129 #[v] w λe w'=>e=.returned (.bool (T.a8 600 l))/\Z6 w w':=by
 have ZN:=bx Z2;obtain⟨a,ZU,rfl,W2,VM⟩:=Z2.slice;obtain⟨N,Zp⟩:∃N,l.length=N:=⟨_,rfl⟩
 rw[Zp]at ZN ZY W2⊢;have ZE:=bx Zp;have A0:=bx G4;clear Z2 Zp G4
 go_in
 go_wp2_with fail
 go_loopw[8,3] (λi Yr wr=>∃k:Nat,k<=N/\i=Z9 k/\Yr=Z9 (yx l k)/\Box (∀j,j<k->T.bL l j=true)/\Box (Z6 w wr)) (λi _ _=>N-(intOf i).toNat)
 ·exact⟨0,by omega,rfl,rfl,⟨λj h=>by omega⟩,⟨Below.refl _ _⟩⟩
 obtain⟨k,Z3,rfl,rfl,YB,Z8⟩:=hrel
 by_cases Zu:k<N
 ·obtain⟨x,Z4⟩:=Yg l k (by rw[ZE.o];omega);obtain⟨g,off,XV,Y5,XL,Yi,XB,YX⟩:=(ZN.o.below Z8.o).get (by grind);rw[ZE.o]at Y5 XL;obtain⟨rfl,rfl⟩:=XN Y5;obtain⟨Ws,u,XX,hu⟩:=YX k x Z4;obtain⟨By,I1,rfl⟩:=hu.slice;have Uz:l.getD k (0,[])=x:=by grind
  have S5:=bx (show T.bL l k=(U.right x.1&&(decide (k=0)||decide ((l.getD (k-1) (0,[])).1<x.1))&&T.toB x.2) by grind[T.bL]);have PW:=bx (show yx l (k+1)=x.1 by grind[yx]);have B7:=bx (λ(h:T.bL l k=false)=>show T.a8 600 l=false by
   unfold T.a8;rw[T.ev,Js (k:=k) (x:=k) (by grind) h,Bool.false_and])
  have Xx:=bx (λW=>mx x.1 W);have RR:=bx (λW(h:Z6 wr W)=>au0 (.slice By x.2.length I1) x.2 W (hu.below h) (by have:=A0.o x (Xh Z4);omega));have ZW:=bx (Xl wr (.cells #[Z9 x.1,.slice By x.2.length I1] 272));have YA:=bx (bt Z8.o ZW.o);obtain⟨xg,oB⟩:∃xg,yx l k=xg:=⟨_,rfl⟩
  rw[oB];have RP:=bx oB;unfold maxLen at Yi;clear Z4 Y5 YX Uz hu oB
  cases ZT:U.right x.1 with
  |false=>
   rw[ZT]at Xx S5;have Yt:=bx (B7.o (by rw[S5.o];rfl));clear ZT;go_wp2_with fail;refine YW (Xx.o _) ?_
   go_wp2
   go_ret
   exact⟨YG Yt.o.symm,YA.o⟩
  |true=>
   rw[ZT]at Xx S5;have Ng:=aaD ZT
   by_cases T8:xg<x.1
   ·have Zq:decide (x.1<=xg)=false:=Yp (by omega);have wm:=bx (show(decide (k=0)||decide ((l.getD (k-1) (0,[])).1<x.1))=true by
     rcases Bx k with ZI|ZI
     ·grind
     have Z7:=RP.o;grind[yx])
    clear ZT Ng T8
    cases hto:T.toB x.2 with
    |true=>
     rw[hto]at RR S5;have Te:=bx (show∀j,j<k+1->T.bL l j=true from λj YO=>by
      rcases SM j k with Z7|Z7
      ·exact YB.o j Z7
      obtain rfl:j=k:=by omega
      rw[S5.o,wm.o];rfl)
     clear hto;go_wp2_with fail;refine YW (Xx.o _) ?_;go_wp2_with fail;refine YW (RR.o _ ZW.o) ?_
     go_wp2
     go_roundw
     ·exact⟨k+1,Zu,by go_num,by rw[PW.o],Te,YA⟩
     grind[intOf]
    |false=>
     rw[hto]at RR S5;have Yt:=bx (B7.o (by rw[S5.o,Bool.and_false]));clear hto;go_wp2_with fail;refine YW (Xx.o _) ?_;go_wp2_with fail;refine YW (RR.o _ ZW.o) ?_
     go_wp2
     go_ret
     exact⟨YG Yt.o.symm,YA.o⟩
   have Zq:decide (x.1<=xg)=true:=Yh (by omega);have Yt:=bx (B7.o (by
    have Z7:=RP.o;unfold yx at Z7
    by_cases ZI:k=0
    ·omega
    rw[Y4 ZI]at Z7;rw[S5.o,Z7,Yp T8,Yp ZI];rfl))
   clear ZT Ng T8;go_wp2_with fail;refine YW (Xx.o _) ?_
   go_wp2
   go_ret
   exact⟨YG Yt.o.symm,YA.o⟩
 obtain rfl:k=N:=by omega
 have WO:=bx (show T.a8 600 l=decide (k<=600) by
  unfold T.a8;rw[T.ev,ZE.o,show(List.range k).all (T.bL l)=true by rw[QG];exact λj YO=>YB.o j (Ly.1 YO),Bool.true_and])
 go_wp2
 go_ret
 exact⟨YG (by rw[WO.o,Lx];grind),Z8.o⟩
theorem uC(v:Value)(c:T.Cs)(w:World)(Z2:Sq w v c)(Z0:T.Small c):
  Calls prog 65 #[v] w λe w'=>e=.returned (.bool (T.az 600 c))/\Z6 w w':=by
 rw[yu];obtain⟨Zc,YI,ci,YQ,Yw,Yy,rfl,Z7,Z5,ZS,ZG,Zi,Yu⟩:=Z2;have RB:=bx (λW(h:Z6 w W)=>acz Zc c.lo W (Z7.below h) Z0.lo Z0.loA);have Kv:=bx (λW(h:Z6 w W)=>acz YI c.ti W (Z5.below h) Z0.ti Z0.tiA);have NI:=bx (λW(h:Z6 w W)=>uA (.agg #[ci,YQ]) c.ca W ⟨_,_,rfl,ZS.below h,ZG.below h⟩ Z0.c1 Z0.c2 Z0.c3);have Gj:=bx (λW(h:Z6 w W)=>uA (.agg #[Yw,Yy]) c.ig W ⟨_,_,rfl,Zi.below h,Yu.below h⟩ Z0.g1 Z0.g2 Z0.g3);generalize T.a8 600 c.lo=Wx at RB⊢;generalize T.a8 600 c.ti=Xd at Kv⊢;generalize F.aE c.ca=Wk at NI⊢;generalize F.aE c.ig=UY at Gj⊢;obtain⟨V,ZO⟩:∃V,V=w.alloc (.cells #[Zc,YI,ci,YQ,Yw,Yy] 36):=⟨_,rfl⟩
 have ZR:=bx (aB ZO);have Ze:=bx (aK ZO);have ZF:=bx (λW(h:Z6 V W)=>Ze.o.d6 h);have ZN:=bx ZO;clear Z7 Z5 ZS ZG Zi Yu Z0 ZO
 go_in
 go_upto_region 1 with(fail)
 rw[<-ZN.o];obtain⟨Q,VI⟩:∃Q,w.heap.size=Q:=⟨_,rfl⟩
 rw[VI]at ZF⊢;clear VI ZN;have Ox:=bx (Below.refl V.heap.size V);obtain⟨Zd,Zx,Zr,Zk,Zl,Zg,R3⟩:=ZF.o V Ox.o;go_wp2_with fail;refine X7 (RB.o V (bt ZR.o Ox.o)) Ox.o λRM QL=>?_
 clear Zd Zx Zr Zk Zl Zg R3;obtain⟨Zd,Zx,Zr,Zk,Zl,Zg,R3⟩:=ZF.o RM QL.o
 cases Wx with
 |false=>
  go_wp2
  go_ret
  exact⟨YG (by simp),bt ZR.o QL.o⟩
 |true=>
  go_wp2_with fail;refine X7 (Kv.o RM (bt ZR.o QL.o)) QL.o λWe R9=>?_
  clear Zd Zx Zr Zk Zl Zg R3;obtain⟨Zd,Zx,Zr,Zk,Zl,Zg,R3⟩:=ZF.o We R9.o
  cases Xd with
  |false=>
   go_wp2
   go_ret
   exact⟨YG (by simp),bt ZR.o R9.o⟩
  |true=>
   go_wp2_with fail;refine X7 (NI.o We (bt ZR.o R9.o)) R9.o λKn La=>?_
   clear Zd Zx Zr Zk Zl Zg R3;obtain⟨Zd,Zx,Zr,Zk,Zl,Zg,R3⟩:=ZF.o Kn La.o
   cases Wk with
   |false=>
    go_wp2
    go_ret
    exact⟨YG (by simp),bt ZR.o La.o⟩
   |true=>
    go_wp2_with fail;refine X7 (Gj.o Kn (bt ZR.o La.o)) La.o λUZ Fl=>?_
    clear Zd Zx Zr Zk Zl Zg R3;obtain⟨Zd,Zx,Zr,Zk,Zl,Zg,R3⟩:=ZF.o UZ Fl.o
    go_wp2
    go_ret
    exact⟨YG (by simp),bt ZR.o Fl.o⟩
theorem yq{w:World}{ZD bv:Value}{t:F.Trie}(hi:Y6 w ZD t.1)(Z8:TF w bv t.2)(ZM:F.aE t=true)(r:Nat)(_:r<=1114111):
  ∃g off ZU n g2 OP XV g3 J2 Ji,ZD=.slice (some ⟨g,off,none⟩) 4352 ZU/\4352<=ZU/\ZU<=9223372036854775807/\g<w.heap.size/\w.cell? ⟨g,off+r/256,none⟩=some (Z9 (n:Nat))/\n<t.2.length/\
   bv=.slice (some ⟨g2,OP,none⟩) t.2.length XV/\t.2.length<=XV/\XV<=9223372036854775807/\g2<w.heap.size/\w.cell? ⟨g2,OP+n,none⟩=some (.slice (some ⟨g3,J2,none⟩) 256 Ji)/\256<=Ji/\Ji<=9223372036854775807/\g3<w.heap.size/\w.cell? ⟨g3,J2+r%256,none⟩=some (Z9 (F.says t (r:Int))):=by
 rw[F.eL]at ZM;simp only[Vm,SS,QG]at ZM;obtain⟨⟨Z7,Z5⟩,ZS⟩:=ZM;have Zm:r/256<4352:=by omega
 obtain⟨z,ZY⟩:=Yg t.1 (r/256) (by omega);obtain⟨z0,UB⟩:=Z5 z (Xh ZY);obtain⟨n,rfl⟩:=PY z0;have ZP:n<t.2.length:=by omega
 obtain⟨b,uk⟩:=Yg t.2 n ZP;have xQ:=ZS b (Xh uk);unfold F.aR at xQ;rw[Vm,SS]at xQ;obtain⟨y,ZJ⟩:=Yg b (r%256) (by omega);have azp:F.says t (r:Int)=y:=by
  grind[F.says]
 obtain⟨g,off,ZU,a1,a2,a3,a4,a5⟩:=hi.get (by grind);obtain⟨g2,OP,XV,Wx,Xd,Wk,UY,TN⟩:=Z8.get (by grind);obtain⟨x,Z4,TG⟩:=TN n b uk;obtain⟨g3,J2,Ji,c1,c2,c3,VG,Wv⟩:=TG.get (by grind);grind[maxLen]
theorem nO(v:Value)(t:F.Trie)(r:Nat)(w:World)(Z2:Fr w v t)(Z0:t.1.length<=100000/\t.2.length<=100000/\∀r∈t.2,r.length<=16777216)(ZM:F.aE t=true)(ZT:r<=1114111):
  Calls prog 313 #[v,Z9 (r:Int)] w λe w'=>e=.returned (Z9 (F.says t (r:Int)))/\Z6 w w':=by
 obtain⟨ZD,bv,rfl,hi,Z8⟩:=Z2;obtain⟨V,ZO⟩:∃V,V=w.alloc (.cells #[ZD,bv] 25):=⟨_,rfl⟩
 have ZR:=bx (aB ZO);have Ze:=bx (aK ZO);have Vc:=bx (λW(h:Z6 w W)=>show Calls prog 125 #[.agg #[ZD,bv]] W λe w'=>e=.returned (.bool true)/\Z6 W w' by
  have WK:=uA (.agg #[ZD,bv]) t W ⟨ZD,bv,rfl,hi.below h,Z8.below h⟩ Z0.1 Z0.2.1 Z0.2.2;rw[ZM]at WK;exact WK)
 have Lc:=bx (λW(h:Z6 w W)=>yq (hi.below h) (Z8.below h) ZM r ZT);have ZN:=bx ZO;have Zd:=(Ze.o.cell 0).trans (show _=some ZD from rfl);have Zx:=(Ze.o.cell 1).trans (show _=some bv from rfl);have R3:=Ze.o.lt;generalize F.says t (r:Int)=y at Lc⊢;generalize t.2.length=M at Lc;have Wz:decide ((r:Int)<0)=false:=Yp (by omega);have Zq:decide ((1114111:Int)<(r:Int))=false:=Yp (by omega);clear hi Z8 Z0 ZM ZO
 go_in
 go_upto_region 1 with(fail)
 rw[<-ZN.o];go_wp2_with fail;refine Y3 (Vc.o _ ZR.o) λZV ZZ=>?_
 have ZW:=Zw ZR ZZ;obtain⟨g,off,ZU,n,g2,OP,XV,g3,J2,Ji,rfl,a2,a3,a4,a5,P8,rfl,Xd,Wk,UY,TN,c2,c3,VG,Wv⟩:=Lc.o ZV ZW.o;have Z3:=Ze.o.below ZZ Ze.o.lt;have xx:=(Z3.cell 0).trans (show _=some (Value.slice (some ⟨g,off,none⟩) 4352 ZU)from rfl);have FN:=(Z3.cell 1).trans (show _=some (Value.slice (some ⟨g2,OP,none⟩) M XV)from rfl);have pz:=Z3.lt;clear Z3 ZZ Zd Zx R3;obtain⟨d,Zm⟩:∃d,r/256=d:=⟨_,rfl⟩
 obtain⟨q,Zs⟩:∃q,r%256=q:=⟨_,rfl⟩
 have MI:d<4352:=by omega
 have NB:q<256:=by omega
 have xq:(r:Int).tdiv 256=(d:Int):=by grind
 have xp:(r:Int).tmod 256=(q:Int):=by grind
 rw[Zm]at a5;rw[Zs]at Wv;clear Zm Zs;go_wp2_with fail;have W6:=bx (λm=>ZW.o.trans ((Po ZV m).mono ZW.o.size))
 go_quiet (fail)
 go_wp2
 go_ret
 exact⟨rfl,W6.o _⟩
structure Ku(N:Nat)(ns:List Nat):Prop where
 up:∀i,i+1<ns.length->ns.getD i 0<ns.getD (i+1) 0
 le:∀i,i<ns.length->ns.getD i 0<=N
 ne:0<ns.length
 first:ns.getD 0 0=0
 last:ns.getD (ns.length-1) 0=N
theorem alv{ns:List Nat}(h:ns.Pairwise (·<·))(i:Nat)(hi:i+1<ns.length):ns.getD i 0<ns.getD (i+1) 0:=by
 rw[Rl,Rl,SA (by omega),SA hi,OT,OT];exact List.pairwise_iff_getElem.1 h i (i+1) (by omega) hi (by omega)
theorem aky(R:List D.Rule)(M:D.ao)(Zj:Nat)(L:List Int)(k:Nat):(Fe R M Zj L k).Pairwise (·<·)/\∀x∈Fe R M Zj L k,1<=x/\x<=k:=by
 unfold Fe
 constructor
 ·refine List.Pairwise.filter _ ?_;rw[List.pairwise_map];exact List.pairwise_lt_range.imp (λ_=>by omega)
 grind
theorem arG(R:List D.Rule)(M:D.ao)(Zj:Nat)(L:List Int):∃ns:List Nat,KI R M Zj L=ns.map (λn:Nat=>(n:Int))/\Ku L.length ns:=by
 obtain⟨Z7,Z5⟩:=aky R M Zj L (L.length-1);unfold KI;generalize Fe R M Zj L (L.length-1)=m at Z7 Z5
 by_cases ZI:0<L.length
 ·refine⟨(0::m)++[L.length],by grind,?_⟩;have hp:((0::m)++[L.length]).Pairwise (·<·):=by
   rw[List.pairwise_append];refine⟨List.pairwise_cons.2 ⟨λx Z4=>by grind,Z7⟩,List.pairwise_singleton _ _,λx Z4 _ _=>?_⟩;grind
  refine⟨alv hp,λi hi=>?_,by simp,rfl,?_⟩
  ·rw[Rl,SA hi,OT];have hm:=List.getElem_mem hi
   grind
  simp
 have hm:m=[]:=by
  cases m with
  |nil=>rfl
  |cons x t=>have:=Z5 x (Pw ..);omega
 refine⟨[0],by grind,⟨λi hi=>by grind,λi hi=>?_,by simp,rfl,by grind⟩⟩;grind
namespace T
def bu(c:Cs)(l:List Int)(ns:List Nat)(k:Nat):List Int:=(List.range k).flatMap λi=>word c l (ns.getD i 0) (ns.getD (i+1) 0)
theorem e3(c:Cs)(l:List Int)(ns:List Nat)(k:Nat):bu c l ns (k+1)=bu c l ns k++word c l (ns.getD k 0) (ns.getD (k+1) 0):=by
 simp[bu,List.range_succ,List.flatMap_nil]
theorem fa{m:Nat}{c:Cs}(h:az m c=true){l:List Int}(hl:∀x∈l,U.right x=true){ns:List Nat}(ZP:Ku l.length ns):∀k,k+1<=ns.length->Fine (ns.getD k 0) (bu c l ns k)
 |0,_=>by rw[ZP.first];exact Fine.nil
 |k+1,Z3=>by
  rw[e3];have Z7:=ZP.up k (by omega);have Z5:=(fa h hl ZP k (by omega)).append (adg h hl (ns.getD k 0) (ns.getD (k+1) 0) (ZP.le (k+1) (by omega)))
  grind
end T
namespace C
open Go.Proofs.YtdponihkpomheaaGreatDoor
def av(xs:List Int)(k:Nat):Nat:=(U.textOf (xs.take k)).length
theorem adR(xs:List Int):av xs 0=0:=rfl
theorem aju(x:Int)(t:List Int)(k:Nat):av (x::t) (k+1)=(U.enc x).length+av t k:=by
 simp[av,U.textOf]
theorem apQ(xs:List Int):av xs xs.length=(U.textOf xs).length:=by simp[av]
theorem abF(xs:List Int)(k:Nat):U.textOf xs=U.textOf (xs.take k)++U.textOf (xs.drop k):=by rw[<-U.ds,I0]
theorem hk(xs:List Int)(k:Nat):(U.textOf xs).drop (av xs k)=U.textOf (xs.drop k):=by
 unfold av
 conv=>lhs;rw[abF xs k]
 simp
theorem aa7(xs:List Int)(k:Nat):(U.textOf xs).take (av xs k)=U.textOf (xs.take k):=by
 unfold av
 conv=>lhs;rw[abF xs k]
 simp
theorem wi(xs:List Int)(a n:Nat):av xs (a+n)=av xs a+(U.textOf (T.part xs a n)).length:=by
 simp[av,T.part,List.take_add,U.ds]
theorem e0(xs:List Int){a b:Nat}(h:a<=b):av xs a<=av xs b:=by
 obtain⟨n,rfl⟩:=Nat.exists_eq_add_of_le h;simp[wi]
theorem adi(xs:List Int)(k:Nat):av xs k<=(U.textOf xs).length:=by
 have:=aa7 xs k;grind[av]
theorem e9{l:List Int}(_:l≠[]):1<=(U.textOf l).length:=by
 cases l with
 |nil=>grind
 |cons x t=>
  unfold U.textOf;rw[I3,WR];have:=(U.c6 x).1;omega
theorem awl(xs:List Int){a b:Nat}(h:a<b)(_:b<=xs.length):av xs a<av xs b:=by
 obtain⟨n,rfl⟩:=Nat.exists_eq_add_of_le (Bn h);rw[wi];have:=e9 (l:=T.part xs a n) (by
  intro ZI;have:=congrArg List.length ZI;grind[T.part])
 omega
theorem aeM(xs:List Int){a b:Nat}(h:a<=b):((U.textOf xs).drop (av xs a)).take (av xs b-av xs a)=U.textOf (T.part xs a (b-a)):=by
 rw[hk];obtain⟨n,rfl⟩:=Nat.exists_eq_add_of_le h;rw[wi,Nat.add_sub_cancel_left,Nat.add_sub_cancel_left];unfold T.part;have:=aa7 (xs.drop a) n;grind
theorem akZ(xs:List Int)(Z4:∀x∈xs,U.right x=true){k:Nat}(Z3:k<xs.length):U.dec ((U.textOf xs).drop (av xs k))=some (xs.getD k 0,(U.enc (xs.getD k 0)).length):=by
 rw[hk,H9 Z3];unfold U.textOf;rw[I3,Rl,SA Z3,OT];exact U.fl _ (Z4 _ (List.getElem_mem Z3)) _
theorem auc(xs:List Int){k:Nat}(Z3:k<xs.length):av xs (k+1)=av xs k+(U.enc (xs.getD k 0)).length:=by
 rw[wi];unfold T.part;rw[H9 Z3,Lu,J3,Rl,SA Z3,OT];simp[U.textOf]
theorem aeW:∀xs:List Int,(∀x∈xs,U.right x=true)->M.cuts (M.places (U.textOf xs))=(List.range (xs.length+1)).map (av xs)
 |[],_=>by decide
 |x::t,h=>by
  have XZ:=aeW t (λy ZJ=>h y (Oj _ ZJ));have e:U.textOf (x::t)=U.enc x++U.textOf t:=by rfl
  have hu:M.unit (U.textOf (x::t))=((U.enc x).length,true):=by rw[e];exact M.ek (U.fl x (h x (Pw ..)) _)
  have Zm:(U.textOf (x::t)).drop (U.enc x).length=U.textOf t:=by grind
  have ZP:U.textOf (x::t)≠[]:=by
   intro ZI;have:=e9 (l:=x::t) (by simp);grind
  rw[M.aki ZP,hu];simp only;rw[Zm,XZ,U3,List.range_succ_eq_map (n:=t.length+1),RG,IZ,IZ,adR]
  congr 1
  refine List.map_congr_left (λ_ _=>?_);simp only[Function.comp];rw[Nat.succ_eq_add_one,aju];omega
def places(xs:List Int)(ns:List Nat):List Nat:=ns.map (av xs)
def piece(xs:List Int)(ns:List Nat)(i:Nat):List UInt8:=U.textOf (T.part xs (ns.getD i 0) (ns.getD (i+1) 0-ns.getD i 0))
def pieces(xs:List Int)(ns:List Nat):List (List UInt8):=(List.range (ns.length-1)).map (piece xs ns)
theorem c8(xs:List Int)(ns:List Nat):(places xs ns).length=ns.length:=by simp[places]
theorem pieces_len(xs:List Int)(ns:List Nat):(pieces xs ns).length=ns.length-1:=by simp[pieces]
theorem Fj(xs:List Int)(ns:List Nat){i:Nat}(_:i<ns.length):(places xs ns).getD i 0=av xs (ns.getD i 0):=by
 grind[places]
theorem abd(xs:List Int)(ns:List Nat){i:Nat}(_:i+1<ns.length):(pieces xs ns).getD i []=piece xs ns i:=by
 grind[pieces]
theorem fY{xs:List Int}{ns:List Nat}(ZT:Ku xs.length ns){i:Nat}(h:i+1<ns.length):
  piece xs ns i=((U.textOf xs).drop ((places xs ns).getD i 0)).take ((places xs ns).getD (i+1) 0-(places xs ns).getD i 0):=by
 rw[Fj xs ns (i:=i) (by omega),Fj xs ns h,aeM xs (Bn (ZT.up i h))]
 rfl
theorem eB{xs:List Int}{ns:List Nat}(ZT:Ku xs.length ns){i:Nat}(h:i+1<ns.length):(piece xs ns i).length=(places xs ns).getD (i+1) 0-(places xs ns).getD i 0:=by
 have Z7:=ZT.up i h;rw[Fj xs ns (i:=i) (by omega),Fj xs ns h];unfold piece;have:=wi xs (ns.getD i 0) (ns.getD (i+1) 0-ns.getD i 0);grind
theorem akB{xs:List Int}{ns:List Nat}(ZT:Ku xs.length ns):(places xs ns).getD 0 0=0:=by rw[Fj xs ns ZT.ne,ZT.first];rfl
theorem afn{xs:List Int}{ns:List Nat}(ZT:Ku xs.length ns):(places xs ns).getD (ns.length-1) 0=(U.textOf xs).length:=by
 rw[Fj xs ns (by have:=ZT.ne;omega),ZT.last,apQ]
theorem eV{xs:List Int}{ns:List Nat}(ZT:Ku xs.length ns){i:Nat}(h:i+1<ns.length):(places xs ns).getD i 0<(places xs ns).getD (i+1) 0:=by
 rw[Fj xs ns (i:=i) (by omega),Fj xs ns h];exact awl xs (ZT.up i h) (ZT.le (i+1) h)
theorem cJ{xs:List Int}{ns:List Nat}{i:Nat}(h:i<ns.length):(places xs ns).getD i 0<=(U.textOf xs).length:=by
 rw[Fj xs ns h];exact adi xs _
theorem ft{xs:List Int}{ns:List Nat}(ZT:Ku xs.length ns):∀k,k<ns.length->((pieces xs ns).take k).flatten=(U.textOf xs).take ((places xs ns).getD k 0)
 |0,_=>by grind[akB]
 |k+1,h=>by
  have XZ:=ft ZT k (by omega);have hl:k<(pieces xs ns).length:=by rw[pieces_len];omega
  rw[yl hl,JZ,XZ];have hp:(pieces xs ns)[k]=piece xs ns k:=by
   have:=abd xs ns h;grind
  have Im:=eV ZT h;rw[hp,fY ZT h,Bu,List.flatten_nil,L3];have:=List.take_add (l:=U.textOf xs) (i:=(places xs ns).getD k 0) (j:=(places xs ns).getD (k+1) 0-(places xs ns).getD k 0);grind
theorem aaq{xs:List Int}{ns:List Nat}(ZT:Ku xs.length ns):(pieces xs ns).flatten=U.textOf xs:=by
 have:=ft ZT (ns.length-1) (by have:=ZT.ne;omega);rw[afn ZT,OR,<-pieces_len xs ns,OR]at this;omega
theorem abh{xs:List Int}(_:∀x∈xs,U.right x=true)(a n:Nat):∀x∈T.part xs a n,U.right x=true:=λx _=>by
 grind[T.part]
theorem arH{xs:List Int}(Z4:∀x∈xs,U.right x=true)(ns:List Nat)(i:Nat):U.scalars (piece xs ns i)=some (T.part xs (ns.getD i 0) (ns.getD (i+1) 0-ns.getD i 0)):=
 (U.bI _ _).2 ⟨rfl,abh Z4 _ _⟩
theorem aua{xs:List Int}{ns:List Nat}(ZT:Ku xs.length ns){i:Nat}(h:i+1<ns.length):1<=(piece xs ns i).length:=by
 rw[eB ZT h];have:=eV ZT h;omega
theorem ba:∀s:List UInt8,(M.fix s).length<=3*s.length:=by
 refine M.gb (by simp[M.asY]) (λs Z0 XZ=>?_);have hu:=M.dr Z0;rw[M.fv Z0,WR];rw[Px]at XZ
 split
 ·grind
 rw[show M.mark.length=3 from rfl];omega
end C
theorem am{l:List F.Map}{r:Int}(h:∀(j:Nat)(y:F.Map),j<l.length->l[j]?=some y->y.1≠r):T.becomes l r=[r]:=by
 unfold T.becomes;have:l.find? (λx=>x.1==r)=none:=by
  rw[List.find?_eq_none];intro x Z4;obtain⟨i,hi,e⟩:=List.getElem_of_mem Z4;have:=h i x hi (by grind)
  grind
 rw[this]
theorem aa2{l:List F.Map}{r:Int}{k:Nat}{x:F.Map}(_:l[k]?=some x)(_:x.1=r)(_:∀(j:Nat)(y:F.Map),j<k->l[j]?=some y->y.1≠r):T.becomes l r=x.2:=by
 grind[T.becomes,List.find?_eq_some_iff_getElem]
theorem clone_any(v:Value)(xs:List Int)(w:World)(Z2:Y6 w v xs)(ZY:xs.length<=100000):
  Calls prog 317 #[v] w λe w'=>(∃Zy,e=.returned Zy/\Y6 w' Zy xs/\∀g,Zy.ownBlock=some g->w.heap.size<=g/\g<w'.heap.size)/\Z6 w w':=by
 obtain⟨a,ZU,rfl⟩:=Z2.slice
 cases a with
 |none=>
  obtain⟨rfl,rfl⟩:xs=[]/\ZU=0:=by
   rcases Z2 with⟨Z7,Z5⟩|⟨b,off,sp,XV,Z7,_⟩
   ·grind
   grind
  rw[SK];have Zs:∀W,(binOp .eql 22 Z1 (Z1)).run prog W=.ok (.bool true) W:=λW=>by rfl
  go_in
  go_wp2
  go_ret
  exact⟨⟨_,rfl,.inl ⟨rfl,rfl⟩,λg ZH=>by cases ZH⟩,Below.refl _ _⟩
 |some SY=>
  have Me:=bx (Fo (Z2.below (Xl w (.cells #[] 3))));have XI:=bx (show Sep [Pc.row w.heap.size 3 1 (.slice (some ⟨w.heap.size,0,none⟩) 0 0) 0 [],Pc.old w.heap.size w] (w.alloc (.cells #[] 3))from
   (Sep.start w).add (Xl w _) (World.ownsRow_lit (base:=w.heap.size) (e:=3) (size:=1) w #[] 0 Ys (by omega) rfl) (λ_ _=>by grind[Pc.row,Value.ownBlock]))
  have WP:w.heap.size<=(w.alloc (.cells #[] 3)).heap.size:=by simp
  have Zs:∀W,(binOp .eql 22 (.slice (some SY) xs.length ZU) (Z1)).run prog W=.ok (.bool false) W:=λW=>by rfl
  clear Z2
  go_in
  go_wp2_with (at_builtin;refine IE rfl _ _ 22 rfl Iw (by decide) XI.o 0 rfl rfl rfl Me.o (by simp) (by intro z ZY;obtain⟨q,-,rfl⟩:=SL.1 ZY;rfl) (by omega) (by omega) WP ?_;rintro O3 Xi Wl)
  have V7:=Wl.row 0 rfl;have YE:=bx (show Y6 Xi O3 xs by
   rw[Nat.zero_add,RQ]at V7;exact Y6.au V7 rfl)
  have Yt:=bx (λg ZH=>V7.lt g ZH);have XM:=bx (Wl.bel (n:=w.heap.size) (W0:=w) (by simp));clear Wl V7
  go_wp2
  go_ret
  exact⟨⟨_,rfl,YE.o,Yt.o⟩,XM.o⟩
theorem as3(XX r:Int)(a:Option Addr)(n c b:Nat)(w:World)(ZL:w.cell? ⟨b,0,none⟩=some (Z9 r))(hl:b<w.heap.size):
  Calls prog 316 #[.agg #[Z9 XX,.slice a n c],Zn b] w λe w'=>e=.returned (.bool (XX==r))/\Z6 w w':=by
 have V3:=bx (Xl w (.cells #[Z9 XX,.slice a n c] 272));have Z7:=(V3.o.cell (p:=⟨b,0,none⟩) hl).trans ZL;clear ZL
 go_in
 go_wp2
 go_ret
 exact⟨rfl,V3.o⟩
def m8(l:List F.Map)(r:Int)(i:Int):Prop:=(i=-1/\T.becomes l r=[r])\/∃(k:Nat)(x:F.Map),i=(k:Int)/\l[k]?=some x/\T.becomes l r=x.2
theorem asc(v:Value)(l:List F.Map)(r:Int)(b:Nat)(w:World)(Z2:NR w v l)(ZY:l.length<=100000)(ZL:w.cell? ⟨b,0,none⟩=some (Z9 r))(hl:b<w.heap.size):
  Calls prog 315 #[v,.func (.func 316) #[] #[Zn b]] w λe w'=>(∃i,e=.returned (Z9 i)/\m8 l r i)/\Z6 w w':=by
 have ZN:=bx Z2;obtain⟨a,ZU,rfl,W2,VM⟩:=Z2.slice;obtain⟨N,Zp⟩:∃N,l.length=N:=⟨_,rfl⟩
 rw[Zp]at ZN ZY W2⊢;have ZE:=bx Zp;have TZ:=bx (λXX By un I1 W(h:Z6 w W)=>as3 XX r By un I1 b W ((h.cell (p:=⟨b,0,none⟩) hl).trans ZL) (Vh hl h.size));clear Z2 Zp ZL
 go_in
 go_wp2_with fail
 go_loopw[8] (λi wr=>∃k:Nat,k<=N/\i=Z9 k/\Box (∀(j:Nat)(y:F.Map),j<k->l[j]?=some y->y.1≠r)/\Box (Z6 w wr)) (λi _=>N-(intOf i).toNat)
 ·exact⟨0,by omega,rfl,⟨λj y h=>by omega⟩,⟨Below.refl _ _⟩⟩
 obtain⟨k,Z3,rfl,XF,Z8⟩:=hrel
 by_cases Zu:k<N
 ·obtain⟨x,Z4⟩:=Yg l k (by rw[ZE.o];omega);obtain⟨g,off,XV,Y5,XL,Yi,XB,YX⟩:=(ZN.o.below Z8.o).get (by grind);rw[ZE.o]at Y5 XL;obtain⟨rfl,rfl⟩:=XN Y5;obtain⟨Ws,u,XX,hu⟩:=YX k x Z4;obtain⟨By,I1,rfl⟩:=hu.slice;have YD:=bx Z4;have Yq:=bx (TZ.o x.1 By x.2.length I1 wr Z8.o);unfold maxLen at Yi;clear Z4 Y5 YX hu
  by_cases he:x.1=r
  ·have Y8:=bx (show(x.1==r)=true by grind);have Q2:=bx (show m8 l r (k:Int)from .inr ⟨k,x,rfl,YD.o,aa2 YD.o he XF.o⟩);clear he;rw[Y8.o]at Yq;go_wp2_with fail;refine X7 Yq.o Z8.o λZV ZW=>?_
   go_wp2
   go_ret
   exact⟨⟨_,rfl,Q2.o⟩,ZW.o⟩
  have Y8:=bx (show(x.1==r)=false by grind);have Te:=bx (upto_succ XF.o YD.o he);clear he;rw[Y8.o]at Yq;go_wp2_with fail;refine X7 Yq.o Z8.o λZV ZW=>?_
  go_wp2
  go_roundw
  ·exact⟨k+1,by omega,by go_num,Te,ZW⟩
  grind[intOf]
 obtain rfl:k=N:=by omega
 have Q2:=bx (show m8 l r (-1)from .inl ⟨rfl,am (λj y YO ZJ=>XF.o j y (by rw[<-ZE.o];exact YO) ZJ)⟩)
 go_wp2
 go_ret
 exact⟨⟨_,rfl,Q2.o⟩,Z8.o⟩
theorem gZ(v:Value)(l:List F.Map)(r:Int)(w:World)(Z2:NR w v l)(ZY:l.length<=100000)(G4:∀x∈l,x.2.length<=100000):
  Calls prog 291 #[v,Z9 r] w λe w'=>(∃Zy,e=.returned Zy/\Y6 w' Zy (T.becomes l r)/\∀g,Zy.ownBlock=some g->w.heap.size<=g/\g<w'.heap.size)/\Z6 w w':=by
 have ZR:=bx (Xl w (.cells #[Z9 r] 3));have Ze:=bx (Zv.new w 3 #[Z9 r]);have ZN:=bx Z2;have ja:=bx (asc v l r w.heap.size (w.alloc (.cells #[Z9 r] 3)) (Z2.below ZR.o) ZY (Ze.o.q0) Ze.o.lt);have A0:=bx G4;obtain⟨a,ZU,rfl,W2,VM⟩:=Z2.slice;obtain⟨N,Zp⟩:∃N,l.length=N:=⟨_,rfl⟩
 rw[Zp]at ZN ja ZY W2⊢;have ZE:=bx Zp;clear Z2 Zp G4
 go_in
 go_wp2_with fail;refine ja.o.mono ?_;rintro e ZV ⟨⟨i,rfl,hi⟩,ZZ⟩;have ZW:=Zw ZR ZZ;have Z3:=Ze.o.below ZZ Ze.o.lt;have Zd:=(Z3.cell 0).trans (show _=some (Value.int .i64 r)from rfl);have R3:=Z3.lt;have Wy:=bx ZW.o.size;clear Z3 ZZ
 rcases hi with⟨rfl,Jh⟩|⟨k,x,rfl,Z4,Jh⟩
 ·have TZ:=bx Jh;have YE:=bx (rS ZV r 3);have Zt:=bx (ZW.o.trans ((Xl ZV (.cells #[Z9 r] 3)).mono ZW.o.size));clear Jh
  go_wp2
  go_ret
  exact⟨⟨_,rfl,by rw[TZ.o];exact YE.o,λg ZH=>by simp[Value.ownBlock]at ZH;subst ZH;exact⟨Wy.o,by simp⟩⟩,Zt.o⟩
 have TZ:=bx Jh;have agr:k<N:=by rw[<-ZE.o];grind
 obtain⟨g,off,XV,Y5,XL,Yi,XB,YX⟩:=(ZN.o.below ZW.o).get (by grind);rw[ZE.o]at Y5 XL;obtain⟨rfl,rfl⟩:=XN Y5;obtain⟨Ws,u,XX,hu⟩:=YX k x Z4;have TJ:=bx (clone_any u x.2 ZV hu (A0.o x (Xh Z4)));have Wz:decide ((k:Int)<0)=false:=Yp (by omega);unfold maxLen at Yi;clear Jh Z4 Y5 YX hu Zd R3;go_wp2_with fail;refine TJ.o.mono ?_;rintro e ZB ⟨⟨Zy,rfl,Hp,N8⟩,Zz⟩;have w3:=bx Hp;have ES:=bx N8;have Zt:=Zw ZW Zz;clear Hp N8 Zz
 go_wp2
 go_ret
 exact⟨⟨_,rfl,by rw[TZ.o];exact w3.o,λg ZH=>⟨XJ Wy.o (ES.o g ZH).1,(ES.o g ZH).2⟩⟩,Zt.o⟩
theorem og(v:Value)(c:T.Cs)(r:Int)(w:World)(Z2:Sq w v c)(Z0:T.Small c)(ZL:T.az 600 c=true)(ZT:U.right r=true):
  Calls prog 290 #[v,Z9 r] w λe w'=>e=.returned (Z9 0)/\Z6 w w':=by
 have VO:=bx (λW(h:Z6 w W)=>Z2.below h);obtain⟨Zc,YI,ci,YQ,Yw,Yy,rfl,Z7,Z5,ZS,ZG,Zi,Yu⟩:=Z2;obtain⟨V,ZO⟩:∃V,V=w.alloc (.cells #[Zc,YI,ci,YQ,Yw,Yy] 36):=⟨_,rfl⟩
 have ZR:=bx (aB ZO);have Ze:=bx (aK ZO);have ZF:=bx (λW(h:Z6 V W)=>Ze.o.d6 h);have ZN:=bx ZO;have Vc:=bx (λW(h:Z6 w W)=>ZL▸uC _ c W (VO.o W h) Z0);have T0:=bx (λW=>mx r W);rw[ZT]at T0;clear Z7 Z5 ZS ZG Zi Yu Z0 ZL ZT ZO;obtain⟨Zd,Zx,Zr,Zk,Zl,Zg,R3⟩:=ZF.o V YU
 go_in
 go_upto_region 1 with(fail)
 rw[<-ZN.o];go_wp2_with fail;refine X7 (Vc.o _ ZR.o) ZR.o λ_ ZW=>?_
 clear Zd Zx Zr Zk Zl Zg R3;go_wp2_with fail;refine YW (T0.o _) ?_
 go_wp2
 go_ret
 exact⟨rfl,ZW.o⟩
theorem ajw(v:Value)(c:T.Cs)(r:Int)(w:World)(Z2:Sq w v c)(Z0:T.Small c)(ZL:T.az 600 c=true)(ZT:U.right r=true):
  Calls prog 293 #[v,Z9 r] w λe w'=>(∃Zy,e=.returned (.tuple #[Zy,Z9 0])/\Y6 w' Zy (T.becomes c.lo r)/\∀g,Zy.ownBlock=some g->w.heap.size<=g/\g<w'.heap.size)/\Z6 w w':=by
 have VO:=bx (λW(h:Z6 w W)=>Z2.below h);obtain⟨Zc,YI,ci,YQ,Yw,Yy,rfl,Z7,Z5,ZS,ZG,Zi,Yu⟩:=Z2;obtain⟨V,ZO⟩:∃V,V=w.alloc (.cells #[Zc,YI,ci,YQ,Yw,Yy] 36):=⟨_,rfl⟩
 have ZR:=bx (aB ZO);have Ze:=bx (aK ZO);have ZF:=bx (λW(h:Z6 V W)=>Ze.o.d6 h);have ZN:=bx ZO;have Wt:=bx (λW(h:Z6 w W)=>og _ c r W (VO.o W h) Z0 ZL ZT);have TZ:=bx (λW(h:Z6 w W)=>gZ Zc c.lo r W (Z7.below h) Z0.lo Z0.loA);clear Z7 Z5 ZS ZG Zi Yu Z0 ZL ZT ZO;obtain⟨Zd,Zx,Zr,Zk,Zl,Zg,R3⟩:=ZF.o V YU
 go_in
 go_upto_region 1 with(fail)
 rw[<-ZN.o];go_wp2_with fail;refine Y3 (Wt.o _ ZR.o) λZV ZZ=>?_
 have ZW:=Zw ZR ZZ;clear Zd Zx Zr Zk Zl Zg R3;obtain⟨Zd,Zx,Zr,Zk,Zl,Zg,R3⟩:=ZF.o ZV ZZ;clear ZZ;go_wp2_with fail;refine(TZ.o _ ZW.o).mono ?_;rintro e ZB ⟨⟨Zy,rfl,Hp,N8⟩,Zz⟩;have w3:=bx Hp;have ES:=bx N8;have Wy:=bx ZW.o.size;have Zt:=Zw ZW Zz;clear Hp N8 Zz
 go_wp2
 go_ret2
 exact⟨⟨_,rfl,w3.o,λg ZH=>⟨XJ Wy.o (ES.o g ZH).1,(ES.o g ZH).2⟩⟩,Zt.o⟩
theorem aoH(v:Value)(c:T.Cs)(r:Int)(w:World)(Z2:Sq w v c)(Z0:T.Small c)(ZL:T.az 600 c=true)(ZT:U.right r=true):
  Calls prog 244 #[v,Z9 r] w λe w'=>(∃Zy,e=.returned (.tuple #[Zy,Z9 0])/\Y6 w' Zy (T.becomes c.ti r)/\∀g,Zy.ownBlock=some g->w.heap.size<=g/\g<w'.heap.size)/\Z6 w w':=by
 have VO:=bx (λW(h:Z6 w W)=>Z2.below h);obtain⟨Zc,YI,ci,YQ,Yw,Yy,rfl,Z7,Z5,ZS,ZG,Zi,Yu⟩:=Z2;obtain⟨V,ZO⟩:∃V,V=w.alloc (.cells #[Zc,YI,ci,YQ,Yw,Yy] 36):=⟨_,rfl⟩
 have ZR:=bx (aB ZO);have Ze:=bx (aK ZO);have ZF:=bx (λW(h:Z6 V W)=>Ze.o.d6 h);have ZN:=bx ZO;have Wt:=bx (λW(h:Z6 w W)=>og _ c r W (VO.o W h) Z0 ZL ZT);have TZ:=bx (λW(h:Z6 w W)=>gZ YI c.ti r W (Z5.below h) Z0.ti Z0.tiA);clear Z7 Z5 ZS ZG Zi Yu Z0 ZL ZT ZO;obtain⟨Zd,Zx,Zr,Zk,Zl,Zg,R3⟩:=ZF.o V YU
 go_in
 go_upto_region 1 with(fail)
 rw[<-ZN.o];go_wp2_with fail;refine Y3 (Wt.o _ ZR.o) λZV ZZ=>?_
 have ZW:=Zw ZR ZZ;clear Zd Zx Zr Zk Zl Zg R3;obtain⟨Zd,Zx,Zr,Zk,Zl,Zg,R3⟩:=ZF.o ZV ZZ;clear ZZ;go_wp2_with fail;refine(TZ.o _ ZW.o).mono ?_;rintro e ZB ⟨⟨Zy,rfl,Hp,N8⟩,Zz⟩;have w3:=bx Hp;have ES:=bx N8;have Wy:=bx ZW.o.size;have Zt:=Zw ZW Zz;clear Hp N8 Zz
 go_wp2
 go_ret2
 exact⟨⟨_,rfl,w3.o,λg ZH=>⟨XJ Wy.o (ES.o g ZH).1,(ES.o g ZH).2⟩⟩,Zt.o⟩
theorem DV{r:Int}(h:U.right r=true):∃n:Nat,r=(n:Int)/\n<=1114111:=by
 have ZI:=aaD h;unfold U.right at h;simp only[Vm,SS,Bool.or_eq_true]at h;exact⟨r.toNat,by omega,by omega⟩
theorem aoA(v:Value)(c:T.Cs)(r:Int)(w:World)(Z2:Sq w v c)(Z0:T.Small c)(ZL:T.az 600 c=true)(ZT:U.right r=true):
  Calls prog 289 #[v,Z9 r] w λe w'=>e=.returned (.tuple #[.bool (T.cased c r),.bool (T.al c r),Z9 0])/\Z6 w w':=by
 obtain⟨Ev,jX,MD⟩:=DV ZT;have VO:=bx (λW(h:Z6 w W)=>Z2.below h);obtain⟨Zc,YI,ci,YQ,Yw,Yy,rfl,Z7,Z5,ZS,ZG,Zi,Yu⟩:=Z2;obtain⟨V,ZO⟩:∃V,V=w.alloc (.cells #[Zc,YI,ci,YQ,Yw,Yy] 36):=⟨_,rfl⟩
 have ZR:=bx (aB ZO);have Ze:=bx (aK ZO);have ZF:=bx (λW(h:Z6 V W)=>Ze.o.d6 h);have ZN:=bx ZO;have Wt:=bx (λW(h:Z6 w W)=>og _ c r W (VO.o W h) Z0 ZL ZT);have jP:=ZL;rw[yu]at jP;simp only[Vm]at jP;obtain⟨⟨-,Sg⟩,Nd⟩:=jP;have VD:=bx (λW(h:Z6 w W)=>jX▸nO (.agg #[ci,YQ]) c.ca Ev W ⟨_,_,rfl,ZS.below h,ZG.below h⟩ ⟨Z0.c1,Z0.c2,Z0.c3⟩ Sg MD);have Uv:=bx (λW(h:Z6 w W)=>jX▸nO (.agg #[Yw,Yy]) c.ig Ev W ⟨_,_,rfl,Zi.below h,Yu.below h⟩ ⟨Z0.g1,Z0.g2,Z0.g3⟩ Nd MD);unfold T.cased T.al;generalize F.says c.ca r=Vy at VD⊢;generalize F.says c.ig r=TX at Uv⊢;clear Z7 Z5 ZS ZG Zi Yu Z0 ZL ZT ZO Sg Nd jX MD;obtain⟨Zd,Zx,Zr,Zk,Zl,Zg,R3⟩:=ZF.o V YU
 go_in
 go_upto_region 1 with(fail)
 rw[<-ZN.o];go_wp2_with fail;refine Y3 (Wt.o _ ZR.o) λZV ZZ=>?_
 have ZW:=Zw ZR ZZ;have QL:=bx ZZ;clear Zd Zx Zr Zk Zl Zg R3 ZZ;obtain⟨Inv,Rk,Tr⟩:∃Inv:World->Prop,(∀W,Inv W->Z6 ZV W)/\(∀W,Z6 ZV W->Inv W):=⟨_,λ_ h=>h,λ_ h=>h⟩
 have Wa:=bx (show∀q:CW Inv,Z6 ZV q.w from λq=>Rk _ q.h);have PT:=bx (show∀(q:CW Inv) w',Below q.w.heap.size q.w w'->Inv w' from λq w' h=>Tr _ ((Wa.o q).trans (h.mono (Wa.o q).size)));have Ml:=bx (λq:CW Inv=>ZW.o.trans ((Wa.o q).mono ZW.o.size));have Tp:=bx (λq:CW Inv=>QL.o.trans ((Wa.o q).mono QL.o.size));have q2:∀q:CW Inv,q.w.cell? ⟨w.heap.size,2,none⟩=some ci:=λq=>(ZF.o _ (Tp.o q)).2.2.1
 have q3:∀q:CW Inv,q.w.cell? ⟨w.heap.size,3,none⟩=some YQ:=λq=>(ZF.o _ (Tp.o q)).2.2.2.1
 have q4:∀q:CW Inv,q.w.cell? ⟨w.heap.size,4,none⟩=some Yw:=λq=>(ZF.o _ (Tp.o q)).2.2.2.2.1
 have q5:∀q:CW Inv,q.w.cell? ⟨w.heap.size,5,none⟩=some Yy:=λq=>(ZF.o _ (Tp.o q)).2.2.2.2.2.1
 have U4:=bx (λq:CW Inv=>Li (VD.o q.w (Ml.o q)) rfl (PT.o q));have LO:=bx (λq:CW Inv=>Li (Uv.o q.w (Ml.o q)) rfl (PT.o q));have W6:=bx (Tr _ (VQ ZV 1));clear Rk Tr;go_wp2_with fail;refine OL Inv (by rfl) (by kernel_rfl) W6.o (λXq=>?_)
 iterate 4 (first|go_big_quiet_step ((go_at_call 313;exact U4.o _))|quiet_step ((go_at_call 313;exact U4.o _)))
 clear U4
 iterate 9 (first|go_big_quiet_step ((go_at_call 313;exact LO.o _))|quiet_step ((go_at_call 313;exact LO.o _)))
 refine wpQuiet_nil ?_;rintro Xi ⟨q7,rfl⟩;have XM:=bx (Ml.o q7);clear q2 q3 q4 q5 Xq;go_wp2_with fail
 go_ret3
 exact⟨rfl,XM.o⟩
def T.wrong(c:T.Cs)(xs:List Int):Int:=if T.az 600 c=false then 140 else if 2000<xs.length then 121 else if xs.all U.right=false then 10 else 0
theorem Y6.part{w:World}{b off ZU:Nat}{xs:List Int}(h:Y6 w (.slice (some ⟨b,off,none⟩) xs.length ZU) xs)(i j cap':Nat)(_:i<=j)(_:j<=xs.length)(_:j-i<=cap')(ZY:cap'<=maxLen)(SY:Addr)(_:i<j->SY=(⟨b,off,none⟩:Addr).add i):
  Y6 w (.slice (some SY) (j-i) cap') ((xs.take j).drop i):=by
 have hl:((xs.take j).drop i).length=j-i:=by grind
 rcases h with⟨Z7,Z5⟩|⟨Xd,OP,ax3,XV,Z7,Z5,ZS,ZG⟩
 ·cases Z7
 injection Z7 with Zq YP Yb;injection Zq with Zq;injection Zq with WW VK BQ;subst WW VK BQ;obtain⟨HD,XH,ln⟩:=SY;refine .inr ⟨HD,XH,ln,cap',by rw[hl],by omega,ZY,λ_=>?_⟩;have Zu:i<j:=by
  grind
 have CV:xs≠[]:=by grind
 grind[Addr.add]
def RO(n:Nat)(W0:World)(Yd:Value)(l:List Int):List Pc:=[Pc.row n 3 1 Yd l.length (l.map (Value.int .i64)),Pc.old n W0]
theorem G5{n:Nat}{W0 w:World}{Yd:Value}{l:List Int}(h:Sep (RO n W0 Yd l) w):Below n W0 w:=Sep.bel (ps:=RO n W0 Yd l) h (by simp[RO])
theorem DD{n:Nat}{W0 w:World}{Yd:Value}{l:List Int}(h:Sep (RO n W0 Yd l) w):Y6 w Yd l/\∀g,Yd.ownBlock=some g->n<=g/\g<w.heap.size:=
 ⟨Y6.au (h.row 0 rfl) rfl,(h.row 0 rfl).lt⟩
theorem DQ{n:Nat}{W0 w:World}{Yd:Value}{l m r:List Int}{k:Nat}(h:Sep ((RO n W0 Yd l).set 0 (Pc.row n 3 1 Yd k (l.map (Value.int .i64)++m.map (Value.int .i64)))) w)(Z3:k=l.length+m.length)(ZT:r=l++m):Sep (RO n W0 Yd r) w:=by
 subst ZT Z3;rw[<-T9,<-WR]at h;exact h
theorem T.e6{c:T.Cs}{xs:List Int}(_:T.wrong c xs=0):T.az 600 c=true/\xs.length<=2000/\∀x∈xs,U.right x=true:=by
 grind[T.wrong]
theorem aaY{P:Program}{T K E:TypeId}(hm:P.underlying T=some (.map K E))(Z3:P.underlying K=some (.int .i64))(W:World)(es:Array MapEntry)(Vd:Nat)(k:Int)(n:Nat)(ZH:W.heap[n]?=some (.map es Vd))(TH:E3 es)(z:Value)(ZY:(zeroValue E).run P W=.ok z W):
  (Instr.lookup T (.map (some n)) (Z9 k) true).run P W=.ok (.tuple #[(HT es k).getD z,.bool (HT es k).isSome]) W:=by
 have Z7:(Instr.checkKey es.isEmpty 10000 K (Z9 k)).run P W=.ok () W:=MapKept.run_checkKey Z3 (by rfl) _ 9999
 rcases wv k es.toList 0 TH with⟨Yz,hl⟩|⟨j,v,Yz,hl,_⟩
 ·have Z5:=MapKept.run_findKey (P:=P) (w:=W) Z3 Yz;unfold Instr.lookup;rw[DJ TH,hl];simp only[Sem.run_bind,run_underlying hm,Result.andThen,MapKept.run_getObj_map ZH,Z7,Z5,Sem.run_pure,if_true,ZY,Option.getD_none,Option.isSome_none]
 have Z5:=MapKept.run_findKey (P:=P) (w:=W) Z3 Yz;unfold Instr.lookup;rw[DJ TH,hl];simp only[Sem.run_bind,run_underlying hm,Result.andThen,MapKept.run_getObj_map ZH,Z7,Z5,Sem.run_pure,if_true,OT,Option.isSome_some]
def O4(W:World)(Zf:Nat)(c:T.Cs):Prop:=∃es Vd,W.heap[Zf]?=some (.map es Vd)/\E3 es/\∀q v,HT es q=some v->v=.agg #[.bool (T.cased c q),.bool (T.al c q)]
theorem O4.lt{W:World}{Zf:Nat}{c:T.Cs}(h:O4 W Zf c):Zf<W.heap.size:=by
 obtain⟨es,Vd,h,-⟩:=h;grind
theorem O4.block{W W':World}{Zf:Nat}{c:T.Cs}(h:O4 W Zf c)(Z8:W'.heap[Zf]?=W.heap[Zf]?):O4 W' Zf c:=by
 obtain⟨es,Vd,Z7,Z5,ZS⟩:=h;exact⟨es,Vd,Z8.trans Z7,Z5,ZS⟩
theorem O4.turns{own:Nat->Prop}{W W':World}{Zf:Nat}{c:T.Cs}(h:O4 W Zf c)(ZM:Turns own W W')(YT:¬own Zf):O4 W' Zf c:=h.block (ZM.block _ h.lt YT)
def Pc.known(Zf:Nat)(c:T.Cs):Pc where
 fp k:=k=Zf
 ok W:=O4 W Zf c
 keep:=λ{_ _ _} h ZM YT=>h.turns ZM (YT Zf rfl)
 lt:=λ{_ _} h Z3=>Z3▸h.lt
theorem w7{w:World}{k:Nat}{o:Obj}(h:w.heap[k]?=some o):k<w.heap.size:=(J4.1 h).1
theorem mo{own:Nat->Prop}{W V w':World}(Z8:Z6 W V)(ZM:Turns (λk=>W.heap.size<=k\/own k) V w'):Turns own W w' :=
 ⟨ZM.os.trans Z8.os,ZM.tape.trans Z8.tape,ZM.output.trans Z8.output,XJ Z8.size ZM.size,λk Z3 _=>(ZM.block k (Vh Z3 Z8.size) (by grind)).trans (Z8.block k Z3)⟩
theorem aj4(W:World):(zeroValue 329).run prog W=.ok (.agg #[.bool false,.bool false]) W:=by rfl
theorem afm:(prog.info? 329).map (·.size)=some 2:=by rfl
theorem mq(g Zf:Nat)(Zc YI ci YQ Yw Yy UJ Yd:Value)(c:T.Cs)(r:Int)(W:World)(Z8:Zv W g 232 #[Zc,YI,ci,YQ,Yw,Yy,.map (some Zf),UJ,Yd])(Z2:Sq W (.agg #[Zc,YI,ci,YQ,Yw,Yy]) c)(Z0:T.Small c)(ZL:T.az 600 c=true)(ZT:U.right r=true)(Z3:O4 W Zf c):
  Calls prog 243 #[Zn g,Z9 r] W λe w'=>e=.returned (.agg #[.bool (T.cased c r),.bool (T.al c r)])/\Turns (λk=>k=Zf) W w'/\O4 w' Zf c:=by
 obtain⟨es,Vd,hm,TH,Je⟩:=Z3;obtain⟨V,ZO⟩:∃V,V=W.alloc (.cells #[.bool false,.bool false] 329):=⟨_,rfl⟩
 have Wj:=bx (aB ZO);have Yx:=bx (aK ZO);have ZN:=bx ZO;have Nh:=(J4.1 hm).1;have O8:=bx ((Wj.o.block Zf Nh).trans hm);have Wh:=bx (Z8.below Wj.o Z8.lt);have g6:=Wh.o.q6;have Cl:=bx (λW'(h:Z6 V W')=>aoA _ c r W' (Z2.below (bt Wj.o h)) Z0 ZL ZT);have Ug:=aaY underlying228 underlying3 V es Vd r Zf O8.o TH _ (aj4 V);have pP:=Z8.lt;clear ZO hm Z8 Z2 Z0 ZL ZT
 cases Zs:HT es r with
 |some v=>
  rw[Zs,OT,Option.isSome_some,Je r v Zs]at Ug;have Xy:=bx (show O4 V Zf c from⟨es,Vd,O8.o,TH,Je⟩);clear Zs Je TH;have v0:=Yx.o.q0;have v1:=Yx.o.q1;have f0:=Yx.o.frozen 0;have f1:=Yx.o.frozen 1;have Vj:=Yx.o.lt
  go_in
  go_upto_region 1 with(fail)
  rw[<-ZN.o];go_wp2_with fail;have Y8:=bx (show Turns (λk=>k=Zf) W (((V.setCell ⟨W.heap.size,0,none⟩ (.bool (T.cased c r))).setCell ⟨W.heap.size,1,none⟩ (.bool (T.al c r))).alloc (.cells #[.bool (T.cased c r),.bool (T.al c r)] 329))from
   mo Wj.o (((Turns.setCell V (p:=⟨W.heap.size,0,none⟩) (.inl Ys) _).trans (Turns.setCell _ (p:=⟨W.heap.size,1,none⟩) (.inl Ys) _)).trans (Turns.alloc _ _)))
  have GV:=bx (Xy.o.turns (own:=λk=>k=W.heap.size) (((Turns.setCell (own:=λk=>k=W.heap.size) V (p:=⟨W.heap.size,0,none⟩) rfl (.bool (T.cased c r))).trans (Turns.setCell (own:=λk=>k=W.heap.size) _ (p:=⟨W.heap.size,1,none⟩) rfl (.bool (T.al c r)))).trans (Turns.alloc _ (.cells #[.bool (T.cased c r),.bool (T.al c r)] 329))) (by omega));exact bodyPost_ret (v:=.agg #[.bool (T.cased c r),.bool (T.al c r)]) (results_cell_row results243 _ _ W.heap.size 329 _ (0,0) _ rfl (((Yx.o.ai 0 (.bool (T.cased c r))).ai 1 (.bool (T.al c r))).alloc _) underlying329 rfl afm) rfl ⟨rfl,Y8.o,GV.o⟩
 |none=>
  rw[Zs,Option.getD_none,Option.isSome_none]at Ug;have Mq:=bx Je;clear Zs Je;obtain⟨We,TA⟩:∃We,We=V.alloc (.cells #[.bool false,.bool false] 329):=⟨_,rfl⟩
  have Zt:=bx (aB TA);have Uv:=bx TA;have Oi:=bx (aK TA);have UA:=bx (Cl.o We Zt.o);have sh:=bx (λ(W':World)(h:Z6 V W')=>show ZQ W' g 0=some Zc/\ZQ W' g 1=some YI/\ZQ W' g 2=some ci/\ZQ W' g 3=some YQ/\ZQ W' g 4=some Yw/\ZQ W' g 5=some Yy/\ZQ W' g 6=some (.map (some Zf))/\g<W'.heap.size from by
   have Z3:=Wh.o.below h Wh.o.lt;exact⟨Z3.q0,Z3.q1,Z3.q2,Z3.q3,Z3.q4,Z3.q5,Z3.q6,Z3.lt⟩)
  clear TA;obtain⟨YV,c1,c2,c3,VG,Wv,Ov,YJ⟩:=sh.o We Zt.o
  go_in
  go_upto_region 1 with(fail)
  rw[<-ZN.o]
  go_upto_region 2 with(fail)
  rw[<-Uv.o];go_wp2_with fail;refine Y3 UA.o λZh Zb=>?_
  have YY:=Zw Zt Zb;have PQ:=Oi.ub Zb;have Ws:=PQ.o.q0;have XX:=PQ.o.q1;have f0:=PQ.o.frozen 0;have f1:=PQ.o.frozen 1;have Sm:=PQ.o.lt;clear Zb YV c1 c2 c3 VG Wv Ov YJ
  go_upto_region 4 with(fail)
  obtain⟨YL,CZ⟩:∃YL,YL=(Zh.setCell ⟨V.heap.size,0,none⟩ (.bool (T.cased c r))).setCell ⟨V.heap.size,1,none⟩ (.bool (T.al c r)):=⟨_,rfl⟩
  rw[<-CZ];have Gi:=bx (show Turns (λk=>k=V.heap.size) Zh YL by rw[CZ];exact(Turns.setCell (own:=λk=>k=V.heap.size) Zh (p:=⟨V.heap.size,0,none⟩) rfl _).trans (Turns.setCell (own:=λk=>k=V.heap.size) _ (p:=⟨V.heap.size,1,none⟩) rfl _));have Ye:=bx (show Z6 V YL from YY.o.trans (Gi.o.below YY.o.size (λk Z3=>by omega)));have GN:=bx (show Zv YL V.heap.size 329 #[.bool (T.cased c r),.bool (T.al c r)] by rw[CZ];exact(PQ.o.ai 0 _).ai 1 _);clear Ws XX f0 f1 Sm CZ;have Y9:=bx (show Z6 V YL.drew from Ye.o.trans ((VQ YL 1).mono Ye.o.size));have Fk:=bx (GN.o.drewN 1);have o4:=bx ((Y9.o.block Zf (w7 O8.o)).trans O8.o);have YF:=bx (show YL.drew.cell? ⟨g,6,none⟩=some (.map (some Zf))/\YL.drew.cell? ⟨V.heap.size,0,none⟩=some (.bool (T.cased c r))/\YL.drew.cell? ⟨V.heap.size,1,none⟩=some (.bool (T.al c r))/\V.heap.size<YL.drew.heap.size from
   ⟨(sh.o _ Y9.o).2.2.2.2.2.2.1,Fk.o.q0,Fk.o.q1,Fk.o.lt⟩)
  refine Vv 6 (λW'=>ZQ W' g 6=some (.map (some Zf))/\ZQ W' V.heap.size 0=some (.bool (T.cased c r))/\ZQ W' V.heap.size 1=some (.bool (T.al c r))/\V.heap.size<W'.heap.size) (by rfl) ?_;have Fk:=bx (show Zv YL.drew V.heap.size 329 #[.bool (T.cased c r),.bool (T.al c r)]from Fk.o);generalize YL.drew=Yl at Y9 Fk o4 YF⊢;obtain⟨Si,Qw,hu,R5,Ot⟩:=aqZ underlying228 underlying3 Yl es Vd r (.agg #[.bool (T.cased c r),.bool (T.al c r)]) Zf o4.o TH;have GV:=bx (show∀q v,HT Si q=some v->v=.agg #[.bool (T.cased c q),.bool (T.al c q)]from λq v Zs=>by
   rw[Ot]at Zs
   split at Zs
   ·grind
   exact Mq.o q v Zs)
  have pb:=bx R5;clear TH Ug Ot R5;refine Vp [0,1,2,3,4,5] ?_
  iterate 6 (refine Vq ?_ rfl YF.o ?_ ?_;rotate_left;·rintro w ⟨q1,q2,q3,q4⟩;go_simp;try with_reducible rfl)
  refine Vr ?_;refine Y1 6 rfl λY7 ZX=>?_
  go_simp;refine ZX.out _ _ (λh=>by cases h) ?_;clear ZX Y7;refine kD ?_ _;have sM:=bx (Turns.putObj (own:=λk=>k=Zf) Yl rfl (.map Si Qw));have Jj:=bx (sM.o.blk (Yx.o.below Y9.o Yx.o.lt) (by omega));have JY:=bx (sM.o.blk Fk.o (by have:=w7 O8.o;omega));have vQ:=bx (World.putObj_heap_same (o:=.map Si Qw) (w7 o4.o));generalize Yl.putObj Zf (.map Si Qw)=XA at sM Jj JY vQ⊢;have v0:=Jj.o.q0;have v1:=Jj.o.q1;have f0:=Jj.o.frozen 0;have f1:=Jj.o.frozen 1;have Vj:=Jj.o.lt;have Ws:=JY.o.q0;have XX:=JY.o.q1;have Sm:=JY.o.lt;clear hu;go_wp2_with fail;have Y8:=bx (show Turns (λk=>k=Zf) W ((XA.setCell ⟨W.heap.size,0,none⟩ (.bool (T.cased c r))).setCell ⟨W.heap.size,1,none⟩ (.bool (T.al c r)))from
   mo (bt Wj.o Y9.o) ((sM.o.mono (λk Z3=>.inr Z3)).trans ((Turns.setCell XA (p:=⟨W.heap.size,0,none⟩) (.inl Ys) _).trans (Turns.setCell _ (p:=⟨W.heap.size,1,none⟩) (.inl Ys) _))))
  have anM:=bx (O4.turns (own:=λk=>k=W.heap.size) ⟨Si,Qw,vQ.o,pb.o,GV.o⟩ ((Turns.setCell (own:=λk=>k=W.heap.size) XA (p:=⟨W.heap.size,0,none⟩) rfl (.bool (T.cased c r))).trans (Turns.setCell (own:=λk=>k=W.heap.size) _ (p:=⟨W.heap.size,1,none⟩) rfl (.bool (T.al c r)))) (by omega));exact bodyPost_ret (v:=.agg #[.bool (T.cased c r),.bool (T.al c r)]) (results_cell_row results243 _ _ W.heap.size 329 _ (0,0) _ rfl ((Jj.o.ai 0 (.bool (T.cased c r))).ai 1 (.bool (T.al c r))) underlying329 rfl afm) rfl ⟨rfl,Y8.o,anM.o⟩
