/- Texts of this claim. -/
import Derived.Test.YtdponihkpomheaaGreatDoorH24

set_option maxRecDepth 100000
set_option maxHeartbeats 16000000
namespace Go.Proofs.YtdponihkpomheaaGreatDoor
open Go.RowKit
attribute [local go_sem] Oper.semAt_some
open Go.Proofs.Tryz
namespace C
theorem aez {g:Ga} {ls:List (List Int)} {M:Nat} (h:∀ y∈ls,(U.textOf y).length<=M):∀ (f i:Nat) (c:Int),(wJ g ls f i c).length<=f*M
 | 0,i,c=>by simp [wJ]
 | f+1,i,c=>by
  unfold wJ
  split
  ·simp
  split
  ·simp
  rw [bC,BX,Nat.one_mul];have h1:=aez (g:=g) h f (i+1) (c-meas g (ls.getD (i % ls.length) []));have h2:(U.textOf (ls.getD (i % ls.length) [])).length<=M:=by
   rw [fO]
   cases hx:ls[i % ls.length]? with
   | none=>simp [U.textOf]
   | some y=>exact h y (dB hx)
  omega
theorem Ri {k:Kt} {e:List UInt8} (hb:bH k=true) (hz:e.length<=60) {c:Int} (hc:c<=300):(gu k e c).length<=4000000:=by
 obtain⟨h1,h2⟩:=adG hb hz;have h3:=aez (g:=kg k 2) h2 (c.toNat*(aO k.c e).length+(aO k.c e).length+1) 0 c;have h4:c.toNat*(aO k.c e).length<=300*60:=zA (by omega) h1;unfold gu JC;omega
theorem YB {k:Kt} {s e:List UInt8} {n d r:Int} (h:bH k=true) (h1:s.length<=600) (h2:e.length<=60) (hr:(if n<0\/300<n then (161:Int) else if d<0\/2<d then 2 else if bZ (kg k 2) e=0 then 163 else 0)=r) (h0:r≠0):jV k s n e d=[]/\iY k s n e d=r:=by
 have h3:iY k s n e d=r:=by unfold iY;rw [aG (uV h h1 h2)];exact hr
 exact⟨by unfold jV;rw [aF (by rw [h3];exact h0)],h3⟩
theorem Vx {k:Kt} {s e:List UInt8} {n d:Int} (h:bH k=true) (h1:s.length<=600) (h2:e.length<=60) (hn:0<=n/\n<=300) (hd:0<=d/\d<=2) (hm:bZ (kg k 2) e≠0):jV k s n e d=DL k s (wW k s n) e d/\iY k s n e d=0:=by
 have h3:iY k s n e d=0:=by unfold iY;rw [aG (uV h h1 h2),aF (by omega),aF (by omega),aF hm]
 exact⟨by unfold jV;rw [aG h3],h3⟩
end C
theorem YI {g:C.Ga} {s:ByteArray} (hz:s.size<=800):C.bZ g s.data.toList<=8000000:=by
 unfold C.bZ
 split
 ·refine aeG ?_ (λy hy=>(Uk hz y hy).2.2) _ aU;rw [C.Gt];have h1:=(qg g.t s.data.toList).2.len;have h2:=uJ s.data.toList;rw [<- size_eq] at h2;omega
 decide
def sQ:MapEntry:=⟨ah 0, .func (.func 137) #[] #[],0⟩
def sd2:MapEntry:=⟨ah 1, .func (.func 138) #[] #[],1⟩
def uw:MapEntry:=⟨ah 2, .func (.func 139) #[] #[],2⟩
theorem ac8:DJ #[sQ,sd2,uw]:=by
 intro x hx;simp only [fB,qV,or_false] at hx
 rcases hx with rfl | rfl | rfl <;> exact⟨_,rfl⟩
def A8 (d:Int):Value:=if d=0 then sQ.val else if d=1 then sd2.val else if d=2 then uw.val else .nilFunc
theorem IY (d:Int) (h:Nat) (W:World) (hW:W.heap[h]?=some (.map #[sQ,sd2,uw] 3)) :
  (Instr.lookup 113 (.map (some h)) (ah d) true).run prog W = .ok (.tuple #[A8 d, .bool (decide (0<=d)&&decide (d<=2))]) W:=by
 have h1:=aei (P:=prog) underlying113 underlying3 W _ 3 d h hW ac8 .nilFunc (by kernel_rfl);rw [h1];unfold A8
 by_cases h0:d=0
 ·subst h0;rfl
 by_cases h2:d=1
 ·subst h2;rfl
 by_cases h3:d=2
 ·subst h3;rfl
 have e1:(decide (0<=d)&&decide (d<=2))=false:=by
  rw [Ub]
  rcases sZ d 0 with h | h
  ·exact .inl (dh (by omega))
  exact .inr (dh (by omega))
 rw [aF h0,aF h2,aF h3,e1];have e2:Az #[sQ,sd2,uw] d=none:=by
  rw [Ey ac8];simp [qw,zn,sQ,sd2,uw,Ne.symm h0,Ne.symm h2,Ne.symm h3]
 rw [e2]
 rfl
theorem Hl (w:World) :
  Calls prog 75 #[] w λe w'=>e = .returned (.map (some w.heap.size))/\w'.heap[w.heap.size]?=some (.map #[sQ,sd2,uw] 3)/\ak w w':=by
 have hmm:=@run_makeMap prog;have Fv:=λ(W:World)=>yN (P:=prog) underlying113 underlying3 W #[] 0 0 sQ.val W.heap.size rfl rfl
 have Es:=λ(W:World)=>yN (P:=prog) underlying113 underlying3 W #[sQ] 1 1 sd2.val W.heap.size rfl rfl
 have Fg:=λ(W:World)=>yN (P:=prog) underlying113 underlying3 W #[sQ,sd2] 2 2 uw.val W.heap.size rfl rfl
 simp only [ou,iJ,jd,sQ,sd2,uw,Nat.reduceAdd,Nat.zero_add] at Fv Es Fg
 go_in
 go_wp2
 go_ret
 exact⟨rfl,World.alloc_heap_new w _,dA w _⟩
theorem aoF (c:Int) (w:World) (h0:0<=c) (h1:c<=300):Calls prog 139 #[ah c] w λe w'=>e = .returned (.tuple #[ah (c / 2), ah (c-c / 2)])/\ak w w':=by
 have ht:c.tdiv 2=c / 2:=by rw [Int.tdiv_eq_ediv_of_nonneg h0]
 have hb1:0<=c / 2:=by omega
 have hb2:c / 2<=c:=by omega
 go_in
 go_wp2
 go_ret2
 exact⟨rfl,Below.refl _ _⟩
theorem aed (A:Nat->Addr) (B:Nat) (v:Value) (k:C.Kt) (s:ByteArray) (n:Int) (e:ByteArray) (d:Int) (w:World) (hv:dS w v k) (hs:gY k) (hz:s.size<=260) (hze:e.size<=60) (hS:Sw A B w) (hb:C.bH k=true) (hn:¬ (n<0\/300<n)) (hd:¬ (d<0\/2<d)) (hm0:C.bZ (C.kg k 2) e.data.toList=0) :
  Calls prog 29 #[v, .string s, ah n, .string e, ah d] w λen w'=>en = .returned (.tuple #[.string (bs (C.jV k s.data.toList n e.data.toList d)), ah (C.iY k s.data.toList n e.data.toList d)])/\ak w w':=by
 obtain⟨kz,V,rfl,hkz,HV,HB0,aI,dM,dK⟩:=oL hv hS;have HOW:=bx (HB0.o.trans ((dA V (.cells #[.string e] 9)).mono HB0.o.size));have fH:=bx (λ(hb:C.bH k=true) (hz:s.size<=600) (hp:e.size<=60)=>uQ A B _ (.slice (some ⟨V.heap.size,0,none⟩) 1 1) k s [e.data.toList] _ (dM.o _ HOW.o) hs (dK.o _ HOW.o) hb (xW V e 9) hz (by simp) (λp hq=>by rw [fU.1 hq,<- size_eq];exact hp));obtain⟨dv,hdv⟩:∃ v,v=A8 d:=⟨_,rfl⟩
 obtain⟨db,hdb⟩:∃ b,b=(decide (0<=d)&&decide (d<=2)):=⟨_,rfl⟩
 have nO:=bx (λh W (hW:W.heap[h]?=some (.map #[sQ,sd2,uw] 3))=>IY d h W hW);rw [<- hdv,<- hdb] at nO;have HO:=bx (fH.o hb (by omega) hze);have hs1:s.data.toList.length<=600:=by rw [<- size_eq];omega
 have he1:e.data.toList.length<=60:=by rw [<- size_eq];omega
 have lF:=bx (λg W (h:ak w W) (hg:mW W g k)=>DZ A B g k 2 e W hg hs (by omega) (hS.below h));have d0:decide (n<0)=false:=dh (by omega);have d1:decide (300<n)=false:=dh (by omega);obtain rfl:db=true:=by rw [hdb,bD (show 0<=d by omega),bD (show d<=2 by omega)];rfl
 have HR:=bx (C.YB (s:=s.data.toList) (e:=e.data.toList) (n:=n) (d:=d) (r:=163) hb hs1 he1 (by rw [aF hn,aF hd,aG hm0]) (by decide));rw [hm0] at lF;clear fH hb hs hS hz hze dM hdv hdb hs1 he1;have hld:=aI.o V aZ
 go_in
 go_upto_region 1 with(fail)
 rw [<- HV.o];go_wp2_with (refine eF rfl _ rfl _ rfl hld hkz ?_)
 refine HO.o.mono ?_;rintro en w1 ⟨⟨g,rfl,hwk,-⟩,hb1⟩;have HB1:=aJ HOW hb1;have kF:=bx hwk;clear hb1 hwk hld;go_wp2_with fail;refine(Hl w1).mono ?_;rintro en w2 ⟨rfl,hm,hb2⟩;have HB2:=aJ HB1 hb2;have hlk:=nO.o _ w2 hm;have Dj:=bx (kF.o.below hb2);clear hb2;go_wp2_with fail;refine dI (lF.o g w2 HB2.o Dj.o) HB2.o λw3 HB3=>?_
 go_wp2
 go_ret2
 exact⟨by rw [HR.o.1,HR.o.2] <;> rfl,HB3.o⟩
theorem abo (A:Nat->Addr) (B:Nat) (v:Value) (k:C.Kt) (s:ByteArray) (n:Int) (e:ByteArray) (d:Int) (w:World) (hv:dS w v k) (hs:gY k) (hz:s.size<=260) (hze:e.size<=60) (hS:Sw A B w) (hb:C.bH k=true) (hn:¬ (n<0\/300<n)) (hd:¬ (d<0\/2<d)) (hm0:¬ (C.bZ (C.kg k 2) e.data.toList=0)) (hdd:d=2) :
  Calls prog 29 #[v, .string s, ah n, .string e, ah d] w λen w'=>en = .returned (.tuple #[.string (bs (C.jV k s.data.toList n e.data.toList d)), ah (C.iY k s.data.toList n e.data.toList d)])/\ak w w':=by
 obtain⟨kz,V,rfl,hkz,HV,HB0,aI,dM,dK⟩:=oL hv hS;have HOW:=bx (HB0.o.trans ((dA V (.cells #[.string e] 9)).mono HB0.o.size));have fH:=bx (λ(hb:C.bH k=true) (hz:s.size<=600) (hp:e.size<=60)=>uQ A B _ (.slice (some ⟨V.heap.size,0,none⟩) 1 1) k s [e.data.toList] _ (dM.o _ HOW.o) hs (dK.o _ HOW.o) hb (xW V e 9) hz (by simp) (λp hq=>by rw [fU.1 hq,<- size_eq];exact hp));obtain⟨dv,hdv⟩:∃ v,v=A8 d:=⟨_,rfl⟩
 obtain⟨db,hdb⟩:∃ b,b=(decide (0<=d)&&decide (d<=2)):=⟨_,rfl⟩
 have nO:=bx (λh W (hW:W.heap[h]?=some (.map #[sQ,sd2,uw] 3))=>IY d h W hW);rw [<- hdv,<- hdb] at nO;have HO:=bx (fH.o hb (by omega) hze);have hs1:s.data.toList.length<=600:=by rw [<- size_eq];omega
 have he1:e.data.toList.length<=60:=by rw [<- size_eq];omega
 have lF:=bx (λg W (h:ak w W) (hg:mW W g k)=>DZ A B g k 2 e W hg hs (by omega) (hS.below h));have d0:decide (n<0)=false:=dh (by omega);have d1:decide (300<n)=false:=dh (by omega);obtain rfl:db=true:=by rw [hdb,bD (show 0<=d by omega),bD (show d<=2 by omega)];rfl
 have HR:=bx (C.Vx (s:=s.data.toList) (e:=e.data.toList) (n:=n) (d:=d) hb hs1 he1 ⟨by omega,by omega⟩ ⟨by omega,by omega⟩ hm0);obtain⟨p,hp⟩:∃ p,C.Dc (C.kg k 2) (C.aO k.c e.data.toList) p:=by
  have h:=hm0;unfold C.bZ at h;rw [aG (C.nU (s:=e.data.toList) (C.CY hb (i:=2) (by decide) (by decide)) (by omega))] at h;exact C.X7 h
 have qX:=bx (λg W (h:ak w W) (hg:mW W g k)=>DZ A B g k 2 s W hg hs (by omega) (hS.below h));have oq:=bx (λg (c:Int) (hc:c<=300) W (h:ak w W) (hg:mW W g k)=>Ye A B g p k e c W hg hs hb hze hc hp (hS.below h));have vP:=bx (λW (h:ak w W)=>wZ A B s W (by omega) (hS.below h).e (hS.below h).le);have jq:=bx (λ(c:Int) (hc:c<=300)=>C.Ri (e:=e.data.toList) hb he1 hc);have hfx:=C.qJ s.data.toList;rw [<- size_eq] at hfx;have hm2:(C.bZ (C.kg k 2) e.data.toList==0)=false:=by rw [fG];exact hm0
 obtain⟨c,hc⟩:∃ c,c=C.wW k s.data.toList n:=⟨_,rfl⟩
 have hcm:max (n-C.bZ (C.kg k 2) s.data.toList) 0=c:=by rw [hc];rfl
 rw [<- hc] at HR;have hmn:0<=C.bZ (C.kg k 2) s.data.toList:=by
  unfold C.bZ
  split
  ·exact C.N9 _ _ _
  exact Int.le_refl 0
 have hmx:C.bZ (C.kg k 2) s.data.toList<=8000000:=YI (by omega);have hc0:0<=c:=by omega
 have hc3:c<=300:=by omega
 have hz0:=C.WQ k e.data.toList;subst hdd;obtain rfl:dv=uw.val:=by rw [hdv];rfl
 have hY:C.jV k s.data.toList n e.data.toList 2=(C.gu k e.data.toList (c / 2)++M.fix s.data.toList)++C.gu k e.data.toList (c-c / 2):=by
  rw [HR.o.1];unfold C.DL;rw [aF (by decide),aF (by decide),pz]
 have jC:=bx (show C.jV k s.data.toList n e.data.toList 2=(C.gu k e.data.toList (c / 2)++M.fix s.data.toList)++C.gu k e.data.toList (c-c / 2)/\C.iY k s.data.toList n e.data.toList 2=0 from⟨hY,HR.o.2⟩);have hl1:=jq.o (c / 2) (by omega);have hl2:=jq.o (c-c / 2) (by omega);have F1:=bx (λg=>oq.o g (c / 2) (by omega));have F2:=bx (λg=>oq.o g (c-c / 2) (by omega));have a1:=EH (C.gu k e.data.toList (c / 2)) (M.fix s.data.toList);have a2:=EH (C.gu k e.data.toList (c / 2)++M.fix s.data.toList) (C.gu k e.data.toList (c-c / 2));have z1:(bs (C.gu k e.data.toList (c / 2))).size+(bs (M.fix s.data.toList)).size<=100000000:=by rw [dN,dN];omega
 have z2:(bs (C.gu k e.data.toList (c / 2)++M.fix s.data.toList)).size+(bs (C.gu k e.data.toList (c-c / 2))).size<=100000000:=by rw [dN,dN,bC];omega
 obtain⟨pa,hpa⟩:∃ t,t=C.gu k e.data.toList (c / 2):=⟨_,rfl⟩
 rw [<- hpa] at jC F1 a1 a2 z1 z2;obtain⟨pb,hpb⟩:∃ t,t=C.gu k e.data.toList (c-c / 2):=⟨_,rfl⟩
 rw [<- hpb] at jC F2 a2 z2;generalize M.fix s.data.toList=fx at jC vP a1 a2 z1 z2;generalize C.bZ (C.kg k 2) e.data.toList=me at lF hm2;generalize C.bZ (C.kg k 2) s.data.toList=ms at qX hcm hmn hmx;have SD:=bx (λW=>aoF c W hc0 hc3);have z3:(bs pa).size+fx.length<=100000000:=by rw [<- dN fx];exact z1
 have z4:(bs (pa++fx)).size+pb.length<=100000000:=by rw [<- dN pb];exact z2
 have hdz:A8 2=(.func (.func 139) #[] #[]:Value):=rfl;have hdy:(uw).val=(.func (.func 139) #[] #[]:Value):=rfl;have hws:wrap64 (n-ms)=n-ms:=IntWalk.wrap64_in _ (by omega);clear fH hb hs hS hz hze dM hdb hs1 he1 oq jq hY hl1 hl2 HR hfx hm0 hp hc hz0 hn hd hpa hpb;have hld:=aI.o V aZ
 go_in
 go_upto_region 1 with(fail)
 rw [<- HV.o];go_wp2_with (refine eF rfl _ rfl _ rfl hld hkz ?_)
 refine HO.o.mono ?_;rintro en w1 ⟨⟨g,rfl,hwk,-⟩,hb1⟩;have HB1:=aJ HOW hb1;have kF:=bx hwk;clear hb1 hwk hld;go_wp2_with fail;refine(Hl w1).mono ?_;rintro en w2 ⟨rfl,hm,hb2⟩;have HB2:=aJ HB1 hb2;have hlk:=nO.o _ w2 hm;have Dj:=bx (kF.o.below hb2);clear hb2;go_wp2_with fail;refine aT (lF.o g w2 HB2.o Dj.o) λw3 hb3=>?_
 have HB3:=aJ HB2 hb3;have Gi:=bx (Dj.o.below hb3);clear hb3;go_wp2_with fail;refine aT (qX.o g w3 HB3.o Gi.o) λw4 hb4=>?_
 have HB4:=aJ HB3 hb4;have OE:=bx (Gi.o.below hb4);clear hb4;go_wp2_with fail;refine aT (SD.o w4) λw5 hb5=>?_
 have bU:=aJ HB4 hb5;have Gp:=bx (OE.o.below hb5);clear hb5;go_wp2_with fail;refine aT (F1.o g w5 bU.o Gp.o) λw6 hb6=>?_
 have eY:=aJ bU hb6;have Qc:=bx (Gp.o.below hb6);clear hb6;go_wp2_with fail;refine aT (vP.o w6 eY.o) λw7 hb7=>?_
 have bW:=aJ eY hb7;have F7:=bx (Qc.o.below hb7);clear hb7;go_wp2_with fail
 any_goals (first | (exfalso;omega) | skip)
 refine aT (F2.o g w7 bW.o F7.o) λw8 hb8=>?_
 have eU:=aJ bW hb8;have afM:=bx (F7.o.below hb8);clear hb8;go_wp2_with fail
 any_goals (first | (exfalso;omega) | skip)
 go_ret2
 exact⟨by rw [jC.o.1,jC.o.2] <;> rfl,eU.o⟩
section
attribute [local irreducible] F.iC
theorem bF.Gh:gY bF.kt:=⟨aQ.afy,aQ.afy,bF.apB,bF.atH⟩
theorem MH (A:Nat->Addr) (B:Nat) (w:World) (hS:Sw A B w) :
  Calls prog 13 #[] w λe w'=>e = .returned (.bool true)/\ak w w':=by
 have HS:=bx hS;clear hS;obtain⟨V1,hV1⟩:∃ V,V=w.alloc (.cells #[.string { data:=#[79,116,104,101,114] }, .string { data:=#[69,120,116,101,110,100] }] 9):=⟨_,rfl⟩
 have HB1:=bx (aB hV1);have AP:=bx (show cZ V1 (.slice (some ⟨w.heap.size,0,none⟩) 2 2) aQ.names by rw [hV1];exact adu w _ _ _);have hm:=axr aQ.props aQ.rule _ aQ.names aQ.r3 aQ.yV V1 AP.o aQ.nb aQ.akE aQ.rb3 aQ.YZ.1 aQ.YZ.2.1 aQ.YZ.2.2 (by decide) aQ.ac4 aQ.Xk.1 (by rw [show ((aQ.names.length:Nat):Int)=2 from rfl,aQ.Xk.2];exact aQ.fine);rw [show ((aQ.names.length:Nat):Int)=2 from rfl,aQ.Xk.2] at hm;have aix:=bx hm;have mV:=bx hV1;clear hm hV1
 go_in
 go_wp2_with fail;have hx:w.alloc (.cells #[.string { data:=#[79,116,104,101,114] }, .string { data:=#[69,120,116,101,110,100] }] 9)=V1:=mV.o.symm;rw [hx];clear hx;refine aix.o.mono ?_;rintro e w2 ⟨⟨xv,rfl,hxv⟩,hb2⟩;have Ry:=bx (show TabAt w2 xv aQ.tb from hxv);have HB2:=bx (bT HB1.o hb2);clear hxv hb2 aix AP mV HB1;obtain⟨pi,pb,rv,nv,fv,rfl,t1,t2,t3,t4,t5⟩:=Ry.o;obtain⟨b1,d1,rfl⟩:=t1.slice;obtain⟨b2,d2,rfl⟩:=t2.slice;obtain⟨b3,d3,rfl⟩:=t3.slice;obtain⟨b4,d4,rfl⟩:=t4.slice;obtain⟨b5,d5,rfl⟩:=t5.slice;clear t1 t2 t3 t4 t5;obtain⟨p1,hp1⟩:∃ q,aQ.tb.p.1.length=q:=⟨_,rfl⟩
 obtain⟨p2,hp2⟩:∃ q,aQ.tb.p.2.length=q:=⟨_,rfl⟩
 obtain⟨p3,hp3⟩:∃ q,aQ.tb.r.length=q:=⟨_,rfl⟩
 obtain⟨p4,hp4⟩:∃ q,aQ.tb.m.1.length=q:=⟨_,rfl⟩
 obtain⟨p5,Yo⟩:∃ q,aQ.tb.m.2.length=q:=⟨_,rfl⟩
 rw [hp1,hp2,hp3,hp4,Yo,show aQ.tb.n=2 from rfl] at Ry ⊢;clear hp1 hp2 hp3 hp4 Yo;obtain⟨V2,hV2⟩:∃ V,V=w2.alloc (.cells #[ah 2, .slice b1 p1 d1, .slice b2 p2 d2, .slice b3 p3 d3, .slice b4 p4 d4, .slice b5 p5 d5] 31):=⟨_,rfl⟩
 have oh:=bx (aK hV2);have k2:ak w2 V2:=by rw [hV2];exact dA _ _
 have HB2:=bx (bT HB2.o k2);have Qm:=bx (Ry.o.below k2);have MN:=bx (λW (h:ak V2 W)=>oh.o.d6 h);have aep:=bx (awJ bF.ads false bF.r4 V2 bF.awW bF.rb4);have iV:=bx hV2;clear hV2 k2 Ry;go_wp2_with fail;rw [<- iV.o];refine aep.o.mono ?_;rintro e w3 ⟨⟨wv,rfl,hwv⟩,hb3⟩;have GY:=bx (show WideAt w3 wv bF.wd from hwv);have HB3:=bx (bT HB2.o hb3);have pG:=bx (Qm.o.below hb3);have HD3:=bx hb3;clear hwv hb3 aep HB2 Qm iV;obtain⟨iv,bv,rfl,t6,t7⟩:=GY.o;obtain⟨b6,d6,rfl⟩:=t6.slice;obtain⟨b7,d7,rfl⟩:=t7.slice;clear t6 t7;obtain⟨p6,hp6⟩:∃ q,bF.wd.p.1.length=q:=⟨_,rfl⟩
 obtain⟨p7,hp7⟩:∃ q,bF.wd.p.2.length=q:=⟨_,rfl⟩
 rw [hp6,hp7,show bF.wd.wide=false from rfl] at GY ⊢;clear hp6 hp7;obtain⟨V3,DR⟩:∃ V,V=w3.alloc (.cells #[.slice b6 p6 d6, .slice b7 p7 d7, .bool false] 33):=⟨_,rfl⟩
 have mJ:=bx (aK DR);have k3:ak w3 V3:=by rw [DR];exact dA _ _
 have HB3:=bx (bT HB3.o k3);have pG:=bx (pG.o.below k3);have HW3:=bx (GY.o.below k3);have HD3:=bx (bT HD3.o k3);have Ux:=bx (λW (h:ak V3 W)=>mJ.o.d3 h);obtain⟨rs,hp,hd⟩:=bF.recs;have af4:=bx (aqP bF.data bF.core rs _ _ _ _ _ V3 hp hd bF.alm bF.rb1 bF.atB bF.rb2);have sV:=bx DR;clear DR k3 GY hp hd;go_wp2_with fail;rw [<- sV.o];refine af4.o.mono ?_;rintro e w4 ⟨⟨cv,rfl,hcv⟩,hb4⟩;have Hr:=bx (show o8 w4 cv bF.cs from hcv);have HB4:=bx (bT HB3.o hb4);have CB:=bx (pG.o.below hb4);have IG:=bx (HW3.o.below hb4);have HD4:=bx (bT HD3.o hb4);have Qs:=bx hb4;clear hcv hb4 af4 HB3 pG HW3 HD3 sV;obtain⟨lv,tv,ci,cb,gi,gb,rfl,h1,h2,h3,h4,h5,h6⟩:=Hr.o;obtain⟨a1,c1,rfl,-⟩:=h1.slice;obtain⟨a2,c2,rfl,-⟩:=h2.slice;obtain⟨a3,c3,rfl⟩:=h3.slice;obtain⟨a4,c4,rfl⟩:=h4.slice;obtain⟨a5,c5,rfl⟩:=h5.slice;obtain⟨a6,c6,rfl⟩:=h6.slice;clear h1 h2 h3 h4 h5 h6;obtain⟨q1,hq1⟩:∃ q,bF.cs.lo.length=q:=⟨_,rfl⟩
 obtain⟨q2,hq2⟩:∃ q,bF.cs.ti.length=q:=⟨_,rfl⟩
 obtain⟨q3,hq3⟩:∃ q,bF.cs.ca.1.length=q:=⟨_,rfl⟩
 obtain⟨q4,hq4⟩:∃ q,bF.cs.ca.2.length=q:=⟨_,rfl⟩
 obtain⟨q5,hq5⟩:∃ q,bF.cs.ig.1.length=q:=⟨_,rfl⟩
 obtain⟨q6,hq6⟩:∃ q,bF.cs.ig.2.length=q:=⟨_,rfl⟩
 rw [hq1,hq2,hq3,hq4,hq5,hq6] at Hr ⊢;clear hq1 hq2 hq3 hq4 hq5 hq6;obtain⟨V4,Jh⟩:∃ V,V=w4.alloc (.cells #[.slice a1 q1 c1, .slice a2 q2 c2, .slice a3 q3 c3, .slice a4 q4 c4, .slice a5 q5 c5, .slice a6 q6 c6] 36):=⟨_,rfl⟩
 have BJ:=bx (aK Jh);have k4:ak w4 V4:=by rw [Jh];exact dA _ _
 have HB4:=bx (bT HB4.o k4);have CB:=bx (CB.o.below k4);have IG:=bx (IG.o.below k4);have Iq:=bx (Hr.o.below k4);have HD4:=bx (bT HD4.o k4);have Qs:=bx (bT Qs.o k4);have aI:=bx (λW (h:ak V4 W)=>BJ.o.d6 h);have FM:=bx Jh;clear Jh k4 Hr
 go_upto_region 4 with(fail)
 rw [<- FM.o];obtain⟨e0,e1,e2,e3,e4,e5,el⟩:=MN.o V4 HD4.o;obtain⟨f0,f1,f2,fl⟩:=Ux.o V4 Qs.o;obtain⟨VA,S9⟩:∃ V,V=V4.alloc (.cells #[ah 0, aj, aj, aj, aj, aj, ah 0, aj, aj, aj, aj, aj, aj, aj, .bool false, aj, aj, aj, aj, aj, aj] 38):=⟨_,rfl⟩
 have hld:aC VA V4.heap.size 38 #[ah 0, aj, aj, aj, aj, aj, ah 0, aj, aj, aj, aj, aj, aj, aj, .bool false, aj, aj, aj, aj, aj, aj]:=by rw [S9];exact aC.new _ _ _
 have ka:ak V4 VA:=by rw [S9];exact dA V4 _
 obtain⟨V5,TR⟩:∃ V,V=VA.setRow V4.heap.size #[ah 2, .slice b1 p1 d1, .slice b2 p2 d2, .slice b3 p3 d3, .slice b4 p4 d4, .slice b5 p5 d5, ah 2, .slice b1 p1 d1, .slice b2 p2 d2, .slice b3 p3 d3, .slice b4 p4 d4, .slice b5 p5 d5, .slice b6 p6 d6, .slice b7 p7 d7, .bool false, .slice a1 q1 c1, .slice a2 q2 c2, .slice a3 q3 c3, .slice a4 q4 c4, .slice a5 q5 c5, .slice a6 q6 c6]:=⟨_,rfl⟩
 have Cc:=bx (show aC V5 V4.heap.size 38 #[ah 2, .slice b1 p1 d1, .slice b2 p2 d2, .slice b3 p3 d3, .slice b4 p4 d4, .slice b5 p5 d5, ah 2, .slice b1 p1 d1, .slice b2 p2 d2, .slice b3 p3 d3, .slice b4 p4 d4, .slice b5 p5 d5, .slice b6 p6 d6, .slice b7 p7 d7, .bool false, .slice a1 q1 c1, .slice a2 q2 c2, .slice a3 q3 c3, .slice a4 q4 c4, .slice a5 q5 c5, .slice a6 q6 c6] by rw [TR];exact hld.setRow _);have k5:ak V4 V5:=by
  rw [TR];exact ka.trans ((Turns.setRow (W:=VA) (own:=λq=>q=V4.heap.size) (g:=V4.heap.size) rfl _).below ka.size (λq hq=>by omega))
 have bU:=bx (bT HB4.o k5);have AY:=bx (CB.o.below k5);have HW5:=bx (IG.o.below k5);have xw:=bx (Iq.o.below k5);have kR:=bx (λW (h:ak V5 W)=>Cc.o.below h Cc.o.lt);have HV5:=bx TR;clear TR k5
 go_upto_region 5 with(
  obtain⟨g0,g1,g2,g3,g4,g5,gl⟩:=aI.o V4 aZ;refine wpList_plain rfl λK hK=>?_
  go_simp;refine hK _ _ ?_;clear hK K;refine wpList_plain rfl λK hK=>?_
  go_simp;refine hK _ _ ?_;clear hK K;refine wpList_plain rfl λK hK=>?_
  go_simp;refine hK _ _ ?_;clear hK K;refine wpList_plain rfl λK hK=>?_
  go_simp;refine hK _ _ ?_;clear hK K;refine wpList_plain rfl λK hK=>?_
  go_simp;refine hK _ _ ?_;clear hK K;refine wpList_plain rfl λK hK=>?_
  go_simp;refine hK _ _ ?_;clear hK K;clear g0 g1 g2 g3 g4 g5 gl;rw [<- S9];refine Jl rfl _ _ rfl _ rfl rfl hld rfl (by rfl) (by kernel_rfl) ?_)
 rw [<- HV5.o];clear e0 e1 e2 e3 e4 e5 el f0 f1 f2 fl hld S9 ka;have qp:=bx (λW (h:ak V5 W)=>show dS W (.agg #[ah 2, .slice b1 p1 d1, .slice b2 p2 d2, .slice b3 p3 d3, .slice b4 p4 d4, .slice b5 p5 d5, ah 2, .slice b1 p1 d1, .slice b2 p2 d2, .slice b3 p3 d3, .slice b4 p4 d4, .slice b5 p5 d5, .slice b6 p6 d6, .slice b7 p7 d7, .bool false, .slice a1 q1 c1, .slice a2 q2 c2, .slice a3 q3 c3, .slice a4 q4 c4, .slice a5 q5 c5, .slice a6 q6 c6]) bF.kt from⟨_,_,_,_,_,_,_,_,_,_,_,_,_,_,_,_,_,_,_,_,_,rfl,⟨rfl,rfl,rfl,AY.o.below h,HW5.o.below h,xw.o.below h,AY.o.below h⟩⟩);have bG:=bx (λW (h:ak V5 W)=>HS.o.below (bT bU.o h));generalize V4.heap.size=gb at kR ⊢;clear oh mJ BJ Cc CB AY IG HW5 Iq xw HD4 Qs FM HV5 HB4 HS MN Ux aI;have hx:=abR A B _ bF.kt 2 (bs bF.t1) (bs bF.t5) 3 V5 (qp.o V5 (Below.refl _ V5)) bF.Gh (by decide) (by decide) (bG.o V5 (Below.refl _ V5)) bF.Ad (by decide) (by decide);rw [show (bs bF.t1).data.toList=bF.t1 from rfl,show (bs bF.t5).data.toList=bF.t5 from rfl,bF.trunc1.1,bF.trunc1.2] at hx;have HF:=bx (show Calls prog 15 #[.agg #[ah 2, .slice b1 p1 d1, .slice b2 p2 d2, .slice b3 p3 d3, .slice b4 p4 d4, .slice b5 p5 d5, ah 2, .slice b1 p1 d1, .slice b2 p2 d2, .slice b3 p3 d3, .slice b4 p4 d4, .slice b5 p5 d5, .slice b6 p6 d6, .slice b7 p7 d7, .bool false, .slice a1 q1 c1, .slice a2 q2 c2, .slice a3 q3 c3, .slice a4 q4 c4, .slice a5 q5 c5, .slice a6 q6 c6], ah 2, .string { data:=#[97,98,99,100] }, ah 3, .string { data:=#[46] }] V5 λe w'=>e = .returned (.tuple #[.string { data:=#[97,98,46] }, ah 0])/\ak V5 w' from hx);have hld:=kR.o V5 (Below.refl _ V5);clear hx;go_wp2_with (refine eF rfl _ rfl _ rfl hld rfl ?_)
 refine aT HF.o λw6 hb=>?_
 have tY:=bx (bT (Below.refl _ V5) hb);clear hld hb HF;have hx:=abV A B _ bF.kt (bs bF.t6) w6 (qp.o w6 tY.o) bF.Gh (by decide) (bG.o w6 tY.o) bF.Ad;rw [show (bs bF.t6).data.toList=bF.t6 from rfl,bF.aje.1,bF.aje.2] at hx;have HF:=bx (show Calls prog 22 #[.agg #[ah 2, .slice b1 p1 d1, .slice b2 p2 d2, .slice b3 p3 d3, .slice b4 p4 d4, .slice b5 p5 d5, ah 2, .slice b1 p1 d1, .slice b2 p2 d2, .slice b3 p3 d3, .slice b4 p4 d4, .slice b5 p5 d5, .slice b6 p6 d6, .slice b7 p7 d7, .bool false, .slice a1 q1 c1, .slice a2 q2 c2, .slice a3 q3 c3, .slice a4 q4 c4, .slice a5 q5 c5, .slice a6 q6 c6], .string { data:=#[97,204,129,98] }] w6 λe w'=>e = .returned (.tuple #[.string { data:=#[98,97,204,129] }, ah 0])/\ak w6 w' from hx);have hld:=kR.o w6 tY.o;clear hx;go_wp2_with (refine eF rfl _ rfl _ rfl hld rfl ?_)
 refine aT HF.o λw7 hb=>?_
 have HG2:=bx (bT tY.o hb);clear hld hb HF;have hx:=abq A B _ bF.kt (bs bF.t7) (bs [45]) w7 (qp.o w7 HG2.o) bF.Gh (by decide) (by decide) (bG.o w7 HG2.o) bF.Ad (by decide);rw [show (bs bF.t7).data.toList=bF.t7 from rfl,show (bs [45]).data.toList=[45] from rfl,bF.acg.1,bF.acg.2] at hx;have hx:Calls prog 26 #[.agg #[ah 2, .slice b1 p1 d1, .slice b2 p2 d2, .slice b3 p3 d3, .slice b4 p4 d4, .slice b5 p5 d5, ah 2, .slice b1 p1 d1, .slice b2 p2 d2, .slice b3 p3 d3, .slice b4 p4 d4, .slice b5 p5 d5, .slice b6 p6 d6, .slice b7 p7 d7, .bool false, .slice a1 q1 c1, .slice a2 q2 c2, .slice a3 q3 c3, .slice a4 q4 c4, .slice a5 q5 c5, .slice a6 q6 c6], .string { data:=#[97,45,98,45,45,99] }, .string { data:=#[45] }] w7 λe w'=>(∃ v',e = .returned (.tuple #[v', ah 0])/\cZ w' v' [[97],[98],[],[99]])/\ak w7 w':=hx
 have HF:=bx hx;have hld:=kR.o w7 HG2.o;clear hx;go_wp2_with (refine eF rfl _ rfl _ rfl hld rfl ?_)
 refine HF.o.mono ?_;rintro e w8 ⟨⟨mv,rfl,hmv⟩,hb⟩;have qR:=bx (bT HG2.o hb);obtain⟨ma,mc,rfl⟩:∃ ma mc,mv = .slice ma 4 mc:=⟨_,_,(hmv.slice.choose_spec.choose_spec).1⟩
 have oC:=bx hmv;clear hmv;clear hld hb HF;have hx:=abo A B _ bF.kt (bs bF.t8) 7 (bs bF.t9) 2 w8 (qp.o w8 qR.o) bF.Gh (by decide) (by decide) (bG.o w8 qR.o) bF.Ad (by decide) (by decide) (by rw [show C.bZ (C.kg bF.kt 2) (bs bF.t9).data.toList=3 from bF.aiG];decide) rfl;rw [show (bs bF.t8).data.toList=bF.t8 from rfl,show (bs bF.t9).data.toList=bF.t9 from rfl,bF.agU.1,bF.agU.2] at hx;have HF:=bx (show Calls prog 29 #[.agg #[ah 2, .slice b1 p1 d1, .slice b2 p2 d2, .slice b3 p3 d3, .slice b4 p4 d4, .slice b5 p5 d5, ah 2, .slice b1 p1 d1, .slice b2 p2 d2, .slice b3 p3 d3, .slice b4 p4 d4, .slice b5 p5 d5, .slice b6 p6 d6, .slice b7 p7 d7, .bool false, .slice a1 q1 c1, .slice a2 q2 c2, .slice a3 q3 c3, .slice a4 q4 c4, .slice a5 q5 c5, .slice a6 q6 c6], .string { data:=#[97,98] }, ah 7, .string { data:=#[120,121,122] }, ah 2] w8 λe w'=>e = .returned (.tuple #[.string { data:=#[120,121,97,98,120,121,122] }, ah 0])/\ak w8 w' from hx);have hld:=kR.o w8 qR.o;clear hx;go_wp2_with (refine eF rfl _ rfl _ rfl hld rfl ?_)
 refine aT HF.o λw9 hb=>?_
 have Ob:=bx (bT qR.o hb);have oC:=bx (oC.o.below hb);clear hld hb HF;have hx:=aiS A B _ bF.kt (bs bF.t6) 4 2 w9 (qp.o w9 Ob.o) bF.Gh (by decide) (by decide) (by decide) (bG.o w9 Ob.o) bF.Ad (by decide);rw [show (bs bF.t6).data.toList=bF.t6 from rfl,bF.aa6.1,bF.aa6.2] at hx;have HF:=bx (show Calls prog 20 #[.agg #[ah 2, .slice b1 p1 d1, .slice b2 p2 d2, .slice b3 p3 d3, .slice b4 p4 d4, .slice b5 p5 d5, ah 2, .slice b1 p1 d1, .slice b2 p2 d2, .slice b3 p3 d3, .slice b4 p4 d4, .slice b5 p5 d5, .slice b6 p6 d6, .slice b7 p7 d7, .bool false, .slice a1 q1 c1, .slice a2 q2 c2, .slice a3 q3 c3, .slice a4 q4 c4, .slice a5 q5 c5, .slice a6 q6 c6], .string { data:=#[97,204,129,98] }, ah 4, ah 2] w9 λe w'=>e = .returned (.tuple #[.string { data:=#[97,204,129] }, ah 0])/\ak w9 w' from hx);have hld:=kR.o w9 Ob.o;clear hx;go_wp2_with (refine eF rfl _ rfl _ rfl hld rfl ?_)
 refine aT HF.o λw10 hb=>?_
 have AU:=bx (bT Ob.o hb);have oC:=bx (oC.o.below hb);clear hld hb HF;have hx:=ahn A B _ bF.kt (bs bF.t8) 1 9 w10 (qp.o w10 AU.o) bF.Gh (by decide) (bG.o w10 AU.o) bF.Ad (by decide);rw [show (bs bF.t8).data.toList=bF.t8 from rfl,bF.ach.1,bF.ach.2] at hx;have HF:=bx (show Calls prog 24 #[.agg #[ah 2, .slice b1 p1 d1, .slice b2 p2 d2, .slice b3 p3 d3, .slice b4 p4 d4, .slice b5 p5 d5, ah 2, .slice b1 p1 d1, .slice b2 p2 d2, .slice b3 p3 d3, .slice b4 p4 d4, .slice b5 p5 d5, .slice b6 p6 d6, .slice b7 p7 d7, .bool false, .slice a1 q1 c1, .slice a2 q2 c2, .slice a3 q3 c3, .slice a4 q4 c4, .slice a5 q5 c5, .slice a6 q6 c6], .string { data:=#[97,98] }, ah 1, ah 9] w10 λe w'=>e = .returned (.tuple #[.string { data:=#[98] }, ah 0])/\ak w10 w' from hx);have hld:=kR.o w10 AU.o;clear hx;go_wp2_with (refine eF rfl _ rfl _ rfl hld rfl ?_)
 refine aT HF.o λDN hb=>?_
 have SI:=bx (bT AU.o hb);have oC:=bx (oC.o.below hb);clear hld hb HF;have hx:=au7 A B _ bF.kt (bs bF.t12) DN (qp.o DN SI.o) bF.Gh (by decide) (bG.o DN SI.o) bF.Ad;rw [show (bs bF.t12).data.toList=bF.t12 from rfl,(C.Xq bF.Ad (s:=bF.t12) (by decide)).1,(C.Xq bF.Ad (s:=bF.t12) (by decide)).2,show T.Cm bF.kt.s bF.kt.w bF.t12=0 from bF.adW.1,show T.Ew bF.kt.s bF.kt.w bF.t12=_ from bF.adW.2] at hx;have HF:=bx (show Calls prog 43 #[.agg #[ah 2, .slice b1 p1 d1, .slice b2 p2 d2, .slice b3 p3 d3, .slice b4 p4 d4, .slice b5 p5 d5, ah 2, .slice b1 p1 d1, .slice b2 p2 d2, .slice b3 p3 d3, .slice b4 p4 d4, .slice b5 p5 d5, .slice b6 p6 d6, .slice b7 p7 d7, .bool false, .slice a1 q1 c1, .slice a2 q2 c2, .slice a3 q3 c3, .slice a4 q4 c4, .slice a5 q5 c5, .slice a6 q6 c6], .string { data:=#[97,255] }] DN λe w'=>e = .returned (.tuple #[.string { data:=#[65,239,191,189] }, ah 0])/\ak DN w' from hx);have hld:=kR.o DN SI.o;clear hx;go_wp2_with (refine eF rfl _ rfl _ rfl hld rfl ?_)
 refine aT HF.o λw12 hb=>?_
 have Tz:=bx (bT SI.o hb);have oC:=bx (oC.o.below hb);clear hld hb HF;have hx:=aed A B _ bF.kt (bs []) 3 (bs bF.t10) 0 w12 (qp.o w12 Tz.o) bF.Gh (by decide) (by decide) (bG.o w12 Tz.o) bF.Ad (by decide) (by decide) bF.agx;rw [show (bs []).data.toList=[] from rfl,show (bs bF.t10).data.toList=bF.t10 from rfl,bF.aiz] at hx;have hz:C.jV bF.kt [] 3 bF.t10 0=[]:=by unfold C.jV;rw [bF.aiz];rfl
 rw [hz] at hx;clear hz;have HF:=bx (show Calls prog 29 #[.agg #[ah 2, .slice b1 p1 d1, .slice b2 p2 d2, .slice b3 p3 d3, .slice b4 p4 d4, .slice b5 p5 d5, ah 2, .slice b1 p1 d1, .slice b2 p2 d2, .slice b3 p3 d3, .slice b4 p4 d4, .slice b5 p5 d5, .slice b6 p6 d6, .slice b7 p7 d7, .bool false, .slice a1 q1 c1, .slice a2 q2 c2, .slice a3 q3 c3, .slice a4 q4 c4, .slice a5 q5 c5, .slice a6 q6 c6], .string { data:=#[] }, ah 3, .string { data:=#[204,129] }, ah 0] w12 λe w'=>e = .returned (.tuple #[.string { data:=#[] }, ah 163])/\ak w12 w' from hx);have hld:=kR.o w12 Tz.o;clear hx;go_wp2_with (refine eF rfl _ rfl _ rfl hld rfl ?_)
 refine aT HF.o λNY hb=>?_
 have OM:=bx (bT Tz.o hb);have oC:=bx (oC.o.below hb);clear hld hb HF;obtain⟨V6,RZ⟩:∃ V,V=NY.alloc (.cells #[.string { data:=#[97] }, .string { data:=#[98] }, .string { data:=#[] }, .string { data:=#[99] }] 9):=⟨_,rfl⟩
 have k6:ak NY V6:=by rw [RZ];exact dA _ _
 have i6:cZ V6 (.slice (some ⟨NY.heap.size,0,none⟩) 4 4) [[97],[98],[],[99]]:=by rw [RZ];exact gB.Q9 (xs:=[gW [97],gW [98],gW [],gW [99]]) (aC.new NY 9 #[.string { data:=#[97] }, .string { data:=#[98] }, .string { data:=#[] }, .string { data:=#[99] }]) (by simp)
 have HF6:=bx (akH _ _ [[97],[98],[],[99]] V6 (oC.o.below k6) i6 (by simp));have eY:=bx (bT OM.o k6);have Qe:=bx RZ;clear i6 k6 RZ;go_wp2_with fail;rw [<- Qe.o];refine aT HF6.o λw14 hb=>?_
 have HG9:=bx (bT bU.o (bT eY.o hb));clear hb
 go_wp2
 go_ret
 exact⟨rfl,HG9.o⟩
end
section
open Go.Shelf
def G7 (k:C.Kt):C.Kt:=⟨eH k.c,eH k.w,tq k.d,kJ k.s⟩
theorem Q7 (l:List F.Map):(C9 l).length<=40/\∀ x∈C9 l,x.2.length<=5:=by
 unfold C9;refine⟨by rw [aV,dw];omega,λx hx=>?_⟩;obtain⟨y,-,rfl⟩:=jM.1 hx;show (y.2.take 5).length<=5
 rw [dw];omega
theorem avP (c:T.Cs):T.Small (kJ c) where
 lo:=by have:=(Q7 c.lo).1;show (C9 c.lo).length<=_;omega
 loA:=λx hx=>by have:=(Q7 c.lo).2 x hx;omega
 ti:=by have:=(Q7 c.ti).1;show (C9 c.ti).length<=_;omega
 tiA:=λx hx=>by have:=(Q7 c.ti).2 x hx;omega
 c1:=by have:=(Bj c.ca).1;show (lY c.ca).1.length<=_;omega
 c2:=by have:=(Bj c.ca).2.1;show (lY c.ca).2.length<=_;omega
 g1:=by have:=(Bj c.ig).1;show (lY c.ig).1.length<=_;omega
 g2:=by have:=(Bj c.ig).2.1;show (lY c.ig).2.length<=_;omega
 c3:=λr hr=>by have:=(Bj c.ca).2.2 r hr;omega
 g3:=λr hr=>by have:=(Bj c.ig).2.2 r hr;omega
theorem LM (k:C.Kt):gY (G7 k):=⟨adK k.c,adK k.w,asT k.d,avP k.s⟩
theorem afU:(prog.info? 38).map (·.size)=some 21:=by kernel_rfl
theorem KW (v:Value) (k:C.Kt) (w0 w:World) (hv:dS w0 v k) (hb0:ak w0 w) :
  Calls prog 14 #[v] w λe w'=>ak w w'/\∃ v',e = .returned v'/\∀ W',Turns (λq=>q<w.heap.size) w' W'->ak w0 W'->dS W' v' (G7 k):=by
 obtain⟨ca,cp,cq,cr,cm,cf,wa,wp,wq,vr,wm,wf,iv,bv,wd,lo,ti,c1,c2,g1,g2,rfl,hk⟩:=hv;have HB0:=bx hb0;have pU:=bx (λW (h:ak w W)=>ajh _ k.c w0 W hk.c (bt HB0.o h));have HC2:=bx (λW (h:ak w W)=>ajh _ k.w w0 W hk.w (bt HB0.o h));have iw:=bx (λW (h:ak w W)=>auX _ k.d w0 W hk.d (bt HB0.o h));have Iq:=bx (λW (h:ak w W)=>anG _ k.s w0 W hk.s (bt HB0.o h));clear hk hb0;obtain⟨V,hV⟩:∃ V,V=(w.alloc (.cells #[ah ca,cp,cq,cr,cm,cf, ah wa,wp,wq,vr,wm,wf,iv,bv, .bool wd,lo,ti,c1,c2,g1,g2] 38)).alloc (.cells #[ah 0, aj, aj, aj, aj, aj, ah 0, aj, aj, aj, aj, aj, aj, aj, .bool false, aj, aj, aj, aj, aj, aj] 38):=⟨_,rfl⟩
 have bQ:=bx (show Sep [Pc.blk (w.heap.size+1) 38 #[ah 0, aj, aj, aj, aj, aj, ah 0, aj, aj, aj, aj, aj, aj, aj, .bool false, aj, aj, aj, aj, aj, aj],Pc.blk w.heap.size 38 #[ah ca,cp,cq,cr,cm,cf, ah wa,wp,wq,vr,wm,wf,iv,bv, .bool wd,lo,ti,c1,c2,g1,g2],Pc.old w.heap.size w] V by
  rw [hV];have h:=((Sep.start w).eu 38 #[ah ca,cp,cq,cr,cm,cf, ah wa,wp,wq,vr,wm,wf,iv,bv, .bool wd,lo,ti,c1,c2,g1,g2]).eu 38 #[ah 0, aj, aj, aj, aj, aj, ah 0, aj, aj, aj, aj, aj, aj, aj, .bool false, aj, aj, aj, aj, aj, aj]
  simpa using h)
 have fV:=bx (show ak w V from bQ.o.bel (by simp));have gU:=bx (bQ.o.blk 1 rfl);have kR:=bx (λW (h:ak V W)=>gU.o.c21 h);have HV:=bx hV;clear hV
 go_in
 go_upto_region 1 with(fail)
 rw [<- HV.o];refine jl 13 (λW=>ay W w.heap.size 0=some (ah ca)/\ay W w.heap.size 1=some (cp)/\ay W w.heap.size 2=some (cq)/\ay W w.heap.size 3=some (cr)/\ay W w.heap.size 4=some (cm)/\ay W w.heap.size 5=some (cf)/\ay W w.heap.size 6=some (ah wa)/\ay W w.heap.size 7=some (wp)/\ay W w.heap.size 8=some (wq)/\ay W w.heap.size 9=some (vr)/\ay W w.heap.size 10=some (wm)/\ay W w.heap.size 11=some (wf)/\ay W w.heap.size 12=some (iv)/\ay W w.heap.size 13=some (bv)/\ay W w.heap.size 14=some (.bool wd)/\ay W w.heap.size 15=some (lo)/\ay W w.heap.size 16=some (ti)/\ay W w.heap.size 17=some (c1)/\ay W w.heap.size 18=some (c2)/\ay W w.heap.size 19=some (g1)/\ay W w.heap.size 20=some (g2)/\w.heap.size<W.heap.size) (by kernel_rfl) ?_;have aX:=bx (show ak V V.drew from jg V 1);have gK:=bx (kR.o _ aX.o);have bM:=bx (bt fV.o aX.o);have dP:=bx bQ.o.drew;generalize V.drew=WR at *;refine jB [0,1,3,4,6,7,9,10] ?_
 iterate 8 (refine jA ?_ rfl gK.o ?_ ?_;rotate_left;·rintro w ⟨q1,q2,q3,q4,q5,q6,q7,q8,q9,q10,q11,q12,q13,jh,iZ,q16,je,jf,q19,q20,q21,q22⟩;go_simp;try with_reducible rfl)
 refine jr ?_;refine kP 2 rfl λKK au=>?_
 go_simp;refine(pU.o _ bM.o).mono ?_;rintro e w2 ⟨hb,v',rfl,ht⟩;have hX:=ht w2 (Turns.refl _ _) (HB0.o.trans ((bt bM.o hb).mono HB0.o.size));obtain⟨pi1,pb1,rv1,nv1,fv1,rfl,i1,i2,i3,i4,i5⟩:=hX;obtain⟨a1,b1,rfl⟩:=i1.slice;obtain⟨a2,b2,rfl⟩:=i2.slice;obtain⟨a3,b3,rfl⟩:=i3.slice;obtain⟨a4,b4,rfl⟩:=i4.slice;obtain⟨a5,b5,rfl⟩:=i5.slice;clear i1 i2 i3 i4 i5;have HT1:=bx ht;have Ql:=bx hb;have ahu:=bx (show ak V w2 from bt aX.o hb);have RN:=aJ bM hb;have apl:=bx (dP.o.below hb);clear hb ht;refine au.out _ _ (λ_=>kR.o _ ahu.o) ?_;clear au KK;refine kP 5 rfl λKK au=>?_
 go_simp;refine(HC2.o _ RN.o).mono ?_;rintro e w3 ⟨hb,v',rfl,ht⟩;have hX:=ht w3 (Turns.refl _ _) (HB0.o.trans ((bt RN.o hb).mono HB0.o.size));obtain⟨pi2,pb2,rv2,nv2,fv2,rfl,i1,i2,i3,i4,i5⟩:=hX;obtain⟨a6,b6,rfl⟩:=i1.slice;obtain⟨a7,b7,rfl⟩:=i2.slice;obtain⟨a8,b8,rfl⟩:=i3.slice;obtain⟨a9,b9,rfl⟩:=i4.slice;obtain⟨a10,b10,rfl⟩:=i5.slice;clear i1 i2 i3 i4 i5;have HT2:=bx ht;have Qm:=bx hb;have ad9:=bx (show ak V w3 from bt ahu.o hb);have Xj:=aJ RN hb;have anf:=bx (apl.o.below hb);clear hb ht;refine au.out _ _ (λ_=>kR.o _ ad9.o) ?_;clear au KK;refine kP 8 rfl λKK au=>?_
 go_simp;refine(iw.o _ Xj.o).mono ?_;rintro e w4 ⟨hb,v',rfl,ht⟩;have hX:=ht w4 (Turns.refl _ _) (HB0.o.trans ((bt Xj.o hb).mono HB0.o.size));obtain⟨iv3,bv3,rfl,i1,i2⟩:=hX;obtain⟨a11,b11,rfl⟩:=i1.slice;obtain⟨a12,b12,rfl⟩:=i2.slice;clear i1 i2;have anQ:=bx ht;have pG:=bx hb;have adP:=bx (show ak V w4 from bt ad9.o hb);have Vs:=aJ Xj hb;have atM:=bx (anf.o.below hb);clear hb ht;refine au.out _ _ (λ_=>kR.o _ adP.o) ?_;clear au KK;refine kP 11 rfl λKK au=>?_
 go_simp;refine(Iq.o _ Vs.o).mono ?_;rintro e w5 ⟨hb,v',rfl,ht⟩;have hX:=ht w5 (Turns.refl _ _) (HB0.o.trans ((bt Vs.o hb).mono HB0.o.size));obtain⟨l4,t4,ci4,cb4,gi4,gb4,rfl,i1,i2,i3,i4,i5,i6⟩:=hX;obtain⟨JI,b13,rfl,-⟩:=i1.slice;obtain⟨Iy,b14,rfl,-⟩:=i2.slice;obtain⟨Jd,b15,rfl⟩:=i3.slice;obtain⟨a16,b16,rfl⟩:=i4.slice;obtain⟨a17,b17,rfl⟩:=i5.slice;obtain⟨JQ,b18,rfl⟩:=i6.slice;clear i1 i2 i3 i4 i5 i6;have HT4:=bx ht;have CB:=bx hb;have acP:=bx (show ak V w5 from bt adP.o hb);have ax8:=aJ Vs hb;have ahN:=bx (atM.o.below hb);clear hb ht;refine au.out _ _ (λ_=>kR.o _ acP.o) ?_;clear au KK;refine kP 12 rfl λKK au=>?_
 go_simp;refine au.out _ _ (λ_=>kR.o _ acP.o) ?_;clear au KK;have iL:=bx (show Sep [Pc.blk (w.heap.size+1) 38 #[ah (eH k.c).n, .slice a1 (eH k.c).p.1.length b1, .slice a2 (eH k.c).p.2.length b2, .slice a3 (eH k.c).r.length b3, .slice a4 (eH k.c).m.1.length b4, .slice a5 (eH k.c).m.2.length b5, ah (eH k.w).n, .slice a6 (eH k.w).p.1.length b6, .slice a7 (eH k.w).p.2.length b7, .slice a8 (eH k.w).r.length b8, .slice a9 (eH k.w).m.1.length b9, .slice a10 (eH k.w).m.2.length b10, .slice a11 (tq k.d).p.1.length b11, .slice a12 (tq k.d).p.2.length b12, .bool (tq k.d).wide, .slice JI (kJ k.s).lo.length b13, .slice Iy (kJ k.s).ti.length b14, .slice Jd (kJ k.s).ca.1.length b15, .slice a16 (kJ k.s).ca.2.length b16, .slice a17 (kJ k.s).ig.1.length b17, .slice JQ (kJ k.s).ig.2.length b18],Pc.blk w.heap.size 38 #[ah ca,cp,cq,cr,cm,cf, ah wa,wp,wq,vr,wm,wf,iv,bv, .bool wd,lo,ti,c1,c2,g1,g2],Pc.old w.heap.size w] _ from ahN.o.setRow 0 rfl #[ah (eH k.c).n, .slice a1 (eH k.c).p.1.length b1, .slice a2 (eH k.c).p.2.length b2, .slice a3 (eH k.c).r.length b3, .slice a4 (eH k.c).m.1.length b4, .slice a5 (eH k.c).m.2.length b5, ah (eH k.w).n, .slice a6 (eH k.w).p.1.length b6, .slice a7 (eH k.w).p.2.length b7, .slice a8 (eH k.w).r.length b8, .slice a9 (eH k.w).m.1.length b9, .slice a10 (eH k.w).m.2.length b10, .slice a11 (tq k.d).p.1.length b11, .slice a12 (tq k.d).p.2.length b12, .bool (tq k.d).wide, .slice JI (kJ k.s).lo.length b13, .slice Iy (kJ k.s).ti.length b14, .slice Jd (kJ k.s).ca.1.length b15, .slice a16 (kJ k.s).ca.2.length b16, .slice a17 (kJ k.s).ig.1.length b17, .slice JQ (kJ k.s).ig.2.length b18]);have HT3:=bx (show Turns (λq=>q=w.heap.size+1) w5 _ from Turns.setRow (own:=λq=>q=w.heap.size+1) (g:=w.heap.size+1) rfl #[ah (eH k.c).n, .slice a1 (eH k.c).p.1.length b1, .slice a2 (eH k.c).p.2.length b2, .slice a3 (eH k.c).r.length b3, .slice a4 (eH k.c).m.1.length b4, .slice a5 (eH k.c).m.2.length b5, ah (eH k.w).n, .slice a6 (eH k.w).p.1.length b6, .slice a7 (eH k.w).p.2.length b7, .slice a8 (eH k.w).r.length b8, .slice a9 (eH k.w).m.1.length b9, .slice a10 (eH k.w).m.2.length b10, .slice a11 (tq k.d).p.1.length b11, .slice a12 (tq k.d).p.2.length b12, .bool (tq k.d).wide, .slice JI (kJ k.s).lo.length b13, .slice Iy (kJ k.s).ti.length b14, .slice Jd (kJ k.s).ca.1.length b15, .slice a16 (kJ k.s).ca.2.length b16, .slice a17 (kJ k.s).ig.1.length b17, .slice JQ (kJ k.s).ig.2.length b18]);refine kP 13 rfl λKK au=>?_
 refine aeY rfl 38 _ _ rfl (w.heap.size+1) (cells:=#[ah (eH k.c).n, .slice a1 (eH k.c).p.1.length b1, .slice a2 (eH k.c).p.2.length b2, .slice a3 (eH k.c).r.length b3, .slice a4 (eH k.c).m.1.length b4, .slice a5 (eH k.c).m.2.length b5, ah (eH k.w).n, .slice a6 (eH k.w).p.1.length b6, .slice a7 (eH k.w).p.2.length b7, .slice a8 (eH k.w).r.length b8, .slice a9 (eH k.w).m.1.length b9, .slice a10 (eH k.w).m.2.length b10, .slice a11 (tq k.d).p.1.length b11, .slice a12 (tq k.d).p.2.length b12, .bool (tq k.d).wide, .slice JI (kJ k.s).lo.length b13, .slice Iy (kJ k.s).ti.length b14, .slice Jd (kJ k.s).ca.1.length b15, .slice a16 (kJ k.s).ca.2.length b16, .slice a17 (kJ k.s).ig.1.length b17, .slice JQ (kJ k.s).ig.2.length b18]) (by kernel_rfl) (by kernel_rfl) (ahN.o.blk 0 rfl) afU rfl (by kernel_rfl) ?_;refine au.out _ _ (λh=>by cases h) ?_;clear au KK;refine kD ?_ _;go_wp2_with fail;have Ak:=iL.o.bel (n:=w.heap.size) (W0:=w) (by simp);have hlt:w.heap.size+1<WR.heap.size:=dP.o.lt (jZ ..) (k:=w.heap.size+1) rfl;have z2:=Ql.o.size;have z3:=Qm.o.size;have z4:=pG.o.size;have z5:=CB.o.size;have u:=λ(n:Nat) (h:w.heap.size+1<n)=>HT3.o.mono (own':=λq=>q<n) (λq hq=>by rw [hq];exact h)
 refine bodyPost_ret (v:=.agg #[ah (eH k.c).n, .slice a1 (eH k.c).p.1.length b1, .slice a2 (eH k.c).p.2.length b2, .slice a3 (eH k.c).r.length b3, .slice a4 (eH k.c).m.1.length b4, .slice a5 (eH k.c).m.2.length b5, ah (eH k.w).n, .slice a6 (eH k.w).p.1.length b6, .slice a7 (eH k.w).p.2.length b7, .slice a8 (eH k.w).r.length b8, .slice a9 (eH k.w).m.1.length b9, .slice a10 (eH k.w).m.2.length b10, .slice a11 (tq k.d).p.1.length b11, .slice a12 (tq k.d).p.2.length b12, .bool (tq k.d).wide, .slice JI (kJ k.s).lo.length b13, .slice Iy (kJ k.s).ti.length b14, .slice Jd (kJ k.s).ca.1.length b15, .slice a16 (kJ k.s).ca.2.length b16, .slice a17 (kJ k.s).ig.1.length b17, .slice JQ (kJ k.s).ig.2.length b18]) (results_cell_row results14 _ _ (w.heap.size+1) 38 _ (0,0) _ rfl (iL.o.blk 0 rfl) underlying38 rfl afU) rfl ⟨Ak,_,rfl,λW' ht hbw=>⟨_,_,_,_,_,_,_,_,_,_,_,_,_,_,_,_,_,_,_,_,_,rfl,rfl,rfl,rfl,?_,?_,?_,?_⟩⟩
 ·exact HT1.o W' ((((Turns.of_below Qm.o).trans ((Turns.of_below pG.o).trans (Turns.of_below CB.o))).trans (u _ hlt)).trans (ht.mono (λq hq=>by omega))) hbw
 ·exact anQ.o W' (((Turns.of_below CB.o).trans (u _ (by omega))).trans (ht.mono (λq hq=>by omega))) hbw
 ·exact HT4.o W' ((u _ (by omega)).trans (ht.mono (λq hq=>by omega))) hbw
 exact HT2.o W' ((((Turns.of_below pG.o).trans (Turns.of_below CB.o)).trans (u _ (by omega))).trans (ht.mono (λq hq=>by omega))) hbw
def zL (s:ByteArray) (n:Nat):ByteArray:=s.extract 0 (min s.size n)
theorem FK (s:ByteArray) (n:Nat) (m:Int) (w:World) (hm:m=n) (hz:s.size<=9223372036854775807) (hn:n<=1000) :
  Calls prog 16 #[.string s, ah m] w λe w'=>e = .returned (.string (zL s n))/\w=w':=by
 have HC:=bx (show s.extract 0 (min (s.size:Int) m).toNat=zL s n by unfold zL;rw [show (min (s.size:Int) m).toNat=min s.size n by omega]);have hm0:0<=m:=by omega
 have hm1:m<=1000:=by omega
 clear hm hn
 go_in
 go_wp2
 go_ret
 exact⟨by rw [<- HC.o];rfl,rfl⟩
theorem EU (s:ByteArray) (n:Nat):(zL s n).size<=n:=ajJ s n
end
end Go.Proofs.YtdponihkpomheaaGreatDoor
