/- Texts of this claim. -/
import Derived.Test.YtdponihkpomheaaGreatDoorH25

set_option maxRecDepth 100000
set_option maxHeartbeats 8000000
namespace Go.Proofs.YtdponihkpomheaaGreatDoor
open Go.RowKit
open Go.Proofs.Tryz
namespace C
theorem Rl {g:Ga} {x:List Int} (h1:1<=meas g x) (h2:meas g x<=2):∀ (f i:Nat) (c:Int),0<=c->c<f->(wJ g [x] f i c).length=(c / meas g x).toNat*(U.textOf x).length
 | 0,i,c,hc,hf=>by omega
 | f+1,i,c,hc,hf=>by
  have hi:[x].getD (i % [x].length) []=x:=by
   rw [List.length_singleton,Nat.mod_one]
   rfl
  unfold wJ;rw [hi]
  by_cases h:c<=0
  ·rw [aG h,show c=0 by omega];simp
  rw [aF h]
  by_cases h3:c<meas g x
  ·rw [aG h3,Int.ediv_eq_zero_of_lt hc h3];simp
  rw [aF h3,bC,Rl h1 h2 f (i+1) (c-meas g x) (by omega) (by omega)];have e:(c / meas g x).toNat=((c-meas g x) / meas g x).toNat+1:=by
   rcases (show meas g x=1\/meas g x=2 by omega) with hv | hv <;> rw [hv] <;> omega
  rw [e,BX,Nat.one_mul,Nat.add_comm]
theorem apG {g:Ga} {x:List Int} (h1:1<=meas g x) (h2:meas g x<=2) {c:Int} (hc:0<=c):(JC g [x] (c / 2)).length+(JC g [x] (c-c / 2)).length<=(JC g [x] c).length:=by
 unfold JC;rw [Rl h1 h2 _ _ _ (by omega) (by simp;omega),Rl h1 h2 _ _ _ (by omega) (by simp;omega),Rl h1 h2 _ _ _ hc (by simp;omega),<- BX];refine Nat.mul_le_mul_right _ ?_
 rcases (show meas g x=1\/meas g x=2 by omega) with hv | hv <;> rw [hv] <;> omega
theorem ap6 {k:Kt} {s e:List UInt8} {c:Int} (hk:bH k=true) (he:e.length<=60) (hc:0<=c) (hm:bZ (kg k 2) e≠0) (h1:(bf k.c e).length=1) :
  (DL k s c e 2).length<=(DL k s c e 0).length:=by
 have hg:=CY hk (i:=2) (by decide) (by decide);have hge:=nU (s:=e) hg (by omega);have hte:textE k.c e=0:=wG (g:=kg k 2) hg (by omega);have hl:(aO k.c e).length=1:=by rw [<- UQ hte,h1]
 obtain⟨x,hx⟩:=List.length_eq_one_iff.1 hl;unfold bZ at hm;rw [aG hge,show (kg k 2).t=k.c from rfl,hx] at hm;have hw:1<=meas (kg k 2) x/\meas (kg k 2) x<=2:=by
  have h2:dX (kg k 2) [x] [x].length=meas (kg k 2) x:=by simp [dX]
  rw [h2] at hm;have h3:=Ui (kg k 2) x;have h4:meas (kg k 2) x<=2:=by
   show (if (2:Int)=0 then ((U.textOf x).length:Int) else if (2:Int)=1 then 1 else iq k.d x)<=2
   rw [aF (by decide),aF (by decide)];exact(RV _ x).2
  omega
 unfold DL gu;rw [aF (by decide),aF (by decide),aG rfl,hx,bC,bC,bC];have:=apG hw.1 hw.2 hc;omega
end C
section
attribute [local go_sem] Oper.semAt_some
namespace C
theorem axG {k:Kt} {s e:List UInt8} {n d:Int} (h:bH k=false):jV k s n e d=[]/\iY k s n e d=160:=by
 have h0:iY k s n e d=160:=by unfold iY;rw [He h];rfl
 exact⟨by unfold jV;rw [h0];rfl,h0⟩
end C
theorem asc (c:Int) (w:World):Calls prog 137 #[ah c] w λe w'=>e = .returned (.tuple #[ah c, ah 0])/\ak w w':=by
 go_in
 go_wp2
 go_ret2
 exact⟨rfl,Below.refl _ _⟩
theorem ajU (c:Int) (w:World):Calls prog 138 #[ah c] w λe w'=>e = .returned (.tuple #[ah 0, ah c])/\ak w w':=by
 go_in
 go_wp2
 go_ret2
 exact⟨rfl,Below.refl _ _⟩
theorem ao1 (A:Nat->Addr) (B:Nat) (v:Value) (k:C.Kt) (s:ByteArray) (n:Int) (e:ByteArray) (d:Int) (w:World) (hv:dS w v k) (hs:gY k) (_:s.size<=260) (_:e.size<=60) (hS:Sw A B w) (hb:C.bH k=false) :
  Calls prog 29 #[v, .string s, ah n, .string e, ah d] w λen w'=>en = .returned (.tuple #[.string (bs (C.jV k s.data.toList n e.data.toList d)), ah (C.iY k s.data.toList n e.data.toList d)])/\ak w w':=by
 obtain⟨kz,V,rfl,hkz,HV,HB0,aI,dM,dK⟩:=oL hv hS;have HOW:=bx (HB0.o.trans ((dA V (.cells #[.string e] 9)).mono HB0.o.size));have iM:=bx (λ(hb:C.bH k=false)=>LZ A B _ (.slice (some ⟨V.heap.size,0,none⟩) 1 1) k s [e.data.toList] _ (dM.o _ HOW.o) hs (dK.o _ HOW.o) hb (xW V e 9));obtain⟨dv,hdv⟩:∃ v,v=A8 d:=⟨_,rfl⟩
 obtain⟨db,hdb⟩:∃ b,b=(decide (0<=d)&&decide (d<=2)):=⟨_,rfl⟩
 have nO:=bx (λh W (hW:W.heap[h]?=some (.map #[sQ,sd2,uw] 3))=>IY d h W hW);rw [<- hdv,<- hdb] at nO;have HO:=bx (iM.o hb);have HR:=bx (C.axG (s:=s.data.toList) (e:=e.data.toList) (n:=n) (d:=d) hb);clear iM hb hs hS dM hdv hdb;have hld:=aI.o V aZ
 go_in
 go_upto_region 1 with(fail)
 rw [<- HV.o];go_wp2_with (refine eF rfl _ rfl _ rfl hld hkz ?_)
 refine dI HO.o HOW.o λw1 HB1=>?_
 clear hld;go_wp2_with fail;refine(Hl w1).mono ?_;rintro en w2 ⟨rfl,hm,hb2⟩;have HB2:=aJ HB1 hb2;have hlk:=nO.o _ w2 hm;clear hb2;go_wp2_with fail;refine dI (yA (160) w2 (dK.o w2 HB2.o).t) HB2.o λw9 fA=>?_
 go_wp2
 go_ret2
 exact⟨by rw [HR.o.1,HR.o.2] <;> rfl,fA.o⟩
theorem apR (A:Nat->Addr) (B:Nat) (v:Value) (k:C.Kt) (s:ByteArray) (n:Int) (e:ByteArray) (d:Int) (w:World) (hv:dS w v k) (hs:gY k) (hz:s.size<=260) (hze:e.size<=60) (hS:Sw A B w) (hb:C.bH k=true) (hn:n<0\/300<n) :
  Calls prog 29 #[v, .string s, ah n, .string e, ah d] w λen w'=>en = .returned (.tuple #[.string (bs (C.jV k s.data.toList n e.data.toList d)), ah (C.iY k s.data.toList n e.data.toList d)])/\ak w w':=by
 obtain⟨kz,V,rfl,hkz,HV,HB0,aI,dM,dK⟩:=oL hv hS;have HOW:=bx (HB0.o.trans ((dA V (.cells #[.string e] 9)).mono HB0.o.size));have fH:=bx (λ(hb:C.bH k=true) (hz:s.size<=600) (hp:e.size<=60)=>uQ A B _ (.slice (some ⟨V.heap.size,0,none⟩) 1 1) k s [e.data.toList] _ (dM.o _ HOW.o) hs (dK.o _ HOW.o) hb (xW V e 9) hz (by simp) (λp hq=>by rw [fU.1 hq,<- size_eq];exact hp));obtain⟨dv,hdv⟩:∃ v,v=A8 d:=⟨_,rfl⟩
 obtain⟨db,hdb⟩:∃ b,b=(decide (0<=d)&&decide (d<=2)):=⟨_,rfl⟩
 have nO:=bx (λh W (hW:W.heap[h]?=some (.map #[sQ,sd2,uw] 3))=>IY d h W hW);rw [<- hdv,<- hdb] at nO;have HO:=bx (fH.o hb (by omega) hze);have hs1:s.data.toList.length<=600:=by rw [<- size_eq];omega
 have he1:e.data.toList.length<=60:=by rw [<- size_eq];omega
 have lF:=bx (λg W (h:ak w W) (hg:mW W g k)=>DZ A B g k 2 e W hg hs (by omega) (hS.below h));have HR:=bx (C.YB (s:=s.data.toList) (e:=e.data.toList) (n:=n) (d:=d) (r:=161) hb hs1 he1 (by rw [aG hn]) (by decide));clear fH hb hs hS hz hze dM hdv hdb hs1 he1 lF
 rcases hn with hn | hn
 ·have d1:=bD hn;have hld:=aI.o V aZ
  go_in
  go_upto_region 1 with(fail)
  rw [<- HV.o];go_wp2_with (refine eF rfl _ rfl _ rfl hld hkz ?_)
  refine HO.o.mono ?_;rintro en w1 ⟨⟨g,rfl,hwk,-⟩,hb1⟩;have HB1:=aJ HOW hb1;have kF:=bx hwk;clear hb1 hwk hld;go_wp2_with fail;refine(Hl w1).mono ?_;rintro en w2 ⟨rfl,hm,hb2⟩;have HB2:=aJ HB1 hb2;have hlk:=nO.o _ w2 hm;clear hb2
  go_wp2
  go_ret2
  exact⟨by rw [HR.o.1,HR.o.2] <;> rfl,HB2.o⟩
 have d0:decide (n<0)=false:=dh (by omega);have d1:=bD hn;have hld:=aI.o V aZ
 go_in
 go_upto_region 1 with(fail)
 rw [<- HV.o];go_wp2_with (refine eF rfl _ rfl _ rfl hld hkz ?_)
 refine HO.o.mono ?_;rintro en w1 ⟨⟨g,rfl,hwk,-⟩,hb1⟩;have HB1:=aJ HOW hb1;have kF:=bx hwk;clear hb1 hwk hld;go_wp2_with fail;refine(Hl w1).mono ?_;rintro en w2 ⟨rfl,hm,hb2⟩;have HB2:=aJ HB1 hb2;have hlk:=nO.o _ w2 hm;clear hb2
 go_wp2
 go_ret2
 exact⟨by rw [HR.o.1,HR.o.2] <;> rfl,HB2.o⟩
theorem awX (A:Nat->Addr) (B:Nat) (v:Value) (k:C.Kt) (s:ByteArray) (n:Int) (e:ByteArray) (d:Int) (w:World) (hv:dS w v k) (hs:gY k) (hz:s.size<=260) (hze:e.size<=60) (hS:Sw A B w) (hb:C.bH k=true) (hn:¬ (n<0\/300<n)) (hd:d<0\/2<d) :
  Calls prog 29 #[v, .string s, ah n, .string e, ah d] w λen w'=>en = .returned (.tuple #[.string (bs (C.jV k s.data.toList n e.data.toList d)), ah (C.iY k s.data.toList n e.data.toList d)])/\ak w w':=by
 obtain⟨kz,V,rfl,hkz,HV,HB0,aI,dM,dK⟩:=oL hv hS;have HOW:=bx (HB0.o.trans ((dA V (.cells #[.string e] 9)).mono HB0.o.size));have fH:=bx (λ(hb:C.bH k=true) (hz:s.size<=600) (hp:e.size<=60)=>uQ A B _ (.slice (some ⟨V.heap.size,0,none⟩) 1 1) k s [e.data.toList] _ (dM.o _ HOW.o) hs (dK.o _ HOW.o) hb (xW V e 9) hz (by simp) (λp hq=>by rw [fU.1 hq,<- size_eq];exact hp));obtain⟨dv,hdv⟩:∃ v,v=A8 d:=⟨_,rfl⟩
 obtain⟨db,hdb⟩:∃ b,b=(decide (0<=d)&&decide (d<=2)):=⟨_,rfl⟩
 have nO:=bx (λh W (hW:W.heap[h]?=some (.map #[sQ,sd2,uw] 3))=>IY d h W hW);rw [<- hdv,<- hdb] at nO;have HO:=bx (fH.o hb (by omega) hze);have hs1:s.data.toList.length<=600:=by rw [<- size_eq];omega
 have he1:e.data.toList.length<=60:=by rw [<- size_eq];omega
 have lF:=bx (λg W (h:ak w W) (hg:mW W g k)=>DZ A B g k 2 e W hg hs (by omega) (hS.below h));have d0:decide (n<0)=false:=dh (by omega);have d1:decide (300<n)=false:=dh (by omega);have HR:=bx (C.YB (s:=s.data.toList) (e:=e.data.toList) (n:=n) (d:=d) (r:=2) hb hs1 he1 (by rw [aF hn,aG hd]) (by decide));obtain rfl:db=false:=by
  rw [hdb,Ub]
  rcases hd with h | h
  ·exact .inl (dh (by omega))
  exact .inr (dh (by omega))
 clear fH hb hs hS hz hze dM hdv hdb hs1 he1 lF;have hld:=aI.o V aZ
 go_in
 go_upto_region 1 with(fail)
 rw [<- HV.o];go_wp2_with (refine eF rfl _ rfl _ rfl hld hkz ?_)
 refine HO.o.mono ?_;rintro en w1 ⟨⟨g,rfl,hwk,-⟩,hb1⟩;have HB1:=aJ HOW hb1;have kF:=bx hwk;clear hb1 hwk hld;go_wp2_with fail;refine(Hl w1).mono ?_;rintro en w2 ⟨rfl,hm,hb2⟩;have HB2:=aJ HB1 hb2;have hlk:=nO.o _ w2 hm;clear hb2
 go_wp2
 go_ret2
 exact⟨by rw [HR.o.1,HR.o.2] <;> rfl,HB2.o⟩
theorem awq (A:Nat->Addr) (B:Nat) (v:Value) (k:C.Kt) (s:ByteArray) (n:Int) (e:ByteArray) (d:Int) (w:World) (hv:dS w v k) (hs:gY k) (hz:s.size<=260) (hze:e.size<=60) (hS:Sw A B w) (hb:C.bH k=true) (hn:¬ (n<0\/300<n)) (hd:¬ (d<0\/2<d)) (hm0:¬ (C.bZ (C.kg k 2) e.data.toList=0)) (hdd:d=0) :
  Calls prog 29 #[v, .string s, ah n, .string e, ah d] w λen w'=>en = .returned (.tuple #[.string (bs (C.jV k s.data.toList n e.data.toList d)), ah (C.iY k s.data.toList n e.data.toList d)])/\ak w w':=by
 obtain⟨kz,V,rfl,hkz,HV,HB0,aI,dM,dK⟩:=oL hv hS;have HOW:=bx (HB0.o.trans ((dA V (.cells #[.string e] 9)).mono HB0.o.size));have fH:=bx (λ(hb:C.bH k=true) (hz:s.size<=600) (hp:e.size<=60)=>uQ A B _ (.slice (some ⟨V.heap.size,0,none⟩) 1 1) k s [e.data.toList] _ (dM.o _ HOW.o) hs (dK.o _ HOW.o) hb (xW V e 9) hz (by simp) (λp hq=>by rw [fU.1 hq,<- size_eq];exact hp));obtain⟨dv,hdv⟩:∃ v,v=A8 d:=⟨_,rfl⟩
 obtain⟨db,hdb⟩:∃ b,b=(decide (0<=d)&&decide (d<=2)):=⟨_,rfl⟩
 have nO:=bx (λh W (hW:W.heap[h]?=some (.map #[sQ,sd2,uw] 3))=>IY d h W hW);rw [<- hdv,<- hdb] at nO;have HO:=bx (fH.o hb (by omega) hze);have hs1:s.data.toList.length<=600:=by rw [<- size_eq];omega
 have he1:e.data.toList.length<=60:=by rw [<- size_eq];omega
 have lF:=bx (λg W (h:ak w W) (hg:mW W g k)=>DZ A B g k 2 e W hg hs (by omega) (hS.below h));have d0:decide (n<0)=false:=dh (by omega);have d1:decide (300<n)=false:=dh (by omega);obtain rfl:db=true:=by rw [hdb,bD (show 0<=d by omega),bD (show d<=2 by omega)];rfl
 have HR:=bx (C.Vx (s:=s.data.toList) (e:=e.data.toList) (n:=n) (d:=d) hb hs1 he1 ⟨by omega,by omega⟩ ⟨by omega,by omega⟩ hm0);obtain⟨p,hp⟩:∃ p,C.Dc (C.kg k 2) (C.aO k.c e.data.toList) p:=by
  have h:=hm0;unfold C.bZ at h;rw [aG (C.nU (s:=e.data.toList) (C.CY hb (i:=2) (by decide) (by decide)) (by omega))] at h;exact C.X7 h
 have qX:=bx (λg W (h:ak w W) (hg:mW W g k)=>DZ A B g k 2 s W hg hs (by omega) (hS.below h));have oq:=bx (λg (c:Int) (hc:c<=300) W (h:ak w W) (hg:mW W g k)=>Ye A B g p k e c W hg hs hb hze hc hp (hS.below h));have vP:=bx (λW (h:ak w W)=>wZ A B s W (by omega) (hS.below h).e (hS.below h).le);have jq:=bx (λ(c:Int) (hc:c<=300)=>C.Ri (e:=e.data.toList) hb he1 hc);have hfx:=C.qJ s.data.toList;rw [<- size_eq] at hfx;have hm2:(C.bZ (C.kg k 2) e.data.toList==0)=false:=by rw [fG];exact hm0
 obtain⟨c,hc⟩:∃ c,c=C.wW k s.data.toList n:=⟨_,rfl⟩
 have hcm:max (n-C.bZ (C.kg k 2) s.data.toList) 0=c:=by rw [hc];rfl
 rw [<- hc] at HR;have hmn:0<=C.bZ (C.kg k 2) s.data.toList:=by
  unfold C.bZ
  split
  ·exact C.N9 _ _ _
  exact Int.le_refl 0
 have hmx:C.bZ (C.kg k 2) s.data.toList<=8000000:=YI (by omega);have hc0:0<=c:=by omega
 have hc3:c<=300:=by omega
 have hz0:=C.WQ k e.data.toList;subst hdd;obtain rfl:dv=sQ.val:=by rw [hdv];rfl
 have hY:C.jV k s.data.toList n e.data.toList 0=(C.gu k e.data.toList c++M.fix s.data.toList)++C.gu k e.data.toList 0:=by
  rw [HR.o.1];unfold C.DL;rw [aG rfl,hz0,oG]
 have jC:=bx (show C.jV k s.data.toList n e.data.toList 0=(C.gu k e.data.toList c++M.fix s.data.toList)++C.gu k e.data.toList 0/\C.iY k s.data.toList n e.data.toList 0=0 from⟨hY,HR.o.2⟩);have hl1:=jq.o c (by omega);have hl2:=jq.o 0 (by omega);have F1:=bx (λg=>oq.o g c (by omega));have F2:=bx (λg=>oq.o g 0 (by omega));have a1:=EH (C.gu k e.data.toList c) (M.fix s.data.toList);have a2:=EH (C.gu k e.data.toList c++M.fix s.data.toList) (C.gu k e.data.toList 0);have z1:(bs (C.gu k e.data.toList c)).size+(bs (M.fix s.data.toList)).size<=100000000:=by rw [dN,dN];omega
 have z2:(bs (C.gu k e.data.toList c++M.fix s.data.toList)).size+(bs (C.gu k e.data.toList 0)).size<=100000000:=by rw [dN,dN,bC];omega
 obtain⟨pa,hpa⟩:∃ t,t=C.gu k e.data.toList c:=⟨_,rfl⟩
 rw [<- hpa] at jC F1 a1 a2 z1 z2;obtain⟨pb,hpb⟩:∃ t,t=C.gu k e.data.toList 0:=⟨_,rfl⟩
 rw [<- hpb] at jC F2 a2 z2;generalize M.fix s.data.toList=fx at jC vP a1 a2 z1 z2;generalize C.bZ (C.kg k 2) e.data.toList=me at lF hm2;generalize C.bZ (C.kg k 2) s.data.toList=ms at qX hcm hmn hmx;have SD:=bx (λW=>asc c W);have z3:(bs pa).size+fx.length<=100000000:=by rw [<- dN fx];exact z1
 have z4:(bs (pa++fx)).size+pb.length<=100000000:=by rw [<- dN pb];exact z2
 have hdz:A8 0=(.func (.func 137) #[] #[]:Value):=rfl;have hdy:(sQ).val=(.func (.func 137) #[] #[]:Value):=rfl;have hws:wrap64 (n-ms)=n-ms:=IntWalk.wrap64_in _ (by omega);clear fH hb hs hS hz hze dM hdb hs1 he1 oq jq hY hl1 hl2 HR hfx hm0 hp hc hz0 hn hd hpa hpb;have hld:=aI.o V aZ
 go_in
 go_upto_region 1 with(fail)
 rw [<- HV.o];go_wp2_with (refine eF rfl _ rfl _ rfl hld hkz ?_)
 refine HO.o.mono ?_;rintro en w1 ⟨⟨g,rfl,hwk,-⟩,hb1⟩;have HB1:=aJ HOW hb1;have kF:=bx hwk;clear hb1 hwk hld;go_wp2_with fail;refine(Hl w1).mono ?_;rintro en w2 ⟨rfl,hm,hb2⟩;have HB2:=aJ HB1 hb2;have hlk:=nO.o _ w2 hm;have Dj:=bx (kF.o.below hb2);clear hb2;go_wp2_with fail;refine aT (lF.o g w2 HB2.o Dj.o) λw3 hb3=>?_
 have HB3:=aJ HB2 hb3;have Gi:=bx (Dj.o.below hb3);clear hb3;go_wp2_with fail;refine aT (qX.o g w3 HB3.o Gi.o) λw4 hb4=>?_
 have HB4:=aJ HB3 hb4;have OE:=bx (Gi.o.below hb4);clear hb4;go_wp2_with fail;refine aT (SD.o w4) λw5 hb5=>?_
 have bU:=aJ HB4 hb5;have Gp:=bx (OE.o.below hb5);clear hb5;go_wp2_with fail;refine aT (F1.o g w5 bU.o Gp.o) λw6 hb6=>?_
 have eY:=aJ bU hb6;have Qc:=bx (Gp.o.below hb6);clear hb6;go_wp2_with fail;refine aT (vP.o w6 eY.o) λw7 hb7=>?_
 have bW:=aJ eY hb7;have F7:=bx (Qc.o.below hb7);clear hb7;go_wp2_with fail
 any_goals (first | (exfalso;omega) | skip)
 refine aT (F2.o g w7 bW.o F7.o) λw8 hb8=>?_
 have eU:=aJ bW hb8;have afM:=bx (F7.o.below hb8);clear hb8;go_wp2_with fail
 any_goals (first | (exfalso;omega) | skip)
 go_ret2
 exact⟨by rw [jC.o.1,jC.o.2] <;> rfl,eU.o⟩
theorem ap5 (A:Nat->Addr) (B:Nat) (v:Value) (k:C.Kt) (s:ByteArray) (n:Int) (e:ByteArray) (d:Int) (w:World) (hv:dS w v k) (hs:gY k) (hz:s.size<=260) (hze:e.size<=60) (hS:Sw A B w) (hb:C.bH k=true) (hn:¬ (n<0\/300<n)) (hd:¬ (d<0\/2<d)) (hm0:¬ (C.bZ (C.kg k 2) e.data.toList=0)) (hdd:d=1) :
  Calls prog 29 #[v, .string s, ah n, .string e, ah d] w λen w'=>en = .returned (.tuple #[.string (bs (C.jV k s.data.toList n e.data.toList d)), ah (C.iY k s.data.toList n e.data.toList d)])/\ak w w':=by
 obtain⟨kz,V,rfl,hkz,HV,HB0,aI,dM,dK⟩:=oL hv hS;have HOW:=bx (HB0.o.trans ((dA V (.cells #[.string e] 9)).mono HB0.o.size));have fH:=bx (λ(hb:C.bH k=true) (hz:s.size<=600) (hp:e.size<=60)=>uQ A B _ (.slice (some ⟨V.heap.size,0,none⟩) 1 1) k s [e.data.toList] _ (dM.o _ HOW.o) hs (dK.o _ HOW.o) hb (xW V e 9) hz (by simp) (λp hq=>by rw [fU.1 hq,<- size_eq];exact hp));obtain⟨dv,hdv⟩:∃ v,v=A8 d:=⟨_,rfl⟩
 obtain⟨db,hdb⟩:∃ b,b=(decide (0<=d)&&decide (d<=2)):=⟨_,rfl⟩
 have nO:=bx (λh W (hW:W.heap[h]?=some (.map #[sQ,sd2,uw] 3))=>IY d h W hW);rw [<- hdv,<- hdb] at nO;have HO:=bx (fH.o hb (by omega) hze);have hs1:s.data.toList.length<=600:=by rw [<- size_eq];omega
 have he1:e.data.toList.length<=60:=by rw [<- size_eq];omega
 have lF:=bx (λg W (h:ak w W) (hg:mW W g k)=>DZ A B g k 2 e W hg hs (by omega) (hS.below h));have d0:decide (n<0)=false:=dh (by omega);have d1:decide (300<n)=false:=dh (by omega);obtain rfl:db=true:=by rw [hdb,bD (show 0<=d by omega),bD (show d<=2 by omega)];rfl
 have HR:=bx (C.Vx (s:=s.data.toList) (e:=e.data.toList) (n:=n) (d:=d) hb hs1 he1 ⟨by omega,by omega⟩ ⟨by omega,by omega⟩ hm0);obtain⟨p,hp⟩:∃ p,C.Dc (C.kg k 2) (C.aO k.c e.data.toList) p:=by
  have h:=hm0;unfold C.bZ at h;rw [aG (C.nU (s:=e.data.toList) (C.CY hb (i:=2) (by decide) (by decide)) (by omega))] at h;exact C.X7 h
 have qX:=bx (λg W (h:ak w W) (hg:mW W g k)=>DZ A B g k 2 s W hg hs (by omega) (hS.below h));have oq:=bx (λg (c:Int) (hc:c<=300) W (h:ak w W) (hg:mW W g k)=>Ye A B g p k e c W hg hs hb hze hc hp (hS.below h));have vP:=bx (λW (h:ak w W)=>wZ A B s W (by omega) (hS.below h).e (hS.below h).le);have jq:=bx (λ(c:Int) (hc:c<=300)=>C.Ri (e:=e.data.toList) hb he1 hc);have hfx:=C.qJ s.data.toList;rw [<- size_eq] at hfx;have hm2:(C.bZ (C.kg k 2) e.data.toList==0)=false:=by rw [fG];exact hm0
 obtain⟨c,hc⟩:∃ c,c=C.wW k s.data.toList n:=⟨_,rfl⟩
 have hcm:max (n-C.bZ (C.kg k 2) s.data.toList) 0=c:=by rw [hc];rfl
 rw [<- hc] at HR;have hmn:0<=C.bZ (C.kg k 2) s.data.toList:=by
  unfold C.bZ
  split
  ·exact C.N9 _ _ _
  exact Int.le_refl 0
 have hmx:C.bZ (C.kg k 2) s.data.toList<=8000000:=YI (by omega);have hc0:0<=c:=by omega
 have hc3:c<=300:=by omega
 have hz0:=C.WQ k e.data.toList;subst hdd;obtain rfl:dv=sd2.val:=by rw [hdv];rfl
 have hY:C.jV k s.data.toList n e.data.toList 1=(C.gu k e.data.toList 0++M.fix s.data.toList)++C.gu k e.data.toList c:=by
  rw [HR.o.1];unfold C.DL;rw [aF (by decide),aG rfl,hz0,iJ]
 have jC:=bx (show C.jV k s.data.toList n e.data.toList 1=(C.gu k e.data.toList 0++M.fix s.data.toList)++C.gu k e.data.toList c/\C.iY k s.data.toList n e.data.toList 1=0 from⟨hY,HR.o.2⟩);have hl1:=jq.o 0 (by omega);have hl2:=jq.o c (by omega);have F1:=bx (λg=>oq.o g 0 (by omega));have F2:=bx (λg=>oq.o g c (by omega));have a1:=EH (C.gu k e.data.toList 0) (M.fix s.data.toList);have a2:=EH (C.gu k e.data.toList 0++M.fix s.data.toList) (C.gu k e.data.toList c);have z1:(bs (C.gu k e.data.toList 0)).size+(bs (M.fix s.data.toList)).size<=100000000:=by rw [dN,dN];omega
 have z2:(bs (C.gu k e.data.toList 0++M.fix s.data.toList)).size+(bs (C.gu k e.data.toList c)).size<=100000000:=by rw [dN,dN,bC];omega
 obtain⟨pa,hpa⟩:∃ t,t=C.gu k e.data.toList 0:=⟨_,rfl⟩
 rw [<- hpa] at jC F1 a1 a2 z1 z2;obtain⟨pb,hpb⟩:∃ t,t=C.gu k e.data.toList c:=⟨_,rfl⟩
 rw [<- hpb] at jC F2 a2 z2;generalize M.fix s.data.toList=fx at jC vP a1 a2 z1 z2;generalize C.bZ (C.kg k 2) e.data.toList=me at lF hm2;generalize C.bZ (C.kg k 2) s.data.toList=ms at qX hcm hmn hmx;have SD:=bx (λW=>ajU c W);have z3:(bs pa).size+fx.length<=100000000:=by rw [<- dN fx];exact z1
 have z4:(bs (pa++fx)).size+pb.length<=100000000:=by rw [<- dN pb];exact z2
 have hdz:A8 1=(.func (.func 138) #[] #[]:Value):=rfl;have hdy:(sd2).val=(.func (.func 138) #[] #[]:Value):=rfl;have hws:wrap64 (n-ms)=n-ms:=IntWalk.wrap64_in _ (by omega);clear fH hb hs hS hz hze dM hdb hs1 he1 oq jq hY hl1 hl2 HR hfx hm0 hp hc hz0 hn hd hpa hpb;have hld:=aI.o V aZ
 go_in
 go_upto_region 1 with(fail)
 rw [<- HV.o];go_wp2_with (refine eF rfl _ rfl _ rfl hld hkz ?_)
 refine HO.o.mono ?_;rintro en w1 ⟨⟨g,rfl,hwk,-⟩,hb1⟩;have HB1:=aJ HOW hb1;have kF:=bx hwk;clear hb1 hwk hld;go_wp2_with fail;refine(Hl w1).mono ?_;rintro en w2 ⟨rfl,hm,hb2⟩;have HB2:=aJ HB1 hb2;have hlk:=nO.o _ w2 hm;have Dj:=bx (kF.o.below hb2);clear hb2;go_wp2_with fail;refine aT (lF.o g w2 HB2.o Dj.o) λw3 hb3=>?_
 have HB3:=aJ HB2 hb3;have Gi:=bx (Dj.o.below hb3);clear hb3;go_wp2_with fail;refine aT (qX.o g w3 HB3.o Gi.o) λw4 hb4=>?_
 have HB4:=aJ HB3 hb4;have OE:=bx (Gi.o.below hb4);clear hb4;go_wp2_with fail;refine aT (SD.o w4) λw5 hb5=>?_
 have bU:=aJ HB4 hb5;have Gp:=bx (OE.o.below hb5);clear hb5;go_wp2_with fail;refine aT (F1.o g w5 bU.o Gp.o) λw6 hb6=>?_
 have eY:=aJ bU hb6;have Qc:=bx (Gp.o.below hb6);clear hb6;go_wp2_with fail;refine aT (vP.o w6 eY.o) λw7 hb7=>?_
 have bW:=aJ eY hb7;have F7:=bx (Qc.o.below hb7);clear hb7;go_wp2_with fail
 any_goals (first | (exfalso;omega) | skip)
 refine aT (F2.o g w7 bW.o F7.o) λw8 hb8=>?_
 have eU:=aJ bW hb8;have afM:=bx (F7.o.below hb8);clear hb8;go_wp2_with fail
 any_goals (first | (exfalso;omega) | skip)
 go_ret2
 exact⟨by rw [jC.o.1,jC.o.2] <;> rfl,eU.o⟩
theorem UK (A:Nat->Addr) (B:Nat) (v:Value) (k:C.Kt) (s:ByteArray) (n:Int) (e:ByteArray) (d:Int) (w:World) (hv:dS w v k) (hs:gY k) (hz:s.size<=260) (hze:e.size<=60) (hS:Sw A B w) :
  Calls prog 29 #[v, .string s, ah n, .string e, ah d] w λen w'=>en = .returned (.tuple #[.string (bs (C.jV k s.data.toList n e.data.toList d)), ah (C.iY k s.data.toList n e.data.toList d)])/\ak w w':=by
 cases hb:C.bH k with
 | false=>exact ao1 A B v k s n e d w hv hs hz hze hS hb
 | true =>
  by_cases hn:n<0\/300<n
  ·exact apR A B v k s n e d w hv hs hz hze hS hb hn
  by_cases hd:d<0\/2<d
  ·exact awX A B v k s n e d w hv hs hz hze hS hb hn hd
  by_cases hm0:C.bZ (C.kg k 2) e.data.toList=0
  ·exact aed A B v k s n e d w hv hs hz hze hS hb hn hd hm0
  rcases (show d=0\/d=1\/d=2 by omega) with hdd | hdd | hdd
  ·exact awq A B v k s n e d w hv hs hz hze hS hb hn hd hm0 hdd
  ·exact ap5 A B v k s n e d w hv hs hz hze hS hb hn hd hm0 hdd
  exact abo A B v k s n e d w hv hs hz hze hS hb hn hd hm0 hdd
theorem dS.tabs {w:World} {n m:Int} {x1 x2 x3 x4 x5 x6 x7 x8 x9 x10 x11 x12 jY x14 x15 x16 x17 x18:Value} {b:Bool} {k:C.Kt}
  (h:dS w (.agg #[ah n,x1,x2,x3,x4,x5, ah m,x6,x7,x8,x9,x10,x11,x12, .bool b,jY,x14,x15,x16,x17,x18]) k):TabAt w (.agg #[ah n,x1,x2,x3,x4,x5]) k.c:=by
 obtain⟨_,_,_,_,_,_,_,_,_,_,_,_,_,_,_,_,_,_,_,_,_,e,h⟩:=h;injection e with e;simp only [Array.mk.injEq,jm,Value.int.injEq,Value.bool.injEq,true_and,and_true] at e;obtain⟨rfl,rfl,rfl,rfl,rfl,rfl,rfl,rfl,rfl,rfl,rfl,rfl,rfl,rfl,rfl,rfl,rfl,rfl,rfl,rfl,rfl⟩:=e;exact h.c
namespace C
theorem QO {k:Kt} {s e:List UInt8} {n d:Int} (hd:0<=d/\d<=2):iY k s n e d=iY k s n e 0:=by
 unfold iY;rw [aF (show ¬ (d<0\/2<d) by omega),aF (show ¬ ((0:Int)<0\/(2:Int)<0) by decide)]
theorem aae {k:Kt} {s e:List UInt8} {n d:Int} (h:iY k s n e d≠0):jV k s n e d=[]:=by unfold jV;rw [aF h]
theorem ahj {k:Kt} {s e:List UInt8} {n:Int} (h:iY k s n e 0=0):bH k=true/\n<=300/\bZ (kg k 2) e≠0:=by
 unfold iY at h;have h1:lH k s e=0:=by
  by_cases h1:lH k s e=0
  ·exact h1
  rw [aF h1] at h;exact absurd h h1
 rw [aG h1] at h;refine⟨?_,?_,λhm=>?_⟩
 ·cases hk:bH k with
  | true=>rfl
  | false=>rw [He hk] at h1;cases h1
 ·split at h
  ·cases h
  omega
 split at h
 ·cases h
 rw [aF (show ¬ ((0:Int)<0\/(2:Int)<0) by decide)] at h
 cases h
theorem amV {k:Kt} {s e:List UInt8} {n:Int} (h:iY k s n e 0=0) (he:e.length<=60):∃ p r,p.length<=4000000/\jV k s n e 0=p++M.fix s/\jV k s n e 1=M.fix s++p/\jV k s n e 2=r/\(M.fix s).length<=r.length/\((bf k.c e).length=1->r.length<=(p++M.fix s).length):=by
 obtain⟨hk,hn,hm⟩:=ahj h;have h1:iY k s n e 1=0:=by rw [QO (by decide)];exact h
 have h2:iY k s n e 2=0:=by rw [QO (by decide)];exact h
 refine⟨gu k e (wW k s n),DL k s (wW k s n) e 2,Ri hk he ?_,?_,?_,?_,?_,λhl=>?_⟩
 ·have h9:0<=bZ (kg k 2) s:=by
   unfold bZ
   split
   ·exact N9 _ _ _
   exact Int.le_refl 0
  unfold wW;omega
 ·unfold jV;rw [aG h];rfl
 ·unfold jV;rw [aG h1];rfl
 ·unfold jV;rw [aG h2]
 ·show (M.fix s).length<=(gu k e (wW k s n / 2)++(M.fix s++gu k e (wW k s n-wW k s n / 2))).length
  rw [bC,bC];omega
 have h3:=ap6 (s:=s) (e:=e) (c:=wW k s n) hk he (by unfold wW;omega) hm hl;exact h3
end C
theorem apr (A:Nat->Addr) (B:Nat) (v:Value) (k:C.Kt) (s:ByteArray) (n:Int) (e:ByteArray) (w:World) (hv:dS w v k) (hzs:s.size<=9223372036854775807) (hze:e.size<=9223372036854775807) (hS:Sw A B w) :
  Calls prog 9 #[v, .string s, ah n, .string e] w λx w'=>x = .returned (.bool true)/\ak w w':=by
 have HS:=bx hS;have oI:=bx hv;obtain⟨x1,z1,x2,z2,x3,z3,x4,z4,x5,z5,x6,z6,x7,z7,x8,z8,x9,z9,x10,z10,x11,z11,x12,z12,jY,z13,x14,sJ,x15,sO,x16,rZ,x17,z17,x18,rO,rfl⟩:=hv.slices;clear hv;generalize k.c.p.1.length=y1,k.c.p.2.length=y2,k.c.r.length=y3,k.c.m.1.length=y4,k.c.m.2.length=y5,k.w.p.1.length=y6,k.w.p.2.length=y7,k.w.r.length=y8,k.w.m.1.length=y9,k.w.m.2.length=uM,k.d.p.1.length=uj,k.d.p.2.length=vI,k.s.lo.length=y13,k.s.ti.length=vK,k.s.ca.1.length=vH,k.s.ca.2.length=vF,k.s.ig.1.length=uh,k.s.ig.2.length=uY,k.c.n=nt,k.w.n=nw,k.d.wide=wb at oI ⊢;have oU:=bx (λW=>FK s 60 60 W rfl hzs (by decide));have mM:=bx (EU s 60);generalize zL s 60=cs at oU mM;clear hzs;have Dw:=bx (λW=>FK e 20 20 W rfl hze (by decide));have Ht:=bx (EU e 20);generalize zL e 20=ce at Dw Ht;clear hze;obtain⟨V,hV⟩:∃ V,V=w.alloc (.cells #[ah nt, .slice x1 y1 z1, .slice x2 y2 z2, .slice x3 y3 z3, .slice x4 y4 z4, .slice x5 y5 z5, ah nw, .slice x6 y6 z6, .slice x7 y7 z7, .slice x8 y8 z8, .slice x9 y9 z9, .slice x10 uM z10, .slice x11 uj z11, .slice x12 vI z12, .bool wb, .slice jY y13 z13, .slice x14 vK sJ, .slice x15 vH sO, .slice x16 vF rZ, .slice x17 uh z17, .slice x18 uY rO] 38):=⟨_,rfl⟩
 have HB0:=bx (aB hV);have vw:=bx (show Sep [Pc.blk w.heap.size 38 #[ah nt, .slice x1 y1 z1, .slice x2 y2 z2, .slice x3 y3 z3, .slice x4 y4 z4, .slice x5 y5 z5, ah nw, .slice x6 y6 z6, .slice x7 y7 z7, .slice x8 y8 z8, .slice x9 y9 z9, .slice x10 uM z10, .slice x11 uj z11, .slice x12 vI z12, .bool wb, .slice jY y13 z13, .slice x14 vK sJ, .slice x15 vH sO, .slice x16 vF rZ, .slice x17 uh z17, .slice x18 uY rO],Pc.old w.heap.size w] V by rw [hV];exact(Sep.start w).eu _ _);have dU:=bx (show V.heap.size=w.heap.size+1 by rw [hV];simp);have HV:=bx hV;clear hS hV
 go_in
 go_wp2_with fail;rw [<- HV.o];refine aT (MH A B V (HS.o.below HB0.o)) λw1 hb1=>?_
 have HB1:=bx (bT HB0.o hb1);have o9:=bx (vw.o.below hb1);have eG:=bx (show w.heap.size<w1.heap.size by have:=dU.o;have:=hb1.size;omega);clear hb1 HV;have gG:=bx (KW _ k w w1 oI.o HB1.o);have hld:=o9.o.blk 0 rfl;go_wp2_with (refine eF rfl _ rfl _ rfl hld rfl ?_)
 refine gG.o.mono ?_;rintro ex w2 ⟨hb2,v',rfl,ji⟩;clear hld;have HB2:=bx (bT HB1.o hb2);have lZ:=bx (o9.o.below hb2);obtain⟨p1,r1,p2,r2,p3,r3,p4,r4,p5,r5,p6,r6,p7,r7,p8,r8,p9,r9,p10,r10,p11,r11,p12,r12,p13,r13,jP,jT,jK,jH,p16,r16,jL,jS,jI,jJ,rfl⟩:=(ji w2 (Turns.refl _ _) HB2.o).slices;have hks:=LM k;obtain⟨K,hK⟩:∃ K,K=G7 k:=⟨_,rfl⟩
 have lW:=bx (show gY K by rw [hK];exact hks);rw [<- hK] at ji ⊢;clear hb2 hK hks;generalize K.c.p.1.length=q1,K.c.p.2.length=q2,K.c.r.length=q3,K.c.m.1.length=q4,K.c.m.2.length=q5,K.w.p.1.length=q6,K.w.p.2.length=q7,K.w.r.length=q8,K.w.m.1.length=q9,K.w.m.2.length=q10,K.d.p.1.length=q11,K.d.p.2.length=q12,K.s.lo.length=q13,K.s.ti.length=jh,K.s.ca.1.length=iZ,K.s.ca.2.length=q16,K.s.ig.1.length=je,K.s.ig.2.length=jf,K.c.n=nu,K.w.n=nv,K.d.wide=we at ji ⊢;have uI:=bx ji;clear ji gG;have hld:=lZ.o.blk 0 rfl;have iL:=bx (show Sep [Pc.blk w.heap.size 38 #[ah nu, .slice p1 q1 r1, .slice p2 q2 r2, .slice p3 q3 r3, .slice p4 q4 r4, .slice p5 q5 r5, ah nv, .slice p6 q6 r6, .slice p7 q7 r7, .slice p8 q8 r8, .slice p9 q9 r9, .slice p10 q10 r10, .slice p11 q11 r11, .slice p12 q12 r12, .bool we, .slice p13 q13 r13, .slice jP jh jT, .slice jK iZ jH, .slice p16 q16 r16, .slice jL je jS, .slice jI jf jJ],Pc.old w.heap.size w] _ from lZ.o.setRow 0 rfl #[ah nu, .slice p1 q1 r1, .slice p2 q2 r2, .slice p3 q3 r3, .slice p4 q4 r4, .slice p5 q5 r5, ah nv, .slice p6 q6 r6, .slice p7 q7 r7, .slice p8 q8 r8, .slice p9 q9 r9, .slice p10 q10 r10, .slice p11 q11 r11, .slice p12 q12 r12, .bool we, .slice p13 q13 r13, .slice jP jh jT, .slice jK iZ jH, .slice p16 q16 r16, .slice jL je jS, .slice jI jf jJ]);have HT3:=bx (show Turns (λq=>q=w.heap.size) w2 _ from Turns.setRow (own:=λq=>q=w.heap.size) (g:=w.heap.size) rfl #[ah nu, .slice p1 q1 r1, .slice p2 q2 r2, .slice p3 q3 r3, .slice p4 q4 r4, .slice p5 q5 r5, ah nv, .slice p6 q6 r6, .slice p7 q7 r7, .slice p8 q8 r8, .slice p9 q9 r9, .slice p10 q10 r10, .slice p11 q11 r11, .slice p12 q12 r12, .bool we, .slice p13 q13 r13, .slice jP jh jT, .slice jK iZ jH, .slice p16 q16 r16, .slice jL je jS, .slice jI jf jJ])
 go_upto_region 3 with(refine Jl rfl _ _ rfl _ rfl rfl hld rfl (by rfl) (by kernel_rfl) ?_)
 generalize w2.setRow w.heap.size #[ah nu, .slice p1 q1 r1, .slice p2 q2 r2, .slice p3 q3 r3, .slice p4 q4 r4, .slice p5 q5 r5, ah nv, .slice p6 q6 r6, .slice p7 q7 r7, .slice p8 q8 r8, .slice p9 q9 r9, .slice p10 q10 r10, .slice p11 q11 r11, .slice p12 q12 r12, .bool we, .slice p13 q13 r13, .slice jP jh jT, .slice jK iZ jH, .slice p16 q16 r16, .slice jL je jS, .slice jI jf jJ]=w3 at iL HT3 ⊢;clear hld;have HB3:=bx (iL.o.bel (n:=w.heap.size) (W0:=w) (by simp));have iw:=bx (show dS w3 (.agg #[ah nu, .slice p1 q1 r1, .slice p2 q2 r2, .slice p3 q3 r3, .slice p4 q4 r4, .slice p5 q5 r5, ah nv, .slice p6 q6 r6, .slice p7 q7 r7, .slice p8 q8 r8, .slice p9 q9 r9, .slice p10 q10 r10, .slice p11 q11 r11, .slice p12 q12 r12, .bool we, .slice p13 q13 r13, .slice jP jh jT, .slice jK iZ jH, .slice p16 q16 r16, .slice jL je jS, .slice jI jf jJ]) K from uI.o w3 (HT3.o.mono (λk hk=>by have:=eG.o;omega)) HB3.o);have aS:=bx (HS.o.below HB3.o);have aI:=bx (λW (h:ak w3 W)=>(iL.o.blk 0 rfl).below h (iL.o.blk 0 rfl).lt);clear vw o9 lZ iL HT3 uI HB0 HB1 HB2 dU oI HS eG;go_wp2_with fail;refine aP (oU.o _) ?_;clear oU;go_wp2_with fail;refine aP (Dw.o _) ?_;clear Dw;have hcs:cs.size<=60:=mM.o;have hce:ce.size<=20:=Ht.o;have X1:=bx (λW (h:ak w3 W)=>UK A B _ K cs n ce 0 W (iw.o.below h) lW.o (by omega) (by omega) (aS.o.below h));have X2:=bx (λW (h:ak w3 W)=>UK A B _ K cs n ce 1 W (iw.o.below h) lW.o (by omega) (by omega) (aS.o.below h));have X3:=bx (λW (h:ak w3 W)=>UK A B _ K cs n ce 2 W (iw.o.below h) lW.o (by omega) (by omega) (aS.o.below h));obtain⟨ta,hta⟩:∃ t,t=C.jV K cs.data.toList n ce.data.toList 0:=⟨_,rfl⟩
 obtain⟨ea,hea⟩:∃ t,t=C.iY K cs.data.toList n ce.data.toList 0:=⟨_,rfl⟩
 rw [<- hta,<- hea] at X1;have XB:=bx hta;have Ny:=bx hea;clear hta hea;obtain⟨tb,htb⟩:∃ t,t=C.jV K cs.data.toList n ce.data.toList 1:=⟨_,rfl⟩
 obtain⟨eb,heb⟩:∃ t,t=C.iY K cs.data.toList n ce.data.toList 1:=⟨_,rfl⟩
 rw [<- htb,<- heb] at X2;have XW:=bx htb;have XI:=bx heb;clear htb heb;obtain⟨tc,htc⟩:∃ t,t=C.jV K cs.data.toList n ce.data.toList 2:=⟨_,rfl⟩
 obtain⟨ec,Jy⟩:∃ t,t=C.iY K cs.data.toList n ce.data.toList 2:=⟨_,rfl⟩
 rw [<- htc,<- Jy] at X3;have HTc:=bx htc;have Zm:=bx Jy;clear htc Jy;have hld:=aI.o w3 (Below.refl _ w3);go_wp2_with (refine eF rfl _ rfl _ rfl hld rfl ?_)
 refine aT (X1.o w3 (Below.refl _ w3)) λw4 hb=>?_
 clear hld;have HB4:=bx (bT (Below.refl _ w3) hb);clear hb;have hld:=aI.o w4 HB4.o;go_wp2_with (refine eF rfl _ rfl _ rfl hld rfl ?_)
 refine aT (X2.o w4 HB4.o) λw5 hb=>?_
 clear hld;have bU:=bx (bT HB4.o hb);clear hb;have hld:=aI.o w5 bU.o;go_wp2_with (refine eF rfl _ rfl _ rfl hld rfl ?_)
 refine aT (X3.o w5 bU.o) λw6 hb=>?_
 clear hld;have eY:=bx (bT bU.o hb);clear hb;have hb1:eb=ea:=by rw [XI.o,Ny.o,C.QO (by decide)]
 have hc1:ec=ea:=by rw [Zm.o,Ny.o,C.QO (by decide)]
 subst hb1;subst hc1
 by_cases h0:ec=0
 ·have hpe:C.iY K cs.data.toList n ce.data.toList 0=0:=Ny.o.symm.trans h0;subst h0;obtain⟨hk,-,-⟩:=C.ahj hpe;have hte:textE K.c ce.data.toList=0:=EC hk (by rw [<- size_eq];omega);obtain⟨p,r,hpl,h1,h2,h3,h4,h5⟩:=C.amV hpe (by rw [<- size_eq];omega);obtain rfl:ta=p++M.fix cs.data.toList:=XB.o.trans h1;obtain rfl:tb=M.fix cs.data.toList++p:=XW.o.trans h2;obtain rfl:tc=r:=HTc.o.trans h3;have X4:=bx (λW (h:ak w3 W)=>show Calls prog 33 #[.string cs] W λe' w'=>e' = .returned (.string (bs (M.fix cs.data.toList)))/\ak W w' from wZ A B cs W (by omega) (aS.o.below h).e (aS.o.below h).le);have X5:=bx (λW (h:ak w3 W)=>Pj A B _ K.c ce W (iw.o.below h).tabs lW.o.c (by omega) (aS.o.below h).e (aS.o.below h).d (aS.o.below h).g (aS.o.below h).le hte);have hfl:=C.qJ cs.data.toList;rw [<- size_eq] at hfl;obtain⟨fx,hfx⟩:∃ f,f=M.fix cs.data.toList:=⟨_,rfl⟩
  rw [<- hfx] at X4 h4 h5 hfl ⊢;obtain⟨N,hN⟩:∃ N,(C.bf K.c ce.data.toList).length=N:=⟨_,rfl⟩
  have HN:=bx hN;rw [hN] at h5;generalize C.bf K.c ce.data.toList=cl at X5 HN;clear hpe hk hte h1 h2 h3 hfx hN XB XW HTc Ny XI Zm hcs hce;obtain⟨ta,hta⟩:∃ t,t=p++fx:=⟨_,rfl⟩
  obtain⟨tb,htb⟩:∃ t,t=fx++p:=⟨_,rfl⟩
  have hla:ta.length=p.length+fx.length:=by rw [hta,bC]
  have hlb:tb.length=p.length+fx.length:=by rw [htb,bC];omega
  rw [<- hta] at h5 ⊢;rw [<- htb];have s1:=dN ta;have s2:=dN tb;have s3:=dN tc;have s4:=dN fx;have c1:=Gq (P:=prog) (T:=9) underlying9 ta p.length (((bs ta).size:Int)-((bs fx).size:Int)) (by omega) (by omega);rw [show ta.drop p.length=fx by rw [hta,List.drop_left]] at c1;have c2:=Ef (P:=prog) (T:=9) underlying9 tb fx.length ((bs fx).size:Int) (by omega) (by omega);rw [show tb.take fx.length=fx by rw [htb,List.take_left]] at c2;have c3:=Ef (P:=prog) (T:=9) underlying9 ta p.length (((bs ta).size:Int)-((bs fx).size:Int)) (by omega) (by omega);rw [show ta.take p.length=p by rw [hta,List.take_left]] at c3;have c4:=Gq (P:=prog) (T:=9) underlying9 tb fx.length ((bs fx).size:Int) (by omega) (by omega);rw [show tb.drop fx.length=p by rw [htb,List.drop_left]] at c4;have q1:((bs fx).toList==(bs fx).toList)=true:=by simp
  have q2:((bs p).toList==(bs p).toList)=true:=by simp
  have d1:decide (((bs ta).size:Int)<((bs fx).size:Int))=false:=dh (by omega);have d2:(((bs tb).size:Int) != ((bs ta).size:Int))=false:=by rw [bne_eq_false_iff_eq];omega
  have d3:decide (((bs tc).size:Int)<((bs fx).size:Int))=false:=dh (by omega);have hw1:(bs ta).size<=200000000:=by have:=mM.o;omega
  have hw2:(bs fx).size<=200000000:=by have:=mM.o;omega
  have hw3:(bs fx).size<=(bs ta).size:=by omega
  have h5':=bx h5;have S3:=bx (show (bs tc).size=tc.length/\(bs ta).size=ta.length from⟨s3,s1⟩);clear hpl hfl h4 h5 hta htb hla hlb s1 s2 s3 s4;go_wp2_with fail;refine aT (X4.o w6 eY.o) λw7 hb=>?_
  have bW:=bx (bT eY.o hb);clear hb;have hld:=aI.o w7 bW.o;obtain⟨e0,e1,e2,e3,e4,e5,e6,e7,e8,e9,e10,e11,e12,e13,e14,e15,e16,e17,e18,e19,e20,el⟩:=hld.c21 aZ;clear hld e6 e7 e8 e9 e10 e11 e12 e13 e14 e15 e16 e17 e18 e19 e20;go_wp2_with fail;refine(X5.o w7 bW.o).mono ?_;rintro ex w8 ⟨⟨vl,rfl,hvl,-⟩,hb⟩;clear e0 e1 e2 e3 e4 e5 el;have eU:=bx (bT bW.o hb);obtain⟨la,lc,rfl,-⟩:=hvl.slice;rw [HN.o];clear hb hvl
  by_cases hn1:N=1
  ·have h9:=h5'.o hn1;subst hn1;have d4:decide (((bs tc).size:Int)<=((bs ta).size:Int))=true:=bD (by obtain⟨a1,a2⟩:=S3.o;omega);clear h9 h5' S3;go_wp2_with fail
   ·rename_i h9
    have r1:=of_decide_eq_false d1;have r3:=of_decide_eq_false d3
    exfalso
    omega
   go_quiet (fail)
   go_wp2
   go_ret
   exact⟨congrArg (λb=>Ending.returned (.bool b)) (bD (show (bs tc).size<=(bs ta).size by have:=of_decide_eq_true d4;omega)),bT HB3.o (eU.o.trans ((jg w8 _).mono eU.o.size))⟩
  have d4:((N:Int) != 1)=true:=by rw [Ji];omega
  clear h5' S3;go_wp2_with fail
  ·rename_i h9
   have r1:=of_decide_eq_false d1;have r3:=of_decide_eq_false d3
   exfalso
   omega
  go_quiet (fail)
  go_wp2
  go_ret
  exact⟨rfl,bT HB3.o (eU.o.trans ((jg w8 _).mono eU.o.size))⟩
 have hne:(ec==0)=false:=by rw [fG];exact h0
 have hnn:(ec != 0)=true:=by rw [Ji];exact h0
 obtain rfl:ta=[]:=XB.o.trans (C.aae (by rw [<- Ny.o];exact h0));obtain rfl:tb=[]:=XW.o.trans (C.aae (by rw [<- XI.o];exact h0));obtain rfl:tc=[]:=HTc.o.trans (C.aae (by rw [<- Zm.o];exact h0));have e1:=xH;clear hcs hce
 go_wp2
 go_ret
 exact⟨rfl,bT HB3.o eY.o⟩
end
end Go.Proofs.YtdponihkpomheaaGreatDoor
