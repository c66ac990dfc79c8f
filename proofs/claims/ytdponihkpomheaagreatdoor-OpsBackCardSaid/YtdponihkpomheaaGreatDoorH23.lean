/- Texts of this claim. -/
import Derived.Test.YtdponihkpomheaaGreatDoorH22

set_option maxRecDepth 100000
set_option maxHeartbeats 16000000
namespace Go.Proofs.YtdponihkpomheaaGreatDoor
open Go.RowKit
open Go.Proofs.Tryz
namespace bF
def ads:List UInt8:=[48,51,48,49,59,90]
def data:List UInt8:=[48,48,54,49,59,97,59,76,108,59,48,59,76,59,59,59,59,59,78,59,59,59,48,48,52,49,59,59,48,48,52,49]
def core:List UInt8:=[48,48,54,49,59,67,97,115,101,100]
def r4:List F.bI:=[(769,769,6)]
def r1:List F.bI:=[(97,97,1)]
def ti:List F.Map:=[(97,[65])]
def wd:C.Wd:=⟨F.iC r4,false⟩
def cs:T.Cs:=⟨[],ti,F.iC r1,F.iC []⟩
def kt:C.Kt:=⟨aQ.tb,aQ.tb,wd,cs⟩
def ga (k:Int):C.Ga:=C.kg kt k
attribute [local irreducible] F.iC
theorem acW {c:T.Cs} {l:List F.bI} (h:c.ca=F.iC l) (r:Nat) (hr:r / 256<4352):T.cased c (r:Int)=(F.tJ l (r:Int) != 0):=by unfold T.cased;rw [h,F.Xz _ _ hr]
theorem adv {c:T.Cs} {l:List F.bI} (h:c.ig=F.iC l) (r:Nat) (hr:r / 256<4352):T.fP c (r:Int)=(F.tJ l (r:Int) != 0):=by unfold T.fP;rw [h,F.Xz _ _ hr]
theorem yB:wd.p=F.iC r4:=rfl
theorem MG:cs.ca=F.iC r1:=rfl
theorem Lu:cs.ig=F.iC []:=rfl
theorem recs:∃ rs,F.parse data=some rs/\F.vX rs rs.length=some ([97],[],ti):=by
 have h:(match F.parse data with | none=>false | some rs=>decide (F.vX rs rs.length=some ([97],[],ti)))=true:=by decide +kernel
 revert h
 cases F.parse data with
 | none=>intro h;exact absurd h (by decide)
 | some rs=>intro h;exact⟨rs,rfl,of_decide_eq_true h⟩
theorem alm:F.BI core [[78,111],[67,97,115,101,100]] true=some r1:=by decide +kernel
theorem atB:F.BI core [[78,111],[67,97,115,101,95,73,103,110,111,114,97,98,108,101]] true=some []:=by decide +kernel
theorem rb1:F.uy r1=true:=by decide +kernel
theorem rb2:F.uy []=true:=by decide +kernel
theorem rb4:F.uy r4=true:=by decide +kernel
theorem awW:F.BI ads L9 false=some r4:=by decide +kernel
theorem apB:rY wd where
 p1:=(aQ.Bq r4 yB).1
 p2:=(aQ.Bq r4 yB).2.1
 p3:=λr hr=>bP ((aQ.Bq r4 yB).2.2 r hr) (by decide)
theorem atH:T.Small cs where
 lo:=by decide
 loA:=by decide
 ti:=by decide
 tiA:=by decide
 c1:=(aQ.Bq r1 MG).1
 c2:=(aQ.Bq r1 MG).2.1
 c3:=λr hr=>bP ((aQ.Bq r1 MG).2.2 r hr) (by decide)
 g3:=λr hr=>bP ((aQ.Bq [] Lu).2.2 r hr) (by decide)
 g1:=(aQ.Bq [] Lu).1
 g2:=(aQ.Bq [] Lu).2.1
theorem axg:C.vZ wd=true:=by
 unfold C.vZ;rw [show F.nT wd.p=true by rw [yB];exact F.Tt (by decide),Bool.true_and,jG];intro b hb;rw [jG];intro x hx;rw [yB] at hb;unfold F.iC at hb;obtain⟨i,-,rfl⟩:=(F.built r4 4352).all b hb;unfold F.qU at hx;obtain⟨j,-,rfl⟩:=jM.1 hx;exact bD (aQ.awv (by decide) _)
theorem abX:T.lI 600 cs=true:=by
 unfold T.lI;rw [show F.nT cs.ca=true by rw [MG];exact F.Tt (by decide),show F.nT cs.ig=true by rw [Lu];exact F.Tt (by decide),show T.uP 600 cs.lo=true by decide +kernel,show T.uP 600 cs.ti=true by decide +kernel]
 rfl
theorem Ad:C.bH kt=true:=by
 unfold C.bH;rw [show nD kt.c=true from aQ.Zz,show nD kt.w=true from aQ.Zz,show C.vZ kt.d=true from axg,show T.lI 600 kt.s=true from abX]
 rfl
theorem Ia {s e:List UInt8} (h1:s.length<=600) (h2:e.length<=60):C.lH kt s e=0:=C.uV Ad h1 h2
theorem xO {k:Int} (h0:0<=k) (h1:k<=2):C.jF (ga k)=true:=C.CY Ad h0 h1
theorem asH:F.says aQ.tb.p 45=0:=by rw [show (45:Int)=((45:Nat):Int) from rfl,aQ.rG aQ.xB _ (by decide)];decide +kernel
theorem asb:C.kE wd 46=1:=by unfold C.kE;rw [show F.says wd.p 46=0 by rw [show (46:Int)=((46:Nat):Int) from rfl,aQ.rG yB _ (by decide)];decide +kernel];decide
theorem awR:C.kE wd 97=1:=by unfold C.kE;rw [show F.says wd.p 97=0 by rw [show (97:Int)=((97:Nat):Int) from rfl,aQ.rG yB _ (by decide)];decide +kernel];decide
theorem awU:C.kE wd 98=1:=by unfold C.kE;rw [show F.says wd.p 98=0 by rw [show (98:Int)=((98:Nat):Int) from rfl,aQ.rG yB _ (by decide)];decide +kernel];decide
theorem Um:F.says aQ.tb.p 99=0:=by rw [show (99:Int)=((99:Nat):Int) from rfl,aQ.rG aQ.xB _ (by decide)];decide +kernel
theorem akv:C.kE wd 99=1:=by unfold C.kE;rw [show F.says wd.p 99=0 by rw [show (99:Int)=((99:Nat):Int) from rfl,aQ.rG yB _ (by decide)];decide +kernel];decide
theorem aa4:F.says aQ.tb.p 100=0:=by rw [show (100:Int)=((100:Nat):Int) from rfl,aQ.rG aQ.xB _ (by decide)];decide +kernel
theorem amg:C.kE wd 100=1:=by unfold C.kE;rw [show F.says wd.p 100=0 by rw [show (100:Int)=((100:Nat):Int) from rfl,aQ.rG yB _ (by decide)];decide +kernel];decide
theorem anN:F.says aQ.tb.p 120=0:=by rw [show (120:Int)=((120:Nat):Int) from rfl,aQ.rG aQ.xB _ (by decide)];decide +kernel
theorem asI:C.kE wd 120=1:=by unfold C.kE;rw [show F.says wd.p 120=0 by rw [show (120:Int)=((120:Nat):Int) from rfl,aQ.rG yB _ (by decide)];decide +kernel];decide
theorem as3:F.says aQ.tb.p 121=0:=by rw [show (121:Int)=((121:Nat):Int) from rfl,aQ.rG aQ.xB _ (by decide)];decide +kernel
theorem atI:C.kE wd 121=1:=by unfold C.kE;rw [show F.says wd.p 121=0 by rw [show (121:Int)=((121:Nat):Int) from rfl,aQ.rG yB _ (by decide)];decide +kernel];decide
theorem avx:F.says aQ.tb.p 122=0:=by rw [show (122:Int)=((122:Nat):Int) from rfl,aQ.rG aQ.xB _ (by decide)];decide +kernel
theorem avU:C.kE wd 122=1:=by unfold C.kE;rw [show F.says wd.p 122=0 by rw [show (122:Int)=((122:Nat):Int) from rfl,aQ.rG yB _ (by decide)];decide +kernel];decide
theorem ao7:C.kE wd 769=0:=by unfold C.kE;rw [show F.says wd.p 769=6 by rw [show (769:Int)=((769:Nat):Int) from rfl,aQ.rG yB _ (by decide)];decide +kernel];decide
theorem NW:C.meas (ga 2) [97]=1:=by
 show (if (2:Int)=0 then ((U.textOf [97]).length:Int) else if (2:Int)=1 then 1 else C.iq wd [97])=_
 rw [aF (by decide),aF (by decide)];simp [C.iq,C.emoji,C.most,awR] <;> decide
theorem O5:C.meas (ga 2) [98]=1:=by
 show (if (2:Int)=0 then ((U.textOf [98]).length:Int) else if (2:Int)=1 then 1 else C.iq wd [98])=_
 rw [aF (by decide),aF (by decide)];simp [C.iq,C.emoji,C.most,awU] <;> decide
theorem Va:C.meas (ga 2) [99]=1:=by
 show (if (2:Int)=0 then ((U.textOf [99]).length:Int) else if (2:Int)=1 then 1 else C.iq wd [99])=_
 rw [aF (by decide),aF (by decide)];simp [C.iq,C.emoji,C.most,akv] <;> decide
theorem aeM:C.meas (ga 2) [100]=1:=by
 show (if (2:Int)=0 then ((U.textOf [100]).length:Int) else if (2:Int)=1 then 1 else C.iq wd [100])=_
 rw [aF (by decide),aF (by decide)];simp [C.iq,C.emoji,C.most,amg] <;> decide
theorem Qw:C.meas (ga 2) [46]=1:=by
 show (if (2:Int)=0 then ((U.textOf [46]).length:Int) else if (2:Int)=1 then 1 else C.iq wd [46])=_
 rw [aF (by decide),aF (by decide)];simp [C.iq,C.emoji,C.most,asb] <;> decide
theorem Ya:C.meas (ga 2) [120]=1:=by
 show (if (2:Int)=0 then ((U.textOf [120]).length:Int) else if (2:Int)=1 then 1 else C.iq wd [120])=_
 rw [aF (by decide),aF (by decide)];simp [C.iq,C.emoji,C.most,asI] <;> decide
theorem Wu:C.meas (ga 2) [121]=1:=by
 show (if (2:Int)=0 then ((U.textOf [121]).length:Int) else if (2:Int)=1 then 1 else C.iq wd [121])=_
 rw [aF (by decide),aF (by decide)];simp [C.iq,C.emoji,C.most,atI] <;> decide
theorem acz:C.meas (ga 2) [122]=1:=by
 show (if (2:Int)=0 then ((U.textOf [122]).length:Int) else if (2:Int)=1 then 1 else C.iq wd [122])=_
 rw [aF (by decide),aF (by decide)];simp [C.iq,C.emoji,C.most,avU] <;> decide
theorem al1:C.meas (ga 2) [769]=0:=by
 show (if (2:Int)=0 then ((U.textOf [769]).length:Int) else if (2:Int)=1 then 1 else C.iq wd [769])=_
 rw [aF (by decide),aF (by decide)];simp [C.iq,C.emoji,C.most,ao7] <;> decide
def t1:List UInt8:=[97,98,99,100]
theorem ahy:dF t1=[97,98,99,100]:=by decide +kernel
theorem ak9:dZ aQ.tb t1=[0,1,2,3,4]:=by
 unfold dZ rX jU;rw [ahy];simp only [iR,oV,aQ.GK,aQ.Io,Um,aa4]
 decide +kernel
theorem ad1:C.aO aQ.tb t1=[[97],[98],[99],[100]]:=by unfold C.aO;rw [ak9,ahy];rfl
theorem ge1 {k:Int} (h0:0<=k) (h1:k<=2):C.kM (ga k) t1=0:=C.nU (xO h0 h1) (by decide)
theorem ajC:C.dX (ga 2) (C.aO aQ.tb t1) (C.aO aQ.tb t1).length=4:=by
 rw [ad1];simp [C.dX,NW,O5,Va,aeM]
theorem anD:C.bZ (ga 2) t1=4:=by
 unfold C.bZ;rw [aG (ge1 (by decide) (by decide))];exact ajC
theorem te1:textE aQ.tb t1=0:=C.wG (g:=ga 2) (xO (by decide) (by decide)) (by decide)
theorem Qr:C.bf aQ.tb t1=[[97],[98],[99],[100]]:=by rw [C.uO te1,ad1];decide +kernel
def t2:List UInt8:=[97,98,99,100,46]
theorem ahg:dF t2=[97,98,99,100,46]:=by decide +kernel
theorem akD:dZ aQ.tb t2=[0,1,2,3,4,5]:=by
 unfold dZ rX jU;rw [ahg];simp only [iR,oV,aQ.Qz,aQ.GK,aQ.Io,Um,aa4]
 decide +kernel
theorem anj:C.aO aQ.tb t2=[[97],[98],[99],[100],[46]]:=by unfold C.aO;rw [akD,ahg];rfl
theorem ge2 {k:Int} (h0:0<=k) (h1:k<=2):C.kM (ga k) t2=0:=C.nU (xO h0 h1) (by decide)
theorem apu:C.dX (ga 2) (C.aO aQ.tb t2) (C.aO aQ.tb t2).length=5:=by
 rw [anj];simp [C.dX,Qw,NW,O5,Va,aeM]
theorem akw:C.bZ (ga 2) t2=5:=by
 unfold C.bZ;rw [aG (ge2 (by decide) (by decide))];exact apu
def t3:List UInt8:=[97,98,99,46]
theorem afF:dF t3=[97,98,99,46]:=by decide +kernel
theorem aw2:dZ aQ.tb t3=[0,1,2,3,4]:=by
 unfold dZ rX jU;rw [afF];simp only [iR,oV,aQ.Qz,aQ.GK,aQ.Io,Um]
 decide +kernel
theorem atK:C.aO aQ.tb t3=[[97],[98],[99],[46]]:=by unfold C.aO;rw [aw2,afF];rfl
theorem ge3 {k:Int} (h0:0<=k) (h1:k<=2):C.kM (ga k) t3=0:=C.nU (xO h0 h1) (by decide)
theorem sum3:C.dX (ga 2) (C.aO aQ.tb t3) (C.aO aQ.tb t3).length=4:=by
 rw [atK];simp [C.dX,Qw,NW,O5,Va]
theorem aus:C.bZ (ga 2) t3=4:=by
 unfold C.bZ;rw [aG (ge3 (by decide) (by decide))];exact sum3
def t4:List UInt8:=[97,98,46]
theorem Xv:dF t4=[97,98,46]:=by decide +kernel
theorem aiV:dZ aQ.tb t4=[0,1,2,3]:=by
 unfold dZ rX jU;rw [Xv];simp only [iR,oV,aQ.Qz,aQ.GK,aQ.Io]
 decide +kernel
theorem asD:C.aO aQ.tb t4=[[97],[98],[46]]:=by unfold C.aO;rw [aiV,Xv];rfl
theorem ge4 {k:Int} (h0:0<=k) (h1:k<=2):C.kM (ga k) t4=0:=C.nU (xO h0 h1) (by decide)
theorem am1:C.dX (ga 2) (C.aO aQ.tb t4) (C.aO aQ.tb t4).length=3:=by
 rw [asD];simp [C.dX,Qw,NW,O5]
theorem aup:C.bZ (ga 2) t4=3:=by
 unfold C.bZ;rw [aG (ge4 (by decide) (by decide))];exact am1
theorem te4:textE aQ.tb t4=0:=C.wG (g:=ga 2) (xO (by decide) (by decide)) (by decide)
def t5:List UInt8:=[46]
theorem aeP:dF t5=[46]:=by decide +kernel
theorem axn:dZ aQ.tb t5=[0,1]:=by
 unfold dZ rX jU;rw [aeP];simp only [iR,oV,aQ.Qz]
 decide +kernel
theorem auP:C.aO aQ.tb t5=[[46]]:=by unfold C.aO;rw [axn,aeP];rfl
theorem ge5 {k:Int} (h0:0<=k) (h1:k<=2):C.kM (ga k) t5=0:=C.nU (xO h0 h1) (by decide)
theorem aoe:C.dX (ga 2) (C.aO aQ.tb t5) (C.aO aQ.tb t5).length=1:=by
 rw [auP];simp [C.dX,Qw]
theorem awk:C.bZ (ga 2) t5=1:=by
 unfold C.bZ;rw [aG (ge5 (by decide) (by decide))];exact aoe
def t6:List UInt8:=[97,204,129,98]
theorem ace:dF t6=[97,769,98]:=by decide +kernel
theorem anH:dZ aQ.tb t6=[0,2,3]:=by
 unfold dZ rX jU;rw [ace];simp only [iR,oV,aQ.GK,aQ.Io,aQ.abW]
 decide +kernel
theorem agG:C.aO aQ.tb t6=[[97,769],[98]]:=by unfold C.aO;rw [anH,ace];rfl
theorem te6:textE aQ.tb t6=0:=C.wG (g:=ga 2) (xO (by decide) (by decide)) (by decide)
theorem adf:C.bf aQ.tb t6=[[97,204,129],[98]]:=by rw [C.uO te6,agG];decide +kernel
def t7:List UInt8:=[97,45,98,45,45,99]
theorem afv:dF t7=[97,45,98,45,45,99]:=by decide +kernel
theorem amn:dZ aQ.tb t7=[0,1,2,3,4,5,6]:=by
 unfold dZ rX jU;rw [afv];simp only [iR,oV,asH,aQ.GK,aQ.Io,Um]
 decide +kernel
theorem amL:C.aO aQ.tb t7=[[97],[45],[98],[45],[45],[99]]:=by unfold C.aO;rw [amn,afv];rfl
theorem te7:textE aQ.tb t7=0:=C.wG (g:=ga 2) (xO (by decide) (by decide)) (by decide)
theorem as6:C.bf aQ.tb t7=[[97],[45],[98],[45],[45],[99]]:=by rw [C.uO te7,amL];decide +kernel
def t8:List UInt8:=[97,98]
theorem aeK:dF t8=[97,98]:=by decide +kernel
theorem amv:dZ aQ.tb t8=[0,1,2]:=by
 unfold dZ rX jU;rw [aeK];simp only [iR,oV,aQ.GK,aQ.Io]
 decide +kernel
theorem afb:C.aO aQ.tb t8=[[97],[98]]:=by unfold C.aO;rw [amv,aeK];rfl
theorem ge8 {k:Int} (h0:0<=k) (h1:k<=2):C.kM (ga k) t8=0:=C.nU (xO h0 h1) (by decide)
theorem aq7:C.dX (ga 2) (C.aO aQ.tb t8) (C.aO aQ.tb t8).length=2:=by
 rw [afb];simp [C.dX,NW,O5]
theorem aoB:C.bZ (ga 2) t8=2:=by
 unfold C.bZ;rw [aG (ge8 (by decide) (by decide))];exact aq7
theorem te8:textE aQ.tb t8=0:=C.wG (g:=ga 2) (xO (by decide) (by decide)) (by decide)
theorem ana:C.bf aQ.tb t8=[[97],[98]]:=by rw [C.uO te8,afb];decide +kernel
def t9:List UInt8:=[120,121,122]
theorem ag6:dF t9=[120,121,122]:=by decide +kernel
theorem aox:dZ aQ.tb t9=[0,1,2,3]:=by
 unfold dZ rX jU;rw [ag6];simp only [iR,oV,anN,as3,avx]
 decide +kernel
theorem aa2:C.aO aQ.tb t9=[[120],[121],[122]]:=by unfold C.aO;rw [aox,ag6];rfl
theorem ge9 {k:Int} (h0:0<=k) (h1:k<=2):C.kM (ga k) t9=0:=C.nU (xO h0 h1) (by decide)
theorem an1:C.dX (ga 2) (C.aO aQ.tb t9) (C.aO aQ.tb t9).length=3:=by
 rw [aa2];simp [C.dX,Ya,Wu,acz]
theorem aiG:C.bZ (ga 2) t9=3:=by
 unfold C.bZ;rw [aG (ge9 (by decide) (by decide))];exact an1
def t10:List UInt8:=[204,129]
theorem aes:dF t10=[769]:=by decide +kernel
theorem am5:dZ aQ.tb t10=[0,1]:=by
 unfold dZ rX jU;rw [aes];simp only [iR,oV,aQ.abW]
 decide +kernel
theorem ajA:C.aO aQ.tb t10=[[769]]:=by unfold C.aO;rw [am5,aes];rfl
theorem alb {k:Int} (h0:0<=k) (h1:k<=2):C.kM (ga k) t10=0:=C.nU (xO h0 h1) (by decide)
theorem avh:C.dX (ga 2) (C.aO aQ.tb t10) (C.aO aQ.tb t10).length=0:=by
 rw [ajA];simp [C.dX,al1]
theorem agx:C.bZ (ga 2) t10=0:=by
 unfold C.bZ;rw [aG (alb (by decide) (by decide))];exact avh
theorem aaY {h t:List UInt8} {n m:Int} (hm:C.bZ (ga 2) (h++t)=m) (hn:n<m):C.nI (ga 2) h t n=false:=by
 unfold C.nI;rw [hm,dh (by omega),Bool.and_false]
theorem aq1:C.isA aQ.tb t4 2=true:=by
 unfold C.isA C.BD;rw [aG te4,aiV,Xv]
 decide +kernel
theorem auc:C.ug (ga 2) t1 t5=0/\C.su (ga 2) t1 t5 3=some 2:=by
 have h0:C.ug (ga 2) t1 t5=0:=by
  unfold C.ug;rw [xO (by decide) (by decide)]
  decide
 refine⟨h0,?_⟩;unfold C.su;rw [aG h0,show (ga 2).t=aQ.tb from rfl,Qr];have g4:C.nI (ga 2) (C.headA aQ.tb t1 4) t5 3=false:=by
  unfold C.headA;rw [Qr];exact aaY (m:=5) akw (by decide)
 have g3:C.nI (ga 2) (C.headA aQ.tb t1 3) t5 3=false:=by
  unfold C.headA;rw [Qr];exact aaY (m:=4) aus (by decide)
 have g2:C.nI (ga 2) (C.headA aQ.tb t1 2) t5 3=true:=by
  unfold C.headA;rw [Qr];show C.nI (ga 2) [97,98] [46] 3=true
  unfold C.nI;rw [show [97,98]++[46]=t4 from rfl,aup,show (ga 2).t=aQ.tb from rfl,show (([97,98]:List UInt8).length:Int)=2 from rfl,aq1]
  rfl
 simp only [dY,iG,C.yF,show (ga 2).t=aQ.tb from rfl,g4,g3,g2,show M.fix t5=t5 by decide +kernel]
 rfl
theorem trunc1:C.kY kt 2 t1 3 t5=0/\C.qm kt 2 t1 3 t5=t4:=by
 have h0:C.kY kt 2 t1 3 t5=0:=by
  unfold C.kY;rw [aG (Ia (by decide) (by decide))]
  rfl
 refine⟨h0,?_⟩;unfold C.qm;rw [aG h0];unfold C.vS;rw [show C.kg kt 2=ga 2 from rfl,anD,awk,aF (by decide),aF (by decide),auc.2];unfold C.headA;rw [show (ga 2).t=aQ.tb from rfl,Qr]
 decide +kernel
theorem aje:C.lH kt t6 []=0/\C.Ej kt t6=[98,97,204,129]:=by
 have h0:=Ia (s:=t6) (e:=[]) (by decide) (by decide);refine⟨h0,?_⟩;unfold C.Ej;rw [aG h0,show kt.c=aQ.tb from rfl,adf]
 decide +kernel
theorem acg:C.qM kt t7 [45]=0/\C.mX kt t7 [45]=[[97],[98],[],[99]]:=by
 have h0:C.qM kt t7 [45]=0:=by
  unfold C.qM;rw [aG (Ia (by decide) (by decide))]
  rfl
 refine⟨h0,?_⟩;unfold C.mX;rw [aG h0,show kt.c=aQ.tb from rfl,as6]
 decide +kernel
theorem agU:C.iY kt t8 7 t9 2=0/\C.jV kt t8 7 t9 2=[120,121,97,98,120,121,122]:=by
 have h0:C.iY kt t8 7 t9 2=0:=by
  unfold C.iY;rw [aG (Ia (by decide) (by decide)),show C.kg kt 2=ga 2 from rfl,aiG]
  rfl
 refine⟨h0,?_⟩;unfold C.jV;rw [aG h0];have hc:C.wW kt t8 7=5:=by
  unfold C.wW;rw [show C.kg kt 2=ga 2 from rfl,aoB]
  rfl
 rw [hc];unfold C.DL C.gu C.JC;rw [aF (by decide),aF (by decide),show kt.c=aQ.tb from rfl,aa2,show C.kg kt 2=ga 2 from rfl];have f1:C.wJ (ga 2) [[120],[121],[122]] 10 0 2=[120,121]:=by
  simp [C.wJ,Ya,Wu]
  decide +kernel
 have f2:C.wJ (ga 2) [[120],[121],[122]] 13 0 3=[120,121,122]:=by
  simp [C.wJ,Ya,Wu,acz]
  decide +kernel
 rw [show (5:Int) / 2=2 from rfl,show (5:Int)-2=3 from rfl,show (2:Int).toNat*([[120],[121],[122]]:List (List Int)).length+([[120],[121],[122]]:List (List Int)).length+1=10 from rfl,show (3:Int).toNat*([[120],[121],[122]]:List (List Int)).length+([[120],[121],[122]]:List (List Int)).length+1=13 from rfl,f1,f2]
 decide +kernel
theorem aiz:C.iY kt [] 3 t10 0=163:=by
 unfold C.iY;rw [aG (Ia (by decide) (by decide)),show C.kg kt 2=ga 2 from rfl,agx]
 rfl
theorem aa6:C.qI kt t6 4 2=0/\C.vU kt t6 4 2=[97,204,129]:=by
 have h0:C.qI kt t6 4 2=0:=by
  unfold C.qI;rw [aG (Ia (by decide) (by decide))]
  rfl
 refine⟨h0,?_⟩;unfold C.vU;rw [aG h0,show kt.c=aQ.tb from rfl,agG];unfold C.headA;rw [adf]
 decide +kernel
theorem ach:C.uX kt t8 1 9=0/\C.Ac kt t8 1 9=[98]:=by
 have h0:C.uX kt t8 1 9=0:=by
  unfold C.uX;rw [aG (Ia (by decide) (by decide))]
  rfl
 refine⟨h0,?_⟩;unfold C.Ac;rw [aG h0,show kt.c=aQ.tb from rfl,ana]
 decide +kernel
def t12:List UInt8:=[97,255]
theorem af6:dF t12=[97,65533]:=by decide +kernel
theorem apN:F.says aQ.tb.p 65533=0:=by rw [show (65533:Int)=((65533:Nat):Int) from rfl,aQ.rG aQ.xB _ (by decide)];decide +kernel
theorem atj:dZ aQ.tb t12=[0,1,2]:=by
 unfold dZ rX jU;rw [af6];simp only [iR,oV,aQ.GK,apN]
 decide +kernel
theorem ao4:T.cased cs 97=true:=by rw [show (97:Int)=((97:Nat):Int) from rfl,acW MG _ (by decide)];decide +kernel
theorem avJ:T.fP cs 97=false:=by rw [show (97:Int)=((97:Nat):Int) from rfl,adv Lu _ (by decide)];decide +kernel
theorem alf:T.cased cs 65533=false:=by rw [show (65533:Int)=((65533:Nat):Int) from rfl,acW MG _ (by decide)];decide +kernel
theorem anu:T.fP cs 65533=false:=by rw [show (65533:Int)=((65533:Nat):Int) from rfl,adv Lu _ (by decide)];decide +kernel
theorem blo:T.becomes cs.lo 97=[97]/\T.becomes cs.lo 65533=[65533]/\T.becomes cs.ti 97=[65]:=by decide +kernel
set_option linter.unusedSimpArgs false in
theorem ar8:T.LX cs aQ.tb t12=[65,65533]:=by
 obtain⟨h1,h2,h3⟩:=blo;unfold T.LX;rw [atj,af6];simp [T.Ap,T.word,T.yI,T.small,T.final,T.meets,List.range,List.range.loop,h1,h2,h3,ao4,avJ,alf,anu]
theorem adW:T.Cm cs aQ.tb t12=0/\T.Ew cs aQ.tb t12=[65,239,191,189]:=by
 have h:T.Cm cs aQ.tb t12=0:=by unfold T.Cm textE;rw [abX,aQ.Zz];rfl
 refine⟨h,?_⟩;unfold T.Ew;rw [aG h,ar8]
 decide +kernel
end bF
section
attribute [local go_sem] Oper.semAt_some
theorem aad (A:Nat->Addr) (B:Nat) (v:Value) (k:C.Kt) (w:World) (hv:dS w v k) (hs:gY k) (hS:Sw A B w) :
  Calls prog 18 #[v] w λe w'=>e = .returned (.bool (C.bH k))/\ak w w':=by
 have iP:=bx (show C.bH k=(nD k.c&&nD k.w&&C.vZ k.d&&T.lI 600 k.s) from rfl);obtain⟨ca,cp,cq,cr,cm,cf,wa,wp,wq,vr,wm,wf,iv,bv,wd,lo,ti,c1,c2,g1,g2,rfl,hk⟩:=hv;have qp:=bx (λW (h:ak w W)=>hk.below h);obtain⟨V,hV⟩:∃ V,V=w.alloc (.cells #[ah ca,cp,cq,cr,cm,cf, ah wa,wp,wq,vr,wm,wf,iv,bv, .bool wd,lo,ti,c1,c2,g1,g2] 38):=⟨_,rfl⟩
 have HB0:=bx (aB hV);have HK:=bx (aK hV);have aI:=bx (λW (h:ak V W)=>HK.o.c21 h);have HV:=bx hV;clear hk hV;have X0:=bx (λW (h:ak w W)=>NQ A B _ k.c W (qp.o W h).c hs.c (hS.below h).d (hS.below h).g (hS.below h).le);have X1:=bx (λW (h:ak w W)=>NQ A B _ k.w W (qp.o W h).w hs.w (hS.below h).d (hS.below h).g (hS.below h).le);have X2:=bx (λW (h:ak w W)=>aag _ k.d W (qp.o W h).d hs.d);have X3:=bx (λW (h:ak w W)=>ZF _ k.s W (qp.o W h).s hs.s);generalize C.bH k=res at iP ⊢;generalize nD k.c=b0 at X0 iP;generalize nD k.w=b1 at X1 iP;generalize C.vZ k.d=b2 at X2 iP;generalize T.lI 600 k.s=b3 at X3 iP;clear hS;obtain⟨k0,k1,k2,k3,k4,k5,k6,k7,k8,k9,k10,k11,k12,k13,k14,k15,k16,k17,k18,k19,k20,kk⟩:=aI.o V aZ
 go_in
 go_upto_region 1 with(fail)
 rw [<- HV.o];go_wp2_with fail;refine aT (X0.o V HB0.o) λw1 hb=>?_
 have HB1:=aJ HB0 hb;have pU:=bx (hb);clear hb k0 k1 k2 k3 k4 k5 k6 k7 k8 k9 k10 k11 k12 k13 k14 k15 k16 k17 k18 k19 k20 kk
 cases b0 with
 | false =>
  go_wp2
  go_ret
  exact⟨aY (by rw [iP.o];simp),HB1.o⟩
 | true =>
  obtain⟨k0,k1,k2,k3,k4,k5,k6,k7,k8,k9,k10,k11,k12,k13,k14,k15,k16,k17,k18,k19,k20,kk⟩:=aI.o w1 pU.o;go_wp2_with fail;refine aT (X1.o w1 HB1.o) λw2 hb=>?_
  have HB2:=aJ HB1 hb;have HC2:=aJ pU hb;clear hb k0 k1 k2 k3 k4 k5 k6 k7 k8 k9 k10 k11 k12 k13 k14 k15 k16 k17 k18 k19 k20 kk
  cases b1 with
  | false =>
   go_wp2
   go_ret
   exact⟨aY (by rw [iP.o];simp),HB2.o⟩
  | true =>
   obtain⟨k0,k1,k2,k3,k4,k5,k6,k7,k8,k9,k10,k11,k12,k13,k14,k15,k16,k17,k18,k19,k20,kk⟩:=aI.o w2 HC2.o;go_wp2_with fail;refine aT (X2.o w2 HB2.o) λw3 hb=>?_
   have HB3:=aJ HB2 hb;have iw:=aJ HC2 hb;clear hb k0 k1 k2 k3 k4 k5 k6 k7 k8 k9 k10 k11 k12 k13 k14 k15 k16 k17 k18 k19 k20 kk
   cases b2 with
   | false =>
    go_wp2
    go_ret
    exact⟨aY (by rw [iP.o];simp),HB3.o⟩
   | true =>
    obtain⟨k0,k1,k2,k3,k4,k5,k6,k7,k8,k9,k10,k11,k12,k13,k14,k15,k16,k17,k18,k19,k20,kk⟩:=aI.o w3 iw.o;go_wp2_with fail;refine aT (X3.o w3 HB3.o) λw4 hb=>?_
    have HB4:=aJ HB3 hb;have Iq:=aJ iw hb;clear hb k0 k1 k2 k3 k4 k5 k6 k7 k8 k9 k10 k11 k12 k13 k14 k15 k16 k17 k18 k19 k20 kk
    go_wp2
    go_ret
    exact⟨aY (by rw [iP.o];simp),HB4.o⟩
theorem EC {k:C.Kt} {s:List UInt8} (h:C.bH k=true) (hz:s.length<=2000):textE k.c s=0:=C.wG (g:=C.kg k 0) (C.CY h (by decide) (by decide)) hz
theorem abM (A:Nat->Addr) (B g:Nat) (k:C.Kt) (s:ByteArray) (w:World) (hg:mW w g k) (hs:gY k) (hb:C.bH k=true) (hz:s.size<=800) (hS:Sw A B w) :
  Calls prog 69 #[aA g, .string s] w λe w'=>(∃ v',e = .returned v'/\w'.ownsRow w.heap.size 9 1 v' (C.bf k.c s.data.toList).length ((C.bf k.c s.data.toList).map gW))/\ak w w':=by
 obtain⟨ca,cp,cq,cr,cm,cf,wa,wp,wq,vr,wm,wf,iv,bv,wd,lo,ti,c1,c2,g1,g2,hk,hp⟩:=hg;have aI:=bx (λW (h:ak w W)=>hk.c21 h);have qp:=bx (λW (h:ak w W)=>hp.below h);have X0:=bx (afu A B _ k.c s w hp.c hs.c hz hS.e hS.d hS.g hS.le (EC hb (by rw [<- size_eq];omega)));clear hk hp hs hb hz hS;obtain⟨k0,k1,k2,k3,k4,k5,k6,k7,k8,k9,k10,k11,k12,k13,k14,k15,k16,k17,k18,k19,k20,kk⟩:=aI.o w aZ
 go_in
 go_wp2_with fail;refine X0.o.mono ?_;rintro e w1 ⟨⟨v1,rfl,hv1⟩,hb1⟩;have HB1:=bx hb1;have mV:=bx hv1;obtain⟨la,lc,rfl,-⟩:=(cZ.iy hv1 rfl).slice;clear hb1 hv1 k0 k1 k2 k3 k4 k5 k6 k7 k8 k9 k10 k11 k12 k13 k14 k15 k16 k17 k18 k19 k20 kk
 go_wp2
 go_ret
 exact⟨⟨_,rfl,mV.o⟩,HB1.o⟩
theorem Qp (A:Nat->Addr) (B g:Nat) (k:C.Kt) (s:ByteArray) (w:World) (hg:mW w g k) (hs:gY k) (hb:C.bH k=true) (hz:s.size<=800) (hS:Sw A B w) :
  Calls prog 69 #[aA g, .string s] w λe w'=>(∃ v',e = .returned v'/\cZ w' v' (C.bf k.c s.data.toList)/\∀ b,v'.ownBlock=some b->w.heap.size<=b)/\ak w w' :=
 (abM A B g k s w hg hs hb hz hS).mono (by rintro e w' ⟨⟨v',rfl,h⟩,hb⟩;exact⟨⟨v',rfl,cZ.iy h rfl,λg hg=>(h.lt g hg).1⟩,hb⟩)
theorem acB (g:Nat) (k:C.Kt) (i:Int) (w:World) (hg:mW w g k) :
  Calls prog 116 #[aA g, ah i] w λe w'=>(∃ v',e = .returned v'/\rM w' v' (C.kg k i))/\ak w w':=by
 obtain⟨ca,cp,cq,cr,cm,cf,wa,wp,wq,vr,wm,wf,iv,bv,wd,lo,ti,c1,c2,g1,g2,hk,hp⟩:=hg;obtain⟨V,hV⟩:∃ V,V=w.alloc (.cells #[ah 0, aj, aj, aj, aj, aj, aj, aj, .bool false, ah 0] 57):=⟨_,rfl⟩
 have HB0:=bx (aB hV);have HK:=bx (aK hV);have aI:=bx (λW (h:ak V W)=>(hk.below HB0.o hk.lt).c21 h);have KX:=bx (hp.gauge i);obtain⟨o1,o2,o3,o4,o5,o6,o7⟩:cp.oneCell'=true/\cq.oneCell'=true/\cr.oneCell'=true/\cm.oneCell'=true/\cf.oneCell'=true/\iv.oneCell'=true/\bv.oneCell'=true:=by
  obtain⟨x1,z1,x2,z2,x3,z3,x4,z4,x5,z5,x6,z6,x7,z7,he⟩:=(hp.gauge i).slices;injection he with he;simp only [Array.mk.injEq,jm] at he;obtain⟨-,rfl,rfl,rfl,rfl,rfl,rfl,rfl,-⟩:=he;exact⟨rfl,rfl,rfl,rfl,rfl,rfl,rfl⟩
 have HV:=bx hV;clear hk hp hV
 go_in
 go_upto_region 1 with(fail)
 rw [<- HV.o];refine jl 12 (λW'=>ay W' g 0=some (ah ca)/\ay W' g 1=some (cp)/\ay W' g 2=some (cq)/\ay W' g 3=some (cr)/\ay W' g 4=some (cm)/\ay W' g 5=some (cf)/\ay W' g 6=some (ah wa)/\ay W' g 7=some (wp)/\ay W' g 8=some (wq)/\ay W' g 9=some (vr)/\ay W' g 10=some (wm)/\ay W' g 11=some (wf)/\ay W' g 12=some (iv)/\ay W' g 13=some (bv)/\ay W' g 14=some (.bool wd)/\ay W' g 15=some (lo)/\ay W' g 16=some (ti)/\ay W' g 17=some (c1)/\ay W' g 18=some (c2)/\ay W' g 19=some (g1)/\ay W' g 20=some (g2)/\g<W'.heap.size) (by kernel_rfl) ?_;have dH:=bx (aI.o V.drew (jg V 1));have aX:=bx (show ak V V.drew from jg V 1);generalize V.drew=WR at dH aX ⊢;refine jB [0,1,2,3,4,5,6,7,8,9,10] ?_
 iterate 11 (refine jA ?_ rfl dH.o ?_ ?_;rotate_left;·rintro w ⟨q1,q2,q3,q4,q5,q6,q7,q8,q9,q10,q11,q12,q13,jh,iZ,q16,je,jf,q19,q20,q21,q22⟩;go_simp;try with_reducible rfl)
 refine jr ?_;refine kP 11 rfl λKK au=>?_
 go_simp;refine au.out _ _ (λ_=>dH.o) ?_;clear au KK;refine kP 12 rfl λKK au=>?_
 refine aeY rfl 57 _ _ rfl w.heap.size (cells:=#[ah ca,cp,cq,cr,cm,cf,iv,bv, .bool wd, ah i]) (by kernel_rfl) (by kernel_rfl) (HK.o.below aX.o HK.o.lt) acV rfl (by simp only [List.all_toArray,List.all_cons,List.all_nil,o1,o2,o3,o4,o5,o6,o7,Bool.and_true,Bool.true_and];rfl) ?_;refine au.out _ _ (λh=>by cases h) ?_;clear au KK;refine kD ?_ _;go_wp2_with fail;have hbf:=HB0.o.trans ((aX.o.mono HB0.o.size).trans ((Turns.setRow (W:=WR) (own:=λq=>q=w.heap.size) (g:=w.heap.size) rfl #[ah ca,cp,cq,cr,cm,cf,iv,bv, .bool wd, ah i]).below (bP HB0.o.size aX.o.size) (λq hq=>by omega)));exact bodyPost_ret (results_cell_row results116 _ _ w.heap.size 57 _ (0,0) _ rfl ((HK.o.below aX.o HK.o.lt).setRow #[ah ca,cp,cq,cr,cm,cf,iv,bv, .bool wd, ah i]) underlying57 rfl acV) rfl ⟨⟨_,rfl,KX.o.below hbf⟩,hbf⟩
theorem DZ (A:Nat->Addr) (B g:Nat) (k:C.Kt) (i:Int) (s:ByteArray) (w:World) (hg:mW w g k) (hs:gY k) (hz:s.size<=800) (hS:Sw A B w) :
  Calls prog 76 #[aA g, ah i, .string s] w λe w'=>e = .returned (ah (C.bZ (C.kg k i) s.data.toList))/\ak w w':=by
 have X0:=bx (acB g k i w hg);have X1:=bx (λv W (h:ak w W) (hv:rM W v (C.kg k i))=>ahS A B v (C.kg k i) s W hv hs.c hs.d hz (hS.below h).e (hS.below h).d (hS.below h).g (hS.below h).le);generalize C.bZ (C.kg k i) s.data.toList=m at X1 ⊢;generalize C.kM (C.kg k i) s.data.toList=e0 at X1;clear hg hs hz hS
 go_in
 go_wp2_with fail;refine X0.o.mono ?_;rintro e w1 ⟨⟨v1,rfl,hv1⟩,hb1⟩;have HB1:=bx hb1;have Ql:=bx (X1.o v1 w1 hb1 hv1);obtain⟨x1,z1,x2,z2,x3,z3,x4,z4,x5,z5,x6,z6,x7,z7,rfl⟩:=hv1.slices;clear hv1 X1 hb1;go_wp2_with fail;refine dI Ql.o HB1.o λw2 HB2=>?_
 go_wp2
 go_ret
 exact⟨rfl,HB2.o⟩
theorem Z9 (s:ByteArray) (w:World) :
  Calls prog 92 #[.string s] w λe w'=>e = .returned (.bool (decide ((s.size:Int)<=60)))/\ak w w':=by
 go_in
 go_wp2
 go_ret
 exact⟨rfl,Below.refl _ _⟩
theorem LZ (A:Nat->Addr) (B:Nat) (v pv:Value) (k:C.Kt) (s:ByteArray) (ps:List (List UInt8)) (w:World) (hv:dS w v k) (hs:gY k) (hS:Sw A B w) (hb:C.bH k=false) (hp:cZ w pv ps) :
  Calls prog 53 #[v, .string s,pv] w λe w'=>e = .returned (.tuple #[.pointer none, .iface 91 (.agg #[ah 160])])/\ak w w':=by
 have X0:=bx (λW (h:ak w W)=>aad A B v k W (hv.below h) hs (hS.below h));rw [hb] at X0;obtain⟨pa,pc,rfl,-⟩:=hp.slice;generalize ps.length=N;clear hs hS hb hp;obtain⟨ca,cp,cq,cr,cm,cf,wa,wp,wq,vr,wm,wf,iv,bv,wd,lo,ti,c1,c2,g1,g2,rfl,hk⟩:=hv;have qp:=bx (λW (h:ak w W)=>hk.below h);obtain⟨V,hV⟩:∃ V,V=w.alloc (.cells #[ah ca,cp,cq,cr,cm,cf, ah wa,wp,wq,vr,wm,wf,iv,bv, .bool wd,lo,ti,c1,c2,g1,g2] 38):=⟨_,rfl⟩
 have HB0:=bx (aB hV);have HK:=bx (aK hV);have aI:=bx (λW (h:ak V W)=>HK.o.below h HK.o.lt);have HV:=bx hV;clear hk hV;have HR:=bx (X0.o V HB0.o);clear X0;have hld:=aI.o V aZ
 go_in
 go_upto_region 1 with(fail)
 rw [<- HV.o];go_wp2_with fail;refine uz 0 rfl ?_;go_wp2_with (refine eF rfl _ rfl _ rfl hld rfl ?_)
 refine dI HR.o HB0.o λw1 HB1=>?_
 clear hld;go_wp2_with fail
 go_step3
 refine⟨rfl,?_⟩;go_wp2_with fail;rw [Exit.noGoto_ret];go_ret2;exact⟨rfl,HB1.o⟩
theorem uQ (A:Nat->Addr) (B:Nat) (v pv:Value) (k:C.Kt) (s:ByteArray) (ps:List (List UInt8)) (w:World) (hv:dS w v k) (hs:gY k) (hS:Sw A B w) (hb:C.bH k=true) (hp:cZ w pv ps) (hz:s.size<=600) (hpz:ps.length<=100) (hal:∀ p∈ps,p.length<=60) :
  Calls prog 53 #[v, .string s,pv] w λe w'=>(∃ g,e = .returned (.tuple #[aA g, .nilIface])/\mW w' g k/\w.heap.size<=g)/\ak w w':=by
 have X0:=bx (λW (h:ak w W)=>aad A B v k W (hv.below h) hs (hS.below h));rw [hb] at X0;have xM:=bx hp;have IJ:=bx (λW (x:List UInt8) (hx:x∈ps)=>show Calls prog 92 #[.string (bs x)] W λe w'=>e = .returned (.bool true)/\ak W w' from(Z9 (bs x) W).mono λe w' h=>by
  have h9:=hal x hx;rw [bD (show ((bs x).size:Int)<=60 by rw [size_eq,xZ];omega)] at h;exact h)
 obtain⟨pa,pc,rfl,-⟩:=hp.slice;obtain⟨N,hN⟩:∃ N,ps.length=N:=⟨_,rfl⟩
 rw [hN] at hpz ⊢;have HN:=bx hN;have hls:decide ((600:Int)<(s.size:Int))=false:=dh (by omega);clear hs hS hb hp hal hN;obtain⟨ca,cp,cq,cr,cm,cf,wa,wp,wq,vr,wm,wf,iv,bv,wd,lo,ti,c1,c2,g1,g2,rfl,hk⟩:=hv;have qp:=bx (λW (h:ak w W)=>hk.below h);obtain⟨V,hV⟩:∃ V,V=w.alloc (.cells #[ah ca,cp,cq,cr,cm,cf, ah wa,wp,wq,vr,wm,wf,iv,bv, .bool wd,lo,ti,c1,c2,g1,g2] 38):=⟨_,rfl⟩
 have HB0:=bx (aB hV);have HK:=bx (aK hV);have aI:=bx (λW (h:ak V W)=>HK.o.below h HK.o.lt);have HV:=bx hV;clear hk hV;have HR:=bx (X0.o V HB0.o);clear X0;have hld:=aI.o V aZ
 go_in
 go_upto_region 1 with(fail)
 rw [<- HV.o];go_wp2_with fail;refine uz 0 rfl ?_;go_wp2_with (refine eF rfl _ rfl _ rfl hld rfl ?_)
 refine aT HR.o λw1 hb1=>?_
 have HB1:=aJ HB0 hb1;have nM:=bx hb1;clear hb1 hld;go_wp2_with fail
 go_loopw [19] (λi wr=>∃ j:Nat,j<=N/\i = ah j/\Box (ak w wr)/\Box (ak V wr)) (λi _=>N-(intOf i).toNat)
 ·exact⟨0,by omega,rfl,HB1,nM⟩
 obtain⟨j,hj,rfl,hbr,hlr⟩:=hrel
 by_cases hlt:j<N
 ·obtain⟨x,hx⟩:=bV ps j (by rw [HN.o];exact hlt);obtain⟨b,off,cap',ha0,ha1,ha2,pK,kQ⟩:=xM.o.get (by rintro rfl;simp at hx);rw [HN.o] at ha0 ha1;obtain⟨rfl,rfl⟩:=dQ ha0;have cx:=(hbr.o.cell (p:=⟨b,off+j,none⟩) pK).trans (kQ j x hx);have tC:=bx (IJ.o wr x (dB hx));have hbl:=fC pK hbr.o.size;unfold maxLen at ha2;clear hx ha0 kQ;go_wp2_with fail;refine aT tC.o λw2 hb2=>?_
  have HB2:=aJ hbr hb2;have HL2:=aJ hlr hb2;clear hb2 cx hbl
  go_wp2
  go_roundw
  ·exact⟨j+1,by omega,by go_num,HB2,HL2⟩
  simp [intOf];omega
 clear xM IJ;have hld:=aI.o wr hlr.o;have bM:=bx hbr.o.size;have HKF:=bx (qp.o wr hbr.o);have dn:=bx (aC.new wr 162 #[ah ca,cp,cq,cr,cm,cf, ah wa,wp,wq,vr,wm,wf,iv,bv, .bool wd,lo,ti,c1,c2,g1,g2]);have lK:=bx (hbr.o.trans ((dA wr (.cells #[ah ca,cp,cq,cr,cm,cf, ah wa,wp,wq,vr,wm,wf,iv,bv, .bool wd,lo,ti,c1,c2,g1,g2] 162)).mono hbr.o.size));have qB:=bx (dA wr (.cells #[ah ca,cp,cq,cr,cm,cf, ah wa,wp,wq,vr,wm,wf,iv,bv, .bool wd,lo,ti,c1,c2,g1,g2] 162));go_wp2_with (refine eF rfl _ rfl _ rfl hld rfl ?_)
 rw [yE];go_ret2;exact⟨⟨wr.heap.size,rfl,⟨_,_,_,_,_,_,_,_,_,_,_,_,_,_,_,_,_,_,_,_,_,dn.o,HKF.o.below qB.o⟩,bM.o⟩,lK.o⟩
namespace C
theorem alW (g:Ga) (s e:List UInt8) (n:Int):(su g s e n).getD 0<=(bf g.t s).length:=by
 unfold su
 split
 ·cases h:yF g s e n (bf g.t s).length with
  | none=>exact nK _
  | some i=>exact(ZG h).1
 exact nK _
theorem an3 {g:Ga} {s:List UInt8} (h:kM g s=0) (hz:s.length<=800):(bf g.t s).length<=1000:=by
 rw [Ru h,Gt];have h1:=(qg g.t s).2.len;have h2:=uJ s;omega
theorem H8 {k:Kt} {s:List UInt8} (h:bH k=true) (hz:s.length<=800):(bf k.c s).length<=1000/\∀ n,(headA k.c s n).length<=3*s.length:=by
 have hg:kM (kg k 0) s=0:=nU (CY h (by decide) (by decide)) (by omega);have h1:=an3 hg hz;have h2:=aaR (kg k 0) s hg;unfold headA;rw [show (kg k 0).t=k.c from rfl] at h1 h2;exact⟨h1,h2⟩
end C
theorem aww (A:Nat->Addr) (B g:Nat) (k:C.Kt) (i:Int) (s e:ByteArray) (n:Int) (w:World) (hg:mW w g k) (hs:gY k) (hb:C.bH k=true) (hz:3*s.size+3*e.size<=800) (hze:e.size<=60) (hS:Sw A B w) :
  Calls prog 55 #[aA g, ah i, .string s, ah n, .string e] w λen w'=>en = .returned (.string (bs (C.vS (C.kg k i) s.data.toList n e.data.toList)))/\ak w w':=by
 have X0:=bx (λW (h:ak w W) (t:ByteArray) (ht:t.size<=800)=>DZ A B g k i t W (hg.below h) hs ht (hS.below h));have X1:=bx (λW (h:ak w W)=>acB g k i W (hg.below h));have X2:=bx (λW (h:ak w W) v (hv:rM W v (C.kg k i))=>aud A B v (C.kg k i) s e n W hv hs.c hs.d hz hze (hS.below h).e (hS.below h).d (hS.below h).g (hS.below h).le);have X3:=bx (λW (h:ak w W)=>Qp A B g k s W (hg.below h) hs hb (by omega) (hS.below h));have X4:=bx (λW (h:ak w W) (t:ByteArray) (ht:t.size<=800)=>wZ A B t W (by omega) (hS.below h).e (hS.below h).le);have hcl:=C.H8 (s:=s.data.toList) hb (by rw [<- size_eq];omega);have hwl:(C.su (C.kg k i) s.data.toList e.data.toList n).getD 0<=(C.bf k.c s.data.toList).length:=C.alW (C.kg k i) _ _ _;have hfe:=C.qJ e.data.toList;rw [<- size_eq] at hfe;clear hg hs hb hS
 by_cases c1:C.bZ (C.kg k i) s.data.toList<=n
 ·have HR:=bx (show C.vS (C.kg k i) s.data.toList n e.data.toList=M.fix s.data.toList by unfold C.vS;rw [aG c1]);have d1:=bD c1;have X0:=bx (X0.o w aZ s (by omega));generalize C.bZ (C.kg k i) s.data.toList=m at X0 d1 c1;clear X1 X2 X3 c1 hcl hwl hfe
  go_in
  go_wp2_with fail;refine aT X0.o λw1 hb1=>?_
  have HB1:=bx hb1;clear hb1;go_wp2_with fail;refine dI (X4.o w1 HB1.o s (by omega)) HB1.o λw2 HB2=>?_
  go_wp2
  go_ret
  exact⟨by rw [HR.o];rfl,HB2.o⟩
 have d1:=dh c1
 by_cases c2:n<C.bZ (C.kg k i) e.data.toList
 ·have HR:=bx (show C.vS (C.kg k i) s.data.toList n e.data.toList=[] by unfold C.vS;rw [aF c1,aG c2]);have d2:=bD c2;have Y0:=bx (X0.o w aZ s (by omega));have Y1:=bx (λW (h:ak w W)=>X0.o W h e (by omega));generalize C.bZ (C.kg k i) s.data.toList=m at Y0 d1 c1;generalize C.bZ (C.kg k i) e.data.toList=me at Y1 d2 c2;clear X0 X1 X2 X3 X4 c1 c2 hcl hwl hfe
  go_in
  go_wp2_with fail;refine aT Y0.o λw1 hb1=>?_
  have HB1:=bx hb1;clear hb1;go_wp2_with fail;refine dI (Y1.o w1 HB1.o) HB1.o λw2 HB2=>?_
  go_wp2
  go_ret
  exact⟨by rw [HR.o];rfl,HB2.o⟩
 have d2:=dh c2;have HR:=bx (show C.vS (C.kg k i) s.data.toList n e.data.toList=(C.bf k.c s.data.toList |>.take ((C.su (C.kg k i) s.data.toList e.data.toList n).getD 0)).flatten++M.fix e.data.toList by unfold C.vS;rw [aF c1,aF c2];rfl);have HL:=bx (show ∀ q,((C.bf k.c s.data.toList).take q).flatten.length<=800 from λq=>by have:=hcl.2 q;rw [<- size_eq] at this;unfold C.headA at this;omega);have HN:=bx hcl.1;have Y0:=bx (X0.o w aZ s (by omega));have Y1:=bx (λW (h:ak w W)=>X0.o W h e (by omega));have Y4:=bx (λW (h:ak w W)=>X4.o W h e (by omega));generalize C.bZ (C.kg k i) s.data.toList=m at Y0 d1 c1;generalize C.bZ (C.kg k i) e.data.toList=me at Y1 d2 c2;generalize (C.su (C.kg k i) s.data.toList e.data.toList n).isSome=wb at X2;generalize (C.su (C.kg k i) s.data.toList e.data.toList n).getD 0=c at X2 HR hwl;generalize C.ug (C.kg k i) s.data.toList e.data.toList=we at X2;generalize C.bf k.c s.data.toList=cl at X3 HR HL HN hwl;obtain⟨fe,Pz⟩:∃ f,f=M.fix e.data.toList:=⟨_,rfl⟩
 rw [<- Pz] at HR Y4 hfe;obtain⟨N,hNN⟩:∃ N,N=cl.length:=⟨_,rfl⟩
 have ku:=bx hNN;rw [<- hNN] at hwl;have WH:=bx (show fe.length<=800 by omega);have D9:=bx hwl;clear X0 X4 c1 c2 hcl hfe Pz hz hze hNN
 go_in
 go_wp2_with fail;refine aT Y0.o λw1 hb1=>?_
 have HB1:=bx hb1;clear hb1;go_wp2_with fail;refine dI (Y1.o w1 HB1.o) HB1.o λw2 HB2=>?_
 go_wp2_with fail;refine(X1.o w2 HB2.o).mono ?_;rintro en w3 ⟨⟨gv,rfl,hgv⟩,hb3⟩;have HB3:=aJ HB2 hb3;have Y2:=bx (X2.o w3 HB3.o gv hgv);obtain⟨x1,z1,x2,z2,x3,z3,x4,z4,x5,z5,x6,z6,x7,z7,rfl⟩:=hgv.slices;clear hgv X2 hb3;go_wp2_with fail;refine dI Y2.o HB3.o λw4 HB4=>?_
 go_wp2_with fail;refine(X3.o w4 HB4.o).mono ?_;rintro en w5 ⟨⟨lv,rfl,hlv,-⟩,hb5⟩;have bU:=aJ HB4 hb5;have qG:=bx hlv;obtain⟨la,lc,rfl,hlc,hlm⟩:=hlv.slice;rw [<- ku.o] at hlc ⊢;clear hb5 hlv;have hwl:=D9.o;have hsl:=avb la N lc c hwl hlc;have auw:=bx (show cZ w5 (.slice la N lc) cl by have h:=qG.o;rw [<- ku.o] at h;exact h);have HLC:=bx hlc;clear qG hlc hlm;go_wp2_with fail;refine jl 8 (λ_=>True) (by kernel_rfl) ?_;have aX:=bx (show ak w5 w5.drew from jg w5 1);have bU:=bx (bt bU.o aX.o);have ZN:=bx (auw.o.below aX.o);generalize w5.drew=WR at *;refine jB [0,1,2,3,4] ?_
 iterate 5 (refine jA ?_ rfl trivial ?_ ?_;rotate_left;·intro w q1;go_simp;try with_reducible rfl)
 refine jr ?_;refine kP 5 rfl λKK au=>?_
 go_simp;refine aT (Y4.o WR bU.o) λw6 hb6=>?_
 have eY:=aJ bU hb6;have wR:=bx (show cZ w6 (.slice la c c) (cl.take c) by have h0:gB w6 (.slice la (cl.map gW).length lc) (cl.map gW):=by { rw [aV,<- ku.o];exact ZN.o.below hb6 };have h:=h0.take c c (by rw [dw];omega) (bP D9.o HLC.o);rw [dw,aV,<- ku.o,sH D9.o,<- List.map_take] at h;exact h);clear hb6;refine au.out _ _ (λ_=>trivial) ?_;clear au KK;refine kP 6 rfl λKK au=>?_
 go_simp;refine au.out _ _ (λ_=>trivial) ?_;clear au KK;refine kP 7 rfl λKK au=>?_
 refine apn (u:=gW fe) rfl _ _ 49 rfl Em wR.o (by rw [aV,dw,<- ku.o];have:=D9.o;omega) (by kernel_rfl) (by kernel_rfl) rfl (by have:=D9.o;have:=HN.o;have:=ku.o;omega) (by decide) ?_;intro v7 w7 hv7 hb7;have bW:=aJ eY hb7;have hv7:cZ w7 v7 (cl.take c++[fe]):=by unfold cZ;rw [gX];exact hv7
 have HJ:=bx (Eo v7 (cl.take c++[fe]) w7 hv7 (by rw [rH,bC];have:=HL.o c;have:=WH.o;simp only [pY,List.flatten_nil,oG];omega) (by rw [bC,dw];have:=HN.o;have:=ku.o;simp only [dY,iG];omega));obtain⟨a7,c7,rfl,-⟩:=hv7.slice;obtain⟨q7,hq7⟩:∃ q,q=(cl.take c++[fe]).length:=⟨_,rfl⟩
 rw [<- hq7] at HJ ⊢;clear hq7;clear hb7 hv7;refine au.out _ _ (λ_=>trivial) ?_;clear au KK;refine kP 8 rfl λKK au=>?_
 go_simp;refine dI HJ.o bW.o λw8 eU=>?_
 refine au.out _ _ (λh=>by cases h) ?_;clear au KK;refine kP 9 rfl λKK au=>?_
 go_simp;refine au.out _ _ (λh=>by cases h) ?_;clear au KK;refine kD ?_ _
 go_wp2
 go_ret
 exact⟨by rw [HR.o] <;> rfl,eU.o⟩
theorem oL {A:Nat->Addr} {B:Nat} {v:Value} {k:C.Kt} {w:World} (hv:dS w v k) (hS:Sw A B w):∃ (kz:Array Value) (V:World),v = .agg kz/\kz.size=21/\Box (V=w.alloc (.cells kz 38))/\Box (ak w V)/\Box (∀ W,ak V W->aC W w.heap.size 38 kz)/\Box (∀ W,ak w W->dS W (.agg kz) k)/\Box (∀ W,ak w W->Sw A B W):=by
 have qp:=bx (λW (h:ak w W)=>hv.below h);obtain⟨ca,cp,cq,cr,cm,cf,wa,wp,wq,vr,wm,wf,iv,bv,wd,lo,ti,c1,c2,g1,g2,rfl,-⟩:=hv;exact⟨_,_,rfl,rfl,⟨rfl⟩,⟨dA _ _⟩,⟨λW h=>(aC.new _ _ _).below h (aC.new _ _ _).lt⟩,qp,⟨λW h=>hS.below h⟩⟩
theorem xW (W:World) (e:ByteArray) (T:TypeId):cZ (W.alloc (.cells #[.string e] T)) (.slice (some ⟨W.heap.size,0,none⟩) 1 1) [e.data.toList]:=by
 have h:=aC.new W T #[.string e];refine .inr ⟨W.heap.size,0,none,1,rfl,bK _,by unfold maxLen;omega,λ_=>⟨rfl,h.lt,λi x hx=>?_⟩⟩
 cases i with
 | zero =>
  simp only [iR,oV,rQ,iQ] at hx;subst hx;exact(h.cell 0).trans rfl
 | succ i=>simp at hx
theorem abR (A:Nat->Addr) (B:Nat) (v:Value) (k:C.Kt) (i:Int) (s e:ByteArray) (n:Int) (w:World) (hv:dS w v k) (hs:gY k) (hz:3*s.size+3*e.size<=800) (hze:e.size<=60) (hS:Sw A B w) (hb:C.bH k=true) (hc1:¬ (i<0\/2<i)) (hc2:¬ (n<0)) :
  Calls prog 15 #[v, ah i, .string s, ah n, .string e] w λen w'=>en = .returned (.tuple #[.string (bs (C.qm k i s.data.toList n e.data.toList)), ah (C.kY k i s.data.toList n e.data.toList)])/\ak w w':=by
 obtain⟨kz,V,rfl,hkz,HV,HB0,aI,dM,dK⟩:=oL hv hS;have HOW:=bx (HB0.o.trans ((dA V (.cells #[.string e] 9)).mono HB0.o.size));have fH:=bx (λ(hb:C.bH k=true) (hz:s.size<=600) (hp:e.size<=60)=>uQ A B _ (.slice (some ⟨V.heap.size,0,none⟩) 1 1) k s [e.data.toList] _ (dM.o _ HOW.o) hs (dK.o _ HOW.o) hb (xW V e 9) hz (by simp) (λp hq=>by rw [fU.1 hq,<- size_eq];exact hp));have HO:=bx (fH.o hb (by omega) hze);have hke:C.lH k s.data.toList e.data.toList=0:=C.uV hb (by rw [<- size_eq];omega) (by rw [<- size_eq];omega);have d1:decide (i<0)=false:=dh (by omega);have d2:decide (2<i)=false:=dh (by omega);have d3:=dh hc2;have HR:=bx (show C.qm k i s.data.toList n e.data.toList=C.vS (C.kg k i) s.data.toList n e.data.toList/\C.kY k i s.data.toList n e.data.toList=0 by
  have h:C.kY k i s.data.toList n e.data.toList=0:=by unfold C.kY;rw [aG hke,aF hc1,aF hc2]
  exact⟨by unfold C.qm;rw [aG h],h⟩)
 have lq:=bx (λg W (h:ak w W) (hg:mW W g k)=>aww A B g k i s e n W hg hs hb hz hze (hS.below h));clear fH hb hs hS hz hze dM hke hc1 hc2;have hld:=aI.o V aZ
 go_in
 go_upto_region 1 with(fail)
 rw [<- HV.o];go_wp2_with (refine eF rfl _ rfl _ rfl hld hkz ?_)
 refine HO.o.mono ?_;rintro en w1 ⟨⟨g,rfl,hwk,-⟩,hb1⟩;have HB1:=aJ HOW hb1;have kF:=bx hwk;clear hb1 hwk hld;go_wp2_with fail;refine dI (lq.o g w1 HB1.o kF.o) HB1.o λw2 HB2=>?_
 go_wp2
 go_ret2
 exact⟨by rw [HR.o.1,HR.o.2] <;> rfl,HB2.o⟩
theorem grown_below {w w1 w2:World} {v:Value} (h:ak w w1) (hg:w1.grownBy w2 v.ownBlock) (ho:∀ g,v.ownBlock=some g->w.heap.size<=g):ak w w2 :=
 h.trans ⟨hg.os,hg.tape,hg.output,hg.size,λk hk=>hg.block k (fC hk h.size) (λe=>absurd (ho k e.symm) (by omega))⟩
namespace C
theorem acJ {k:Kt} {s:List UInt8} (h:bH k=true) (hz:s.length<=600):Ej k s=(bf k.c s).reverse.flatten/\lH k s []=0:=by
 have h0:=uV (s:=s) (e:=[]) h hz (by simp);exact⟨by unfold Ej;rw [aG h0],h0⟩
theorem aqZ (l:List (List UInt8)):l.reverse.flatten.length=l.flatten.length:=by
 rw [List.length_flatten,List.length_flatten,List.map_reverse,List.sum_reverse]
end C
theorem abV (A:Nat->Addr) (B:Nat) (v:Value) (k:C.Kt) (s:ByteArray) (w:World) (hv:dS w v k) (hs:gY k) (hz:s.size<=600) (hS:Sw A B w) (hb:C.bH k=true) :
  Calls prog 22 #[v, .string s] w λen w'=>en = .returned (.tuple #[.string (bs (C.Ej k s.data.toList)), ah (C.lH k s.data.toList [])])/\ak w w':=by
 obtain⟨kz,V,rfl,hkz,HV,HB0,aI,dM,dK⟩:=oL hv hS;have HOW:=bx HB0.o;have fH:=bx (λ(hb:C.bH k=true) (hz:s.size<=600)=>uQ A B _ (aj) k s [] V (dM.o V HB0.o) hs (dK.o V HB0.o) hb (.inl ⟨rfl,rfl⟩) hz (by simp) (λp hp=>by cases hp));have HO:=bx (fH.o hb hz);have HR:=bx (C.acJ (s:=s.data.toList) hb (by rw [<- size_eq];exact hz));have pX:=bx (λg W (h:ak w W) (hg:mW W g k)=>abM A B g k s W hg hs hb (by omega) (hS.below h));have hcl:=C.H8 (s:=s.data.toList) hb (by rw [<- size_eq];omega);have HN:=bx hcl.1;have HL:=bx (show (C.bf k.c s.data.toList).flatten.length<=1800 by
  have h:=hcl.2 (C.bf k.c s.data.toList).length;unfold C.headA at h;rw [mQ,<- size_eq] at h;omega)
 generalize C.bf k.c s.data.toList=cl at pX HN HL HR;clear fH hb hs hS hz dM hcl;have hld:=aI.o V aZ
 go_in
 go_upto_region 1 with(fail)
 rw [<- HV.o];go_wp2_with (refine eF rfl _ rfl _ rfl hld hkz ?_)
 refine HO.o.mono ?_;rintro en w1 ⟨⟨g,rfl,hwk,-⟩,hb1⟩;have HB1:=aJ HOW hb1;have kF:=bx hwk;clear hb1 hwk hld;go_wp2_with fail;refine(pX.o g w1 HB1.o kF.o).mono ?_;rintro en w2 ⟨⟨lv,rfl,hlv⟩,hb2⟩;have HB2:=aJ HB1 hb2;have yP:=bx (λg hq=>bP HB1.o.size (hlv.lt g hq).1);have qF:=bx (akg w1.heap.size lv cl w2 hlv (by have:=HN.o;omega));obtain⟨la,lc,rfl,-⟩:=(cZ.iy hlv rfl).slice;clear hb2 hlv;go_wp2_with fail;refine qF.o.mono ?_;rintro en w3 ⟨rfl,hlv3,hg3⟩;have HB3:=bx (grown_below HB2.o hg3 yP.o);have HJ:=bx (Eo _ cl.reverse w3 (cZ.iy hlv3 (by simp)) (by rw [C.aqZ];have:=HL.o;omega) (by rw [PG];have:=HN.o;omega));clear hlv3 hg3;go_wp2_with fail;refine dI HJ.o HB3.o λw4 HB4=>?_
 go_wp2
 go_ret2
 exact⟨by rw [HR.o.1,HR.o.2] <;> rfl,HB4.o⟩
namespace C
theorem UE {k:Kt} {s:List UInt8} {a b:Int} (h:bH k=true) (hz:s.length<=600) (hc:¬ (a<0\/b<a)):Ac k s a b=(((bf k.c s).take b.toNat).drop a.toNat).flatten/\uX k s a b=0:=by
 have h0:uX k s a b=0:=by unfold uX;rw [aG (uV h hz (by simp)),aF hc]
 exact⟨by unfold Ac;rw [aG h0],h0⟩
theorem aoX {l:List (List UInt8)} {i j:Nat}:((l.take j).drop i).flatten.length<=l.flatten.length:=by
 have h:=congrArg (λx=>x.flatten.length) (oN j l);have h2:=congrArg (λx=>x.flatten.length) (oN i (l.take j));simp only [rH,bC] at h h2;omega
theorem arT (l:List (List UInt8)) (i j:Nat) (_h:i<=j):(l.take (min j l.length)).drop (min i l.length)=(l.take j).drop i:=by
 rw [<- List.take_eq_take_min]
 by_cases hi:i<=l.length
 ·rw [sH hi]
 rw [Nat.min_eq_right (by omega),zF (by rw [dw];omega),zF (by rw [dw];omega)]
end C
theorem ahn (A:Nat->Addr) (B:Nat) (v:Value) (k:C.Kt) (s:ByteArray) (a b:Int) (w:World) (hv:dS w v k) (hs:gY k) (hz:s.size<=600) (hS:Sw A B w) (hb:C.bH k=true) (hc:¬ (a<0\/b<a)) :
  Calls prog 24 #[v, .string s, ah a, ah b] w λen w'=>en = .returned (.tuple #[.string (bs (C.Ac k s.data.toList a b)), ah (C.uX k s.data.toList a b)])/\ak w w':=by
 obtain⟨kz,V,rfl,hkz,HV,HB0,aI,dM,dK⟩:=oL hv hS;have HOW:=bx HB0.o;have fH:=bx (λ(hb:C.bH k=true) (hz:s.size<=600)=>uQ A B _ (aj) k s [] V (dM.o V HB0.o) hs (dK.o V HB0.o) hb (.inl ⟨rfl,rfl⟩) hz (by simp) (λp hp=>by cases hp));have HO:=bx (fH.o hb hz);have HR:=bx (C.UE (s:=s.data.toList) hb (by rw [<- size_eq];exact hz) hc);have pX:=bx (λg W (h:ak w W) (hg:mW W g k)=>Qp A B g k s W hg hs hb (by omega) (hS.below h));have hcl:=C.H8 (s:=s.data.toList) hb (by rw [<- size_eq];omega);have HN:=bx hcl.1;have HL:=bx (show (C.bf k.c s.data.toList).flatten.length<=1800 by
  have h:=hcl.2 (C.bf k.c s.data.toList).length;unfold C.headA at h;rw [mQ,<- size_eq] at h;omega)
 generalize C.bf k.c s.data.toList=cl at pX HN HL HR;have d1:decide (a<0)=false:=dh (by omega);have d2:decide (b<a)=false:=dh (by omega);obtain⟨f,rfl⟩:∃ f:Nat,a=(f:Int):=⟨a.toNat,by omega⟩
 obtain⟨t,rfl⟩:∃ t:Nat,b=(t:Int):=⟨b.toNat,by omega⟩
 have hft:f<=t:=by omega
 have AZ:=bx hft;rw [mG,mG] at HR;obtain⟨N,hNN⟩:∃ N,cl.length=N:=⟨_,rfl⟩
 have ku:=bx hNN;rw [hNN] at HN;clear fH hb hs hS hz dM hcl hc hNN;have hld:=aI.o V aZ
 go_in
 go_upto_region 1 with(fail)
 rw [<- HV.o];go_wp2_with (refine eF rfl _ rfl _ rfl hld hkz ?_)
 refine HO.o.mono ?_;rintro en w1 ⟨⟨g,rfl,hwk,-⟩,hb1⟩;have HB1:=aJ HOW hb1;have kF:=bx hwk;clear hb1 hwk hld;go_wp2_with fail;refine(pX.o g w1 HB1.o kF.o).mono ?_;rintro en w2 ⟨⟨lv,rfl,hlv,-⟩,hb2⟩;have HB2:=aJ HB1 hb2;obtain⟨la,lc,rfl,-⟩:=hlv.slice;rw [ku.o] at hlv ⊢;obtain⟨Y,hsl,hY⟩:=abO la N lc (min f N) (min t N) cl (by omega) (by omega) ku.o (by have:=HN.o;omega) hlv;have hY2:=hY w2 hlv;rw [<- ku.o,C.arT cl f t AZ.o] at hY2;have HJ:=bx (Eo Y _ w2 hY2 (by have:=C.aoX (l:=cl) (i:=f) (j:=t);have:=HL.o;omega) (by rw [gy,dw];have:=HN.o;have:=ku.o;omega));obtain⟨ya,yc,rfl,-⟩:=hY2.slice;obtain⟨q7,hq7⟩:∃ q,q=((cl.take t).drop f).length:=⟨_,rfl⟩
 rw [<- hq7] at HJ hsl;clear hq7;have hm1:min (f:Int) (N:Int)=((min f N:Nat):Int):=by omega
 have hm2:min (t:Int) (N:Int)=((min t N:Nat):Int):=by omega
 clear hb2 hlv hY hY2;go_wp2_with fail;refine dI HJ.o HB2.o λw4 HB4=>?_
 go_wp2
 go_ret2
 exact⟨by rw [HR.o.1,HR.o.2] <;> rfl,HB4.o⟩
theorem apf (A:Nat->Addr) (B:Nat) (s:ByteArray) (w:World) (hz:s.size<=100000) (hE:E A B w) (hB:B<=w.heap.size) :
  Calls prog 167 #[.string s] w λe w'=>(∃ v,e = .returned v/\aN w' v (dF s.data.toList))/\ak w w':=by
 have hfl:=adS s.data.toList;rw [<- size_eq] at hfl;have qF:=bx (wZ A B s w hz hE hB);have jC:=bx (λW (h:ak w W)=>Zf A B ⟨(M.fix s.data.toList).toArray⟩ W (by rw [size_mk];omega) (hE.below (h.mono hB)) (bP hB h.size));have Jj:=bx (Et s.data.toList);clear hE hB hfl
 go_in
 go_wp2_with fail;refine aT qF.o λw1 hb1=>?_
 have HB1:=bx hb1;clear hb1;go_wp2_with fail;refine(jC.o w1 HB1.o).mono ?_;rintro e w2 ⟨hb2,hr2⟩;rw [toList_mk,Jj.o] at hr2;obtain⟨v2,rfl,hrow⟩:=hr2;have HB2:=aJ HB1 hb2;have HI:=bx (aN.iy hrow rfl);clear hb2 hrow
 go_wp2
 go_ret
 exact⟨⟨_,rfl,HI.o⟩,HB2.o⟩
def PV (v:Value) (xs:List Int) (k:Nat):Prop:=xs≠[]/\∃ off sp n c,v = .slice (some ⟨k,off,sp⟩) n c
theorem aht {own:Nat->Prop} {W W':World} {v:Value} {xs:List Int} (h:aN W v xs) (ht:Turns own W W') (ho:∀ k,PV v xs k->¬ own k):aN W' v xs:=by
 rcases h with h | ⟨b,off,sp,cap,h1,h2,h3,h4⟩
 ·exact .inl h
 refine .inr ⟨b,off,sp,cap,h1,h2,h3,λhn=>?_⟩;obtain⟨h5,h6,h7⟩:=h4 hn;have hb:¬ own b:=ho b ⟨hn,off,sp,_,_,h1⟩;exact⟨h5,fC h6 ht.size,λi x hx=>ht.cell (p:=⟨b,off+i,none⟩) (h7 i x hx) hb⟩
theorem ints_at {W:World} {v:Value} {xs:List Int} (h:aN W v xs) {k:Nat} (hk:PV v xs k):k<W.heap.size/\∃ o x,ay W k o=some (ah x):=by
 obtain⟨hn,off,sp,n,c,rfl⟩:=hk;obtain⟨b,off',cap,h1,h2,h3,h4,h5⟩:=h.get hn;injection h1 with h1;injection h1 with h1;injection h1 with h1;subst h1
 cases xs with
 | nil=>exact absurd rfl hn
 | cons x t=>exact⟨h4,_,_,h5 0 x rfl⟩
def Pc.read (n:Nat) (W0:World) (v1:Value) (l1:List Int) (v2:Value) (l2:List Int):Pc where
 fp k:=k<n\/PV v1 l1 k\/PV v2 l2 k
 ok W:=(n<=W.heap.size/\Below n W0 W)/\aN W v1 l1/\aN W v2 l2
 keep:=λ{_ _ _} h ht ho=>⟨(Pc.old n W0).keep h.1 ht (λk hk=>ho k (.inl hk)),aht h.2.1 ht (λk hk=>ho k (.inr (.inl hk))),aht h.2.2 ht (λk hk=>ho k (.inr (.inr hk)))⟩
 lt:=λ{_ _} h hk=>by
  rcases hk with hk | hk | hk
  ·exact fC hk h.1.1
  ·exact(ints_at h.2.1 hk).1
  exact(ints_at h.2.2 hk).1
theorem am3 {n g km:Nat} {lv tv ci cb gi gb lv0 vl vc:Value} {c:T.Cs} {W0 W:World} {xs cs:List Int} (h:Sep (outW n g km lv tv ci cb gi gb lv0 (aj) [] c [Pc.old n W0]) W) (hl:aN W vl xs) (hc:aN W vc cs)
  (hni:∀ (i:Nat) (x:Int),(#[lv,tv,ci,cb,gi,gb, .map (some km),lv0, aj]:Array Value)[i]?≠some (ah x)):Sep (outW n g km lv tv ci cb gi gb vl (aj) [] c [Pc.read n W0 vl xs vc cs]) (W.setCell ⟨g,7,none⟩ vl):=by
 have hb:=h.blk 1 rfl;have hk:nS W km c:=h.at' 2 (p:=Pc.known km c) rfl;have ho:n<=W.heap.size/\Below n W0 W:=h.at' 3 (p:=Pc.old n W0) rfl;have hgk:g≠km:=λe=>h.2.2.2.1 (Pc.known km c) (jZ ..) g rfl e
 have hgn:¬ g<n:=λe=>h.2.2.2.1 (Pc.old n W0) (mZ _ (jZ ..)) g rfl e
 have hkn:¬ km<n:=λe=>h.2.2.2.2.2.1 (Pc.old n W0) (jZ ..) km rfl e
 have key:∀ {v:Value} {l:List Int} (hI:aN W v l) (k:Nat),PV v l k->k≠g/\k≠km:=λhI k hkb=>by
  obtain⟨-,o,x,hx⟩:=ints_at hI hkb
  constructor
  ·rintro rfl;unfold ay at hx;rw [hb.cell o] at hx;exact hni o x hx
  rintro rfl;obtain⟨es,clk,hm,-⟩:=hk;simp [World.cell?,hm] at hx
 have hT:Turns (λk=>k=g) W (W.setCell ⟨g,7,none⟩ vl):=Turns.setCell (own:=λk=>k=g) W (p:=⟨g,7,none⟩) rfl vl;have hfg:∀ k,(Pc.read n W0 vl xs vc cs).fp k->k≠g/\k≠km:=λk Dq=>by
  rcases Dq with Dq | Dq | Dq
  ·exact⟨λe=>hgn (e▸Dq),λe=>hkn (e▸Dq)⟩
  ·exact key hl k Dq
  exact key hc k Dq
 refine⟨World.ownsRow_nil _ _ _ _,λq _ k hk=>by simp [Pc.row,Value.ownBlock] at hk,hb.bJ 7 vl,λq hq k hkq hqk=>?_,hk.turns hT (λe=>hgk e.symm),λq hq k hkq hqk=>?_,?_,λq hq=>absurd hq iH,trivial⟩
 ·obtain rfl:k=g:=hkq
  rcases fB.1 hq with rfl | hq
  ·exact hgk hqk
  rw [fU] at hq;subst hq;exact(hfg k hqk).1 rfl
 ·obtain rfl:k=km:=hkq;rw [fU] at hq;subst hq;exact(hfg k hqk).2 rfl
 exact(Pc.read n W0 vl xs vc cs).keep ⟨ho,hl,hc⟩ hT (λk Dq e=>(hfg k Dq).1 e)
theorem aqd (a:Option Addr) (N cap:Nat) (xs:List Int) (hj:1<=N) (hN:xs.length=N) (hz:N<=100000) {w0:World} (h0:aN w0 (.slice a N cap) xs) :
  ∃ Y,(∀ W,(Instr.slice 22 (.slice a N cap) (some (ah 1)) none none).run prog W = .ok Y W)/\∀ W,aN W (.slice a N cap) xs->aN W Y (xs.drop 1):=by
 subst hN;obtain⟨b,off,cap2,h1,h2,h3,h4,h5⟩:=h0.get (by rintro rfl;simp at hj);injection h1 with e1 e2 e3;subst e1 e3;have hd:((xs.take xs.length).drop 1)=xs.drop 1:=by rw [mQ]
 by_cases hc:cap=1
 ·have hl:xs.length=1:=by omega
  refine⟨.slice (some ⟨b,off,none⟩) (xs.length-1) (cap-1),λW=>?_,λW hW=>?_⟩
  ·unfold maxLen at h3;rw [hl,hc];go_simp
  have:=hW.part 1 xs.length (cap-1) hj aU (by omega) (by omega) (⟨b,off,none⟩) (λh=>by omega)
  rwa [hd] at this
 have hj':¬ (xs.length:Int)<1:=by omega
 refine⟨.slice (some ((⟨b,off,none⟩:Addr).add 1)) (xs.length-1) (cap-1),λW=>?_,λW hW=>?_⟩
 ·unfold maxLen at h3;go_simp
 have:=hW.part 1 xs.length (cap-1) hj aU (by omega) (by omega) ((⟨b,off,none⟩:Addr).add 1) (λ_=>rfl)
 rwa [hd] at this
theorem aqs (A:Nat->Addr) (B:Nat) (v vt:Value) (c:T.Cs) (t:Tab) (s:ByteArray) (w:World) (hv:o8 w v c) (hs:T.Small c) (hvt:TabAt w vt t) (hts:nN t) (hz:s.size<=299) (hE:E A B w) (hD:Ed A B w) (hG:Eg A B w) (hT:zW w) (hB:B<=w.heap.size) (hcb:T.lI 600 c=true) (he:textE t s.data.toList=0) :
  Calls prog 98 #[v,vt, .string s] w λe w'=>e = .returned (.tuple #[.string ⟨(T.Ew c t s.data.toList).toArray⟩, ah (T.Cm c t s.data.toList)])/\ak w w':=by
 have lu:=bx (λW (h:ak w W)=>hv.below h);obtain⟨lv,tv,ci,cb,gi,gb,rfl,h1,h2,h3,h4,h5,h6⟩:=hv;obtain⟨V,hV⟩:∃ V,V=w.alloc (.cells #[lv,tv,ci,cb,gi,gb] 36):=⟨_,rfl⟩
 have HB0:=bx (aB hV);have HK:=bx (aK hV);have aI:=bx (λW (h:ak V W)=>HK.o.d6 h);have HV:=bx hV;have gG:=bx (λW (h:ak w W)=>hvt.below h);obtain⟨pi,pb,rv,nv,fv,rfl,t1,t2,t3,t4,t5⟩:=hvt;obtain⟨V2,hV2⟩:∃ V2,V2=V.alloc (.cells #[ah t.n,pi,pb,rv,nv,fv] 31):=⟨_,rfl⟩
 have fV:=bx (aB hV2);have HKT:=bx (aK hV2);have iV:=bx hV2;have HB2:=bx (bt HB0.o fV.o);have MN:=bx (λW (h:ak V2 W)=>HKT.o.d6 h);have hvs:V.heap.size=w.heap.size+1:=by rw [hV];simp
 rw [hvs] at MN;clear hvs;have tX:=bx (λW (h:ak w W)=>show E A B W/\Ed A B W/\Eg A B W/\zW W/\B<=W.heap.size from⟨hE.below (h.mono hB),hD.below (h.mono hB),hG.below (h.mono hB),(h.cell (p:=⟨6,0,none⟩) (World.block_lt_of_cell? w _ hT)).trans hT,bP hB h.size⟩);have CG:=bx (λW (h:ak w W)=>awf A B _ t s W (gG.o W h) hts (by omega) (tX.o W h).1 (tX.o W h).2.1 (tX.o W h).2.2.1 (tX.o W h).2.2.2.1 (tX.o W h).2.2.2.2);have Hz:=bx (λW (h:ak w W)=>apf A B s W (by omega) (tX.o W h).1 (tX.o W h).2.2.2.2);have HC2:=bx (lu.o V2 HB2.o);have hsl:=uJ s.data.toList;rw [<- size_eq] at hsl;have hni:∀ (km:Nat) (i:Nat) (x:Int),(#[lv,tv,ci,cb,gi,gb, .map (some km), aj, aj]:Array Value)[i]?≠some (ah x):=by
  obtain⟨a1,c1,rfl,-⟩:=h1.slice;obtain⟨a2,c2,rfl,-⟩:=h2.slice;obtain⟨a3,c3,rfl⟩:=h3.slice;obtain⟨a4,c4,rfl⟩:=h4.slice;obtain⟨a5,c5,rfl⟩:=h5.slice;obtain⟨a6,c6,rfl⟩:=h6.slice;intro km i x
  match i with
  | 0 | 1 | 2 | 3 | 4 | 5 | 6 | 7 | 8=>simp
  | n+9=>simp
 have HNI:=bx hni;obtain⟨tn,hn⟩:∃ n,n=t.n:=⟨_,rfl⟩
 rw [<- hn] at HKT gG MN iV CG ⊢;obtain⟨k0,k1,k2,k3,k4,k5,kk⟩:=aI.o V2 fV.o;have hoe:T.O7 c [] []=0:=by unfold T.O7 T.wrong;rw [hcb];rfl
 have fH:=bx (anJ A B _ (aj) (aj) c [] [] V2 HC2.o hs .nil (by simp) .nil (by simp) (tX.o V2 HB2.o).1 (tX.o V2 HB2.o).2.2.2.2 hoe);have jW:=bx (show T.Cm c t s.data.toList=textE t s.data.toList by unfold T.Cm;rw [hcb,aF (by simp)]);have HE:=bx (jW.o.trans he);have HA:=bx (show T.Ew c t s.data.toList=U.textOf (T.LX c t s.data.toList) by unfold T.Ew;rw [HE.o,aG rfl]);obtain⟨hcn,BL⟩:=qg t s.data.toList;have Jb:=bx (show Ip t s.data.toList=(dZ t s.data.toList).map (λn:Nat=>(n:Int)) by unfold Ip;rw [aG he,hcn]);rw [he,Jb.o] at CG;have qC:=bx (show T.LX c t s.data.toList=T.Ap c (dF s.data.toList) (dZ t s.data.toList) ((dZ t s.data.toList).length-1) from rfl);have hsr:=Dx s.data.toList;generalize dZ t s.data.toList=ns at CG qC BL;generalize T.LX c t s.data.toList=tl at HA qC;generalize dF s.data.toList=xs at Hz qC BL hsl hsr;have Zy:=bx BL;have Ux:=bx (λk hk=>T.aeX hcb hsr BL k hk);have OU:=bx (λ(h:T.Fine xs.length tl)=>ajz h);have zB:=bx (λg km vl ov acc vc cs (h1:acc.length<=800000000) (W:World) (a b:Nat) (hab:a<=b) (hb:b<=xs.length) (h2:Sep (outW V2.heap.size g km lv tv ci cb gi gb vl ov acc c [Pc.read V2.heap.size V2 vl xs vc cs]) W) =>
  aks V2.heap.size g km a b lv tv ci cb gi gb vl ov acc c hs hcb [Pc.read V2.heap.size V2 vl xs vc cs] xs hsr (by omega) hab hb h1 (λW' h'=>⟨HC2.o.below h'.1.1.2,h'.1.2.1⟩) (λW' h'=>h'.1.1.1) W h2)
 obtain⟨N,hN⟩:∃ N,xs.length=N:=⟨_,rfl⟩
 have HN:=bx hN;have hNz:N<=299:=by omega
 obtain⟨Q,hQ⟩:∃ Q,ns.length=Q:=⟨_,rfl⟩
 have HQ:=bx hQ;have YP:0<Q:=by rw [<- hQ];exact BL.ne
 have hQz:Q<=300:=by have:=BL.len;omega
 clear h1 h2 h3 h4 h5 h6 t1 t2 t3 t4 t5 hs hts hV hV2 hcb hsl hn he hcn BL hsr hN hQ hni hE hD hG hT hB hoe
 go_in
 go_upto_region 1 with(fail)
 rw [<- HV.o,<- iV.o];go_wp2_with fail;refine fH.o.mono ?_;rintro e w1 ⟨LU,tv',ci',cb',gi',gb',g,km,BR,rfl,hs1⟩;obtain⟨rfl,rfl,rfl,rfl,rfl,rfl⟩:lv=LU/\tv=tv'/\ci=ci'/\cb=cb'/\gi=gi'/\gb=gb':=by simpa using BR
 have eG:=bx hs1;have mV:=bx (hs1.bel (n:=V2.heap.size) (W0:=V2) (by simp [outW,Jw]));have HB1:=bx (bt HB2.o mV.o);clear hs1 BR k0 k1 k2 k3 k4 k5 kk;obtain⟨k0,k1,k2,k3,k4,k5,kk⟩:=MN.o w1 mV.o;go_wp2_with fail;refine(CG.o w1 HB1.o).mono ?_;rintro e w2 ⟨⟨v2,rfl,hv2⟩,hb2⟩;have HI2:=bx hv2;obtain⟨ca,cc,rfl⟩:=hv2.slice;rw [aV,HQ.o] at HI2 ⊢;have HS2:=bx (eG.o.below hb2);have fA:=aJ HB1 hb2;clear hb2 hv2 k0 k1 k2 k3 k4 k5 kk;go_wp2_with fail;refine(Hz.o w2 fA.o).mono ?_;rintro e w3 ⟨⟨vl,rfl,hvl⟩,hb3⟩;have aS:=bx (HS2.o.below hb3);have HI3:=bx (HI2.o.below hb3);obtain⟨la,lc,rfl⟩:=hvl.slice;have dJ:=bx (am3 aS.o hvl HI3.o (HNI.o km));have p7:w3.cell? ⟨g,7,none⟩=some (aj):=((aS.o.blk 1 rfl).cell 7).trans rfl;have f7:=(aS.o.blk 1 rfl).frozen 7;have l7:=(aS.o.blk 1 rfl).lt;obtain⟨Y,ahv,hY⟩:=aqd ca Q cc (ns.map (λn:Nat=>(n:Int))) YP (by rw [aV,HQ.o]) (by omega) HI3.o;have HY:=bx hY;obtain⟨ya,yc,hye⟩:=(hY w3 HI3.o).slice;rw [gy,aV,HQ.o] at hye;subst hye;clear hb3 hvl hY;rw [HN.o] at dJ ⊢
 go_upto_region 8 with(fail)
 have bG:=bx (show Sep (outW V2.heap.size g km lv tv ci cb gi gb (.slice la N lc) (aj) (T.Ap c xs ns 0) c [Pc.read V2.heap.size V2 (.slice la N lc) xs (.slice ca Q cc) (ns.map (λn:Nat=>(n:Int)))]) (w3.setCell ⟨g,7,none⟩ (.slice la N lc)) from dJ.o);generalize w3.setCell ⟨g,7,none⟩ (.slice la N lc)=w4 at bG ⊢;clear p7 f7 l7;have hqI:((Q-1:Nat):Int)=(Q:Int)-1:=by omega
 obtain⟨Q1,hQ1⟩:∃ Q1,Q1=Q-1:=⟨_,rfl⟩
 rw [<- hQ1] at ahv HY;have hQQ:Q=Q1+1:=by omega
 clear hqI hQ1;have Dt:=bx hQQ;clear hQQ;go_wp2_with fail;clear ahv
 go_loopw [12,13,42] (λu1 u2 i wr=>∃ k:Nat,k<=Q1/\i = ah k/\∃ ov,Box (Sep (outW V2.heap.size g km lv tv ci cb gi gb (.slice la N lc) ov (T.Ap c xs ns k) c [Pc.read V2.heap.size V2 (.slice la N lc) xs (.slice ca Q cc) (ns.map (λn:Nat=>(n:Int)))]) wr)) (λ_ _ i _=>Q1-(intOf i).toNat)
 ·exact⟨0,by omega,rfl,_,bG⟩
 obtain⟨k,hk,rfl,ov,hsep⟩:=hrel;obtain⟨⟨hn1,hbe⟩,hiv,hic⟩:(V2.heap.size<=wr.heap.size/\ak V2 wr)/\aN wr (.slice la N lc) xs/\aN wr (.slice ca Q cc) (ns.map (λn:Nat=>(n:Int))):=hsep.o.at' 3 rfl;have lK:=aJ HB2 hbe;have HFk:=bx (Ux.o k (by have:=Dt.o;rw [HQ.o];omega))
 by_cases hlt:k<Q1
 ·obtain⟨a,ha⟩:=bV ns k (by have:=Dt.o;rw [HQ.o];omega);obtain⟨b,hb⟩:=bV ns (k+1) (by have:=Dt.o;rw [HQ.o];omega);have hga:ns.getD k 0=a:=by rw [fO,ha,jE]
  have hgb:ns.getD (k+1) 0=b:=by rw [fO,hb,jE]
  have hab:a<=b:=by have:=Zy.o.up k (by have:=Dt.o;rw [HQ.o];omega);omega
  have hbN:b<=xs.length:=by have:=Zy.o.le (k+1) (by have:=Dt.o;rw [HQ.o];omega);omega
  obtain⟨cg,kN,ag9,e1,e2,e3,e4,e5⟩:=hic.get (by intro h;have:=congrArg List.length h;rw [aV,HQ.o] at this;simp at this;omega);rw [aV,HQ.o] at e1 e2;obtain⟨rfl,rfl⟩:=dQ e1;have ca1:=e5 k (a:Int) (by rw [eX,ha];rfl);have hdr:((ns.map (λn:Nat=>(n:Int))).drop 1)[k]?=some (b:Int):=by rw [xY,eX,show 1+k=k+1 by omega,hb];rfl
  have hdl:((ns.map (λn:Nat=>(n:Int))).drop 1).length=Q1:=by have:=Dt.o;rw [gy,aV,HQ.o];omega
  obtain⟨yg,axL,ayM,y1,y2,y3,y4,y5⟩:=(HY.o wr hic).get (by intro h;rw [h] at hdr;simp at hdr);rw [hdl] at y1 y2;obtain⟨rfl,rfl⟩:=dQ y1;have cb1:=y5 k (b:Int) hdr;have G5:=bx (show T.Ap c xs ns (k+1)=T.Ap c xs ns k++T.word c xs a b by rw [T.aa9,hga,hgb]);have hal:=HFk.o.1;rw [hga] at hal;have yJ:=bx (zB.o g km (.slice la N lc) ov (T.Ap c xs ns k) _ _ (by rw [HN.o] at hbN;omega) wr a b hab hbN hsep.o);have hkQ:k<Q:=by have:=Dt.o;omega
  have hkI:(k:Int)<(Q:Int):=by omega
  unfold maxLen at e3 y3;clear ha hb hga hgb e1 e4 e5 y1 y4 y5 hal hdr hdl hbe hiv hic hn1;go_wp2_with fail;refine yJ.o.mono ?_;rintro e w5 ⟨⟨v5,rfl⟩,ov5,hs5⟩;rw [<- G5.o] at hs5;have dV:=bx hs5;clear hs5
  go_wp2
  go_roundw
  ·exact⟨k+1,by omega,by go_num,ov5,dV⟩
  simp [intOf];omega
 obtain rfl:k=Q1:=by omega
 have hkk:k=ns.length-1:=by have:=Dt.o;rw [HQ.o];omega
 have hsp:=hsep.o;rw [hkk,<- qC.o] at hsp;have HI:=bx (aN.iy (hsp.row 0 rfl) rfl);have oq:=bx (show T.Fine xs.length tl by
  have h9:=HFk.o;rw [hkk,<- qC.o,Zy.o.last] at h9;exact h9)
 have Df:=bx (as7 A B ov tl wr HI.o (by have:=oq.o.1;have:=HN.o;omega) (tX.o wr lK.o).1 (tX.o wr lK.o).2.2.2.2);rw [OU.o oq.o] at Df;have p8:wr.cell? ⟨g,8,none⟩=some ov:=((hsp.blk 1 rfl).cell 8).trans rfl;have l8:=(hsp.blk 1 rfl).lt;clear hsp hkk hbe hiv hic hn1;go_wp2_with fail;refine dI Df.o lK.o λw5 bU=>?_
 go_wp2
 go_ret2
 exact⟨Nw (by rw [HA.o];rfl) (Dy HE.o.symm),bU.o⟩
end
end Go.Proofs.YtdponihkpomheaaGreatDoor
