/- Texts of this claim. -/
import Derived.Test.YtdponihkpomheaaGreatDoorK9
import Derived.Test.YtdponihkpomheaaGreatDoorK20
import Derived.Test.YtdponihkpomheaaGreatDoorK24

set_option maxRecDepth 100000
set_option maxHeartbeats 8000000
namespace Go.Proofs.YtdponihkpomheaaGreatDoor
open Go.RowKit
open Go.Proofs.Tryz
namespace Yv
def props:List UInt8:=[48,51,48,49,59,69,120,116,101,110,100]
def rule:List UInt8:=[43,32,69,120,116,101,110,100]
def names:List (List UInt8):=[[79,116,104,101,114],[69,120,116,101,110,100]]
def r3:List F.ag:=[(769,769,1)]
def cC:D.Rule:=((false,[]),(false,[(2,0)]),false)
def ry:D.ao:=([[0,0,0]],[1])
def tb:Tab:=⟨2,F.aC r3,[cC],ry⟩
attribute[local irreducible] F.aC
theorem bk{t:F.Trie}{l:List F.ag}(_:t=F.aC l)(r:Nat)(_:r/256<4352):F.says t (r:Int)=F.bw l (r:Int):=by grind[F.e5]
theorem bZ:tb.p=F.aC r3:=rfl
theorem rb3:F.bB r3=true:=by rfl
theorem nb:F.cc names=true:=by rfl
theorem amG:F.cx props names false=some r3:=by rfl
theorem fz:F.split 10 rule=[rule]/\F.trim ((F.split 35 rule).headD [])≠[]/\F.dE names (F.trim ((F.split 35 rule).headD []))=some cC:=by decide +kernel
theorem adu:Mv cC:=⟨by decide,by decide⟩
theorem fN:E9 [cC] 2=0/\HM [cC] 2=ry:=by
 have Z7:LV 2 [cC]=true:=by rfl
 have Z5:(D.build (Wi [cC]) 2 2).todo.length<=(D.build (Wi [cC]) 2 2).next.length:=by decide +kernel
 have ZS:=D.fc _ _ (by omega) Z5;have ZG:=D.afj _ _ (k:=2) (by omega) Z5 (by decide +kernel);have Zi:qy (D.build (Wi [cC]) 2 2)=ry:=by rfl
 grind[E9,HM,mg]
theorem fine:n1 ry=true:=by rfl
theorem ok3:F.aE tb.p=true:=by rw[bZ];exact F.eM (by decide)
theorem cl{t:F.Trie}(l:List F.ag)(h:t=F.aC l):t.1.length<=100000/\t.2.length<=100000/\∀r∈t.2,r.length<=256:=by
 have Z8:=F.built l 4352;rw[h];unfold F.aC;generalize F.bj l 4352=b at Z8;refine⟨?_,?_,λr ZT=>?_⟩
 ·have:=Z8.len;omega
 ·have:=Z8.few;omega
 obtain⟨i,-,rfl⟩:=Z8.all r ZT;simp[F.bm]
theorem fV:Sr tb where
 p1:=(cl r3 bZ).1
 p2:=(cl r3 bZ).2.1
 p3:=λr ZT=>XJ ((cl r3 bZ).2.2 r ZT) (by decide)
 r1:=λ_ Z4=>by rw[Pe.1 Z4];exact adu
 r2:=by decide
 m:=⟨by decide +kernel,by decide +kernel,by decide +kernel⟩
theorem fw:Td tb=true:=by
 unfold Td;rw[ok3,show OI tb.r tb.m tb.n=true by rfl]
 rfl
theorem avt{l:List F.ag}(_:∀x∈l,x.2.2<=6)(r:Int):F.bw l r<=6:=by
 grind[F.bw]
theorem c7:F.says tb.p 97=0:=by rw[show(97:Int)=((97:Nat):Int)from rfl,bk bZ _ (by decide)];rfl
theorem fX:F.says tb.p 769=1:=by rw[show(769:Int)=((769:Nat):Int)from rfl,bk bZ _ (by decide)];rfl
theorem dn:F.says tb.p 98=0:=by rw[show(98:Int)=((98:Nat):Int)from rfl,bk bZ _ (by decide)];rfl
theorem eF:F.says tb.p 46=0:=by rw[show(46:Int)=((46:Nat):Int)from rfl,bk bZ _ (by decide)];rfl
end Yv
namespace C
theorem fM{t:Tab}{s:List UInt8}(h:Vn t s=0):(ae t s).flatten=M.fix s:=by
 unfold ae;rw[Y0 h,aaq (QR t s).2,cg]
theorem ch{t:Tab}{s:List UInt8}(h:Vn t s=0):ae t s=(ab t s).map U.textOf:=by
 unfold ae;rw[Y0 h,mz]
theorem eO{t:Tab}{s:List UInt8}(h:Vn t s=0):(ae t s).length=(ab t s).length:=by rw[ch h,X4]
end C
namespace C
theorem rP:∀(l:List (List UInt8))(sep:List UInt8),
  (aF l sep=0/\∀i,1<=i->i<=l.length->(l.take i).flatten≠sep)\/(1<=aF l sep/\aF l sep<=l.length/\(l.take (aF l sep)).flatten=sep/\∀i,1<=i->i<aF l sep->(l.take i).flatten≠sep)
 |[],sep=>.inl ⟨rfl,λi Z7 Z5=>by grind⟩
 |x::t,sep=>by
  unfold aF
  by_cases Z7:sep=x
  ·grind
  rw[Y4 Z7]
  by_cases Z5:x.isPrefixOf sep=true
  ·rw[Y0 Z5];obtain⟨r,ZT⟩:=List.isPrefixOf_iff_prefix.1 Z5;have Zm:sep.drop x.length=r:=by grind
   rw[Zm];have key:∀i,(((x::t).take (i+1)).flatten=sep↔(t.take i).flatten=r):=λi=>by
    grind
   have ME:r≠[]:=by
    grind
   rcases rP t r with⟨ZS,ZG⟩|⟨ZS,ZG,Zi,Yu⟩
   ·rw[ZS];refine .inl ⟨rfl,λi LK QZ=>?_⟩;obtain⟨i,rfl⟩:=Nat.exists_eq_add_of_le' LK;grind
   obtain⟨n,ZP⟩:=Nat.exists_eq_add_of_le' ZS;rw[ZP]at ZG Zi Yu⊢;refine .inr ⟨by simp,by grind,?_,λi LK QZ=>?_⟩
   ·grind
   obtain⟨i,rfl⟩:=Nat.exists_eq_add_of_le' LK;grind
  rw[Y4 Z5];refine .inl ⟨rfl,λi LK QZ _=>Z5 ?_⟩;obtain⟨i,rfl⟩:=Nat.exists_eq_add_of_le' LK;grind
theorem dN(l:List (List UInt8))(sep:List UInt8):aF l sep<=l.length:=by
 rcases rP l sep with⟨h,-⟩|⟨-,h,-⟩ <;> omega
end C
namespace C
def dist(p n i:Nat):Nat:=if i%n<=p then p-i%n else p+n-i%n
theorem anT{n i:Nat}(ZP:0<n):(i+1)%n=if i%n+1=n then 0 else i%n+1:=by
 have Z7:=Nat.mod_lt i ZP;have Z5:(i+1)%n=(i%n+1)%n:=by simp
 rw[Z5]
 split
 ·simp_all
 exact Nat.mod_eq_of_lt (by omega)
theorem amV{p n i:Nat}(_:p<n)(_:i%n≠p):dist p n (i+1)+1=dist p n i:=by
 unfold dist;have Z7:=Nat.mod_lt i (show 0<n by omega);grind[anT]
theorem ho{p n i:Nat}(_:p<n):dist p n i<n:=by
 grind[dist]
def todo(p n i:Nat)(c:Int):Nat:=c.toNat*n+dist p n i
theorem aap{p n i:Nat}{c w:Int}(hp:p<n)(_:0<c)(_:0<=w)(axd:i%n=p->1<=w):todo p n (i+1) (c-w)<todo p n i c:=by
 unfold todo
 by_cases h:i%n=p
 ·have Z7:=axd h;have Z5:=ho (i:=i+1) hp;have ZS:(c-w).toNat+1<=c.toNat:=by omega
  have ZG:=Nat.mul_le_mul_right n ZS;grind
 have Z7:=amV hp h;have ZS:(c-w).toNat<=c.toNat:=by omega
 have ZG:=Nat.mul_le_mul_right n ZS;omega
def ck(g:Ga)(ls:List (List Int))(p:Nat):Prop:=p<ls.length/\1<=meas g (ls.getD p [])
theorem ee{g:Ga}:∀{ls:List (List Int)},aj g ls ls.length≠0->∃p,ck g ls p:=by
 intro ls h;rw[avU]at h
 by_cases Z4:∃x∈ls,1<=meas g x
 ·obtain⟨x,Z4,Z7⟩:=Z4;obtain⟨p,hp,rfl⟩:=List.getElem_of_mem Z4;exact⟨p,hp,by grind⟩
 exfalso
 apply h
 have:∀l:List (List Int),(∀x∈l,meas g x=0)->(l.map (meas g)).sum=0:=λl _=>by
  induction l with
  |nil=>rfl
  |cons x t XZ=>grind
 refine this ls (λx _=>?_);have Z7:=n9 g x;grind
theorem adU{g:Ga}{ls:List (List Int)}{f i:Nat}{c:Int}(_:c<=0):b5 g ls f i c=[]:=by
 cases f with
 |zero=>rfl
 |succ f=>grind[b5]
theorem ada{g:Ga}{ls:List (List Int)}{p f i:Nat}{c:Int}(hp:ck g ls p)(ZL:0<c)(_:todo p ls.length i c<f):
  ∃Pl,f=Pl+1/\b5 g ls f i c=(if c<meas g (ls.getD (i%ls.length) [])then[]else U.textOf (ls.getD (i%ls.length) [])++b5 g ls Pl (i+1) (c-meas g (ls.getD (i%ls.length) [])))/\todo p ls.length (i+1) (c-meas g (ls.getD (i%ls.length) []))<Pl:=by
 obtain⟨Pl,rfl⟩:∃Pl,f=Pl+1:=⟨f-1,by omega⟩
 have Z7:=aap (p:=p) (n:=ls.length) (i:=i) (c:=c) (w:=meas g (ls.getD (i%ls.length) [])) hp.1 ZL (n9 g _) (λh=>by rw[h];exact hp.2);refine⟨Pl,rfl,?_,by omega⟩;show(if c<=0 then _ else _)=_
 grind
def fH(g:Ga)(ls:List (List Int))(c:Int):List UInt8:=b5 g ls (c.toNat*ls.length+ls.length+1) 0 c
theorem avo{g:Ga}{ls:List (List Int)}{p:Nat}{c:Int}(hp:ck g ls p):todo p ls.length 0 c<c.toNat*ls.length+ls.length+1:=by
 unfold todo;have:=ho (i:=0) hp.1;omega
def dm(k:Kt)(s:List UInt8)(n:Int):Int:=max (n-ah (kg k 2) s) 0
def aw(k:Kt)(e:List UInt8)(c:Int):List UInt8:=fH (kg k 2) (ab k.c e) c
def dH(k:Kt)(s:List UInt8)(c:Int)(e:List UInt8)(side:Int):List UInt8:=
 if side=0 then aw k e c++M.fix s else if side=1 then M.fix s++aw k e c else aw k e (c/2)++(M.fix s++aw k e (c-c/2))
def aT(k:Kt)(s:List UInt8)(n:Int)(e:List UInt8)(side:Int):List UInt8:=if aU k s n e side=0 then dH k s (dm k s n) e side else[]
theorem eC(k:Kt)(e:List UInt8):aw k e 0=[]:=adU (Int.le_refl 0)
end C
namespace XT
def aaR:List UInt8:=[48,51,48,49,59,90]
def data:List UInt8:=[48,48,54,49,59,97,59,76,108,59,48,59,76,59,59,59,59,59,78,59,59,59,48,48,52,49,59,59,48,48,52,49]
def core:List UInt8:=[48,48,54,49,59,67,97,115,101,100]
def r4:List F.ag:=[(769,769,6)]
def r1:List F.ag:=[(97,97,1)]
def ti:List F.Map:=[(97,[65])]
def wd:C.Wd:=⟨F.aC r4,false⟩
def cs:T.Cs:=⟨[],ti,F.aC r1,F.aC []⟩
def kt:C.Kt:=⟨Yv.tb,Yv.tb,wd,cs⟩
def ga(k:Int):C.Ga:=C.kg kt k
attribute[local irreducible] F.aC
theorem ad1{c:T.Cs}{l:List F.ag}(_:c.ca=F.aC l)(r:Nat)(_:r/256<4352):T.cased c (r:Int)=(F.bw l (r:Int) != 0):=by grind[T.cased,F.e5]
theorem adE{c:T.Cs}{l:List F.ag}(_:c.ig=F.aC l)(r:Nat)(_:r/256<4352):T.al c (r:Int)=(F.bw l (r:Int) != 0):=by grind[T.al,F.e5]
theorem Jv:wd.p=F.aC r4:=rfl
theorem za:cs.ca=F.aC r1:=rfl
theorem y1:cs.ig=F.aC []:=rfl
theorem recs:∃rs,F.parse data=some rs/\F.bP rs rs.length=some ([97],[],ti):=by
 have h:(match F.parse data with|none=>false|some rs=>decide (F.bP rs rs.length=some ([97],[],ti)))=true:=by rfl
 grind
theorem aqS:F.cx core [[78,111],[67,97,115,101,100]] true=some r1:=by rfl
theorem asV:F.cx core [[78,111],[67,97,115,101,95,73,103,110,111,114,97,98,108,101]] true=some []:=by rfl
theorem rb1:F.bB r1=true:=by rfl
theorem rb2:F.bB []=true:=by rfl
theorem rb4:F.bB r4=true:=by rfl
theorem at6:F.cx aaR y9 false=some r4:=by rfl
theorem avW:Pp wd where
 p1:=(Yv.cl r4 Jv).1
 p2:=(Yv.cl r4 Jv).2.1
 p3:=λr ZT=>XJ ((Yv.cl r4 Jv).2.2 r ZT) (by decide)
theorem auJ:T.Small cs where
 lo:=by decide
 loA:=by decide
 ti:=by decide
 tiA:=by decide
 c1:=(Yv.cl r1 za).1
 c2:=(Yv.cl r1 za).2.1
 c3:=λr ZT=>XJ ((Yv.cl r1 za).2.2 r ZT) (by decide)
 g3:=λr ZT=>XJ ((Yv.cl [] y1).2.2 r ZT) (by decide)
 g1:=(Yv.cl [] y1).1
 g2:=(Yv.cl [] y1).2.1
theorem apm:C.aS wd=true:=by
 unfold C.aS;rw[show F.aE wd.p=true by rw[Jv];exact F.eM (by decide),Bool.true_and,QG];intro b Z8;rw[QG];intro x Z4;rw[Jv]at Z8;unfold F.aC at Z8;obtain⟨i,-,rfl⟩:=(F.built r4 4352).all b Z8;unfold F.bm at Z4;obtain⟨j,-,rfl⟩:=SL.1 Z4;exact Yh (Yv.avt (by decide) _)
theorem adS:T.az 600 cs=true:=by
 unfold T.az;rw[show F.aE cs.ca=true by rw[za];exact F.eM (by decide),show F.aE cs.ig=true by rw[y1];exact F.eM (by decide),show T.a8 600 cs.lo=true by rfl,show T.a8 600 cs.ti=true by rfl]
 rfl
theorem cj:C.ad kt=true:=by
 unfold C.ad;rw[show Td kt.c=true from Yv.fw,show Td kt.w=true from Yv.fw,show C.aS kt.d=true from apm,show T.az 600 kt.s=true from adS]
 rfl
theorem Bl{s e:List UInt8}(Z7:s.length<=600)(Z5:e.length<=60):C.ar kt s e=0:=C.a6 cj Z7 Z5
theorem Jr{k:Int}(ZI:0<=k)(Z7:k<=2):C.aA (ga k)=true:=C.db cj ZI Z7
theorem ari:F.says Yv.tb.p 45=0:=by rw[show(45:Int)=((45:Nat):Int)from rfl,Yv.bk Yv.bZ _ (by decide)];rfl
theorem alB:C.aI wd 46=1:=by unfold C.aI;rw[show F.says wd.p 46=0 by rw[show(46:Int)=((46:Nat):Int)from rfl,Yv.bk Jv _ (by decide)];rfl];decide
theorem atM:C.aI wd 97=1:=by unfold C.aI;rw[show F.says wd.p 97=0 by rw[show(97:Int)=((97:Nat):Int)from rfl,Yv.bk Jv _ (by decide)];rfl];decide
theorem akJ:C.aI wd 98=1:=by unfold C.aI;rw[show F.says wd.p 98=0 by rw[show(98:Int)=((98:Nat):Int)from rfl,Yv.bk Jv _ (by decide)];rfl];decide
theorem sG:F.says Yv.tb.p 99=0:=by rw[show(99:Int)=((99:Nat):Int)from rfl,Yv.bk Yv.bZ _ (by decide)];rfl
theorem aoT:C.aI wd 99=1:=by unfold C.aI;rw[show F.says wd.p 99=0 by rw[show(99:Int)=((99:Nat):Int)from rfl,Yv.bk Jv _ (by decide)];rfl];decide
theorem aeO:F.says Yv.tb.p 100=0:=by rw[show(100:Int)=((100:Nat):Int)from rfl,Yv.bk Yv.bZ _ (by decide)];rfl
theorem arn:C.aI wd 100=1:=by unfold C.aI;rw[show F.says wd.p 100=0 by rw[show(100:Int)=((100:Nat):Int)from rfl,Yv.bk Jv _ (by decide)];rfl];decide
theorem av3:F.says Yv.tb.p 120=0:=by rw[show(120:Int)=((120:Nat):Int)from rfl,Yv.bk Yv.bZ _ (by decide)];rfl
theorem atq:C.aI wd 120=1:=by unfold C.aI;rw[show F.says wd.p 120=0 by rw[show(120:Int)=((120:Nat):Int)from rfl,Yv.bk Jv _ (by decide)];rfl];decide
theorem amv:F.says Yv.tb.p 121=0:=by rw[show(121:Int)=((121:Nat):Int)from rfl,Yv.bk Yv.bZ _ (by decide)];rfl
theorem avB:C.aI wd 121=1:=by unfold C.aI;rw[show F.says wd.p 121=0 by rw[show(121:Int)=((121:Nat):Int)from rfl,Yv.bk Jv _ (by decide)];rfl];decide
theorem avG:F.says Yv.tb.p 122=0:=by rw[show(122:Int)=((122:Nat):Int)from rfl,Yv.bk Yv.bZ _ (by decide)];rfl
theorem alp:C.aI wd 122=1:=by unfold C.aI;rw[show F.says wd.p 122=0 by rw[show(122:Int)=((122:Nat):Int)from rfl,Yv.bk Jv _ (by decide)];rfl];decide
theorem aqd:C.aI wd 769=0:=by unfold C.aI;rw[show F.says wd.p 769=6 by rw[show(769:Int)=((769:Nat):Int)from rfl,Yv.bk Jv _ (by decide)];rfl];decide
theorem u0:C.meas (ga 2) [97]=1:=by
 show(if(2:Int)=0 then((U.textOf [97]).length:Int)else if(2:Int)=1 then 1 else C.aq wd [97])=_
 rw[Y4 (by decide),Y4 (by decide)];simp[C.aq,C.emoji,C.most,atM] <;> decide
theorem vH:C.meas (ga 2) [98]=1:=by
 show(if(2:Int)=0 then((U.textOf [98]).length:Int)else if(2:Int)=1 then 1 else C.aq wd [98])=_
 rw[Y4 (by decide),Y4 (by decide)];simp[C.aq,C.emoji,C.most,akJ] <;> decide
theorem lT:C.meas (ga 2) [99]=1:=by
 show(if(2:Int)=0 then((U.textOf [99]).length:Int)else if(2:Int)=1 then 1 else C.aq wd [99])=_
 rw[Y4 (by decide),Y4 (by decide)];simp[C.aq,C.emoji,C.most,aoT] <;> decide
theorem abp:C.meas (ga 2) [100]=1:=by
 show(if(2:Int)=0 then((U.textOf [100]).length:Int)else if(2:Int)=1 then 1 else C.aq wd [100])=_
 rw[Y4 (by decide),Y4 (by decide)];simp[C.aq,C.emoji,C.most,arn] <;> decide
theorem rI:C.meas (ga 2) [46]=1:=by
 show(if(2:Int)=0 then((U.textOf [46]).length:Int)else if(2:Int)=1 then 1 else C.aq wd [46])=_
 rw[Y4 (by decide),Y4 (by decide)];simp[C.aq,C.emoji,C.most,alB] <;> decide
theorem lN:C.meas (ga 2) [120]=1:=by
 show(if(2:Int)=0 then((U.textOf [120]).length:Int)else if(2:Int)=1 then 1 else C.aq wd [120])=_
 rw[Y4 (by decide),Y4 (by decide)];simp[C.aq,C.emoji,C.most,atq] <;> decide
theorem lq:C.meas (ga 2) [121]=1:=by
 show(if(2:Int)=0 then((U.textOf [121]).length:Int)else if(2:Int)=1 then 1 else C.aq wd [121])=_
 rw[Y4 (by decide),Y4 (by decide)];simp[C.aq,C.emoji,C.most,avB] <;> decide
theorem hv:C.meas (ga 2) [122]=1:=by
 show(if(2:Int)=0 then((U.textOf [122]).length:Int)else if(2:Int)=1 then 1 else C.aq wd [122])=_
 rw[Y4 (by decide),Y4 (by decide)];simp[C.aq,C.emoji,C.most,alp] <;> decide
theorem at3:C.meas (ga 2) [769]=0:=by
 show(if(2:Int)=0 then((U.textOf [769]).length:Int)else if(2:Int)=1 then 1 else C.aq wd [769])=_
 rw[Y4 (by decide),Y4 (by decide)];simp[C.aq,C.emoji,C.most,aqd] <;> decide
def t1:List UInt8:=[97,98,99,100]
theorem aaj:Xw t1=[97,98,99,100]:=by decide +kernel
theorem akl:Wc Yv.tb t1=[0,1,2,3,4]:=by
 unfold Wc Lj T5;rw[aaj];simp only[RG,Pa,Yv.c7,Yv.dn,sG,aeO]
 decide +kernel
theorem adn:C.ab Yv.tb t1=[[97],[98],[99],[100]]:=by unfold C.ab;rw[akl,aaj];rfl
theorem ge1{k:Int}(ZI:0<=k)(Z7:k<=2):C.aG (ga k) t1=0:=C.bd (Jr ZI Z7) (by decide)
theorem auV:C.aj (ga 2) (C.ab Yv.tb t1) (C.ab Yv.tb t1).length=4:=by
 rw[adn];simp[C.aj,u0,vH,lT,abp]
theorem apj:C.ah (ga 2) t1=4:=by
 unfold C.ah;rw[Y0 (ge1 (by decide) (by decide))];exact auV
theorem te1:Vn Yv.tb t1=0:=C.bY (g:=ga 2) (Jr (by decide) (by decide)) (by decide)
theorem wD:C.ae Yv.tb t1=[[97],[98],[99],[100]]:=by rw[C.ch te1,adn];decide +kernel
def t2:List UInt8:=[97,98,99,100,46]
theorem aav:Xw t2=[97,98,99,100,46]:=by decide +kernel
theorem ana:Wc Yv.tb t2=[0,1,2,3,4,5]:=by
 unfold Wc Lj T5;rw[aav];simp only[RG,Pa,Yv.eF,Yv.c7,Yv.dn,sG,aeO]
 decide +kernel
theorem ar9:C.ab Yv.tb t2=[[97],[98],[99],[100],[46]]:=by unfold C.ab;rw[ana,aav];rfl
theorem ge2{k:Int}(ZI:0<=k)(Z7:k<=2):C.aG (ga k) t2=0:=C.bd (Jr ZI Z7) (by decide)
theorem als:C.aj (ga 2) (C.ab Yv.tb t2) (C.ab Yv.tb t2).length=5:=by
 rw[ar9];simp[C.aj,rI,u0,vH,lT,abp]
theorem arx:C.ah (ga 2) t2=5:=by
 unfold C.ah;rw[Y0 (ge2 (by decide) (by decide))];exact als
def t3:List UInt8:=[97,98,99,46]
theorem gI:Xw t3=[97,98,99,46]:=by decide +kernel
theorem akV:Wc Yv.tb t3=[0,1,2,3,4]:=by
 unfold Wc Lj T5;rw[gI];simp only[RG,Pa,Yv.eF,Yv.c7,Yv.dn,sG]
 decide +kernel
theorem avF:C.ab Yv.tb t3=[[97],[98],[99],[46]]:=by unfold C.ab;rw[akV,gI];rfl
theorem ge3{k:Int}(ZI:0<=k)(Z7:k<=2):C.aG (ga k) t3=0:=C.bd (Jr ZI Z7) (by decide)
theorem sum3:C.aj (ga 2) (C.ab Yv.tb t3) (C.ab Yv.tb t3).length=4:=by
 rw[avF];simp[C.aj,rI,u0,vH,lT]
theorem avT:C.ah (ga 2) t3=4:=by
 unfold C.ah;rw[Y0 (ge3 (by decide) (by decide))];exact sum3
def t4:List UInt8:=[97,98,46]
theorem m7:Xw t4=[97,98,46]:=by decide +kernel
theorem gJ:Wc Yv.tb t4=[0,1,2,3]:=by
 unfold Wc Lj T5;rw[m7];simp only[RG,Pa,Yv.eF,Yv.c7,Yv.dn]
 decide +kernel
theorem ass:C.ab Yv.tb t4=[[97],[98],[46]]:=by unfold C.ab;rw[gJ,m7];rfl
theorem ge4{k:Int}(ZI:0<=k)(Z7:k<=2):C.aG (ga k) t4=0:=C.bd (Jr ZI Z7) (by decide)
theorem akt:C.aj (ga 2) (C.ab Yv.tb t4) (C.ab Yv.tb t4).length=3:=by
 rw[ass];simp[C.aj,rI,u0,vH]
theorem auP:C.ah (ga 2) t4=3:=by
 unfold C.ah;rw[Y0 (ge4 (by decide) (by decide))];exact akt
theorem te4:Vn Yv.tb t4=0:=C.bY (g:=ga 2) (Jr (by decide) (by decide)) (by decide)
def t5:List UInt8:=[46]
theorem aas:Xw t5=[46]:=by decide +kernel
theorem aqC:Wc Yv.tb t5=[0,1]:=by
 unfold Wc Lj T5;rw[aas];simp only[RG,Pa,Yv.eF]
 decide +kernel
theorem atN:C.ab Yv.tb t5=[[46]]:=by unfold C.ab;rw[aqC,aas];rfl
theorem ge5{k:Int}(ZI:0<=k)(Z7:k<=2):C.aG (ga k) t5=0:=C.bd (Jr ZI Z7) (by decide)
theorem aus:C.aj (ga 2) (C.ab Yv.tb t5) (C.ab Yv.tb t5).length=1:=by
 rw[atN];simp[C.aj,rI]
theorem ajT:C.ah (ga 2) t5=1:=by
 unfold C.ah;rw[Y0 (ge5 (by decide) (by decide))];exact aus
def t6:List UInt8:=[97,204,129,98]
theorem acT:Xw t6=[97,769,98]:=by decide +kernel
theorem asC:Wc Yv.tb t6=[0,2,3]:=by
 unfold Wc Lj T5;rw[acT];simp only[RG,Pa,Yv.c7,Yv.dn,Yv.fX]
 decide +kernel
theorem acs:C.ab Yv.tb t6=[[97,769],[98]]:=by unfold C.ab;rw[asC,acT];rfl
theorem te6:Vn Yv.tb t6=0:=C.bY (g:=ga 2) (Jr (by decide) (by decide)) (by decide)
theorem acj:C.ae Yv.tb t6=[[97,204,129],[98]]:=by rw[C.ch te6,acs];decide +kernel
def t7:List UInt8:=[97,45,98,45,45,99]
theorem hO:Xw t7=[97,45,98,45,45,99]:=by decide +kernel
theorem aku:Wc Yv.tb t7=[0,1,2,3,4,5,6]:=by
 unfold Wc Lj T5;rw[hO];simp only[RG,Pa,ari,Yv.c7,Yv.dn,sG]
 decide +kernel
theorem awd:C.ab Yv.tb t7=[[97],[45],[98],[45],[45],[99]]:=by unfold C.ab;rw[aku,hO];rfl
theorem te7:Vn Yv.tb t7=0:=C.bY (g:=ga 2) (Jr (by decide) (by decide)) (by decide)
theorem avd:C.ae Yv.tb t7=[[97],[45],[98],[45],[45],[99]]:=by rw[C.ch te7,awd];decide +kernel
def t8:List UInt8:=[97,98]
theorem ha:Xw t8=[97,98]:=by decide +kernel
theorem alc:Wc Yv.tb t8=[0,1,2]:=by
 unfold Wc Lj T5;rw[ha];simp only[RG,Pa,Yv.c7,Yv.dn]
 decide +kernel
theorem aet:C.ab Yv.tb t8=[[97],[98]]:=by unfold C.ab;rw[alc,ha];rfl
theorem ge8{k:Int}(ZI:0<=k)(Z7:k<=2):C.aG (ga k) t8=0:=C.bd (Jr ZI Z7) (by decide)
theorem auU:C.aj (ga 2) (C.ab Yv.tb t8) (C.ab Yv.tb t8).length=2:=by
 rw[aet];simp[C.aj,u0,vH]
theorem av1:C.ah (ga 2) t8=2:=by
 unfold C.ah;rw[Y0 (ge8 (by decide) (by decide))];exact auU
theorem te8:Vn Yv.tb t8=0:=C.bY (g:=ga 2) (Jr (by decide) (by decide)) (by decide)
theorem auR:C.ae Yv.tb t8=[[97],[98]]:=by rw[C.ch te8,aet];decide +kernel
def t9:List UInt8:=[120,121,122]
theorem acd:Xw t9=[120,121,122]:=by decide +kernel
theorem aoy:Wc Yv.tb t9=[0,1,2,3]:=by
 unfold Wc Lj T5;rw[acd];simp only[RG,Pa,av3,amv,avG]
 decide +kernel
theorem acC:C.ab Yv.tb t9=[[120],[121],[122]]:=by unfold C.ab;rw[aoy,acd];rfl
theorem ge9{k:Int}(ZI:0<=k)(Z7:k<=2):C.aG (ga k) t9=0:=C.bd (Jr ZI Z7) (by decide)
theorem anW:C.aj (ga 2) (C.ab Yv.tb t9) (C.ab Yv.tb t9).length=3:=by
 rw[acC];simp[C.aj,lN,lq,hv]
theorem ac9:C.ah (ga 2) t9=3:=by
 unfold C.ah;rw[Y0 (ge9 (by decide) (by decide))];exact anW
def t10:List UInt8:=[204,129]
theorem hN:Xw t10=[769]:=by decide +kernel
theorem arl:Wc Yv.tb t10=[0,1]:=by
 unfold Wc Lj T5;rw[hN];simp only[RG,Pa,Yv.fX]
 decide +kernel
theorem apZ:C.ab Yv.tb t10=[[769]]:=by unfold C.ab;rw[arl,hN];rfl
theorem ame{k:Int}(ZI:0<=k)(Z7:k<=2):C.aG (ga k) t10=0:=C.bd (Jr ZI Z7) (by decide)
theorem aqt:C.aj (ga 2) (C.ab Yv.tb t10) (C.ab Yv.tb t10).length=0:=by
 rw[apZ];simp[C.aj,at3]
theorem acb:C.ah (ga 2) t10=0:=by
 unfold C.ah;rw[Y0 (ame (by decide) (by decide))];exact aqt
theorem aaC{h t:List UInt8}{n m:Int}(hm:C.ah (ga 2) (h++t)=m)(_:n<m):C.aW (ga 2) h t n=false:=by
 unfold C.aW;rw[hm,Yp (by omega),Bool.and_false]
theorem as2:C.isA Yv.tb t4 2=true:=by
 unfold C.isA C.aQ;rw[Y0 te4,gJ,m7]
 decide +kernel
theorem amY:C.b0 (ga 2) t1 t5=0/\C.aX (ga 2) t1 t5 3=some 2:=by
 have ZI:C.b0 (ga 2) t1 t5=0:=by
  unfold C.b0;rw[Jr (by decide) (by decide)]
  decide
 refine⟨ZI,?_⟩;unfold C.aX;rw[Y0 ZI,show(ga 2).t=Yv.tb from rfl,wD];have g4:C.aW (ga 2) (C.headA Yv.tb t1 4) t5 3=false:=by
  unfold C.headA;rw[wD];exact aaC (m:=5) arx (by decide)
 have g3:C.aW (ga 2) (C.headA Yv.tb t1 3) t5 3=false:=by
  unfold C.headA;rw[wD];exact aaC (m:=4) avT (by decide)
 have g2:C.aW (ga 2) (C.headA Yv.tb t1 2) t5 3=true:=by
  unfold C.headA;rw[wD];show C.aW (ga 2) [97,98] [46] 3=true
  unfold C.aW;rw[show[97,98]++[46]=t4 from rfl,auP,show(ga 2).t=Yv.tb from rfl,show(([97,98]:List UInt8).length:Int)=2 from rfl,as2]
  rfl
 simp only[U3,SK,C.ct,show(ga 2).t=Yv.tb from rfl,g4,g3,g2,show M.fix t5=t5 by decide +kernel]
 rfl
theorem trunc1:C.aO kt 2 t1 3 t5=0/\C.aY kt 2 t1 3 t5=t4:=by
 have ZI:C.aO kt 2 t1 3 t5=0:=by
  unfold C.aO;rw[Y0 (Bl (by decide) (by decide))]
  rfl
 refine⟨ZI,?_⟩;unfold C.aY;rw[Y0 ZI];unfold C.cz;rw[show C.kg kt 2=ga 2 from rfl,apj,ajT,Y4 (by decide),Y4 (by decide),amY.2];unfold C.headA;rw[show(ga 2).t=Yv.tb from rfl,wD]
 decide +kernel
theorem aai:C.ar kt t6 []=0/\C.cb kt t6=[98,97,204,129]:=by
 have ZI:=Bl (s:=t6) (e:=[]) (by decide) (by decide);refine⟨ZI,?_⟩;unfold C.cb;rw[Y0 ZI,show kt.c=Yv.tb from rfl,acj]
 decide +kernel
theorem fQ:C.bn kt t7 [45]=0/\C.bN kt t7 [45]=[[97],[98],[],[99]]:=by
 have ZI:C.bn kt t7 [45]=0:=by
  unfold C.bn;rw[Y0 (Bl (by decide) (by decide))]
  rfl
 refine⟨ZI,?_⟩;unfold C.bN;rw[Y0 ZI,show kt.c=Yv.tb from rfl,avd]
 decide +kernel
theorem aeE:C.aU kt t8 7 t9 2=0/\C.aT kt t8 7 t9 2=[120,121,97,98,120,121,122]:=by
 have ZI:C.aU kt t8 7 t9 2=0:=by
  unfold C.aU;rw[Y0 (Bl (by decide) (by decide)),show C.kg kt 2=ga 2 from rfl,ac9]
  rfl
 refine⟨ZI,?_⟩;unfold C.aT;rw[Y0 ZI];have ZL:C.dm kt t8 7=5:=by
  unfold C.dm;rw[show C.kg kt 2=ga 2 from rfl,av1]
  rfl
 rw[ZL];unfold C.dH C.aw C.fH;rw[Y4 (by decide),Y4 (by decide),show kt.c=Yv.tb from rfl,acC,show C.kg kt 2=ga 2 from rfl];have f1:C.b5 (ga 2) [[120],[121],[122]] 10 0 2=[120,121]:=by
  simp[C.b5,lN,lq]
  decide +kernel
 have f2:C.b5 (ga 2) [[120],[121],[122]] 13 0 3=[120,121,122]:=by
  simp[C.b5,lN,lq,hv]
  decide +kernel
 rw[show(5:Int)/2=2 from rfl,show(5:Int)-2=3 from rfl,show(2:Int).toNat*([[120],[121],[122]]:List (List Int)).length+([[120],[121],[122]]:List (List Int)).length+1=10 from rfl,show(3:Int).toNat*([[120],[121],[122]]:List (List Int)).length+([[120],[121],[122]]:List (List Int)).length+1=13 from rfl,f1,f2]
 decide +kernel
theorem abr:C.aU kt [] 3 t10 0=163:=by
 unfold C.aU;rw[Y0 (Bl (by decide) (by decide)),show C.kg kt 2=ga 2 from rfl,acb]
 rfl
theorem aeB:C.bp kt t6 4 2=0/\C.bH kt t6 4 2=[97,204,129]:=by
 have ZI:C.bp kt t6 4 2=0:=by
  unfold C.bp;rw[Y0 (Bl (by decide) (by decide))]
  rfl
 refine⟨ZI,?_⟩;unfold C.bH;rw[Y0 ZI,show kt.c=Yv.tb from rfl,acs];unfold C.headA;rw[acj]
 decide +kernel
theorem gl:C.bc kt t8 1 9=0/\C.bG kt t8 1 9=[98]:=by
 have ZI:C.bc kt t8 1 9=0:=by
  unfold C.bc;rw[Y0 (Bl (by decide) (by decide))]
  rfl
 refine⟨ZI,?_⟩;unfold C.bG;rw[Y0 ZI,show kt.c=Yv.tb from rfl,auR]
 decide +kernel
def t12:List UInt8:=[97,255]
theorem hq:Xw t12=[97,65533]:=by decide +kernel
theorem avQ:F.says Yv.tb.p 65533=0:=by rw[show(65533:Int)=((65533:Nat):Int)from rfl,Yv.bk Yv.bZ _ (by decide)];decide +kernel
theorem aqL:Wc Yv.tb t12=[0,1,2]:=by
 unfold Wc Lj T5;rw[hq];simp only[RG,Pa,Yv.c7,avQ]
 decide +kernel
theorem aj7:T.cased cs 97=true:=by rw[show(97:Int)=((97:Nat):Int)from rfl,ad1 za _ (by decide)];decide +kernel
theorem aqP:T.al cs 97=false:=by rw[show(97:Int)=((97:Nat):Int)from rfl,adE y1 _ (by decide)];decide +kernel
theorem auZ:T.cased cs 65533=false:=by rw[show(65533:Int)=((65533:Nat):Int)from rfl,ad1 za _ (by decide)];decide +kernel
theorem aqU:T.al cs 65533=false:=by rw[show(65533:Int)=((65533:Nat):Int)from rfl,adE y1 _ (by decide)];decide +kernel
theorem blo:T.becomes cs.lo 97=[97]/\T.becomes cs.lo 65533=[65533]/\T.becomes cs.ti 97=[65]:=by decide +kernel
set_option linter.unusedSimpArgs false in
theorem anw:T.cS cs Yv.tb t12=[65,65533]:=by
 obtain⟨Z7,Z5,ZS⟩:=blo;unfold T.cS;rw[aqL,hq];simp[T.bu,T.word,T.b9,T.small,T.final,T.meets,List.range,List.range.loop,Z7,Z5,ZS,aj7,aqP,auZ,aqU]
theorem acy:T.bC cs Yv.tb t12=0/\T.bD cs Yv.tb t12=[65,239,191,189]:=by
 have h:T.bC cs Yv.tb t12=0:=by unfold T.bC Vn;rw[adS,Yv.fw];rfl
 refine⟨h,?_⟩;unfold T.bD;rw[Y0 h,anw]
 decide +kernel
end XT
section
attribute[local go_sem] Oper.semAt_some
theorem ra(A:Nat->Addr)(B:Nat)(v:Value)(k:C.Kt)(w:World)(Z2:WZ w v k)(Z0:VT k)(hS:Sw A B w):
  Calls prog 18 #[v] w λe w'=>e=.returned (.bool (C.ad k))/\Z6 w w':=by
 have Xt:=bx (show C.ad k=(Td k.c&&Td k.w&&C.aS k.d&&T.az 600 k.s)from rfl);obtain⟨ca,XQ,XP,X5,XR,X2,Xr,wp,Xz,Ym,Xp,wf,ZD,bv,wd,lo,ti,c1,c2,g1,g2,rfl,Z3⟩:=Z2;have WL:=bx (λW(h:Z6 w W)=>Z3.below h);obtain⟨V,ZO⟩:∃V,V=w.alloc (.cells #[Z9 ca,XQ,XP,X5,XR,X2,Z9 Xr,wp,Xz,Ym,Xp,wf,ZD,bv,.bool wd,lo,ti,c1,c2,g1,g2] 38):=⟨_,rfl⟩
 have ZR:=bx (aB ZO);have Ze:=bx (aK ZO);have ZF:=bx (λW(h:Z6 V W)=>Ze.o.c21 h);have ZN:=bx ZO;clear Z3 ZO;have Sk:=bx (λW(h:Z6 w W)=>vC A B _ k.c W (WL.o W h).c Z0.c (hS.below h).d (hS.below h).g (hS.below h).le);have Ts:=bx (λW(h:Z6 w W)=>vC A B _ k.w W (WL.o W h).w Z0.w (hS.below h).d (hS.below h).g (hS.below h).le);have Q1:=bx (λW(h:Z6 w W)=>mK _ k.d W (WL.o W h).d Z0.d);have Ow:=bx (λW(h:Z6 w W)=>uC _ k.s W (WL.o W h).s Z0.s);generalize C.ad k=res at Xt⊢;generalize Td k.c=OZ at Sk Xt;generalize Td k.w=Wx at Ts Xt;generalize C.aS k.d=Xd at Q1 Xt;generalize T.az 600 k.s=Wk at Ow Xt;clear hS;obtain⟨Zd,Zx,Zr,Zk,Zl,Zg,XK,W9,W8,W7,Rf,Re,Rc,Rb,Ra,QX,QW,QV,QU,QT,QS,YS⟩:=ZF.o V YU
 go_in
 go_upto_region 1 with(fail)
 rw[<-ZN.o];go_wp2_with fail;refine Y3 (Sk.o V ZR.o) λZV Z8=>?_
 have ZW:=Zw ZR Z8;have UH:=bx Z8;clear Z8 Zd Zx Zr Zk Zl Zg XK W9 W8 W7 Rf Re Rc Rb Ra QX QW QV QU QT QS YS
 cases OZ with
 |false=>
  go_wp2
  go_ret
  exact⟨YG (by rw[Xt.o];simp),ZW.o⟩
 |true=>
  obtain⟨Zd,Zx,Zr,Zk,Zl,Zg,XK,W9,W8,W7,Rf,Re,Rc,Rb,Ra,QX,QW,QV,QU,QT,QS,YS⟩:=ZF.o ZV UH.o;go_wp2_with fail;refine Y3 (Ts.o ZV ZW.o) λZB Z8=>?_
  have Zt:=Zw ZW Z8;have UA:=Zw UH Z8;clear Z8 Zd Zx Zr Zk Zl Zg XK W9 W8 W7 Rf Re Rc Rb Ra QX QW QV QU QT QS YS
  cases Wx with
  |false=>
   go_wp2
   go_ret
   exact⟨YG (by rw[Xt.o];simp),Zt.o⟩
  |true=>
   obtain⟨Zd,Zx,Zr,Zk,Zl,Zg,XK,W9,W8,W7,Rf,Re,Rc,Rb,Ra,QX,QW,QV,QU,QT,QS,YS⟩:=ZF.o ZB UA.o;go_wp2_with fail;refine Y3 (Q1.o ZB Zt.o) λZh Z8=>?_
   have YY:=Zw Zt Z8;have Un:=Zw UA Z8;clear Z8 Zd Zx Zr Zk Zl Zg XK W9 W8 W7 Rf Re Rc Rb Ra QX QW QV QU QT QS YS
   cases Xd with
   |false=>
    go_wp2
    go_ret
    exact⟨YG (by rw[Xt.o];simp),YY.o⟩
   |true=>
    obtain⟨Zd,Zx,Zr,Zk,Zl,Zg,XK,W9,W8,W7,Rf,Re,Rc,Rb,Ra,QX,QW,QV,QU,QT,QS,YS⟩:=ZF.o Zh Un.o;go_wp2_with fail;refine Y3 (Ow.o Zh YY.o) λ_ Z8=>?_
    have Ye:=Zw YY Z8;have Fw:=Zw Un Z8;clear Z8 Zd Zx Zr Zk Zl Zg XK W9 W8 W7 Rf Re Rc Rb Ra QX QW QV QU QT QS YS
    go_wp2
    go_ret
    exact⟨YG (by rw[Xt.o];simp),Ye.o⟩
theorem oI(v:Value)(k:C.Kt)(w:World)(Z2:WZ w v k)(Z0:VT k):
  Calls prog 19 #[v] w λe w'=>e=.returned (.bool (C.ad k))/\Z6 w w':=by
 have Xt:=bx (show C.ad k=(Td k.c&&Td k.w&&C.aS k.d&&T.az 600 k.s)from rfl);obtain⟨ca,XQ,XP,X5,XR,X2,Xr,wp,Xz,Ym,Xp,wf,ZD,bv,wd,lo,ti,c1,c2,g1,g2,rfl,Z3⟩:=Z2;have WL:=bx (λW(h:Z6 w W)=>Z3.below h);obtain⟨V,ZO⟩:∃V,V=w.alloc (.cells #[Z9 ca,XQ,XP,X5,XR,X2,Z9 Xr,wp,Xz,Ym,Xp,wf,ZD,bv,.bool wd,lo,ti,c1,c2,g1,g2] 38):=⟨_,rfl⟩
 have ZR:=bx (aB ZO);have Ze:=bx (aK ZO);have ZF:=bx (λW(h:Z6 V W)=>Ze.o.c21 h);have ZN:=bx ZO;clear Z3 ZO;have Sk:=bx (λW(h:Z6 w W)=>vI _ k.c W (WL.o W h).c Z0.c);have Ts:=bx (λW(h:Z6 w W)=>vI _ k.w W (WL.o W h).w Z0.w);have Q1:=bx (λW(h:Z6 w W)=>lx _ k.d W (WL.o W h).d Z0.d);have Ow:=bx (λW(h:Z6 w W)=>sL _ k.s W (WL.o W h).s Z0.s);generalize C.ad k=res at Xt⊢;generalize Td k.c=OZ at Sk Xt;generalize Td k.w=Wx at Ts Xt;generalize C.aS k.d=Xd at Q1 Xt;generalize T.az 600 k.s=Wk at Ow Xt;obtain⟨Zd,Zx,Zr,Zk,Zl,Zg,XK,W9,W8,W7,Rf,Re,Rc,Rb,Ra,QX,QW,QV,QU,QT,QS,YS⟩:=ZF.o V YU
 go_in
 go_upto_region 1 with(fail)
 rw[<-ZN.o];go_wp2_with fail;refine Y3 (Sk.o V ZR.o) λZV Z8=>?_
 have ZW:=Zw ZR Z8;have UH:=bx Z8;clear Z8 Zd Zx Zr Zk Zl Zg XK W9 W8 W7 Rf Re Rc Rb Ra QX QW QV QU QT QS YS
 cases OZ with
 |false=>
  go_wp2
  go_ret
  exact⟨YG (by rw[Xt.o];simp),ZW.o⟩
 |true=>
  obtain⟨Zd,Zx,Zr,Zk,Zl,Zg,XK,W9,W8,W7,Rf,Re,Rc,Rb,Ra,QX,QW,QV,QU,QT,QS,YS⟩:=ZF.o ZV UH.o;go_wp2_with fail;refine Y3 (Ts.o ZV ZW.o) λZB Z8=>?_
  have Zt:=Zw ZW Z8;have UA:=Zw UH Z8;clear Z8 Zd Zx Zr Zk Zl Zg XK W9 W8 W7 Rf Re Rc Rb Ra QX QW QV QU QT QS YS
  cases Wx with
  |false=>
   go_wp2
   go_ret
   exact⟨YG (by rw[Xt.o];simp),Zt.o⟩
  |true=>
   obtain⟨Zd,Zx,Zr,Zk,Zl,Zg,XK,W9,W8,W7,Rf,Re,Rc,Rb,Ra,QX,QW,QV,QU,QT,QS,YS⟩:=ZF.o ZB UA.o;go_wp2_with fail;refine Y3 (Q1.o ZB Zt.o) λZh Z8=>?_
   have YY:=Zw Zt Z8;have Un:=Zw UA Z8;clear Z8 Zd Zx Zr Zk Zl Zg XK W9 W8 W7 Rf Re Rc Rb Ra QX QW QV QU QT QS YS
   cases Xd with
   |false=>
    go_wp2
    go_ret
    exact⟨YG (by rw[Xt.o];simp),YY.o⟩
   |true=>
    obtain⟨Zd,Zx,Zr,Zk,Zl,Zg,XK,W9,W8,W7,Rf,Re,Rc,Rb,Ra,QX,QW,QV,QU,QT,QS,YS⟩:=ZF.o Zh Un.o;go_wp2_with fail;refine Y3 (Ow.o Zh YY.o) λ_ Z8=>?_
    have Ye:=Zw YY Z8;have Fw:=Zw Un Z8;clear Z8 Zd Zx Zr Zk Zl Zg XK W9 W8 W7 Rf Re Rc Rb Ra QX QW QV QU QT QS YS
    go_wp2
    go_ret
    exact⟨YG (by rw[Xt.o];simp),Ye.o⟩
theorem zg{k:C.Kt}{s:List UInt8}(h:C.ad k=true)(ZY:s.length<=2000):Vn k.c s=0:=C.bY (g:=C.kg k 0) (C.db h (by decide) (by decide)) ZY
theorem gx(A:Nat->Addr)(B g:Nat)(k:C.Kt)(s:ByteArray)(w:World)(ZH:PB w g k)(Z0:VT k)(Z8:C.ad k=true)(ZY:s.size<=800)(hS:Sw A B w):
  Calls prog 69 #[Zn g,.string s] w λe w'=>(∃Zy,e=.returned Zy/\w'.ownsRow w.heap.size 9 1 Zy (C.ae k.c s.data.toList).length ((C.ae k.c s.data.toList).map Vu))/\Z6 w w':=by
 obtain⟨ca,XQ,XP,X5,XR,X2,Xr,wp,Xz,Ym,Xp,wf,ZD,bv,wd,lo,ti,c1,c2,g1,g2,Z3,hp⟩:=ZH;have ZF:=bx (λW(h:Z6 w W)=>Z3.c21 h);have WL:=bx (λW(h:Z6 w W)=>hp.below h);have Sk:=bx (adL A B _ k.c s w hp.c Z0.c ZY hS.e hS.d hS.g hS.le (zg Z8 (by rw[<-size_eq];omega)));clear Z3 hp Z0 Z8 ZY hS;obtain⟨Zd,Zx,Zr,Zk,Zl,Zg,XK,W9,W8,W7,Rf,Re,Rc,Rb,Ra,QX,QW,QV,QU,QT,QS,YS⟩:=ZF.o w YU
 go_in
 go_wp2_with fail;refine Sk.o.mono ?_;rintro e ZV ⟨⟨v1,rfl,WV⟩,ZZ⟩;have ZW:=bx ZZ;have VD:=bx WV;obtain⟨Yr,lc,rfl,-⟩:=(XC.au WV rfl).slice;clear ZZ WV Zd Zx Zr Zk Zl Zg XK W9 W8 W7 Rf Re Rc Rb Ra QX QW QV QU QT QS YS
 go_wp2
 go_ret
 exact⟨⟨_,rfl,VD.o⟩,ZW.o⟩
theorem wR(A:Nat->Addr)(B g:Nat)(k:C.Kt)(s:ByteArray)(w:World)(ZH:PB w g k)(Z0:VT k)(Z8:C.ad k=true)(ZY:s.size<=800)(hS:Sw A B w):
  Calls prog 69 #[Zn g,.string s] w λe w'=>(∃Zy,e=.returned Zy/\XC w' Zy (C.ae k.c s.data.toList)/\∀b,Zy.ownBlock=some b->w.heap.size<=b)/\Z6 w w' :=
 (gx A B g k s w ZH Z0 Z8 ZY hS).mono (by rintro e w' ⟨⟨Zy,rfl,h⟩,Z8⟩;exact⟨⟨Zy,rfl,XC.au h rfl,λg ZH=>(h.lt g ZH).1⟩,Z8⟩)
theorem acI(g:Nat)(k:C.Kt)(i:Int)(w:World)(ZH:PB w g k):
  Calls prog 116 #[Zn g,Z9 i] w λe w'=>(∃Zy,e=.returned Zy/\Qy w' Zy (C.kg k i))/\Z6 w w':=by
 obtain⟨ca,XQ,XP,X5,XR,X2,Xr,wp,Xz,Ym,Xp,wf,ZD,bv,wd,lo,ti,c1,c2,g1,g2,Z3,hp⟩:=ZH;obtain⟨V,ZO⟩:∃V,V=w.alloc (.cells #[Z9 0,Z1,Z1,Z1,Z1,Z1,Z1,Z1,.bool false,Z9 0] 57):=⟨_,rfl⟩
 have ZR:=bx (aB ZO);have Ze:=bx (aK ZO);have ZF:=bx (λW(h:Z6 V W)=>(Z3.below ZR.o Z3.lt).c21 h);have Bh:=bx (hp.dy i);obtain⟨S3,RZ,Lw,FI,FH,tv,tu⟩:XQ.oneCell'=true/\XP.oneCell'=true/\X5.oneCell'=true/\XR.oneCell'=true/\X2.oneCell'=true/\ZD.oneCell'=true/\bv.oneCell'=true:=by
  obtain⟨XX,UB,V2,z2,V4,z3,UO,z4,T1,z5,S1,Oe,RY,Od,he⟩:=(hp.dy i).slices;injection he with he;simp only[Array.mk.injEq,QE]at he;obtain⟨-,rfl,rfl,rfl,rfl,rfl,rfl,rfl,-⟩:=he;exact⟨rfl,rfl,rfl,rfl,rfl,rfl,rfl⟩
 have ZN:=bx ZO;clear Z3 hp ZO
 go_in
 go_upto_region 1 with(fail)
 rw[<-ZN.o];refine Vv 12 (λW'=>ZQ W' g 0=some (Z9 ca)/\ZQ W' g 1=some (XQ)/\ZQ W' g 2=some (XP)/\ZQ W' g 3=some (X5)/\ZQ W' g 4=some (XR)/\ZQ W' g 5=some (X2)/\ZQ W' g 6=some (Z9 Xr)/\ZQ W' g 7=some (wp)/\ZQ W' g 8=some (Xz)/\ZQ W' g 9=some (Ym)/\ZQ W' g 10=some (Xp)/\ZQ W' g 11=some (wf)/\ZQ W' g 12=some (ZD)/\ZQ W' g 13=some (bv)/\ZQ W' g 14=some (.bool wd)/\ZQ W' g 15=some (lo)/\ZQ W' g 16=some (ti)/\ZQ W' g 17=some (c1)/\ZQ W' g 18=some (c2)/\ZQ W' g 19=some (g1)/\ZQ W' g 20=some (g2)/\g<W'.heap.size) (by kernel_rfl) ?_;have YF:=bx (ZF.o V.drew (VQ V 1));have Y9:=bx (show Z6 V V.drew from VQ V 1);generalize V.drew=Yl at YF Y9⊢;refine Vp [0,1,2,3,4,5,6,7,8,9,10] ?_
 iterate 11 (refine Vq ?_ rfl YF.o ?_ ?_;rotate_left;·rintro w ⟨q1,q2,q3,q4,q5,q6,q7,q8,q9,q10,So,Sn,Sb,Rv,Ru,Rn,Rt,Rr,ic,ahK,ahL,ahM⟩;go_simp;try with_reducible rfl)
 refine Vr ?_;refine Y1 11 rfl λY7 ZX=>?_
 go_simp;refine ZX.out _ _ (λ_=>YF.o) ?_;clear ZX Y7;refine Y1 12 rfl λY7 ZX=>?_
 refine ie rfl 57 _ _ rfl w.heap.size (cells:=#[Z9 ca,XQ,XP,X5,XR,X2,ZD,bv,.bool wd,Z9 i]) (by kernel_rfl) (by kernel_rfl) (Ze.o.below Y9.o Ze.o.lt) wI rfl (by simp only[List.all_toArray,List.all_cons,List.all_nil,S3,RZ,Lw,FI,FH,tv,tu,Bool.and_true,Bool.true_and];rfl) ?_;refine ZX.out _ _ (λh=>by cases h) ?_;clear ZX Y7;refine kD ?_ _;go_wp2_with fail;have F6:=ZR.o.trans ((Y9.o.mono ZR.o.size).trans ((Turns.setRow (W:=Yl) (own:=λq=>q=w.heap.size) (g:=w.heap.size) rfl #[Z9 ca,XQ,XP,X5,XR,X2,ZD,bv,.bool wd,Z9 i]).below (XJ ZR.o.size Y9.o.size) (λq _=>by omega)));exact bodyPost_ret (results_cell_row results116 _ _ w.heap.size 57 _ (0,0) _ rfl ((Ze.o.below Y9.o Ze.o.lt).setRow #[Z9 ca,XQ,XP,X5,XR,X2,ZD,bv,.bool wd,Z9 i]) underlying57 rfl wI) rfl ⟨⟨_,rfl,Bh.o.below F6⟩,F6⟩
theorem EX(A:Nat->Addr)(B g:Nat)(k:C.Kt)(i:Int)(s:ByteArray)(w:World)(ZH:PB w g k)(Z0:VT k)(ZY:s.size<=800)(hS:Sw A B w):
  Calls prog 76 #[Zn g,Z9 i,.string s] w λe w'=>e=.returned (Z9 (C.ah (C.kg k i) s.data.toList))/\Z6 w w':=by
 have Sk:=bx (acI g k i w ZH);have Ts:=bx (λv W(h:Z6 w W)(Z2:Qy W v (C.kg k i))=>atY A B v (C.kg k i) s W Z2 Z0.c Z0.d ZY (hS.below h).e (hS.below h).d (hS.below h).g (hS.below h).le);generalize C.ah (C.kg k i) s.data.toList=m at Ts⊢;generalize C.aG (C.kg k i) s.data.toList=Wz at Ts;clear ZH Z0 ZY hS
 go_in
 go_wp2_with fail;refine Sk.o.mono ?_;rintro e ZV ⟨⟨v1,rfl,WV⟩,ZZ⟩;have ZW:=bx ZZ;have G9:=bx (Ts.o v1 ZV ZZ WV);obtain⟨XX,UB,V2,z2,V4,z3,UO,z4,T1,z5,S1,Oe,RY,Od,rfl⟩:=WV.slices;clear WV Ts ZZ;go_wp2_with fail;refine X7 G9.o ZW.o λ_ Zt=>?_
 go_wp2
 go_ret
 exact⟨rfl,Zt.o⟩
theorem nh(s:ByteArray)(w:World):
  Calls prog 92 #[.string s] w λe w'=>e=.returned (.bool (decide ((s.size:Int)<=60)))/\Z6 w w':=by
 go_in
 go_wp2
 go_ret
 exact⟨rfl,Below.refl _ _⟩
theorem D5(A:Nat->Addr)(B:Nat)(v pv:Value)(k:C.Kt)(s:ByteArray)(ps:List (List UInt8))(w:World)(Z2:WZ w v k)(Z0:VT k)(hS:Sw A B w)(Z8:C.ad k=false)(hp:XC w pv ps):
  Calls prog 53 #[v,.string s,pv] w λe w'=>e=.returned (.tuple #[.pointer none,.iface 91 (.agg #[Z9 160])])/\Z6 w w':=by
 have Sk:=bx (λW(h:Z6 w W)=>ra A B v k W (Z2.below h) Z0 (hS.below h));rw[Z8]at Sk;obtain⟨pa,ahJ,rfl,-⟩:=hp.slice;generalize ps.length=N;clear Z0 hS Z8 hp;obtain⟨ca,XQ,XP,X5,XR,X2,Xr,wp,Xz,Ym,Xp,wf,ZD,bv,wd,lo,ti,c1,c2,g1,g2,rfl,Z3⟩:=Z2;have WL:=bx (λW(h:Z6 w W)=>Z3.below h);obtain⟨V,ZO⟩:∃V,V=w.alloc (.cells #[Z9 ca,XQ,XP,X5,XR,X2,Z9 Xr,wp,Xz,Ym,Xp,wf,ZD,bv,.bool wd,lo,ti,c1,c2,g1,g2] 38):=⟨_,rfl⟩
 have ZR:=bx (aB ZO);have Ze:=bx (aK ZO);have ZF:=bx (λW(h:Z6 V W)=>Ze.o.below h Ze.o.lt);have ZN:=bx ZO;clear Z3 ZO;have ZK:=bx (Sk.o V ZR.o);clear Sk;have ZA:=ZF.o V YU
 go_in
 go_upto_region 1 with(fail)
 rw[<-ZN.o];go_wp2_with fail;refine Nr 0 rfl ?_;go_wp2_with (refine X8 rfl _ rfl _ rfl ZA rfl ?_)
 refine X7 ZK.o ZR.o λ_ ZW=>?_
 clear ZA;go_wp2_with fail
 go_step3
 refine⟨rfl,?_⟩;go_wp2_with fail;rw[Exit.noGoto_ret];go_ret2;exact⟨rfl,ZW.o⟩
theorem Mj(A:Nat->Addr)(B:Nat)(v pv:Value)(k:C.Kt)(s:ByteArray)(ps:List (List UInt8))(w:World)(Z2:WZ w v k)(Z0:VT k)(hS:Sw A B w)(Z8:C.ad k=true)(hp:XC w pv ps)(_:s.size<=600)(zM:ps.length<=100)(UU:∀p∈ps,p.length<=60):
  Calls prog 53 #[v,.string s,pv] w λe w'=>(∃g,e=.returned (.tuple #[Zn g,.nilIface])/\PB w' g k/\w.heap.size<=g)/\Z6 w w':=by
 have Sk:=bx (λW(h:Z6 w W)=>ra A B v k W (Z2.below h) Z0 (hS.below h));rw[Z8]at Sk;have Nv:=bx hp;have AD:=bx (λW(x:List UInt8)(Z4:x∈ps)=>show Calls prog 92 #[.string (bs x)] W λe w'=>e=.returned (.bool true)/\Z6 W w' from(nh (bs x) W).mono λe w' h=>by
  have WK:=UU x Z4;rw[Yh (show((bs x).size:Int)<=60 by rw[size_eq,Ky];omega)]at h;exact h)
 obtain⟨pa,ahJ,rfl,-⟩:=hp.slice;obtain⟨N,Zp⟩:∃N,ps.length=N:=⟨_,rfl⟩
 rw[Zp]at zM⊢;have ZE:=bx Zp;have Ka:decide ((600:Int)<(s.size:Int))=false:=Yp (by omega);clear Z0 hS Z8 hp UU Zp;obtain⟨ca,XQ,XP,X5,XR,X2,Xr,wp,Xz,Ym,Xp,wf,ZD,bv,wd,lo,ti,c1,c2,g1,g2,rfl,Z3⟩:=Z2;have WL:=bx (λW(h:Z6 w W)=>Z3.below h);obtain⟨V,ZO⟩:∃V,V=w.alloc (.cells #[Z9 ca,XQ,XP,X5,XR,X2,Z9 Xr,wp,Xz,Ym,Xp,wf,ZD,bv,.bool wd,lo,ti,c1,c2,g1,g2] 38):=⟨_,rfl⟩
 have ZR:=bx (aB ZO);have Ze:=bx (aK ZO);have ZF:=bx (λW(h:Z6 V W)=>Ze.o.below h Ze.o.lt);have ZN:=bx ZO;clear Z3 ZO;have ZK:=bx (Sk.o V ZR.o);clear Sk;have ZA:=ZF.o V YU
 go_in
 go_upto_region 1 with(fail)
 rw[<-ZN.o];go_wp2_with fail;refine Nr 0 rfl ?_;go_wp2_with (refine X8 rfl _ rfl _ rfl ZA rfl ?_)
 refine Y3 ZK.o λ_ ZZ=>?_
 have ZW:=Zw ZR ZZ;have Xg:=bx ZZ;clear ZZ ZA;go_wp2_with fail
 go_loopw[19] (λi wr=>∃j:Nat,j<=N/\i=Z9 j/\Box (Z6 w wr)/\Box (Z6 V wr)) (λi _=>N-(intOf i).toNat)
 ·exact⟨0,by omega,rfl,ZW,Xg⟩
 obtain⟨j,YO,rfl,Xk,tQ⟩:=hrel
 by_cases Zu:j<N
 ·obtain⟨x,Z4⟩:=Yg ps j (by rw[ZE.o];exact Zu);obtain⟨b,off,cap',UV,N9,RK,R0,T3⟩:=Nv.o.get (by rintro rfl;simp at Z4);rw[ZE.o]at UV N9;obtain⟨rfl,rfl⟩:=XN UV;have Ua:=(Xk.o.cell (p:=⟨b,off+j,none⟩) R0).trans (T3 j x Z4);have LY:=bx (AD.o wr x (Xh Z4));have Ur:=Vh R0 Xk.o.size;unfold maxLen at RK;clear Z4 UV T3;go_wp2_with fail;refine Y3 LY.o λ_ Zz=>?_
  have Zt:=Zw Xk Zz;have UI:=Zw tQ Zz;clear Zz Ua Ur
  go_wp2
  go_roundw
  ·exact⟨j+1,by omega,by go_num,Zt,UI⟩
  simp[intOf];omega
 clear Nv AD;have ZA:=ZF.o wr tQ.o;have YA:=bx Xk.o.size;have o7:=bx (WL.o wr Xk.o);have WH:=bx (Zv.new wr 162 #[Z9 ca,XQ,XP,X5,XR,X2,Z9 Xr,wp,Xz,Ym,Xp,wf,ZD,bv,.bool wd,lo,ti,c1,c2,g1,g2]);have TZ:=bx (Xk.o.trans ((Xl wr (.cells #[Z9 ca,XQ,XP,X5,XR,X2,Z9 Xr,wp,Xz,Ym,Xp,wf,ZD,bv,.bool wd,lo,ti,c1,c2,g1,g2] 162)).mono Xk.o.size));have SH:=bx (Xl wr (.cells #[Z9 ca,XQ,XP,X5,XR,X2,Z9 Xr,wp,Xz,Ym,Xp,wf,ZD,bv,.bool wd,lo,ti,c1,c2,g1,g2] 162));go_wp2_with (refine X8 rfl _ rfl _ rfl ZA rfl ?_)
 rw[Jq];go_ret2;exact⟨⟨wr.heap.size,rfl,⟨_,_,_,_,_,_,_,_,_,_,_,_,_,_,_,_,_,_,_,_,_,WH.o,o7.o.below SH.o⟩,YA.o⟩,TZ.o⟩
namespace C
theorem fW(g:Ga)(s e:List UInt8)(n:Int):(aX g s e n).getD 0<=(ae g.t s).length:=by
 unfold aX
 split
 ·cases h:ct g s e n (ae g.t s).length with
  |none=>exact OQ _
  |some i=>exact(adH h).1
 exact OQ _
theorem au3{g:Ga}{s:List UInt8}(h:aG g s=0)(_:s.length<=800):(ae g.t s).length<=1000:=by
 rw[abG h,cD];have Z7:=(QR g.t s).2.len;have Z5:=OO s;omega
theorem dX{k:Kt}{s:List UInt8}(h:ad k=true)(ZY:s.length<=800):(ae k.c s).length<=1000/\∀n,(headA k.c s n).length<=3*s.length:=by
 have ZH:aG (kg k 0) s=0:=bd (db h (by decide) (by decide)) (by omega);have Z7:=au3 ZH ZY;have Z5:=abi (kg k 0) s ZH;unfold headA;rw[show(kg k 0).t=k.c from rfl]at Z7 Z5;exact⟨Z7,Z5⟩
end C
theorem aum(A:Nat->Addr)(B g:Nat)(k:C.Kt)(i:Int)(s e:ByteArray)(n:Int)(w:World)(ZH:PB w g k)(Z0:VT k)(Z8:C.ad k=true)(ZY:3*s.size+3*e.size<=800)(Xj:e.size<=60)(hS:Sw A B w):
  Calls prog 55 #[Zn g,Z9 i,.string s,Z9 n,.string e] w λX1 w'=>X1=.returned (.string (bs (C.cz (C.kg k i) s.data.toList n e.data.toList)))/\Z6 w w':=by
 have Sk:=bx (λW(h:Z6 w W)(t:ByteArray)(ZM:t.size<=800)=>EX A B g k i t W (ZH.below h) Z0 ZM (hS.below h));have Ts:=bx (λW(h:Z6 w W)=>acI g k i W (ZH.below h));have Q1:=bx (λW(h:Z6 w W) v (Z2:Qy W v (C.kg k i))=>apN A B v (C.kg k i) s e n W Z2 Z0.c Z0.d ZY Xj (hS.below h).e (hS.below h).d (hS.below h).g (hS.below h).le);have Ow:=bx (λW(h:Z6 w W)=>wR A B g k s W (ZH.below h) Z0 Z8 (by omega) (hS.below h));have LN:=bx (λW(h:Z6 w W)(t:ByteArray)(ZM:t.size<=800)=>E7 A B t W (by omega) (hS.below h).e (hS.below h).le);have V9:=C.dX (s:=s.data.toList) Z8 (by rw[<-size_eq];omega);have RI:(C.aX (C.kg k i) s.data.toList e.data.toList n).getD 0<=(C.ae k.c s.data.toList).length:=C.fW (C.kg k i) _ _ _;have Kd:=C.ba e.data.toList;rw[<-size_eq]at Kd;clear ZH Z0 Z8 hS
 by_cases c1:C.ah (C.kg k i) s.data.toList<=n
 ·have ZK:=bx (show C.cz (C.kg k i) s.data.toList n e.data.toList=M.fix s.data.toList by unfold C.cz;rw[Y0 c1]);have d1:=Yh c1;have Sk:=bx (Sk.o w YU s (by omega));generalize C.ah (C.kg k i) s.data.toList=m at Sk d1 c1;clear Ts Q1 Ow c1 V9 RI Kd
  go_in
  go_wp2_with fail;refine Y3 Sk.o λZV ZZ=>?_
  have ZW:=bx ZZ;clear ZZ;go_wp2_with fail;refine X7 (LN.o ZV ZW.o s (by omega)) ZW.o λZB Zt=>?_
  go_wp2
  go_ret
  exact⟨by rw[ZK.o];rfl,Zt.o⟩
 have d1:=Yp c1
 by_cases c2:n<C.ah (C.kg k i) e.data.toList
 ·have ZK:=bx (show C.cz (C.kg k i) s.data.toList n e.data.toList=[] by unfold C.cz;rw[Y4 c1,Y0 c2]);have d2:=Yh c2;have uy:=bx (Sk.o w YU s (by omega));have ux:=bx (λW(h:Z6 w W)=>Sk.o W h e (by omega));generalize C.ah (C.kg k i) s.data.toList=m at uy d1 c1;generalize C.ah (C.kg k i) e.data.toList=me at ux d2 c2;clear Sk Ts Q1 Ow LN c1 c2 V9 RI Kd
  go_in
  go_wp2_with fail;refine Y3 uy.o λZV ZZ=>?_
  have ZW:=bx ZZ;clear ZZ;go_wp2_with fail;refine X7 (ux.o ZV ZW.o) ZW.o λZB Zt=>?_
  go_wp2
  go_ret
  exact⟨by rw[ZK.o];rfl,Zt.o⟩
 have d2:=Yp c2;have ZK:=bx (show C.cz (C.kg k i) s.data.toList n e.data.toList=(C.ae k.c s.data.toList |>.take ((C.aX (C.kg k i) s.data.toList e.data.toList n).getD 0)).flatten++M.fix e.data.toList by unfold C.cz;rw[Y4 c1,Y4 c2];rfl);have W4:=bx (show∀q,((C.ae k.c s.data.toList).take q).flatten.length<=800 from λq=>by have:=V9.2 q;rw[<-size_eq]at this;unfold C.headA at this;omega);have ZE:=bx V9.1;have uy:=bx (Sk.o w YU s (by omega));have ux:=bx (λW(h:Z6 w W)=>Sk.o W h e (by omega));have ii:=bx (λW(h:Z6 w W)=>LN.o W h e (by omega));generalize C.ah (C.kg k i) s.data.toList=m at uy d1 c1;generalize C.ah (C.kg k i) e.data.toList=me at ux d2 c2;generalize(C.aX (C.kg k i) s.data.toList e.data.toList n).isSome=Mh at Q1;generalize(C.aX (C.kg k i) s.data.toList e.data.toList n).getD 0=c at Q1 ZK RI;generalize C.b0 (C.kg k i) s.data.toList e.data.toList=we at Q1;generalize C.ae k.c s.data.toList=YJ at Ow ZK W4 ZE RI;obtain⟨TC,abB⟩:∃f,f=M.fix e.data.toList:=⟨_,rfl⟩
 rw[<-abB]at ZK ii Kd;obtain⟨N,z7⟩:∃N,N=YJ.length:=⟨_,rfl⟩
 have SG:=bx z7;rw[<-z7]at RI;have DT:=bx (show TC.length<=800 by omega);have DS:=bx RI;clear Sk LN c1 c2 V9 Kd abB ZY Xj z7
 go_in
 go_wp2_with fail;refine Y3 uy.o λZV ZZ=>?_
 have ZW:=bx ZZ;clear ZZ;go_wp2_with fail;refine X7 (ux.o ZV ZW.o) ZW.o λZB Zt=>?_
 go_wp2_with fail;refine(Ts.o ZB Zt.o).mono ?_;rintro X1 Zh ⟨⟨k2,rfl,ko⟩,Zb⟩;have YY:=Zw Zt Zb;have ajf:=bx (Q1.o Zh YY.o k2 ko);obtain⟨XX,UB,V2,z2,V4,z3,UO,z4,T1,z5,S1,Oe,RY,Od,rfl⟩:=ko.slices;clear ko Q1 Zb;go_wp2_with fail;refine X7 ajf.o YY.o λYL Ye=>?_
 go_wp2_with fail;refine(Ow.o YL Ye.o).mono ?_;rintro X1 YK ⟨⟨Zc,rfl,WJ,-⟩,X0⟩;have X6:=Zw Ye X0;have O6:=bx WJ;obtain⟨Yr,lc,rfl,xJ,BJ⟩:=WJ.slice;rw[<-SG.o]at xJ⊢;clear X0 WJ;have RI:=DS.o;have Xa:=atJ Yr N lc c RI xJ;have akg:=bx (show XC YK (.slice Yr N lc) YJ by have h:=O6.o;rw[<-SG.o]at h;exact h);have aiG:=bx xJ;clear O6 xJ BJ;go_wp2_with fail;refine Vv 8 (λ_=>True) (by kernel_rfl) ?_;have Y9:=bx (show Z6 YK YK.drew from VQ YK 1);have X6:=bx (bt X6.o Y9.o);have o6:=bx (akg.o.below Y9.o);generalize YK.drew=Yl at *;refine Vp [0,1,2,3,4] ?_
 iterate 5 (refine Vq ?_ rfl trivial ?_ ?_;rotate_left;·intro w q1;go_simp;try with_reducible rfl)
 refine Vr ?_;refine Y1 5 rfl λY7 ZX=>?_
 go_simp;refine Y3 (ii.o Yl X6.o) λXA Sy=>?_
 have VN:=Zw X6 Sy;have ET:=bx (show XC XA (.slice Yr c c) (YJ.take c) by have ZI:U8 XA (.slice Yr (YJ.map Vu).length lc) (YJ.map Vu):=by{rw[X4,<-SG.o];exact o6.o.below Sy};have h:=ZI.take c c (by rw[SW];omega) (XJ DS.o aiG.o);rw[SW,X4,<-SG.o,tn DS.o,<-List.map_take]at h;exact h);clear Sy;refine ZX.out _ _ (λ_=>trivial) ?_;clear ZX Y7;refine Y1 6 rfl λY7 ZX=>?_
 go_simp;refine ZX.out _ _ (λ_=>trivial) ?_;clear ZX Y7;refine Y1 7 rfl λY7 ZX=>?_
 refine ate (u:=Vu TC) rfl _ _ 49 rfl Iy ET.o (by rw[X4,SW,<-SG.o];have:=DS.o;omega) (by kernel_rfl) (by kernel_rfl) rfl (by have:=DS.o;have:=ZE.o;have:=SG.o;omega) (by decide) ?_;intro O3 Xi FR Rh;have XM:=Zw VN Rh;have FR:XC Xi O3 (YJ.take c++[TC]):=by unfold XC;rw[T9];exact FR
 have TE:=bx (Cu O3 (YJ.take c++[TC]) Xi FR (by rw[JZ,WR];have:=W4.o c;have:=DT.o;simp only[Bu,List.flatten_nil,L3];omega) (by rw[WR,SW];have:=ZE.o;have:=SG.o;simp only[U3,SK];omega));obtain⟨BV,Nn,rfl,-⟩:=FR.slice;obtain⟨q7,P4⟩:∃q,q=(YJ.take c++[TC]).length:=⟨_,rfl⟩
 rw[<-P4]at TE⊢;clear P4;clear Rh FR;refine ZX.out _ _ (λ_=>trivial) ?_;clear ZX Y7;refine Y1 8 rfl λY7 ZX=>?_
 go_simp;refine X7 TE.o XM.o λ_ Tw=>?_
 refine ZX.out _ _ (λh=>by cases h) ?_;clear ZX Y7;refine Y1 9 rfl λY7 ZX=>?_
 go_simp;refine ZX.out _ _ (λh=>by cases h) ?_;clear ZX Y7;refine kD ?_ _
 go_wp2
 go_ret
 exact⟨by rw[ZK.o] <;> rfl,Tw.o⟩
theorem PO{A:Nat->Addr}{B:Nat}{v:Value}{k:C.Kt}{w:World}(Z2:WZ w v k)(hS:Sw A B w):∃(R2:Array Value)(V:World),v=.agg R2/\R2.size=21/\Box (V=w.alloc (.cells R2 38))/\Box (Z6 w V)/\Box (∀W,Z6 V W->Zv W w.heap.size 38 R2)/\Box (∀W,Z6 w W->WZ W (.agg R2) k)/\Box (∀W,Z6 w W->Sw A B W):=by
 have WL:=bx (λW(h:Z6 w W)=>Z2.below h);obtain⟨ca,XQ,XP,X5,XR,X2,Xr,wp,Xz,Ym,Xp,wf,ZD,bv,wd,lo,ti,c1,c2,g1,g2,rfl,-⟩:=Z2;exact⟨_,_,rfl,rfl,⟨rfl⟩,⟨Xl _ _⟩,⟨λW h=>(Zv.new _ _ _).below h (Zv.new _ _ _).lt⟩,WL,⟨λW h=>hS.below h⟩⟩
theorem JC(W:World)(e:ByteArray)(T:TypeId):XC (W.alloc (.cells #[.string e] T)) (.slice (some ⟨W.heap.size,0,none⟩) 1 1) [e.data.toList]:=by
 have h:=Zv.new W T #[.string e];refine .inr ⟨W.heap.size,0,none,1,rfl,Wq _,by unfold maxLen;omega,λ_=>⟨rfl,h.lt,λi _ Z4=>?_⟩⟩
 cases i with
 |zero=>
  simp only[RG,Pa,Ig,OS]at Z4;subst Z4;exact(h.cell 0).trans rfl
 |succ i=>simp at Z4
theorem ad7(A:Nat->Addr)(B:Nat)(v:Value)(k:C.Kt)(i:Int)(s e:ByteArray)(n:Int)(w:World)(Z2:WZ w v k)(Z0:VT k)(ZY:3*s.size+3*e.size<=800)(Xj:e.size<=60)(hS:Sw A B w)(Z8:C.ad k=true)(W2:¬(i<0\/2<i))(VM:¬(n<0)):
  Calls prog 15 #[v,Z9 i,.string s,Z9 n,.string e] w λX1 w'=>X1=.returned (.tuple #[.string (bs (C.aY k i s.data.toList n e.data.toList)),Z9 (C.aO k i s.data.toList n e.data.toList)])/\Z6 w w':=by
 obtain⟨R2,V,rfl,VS,ZN,ZR,ZF,Yx,Xb⟩:=PO Z2 hS;have WU:=bx (ZR.o.trans ((Xl V (.cells #[.string e] 9)).mono ZR.o.size));have VJ:=bx (λ(Z8:C.ad k=true)(ZY:s.size<=600)(hp:e.size<=60)=>Mj A B _ (.slice (some ⟨V.heap.size,0,none⟩) 1 1) k s [e.data.toList] _ (Yx.o _ WU.o) Z0 (Xb.o _ WU.o) Z8 (JC V e 9) ZY (by simp) (λ_ Zs=>by rw[Pe.1 Zs,<-size_eq];exact hp));have X9:=bx (VJ.o Z8 (by omega) Xj);have EF:C.ar k s.data.toList e.data.toList=0:=C.a6 Z8 (by rw[<-size_eq];omega) (by rw[<-size_eq];omega);have d1:decide (i<0)=false:=Yp (by omega);have d2:decide (2<i)=false:=Yp (by omega);have d3:=Yp VM;have ZK:=bx (show C.aY k i s.data.toList n e.data.toList=C.cz (C.kg k i) s.data.toList n e.data.toList/\C.aO k i s.data.toList n e.data.toList=0 by
  have h:C.aO k i s.data.toList n e.data.toList=0:=by unfold C.aO;rw[Y0 EF,Y4 W2,Y4 VM]
  exact⟨by unfold C.aY;rw[Y0 h],h⟩)
 have Su:=bx (λg W(h:Z6 w W)(ZH:PB W g k)=>aum A B g k i s e n W ZH Z0 Z8 ZY Xj (hS.below h));clear VJ Z8 Z0 hS ZY Xj Yx EF W2 VM;have ZA:=ZF.o V YU
 go_in
 go_upto_region 1 with(fail)
 rw[<-ZN.o];go_wp2_with (refine X8 rfl _ rfl _ rfl ZA VS ?_)
 refine X9.o.mono ?_;rintro X1 ZV ⟨⟨g,rfl,Vk,-⟩,ZZ⟩;have ZW:=Zw WU ZZ;have RC:=bx Vk;clear ZZ Vk ZA;go_wp2_with fail;refine X7 (Su.o g ZV ZW.o RC.o) ZW.o λ_ Zt=>?_
 go_wp2
 go_ret2
 exact⟨by rw[ZK.o.1,ZK.o.2] <;> rfl,Zt.o⟩
theorem grown_below{w ZV ZB:World}{v:Value}(h:Z6 w ZV)(ZH:ZV.grownBy ZB v.ownBlock)(YT:∀g,v.ownBlock=some g->w.heap.size<=g):Z6 w ZB:=
 h.trans ⟨ZH.os,ZH.tape,ZH.output,ZH.size,λk Z3=>ZH.block k (Vh Z3 h.size) (λe=>absurd (YT k e.symm) (by omega))⟩
namespace C
theorem anm{k:Kt}{s:List UInt8}(h:ad k=true)(ZY:s.length<=600):cb k s=(ae k.c s).reverse.flatten/\ar k s []=0:=by
 have ZI:=a6 (s:=s) (e:=[]) h ZY (by simp);exact⟨by unfold cb;rw[Y0 ZI],ZI⟩
theorem anE(l:List (List UInt8)):l.reverse.flatten.length=l.flatten.length:=by
 rw[List.length_flatten,List.length_flatten,List.map_reverse,List.sum_reverse]
end C
theorem afk(A:Nat->Addr)(B:Nat)(v:Value)(k:C.Kt)(s:ByteArray)(w:World)(Z2:WZ w v k)(Z0:VT k)(ZY:s.size<=600)(hS:Sw A B w)(Z8:C.ad k=true):
  Calls prog 22 #[v,.string s] w λX1 w'=>X1=.returned (.tuple #[.string (bs (C.cb k s.data.toList)),Z9 (C.ar k s.data.toList [])])/\Z6 w w':=by
 obtain⟨R2,V,rfl,VS,ZN,ZR,ZF,Yx,Xb⟩:=PO Z2 hS;have WU:=bx ZR.o;have VJ:=bx (λ(Z8:C.ad k=true)(ZY:s.size<=600)=>Mj A B _ Z1 k s [] V (Yx.o V ZR.o) Z0 (Xb.o V ZR.o) Z8 (.inl ⟨rfl,rfl⟩) ZY (by simp) (λ_ hp=>by cases hp));have X9:=bx (VJ.o Z8 ZY);have ZK:=bx (C.anm (s:=s.data.toList) Z8 (by rw[<-size_eq];exact ZY));have Tc:=bx (λg W(h:Z6 w W)(ZH:PB W g k)=>gx A B g k s W ZH Z0 Z8 (by omega) (hS.below h));have V9:=C.dX (s:=s.data.toList) Z8 (by rw[<-size_eq];omega);have ZE:=bx V9.1;have W4:=bx (show(C.ae k.c s.data.toList).flatten.length<=1800 by
  have h:=V9.2 (C.ae k.c s.data.toList).length;unfold C.headA at h;rw[OR,<-size_eq]at h;omega)
 generalize C.ae k.c s.data.toList=YJ at Tc ZE W4 ZK;clear VJ Z8 Z0 hS ZY Yx V9;have ZA:=ZF.o V YU
 go_in
 go_upto_region 1 with(fail)
 rw[<-ZN.o];go_wp2_with (refine X8 rfl _ rfl _ rfl ZA VS ?_)
 refine X9.o.mono ?_;rintro X1 ZV ⟨⟨g,rfl,Vk,-⟩,ZZ⟩;have ZW:=Zw WU ZZ;have RC:=bx Vk;clear ZZ Vk ZA;go_wp2_with fail;refine(Tc.o g ZV ZW.o RC.o).mono ?_;rintro X1 ZB ⟨⟨Zc,rfl,WJ⟩,Zz⟩;have Zt:=Zw ZW Zz;have PR:=bx (λg Zs=>XJ ZW.o.size (WJ.lt g Zs).1);have UL:=bx (akT ZV.heap.size Zc YJ ZB WJ (by have:=ZE.o;omega));obtain⟨Yr,lc,rfl,-⟩:=(XC.au WJ rfl).slice;clear Zz WJ;go_wp2_with fail;refine UL.o.mono ?_;rintro X1 Zh ⟨rfl,agz,Yi⟩;have YY:=bx (grown_below Zt.o Yi PR.o);have TE:=bx (Cu _ YJ.reverse Zh (XC.au agz (by simp)) (by rw[C.anE];have:=W4.o;omega) (by rw[ajd];have:=ZE.o;omega));clear agz Yi;go_wp2_with fail;refine X7 TE.o YY.o λ_ Ye=>?_
 go_wp2
 go_ret2
 exact⟨by rw[ZK.o.1,ZK.o.2] <;> rfl,Ye.o⟩
namespace C
theorem ao6{k:Kt}{s:List UInt8}{a b:Int}(h:ad k=true)(ZY:s.length<=600)(ZL:¬(a<0\/b<a)):bG k s a b=(((ae k.c s).take b.toNat).drop a.toNat).flatten/\bc k s a b=0:=by
 have ZI:bc k s a b=0:=by unfold bc;rw[Y0 (a6 h ZY (by simp)),Y4 ZL]
 exact⟨by unfold bG;rw[Y0 ZI],ZI⟩
theorem ajl{l:List (List UInt8)}{i j:Nat}:((l.take j).drop i).flatten.length<=l.flatten.length:=by
 have h:=congrArg (λx=>x.flatten.length) (I0 j l);have Z5:=congrArg (λx=>x.flatten.length) (I0 i (l.take j));simp only[JZ,WR]at h Z5;omega
theorem auu(l:List (List UInt8))(i j:Nat)(_:i<=j):(l.take (min j l.length)).drop (min i l.length)=(l.take j).drop i:=by
 rw[<-List.take_eq_take_min]
 by_cases hi:i<=l.length
 ·rw[tn hi]
 rw[Nat.min_eq_right (by omega),Gr (by rw[SW];omega),Gr (by rw[SW];omega)]
end C
theorem adh(A:Nat->Addr)(B:Nat)(v:Value)(k:C.Kt)(s:ByteArray)(a b:Int)(w:World)(Z2:WZ w v k)(Z0:VT k)(ZY:s.size<=600)(hS:Sw A B w)(Z8:C.ad k=true)(ZL:¬(a<0\/b<a)):
  Calls prog 24 #[v,.string s,Z9 a,Z9 b] w λX1 w'=>X1=.returned (.tuple #[.string (bs (C.bG k s.data.toList a b)),Z9 (C.bc k s.data.toList a b)])/\Z6 w w':=by
 obtain⟨R2,V,rfl,VS,ZN,ZR,ZF,Yx,Xb⟩:=PO Z2 hS;have WU:=bx ZR.o;have VJ:=bx (λ(Z8:C.ad k=true)(ZY:s.size<=600)=>Mj A B _ Z1 k s [] V (Yx.o V ZR.o) Z0 (Xb.o V ZR.o) Z8 (.inl ⟨rfl,rfl⟩) ZY (by simp) (λ_ hp=>by cases hp));have X9:=bx (VJ.o Z8 ZY);have ZK:=bx (C.ao6 (s:=s.data.toList) Z8 (by rw[<-size_eq];exact ZY) ZL);have Tc:=bx (λg W(h:Z6 w W)(ZH:PB W g k)=>wR A B g k s W ZH Z0 Z8 (by omega) (hS.below h));have V9:=C.dX (s:=s.data.toList) Z8 (by rw[<-size_eq];omega);have ZE:=bx V9.1;have W4:=bx (show(C.ae k.c s.data.toList).flatten.length<=1800 by
  have h:=V9.2 (C.ae k.c s.data.toList).length;unfold C.headA at h;rw[OR,<-size_eq]at h;omega)
 generalize C.ae k.c s.data.toList=YJ at Tc ZE W4 ZK;have d1:decide (a<0)=false:=Yp (by omega);have d2:decide (b<a)=false:=Yp (by omega);obtain⟨f,rfl⟩:∃f:Nat,a=(f:Int):=⟨a.toNat,by omega⟩
 obtain⟨t,rfl⟩:∃t:Nat,b=(t:Int):=⟨b.toNat,by omega⟩
 have zX:f<=t:=by omega
 have JE:=bx zX;rw[RU,RU]at ZK;obtain⟨N,z7⟩:∃N,YJ.length=N:=⟨_,rfl⟩
 have SG:=bx z7;rw[z7]at ZE;clear VJ Z8 Z0 hS ZY Yx V9 ZL z7;have ZA:=ZF.o V YU
 go_in
 go_upto_region 1 with(fail)
 rw[<-ZN.o];go_wp2_with (refine X8 rfl _ rfl _ rfl ZA VS ?_)
 refine X9.o.mono ?_;rintro X1 ZV ⟨⟨g,rfl,Vk,-⟩,ZZ⟩;have ZW:=Zw WU ZZ;have RC:=bx Vk;clear ZZ Vk ZA;go_wp2_with fail;refine(Tc.o g ZV ZW.o RC.o).mono ?_;rintro X1 ZB ⟨⟨Zc,rfl,WJ,-⟩,Zz⟩;have Zt:=Zw ZW Zz;obtain⟨Yr,lc,rfl,-⟩:=WJ.slice;rw[SG.o]at WJ⊢;obtain⟨Y,Xa,VX⟩:=gO Yr N lc (min f N) (min t N) YJ (by omega) (by omega) SG.o (by have:=ZE.o;omega) WJ;have pZ:=VX ZB WJ;rw[<-SG.o,C.auu YJ f t JE.o]at pZ;have TE:=bx (Cu Y _ ZB pZ (by have:=C.ajl (l:=YJ) (i:=f) (j:=t);have:=W4.o;omega) (by rw[Px,SW];have:=ZE.o;have:=SG.o;omega));obtain⟨LR,NJ,rfl,-⟩:=pZ.slice;obtain⟨q7,P4⟩:∃q,q=((YJ.take t).drop f).length:=⟨_,rfl⟩
 rw[<-P4]at TE Xa;clear P4;have Pg:min (f:Int) (N:Int)=((min f N:Nat):Int):=by omega
 have Oo:min (t:Int) (N:Int)=((min t N:Nat):Int):=by omega
 clear Zz WJ VX pZ;go_wp2_with fail;refine X7 TE.o Zt.o λ_ Ye=>?_
 go_wp2
 go_ret2
 exact⟨by rw[ZK.o.1,ZK.o.2] <;> rfl,Ye.o⟩
theorem aeQ(A:Nat->Addr)(B:Nat)(s:ByteArray)(w:World)(ZY:s.size<=100000)(YN:E A B w)(hB:B<=w.heap.size):
  Calls prog 167 #[.string s] w λe w'=>(∃v,e=.returned v/\Y6 w' v (Xw s.data.toList))/\Z6 w w':=by
 have TL:=uH s.data.toList;rw[<-size_eq]at TL;have UL:=bx (E7 A B s w ZY YN hB);have UK:=bx (λW(h:Z6 w W)=>nd A B ⟨(M.fix s.data.toList).toArray⟩ W (by rw[size_mk];omega) (YN.below (h.mono hB)) (XJ hB h.size));have JQ:=bx (Bc s.data.toList);clear YN hB TL
 go_in
 go_wp2_with fail;refine Y3 UL.o λZV ZZ=>?_
 have ZW:=bx ZZ;clear ZZ;go_wp2_with fail;refine(UK.o ZV ZW.o).mono ?_;rintro e ZB ⟨Zz,Pf⟩;rw[toList_mk,JQ.o]at Pf;obtain⟨v2,rfl,V7⟩:=Pf;have Zt:=Zw ZW Zz;have YE:=bx (Y6.au V7 rfl);clear Zz V7
 go_wp2
 go_ret
 exact⟨⟨_,rfl,YE.o⟩,Zt.o⟩
