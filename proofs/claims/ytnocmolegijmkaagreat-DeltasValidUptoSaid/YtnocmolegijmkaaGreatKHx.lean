/- What the printed functions rest on. -/
import Derived.Test.YtnocmolegijmkaaGreatKZs
import Derived.Test.YtnocmolegijmkaaGreatKGk
import Derived.Test.YtnocmolegijmkaaGreatKPl
set_option linter.all false
section

end

section
set_option maxRecDepth 100000
noncomputable section
namespace Go.Proofs.YtnocmolegijmkaaGreat
open Go Go.Bw
abbrev JJ:=ab->Int->Int->Option Int
abbrev EN:=ab->Int->Option Int
abbrev EO:=ab->Int->Option Bool
abbrev JK:=b6->Int->Int->Option Int
abbrev JL:=b6->Int->Int->Int->Option Int
abbrev ER:=b6->Int->Option Int
abbrev ES:=b6->Int->Option Bool
abbrev KA:=List dF->Int->Option Bool
abbrev T8:=bA->b6->List dF->Option Bool
abbrev DS:=Bool->Int->Option Int
abbrev DT:=ai->Option Int
abbrev DU:=ai->Option Int
abbrev DV:=Int->Option Bool
abbrev JM:=List UInt8->Int->Option Bool
abbrev ET:=List UInt8->Option Bool
abbrev JN:=List (List UInt8)->List UInt8->Int->Option Int
abbrev EU:=List (List UInt8)->List UInt8->Option Int
abbrev DW:=List (List UInt8)->List UInt8->Option Bool
abbrev ID:=List (List UInt8)->Int->Option Bool
abbrev DX:=List (List UInt8)->Option Bool
abbrev DY:=List (List UInt8)->List UInt8->Option Bool
abbrev JO:=List (List UInt8)->List (List UInt8)->Int->Option Bool
abbrev EV:=List (List UInt8)->List (List UInt8)->Option Bool
abbrev IE:=ai->Int->Option Int
abbrev IF:=ai->Int->Option Int
abbrev IG:=ai->Int->Int->Option Int
abbrev DZ:=ai->Option Int
abbrev D0:=ai->Option Int
abbrev D1:=ai->Option Bool
abbrev D2:=ai->Option Int
abbrev II:=List Int->Int->Option Int
abbrev D3:=List Int->Option Int
abbrev JP:=ai->Int->Int->cN->Option (Int×cN)
abbrev EW:=cN->ai->Int->Option (Int×cN)
abbrev EX:=ai->Option Int
abbrev EY:=TParam->TParam->Option Bool
abbrev Gb:=List TParam->TParam->Int->Option Int
abbrev Bb:=List TParam->TParam->Option Int
abbrev By:=List TParam->TParam->Option Bool
abbrev JQ:=bA->Int->Option Bool
abbrev EZ:=bA->Option Bool
abbrev E0:=List TParam->ab->Option (af×Bool)
abbrev E1:=Int->Option (Int×Int)
abbrev E2:=Int->Option (List UInt8)
abbrev JR:=ab->List af->List UInt8->List af->Int->Option (af×Bool)
abbrev JS:=ab->List af->List UInt8->List af->Int->Option (af×Bool)
abbrev JT:=List TParam->ab->Bool->Int->List af->Option (af×Bool)
abbrev E3:=List TParam->ab->Option (af×Bool)
abbrev E4:=ai->Option ay
abbrev E5:=Int->Option ay
abbrev E6:=ai->bA->Option ay
abbrev D4:=TParam->af->Option Bool
abbrev FX:=List TParam->af->Int->Option Int
abbrev AN:=List TParam->af->Option Int
abbrev D5:=Int->Int->Option (aU Unit)
abbrev D6:=ay->Option Bool
abbrev D7:=List UInt8->Option Int
abbrev IJ:=List Int->Int->Int->Option Int
abbrev D8:=List Int->Int->Option Int
abbrev D9:=List Int->Int->Option Bool
abbrev D':=List Int->ay->af->Option (aU Unit)
abbrev Eb:=List (List UInt8)->Option (List (List UInt8))
abbrev C3:=List aN->Option (List aN)
abbrev C5:=List ai->Option (List ai)
abbrev IK:=ai->List (List UInt8)->List ai->Int->List ai->List aN->Option ai
abbrev IL:=ai->List (List UInt8)->List aN->Int->List aN->Option ai
abbrev Ec:=ai->Option ai
abbrev Ed:=af->Option Bool
abbrev IM:=List (List UInt8)->List (List UInt8)->Int->Option Bool
abbrev Ee:=List (List UInt8)->List (List UInt8)->Option Bool
abbrev Ef:=aN->aN->Option Bool
abbrev Gc:=List aN->List aN->Int->Option Bool
abbrev Bc:=List aN->List aN->Option Bool
abbrev Eg:=ai->ai->Option Bool
abbrev Gd:=List ai->List ai->Int->Option Bool
abbrev Bd:=List ai->List ai->Option Bool
abbrev E7:=ay->ay->Option Bool
abbrev E8:=bm->af->ay->Option (aU ab)
abbrev Eh:=bm->af->ay->Option (aU ab)
abbrev Ei:=bm->Int->af->ay->ay->ay->Option (aU ab)
abbrev IN:=bm->af->ay->Int->List ab->Option (aU ab)
abbrev IP:=bm->af->ay->Int->List ab->Option (aU ab)
abbrev IQ:=bm->af->ay->Int->List ab->Option (aU ab)
abbrev IS:=bm->af->ay->Int->List ab->Option (aU ab)
abbrev Ej:=bm->af->ay->Option (aU ab)
abbrev IT:=af->ai->List Bool->List ab->Int->Option (aU (List ab))
abbrev IU:=bm->af->ai->List ab->List Bool->Int->Option (aU (List ab))
abbrev Ek:=bm->af->ai->Option (aU (List ab))
abbrev Em:=bm->af->Option (aU ab)
abbrev En:=Int->ay->List Int->bm->af->af->Option (aU ab)
abbrev Eo:=bm->af->af->List Int->Option (aU ab)
abbrev Ep:=bm->af->ay->Option (aU ab)
abbrev Er:=bm->af->af->af->Bool->Option (aU (ab×ab))
abbrev E9:=ai->List TParam->ay->af->Option (ab×dX)
abbrev E':=ab->ab->Option Bool
abbrev G':=List ab->List ab->Int->Option Bool
abbrev BS:=List ab->List ab->Option Bool
abbrev yR:=ai->bA->Option Bool
abbrev Fa:=List TParam->Option (List TParam)
abbrev Fb:=ab->ab->Option Bool
abbrev Ha:=List ab->List ab->Int->Option Bool
abbrev BT:=List ab->List ab->Option Bool
abbrev Fc:=ab->Option ab
abbrev Fe:=ab->Option Bool
abbrev JU:=ab->ab->List ab->Bool->Int->Option ab
abbrev JV:=ab->ab->List ab->Int->Option ab
abbrev Ff:=ab->ab->Option ab
abbrev JW:=ab->Int->List ab->Option ab
abbrev Fg:=ab->Option ab
abbrev T9:=ai->bA->Option (bA×Int)
abbrev IV:=List (List UInt8)->List (List UInt8)->Int->Option Bool
abbrev Es:=List (List UInt8)->List (List UInt8)->Option Bool
abbrev IW:=ai->ai->Int->Option Bool
abbrev IC:=ai->ai->Bool->Int->Option Bool
abbrev Et:=ai->ai->Option Bool
abbrev Fh:=ay->ay->Option Bool
abbrev JC:=ab->ab->Int->Option Bool
abbrev Fi:=ab->ab->Option Bool
abbrev JD:=bA->bA->Int->Option Bool
abbrev yO:=bA->bA->Option Bool
abbrev JE:=ab->Int->Int->Option Int
abbrev yS:=ab->Option Int
abbrev Eu:=Int->Option Bool
abbrev JF:=List UInt8->Int->Option Bool
abbrev Fj:=List UInt8->Option Bool
abbrev Ev:=Int->Option Int
abbrev Ew:=Int->Option (List UInt8)
abbrev JG:=ab->List af->List UInt8->Int->List af->Option (af×Bool)
abbrev JH:=ab->List af->List UInt8->List af->Int->Option (af×Bool)
abbrev JI:=List TParam->ab->Bool->Int->List af->Option (af×Bool)
abbrev Fk:=List TParam->ab->Option (af×Bool)
def zJ:=((((JJ×EN)×(EO×(JK×JL)))×((ER×ES)×(KA×(T8×DS))))×(((DT×DU)×(DV×(JM×ET)))×((JN×EU)×(DW×(ID×DX)))))
def zK:=((((DY×JO)×(EV×(IE×IF)))×((IG×DZ)×(D0×(D1×D2))))×(((II×D3)×(JP×(EW×EX)))×((EY×Gb)×(Bb×(By×JQ)))))
def zN:=((((EZ×E0)×(E1×(E2×JR)))×((JS×JT)×(E3×(E4×E5))))×(((E6×D4)×(FX×(AN×D5)))×((D6×D7)×(IJ×(D8×D9)))))
def zO:=((((D'×Eb)×(C3×(C5×IK)))×((IL×Ec)×(Ed×(IM×Ee))))×(((Ef×Gc)×(Bc×(Eg×Gd)))×((Bd×E7)×(E8×(Eh×Ei)))))
def zQ:=((((IN×IP)×(IQ×(IS×Ej)))×((IT×IU)×(Ek×(Em×En))))×(((Eo×Ep)×(Er×(E9×E')))×((G'×BS)×(yR×(Fa×Fb)))))
def zT:=((((Ha×BT)×(Fc×(Fe×JU)))×((JV×Ff)×(JW×(Fg×T9))))×(((IV×Es)×(IW×(IC×Et)))×((Fh×JC)×(Fi×(JD×yO)))))
def zU:=(((JE×yS)×(Eu×(JF×Fj)))×((Ev×(Ew×JG))×(JH×(JI×Fk))))
instance:PF zJ:=by delta zJ;exact @PF.prod _ _ (@PF.prod _ _ inferInstance inferInstance) (@PF.prod _ _ inferInstance inferInstance)
instance:PF zK:=by delta zK;exact @PF.prod _ _ (@PF.prod _ _ inferInstance inferInstance) (@PF.prod _ _ inferInstance inferInstance)
instance:PF zN:=by delta zN;exact @PF.prod _ _ (@PF.prod _ _ inferInstance inferInstance) (@PF.prod _ _ inferInstance inferInstance)
instance:PF zO:=by delta zO;exact @PF.prod _ _ (@PF.prod _ _ inferInstance inferInstance) (@PF.prod _ _ inferInstance inferInstance)
instance:PF zQ:=by delta zQ;exact @PF.prod _ _ (@PF.prod _ _ inferInstance inferInstance) (@PF.prod _ _ inferInstance inferInstance)
instance:PF zT:=by delta zT;exact @PF.prod _ _ (@PF.prod _ _ inferInstance inferInstance) (@PF.prod _ _ inferInstance inferInstance)
instance:PF zU:=by delta zU;exact @PF.prod _ _ (@PF.prod _ _ inferInstance inferInstance) (@PF.prod _ _ inferInstance inferInstance)
abbrev Us:=((zJ×(zK×zN))×((zO×zQ)×(zT×zU)))
def fy:=(PF.i (D:=Us)).a.a
def fA:=(PF.i (D:=Us)).a.b.a
def fB:=(PF.i (D:=Us)).a.b.b
def fC:=(PF.i (D:=Us)).b.a.a
def fD:=(PF.i (D:=Us)).b.a.b
def fE:=(PF.i (D:=Us)).b.b.a
def ln:=(PF.i (D:=Us)).b.b.b
def oM:=fy.a.a.a.a
def vc:=fy.a.a.a.b
def zj:=fy.a.a.b.a
def tK:=fy.a.a.b.b.a
def tI:=fy.a.a.b.b.b
def vd:=fy.a.b.a.a
def zm:=fy.a.b.a.b
def xT:=fy.a.b.b.a
def u8:=fy.a.b.b.b.a
def bL:=fy.a.b.b.b.b
def uJ:=fy.b.a.a.a
def yy:=fy.b.a.a.b
def yA:=fy.b.a.b.a
def tN:=fy.b.a.b.b.a
def mJ:=fy.b.a.b.b.b
def xx:=fy.b.b.a.a
def sb:=fy.b.b.a.b
def uK:=fy.b.b.b.a
def tc:=fy.b.b.b.b.a
def nQ:=fy.b.b.b.b.b
def nR:=fA.a.a.a.a
def oN:=fA.a.a.a.b
def pO:=fA.a.a.b.a
def wV:=fA.a.a.b.b.a
def wX:=fA.a.a.b.b.b
def kO:=fA.a.b.a.a
def uL:=fA.a.b.a.b
def uM:=fA.a.b.b.a
def pz:=fA.a.b.b.b.a
def uN:=fA.a.b.b.b.b
def lH:=fA.b.a.a.a
def uO:=fA.b.a.a.b
def lL:=fA.b.a.b.a
def sd:=fA.b.a.b.b.a
def ve:=fA.b.a.b.b.b
def Fl:=fA.b.b.a.a
def vM:=fA.b.b.a.b
def wF:=fA.b.b.b.a
def w7:=fA.b.b.b.b.a
def lM:=fA.b.b.b.b.b
def u32:=fB.a.a.a.a
def se:=fB.a.a.a.b
def jm:=fB.a.a.b.a
def lk:=fB.a.a.b.b.a
def jH:=fB.a.a.b.b.b
def il:=fB.a.b.a.a
def gy:=fB.a.b.a.b
def mc:=fB.a.b.b.a
def fR:=fB.a.b.b.b.a
def dU:=fB.a.b.b.b.b
def zr:=fB.b.a.a.a
def Ex:=fB.b.a.a.b
def vI:=fB.b.a.b.a
def wg:=fB.b.a.b.b.a
def ee:=fB.b.a.b.b.b
def pA:=fB.b.b.a.a
def fc:=fB.b.b.a.b
def wZ:=fB.b.b.b.a
def yB:=fB.b.b.b.b.a
def rJ:=fB.b.b.b.b.b
def fX:=fC.a.a.a.a
def uP:=fC.a.a.a.b
def C6:=fC.a.a.b.a
def C':=fC.a.a.b.b.a
def th:=fC.a.a.b.b.b
def tf:=fC.a.b.a.a
def rK:=fC.a.b.a.b
def l5:=fC.a.b.b.a
def w3:=fC.a.b.b.b.a
def uQ:=fC.a.b.b.b.b
def uR:=fC.b.a.a.a
def p6:=fC.b.a.a.b
def wG:=fC.b.a.b.a
def rL:=fC.b.a.b.b.a
def qa:=fC.b.a.b.b.b
def wH:=fC.b.b.a.a
def n9:=fC.b.b.a.b
def cn:=fC.b.b.b.a
def nS:=fC.b.b.b.b.a
def iF:=fC.b.b.b.b.b
def w6:=fD.a.a.a.a
def Bv:=fD.a.a.a.b
def ij:=fD.a.a.b.a
def ke:=fD.a.a.b.b.a
def dM:=fD.a.a.b.b.b
def jC:=fD.a.b.a.a
def lI:=fD.a.b.a.b
def rM:=fD.a.b.b.a
def uS:=fD.a.b.b.b.a
def jM:=fD.a.b.b.b.b
def mE:=fD.b.a.a.a
def yD:=fD.b.a.a.b
def pC:=fD.b.a.b.a
def zt:=fD.b.a.b.b.a
def sf:=fD.b.a.b.b.b
def qn:=fD.b.b.a.a
def xy:=fD.b.b.a.b
def l7:=fD.b.b.b.a
def zw:=fD.b.b.b.b.a
def si:=fD.b.b.b.b.b
def qp:=fE.a.a.a.a
def xz:=fE.a.a.a.b
def pP:=fE.a.a.b.a
def mK:=fE.a.a.b.b.a
def nG:=fE.a.a.b.b.b
def lN:=fE.a.b.a.a
def jo:=fE.a.b.a.b
def oO:=fE.a.b.b.a
def vg:=fE.a.b.b.b.a
def u9:=fE.a.b.b.b.b
def xg:=fE.b.a.a.a
def uT:=fE.b.a.a.b
def oI:=fE.b.a.b.a
def qG:=fE.b.a.b.b.a
def pD:=fE.b.a.b.b.b
def zA:=fE.b.b.a.a
def qT:=fE.b.b.a.b
def pQ:=fE.b.b.b.a
def nH:=fE.b.b.b.b.a
def pG:=fE.b.b.b.b.b
def oP:=ln.a.a.a
def pH:=ln.a.a.b
def yE:=ln.a.b.a
def tQ:=ln.a.b.b.a
def sj:=ln.a.b.b.b
def jN:=ln.b.a.a
def eo:=ln.b.a.b.a
def mr:=ln.b.a.b.b
def lO:=ln.b.b.a
def jI:=ln.b.b.b.a
def oc:=ln.b.b.b.b
abbrev qM (f:Us):JJ:=λb a c=>(bif decide (c<(↑(ab.rows b.Kids).length:Int))then(bif decide (a>=0)then((aA b.Kids c).bind λd=>((vc f d a).bind λe=>(oM f b e (IntKind.i64.wrap (c+1)))))else(some a))else(some a))
abbrev u2 (f:Us):EN:=λb a=>(bif decide (a<1)then(some (-1))else(bif decide ((↑(ab.rows b.Kids).length:Int)>a)then(some (-1))else(oM f b (IntKind.i64.wrap (a-1)) 0)))
abbrev u3 (f:Us):EO:=λa b=>((vc f a b).bind λc=>(some (decide (c>=0))))
abbrev tM (f:Us):JK:=λa c b=>(bif decide (b<(↑(b6.rows a.aB).length:Int))then((aA a.aB b).bind λe=>((vd f e c).bind λd=>(bif decide (d<0)then(some (-1))else(tK f a d (IntKind.i64.wrap (b+1))))))else(some c))
abbrev tJ (f:Us):JL:=λa b d c=>(bif decide (c<(↑(dQ.rows a.Entries).length:Int))then(bif decide (b<1)then(some (-1))else((aA a.Entries c).bind λe=>(bif decide ((↑(eY.rows e.Da).length:Int)>IntKind.i64.wrap (b-1))then(some (-1))else((aA a.Entries c).bind λg=>(tI f a (IntKind.i64.wrap (b-IntKind.i64.wrap (1+(↑(eY.rows g.Da).length:Int)))) d (IntKind.i64.wrap (c+1)))))))else(tK f a b 0))
abbrev u4 (f:Us):ER:=λa b=>(bif decide (b<1)then(some (-1))else(bif decide ((↑(aW a.Names).length:Int)>IntKind.i64.wrap (b-1))then(some (-1))else(tI f a (IntKind.i64.wrap (b-IntKind.i64.wrap (1+(↑(aW a.Names).length:Int)))) 0 0)))
abbrev u5 (f:Us):ES:=λa b=>((vd f a b).bind λc=>(some (decide (c>=0))))
abbrev uc (f:Us):KA:=λa b=>(bif decide (b<(↑(dF.rows a).length:Int))then((aA a b).bind λc=>(bif decide ((↑(aW c.Names).length:Int)>12)then(some false)else(xT f a (IntKind.i64.wrap (b+1)))))else(some true))
abbrev B8 (f:Us):T8:=λa c b=>((zj f a.Body 60).bind λd=>(bif !d then(some false)else((zm f c 40).bind λe=>(bif !e then(some false)else(bif decide ((↑(dF.rows b).length:Int)>12)then(some false)else(bif decide ((↑(TParam.rows a.Params).length:Int)>12)then(some false)else(xT f b 0)))))))
abbrev uv (f:Us):DS:=λa b=>(bif a then(some b)else(some 0))
abbrev rB (f:Us):DT:=λa=>(bif a.Kind==1 then(bif (↑(ai.rows a.aB).length:Int) !=0 then((bL f true 1).bind λb=>(some b))else(bif decide ((↑(aW a.Names).length:Int)>0)then((bL f true 1).bind λc=>(some c))else(bif decide ((↑(aN.rows a.aY).length:Int)>0)then((bL f true 1).bind λd=>(some d))else(bif a.Lo !=0 then((bL f true 1).bind λe=>(some e))else(bif a.Hi !=0 then((bL f true 1).bind λg=>(some g))else((bL f false 1).bind λh=>(some h)))))))else(bif a.Kind==9 then(bif (↑(ai.rows a.aB).length:Int) !=0 then((bL f true 1).bind λi=>(some i))else(bif decide ((↑(aW a.Names).length:Int)>0)then((bL f true 1).bind λj=>(some j))else(bif decide ((↑(aN.rows a.aY).length:Int)>0)then((bL f true 1).bind λk=>(some k))else(bif a.Lo !=0 then((bL f true 1).bind λl=>(some l))else(bif a.Hi !=0 then((bL f true 1).bind λm=>(some m))else((bL f false 1).bind λn=>(some n)))))))else(bif a.Kind==2 then(bif (↑(ai.rows a.aB).length:Int) !=0 then((bL f true 1).bind λo=>(some o))else(bif decide ((↑(aW a.Names).length:Int)>0)then((bL f true 1).bind λp=>(some p))else(bif decide ((↑(aN.rows a.aY).length:Int)>0)then((bL f true 1).bind λq=>(some q))else((bL f false 1).bind λr=>(some r)))))else(bif a.Kind==3 then(bif (↑(ai.rows a.aB).length:Int) !=0 then((bL f true 1).bind λs=>(some s))else(bif decide ((↑(aW a.Names).length:Int)>0)then((bL f true 1).bind λt=>(some t))else(bif decide ((↑(aN.rows a.aY).length:Int)>0)then((bL f true 1).bind λu=>(some u))else((bL f false 1).bind λv=>(some v)))))else(bif a.Kind==4 then(bif (↑(ai.rows a.aB).length:Int) !=0 then((bL f true 1).bind λw=>(some w))else(bif decide ((↑(aN.rows a.aY).length:Int)>0)then((bL f true 1).bind λx=>(some x))else(bif a.Lo !=0 then((bL f true 1).bind λy=>(some y))else(bif a.Hi !=0 then((bL f true 1).bind λz=>(some z))else((bL f false 1).bind λA=>(some A))))))else(bif a.Kind==8 then(bif (↑(ai.rows a.aB).length:Int) !=0 then((bL f true 1).bind λB=>(some B))else(bif decide ((↑(aN.rows a.aY).length:Int)>0)then((bL f true 1).bind λC=>(some C))else(bif a.Lo !=0 then((bL f true 1).bind λD=>(some D))else(bif a.Hi !=0 then((bL f true 1).bind λE=>(some E))else((bL f false 1).bind λF=>(some F))))))else(bif a.Kind==5 then(bif (↑(ai.rows a.aB).length:Int) !=1 then((bL f true 1).bind λG=>(some G))else(bif decide ((↑(aN.rows a.aY).length:Int)>0)then((bL f true 1).bind λH=>(some H))else(bif a.Lo !=0 then((bL f true 1).bind λJ=>(some J))else(bif a.Hi !=0 then((bL f true 1).bind λK=>(some K))else((bL f false 1).bind λL=>(some L))))))else(bif a.Kind==7 then(bif (↑(ai.rows a.aB).length:Int) !=2 then((bL f true 1).bind λM=>(some M))else(bif decide ((↑(aW a.Names).length:Int)>0)then((bL f true 1).bind λN=>(some N))else(bif decide ((↑(aN.rows a.aY).length:Int)>0)then((bL f true 1).bind λO=>(some O))else(bif a.Lo !=0 then((bL f true 1).bind λP=>(some P))else(bif a.Hi !=0 then((bL f true 1).bind λQ=>(some Q))else((bL f false 1).bind λR=>(some R)))))))else(bif a.Kind==6 then(bif (↑(ai.rows a.aB).length:Int) !=(↑(aW a.Names).length:Int)then((bL f true 1).bind λS=>(some S))else(bif decide ((↑(aN.rows a.aY).length:Int)>0)then((bL f true 1).bind λT=>(some T))else(bif a.Lo !=0 then((bL f true 1).bind λU=>(some U))else(bif a.Hi !=0 then((bL f true 1).bind λV=>(some V))else((bL f ((↑(aW a.Names).length:Int)==0) 1).bind λW=>(some W))))))else(bif a.Kind==10 then(bif (↑(ai.rows a.aB).length:Int) !=0 then((bL f true 1).bind λX=>(some X))else(bif a.Lo !=0 then((bL f true 1).bind λY=>(some Y))else(bif a.Hi !=0 then((bL f true 1).bind λZ=>(some Z))else((bL f ((↑(aW a.Names).length:Int)==0) 1).bind λy100=>(some y100)))))else(some 1)))))))))))
abbrev uw (f:Us):DU:=λa=>(bif a.Kind==6 then(bif decide ((↑(aW a.Names).length:Int)>8)then((bL f true 6).bind λb=>(some b))else((bL f (decide ((↑(aN.rows a.aY).length:Int)>32)) 6).bind λc=>(some c)))else(bif a.Kind==10 then(bif decide ((↑(aW a.Names).length:Int)>12)then((bL f true 6).bind λd=>(some d))else((bL f (decide ((↑(aN.rows a.aY).length:Int)>32)) 6).bind λe=>(some e)))else(bif decide ((↑(aW a.Names).length:Int)>32)then((bL f true 6).bind λg=>(some g))else((bL f (decide ((↑(aN.rows a.aY).length:Int)>32)) 6).bind λh=>(some h)))))
abbrev ux (f:Us):DV:=λa=>(bif decide (97<=a)then(bif decide (a<=122)then(some true)else(bif decide (48<=a)then(bif decide (a<=57)then(some true)else(some (a==45)))else(some (a==45))))else(bif decide (48<=a)then(bif decide (a<=57)then(some true)else(some (a==45)))else(some (a==45))))
abbrev qN (f:Us):JM:=λa b=>(bif decide (b<(↑a.length:Int))then((aA (a:List UInt8) b).bind λc=>((yA f ((↑c.toNat:Int))).bind λd=>(bif !d then(some false)else(tN f a (IntKind.i64.wrap (b+1))))))else(some true))
abbrev u6 (f:Us):ET:=λa=>(bif (↑a.length:Int)==0 then(some false)else(bif decide ((↑a.length:Int)>16)then(some false)else((aA (a:List UInt8) 0).bind λb=>(bif decide ((↑b.toNat:Int)<97)then(some false)else((aA (a:List UInt8) 0).bind λc=>(bif decide ((↑c.toNat:Int)>122)then(some false)else(tN f a 0)))))))
abbrev qO (f:Us):JN:=λb c a=>(bif decide (a<(↑(aW b).length:Int))then((aA b a).bind λd=>(bif c==d then(some a)else(xx f b c (IntKind.i64.wrap (a+1)))))else(some (-1)))
abbrev rY (f:Us):EU:=λa b=>(xx f a b 0)
abbrev uy (f:Us):DW:=λa b=>((sb f a b).bind λc=>(some (decide (c>=0))))
abbrev oH (f:Us):ID:=λa b=>(bif decide (b<(↑(aW a).length:Int))then((aA a (IntKind.i64.wrap (b-1))).bind λc=>((aA a b).bind λd=>(bif !Op.bytesLess c d then(some false)else(tc f a (IntKind.i64.wrap (b+1))))))else(some true))
abbrev rC (f:Us):DX:=λa=>(tc f a 1)
abbrev uz (f:Us):DY:=λa b=>((uK f a b).bind λc=>(some c))
abbrev qP (f:Us):JO:=λa c b=>(bif decide (b<(↑(aW a).length:Int))then((aA a b).bind λd=>((nR f c d).bind λe=>(bif !e then(some false)else(oN f a c (IntKind.i64.wrap (b+1))))))else(some true))
abbrev rZ (f:Us):EV:=λa b=>(oN f a b 0)
abbrev wW (f:Us):IE:=λa c=>(bif decide (c<(↑(aN.rows a.aY).length:Int))then((aA a.aY c).bind λb=>(bif (↑(aW b.If).length:Int)==0 then(some 3)else((nQ f b.If).bind λd=>(bif !d then(some 3)else((pO f b.If a.Names).bind λe=>(bif !e then(some 3)else((nR f a.Names b.fO).bind λg=>(bif !g then(some 3)else(wV f a (IntKind.i64.wrap (c+1)))))))))))else(some 0))
abbrev wY (f:Us):IF:=λa c=>(bif decide (c<(↑(aN.rows a.aY).length:Int))then((aA a.aY c).bind λb=>(bif (↑(aW b.If).length:Int)==0 then(some 3)else((nQ f b.If).bind λd=>(bif !d then(some 3)else((pO f b.If a.Names).bind λe=>(bif !e then(some 3)else((nR f a.Names b.fO).bind λg=>(bif !g then(some 3)else(wX f a (IntKind.i64.wrap (c+1)))))))))))else(some 0))
abbrev ng (f:Us):IG:=λa c b=>(bif decide (b<(↑(aW a.Names).length:Int))then((aA a.Names b).bind λd=>((mJ f d).bind λe=>(bif !e then(some 3)else(bif a.Kind==6 then((oW a.Names 0 b).bind λg=>((uK f g d).bind λh=>(bif h then(some 3)else(kO f a c (IntKind.i64.wrap (b+1))))))else(kO f a c (IntKind.i64.wrap (b+1)))))))else(bif a.Kind !=6 then((nQ f a.Names).bind λi=>(bif !i then(some 3)else(wV f a 0)))else(wX f a 0)))
abbrev pw (f:Us):DZ:=λa=>(kO f a 0 0)
abbrev rD (f:Us):D0:=λa=>(bif decide (a.Lo>a.Hi)then((bL f true 5).bind λb=>(some b))else(bif decide (a.Lo< -1000000000)then((bL f true 5).bind λc=>(some c))else(bif decide (a.Lo>1000000000)then((bL f true 5).bind λd=>(some d))else(bif decide (a.Hi< -1000000000)then((bL f true 5).bind λe=>(some e))else((bL f (decide (a.Hi>1000000000)) 5).bind λg=>(some g))))))
abbrev px (f:Us):D1:=λa=>(bif a.Kind==1 then(some true)else(bif a.Kind==2 then(some true)else(bif a.Kind==3 then(some true)else(bif a.Kind==7 then(bif (↑(ai.rows a.aB).length:Int)==2 then((aA a.aB 0).bind λb=>((pz f b).bind λc=>(bif c then((aA a.aB 1).bind λd=>((pz f d).bind λe=>(some e)))else(some false))))else(some false))else(some false)))))
abbrev rE (f:Us):D2:=λa=>(bif a.Kind==7 then((aA a.aB 0).bind λb=>((pz f b).bind λc=>((bL f (!c) 4).bind λd=>(some d))))else((bL f false 4).bind λe=>(some e)))
abbrev nh (f:Us):II:=λa b=>(bif decide (b<(↑(dL IntKind.i64 a).length:Int))then((aA a b).bind λc=>(bif c !=0 then(some c)else(lH f a (IntKind.i64.wrap (b+1)))))else(some 0))
abbrev py (f:Us):D3:=λa=>(lH f a 0)
abbrev nB (f:Us):JP:=λb d c e=>(bif decide (c<(↑(ai.rows b.aB).length:Int))then((aA b.aB c).bind λg=>((sd f e g (IntKind.i64.wrap (d+1))).bind λa=>(bif a.fst !=0 then(some (a.fst,a.snd))else(lL f b d (IntKind.i64.wrap (c+1)) a.snd))))else(some (0,e)))
abbrev r6 (f:Us):EW:=λa b c=>(bif decide (c>6)then(some (6,a))else(bif decide (a.nodes>=64)then(some (6,a))else((uJ f b).bind λd=>(bif d !=0 then(some (d,({nodes:=IntKind.i64.wrap (a.nodes+1):cN})))else((yy f b).bind λg=>((uL f b).bind λh=>((uM f b).bind λi=>((uN f b).bind λj=>((uO f ([g,h,i,j])).bind λe=>(bif e !=0 then(some (e,({nodes:=IntKind.i64.wrap (a.nodes+1):cN})))else(lL f b c 0 ({nodes:=IntKind.i64.wrap (a.nodes+1):cN}))))))))))))
abbrev r7 (f:Us):EX:=λa=>((sd f cN.z a 1).bind λb=>(some b.fst))
abbrev u7 (f:Us):EY:=λa b=>(some (a.Name==b.Name))
abbrev p5 (f:Us):Gb:=λb c a=>(bif decide (a<(↑(TParam.rows b).length:Int))then((aA b a).bind λd=>((Fl f d c).bind λe=>(bif e then(some a)else(vM f b c (IntKind.i64.wrap (a+1))))))else(some (-1)))
abbrev qx (f:Us):Bb:=λa b=>(vM f a b 0)
abbrev te (f:Us):By:=λa b=>((wF f a b).bind λc=>(some (decide (c>=0))))
abbrev nC (f:Us):JQ:=λa b=>(bif decide (b<(↑(TParam.rows a.Params).length:Int))then((aA a.Params b).bind λc=>((mJ f c.Name).bind λd=>(bif !d then(some false)else(bif decide (c.aL<1)then(some false)else(bif decide (c.aL>4)then(some false)else((oW a.Params 0 b).bind λe=>((w7 f e c).bind λg=>(bif g then(some false)else(lM f a (IntKind.i64.wrap (b+1)))))))))))else(some true))
abbrev r8 (f:Us):EZ:=λa=>((mJ f a.Name).bind λb=>(bif !b then(some false)else((mJ f a.On).bind λc=>(bif !c then(some false)else(bif decide ((↑(TParam.rows a.Params).length:Int)>8)then(some false)else(bif decide (a.Result<0)then(some false)else(bif decide (a.Result>4)then(some false)else(lM f a 0))))))))
abbrev lj (f:Us):E0:=λb a=>(bif decide ((↑(ab.rows a.Kids).length:Int)>0)then(some ((⟨0,[],0,a.At,[]⟩,false)))else(bif a.Op==1 then(bif decide (-1000000000000000<=a.N)then(bif decide (a.N<=1000000000000000)then(some ((⟨44,[],a.N,a.At,[]⟩,true)))else(some ((⟨0,[],0,a.At,[]⟩,false))))else(some ((⟨0,[],0,a.At,[]⟩,false))))else(bif a.Op==2 then(bif a.N==1 then(some ((⟨45,[],0,a.At,[]⟩,true)))else(bif a.N==0 then(some ((⟨46,[],0,a.At,[]⟩,true)))else(some ((⟨0,[],0,a.At,[]⟩,false)))))else(bif a.Op==3 then((mJ f a.Text).bind λc=>(bif c then(some ((⟨47,a.Text,0,a.At,[]⟩,true)))else(some ((⟨0,[],0,a.At,[]⟩,false)))))else(bif a.Op==4 then(bif decide (0<=a.N)then(bif decide (a.N<(↑(TParam.rows b).length:Int))then((aA b a.N).bind λd=>(some ((⟨48,d.Name,0,a.At,[]⟩,true))))else(some ((⟨0,[],0,a.At,[]⟩,false))))else(some ((⟨0,[],0,a.At,[]⟩,false))))else(some ((⟨0,[],0,a.At,[]⟩,false))))))))
abbrev iK (f:Us):E1:=λa=>(bif a==7 then(some ((30,3)))else(bif a==8 then(some ((31,2)))else(bif a==9 then(some ((32,2)))else(bif a==10 then(some ((33,1)))else(bif a==11 then(some ((34,2)))else(bif a==12 then(some ((35,2)))else(bif a==13 then(some ((36,2)))else(bif a==14 then(some ((37,2)))else(bif a==15 then(some ((38,2)))else(bif a==16 then(some ((39,2)))else(bif a==17 then(some ((40,2)))else(bif a==18 then(some ((41,2)))else(bif a==20 then(some ((43,2)))else(bif a==19 then(some ((42,1)))else(bif a==5 then(some ((49,0)))else(bif a==6 then(some ((50,0)))else(some ((0,0)))))))))))))))))))
abbrev pM (f:Us):E2:=λa=>(bif a==21 then(some ([102,108,97,103]))else(bif a==22 then(some ([110,117,109]))else(bif a==23 then(some ([115,101,116]))else(bif a==24 then(some ([109,97,112]))else(bif a==25 then(some ([114,101,99]))else(bif a==26 then(some ([112,97,105,114]))else(bif a==27 then(some ([111,110,101]))else(bif a==28 then(some ([119,114,105,116,101]))else(bif a==29 then(some ([115,105,122,101]))else(bif a==30 then(some ([115,117,109]))else(bif a==31 then(some ([110,117,109,98,101,114]))else(bif a==32 then(some ([111,110]))else(bif a==33 then(some ([107,101,121,115]))else(bif a==34 then(some ([118,97,108,117,101,115]))else(bif a==35 then(some ([102,105,114,115,116]))else(bif a==36 then(some ([115,101,99,111,110,100]))else(bif a==37 then(some ([99,111,110,102,108,105,99,116]))else(some ([])))))))))))))))))))
abbrev nE (f:Us):JR:=λd a e c b=>(bif decide (b<(↑(af.rows a).length:Int))then((aA a b).bind λg=>((aA a (IntKind.i64.wrap (b+1))).bind λh=>(bif decide (((c:List af)++([⟨52,[],0,0,[g,h]⟩]:List af)).length<=274877906944)then(jH f d a e (c++[⟨52,[],0,0,[g,h]⟩]) (IntKind.i64.wrap (b+2)))else none)))else(some ((⟨51,e,0,d.At,c⟩,true))))
abbrev nF (f:Us):JS:=λa e g c b=>(bif decide (b<(↑(af.rows e).length:Int))then((aA e b).bind λd=>(bif d.Kind !=50 then((aA a.aq.aw.Names b).bind λh=>(bif decide (((c:List af)++([⟨52,h,0,0,[d]⟩]:List af)).length<=274877906944)then(il f a e g (c++[⟨52,h,0,0,[d]⟩]) (IntKind.i64.wrap (b+1)))else none))else(bif d.At !=a.At then((aA a.aq.aw.Names b).bind λi=>(bif decide (((c:List af)++([⟨52,i,0,0,[d]⟩]:List af)).length<=274877906944)then(il f a e g (c++[⟨52,i,0,0,[d]⟩]) (IntKind.i64.wrap (b+1)))else none))else(il f a e g c (IntKind.i64.wrap (b+1))))))else(some ((⟨51,g,0,a.At,c⟩,true))))
abbrev nD (f:Us):JT:=λg a j e b=>(bif decide (e<(↑(ab.rows a.Kids).length:Int))then((aA a.Kids e).bind λk=>((mc f g k).bind λh=>(bif !h.snd then(some ((⟨0,[],0,a.At,b⟩,false)))else(bif decide (((b:List af)++([af.z]:List af)).length<=274877906944)then((aA (b++[af.z]) ((↑(af.rows b).length:Int))).bind λm=>(gy f g a j (IntKind.i64.wrap (e+1)) ((b++[af.z]).set (↑(af.rows b).length:Int).toNat h.fst)))else none))))else((jm f a.Op).bind λc=>(bif c.fst !=0 then(bif c.snd !=(↑(ab.rows a.Kids).length:Int)then(some ((⟨c.fst,[],0,a.At,b⟩,false)))else(bif c.fst==42 then((aA a.Kids 0).bind λi=>(bif decide (a.N<0)then(some ((⟨c.fst,[],0,a.At,b⟩,false)))else(bif decide (a.N>=(↑(aW i.aq.aw.Names).length:Int))then(some ((⟨c.fst,[],0,a.At,b⟩,false)))else((aA i.aq.aw.Names a.N).bind λl=>(some ((⟨c.fst,l,0,a.At,b⟩,true)))))))else(some ((⟨c.fst,[],0,a.At,b⟩,true)))))else((lk f a.Op).bind λd=>(bif a.Op==24 then(bif (↑(af.rows b).length:Int).tmod 2 !=0 then(some ((⟨51,d,0,a.At,b⟩,false)))else(jH f a b d ([]) 0))else(bif a.Op==25 then(bif (↑(aW a.aq.aw.Names).length:Int) !=(↑(af.rows b).length:Int)then(some ((⟨51,d,0,a.At,b⟩,false)))else(il f a b d ([]) 0))else(some ((⟨51,d,0,a.At,b⟩,!d==[])))))))))
abbrev pN (f:Us):E3:=λa b=>((se f a b).bind λc=>(bif c.snd then(some ((c.fst,true)))else(gy f a b false 0 ([]))))
abbrev zf (f:Us):E4:=λa=>(some ({aL:=0,aw:=a:ay}))
abbrev zh (f:Us):E5:=λa=>(some ({aL:=a,aw:=ai.z:ay}))
abbrev va (f:Us):E6:=λb a=>(bif a.Result==0 then((fR f b).bind λc=>(some c))else((dU f a.Result).bind λd=>(some d)))
abbrev uA (f:Us):D4:=λa b=>(some (a.Name==b.Text))
abbrev p3 (f:Us):FX:=λb c a=>(bif decide (a<(↑(TParam.rows b).length:Int))then((aA b a).bind λd=>((Ex f d c).bind λe=>(bif e then(some a)else(vI f b c (IntKind.i64.wrap (a+1))))))else(some (-1)))
abbrev qm (f:Us):AN:=λa b=>(vI f a b 0)
abbrev uB (f:Us):D5:=λa b=>(some (.aJ (AV.bd 75 (AV.agg (AV.v (Value.int IntKind.i64 a)::AV.v (Value.int IntKind.i64 b)::List.map AV.v [])))))
abbrev uC (f:Us):D6:=λa=>(bif a.aL==0 then(some (a.aw.Kind==0))else(some false))
abbrev eM (f:Us):D7:=λa=>(bif a==[115,101,116]then(some (-1))else(bif a==[109,97,112]then(some (-1))else(bif a==[114,101,99]then(some (-1))else(bif a==[119,114,105,116,101]then(some 3)else(bif a==[112,97,105,114]then(some 2)else(some 1))))))
abbrev qC (f:Us):IJ:=λb c a=>(bif decide (a<(↑(dL IntKind.i64 b).length:Int))then((aA b a).bind λd=>(bif c==d then(some a)else(wZ f b c (IntKind.i64.wrap (a+1)))))else(some (-1)))
abbrev rF (f:Us):D8:=λa b=>(wZ f a b 0)
abbrev uD (f:Us):D9:=λa b=>((yB f a b).bind λc=>(some (decide (c>=0))))
abbrev rG (f:Us):D':=λc a b=>(bif a.aL !=0 then(aF (ee f 4 b.At) λ_=>none)else((rJ f c a.aw.Kind).bind λd=>(bif !d then(aF (ee f 4 b.At) λ_=>none)else(some (.ret (()))))))
abbrev uE (f:Us):Eb:=λa=>(bif decide ((([]:List (List UInt8))++(a:List (List UInt8))).length<=274877906944)then(some ([]++a))else none)
abbrev ue (f:Us):C3:=λa=>(bif decide ((([]:List aN)++(a:List aN)).length<=274877906944)then(some ([]++a))else none)
abbrev uf (f:Us):C5:=λa=>(bif decide ((([]:List ai)++(a:List ai)).length<=274877906944)then(some ([]++a))else none)
abbrev qE (f:Us):IK:=λb d e a c g=>(bif decide (a<(↑(ai.rows e).length:Int))then((aA c a).bind λh=>((rK f h).bind λi=>((aA c a).bind λj=>(th f b d e (IntKind.i64.wrap (a+1)) (c.set a.toNat i) g))))else(some (⟨b.Kind,b.Lo,b.Hi,d,c,g⟩)))
abbrev qD (f:Us):IL:=λc d e a b=>(bif decide (a<(↑(aN.rows e).length:Int))then((aA b a).bind λh=>((uP f h.If).bind λi=>((aA b a).bind λj=>(tf f c d e (IntKind.i64.wrap (a+1)) (b.set a.toNat {If:=i,fO:=j.fO:aN})))))else((C' f c.aB).bind λg=>(th f c d g 0 g b)))
abbrev uF (f:Us):Ec:=λa=>((uP f a.Names).bind λc=>((C6 f a.aY).bind λb=>(tf f a c b 0 b)))
abbrev rH (f:Us):Ed:=λa=>(bif a.Kind==50 then(some true)else(bif a.Kind==51 then(bif a.Text==[102,108,97,103]then(some true)else(bif a.Text==[110,117,109]then(some true)else(bif a.Text==[115,101,116]then(some true)else(bif a.Text==[109,97,112]then(some true)else(bif a.Text==[114,101,99]then(some true)else(bif a.Text==[112,97,105,114]then(some true)else(bif a.Text==[111,110,101]then(some true)else(some false))))))))else(bif a.Kind==39 then((aA a.Kids 0).bind λb=>((l5 f b).bind λc=>(bif c then((aA a.Kids 1).bind λd=>((l5 f d).bind λe=>(some e)))else(some false))))else(bif a.Kind==30 then((aA a.Kids 1).bind λg=>((l5 f g).bind λh=>(bif h then((aA a.Kids 2).bind λi=>((l5 f i).bind λj=>(some j)))else(some false))))else(some false)))))
abbrev w5 (f:Us):IM:=λb c a=>(bif decide (a<(↑(aW b).length:Int))then((aA b a).bind λd=>((aA c a).bind λe=>(bif !d==e then(some false)else(w3 f b c (IntKind.i64.wrap (a+1))))))else(some true))
abbrev yn (f:Us):Ee:=λa b=>(bif (↑(aW a).length:Int) !=(↑(aW b).length:Int)then(some false)else(w3 f a b 0))
abbrev uG (f:Us):Ef:=λa b=>(bif a.fO==b.fO then((uQ f a.If b.If).bind λc=>(some c))else(some false))
abbrev p7 (f:Us):Gc:=λb c a=>(bif decide (a<(↑(aN.rows b).length:Int))then((aA b a).bind λd=>((aA c a).bind λe=>((uR f d e).bind λg=>(bif !g then(some false)else(p6 f b c (IntKind.i64.wrap (a+1)))))))else(some true))
abbrev sT (f:Us):Bc:=λa b=>(bif (↑(aN.rows a).length:Int) !=(↑(aN.rows b).length:Int)then(some false)else(p6 f a b 0))
abbrev uH (f:Us):Eg:=λa b=>(bif a.Kind==b.Kind then(bif a.Lo==b.Lo then(bif a.Hi==b.Hi then((uQ f a.Names b.Names).bind λc=>(bif c then((wG f a.aY b.aY).bind λd=>(bif d then((wH f a.aB b.aB).bind λe=>(some e))else(some false)))else(some false)))else(some false))else(some false))else(some false))
abbrev qb (f:Us):Gd:=λb c a=>(bif decide (a<(↑(ai.rows b).length:Int))then((aA b a).bind λd=>((aA c a).bind λe=>((rL f d e).bind λg=>(bif !g then(some false)else(qa f b c (IntKind.i64.wrap (a+1)))))))else(some true))
abbrev sU (f:Us):Bd:=λa b=>(bif (↑(ai.rows a).length:Int) !=(↑(ai.rows b).length:Int)then(some false)else(qa f a b 0))
abbrev vb (f:Us):E7:=λa b=>(bif a.aL==b.aL then((rL f a.aw b.aw).bind λc=>(some c))else(some false))
abbrev r9 (f:Us):E8:=λe b c=>(aF (nS f e b c) λa=>((rK f a.aq.aw).bind λd=>((pA f c).bind λg=>(bif !g then((n9 f c ({aL:=a.aq.aL,aw:=d:ay})).bind λh=>(bif !h then(aF (ee f 4 b.At) λ_=>none)else(some (.ret (⟨a.Op,{aL:=a.aq.aL,aw:=d:ay},a.N,a.Text,b.At,a.Kids⟩)))))else(some (.ret (⟨a.Op,{aL:=a.aq.aL,aw:=d:ay},a.N,a.Text,b.At,a.Kids⟩)))))))
abbrev dC (f:Us):Eh:=λb a e=>((dU f 2).bind λc=>((dU f 1).bind λd=>((dU f 3).bind λh=>(bif a.Kind==44 then(some (.ret (⟨1,d,a.N,[],0,[]⟩)))else(bif a.Kind==45 then(some (.ret (⟨2,c,1,[],0,[]⟩)))else(bif a.Kind==46 then(some (.ret (⟨2,c,0,[],0,[]⟩)))else(bif a.Kind==47 then(some (.ret (⟨3,h,0,a.Text,0,[]⟩)))else(bif a.Kind==48 then((wg f b.params a).bind λg=>(bif decide (g<0)then(aF (ee f 3 a.At) λ_=>none)else((aA b.params g).bind λi=>((dU f i.aL).bind λj=>(some (.ret (⟨4,j,g,[],0,[]⟩)))))))else(bif a.Kind==49 then((fR f b.l).bind λk=>(some (.ret (⟨5,k,0,[],0,[]⟩))))else(bif a.Kind==50 then(bif e.aL !=0 then(aF (ee f 4 a.At) λ_=>none)else((pA f e).bind λm=>(bif m then(aF (ee f 4 a.At) λ_=>none)else(some (.ret (⟨6,e,0,[],0,[]⟩))))))else(bif a.Kind==31 then(aF (iF f b 8 a c c c) λn=>(some (.ret n)))else(bif a.Kind==32 then(aF (iF f b 9 a c c c) λo=>(some (.ret o)))else(bif a.Kind==33 then((aA a.Kids 0).bind λp=>(aF (cn f b p c) λq=>(some (.ret (⟨10,c,0,[],0,[q]⟩)))))else(bif a.Kind==34 then(aF (iF f b 11 a d d c) λr=>(some (.ret r)))else(bif a.Kind==35 then(aF (iF f b 12 a d d c) λs=>(some (.ret s)))else(bif a.Kind==37 then((dU f 4).bind λt=>(aF (iF f b 14 a h t c) λu=>(some (.ret u))))else(bif a.Kind==40 then(aF (iF f b 17 a d d d) λv=>(some (.ret v)))else(bif a.Kind==41 then(aF (iF f b 18 a d d d) λw=>(some (.ret w)))else(bif a.Kind==51 then(aF (dM f b a e) λx=>(some (.ret x)))else(aF (yD f b a e) λy=>(some (.ret y))))))))))))))))))))))
abbrev rI (f:Us):Ei:=λa c b d e g=>((aA b.Kids 0).bind λh=>(aF (cn f a h d) λi=>((aA b.Kids 1).bind λj=>(aF (cn f a j e) λk=>(some (.ret (⟨c,g,0,[],0,[i,k]⟩)))))))
abbrev Bu (f:Us):IN:=λd b e c a=>(bif decide (c<(↑(af.rows b.Kids).length:Int))then((aA b.Kids c).bind λh=>(aF (cn f d h ay.z) λg=>(bif decide (((a:List ab)++([ab.z]:List ab)).length<=274877906944)then((aA (a++[ab.z]) ((↑(ab.rows a).length:Int))).bind λj=>((aA ((a++[ab.z]).set (↑(ab.rows a).length:Int).toNat g) (IntKind.i64.wrap ((↑(ab.rows a++ab.rows [ab.z]).length:Int)-1))).bind λi=>(bif i.aq.aL !=3 then(bif i.aq.aL !=4 then(aF (ee f 4 h.At) λ_=>none)else(w6 f d b e (IntKind.i64.wrap (c+1)) ((a++[ab.z]).set (↑(ab.rows a).length:Int).toNat g)))else(w6 f d b e (IntKind.i64.wrap (c+1)) ((a++[ab.z]).set (↑(ab.rows a).length:Int).toNat g)))))else none)))else(some (.ret (⟨23,e,0,[],0,a⟩))))
abbrev Bx (f:Us):IP:=λb c d e a=>(bif decide (e<(↑(af.rows c.Kids).length:Int))then((aA c.Kids e).bind λh=>((aA h.Kids 0).bind λi=>((dU f 3).bind λj=>(aF (cn f b i j) λg=>(bif decide (((a:List ab)++([ab.z]:List ab)).length<=274877906944)then((aA (a++[ab.z]) ((↑(ab.rows a).length:Int))).bind λo=>((aA h.Kids 1).bind λk=>((aA d.aw.aB 0).bind λl=>((fR f l).bind λm=>(aF (cn f b k m) λn=>(bif decide ((((a++[ab.z]).set (↑(ab.rows a).length:Int).toNat g:List ab)++([ab.z]:List ab)).length<=274877906944)then((aA ((a++[ab.z]).set (↑(ab.rows a).length:Int).toNat g++[ab.z]) ((↑(ab.rows a++ab.rows [ab.z]).length:Int))).bind λp=>(Bv f b c d (IntKind.i64.wrap (e+1)) (((a++[ab.z]).set (↑(ab.rows a).length:Int).toNat g++[ab.z]).set (↑(ab.rows a++ab.rows [ab.z]).length:Int).toNat n)))else none))))))else none)))))else(some (.ret (⟨24,d,0,[],0,a⟩))))
abbrev ni (f:Us):IQ:=λd b e c a=>(bif decide (c<(↑(af.rows b.Kids).length:Int))then((aA b.Kids c).bind λh=>(aF (cn f d h ay.z) λg=>(bif decide (((a:List ab)++([ab.z]:List ab)).length<=274877906944)then((aA (a++[ab.z]) ((↑(ab.rows a).length:Int))).bind λj=>((aA ((a++[ab.z]).set (↑(ab.rows a).length:Int).toNat g) (IntKind.i64.wrap ((↑(ab.rows a++ab.rows [ab.z]).length:Int)-1))).bind λi=>(bif i.aq.aL !=3 then(bif i.aq.aL !=4 then(aF (ee f 4 h.At) λ_=>none)else(ij f d b e (IntKind.i64.wrap (c+1)) ((a++[ab.z]).set (↑(ab.rows a).length:Int).toNat g)))else(ij f d b e (IntKind.i64.wrap (c+1)) ((a++[ab.z]).set (↑(ab.rows a).length:Int).toNat g)))))else none)))else(some (.ret (⟨23,e,0,[],0,a⟩))))
abbrev nj (f:Us):IS:=λb c d e a=>(bif decide (e<(↑(af.rows c.Kids).length:Int))then((aA c.Kids e).bind λh=>((aA h.Kids 0).bind λi=>((dU f 3).bind λj=>(aF (cn f b i j) λg=>(bif decide (((a:List ab)++([ab.z]:List ab)).length<=274877906944)then((aA (a++[ab.z]) ((↑(ab.rows a).length:Int))).bind λo=>((aA h.Kids 1).bind λk=>((aA d.aw.aB 0).bind λl=>((fR f l).bind λm=>(aF (cn f b k m) λn=>(bif decide ((((a++[ab.z]).set (↑(ab.rows a).length:Int).toNat g:List ab)++([ab.z]:List ab)).length<=274877906944)then((aA ((a++[ab.z]).set (↑(ab.rows a).length:Int).toNat g++[ab.z]) ((↑(ab.rows a++ab.rows [ab.z]).length:Int))).bind λp=>(ke f b c d (IntKind.i64.wrap (e+1)) (((a++[ab.z]).set (↑(ab.rows a).length:Int).toNat g++[ab.z]).set (↑(ab.rows a++ab.rows [ab.z]).length:Int).toNat n)))else none))))))else none)))))else(some (.ret (⟨24,d,0,[],0,a⟩))))
abbrev eN (f:Us):Ej:=λc a b=>((fc f a.Text).bind λk=>(bif decide (k>=0)then(bif k !=(↑(af.rows a.Kids).length:Int)then(aF (ee f 1 a.At) λ_=>none)else(bif a.Text==[102,108,97,103]then(b9 (fX f ([1]) b a) λy6=>((aA a.Kids 0).bind λn=>((dU f 2).bind λo=>(aF (cn f c n o) λp=>(bif decide (([ab.z]:List ab).length<=274877906944)then((aA ([ab.z]) ((↑0:Int))).bind λLX=>(some (.ret (⟨21,b,0,[],0,[ab.z].set (Int.toNat 0) p⟩))))else none)))))else(bif a.Text==[110,117,109]then(b9 (fX f ([2,3]) b a) λy15=>((aA a.Kids 0).bind λq=>((dU f 1).bind λr=>(aF (cn f c q r) λs=>(bif decide (([ab.z]:List ab).length<=274877906944)then((aA ([ab.z]) ((↑0:Int))).bind λx21=>(some (.ret (⟨22,b,0,[],0,[ab.z].set (Int.toNat 0) s⟩))))else none)))))else(bif a.Text==[115,101,116]then(b9 (fX f ([4,10]) b a) λy24=>(w6 f c a b 0 ([])))else(bif a.Text==[109,97,112]then(b9 (fX f ([5]) b a) λy51=>(Bv f c a b 0 ([])))else(bif a.Text==[114,101,99]then(b9 (fX f ([6]) b a) λy85=>(aF (rM f c a b.aw) λt=>(some (.ret (⟨25,b,0,[],0,t⟩)))))else(bif a.Text==[112,97,105,114]then(b9 (fX f ([7]) b a) λy88=>((aA a.Kids 0).bind λu=>((aA b.aw.aB 0).bind λv=>((fR f v).bind λw=>(aF (cn f c u w) λg=>(bif decide (([ab.z]:List ab).length<=274877906944)then((aA ([ab.z]) ((↑0:Int))).bind λx96=>((aA a.Kids 1).bind λx=>((aA b.aw.aB 1).bind λy=>((fR f y).bind λA=>(aF (cn f c x A) λB=>(bif decide ((([ab.z].set (Int.toNat 0) g:List ab)++([ab.z]:List ab)).length<=274877906944)then((aA ([ab.z].set (Int.toNat 0) g++[ab.z]) ((↑1:Int))).bind λx105=>(some (.ret (⟨26,b,0,[],0,([ab.z].set (Int.toNat 0) g++[ab.z]).set (Int.toNat 1) B⟩))))else none))))))else none))))))else(bif a.Text==[111,110,101]then(b9 (fX f ([8]) b a) λy108=>((aA a.Kids 0).bind λC=>((dU f 3).bind λD=>(aF (cn f c C D) λE=>(bif decide (([ab.z]:List ab).length<=274877906944)then((aA ([ab.z]) ((↑0:Int))).bind λx114=>(some (.ret (⟨27,b,0,[],0,[ab.z].set (Int.toNat 0) E⟩))))else none)))))else(bif a.Text==[119,114,105,116,101]then((fR f (⟨9,0,0,[],[],[]⟩)).bind λl=>((aA a.Kids 0).bind λF=>(aF (cn f c F l) λd=>(bif decide (([ab.z]:List ab).length<=274877906944)then((aA ([ab.z]) ((↑0:Int))).bind λx122=>((aA a.Kids 1).bind λG=>((dU f 1).bind λH=>(aF (cn f c G H) λh=>(bif decide ((([ab.z].set (Int.toNat 0) d:List ab)++([ab.z]:List ab)).length<=274877906944)then((aA ([ab.z].set (Int.toNat 0) d++[ab.z]) ((↑1:Int))).bind λx129=>((aA a.Kids 2).bind λJ=>((dU f 3).bind λK=>(aF (cn f c J K) λL=>(bif decide (((([ab.z].set (Int.toNat 0) d++[ab.z]).set (Int.toNat 1) h:List ab)++([ab.z]:List ab)).length<=274877906944)then((aA (([ab.z].set (Int.toNat 0) d++[ab.z]).set (Int.toNat 1) h++[ab.z]) ((↑2:Int))).bind λx136=>(some (.ret (⟨28,l,0,[],0,(([ab.z].set (Int.toNat 0) d++[ab.z]).set (Int.toNat 1) h++[ab.z]).set (Int.toNat 2) L⟩))))else none)))))else none)))))else none))))else(aF (uS f c a) λM=>(some (.ret M))))))))))))else(bif a.Text==[102,108,97,103]then(b9 (fX f ([1]) b a) λy140=>((aA a.Kids 0).bind λN=>((dU f 2).bind λO=>(aF (cn f c N O) λP=>(bif decide (([ab.z]:List ab).length<=274877906944)then((aA ([ab.z]) ((↑0:Int))).bind λx146=>(some (.ret (⟨21,b,0,[],0,[ab.z].set (Int.toNat 0) P⟩))))else none)))))else(bif a.Text==[110,117,109]then(b9 (fX f ([2,3]) b a) λy149=>((aA a.Kids 0).bind λQ=>((dU f 1).bind λR=>(aF (cn f c Q R) λS=>(bif decide (([ab.z]:List ab).length<=274877906944)then((aA ([ab.z]) ((↑0:Int))).bind λx155=>(some (.ret (⟨22,b,0,[],0,[ab.z].set (Int.toNat 0) S⟩))))else none)))))else(bif a.Text==[115,101,116]then(b9 (fX f ([4,10]) b a) λy158=>(ij f c a b 0 ([])))else(bif a.Text==[109,97,112]then(b9 (fX f ([5]) b a) λy185=>(ke f c a b 0 ([])))else(bif a.Text==[114,101,99]then(b9 (fX f ([6]) b a) λy219=>(aF (rM f c a b.aw) λT=>(some (.ret (⟨25,b,0,[],0,T⟩)))))else(bif a.Text==[112,97,105,114]then(b9 (fX f ([7]) b a) λy222=>((aA a.Kids 0).bind λU=>((aA b.aw.aB 0).bind λV=>((fR f V).bind λW=>(aF (cn f c U W) λi=>(bif decide (([ab.z]:List ab).length<=274877906944)then((aA ([ab.z]) ((↑0:Int))).bind λx230=>((aA a.Kids 1).bind λX=>((aA b.aw.aB 1).bind λY=>((fR f Y).bind λZ=>(aF (cn f c X Z) λy237=>(bif decide ((([ab.z].set (Int.toNat 0) i:List ab)++([ab.z]:List ab)).length<=274877906944)then((aA ([ab.z].set (Int.toNat 0) i++[ab.z]) ((↑1:Int))).bind λx239=>(some (.ret (⟨26,b,0,[],0,([ab.z].set (Int.toNat 0) i++[ab.z]).set (Int.toNat 1) y237⟩))))else none))))))else none))))))else(bif a.Text==[111,110,101]then(b9 (fX f ([8]) b a) λy242=>((aA a.Kids 0).bind λx243=>((dU f 3).bind λy245=>(aF (cn f c x243 y245) λy246=>(bif decide (([ab.z]:List ab).length<=274877906944)then((aA ([ab.z]) ((↑0:Int))).bind λx248=>(some (.ret (⟨27,b,0,[],0,[ab.z].set (Int.toNat 0) y246⟩))))else none)))))else(bif a.Text==[119,114,105,116,101]then((fR f (⟨9,0,0,[],[],[]⟩)).bind λm=>((aA a.Kids 0).bind λx252=>(aF (cn f c x252 m) λe=>(bif decide (([ab.z]:List ab).length<=274877906944)then((aA ([ab.z]) ((↑0:Int))).bind λx256=>((aA a.Kids 1).bind λx258=>((dU f 1).bind λy260=>(aF (cn f c x258 y260) λj=>(bif decide ((([ab.z].set (Int.toNat 0) e:List ab)++([ab.z]:List ab)).length<=274877906944)then((aA ([ab.z].set (Int.toNat 0) e++[ab.z]) ((↑1:Int))).bind λx263=>((aA a.Kids 2).bind λx265=>((dU f 3).bind λy267=>(aF (cn f c x265 y267) λy268=>(bif decide (((([ab.z].set (Int.toNat 0) e++[ab.z]).set (Int.toNat 1) j:List ab)++([ab.z]:List ab)).length<=274877906944)then((aA (([ab.z].set (Int.toNat 0) e++[ab.z]).set (Int.toNat 1) j++[ab.z]) ((↑2:Int))).bind λx270=>(some (.ret (⟨28,m,0,[],0,(([ab.z].set (Int.toNat 0) e++[ab.z]).set (Int.toNat 1) j++[ab.z]).set (Int.toNat 2) y268⟩))))else none)))))else none)))))else none))))else(aF (uS f c a) λy272=>(some (.ret y272)))))))))))))
abbrev nk (f:Us):IT:=λd b e c a=>(bif decide (a<(↑(ai.rows b.aB).length:Int))then((aA b.aB a).bind λg=>((aA e a).bind λh=>(bif !h then((rK f g).bind λi=>((fR f i).bind λj=>((aA c a).bind λk=>(jC f d b e (c.set a.toNat ⟨6,j,0,[],d.At,[]⟩) (IntKind.i64.wrap (a+1))))))else(jC f d b e c (IntKind.i64.wrap (a+1))))))else(some (.ret c)))
abbrev nn (f:Us):IU:=λi b c g d h=>(bif decide (h<(↑(af.rows b.Kids).length:Int))then((aA b.Kids h).bind λe=>((sb f c.Names e.Text).bind λa=>(bif decide (a<0)then(aF (ee f 3 e.At) λ_=>none)else((aA d a).bind λj=>(bif j then(aF (ee f 3 e.At) λ_=>none)else((aA e.Kids 0).bind λk=>((aA c.aB a).bind λl=>((fR f l).bind λm=>(aF (cn f i k m) λn=>((aA g a).bind λo=>((aA d a).bind λp=>(lI f i b c (g.set a.toNat n) (d.set a.toNat true) (IntKind.i64.wrap (h+1))))))))))))))else(jC f b c d g 0))
abbrev rN (f:Us):Ek:=λb c a=>((tV ((↑(ai.rows a.aB).length:Int))).bind λm1=>((tV ((↑(ai.rows a.aB).length:Int))).bind λm2=>(lI f b c a (List.replicate m1 ab.z) (List.replicate m2 false) 0)))
abbrev jh (f:Us):Em:=λb a=>((aA a.Kids 0).bind λc=>((dU f 2).bind λj=>((dU f 1).bind λh=>((dU f 4).bind λk=>(bif a.Text==[115,105,122,101]then(aF (cn f b c ay.z) λg=>(bif g.aq.aL !=4 then(bif g.aq.aL !=0 then(aF (ee f 4 a.At) λ_=>none)else((rJ f ([4,5,9,10]) g.aq.aw.Kind).bind λm=>(bif !m then(aF (ee f 4 a.At) λ_=>none)else(some (.ret (⟨29,h,0,[],0,[g]⟩))))))else(some (.ret (⟨29,h,0,[],0,[g]⟩)))))else(bif a.Text==[115,117,109]then(aF (jM f 30 h ([5]) b a c) λi=>((aA i.Kids 0).bind λn=>((aA n.aq.aw.aB 0).bind λl=>(bif l.Kind !=2 then(bif l.Kind !=3 then(aF (ee f 4 a.At) λ_=>none)else(some (.ret i)))else(some (.ret i))))))else(bif a.Text==[110,117,109,98,101,114]then(aF (jM f 31 h ([2,3]) b a c) λo=>(some (.ret o)))else(bif a.Text==[111,110]then(aF (jM f 32 j ([1]) b a c) λp=>(some (.ret p)))else(bif a.Text==[107,101,121,115]then(aF (jM f 33 k ([5,4,10]) b a c) λq=>(some (.ret q)))else(bif a.Text==[118,97,108,117,101,115]then(aF (jM f 34 k ([8,9]) b a c) λr=>(some (.ret r)))else(bif a.Text==[99,111,110,102,108,105,99,116]then(aF (jM f 37 j ([8,9]) b a c) λs=>(some (.ret s)))else(bif a.Text==[115,101,99,111,110,100]then(aF (jM f 36 ay.z ([7]) b a c) λd=>((aA d.Kids 0).bind λt=>((aA t.aq.aw.aB 1).bind λu=>((fR f u).bind λv=>(some (.ret (⟨d.Op,v,d.N,d.Text,d.At,d.Kids⟩)))))))else(aF (jM f 35 ay.z ([7]) b a c) λe=>((aA e.Kids 0).bind λw=>((aA w.aq.aw.aB 0).bind λx=>((fR f x).bind λy=>(some (.ret (⟨e.Op,y,e.N,e.Text,e.At,e.Kids⟩)))))))))))))))))))
abbrev rO (f:Us):En:=λa b c d e g=>(aF (mE f d e g c) λh=>(some (.ret (⟨a,b,0,[],0,[h]⟩))))
abbrev rP (f:Us):Eo:=λc b d e=>(aF (cn f c d ay.z) λa=>(bif a.aq.aL !=0 then(aF (ee f 4 b.At) λ_=>none)else((rJ f e a.aq.aw.Kind).bind λg=>(bif !g then(aF (ee f 4 b.At) λ_=>none)else(some (.ret a))))))
abbrev gV (f:Us):Ep:=λb a c=>((dU f 2).bind λd=>(bif a.Kind==30 then((aA a.Kids 0).bind λo=>(aF (cn f b o d) λk=>((pA f c).bind λp=>(bif p then((aA a.Kids 1).bind λq=>((aA a.Kids 2).bind λr=>(aF (pC f b a q r false) λe=>(some (.ret (⟨7,e.fst.aq,0,[],0,[k,e.fst,e.snd]⟩))))))else((aA a.Kids 1).bind λs=>(aF (cn f b s c) λl=>((aA a.Kids 2).bind λt=>(aF (cn f b t c) λu=>(some (.ret (⟨7,l.aq,0,[],0,[k,l,u]⟩)))))))))))else(bif a.Kind==36 then((aA a.Kids 0).bind λv=>(aF (cn f b v ay.z) λg=>(bif g.aq.aL==0 then((aA a.Kids 0).bind λw=>(aF (ee f 4 w.At) λ_=>none))else((aA a.Kids 1).bind λx=>(aF (cn f b x g.aq) λy=>(some (.ret (⟨13,d,0,[],0,[g,y]⟩))))))))else(bif a.Kind==38 then((aA a.Kids 0).bind λA=>((aA a.Kids 1).bind λB=>(aF (pC f b a A B true) λm=>(some (.ret (⟨15,d,0,[],0,[m.fst,m.snd]⟩))))))else(bif a.Kind==39 then((pA f c).bind λC=>(bif !C then(bif c.aL !=0 then(aF (ee f 4 a.At) λ_=>none)else(aF (iF f b 16 a c c c) λD=>(some (.ret D))))else((aA a.Kids 0).bind λE=>((aA a.Kids 1).bind λF=>(aF (pC f b a E F true) λh=>(some (.ret (⟨16,h.fst.aq,0,[],0,[h.fst,h.snd]⟩))))))))else(bif a.Kind==42 then((aA a.Kids 0).bind λG=>(aF (mE f b a G ([6])) λi=>((sb f i.aq.aw.Names a.Text).bind λj=>(bif decide (j<0)then(aF (ee f 3 a.At) λ_=>none)else((aA i.aq.aw.aB j).bind λH=>((fR f H).bind λJ=>(some (.ret (⟨19,J,j,[],0,[i]⟩)))))))))else((aA a.Kids 0).bind λK=>(aF (mE f b a K ([5])) λn=>((aA a.Kids 1).bind λL=>((dU f 3).bind λM=>(aF (cn f b L M) λN=>((aA n.aq.aw.aB 0).bind λO=>((fR f O).bind λP=>(some (.ret (⟨20,P,0,[],0,[n,N]⟩))))))))))))))))
abbrev rQ (f:Us):Er:=λa h b c g=>((l5 f b).bind λi=>(bif i then((l5 f c).bind λj=>(bif j then(aF (ee f 4 h.At) λ_=>none)else(aF (cn f a c ay.z) λd=>(bif g then(bif d.aq.aL !=0 then(aF (ee f 4 c.At) λ_=>none)else(aF (cn f a b d.aq) λk=>(some (.ret ((k,d))))))else(aF (cn f a b d.aq) λl=>(some (.ret ((l,d)))))))))else(aF (cn f a b ay.z) λe=>(bif g then(bif e.aq.aL !=0 then(aF (ee f 4 b.At) λ_=>none)else(aF (cn f a c e.aq) λm=>(some (.ret ((e,m))))))else(aF (cn f a c e.aq) λn=>(some (.ret ((e,n)))))))))
abbrev sn (f:Us):E9:=λa b c d=>(fP 75 (cn f ({l:=a,params:=b:bm}) d c) (λc3 c4=>(bif c3 !=0 then(some ((ab.z,{Code:=c3,At:=c4:dX})))else(some ((ab.z,{Code:=c3,At:=c4:dX}))))) λe=>(some ((e,dX.z))))
abbrev vh (f:Us):E':=λa b=>(bif a.Op==b.Op then(bif a.N==b.N then(bif a.Text==b.Text then(bif a.At==b.At then((n9 f a.aq b.aq).bind λc=>(bif c then((xy f a.Kids b.Kids).bind λd=>(some d))else(some false)))else(some false))else(some false))else(some false))else(some false))
abbrev qo (f:Us):G':=λb c a=>(bif decide (a<(↑(ab.rows b).length:Int))then((aA b a).bind λd=>((aA c a).bind λe=>((sf f d e).bind λg=>(bif !g then(some false)else(qn f b c (IntKind.i64.wrap (a+1)))))))else(some true))
abbrev tO (f:Us):BS:=λa b=>(bif (↑(ab.rows a).length:Int) !=(↑(ab.rows b).length:Int)then(some false)else(qn f a b 0))
abbrev so (f:Us):yR:=λb a=>((ve f b).bind λe=>(bif e !=0 then(some false)else((u32 f a).bind λg=>(bif !g then(some false)else((mc f a.Params a.Body).bind λc=>(bif !c.snd then(some false)else((zr f b a).bind λh=>((zt f b a.Params h c.fst).bind λd=>(bif d.snd.Code==0 then((sf f d.fst a.Body).bind λi=>(some i))else(some false))))))))))
abbrev zI (f:Us):Fa:=λa=>(bif decide ((([]:List TParam)++(a:List TParam)).length<=274877906944)then(some ([]++a))else none)
abbrev vi (f:Us):Fb:=λa b=>(bif a.Op==b.Op then((n9 f a.aq b.aq).bind λc=>(bif c then(bif a.N==b.N then(bif a.Text==b.Text then((xz f a.Kids b.Kids).bind λd=>(some d))else(some false))else(some false))else(some false)))else(some false))
abbrev qq (f:Us):Ha:=λb c a=>(bif decide (a<(↑(ab.rows b).length:Int))then((aA b a).bind λd=>((aA c a).bind λe=>((si f d e).bind λg=>(bif !g then(some false)else(qp f b c (IntKind.i64.wrap (a+1)))))))else(some true))
abbrev tP (f:Us):BT:=λa b=>(bif (↑(ab.rows a).length:Int) !=(↑(ab.rows b).length:Int)then(some false)else(qp f a b 0))
abbrev vj (f:Us):Fc:=λa=>(some (⟨6,a.aq,0,[],a.At,[]⟩))
abbrev vk (f:Us):Fe:=λa=>(some (a.Op==6))
abbrev qQ (f:Us):JU:=λe a c g b=>(bif decide (b<(↑(ab.rows a.Kids).length:Int))then((aA a.Kids b).bind λh=>((aA e.aq.aw.aB b).bind λi=>((jo f (⟨19,{aL:=0,aw:=i:ay},b,[],0,[e]⟩) h).bind λd=>(bif g then((mK f d).bind λj=>(bif decide (((c:List ab)++([d]:List ab)).length<=274877906944)then(nG f e a (c++[d]) j (IntKind.i64.wrap (b+1)))else none))else(bif decide (((c:List ab)++([d]:List ab)).length<=274877906944)then(nG f e a (c++[d]) false (IntKind.i64.wrap (b+1)))else none)))))else(bif g then((pP f a).bind λk=>(some k))else(some (⟨a.Op,a.aq,a.N,a.Text,a.At,c⟩))))
abbrev qR (f:Us):JV:=λd a c b=>(bif decide (b<(↑(ab.rows a.Kids).length:Int))then((aA d.aq.aw.aB 0).bind λh=>((aA a.Kids b).bind λi=>((aA a.Kids (IntKind.i64.wrap (b+1))).bind λj=>((jo f (⟨20,{aL:=0,aw:=h:ay},0,[],0,[d,i]⟩) j).bind λe=>((mK f e).bind λk=>(bif !k then((aA a.Kids b).bind λg=>(bif decide (((c:List ab)++([g,e]:List ab)).length<=274877906944)then(lN f d a (c++[g,e]) (IntKind.i64.wrap (b+2)))else none))else(lN f d a c (IntKind.i64.wrap (b+2)))))))))else(bif (↑(ab.rows c).length:Int)==0 then((pP f a).bind λl=>(some l))else(some (⟨a.Op,a.aq,a.N,a.Text,a.At,c⟩))))
abbrev mL (f:Us):Ff:=λb a=>((si f b a).bind λh=>(bif h then((pP f a).bind λi=>(some i))else(bif a.Op==16 then((aA a.Kids 0).bind λj=>((jo f b j).bind λc=>((aA a.Kids 1).bind λk=>((jo f b k).bind λd=>((mK f c).bind λl=>(bif l then(some d)else((mK f d).bind λm=>(bif m then(some c)else(some (⟨a.Op,a.aq,a.N,a.Text,a.At,[c,d]⟩))))))))))else(bif a.Op==7 then((aA a.Kids 1).bind λn=>((jo f b n).bind λe=>((aA a.Kids 2).bind λo=>((jo f b o).bind λg=>((mK f e).bind λp=>(bif p then((mK f g).bind λq=>(bif q then((pP f a).bind λr=>(some r))else((aA a.Kids 0).bind λs=>(some (⟨a.Op,a.aq,a.N,a.Text,a.At,[s,e,g]⟩)))))else((aA a.Kids 0).bind λt=>(some (⟨a.Op,a.aq,a.N,a.Text,a.At,[t,e,g]⟩)))))))))else(bif a.Op==25 then(nG f b a ([]) true 0)else(bif a.Op==24 then(lN f b a ([]) 0)else(some a)))))))
abbrev qS (f:Us):JW:=λa b c=>(bif decide (b<(↑(ab.rows a.Kids).length:Int))then((aA a.Kids b).bind λe=>((vg f e).bind λd=>(bif decide (((c:List ab)++([d]:List ab)).length<=274877906944)then(oO f a (IntKind.i64.wrap (b+1)) (c++[d]))else none)))else(some (⟨a.Op,a.aq,a.N,a.Text,a.At,c⟩)))
abbrev sk (f:Us):Fg:=λa=>(oO f a 0 ([]))
abbrev B9 (f:Us):T9:=λb a=>((l7 f b a).bind λc=>(bif !c then(some ((bA.z,1)))else(bif a.Result !=0 then(some ((bA.z,1)))else((zw f a.Params).bind λd=>((jo f (⟨5,{aL:=0,aw:=b:ay},0,[],0,[]⟩) a.Body).bind λe=>((vg f e).bind λg=>(some (({Name:=a.Name,On:=a.On,Params:=d,Result:=a.Result,Body:=g:bA},0)))))))))
abbrev xh (f:Us):IV:=λb c a=>(bif decide (a<(↑(aW b).length:Int))then((aA b a).bind λd=>((aA c a).bind λe=>(bif !d==e then(some false)else(xg f b c (IntKind.i64.wrap (a+1))))))else(some true))
abbrev yG (f:Us):Es:=λa b=>(bif (↑(aW a).length:Int) !=(↑(aW b).length:Int)then(some false)else(xg f a b 0))
abbrev qF (f:Us):IW:=λb c a=>(bif decide (a<(↑(ai.rows b.aB).length:Int))then((aA b.aB a).bind λd=>((aA c.aB a).bind λe=>((pD f d e).bind λg=>(bif !g then(some false)else(oI f b c (IntKind.i64.wrap (a+1)))))))else(some true))
