/- Printed by a program: what functions answer, and that they do. -/
import Derived.Test.YtfgnmgbiijpkiaaGreatKAw
set_option linter.all false
set_option maxRecDepth 100000
noncomputable section
namespace Go.Proofs.YtfgnmgbiijpkiaaGreat
open Go Go.Bw
abbrev H7:=Int->Option Bool
abbrev OA:=List UInt8->Int->Option Bool
abbrev H8:=List UInt8->Option Bool
abbrev FA:=Bool->Int->Option Int
abbrev FC:=ah->Option Int
abbrev FD:=ah->Option Int
abbrev MJ:=List (List UInt8)->List UInt8->Int->Option Int
abbrev FE:=List (List UInt8)->List UInt8->Option Int
abbrev FG:=List (List UInt8)->List UInt8->Option Bool
abbrev MK:=List (List UInt8)->Int->Option Bool
abbrev FH:=List (List UInt8)->Option Bool
abbrev H9:=List (List UInt8)->List UInt8->Option Bool
abbrev ML:=List (List UInt8)->List (List UInt8)->Int->Option Bool
abbrev FI:=List (List UInt8)->List (List UInt8)->Option Bool
abbrev MM:=ah->Int->Option Int
abbrev MN:=ah->Int->Option Int
abbrev MO:=ah->Int->Int->Option Int
abbrev FJ:=ah->Option Int
abbrev FK:=ah->Option Int
abbrev FL:=ah->Option Bool
abbrev FM:=ah->Option Int
abbrev MP:=List Int->Int->Option Int
abbrev FN:=List Int->Option Int
abbrev OC:=ah->Int->Int->dp->Option (Int×dp)
abbrev H':=dp->ah->Int->Option (Int×dp)
abbrev Ia:=ah->Option Int
abbrev Ib:=bt->bl->Option Bool
abbrev Kn:=List bt->bl->Int->Option Int
abbrev DA:=List bt->bl->Option Int
abbrev FO:=TParam->TParam->Option Bool
abbrev JT:=List TParam->TParam->Int->Option Int
abbrev CO:=List TParam->TParam->Option Int
abbrev CP:=List TParam->TParam->Option Bool
abbrev OD:=bl->Int->Option Bool
abbrev Ic:=bl->Option Bool
abbrev FP:=List TParam->ae->Option (ab×Bool)
abbrev FQ:=Int->Option (Int×Int)
abbrev FR:=Int->Option (List UInt8)
abbrev OE:=ae->List ab->List UInt8->List ab->Int->Option (ab×Bool)
abbrev OF:=ae->List ab->List UInt8->List ab->Int->Option (ab×Bool)
abbrev OG:=List TParam->ae->Bool->Int->List ab->Option (ab×Bool)
abbrev Ie:=List TParam->ae->Option (ab×Bool)
abbrev FT:=ah->Option az
abbrev FU:=Int->Option az
abbrev Ig:=ah->bl->Option az
abbrev FV:=TParam->ab->Option Bool
abbrev JU:=List TParam->ab->Int->Option Int
abbrev CR:=List TParam->ab->Option Int
abbrev Ih:=Int->Int->Option (aX Unit)
abbrev Ii:=az->Option Bool
abbrev FW:=List UInt8->Option Int
abbrev MQ:=List Int->Int->Int->Option Int
abbrev FX:=List Int->Int->Option Int
abbrev FY:=List Int->Int->Option Bool
abbrev FZ:=List Int->az->ab->Option (aX Unit)
abbrev F1:=List (List UInt8)->Option (List (List UInt8))
abbrev E9:=List aU->Option (List aU)
abbrev E':=List ah->Option (List ah)
abbrev OH:=ah->List (List UInt8)->List ah->Int->List ah->List aU->Option ah
abbrev OI:=ah->List (List UInt8)->List aU->Int->List aU->Option ah
abbrev Ij:=ah->Option ah
abbrev F2:=ab->Option Bool
abbrev MR:=List (List UInt8)->List (List UInt8)->Int->Option Bool
abbrev F5:=List (List UInt8)->List (List UInt8)->Option Bool
abbrev F6:=aU->aU->Option Bool
abbrev J4:=List aU->List aU->Int->Option Bool
abbrev Db:=List aU->List aU->Option Bool
abbrev F7:=ah->ah->Option Bool
abbrev J5:=List ah->List ah->Int->Option Bool
abbrev Dc:=List ah->List ah->Option Bool
abbrev Ik:=az->az->Option Bool
abbrev Il:=bO->ab->az->Option (aX ae)
abbrev Im:=bO->ab->az->Option (aX ae)
abbrev F8:=bO->Int->ab->az->az->az->Option (aX ae)
abbrev MS:=bO->ab->az->Int->List ae->Option (aX ae)
abbrev MT:=bO->ab->az->Int->List ae->Option (aX ae)
abbrev MU:=bO->ab->az->Int->List ae->Option (aX ae)
abbrev MV:=bO->ab->az->Int->List ae->Option (aX ae)
abbrev F9:=bO->ab->az->Option (aX ae)
abbrev MW:=ab->ah->List Bool->List ae->Int->Option (aX (List ae))
abbrev MX:=bO->ab->ah->List ae->List Bool->Int->Option (aX (List ae))
abbrev F':=bO->ab->ah->Option (aX (List ae))
abbrev Ga:=bO->ab->Option (aX ae)
abbrev Gb:=Int->az->List Int->bO->ab->ab->Option (aX ae)
abbrev Gc:=bO->ab->ab->List Int->Option (aX ae)
abbrev Gd:=bO->ab->az->Option (aX ae)
abbrev Ge:=bO->ab->ab->ab->Bool->Option (aX (ae×ae))
abbrev Io:=ah->List TParam->az->ab->Option (ae×aM)
abbrev Ip:=ae->ae->Option Bool
abbrev Ko:=List ae->List ae->Int->Option Bool
abbrev DB:=List ae->List ae->Option Bool
abbrev Iq:=ah->bl->Option Bool
abbrev OJ:=cp->Bool->List (List UInt8)->Int->List (List UInt8)->Bool->Int->List bl->List (List UInt8)->Bool->Int->Option Bool
abbrev OK:=cp->Bool->List (List UInt8)->Int->List (List UInt8)->Bool->Int->Option Bool
abbrev OL:=cp->Bool->List (List UInt8)->Int->Option Bool
abbrev Ir:=cp->Option Bool
abbrev Gg:=ah->Option Bool
abbrev MY:=List UInt8->Int->Option Bool
abbrev Gh:=List UInt8->Option Bool
abbrev MZ:=List (List UInt8)->List UInt8->Int->Option Bool
abbrev Gi:=List (List UInt8)->List UInt8->Option Bool
abbrev M0:=List (List UInt8)->Int->Option Bool
abbrev Gj:=List (List UInt8)->Option Bool
abbrev M1:=ah->Int->Option Bool
abbrev M3:=ah->Bool->Bool->Int->aU->Bool->Bool->Bool->Int->Option Bool
abbrev Mv:=ah->Bool->Bool->Int->Option Bool
abbrev Gk:=ah->Option Bool
abbrev Gm:=ah->Option Bool
abbrev Is:=ah->Int->Int->Option Int
abbrev Ob:=ah->Int->Int->Int->Option (Int×Int)
abbrev Iu:=ah->Int->Int->Option (Int×Int)
abbrev Iv:=ah->Option Int
abbrev Oc:=List bt->List UInt8->Int->Option (ah×Bool)
abbrev Iw:=List bt->List UInt8->Option (ah×Bool)
abbrev Od:=List (List UInt8)->List UInt8->Int->Option Bool
abbrev Ix:=List (List UInt8)->List UInt8->Option Bool
abbrev Iy:=Int->Option az
abbrev Iz:=ah->Option az
abbrev Gn:=Int->Option Int
abbrev Gp:=Int->Option (List UInt8)
abbrev Mw:=ae->List ab->List UInt8->Int->List ab->Option (ab×Bool)
abbrev Mx:=ae->List ab->List UInt8->List ab->Int->Option (ab×Bool)
abbrev My:=List TParam->ae->Bool->Int->List ab->Option (ab×Bool)
abbrev Gq:=List TParam->ae->Option (ab×Bool)
abbrev IA:=Int->Int->Option aM
abbrev IB:=az->Option Bool
abbrev Gr:=ab->Option Bool
abbrev Gs:=List UInt8->Int->Option Bool
abbrev Oe:=List (List UInt8)->List (List UInt8)->Int->Option Bool
abbrev IC:=List (List UInt8)->List (List UInt8)->Option Bool
abbrev Og:=ah->ah->Int->Option Bool
abbrev Oh:=ah->ah->Bool->Int->Option Bool
abbrev ID:=ah->ah->Option Bool
abbrev IE:=az->az->Option Bool
abbrev IF:=cA->ab->az->Option (ae×aM)
abbrev Oi:=cA->ab->Int->Option (ae×aM)
abbrev Oj:=ab->((List ae)×aM)->ae->Int->Option (ae×aM)
abbrev IG:=cA->ab->az->Option (ae×aM)
abbrev Gt:=cA->ab->ab->Int->Bool->Option ((List ae)×aM)
abbrev Mz:=cA->List ab->List az->List ae->List ae->Int->Option ((List ae)×aM)
abbrev Gv:=cA->List ab->List az->Option ((List ae)×aM)
abbrev Gw:=cA->ab->az->Option (ae×aM)
abbrev MA:=cA->ab->az->Int->List ae->aM->Option (ae×aM)
abbrev MB:=cA->ab->az->Int->List ae->aM->Option (ae×aM)
abbrev MC:=cA->ab->az->Int->List ae->aM->Option (ae×aM)
abbrev MD:=cA->ab->az->Int->List ae->List (List UInt8)->Int->List ae->aM->Int->Option (ae×aM)
abbrev ME:=cA->ab->az->Int->List ae->List (List UInt8)->Int->List ae->aM->Option (ae×aM)
abbrev MF:=cA->ab->az->Int->List ae->Option (ae×aM)
abbrev Gx:=cA->ab->az->Option (ae×aM)
abbrev Gy:=cA->ab->Option (ae×aM)
abbrev II:=ah->List TParam->az->ab->Option (ae×aM)
abbrev Ol:=ae->ae->Int->Option Bool
abbrev IJ:=ae->ae->Option Bool
abbrev Om:=ah->bl->List (List UInt8)->Int->Option Bool
abbrev IK:=ah->bl->Option Bool
abbrev Oo:=cp->Bool->List (List UInt8)->Int->Bool->List (List UInt8)->Int->Bool->Int->List bl->List (List UInt8)->Int->Option Bool
abbrev Oq:=cp->Bool->List (List UInt8)->Int->Bool->List (List UInt8)->Int->Bool->Int->Option Bool
abbrev Ot:=cp->Bool->List (List UInt8)->Int->Bool->List (List UInt8)->Int->Option Bool
abbrev Ov:=cp->Bool->List (List UInt8)->Int->Option Bool
abbrev IL:=cp->Option Bool
abbrev MG:=ah->Int->Int->Option Int
abbrev MH:=ah->Int->Int->Option Int
abbrev MI:=ah->Int->Int->Option Int
abbrev Gz:=ah->Int->Option Int
abbrev IM:=ah->Option Bool
abbrev Ow:=List bt->Int->Option Bool
abbrev IN:=List bt->Option Bool
abbrev Ox:=ae->Int->Int->Option Int
abbrev IP:=ae->Int->Option Int
abbrev IQ:=ae->Int->Option Bool
abbrev Oy:=cp->Int->Option Bool
abbrev Oz:=cp->Bool->Int->Option Bool
abbrev IS:=cp->Option Bool
abbrev T5:=cp->Option Bool
def BI:=((((H7×OA)×(H8×(FA×FC)))×((FD×MJ)×(FE×(FG×MK))))×(((FH×H9)×(ML×(FI×MM)))×((MN×MO)×(FJ×(FK×FL)))))
def BJ:=((((FM×MP)×(FN×(OC×H')))×((Ia×Ib)×(Kn×(DA×FO))))×(((JT×CO)×(CP×(OD×Ic)))×((FP×FQ)×(FR×(OE×OF)))))
def BK:=((((OG×Ie)×(FT×(FU×Ig)))×((FV×JU)×(CR×(Ih×Ii))))×(((FW×MQ)×(FX×(FY×FZ)))×((F1×E9)×(E'×(OH×OI)))))
def BL:=((((Ij×F2)×(MR×(F5×F6)))×((J4×Db)×(F7×(J5×Dc))))×(((Ik×Il)×(Im×(F8×MS)))×((MT×MU)×(MV×(F9×MW)))))
def BM:=((((MX×F')×(Ga×(Gb×Gc)))×((Gd×Ge)×(Io×(Ip×Ko))))×(((DB×Iq)×(OJ×(OK×OL)))×((Ir×Gg)×(MY×(Gh×MZ)))))
def BN:=((((Gi×M0)×(Gj×(M1×M3)))×((Mv×Gk)×(Gm×(Is×Ob))))×(((Iu×Iv)×(Oc×(Iw×Od)))×((Ix×Iy)×(Iz×(Gn×Gp)))))
def BO:=((((Mw×Mx)×(My×(Gq×IA)))×((IB×Gr)×(Gs×(Oe×IC))))×(((Og×Oh)×(ID×(IE×IF)))×((Oi×Oj)×(IG×(Gt×Mz)))))
def BP:=((((Gv×Gw)×(MA×(MB×MC)))×((MD×ME)×(MF×(Gx×Gy))))×(((II×Ol)×(IJ×(Om×IK)))×((Oo×Oq)×(Ot×(Ov×IL)))))
def BR:=((((MG×MH)×(MI×Gz))×((IM×Ow)×(IN×Ox)))×(((IP×IQ)×(Oy×Oz))×((IS×T5)×(I6×(T9×BS)))))
instance:PF BI:=by delta BI;exact @PF.prod _ _ (@PF.prod _ _ inferInstance inferInstance) (@PF.prod _ _ inferInstance inferInstance)
instance:PF BJ:=by delta BJ;exact @PF.prod _ _ (@PF.prod _ _ inferInstance inferInstance) (@PF.prod _ _ inferInstance inferInstance)
instance:PF BK:=by delta BK;exact @PF.prod _ _ (@PF.prod _ _ inferInstance inferInstance) (@PF.prod _ _ inferInstance inferInstance)
instance:PF BL:=by delta BL;exact @PF.prod _ _ (@PF.prod _ _ inferInstance inferInstance) (@PF.prod _ _ inferInstance inferInstance)
instance:PF BM:=by delta BM;exact @PF.prod _ _ (@PF.prod _ _ inferInstance inferInstance) (@PF.prod _ _ inferInstance inferInstance)
instance:PF BN:=by delta BN;exact @PF.prod _ _ (@PF.prod _ _ inferInstance inferInstance) (@PF.prod _ _ inferInstance inferInstance)
instance:PF BO:=by delta BO;exact @PF.prod _ _ (@PF.prod _ _ inferInstance inferInstance) (@PF.prod _ _ inferInstance inferInstance)
instance:PF BP:=by delta BP;exact @PF.prod _ _ (@PF.prod _ _ inferInstance inferInstance) (@PF.prod _ _ inferInstance inferInstance)
instance:PF BR:=by delta BR;exact @PF.prod _ _ (@PF.prod _ _ inferInstance inferInstance) (@PF.prod _ _ inferInstance inferInstance)
abbrev Fs:=(((BI×BJ)×(BK×BL))×((BM×BN)×(BO×(BP×BR))))
def fW:=(PF.i (D:=Fs)).a.a.a
def fX:=(PF.i (D:=Fs)).a.a.b
def fY:=(PF.i (D:=Fs)).a.b.a
def fZ:=(PF.i (D:=Fs)).a.b.b
def ga:=(PF.i (D:=Fs)).b.a.a
def gb:=(PF.i (D:=Fs)).b.a.b
def gf:=(PF.i (D:=Fs)).b.b.a
def gg:=(PF.i (D:=Fs)).b.b.b.a
def ik:=(PF.i (D:=Fs)).b.b.b.b
def f98:=fW.a.a.a.a
def vT:=fW.a.a.a.b
def f53:=fW.a.a.b.a
def f213:=fW.a.a.b.b.a
def f166:=fW.a.a.b.b.b
def f168:=fW.a.b.a.a
def zQ:=fW.a.b.a.b
def f185:=fW.a.b.b.a
def f131:=fW.a.b.b.b.a
def vC:=fW.a.b.b.b.b
def f214:=fW.b.a.a.a
def f81:=fW.b.a.a.b
def qz:=fW.b.a.b.a
def f215:=fW.b.a.b.b.a
def zT:=fW.b.a.b.b.b
def zV:=fW.b.b.a.a
def lO:=fW.b.b.a.b
def f169:=fW.b.b.b.a
def f170:=fW.b.b.b.b.a
def f216:=fW.b.b.b.b.b
def f171:=fX.a.a.a.a
def mK:=fX.a.a.a.b
def f167:=fX.a.a.b.a
def mT:=fX.a.a.b.b.a
def f99:=fX.a.a.b.b.b
def f54:=fX.a.b.a.a
def f56:=fX.a.b.a.b
def yy:=fX.a.b.b.a
def z7:=fX.a.b.b.b.a
def f106:=fX.a.b.b.b.b
def xT:=fX.b.a.a.a
def yO:=fX.b.a.a.b
def yR:=fX.b.a.b.a
def mU:=fX.b.a.b.b.a
def f61:=fX.b.a.b.b.b
def f107:=fX.b.b.a.a
def f108:=fX.b.b.a.b
def f109:=fX.b.b.b.a
def kr:=fX.b.b.b.b.a
def iU:=fX.b.b.b.b.b
def gX:=fY.a.a.a.a
def f62:=fY.a.a.a.b
def f112:=fY.a.a.b.a
def f113:=fY.a.a.b.b.a
def f63:=fY.a.a.b.b.b
def f157:=fY.a.b.a.a
def xU:=fY.a.b.a.b
def vj:=fY.a.b.b.a
def f80:=fY.a.b.b.b.a
def f92:=fY.a.b.b.b.b
def f197:=fY.b.a.a.a
def zX:=fY.b.a.a.b
def f236:=fY.b.a.b.a
def f199:=fY.b.a.b.b.a
def f198:=fY.b.a.b.b.b
def f100:=fY.b.b.a.a
def Fa:=fY.b.b.a.b
def Fb:=fY.b.b.b.a
def vV:=fY.b.b.b.b.a
def vU:=fY.b.b.b.b.b
def f66:=fZ.a.a.a.a
def f238:=fZ.a.a.a.b
def zY:=fZ.a.a.b.a
def f205:=fZ.a.a.b.b.a
def f207:=fZ.a.a.b.b.b
def sb:=fZ.a.b.a.a
def zr:=fZ.a.b.a.b
def f161:=fZ.a.b.b.a
def se:=fZ.a.b.b.b.a
def zt:=fZ.a.b.b.b.b
def f93:=fZ.b.a.a.a
def f48:=fZ.b.a.a.b
def f91:=fZ.b.a.b.a
def f158:=fZ.b.a.b.b.a
def z6:=fZ.b.a.b.b.b
def Dy:=fZ.b.b.a.a
def gz:=fZ.b.b.a.b
def jy:=fZ.b.b.b.a
def f159:=fZ.b.b.b.b.a
def jz:=fZ.b.b.b.b.b
def lQ:=ga.a.a.a.a
def f201:=ga.a.a.a.b
def f202:=ga.a.a.b.a
def f237:=ga.a.a.b.b.a
def f204:=ga.a.a.b.b.b
def f160:=ga.a.b.a.a
def f203:=ga.a.b.a.b
def f18:=ga.a.b.b.a
def f64:=ga.a.b.b.b.a
def sk:=ga.a.b.b.b.b
def z8:=ga.b.a.a.a
def f25:=ga.b.a.a.b
def mV:=ga.b.a.b.a
def vW:=ga.b.a.b.b.a
def nR:=ga.b.a.b.b.b
def f22:=ga.b.b.a.a
def f153:=ga.b.b.a.b
def lR:=ga.b.b.b.a
def f194:=ga.b.b.b.b.a
def qA:=ga.b.b.b.b.b
def f195:=gb.a.a.a.a
def lS:=gb.a.a.a.b
def f196:=gb.a.a.b.a
def mO:=gb.a.a.b.b.a
def mP:=gb.a.a.b.b.b
def mQ:=gb.a.b.a.a
def f154:=gb.a.b.a.b
def f155:=gb.a.b.b.a
def f90:=gb.a.b.b.b.a
def mW:=gb.a.b.b.b.b
def f46:=gb.b.a.a.a
def f15:=gb.b.a.a.b
def vX:=gb.b.a.b.a
def f59:=gb.b.a.b.b.a
def vY:=gb.b.a.b.b.b
def f42:=gb.b.b.a.a
def f88:=gb.b.b.a.b
def f87:=gb.b.b.b.a
def f173:=gb.b.b.b.b.a
def f174:=gb.b.b.b.b.b
def lT:=gf.a.a.a.a
def jA:=gf.a.a.a.b
def iC:=gf.a.a.b.a
def f104:=gf.a.a.b.b.a
def f41:=gf.a.a.b.b.b
def f95:=gf.a.b.a.a
def f209:=gf.a.b.a.b
def f210:=gf.a.b.b.a
def AD:=gf.a.b.b.b.a
def f69:=gf.a.b.b.b.b
def qO:=gf.b.a.a.a
def tB:=gf.b.a.a.b
def f29:=gf.b.a.b.a
def f50:=gf.b.a.b.b.a
def f49:=gf.b.a.b.b.b
def qP:=gf.b.b.a.a
def nS:=gf.b.b.a.b
def f94:=gf.b.b.b.a
def f162:=gf.b.b.b.b.a
def kn:=gf.b.b.b.b.b
def f163:=gg.a.a.a.a
def f164:=gg.a.a.a.b
def kU:=gg.a.a.b.a
def kV:=gg.a.a.b.b.a
def qE:=gg.a.a.b.b.b
def po:=gg.a.b.a.a
def mR:=gg.a.b.a.b
def qH:=gg.a.b.b.a
def f211:=gg.a.b.b.b.a
def f212:=gg.a.b.b.b.b
def f19:=gg.b.a.a.a
def tE:=gg.b.a.a.b
def f20:=gg.b.a.b.a
def qR:=gg.b.a.b.b.a
def f60:=gg.b.a.b.b.b
def pE:=gg.b.b.a.a
def mX:=gg.b.b.a.b
def tK:=gg.b.b.b.a
def nT:=gg.b.b.b.b.a
def f23:=gg.b.b.b.b.b
def vE:=ik.a.a.a.a
def vG:=ik.a.a.a.b
def vI:=ik.a.a.b.a
def f165:=ik.a.a.b.b
def f96:=ik.a.b.a.a
def qT:=ik.a.b.a.b
def f51:=ik.a.b.b.a
def qU:=ik.a.b.b.b
def f97:=ik.b.a.a.a
def f52:=ik.b.a.a.b
def pF:=ik.b.a.b.a
def qV:=ik.b.a.b.b
def f21:=ik.b.b.a.a
def f5:=ik.b.b.a.b
def f57:=ik.b.b.b.a
def f9:=ik.b.b.b.b.a
def f58:=ik.b.b.b.b.b
abbrev xa (f:Fs):H7:=λa=>(bif decide (97<=a)then(bif decide (a<=122)then(some true)else(bif decide (48<=a)then(bif decide (a<=57)then(some true)else(some (a==45)))else(some (a==45))))else(bif decide (48<=a)then(bif decide (a<=57)then(some true)else(some (a==45)))else(some (a==45))))
abbrev th (f:Fs):OA:=λa b=>(bif decide (b<(↑a.length:Int))then((au (a:List UInt8) b).bind λc=>((f98 f ((↑c.toNat:Int))).bind λd=>(bif !d then(some false)else(vT f a (IntKind.i64.wrap (b+1))))))else(some true))
abbrev xb (f:Fs):H8:=λa=>(bif (↑a.length:Int)==0 then(some false)else(bif decide ((↑a.length:Int)>16)then(some false)else((au (a:List UInt8) 0).bind λb=>(bif decide ((↑b.toNat:Int)<97)then(some false)else((au (a:List UInt8) 0).bind λc=>(bif decide ((↑c.toNat:Int)>122)then(some false)else(vT f a 0)))))))
abbrev wJ (f:Fs):FA:=λa b=>(bif a then(some b)else(some 0))
abbrev uo (f:Fs):FC:=λa=>(bif a.Kind==1 then(bif (↑(ah.rows a.ax).length:Int) !=0 then((f213 f true 1).bind λb=>(some b))else(bif decide ((↑(aN a.Names).length:Int)>0)then((f213 f true 1).bind λc=>(some c))else(bif decide ((↑(aU.rows a.aZ).length:Int)>0)then((f213 f true 1).bind λd=>(some d))else(bif a.Lo !=0 then((f213 f true 1).bind λe=>(some e))else(bif a.Hi !=0 then((f213 f true 1).bind λg=>(some g))else((f213 f false 1).bind λh=>(some h)))))))else(bif a.Kind==9 then(bif (↑(ah.rows a.ax).length:Int) !=0 then((f213 f true 1).bind λi=>(some i))else(bif decide ((↑(aN a.Names).length:Int)>0)then((f213 f true 1).bind λj=>(some j))else(bif decide ((↑(aU.rows a.aZ).length:Int)>0)then((f213 f true 1).bind λk=>(some k))else(bif a.Lo !=0 then((f213 f true 1).bind λl=>(some l))else(bif a.Hi !=0 then((f213 f true 1).bind λm=>(some m))else((f213 f false 1).bind λn=>(some n)))))))else(bif a.Kind==2 then(bif (↑(ah.rows a.ax).length:Int) !=0 then((f213 f true 1).bind λo=>(some o))else(bif decide ((↑(aN a.Names).length:Int)>0)then((f213 f true 1).bind λp=>(some p))else(bif decide ((↑(aU.rows a.aZ).length:Int)>0)then((f213 f true 1).bind λq=>(some q))else((f213 f false 1).bind λr=>(some r)))))else(bif a.Kind==3 then(bif (↑(ah.rows a.ax).length:Int) !=0 then((f213 f true 1).bind λs=>(some s))else(bif decide ((↑(aN a.Names).length:Int)>0)then((f213 f true 1).bind λt=>(some t))else(bif decide ((↑(aU.rows a.aZ).length:Int)>0)then((f213 f true 1).bind λu=>(some u))else((f213 f false 1).bind λv=>(some v)))))else(bif a.Kind==4 then(bif (↑(ah.rows a.ax).length:Int) !=0 then((f213 f true 1).bind λw=>(some w))else(bif decide ((↑(aU.rows a.aZ).length:Int)>0)then((f213 f true 1).bind λx=>(some x))else(bif a.Lo !=0 then((f213 f true 1).bind λy=>(some y))else(bif a.Hi !=0 then((f213 f true 1).bind λz=>(some z))else((f213 f false 1).bind λA=>(some A))))))else(bif a.Kind==8 then(bif (↑(ah.rows a.ax).length:Int) !=0 then((f213 f true 1).bind λB=>(some B))else(bif decide ((↑(aU.rows a.aZ).length:Int)>0)then((f213 f true 1).bind λC=>(some C))else(bif a.Lo !=0 then((f213 f true 1).bind λD=>(some D))else(bif a.Hi !=0 then((f213 f true 1).bind λE=>(some E))else((f213 f false 1).bind λF=>(some F))))))else(bif a.Kind==5 then(bif (↑(ah.rows a.ax).length:Int) !=1 then((f213 f true 1).bind λG=>(some G))else(bif decide ((↑(aU.rows a.aZ).length:Int)>0)then((f213 f true 1).bind λH=>(some H))else(bif a.Lo !=0 then((f213 f true 1).bind λJ=>(some J))else(bif a.Hi !=0 then((f213 f true 1).bind λK=>(some K))else((f213 f false 1).bind λL=>(some L))))))else(bif a.Kind==7 then(bif (↑(ah.rows a.ax).length:Int) !=2 then((f213 f true 1).bind λM=>(some M))else(bif decide ((↑(aN a.Names).length:Int)>0)then((f213 f true 1).bind λN=>(some N))else(bif decide ((↑(aU.rows a.aZ).length:Int)>0)then((f213 f true 1).bind λO=>(some O))else(bif a.Lo !=0 then((f213 f true 1).bind λP=>(some P))else(bif a.Hi !=0 then((f213 f true 1).bind λQ=>(some Q))else((f213 f false 1).bind λR=>(some R)))))))else(bif a.Kind==6 then(bif (↑(ah.rows a.ax).length:Int) !=(↑(aN a.Names).length:Int)then((f213 f true 1).bind λS=>(some S))else(bif decide ((↑(aU.rows a.aZ).length:Int)>0)then((f213 f true 1).bind λT=>(some T))else(bif a.Lo !=0 then((f213 f true 1).bind λU=>(some U))else(bif a.Hi !=0 then((f213 f true 1).bind λV=>(some V))else((f213 f ((↑(aN a.Names).length:Int)==0) 1).bind λW=>(some W))))))else(bif a.Kind==10 then(bif (↑(ah.rows a.ax).length:Int) !=0 then((f213 f true 1).bind λX=>(some X))else(bif a.Lo !=0 then((f213 f true 1).bind λY=>(some Y))else(bif a.Hi !=0 then((f213 f true 1).bind λZ=>(some Z))else((f213 f ((↑(aN a.Names).length:Int)==0) 1).bind λy100=>(some y100)))))else(some 1)))))))))))
abbrev wK (f:Fs):FD:=λa=>(bif a.Kind==6 then(bif decide ((↑(aN a.Names).length:Int)>8)then((f213 f true 6).bind λb=>(some b))else((f213 f (decide ((↑(aU.rows a.aZ).length:Int)>32)) 6).bind λc=>(some c)))else(bif a.Kind==10 then(bif decide ((↑(aN a.Names).length:Int)>12)then((f213 f true 6).bind λd=>(some d))else((f213 f (decide ((↑(aU.rows a.aZ).length:Int)>32)) 6).bind λe=>(some e)))else(bif decide ((↑(aN a.Names).length:Int)>32)then((f213 f true 6).bind λg=>(some g))else((f213 f (decide ((↑(aU.rows a.aZ).length:Int)>32)) 6).bind λh=>(some h)))))
abbrev sL (f:Fs):MJ:=λb c a=>(bif decide (a<(↑(aN b).length:Int))then((au b a).bind λd=>(bif c==d then(some a)else(zQ f b c (IntKind.i64.wrap (a+1)))))else(some (-1)))
abbrev uq (f:Fs):FE:=λa b=>(zQ f a b 0)
abbrev wL (f:Fs):FG:=λa b=>((f185 f a b).bind λc=>(some (decide (c>=0))))
abbrev qy (f:Fs):MK:=λa b=>(bif decide (b<(↑(aN a).length:Int))then((au a (IntKind.i64.wrap (b-1))).bind λc=>((au a b).bind λd=>(bif !Op.bytesLess c d then(some false)else(vC f a (IntKind.i64.wrap (b+1))))))else(some true))
abbrev uv (f:Fs):FH:=λa=>(vC f a 1)
abbrev xc (f:Fs):H9:=λa b=>((f131 f a b).bind λc=>(some c))
abbrev sM (f:Fs):ML:=λa c b=>(bif decide (b<(↑(aN a).length:Int))then((au a b).bind λd=>((f81 f c d).bind λe=>(bif !e then(some false)else(qz f a c (IntKind.i64.wrap (b+1))))))else(some true))
abbrev uw (f:Fs):FI:=λa b=>(qz f a b 0)
abbrev zU (f:Fs):MM:=λa c=>(bif decide (c<(↑(aU.rows a.aZ).length:Int))then((au a.aZ c).bind λb=>(bif (↑(aN b.If).length:Int)==0 then(some 3)else((f214 f b.If).bind λd=>(bif !d then(some 3)else((f215 f b.If a.Names).bind λe=>(bif !e then(some 3)else((f81 f a.Names b.eP).bind λg=>(bif !g then(some 3)else(zT f a (IntKind.i64.wrap (c+1)))))))))))else(some 0))
abbrev zW (f:Fs):MN:=λa c=>(bif decide (c<(↑(aU.rows a.aZ).length:Int))then((au a.aZ c).bind λb=>(bif (↑(aN b.If).length:Int)==0 then(some 3)else((f214 f b.If).bind λd=>(bif !d then(some 3)else((f215 f b.If a.Names).bind λe=>(bif !e then(some 3)else((f81 f a.Names b.eP).bind λg=>(bif !g then(some 3)else(zV f a (IntKind.i64.wrap (c+1)))))))))))else(some 0))
abbrev pc (f:Fs):MO:=λa c b=>(bif decide (b<(↑(aN a.Names).length:Int))then((au a.Names b).bind λd=>((f53 f d).bind λe=>(bif !e then(some 3)else(bif a.Kind==6 then((iV a.Names 0 b).bind λg=>((f131 f g d).bind λh=>(bif h then(some 3)else(lO f a c (IntKind.i64.wrap (b+1))))))else(lO f a c (IntKind.i64.wrap (b+1)))))))else(bif a.Kind !=6 then((f214 f a.Names).bind λi=>(bif !i then(some 3)else(zT f a 0)))else(zV f a 0)))
abbrev rj (f:Fs):FJ:=λa=>(lO f a 0 0)
abbrev ux (f:Fs):FK:=λa=>(bif decide (a.Lo>a.Hi)then((f213 f true 5).bind λb=>(some b))else(bif decide (a.Lo< -1000000000)then((f213 f true 5).bind λc=>(some c))else(bif decide (a.Lo>1000000000)then((f213 f true 5).bind λd=>(some d))else(bif decide (a.Hi< -1000000000)then((f213 f true 5).bind λe=>(some e))else((f213 f (decide (a.Hi>1000000000)) 5).bind λg=>(some g))))))
abbrev rk (f:Fs):FL:=λa=>(bif a.Kind==1 then(some true)else(bif a.Kind==2 then(some true)else(bif a.Kind==3 then(some true)else(bif a.Kind==7 then(bif (↑(ah.rows a.ax).length:Int)==2 then((au a.ax 0).bind λb=>((f216 f b).bind λc=>(bif c then((au a.ax 1).bind λd=>((f216 f d).bind λe=>(some e)))else(some false))))else(some false))else(some false)))))
abbrev uy (f:Fs):FM:=λa=>(bif a.Kind==7 then((au a.ax 0).bind λb=>((f216 f b).bind λc=>((f213 f (!c) 4).bind λd=>(some d))))else((f213 f false 4).bind λe=>(some e)))
abbrev pd (f:Fs):MP:=λa b=>(bif decide (b<(↑(eW IntKind.i64 a).length:Int))then((au a b).bind λc=>(bif c !=0 then(some c)else(mK f a (IntKind.i64.wrap (b+1)))))else(some 0))
abbrev rm (f:Fs):FN:=λa=>(mK f a 0)
abbrev py (f:Fs):OC:=λb d c e=>(bif decide (c<(↑(ah.rows b.ax).length:Int))then((au b.ax c).bind λg=>((f99 f e g (IntKind.i64.wrap (d+1))).bind λa=>(bif a.fst !=0 then(some (a.fst,a.snd))else(mT f b d (IntKind.i64.wrap (c+1)) a.snd))))else(some (0,e)))
abbrev uL (f:Fs):H':=λa b c=>(bif decide (c>6)then(some (6,a))else(bif decide (a.nodes>=64)then(some (6,a))else((f166 f b).bind λd=>(bif d !=0 then(some (d,({nodes:=IntKind.i64.wrap (a.nodes+1):dp})))else((f168 f b).bind λg=>((f169 f b).bind λh=>((f170 f b).bind λi=>((f171 f b).bind λj=>((f167 f ([g,h,i,j])).bind λe=>(bif e !=0 then(some (e,({nodes:=IntKind.i64.wrap (a.nodes+1):dp})))else(mT f b c 0 ({nodes:=IntKind.i64.wrap (a.nodes+1):dp}))))))))))))
abbrev uM (f:Fs):Ia:=λa=>((f99 f dp.z a 1).bind λb=>(some b.fst))
abbrev xd (f:Fs):Ib:=λa b=>(some (a.Name==b.On))
abbrev sj (f:Fs):Kn:=λb c a=>(bif decide (a<(↑(bt.rows b).length:Int))then((au b a).bind λd=>((f56 f d c).bind λe=>(bif e then(some a)else(yy f b c (IntKind.i64.wrap (a+1))))))else(some (-1)))
abbrev sN (f:Fs):DA:=λa b=>(yy f a b 0)
abbrev wM (f:Fs):FO:=λa b=>(some (a.Name==b.Name))
abbrev r8 (f:Fs):JT:=λb c a=>(bif decide (a<(↑(TParam.rows b).length:Int))then((au b a).bind λd=>((f106 f d c).bind λe=>(bif e then(some a)else(xT f b c (IntKind.i64.wrap (a+1))))))else(some (-1)))
abbrev sx (f:Fs):CO:=λa b=>(xT f a b 0)
abbrev vi (f:Fs):CP:=λa b=>((yO f a b).bind λc=>(some (decide (c>=0))))
abbrev pz (f:Fs):OD:=λa b=>(bif decide (b<(↑(TParam.rows a.Params).length:Int))then((au a.Params b).bind λc=>((f53 f c.Name).bind λd=>(bif !d then(some false)else(bif decide (c.aP<1)then(some false)else(bif decide (c.aP>4)then(some false)else((iV a.Params 0 b).bind λe=>((yR f e c).bind λg=>(bif g then(some false)else(mU f a (IntKind.i64.wrap (b+1)))))))))))else(some true))
abbrev uN (f:Fs):Ic:=λa=>((f53 f a.Name).bind λb=>(bif !b then(some false)else((f53 f a.On).bind λc=>(bif !c then(some false)else(bif decide ((↑(TParam.rows a.Params).length:Int)>8)then(some false)else(bif decide (a.Result<0)then(some false)else(bif decide (a.Result>4)then(some false)else(mU f a 0))))))))
abbrev ma (f:Fs):FP:=λb a=>(bif decide ((↑(ae.rows a.Kids).length:Int)>0)then(some ((⟨0,[],0,a.At,[]⟩,false)))else(bif a.Op==1 then(bif decide (-1000000000000000<=a.N)then(bif decide (a.N<=1000000000000000)then(some ((⟨44,[],a.N,a.At,[]⟩,true)))else(some ((⟨0,[],0,a.At,[]⟩,false))))else(some ((⟨0,[],0,a.At,[]⟩,false))))else(bif a.Op==2 then(bif a.N==1 then(some ((⟨45,[],0,a.At,[]⟩,true)))else(bif a.N==0 then(some ((⟨46,[],0,a.At,[]⟩,true)))else(some ((⟨0,[],0,a.At,[]⟩,false)))))else(bif a.Op==3 then((f53 f a.Text).bind λc=>(bif c then(some ((⟨47,a.Text,0,a.At,[]⟩,true)))else(some ((⟨0,[],0,a.At,[]⟩,false)))))else(bif a.Op==4 then(bif decide (0<=a.N)then(bif decide (a.N<(↑(TParam.rows b).length:Int))then((au b a.N).bind λd=>(some ((⟨48,d.Name,0,a.At,[]⟩,true))))else(some ((⟨0,[],0,a.At,[]⟩,false))))else(some ((⟨0,[],0,a.At,[]⟩,false))))else(some ((⟨0,[],0,a.At,[]⟩,false))))))))
abbrev jb (f:Fs):FQ:=λa=>(bif a==7 then(some ((30,3)))else(bif a==8 then(some ((31,2)))else(bif a==9 then(some ((32,2)))else(bif a==10 then(some ((33,1)))else(bif a==11 then(some ((34,2)))else(bif a==12 then(some ((35,2)))else(bif a==13 then(some ((36,2)))else(bif a==14 then(some ((37,2)))else(bif a==15 then(some ((38,2)))else(bif a==16 then(some ((39,2)))else(bif a==17 then(some ((40,2)))else(bif a==18 then(some ((41,2)))else(bif a==20 then(some ((43,2)))else(bif a==19 then(some ((42,1)))else(bif a==5 then(some ((49,0)))else(bif a==6 then(some ((50,0)))else(some ((0,0)))))))))))))))))))
abbrev od (f:Fs):FR:=λa=>(bif a==21 then(some ([102,108,97,103]))else(bif a==22 then(some ([110,117,109]))else(bif a==23 then(some ([115,101,116]))else(bif a==24 then(some ([109,97,112]))else(bif a==25 then(some ([114,101,99]))else(bif a==26 then(some ([112,97,105,114]))else(bif a==27 then(some ([111,110,101]))else(bif a==28 then(some ([119,114,105,116,101]))else(bif a==29 then(some ([115,105,122,101]))else(bif a==30 then(some ([115,117,109]))else(bif a==31 then(some ([110,117,109,98,101,114]))else(bif a==32 then(some ([111,110]))else(bif a==33 then(some ([107,101,121,115]))else(bif a==34 then(some ([118,97,108,117,101,115]))else(bif a==35 then(some ([102,105,114,115,116]))else(bif a==36 then(some ([115,101,99,111,110,100]))else(bif a==37 then(some ([99,111,110,102,108,105,99,116]))else(some ([])))))))))))))))))))
abbrev pB (f:Fs):OE:=λd a e c b=>(bif decide (b<(↑(ab.rows a).length:Int))then((au a b).bind λg=>((au a (IntKind.i64.wrap (b+1))).bind λh=>(bif decide (((c:List ab)++([⟨52,[],0,0,[g,h]⟩]:List ab)).length<=274877906944)then(kr f d a e (c++[⟨52,[],0,0,[g,h]⟩]) (IntKind.i64.wrap (b+2)))else none)))else(some ((⟨51,e,0,d.At,c⟩,true))))
abbrev pC (f:Fs):OF:=λa e g c b=>(bif decide (b<(↑(ab.rows e).length:Int))then((au e b).bind λd=>(bif d.Kind !=50 then((au a.ai.aj.Names b).bind λh=>(bif decide (((c:List ab)++([⟨52,h,0,0,[d]⟩]:List ab)).length<=274877906944)then(iU f a e g (c++[⟨52,h,0,0,[d]⟩]) (IntKind.i64.wrap (b+1)))else none))else(bif d.At !=a.At then((au a.ai.aj.Names b).bind λi=>(bif decide (((c:List ab)++([⟨52,i,0,0,[d]⟩]:List ab)).length<=274877906944)then(iU f a e g (c++[⟨52,i,0,0,[d]⟩]) (IntKind.i64.wrap (b+1)))else none))else(iU f a e g c (IntKind.i64.wrap (b+1))))))else(some ((⟨51,g,0,a.At,c⟩,true))))
abbrev pA (f:Fs):OG:=λg a j e b=>(bif decide (e<(↑(ae.rows a.Kids).length:Int))then((au a.Kids e).bind λk=>((f62 f g k).bind λh=>(bif !h.snd then(some ((⟨0,[],0,a.At,b⟩,false)))else(bif decide (((b:List ab)++([ab.z]:List ab)).length<=274877906944)then((au (b++[ab.z]) ((↑(ab.rows b).length:Int))).bind λm=>(gX f g a j (IntKind.i64.wrap (e+1)) ((b++[ab.z]).set (↑(ab.rows b).length:Int).toNat h.fst)))else none))))else((f108 f a.Op).bind λc=>(bif c.fst !=0 then(bif c.snd !=(↑(ae.rows a.Kids).length:Int)then(some ((⟨c.fst,[],0,a.At,b⟩,false)))else(bif c.fst==42 then((au a.Kids 0).bind λi=>(bif decide (a.N<0)then(some ((⟨c.fst,[],0,a.At,b⟩,false)))else(bif decide (a.N>=(↑(aN i.ai.aj.Names).length:Int))then(some ((⟨c.fst,[],0,a.At,b⟩,false)))else((au i.ai.aj.Names a.N).bind λl=>(some ((⟨c.fst,l,0,a.At,b⟩,true)))))))else(some ((⟨c.fst,[],0,a.At,b⟩,true)))))else((f109 f a.Op).bind λd=>(bif a.Op==24 then(bif (↑(ab.rows b).length:Int).tmod 2 !=0 then(some ((⟨51,d,0,a.At,b⟩,false)))else(kr f a b d ([]) 0))else(bif a.Op==25 then(bif (↑(aN a.ai.aj.Names).length:Int) !=(↑(ab.rows b).length:Int)then(some ((⟨51,d,0,a.At,b⟩,false)))else(iU f a b d ([]) 0))else(some ((⟨51,d,0,a.At,b⟩,!d==[])))))))))
abbrev rR (f:Fs):Ie:=λa b=>((f107 f a b).bind λc=>(bif c.snd then(some ((c.fst,true)))else(gX f a b false 0 ([]))))
abbrev A8 (f:Fs):FT:=λa=>(some ({aP:=0,aj:=a:az}))
abbrev A9 (f:Fs):FU:=λa=>(some ({aP:=a,aj:=ah.z:az}))
abbrev xe (f:Fs):Ig:=λb a=>(bif a.Result==0 then((f112 f b).bind λc=>(some c))else((f113 f a.Result).bind λd=>(some d)))
abbrev wN (f:Fs):FV:=λa b=>(some (a.Name==b.Text))
abbrev r9 (f:Fs):JU:=λb c a=>(bif decide (a<(↑(TParam.rows b).length:Int))then((au b a).bind λd=>((f157 f d c).bind λe=>(bif e then(some a)else(xU f b c (IntKind.i64.wrap (a+1))))))else(some (-1)))
abbrev sy (f:Fs):CR:=λa b=>(xU f a b 0)
abbrev iL (f:Fs):Ih:=λa b=>(some (.aO (AV.bB 28 (AV.agg (AV.v (Value.int IntKind.i64 a)::AV.v (Value.int IntKind.i64 b)::List.map AV.v [])))))
abbrev xf (f:Fs):Ii:=λa=>(bif a.aP==0 then(some (a.aj.Kind==0))else(some false))
abbrev dL (f:Fs):FW:=λa=>(bif a==[115,101,116]then(some (-1))else(bif a==[109,97,112]then(some (-1))else(bif a==[114,101,99]then(some (-1))else(bif a==[119,114,105,116,101]then(some 3)else(bif a==[112,97,105,114]then(some 2)else(some 1))))))
abbrev sO (f:Fs):MQ:=λb c a=>(bif decide (a<(↑(eW IntKind.i64 b).length:Int))then((au b a).bind λd=>(bif c==d then(some a)else(zX f b c (IntKind.i64.wrap (a+1)))))else(some (-1)))
abbrev uz (f:Fs):FX:=λa b=>(zX f a b 0)
abbrev wO (f:Fs):FY:=λa b=>((f236 f a b).bind λc=>(some (decide (c>=0))))
abbrev rn (f:Fs):FZ:=λc a b=>(bif a.aP !=0 then(aA (f80 f 4 b.At) λ_=>none)else((f199 f c a.aj.Kind).bind λd=>(bif !d then(aA (f80 f 4 b.At) λ_=>none)else(some (.ret (()))))))
abbrev wP (f:Fs):F1:=λa=>(bif decide ((([]:List (List UInt8))++(a:List (List UInt8))).length<=274877906944)then(some ([]++a))else none)
abbrev wo (f:Fs):E9:=λa=>(bif decide ((([]:List aU)++(a:List aU)).length<=274877906944)then(some ([]++a))else none)
abbrev wu (f:Fs):E':=λa=>(bif decide ((([]:List ah)++(a:List ah)).length<=274877906944)then(some ([]++a))else none)
abbrev tm (f:Fs):OH:=λb d e a c g=>(bif decide (a<(↑(ah.rows e).length:Int))then((au c a).bind λh=>((f66 f h).bind λi=>((au c a).bind λj=>(vV f b d e (IntKind.i64.wrap (a+1)) (c.set a.toNat i) g))))else(some (⟨b.Kind,b.Lo,b.Hi,d,c,g⟩)))
abbrev tj (f:Fs):OI:=λc d e a b=>(bif decide (a<(↑(aU.rows e).length:Int))then((au b a).bind λh=>((f100 f h.If).bind λi=>((au b a).bind λj=>(vU f c d e (IntKind.i64.wrap (a+1)) (b.set a.toNat {If:=i,eP:=j.eP:aU})))))else((Fb f c.ax).bind λg=>(vV f c d g 0 g b)))
abbrev xg (f:Fs):Ij:=λa=>((f100 f a.Names).bind λc=>((Fa f a.aZ).bind λb=>(vU f a c b 0 b)))
abbrev rp (f:Fs):F2:=λa=>(bif a.Kind==50 then(some true)else(bif a.Kind==51 then(bif a.Text==[102,108,97,103]then(some true)else(bif a.Text==[110,117,109]then(some true)else(bif a.Text==[115,101,116]then(some true)else(bif a.Text==[109,97,112]then(some true)else(bif a.Text==[114,101,99]then(some true)else(bif a.Text==[112,97,105,114]then(some true)else(bif a.Text==[111,110,101]then(some true)else(some false))))))))else(bif a.Kind==39 then((au a.Kids 0).bind λb=>((f238 f b).bind λc=>(bif c then((au a.Kids 1).bind λd=>((f238 f d).bind λe=>(some e)))else(some false))))else(bif a.Kind==30 then((au a.Kids 1).bind λg=>((f238 f g).bind λh=>(bif h then((au a.Kids 2).bind λi=>((f238 f i).bind λj=>(some j)))else(some false))))else(some false)))))
abbrev zZ (f:Fs):MR:=λb c a=>(bif decide (a<(↑(aN b).length:Int))then((au b a).bind λd=>((au c a).bind λe=>(bif !d==e then(some false)else(zY f b c (IntKind.i64.wrap (a+1))))))else(some true))
abbrev Bb (f:Fs):F5:=λa b=>(bif (↑(aN a).length:Int) !=(↑(aN b).length:Int)then(some false)else(zY f a b 0))
abbrev wQ (f:Fs):F6:=λa b=>(bif a.eP==b.eP then((f205 f a.If b.If).bind λc=>(some c))else(some false))
abbrev sd (f:Fs):J4:=λb c a=>(bif decide (a<(↑(aU.rows b).length:Int))then((au b a).bind λd=>((au c a).bind λe=>((f207 f d e).bind λg=>(bif !g then(some false)else(sb f b c (IntKind.i64.wrap (a+1)))))))else(some true))
abbrev vo (f:Fs):Db:=λa b=>(bif (↑(aU.rows a).length:Int) !=(↑(aU.rows b).length:Int)then(some false)else(sb f a b 0))
abbrev wR (f:Fs):F7:=λa b=>(bif a.Kind==b.Kind then(bif a.Lo==b.Lo then(bif a.Hi==b.Hi then((f205 f a.Names b.Names).bind λc=>(bif c then((zr f a.aZ b.aZ).bind λd=>(bif d then((zt f a.ax b.ax).bind λe=>(some e))else(some false)))else(some false)))else(some false))else(some false))else(some false))
abbrev sf (f:Fs):J5:=λb c a=>(bif decide (a<(↑(ah.rows b).length:Int))then((au b a).bind λd=>((au c a).bind λe=>((f161 f d e).bind λg=>(bif !g then(some false)else(se f b c (IntKind.i64.wrap (a+1)))))))else(some true))
abbrev vp (f:Fs):Dc:=λa b=>(bif (↑(ah.rows a).length:Int) !=(↑(ah.rows b).length:Int)then(some false)else(se f a b 0))
abbrev xh (f:Fs):Ik:=λa b=>(bif a.aP==b.aP then((f161 f a.aj b.aj).bind λc=>(some c))else(some false))
abbrev rS (f:Fs):Il:=λe b c=>(aA (f91 f e b c) λa=>((f66 f a.ai.aj).bind λd=>((f92 f c).bind λg=>(bif !g then((f93 f c ({aP:=a.ai.aP,aj:=d:az})).bind λh=>(bif !h then(aA (f80 f 4 b.At) λ_=>none)else(some (.ret (⟨a.Op,{aP:=a.ai.aP,aj:=d:az},a.N,a.Text,b.At,a.Kids⟩)))))else(some (.ret (⟨a.Op,{aP:=a.ai.aP,aj:=d:az},a.N,a.Text,b.At,a.Kids⟩)))))))
abbrev dN (f:Fs):Im:=λb a e=>((f113 f 2).bind λc=>((f113 f 1).bind λd=>((f113 f 3).bind λh=>(bif a.Kind==44 then(some (.ret (⟨1,d,a.N,[],0,[]⟩)))else(bif a.Kind==45 then(some (.ret (⟨2,c,1,[],0,[]⟩)))else(bif a.Kind==46 then(some (.ret (⟨2,c,0,[],0,[]⟩)))else(bif a.Kind==47 then(some (.ret (⟨3,h,0,a.Text,0,[]⟩)))else(bif a.Kind==48 then((vj f b.params a).bind λg=>(bif decide (g<0)then(aA (f80 f 3 a.At) λ_=>none)else((au b.params g).bind λi=>((f113 f i.aP).bind λj=>(some (.ret (⟨4,j,g,[],0,[]⟩)))))))else(bif a.Kind==49 then((f112 f b.l).bind λk=>(some (.ret (⟨5,k,0,[],0,[]⟩))))else(bif a.Kind==50 then(bif e.aP !=0 then(aA (f80 f 4 a.At) λ_=>none)else((f92 f e).bind λm=>(bif m then(aA (f80 f 4 a.At) λ_=>none)else(some (.ret (⟨6,e,0,[],0,[]⟩))))))else(bif a.Kind==31 then(aA (f158 f b 8 a c c c) λn=>(some (.ret n)))else(bif a.Kind==32 then(aA (f158 f b 9 a c c c) λo=>(some (.ret o)))else(bif a.Kind==33 then((au a.Kids 0).bind λp=>(aA (f48 f b p c) λq=>(some (.ret (⟨10,c,0,[],0,[q]⟩)))))else(bif a.Kind==34 then(aA (f158 f b 11 a d d c) λr=>(some (.ret r)))else(bif a.Kind==35 then(aA (f158 f b 12 a d d c) λs=>(some (.ret s)))else(bif a.Kind==37 then((f113 f 4).bind λt=>(aA (f158 f b 14 a h t c) λu=>(some (.ret u))))else(bif a.Kind==40 then(aA (f158 f b 17 a d d d) λv=>(some (.ret v)))else(bif a.Kind==41 then(aA (f158 f b 18 a d d d) λw=>(some (.ret w)))else(bif a.Kind==51 then(aA (f159 f b a e) λx=>(some (.ret x)))else(aA (f160 f b a e) λy=>(some (.ret y))))))))))))))))))))))
abbrev rq (f:Fs):F8:=λa c b d e g=>((au b.Kids 0).bind λh=>(aA (f48 f a h d) λi=>((au b.Kids 1).bind λj=>(aA (f48 f a j e) λk=>(some (.ret (⟨c,g,0,[],0,[i,k]⟩)))))))
abbrev Dx (f:Fs):MS:=λd b e c a=>(bif decide (c<(↑(ab.rows b.Kids).length:Int))then((au b.Kids c).bind λh=>(aA (f48 f d h az.z) λg=>(bif decide (((a:List ae)++([ae.z]:List ae)).length<=274877906944)then((au (a++[ae.z]) ((↑(ae.rows a).length:Int))).bind λj=>((au ((a++[ae.z]).set (↑(ae.rows a).length:Int).toNat g) (IntKind.i64.wrap ((↑(ae.rows a++ae.rows [ae.z]).length:Int)-1))).bind λi=>(bif i.ai.aP !=3 then(bif i.ai.aP !=4 then(aA (f80 f 4 h.At) λ_=>none)else(z6 f d b e (IntKind.i64.wrap (c+1)) ((a++[ae.z]).set (↑(ae.rows a).length:Int).toNat g)))else(z6 f d b e (IntKind.i64.wrap (c+1)) ((a++[ae.z]).set (↑(ae.rows a).length:Int).toNat g)))))else none)))else(some (.ret (⟨23,e,0,[],0,a⟩))))
abbrev Dz (f:Fs):MT:=λb c d e a=>(bif decide (e<(↑(ab.rows c.Kids).length:Int))then((au c.Kids e).bind λh=>((au h.Kids 0).bind λi=>((f113 f 3).bind λj=>(aA (f48 f b i j) λg=>(bif decide (((a:List ae)++([ae.z]:List ae)).length<=274877906944)then((au (a++[ae.z]) ((↑(ae.rows a).length:Int))).bind λo=>((au h.Kids 1).bind λk=>((au d.aj.ax 0).bind λl=>((f112 f l).bind λm=>(aA (f48 f b k m) λn=>(bif decide ((((a++[ae.z]).set (↑(ae.rows a).length:Int).toNat g:List ae)++([ae.z]:List ae)).length<=274877906944)then((au ((a++[ae.z]).set (↑(ae.rows a).length:Int).toNat g++[ae.z]) ((↑(ae.rows a++ae.rows [ae.z]).length:Int))).bind λp=>(Dy f b c d (IntKind.i64.wrap (e+1)) (((a++[ae.z]).set (↑(ae.rows a).length:Int).toNat g++[ae.z]).set (↑(ae.rows a++ae.rows [ae.z]).length:Int).toNat n)))else none))))))else none)))))else(some (.ret (⟨24,d,0,[],0,a⟩))))
abbrev kT (f:Fs):MU:=λd b e c a=>(bif decide (c<(↑(ab.rows b.Kids).length:Int))then((au b.Kids c).bind λh=>(aA (f48 f d h az.z) λg=>(bif decide (((a:List ae)++([ae.z]:List ae)).length<=274877906944)then((au (a++[ae.z]) ((↑(ae.rows a).length:Int))).bind λj=>((au ((a++[ae.z]).set (↑(ae.rows a).length:Int).toNat g) (IntKind.i64.wrap ((↑(ae.rows a++ae.rows [ae.z]).length:Int)-1))).bind λi=>(bif i.ai.aP !=3 then(bif i.ai.aP !=4 then(aA (f80 f 4 h.At) λ_=>none)else(gz f d b e (IntKind.i64.wrap (c+1)) ((a++[ae.z]).set (↑(ae.rows a).length:Int).toNat g)))else(gz f d b e (IntKind.i64.wrap (c+1)) ((a++[ae.z]).set (↑(ae.rows a).length:Int).toNat g)))))else none)))else(some (.ret (⟨23,e,0,[],0,a⟩))))
abbrev mL (f:Fs):MV:=λb c d e a=>(bif decide (e<(↑(ab.rows c.Kids).length:Int))then((au c.Kids e).bind λh=>((au h.Kids 0).bind λi=>((f113 f 3).bind λj=>(aA (f48 f b i j) λg=>(bif decide (((a:List ae)++([ae.z]:List ae)).length<=274877906944)then((au (a++[ae.z]) ((↑(ae.rows a).length:Int))).bind λo=>((au h.Kids 1).bind λk=>((au d.aj.ax 0).bind λl=>((f112 f l).bind λm=>(aA (f48 f b k m) λn=>(bif decide ((((a++[ae.z]).set (↑(ae.rows a).length:Int).toNat g:List ae)++([ae.z]:List ae)).length<=274877906944)then((au ((a++[ae.z]).set (↑(ae.rows a).length:Int).toNat g++[ae.z]) ((↑(ae.rows a++ae.rows [ae.z]).length:Int))).bind λp=>(jy f b c d (IntKind.i64.wrap (e+1)) (((a++[ae.z]).set (↑(ae.rows a).length:Int).toNat g++[ae.z]).set (↑(ae.rows a++ae.rows [ae.z]).length:Int).toNat n)))else none))))))else none)))))else(some (.ret (⟨24,d,0,[],0,a⟩))))
abbrev dM (f:Fs):F9:=λc a b=>((f197 f a.Text).bind λk=>(bif decide (k>=0)then(bif k !=(↑(ab.rows a.Kids).length:Int)then(aA (f80 f 1 a.At) λ_=>none)else(bif a.Text==[102,108,97,103]then(cx (f198 f ([1]) b a) λy6=>((au a.Kids 0).bind λn=>((f113 f 2).bind λo=>(aA (f48 f c n o) λp=>(bif decide (([ae.z]:List ae).length<=274877906944)then((au ([ae.z]) ((↑0:Int))).bind λx12=>(some (.ret (⟨21,b,0,[],0,[ae.z].set (Int.toNat 0) p⟩))))else none)))))else(bif a.Text==[110,117,109]then(cx (f198 f ([2,3]) b a) λy15=>((au a.Kids 0).bind λq=>((f113 f 1).bind λr=>(aA (f48 f c q r) λs=>(bif decide (([ae.z]:List ae).length<=274877906944)then((au ([ae.z]) ((↑0:Int))).bind λx21=>(some (.ret (⟨22,b,0,[],0,[ae.z].set (Int.toNat 0) s⟩))))else none)))))else(bif a.Text==[115,101,116]then(cx (f198 f ([4,10]) b a) λy24=>(z6 f c a b 0 ([])))else(bif a.Text==[109,97,112]then(cx (f198 f ([5]) b a) λy51=>(Dy f c a b 0 ([])))else(bif a.Text==[114,101,99]then(cx (f198 f ([6]) b a) λy85=>(aA (f201 f c a b.aj) λt=>(some (.ret (⟨25,b,0,[],0,t⟩)))))else(bif a.Text==[112,97,105,114]then(cx (f198 f ([7]) b a) λy88=>((au a.Kids 0).bind λu=>((au b.aj.ax 0).bind λv=>((f112 f v).bind λw=>(aA (f48 f c u w) λg=>(bif decide (([ae.z]:List ae).length<=274877906944)then((au ([ae.z]) ((↑0:Int))).bind λx96=>((au a.Kids 1).bind λx=>((au b.aj.ax 1).bind λy=>((f112 f y).bind λA=>(aA (f48 f c x A) λB=>(bif decide ((([ae.z].set (Int.toNat 0) g:List ae)++([ae.z]:List ae)).length<=274877906944)then((au ([ae.z].set (Int.toNat 0) g++[ae.z]) ((↑1:Int))).bind λx105=>(some (.ret (⟨26,b,0,[],0,([ae.z].set (Int.toNat 0) g++[ae.z]).set (Int.toNat 1) B⟩))))else none))))))else none))))))else(bif a.Text==[111,110,101]then(cx (f198 f ([8]) b a) λy108=>((au a.Kids 0).bind λC=>((f113 f 3).bind λD=>(aA (f48 f c C D) λE=>(bif decide (([ae.z]:List ae).length<=274877906944)then((au ([ae.z]) ((↑0:Int))).bind λx114=>(some (.ret (⟨27,b,0,[],0,[ae.z].set (Int.toNat 0) E⟩))))else none)))))else(bif a.Text==[119,114,105,116,101]then((f112 f (⟨9,0,0,[],[],[]⟩)).bind λl=>((au a.Kids 0).bind λF=>(aA (f48 f c F l) λd=>(bif decide (([ae.z]:List ae).length<=274877906944)then((au ([ae.z]) ((↑0:Int))).bind λx122=>((au a.Kids 1).bind λG=>((f113 f 1).bind λH=>(aA (f48 f c G H) λh=>(bif decide ((([ae.z].set (Int.toNat 0) d:List ae)++([ae.z]:List ae)).length<=274877906944)then((au ([ae.z].set (Int.toNat 0) d++[ae.z]) ((↑1:Int))).bind λx129=>((au a.Kids 2).bind λJ=>((f113 f 3).bind λK=>(aA (f48 f c J K) λL=>(bif decide (((([ae.z].set (Int.toNat 0) d++[ae.z]).set (Int.toNat 1) h:List ae)++([ae.z]:List ae)).length<=274877906944)then((au (([ae.z].set (Int.toNat 0) d++[ae.z]).set (Int.toNat 1) h++[ae.z]) ((↑2:Int))).bind λx136=>(some (.ret (⟨28,l,0,[],0,(([ae.z].set (Int.toNat 0) d++[ae.z]).set (Int.toNat 1) h++[ae.z]).set (Int.toNat 2) L⟩))))else none)))))else none)))))else none))))else(aA (f202 f c a) λM=>(some (.ret M))))))))))))else(bif a.Text==[102,108,97,103]then(cx (f198 f ([1]) b a) λy140=>((au a.Kids 0).bind λN=>((f113 f 2).bind λO=>(aA (f48 f c N O) λP=>(bif decide (([ae.z]:List ae).length<=274877906944)then((au ([ae.z]) ((↑0:Int))).bind λx146=>(some (.ret (⟨21,b,0,[],0,[ae.z].set (Int.toNat 0) P⟩))))else none)))))else(bif a.Text==[110,117,109]then(cx (f198 f ([2,3]) b a) λy149=>((au a.Kids 0).bind λQ=>((f113 f 1).bind λR=>(aA (f48 f c Q R) λS=>(bif decide (([ae.z]:List ae).length<=274877906944)then((au ([ae.z]) ((↑0:Int))).bind λx155=>(some (.ret (⟨22,b,0,[],0,[ae.z].set (Int.toNat 0) S⟩))))else none)))))else(bif a.Text==[115,101,116]then(cx (f198 f ([4,10]) b a) λy158=>(gz f c a b 0 ([])))else(bif a.Text==[109,97,112]then(cx (f198 f ([5]) b a) λy185=>(jy f c a b 0 ([])))else(bif a.Text==[114,101,99]then(cx (f198 f ([6]) b a) λy219=>(aA (f201 f c a b.aj) λT=>(some (.ret (⟨25,b,0,[],0,T⟩)))))else(bif a.Text==[112,97,105,114]then(cx (f198 f ([7]) b a) λy222=>((au a.Kids 0).bind λU=>((au b.aj.ax 0).bind λV=>((f112 f V).bind λW=>(aA (f48 f c U W) λi=>(bif decide (([ae.z]:List ae).length<=274877906944)then((au ([ae.z]) ((↑0:Int))).bind λx230=>((au a.Kids 1).bind λX=>((au b.aj.ax 1).bind λY=>((f112 f Y).bind λZ=>(aA (f48 f c X Z) λy237=>(bif decide ((([ae.z].set (Int.toNat 0) i:List ae)++([ae.z]:List ae)).length<=274877906944)then((au ([ae.z].set (Int.toNat 0) i++[ae.z]) ((↑1:Int))).bind λx239=>(some (.ret (⟨26,b,0,[],0,([ae.z].set (Int.toNat 0) i++[ae.z]).set (Int.toNat 1) y237⟩))))else none))))))else none))))))else(bif a.Text==[111,110,101]then(cx (f198 f ([8]) b a) λy242=>((au a.Kids 0).bind λx243=>((f113 f 3).bind λy245=>(aA (f48 f c x243 y245) λy246=>(bif decide (([ae.z]:List ae).length<=274877906944)then((au ([ae.z]) ((↑0:Int))).bind λx248=>(some (.ret (⟨27,b,0,[],0,[ae.z].set (Int.toNat 0) y246⟩))))else none)))))else(bif a.Text==[119,114,105,116,101]then((f112 f (⟨9,0,0,[],[],[]⟩)).bind λm=>((au a.Kids 0).bind λx252=>(aA (f48 f c x252 m) λe=>(bif decide (([ae.z]:List ae).length<=274877906944)then((au ([ae.z]) ((↑0:Int))).bind λx256=>((au a.Kids 1).bind λx258=>((f113 f 1).bind λy260=>(aA (f48 f c x258 y260) λj=>(bif decide ((([ae.z].set (Int.toNat 0) e:List ae)++([ae.z]:List ae)).length<=274877906944)then((au ([ae.z].set (Int.toNat 0) e++[ae.z]) ((↑1:Int))).bind λx263=>((au a.Kids 2).bind λx265=>((f113 f 3).bind λy267=>(aA (f48 f c x265 y267) λy268=>(bif decide (((([ae.z].set (Int.toNat 0) e++[ae.z]).set (Int.toNat 1) j:List ae)++([ae.z]:List ae)).length<=274877906944)then((au (([ae.z].set (Int.toNat 0) e++[ae.z]).set (Int.toNat 1) j++[ae.z]) ((↑2:Int))).bind λx270=>(some (.ret (⟨28,m,0,[],0,(([ae.z].set (Int.toNat 0) e++[ae.z]).set (Int.toNat 1) j++[ae.z]).set (Int.toNat 2) y268⟩))))else none)))))else none)))))else none))))else(aA (f202 f c a) λy272=>(some (.ret y272)))))))))))))
abbrev mM (f:Fs):MW:=λd b e c a=>(bif decide (a<(↑(ah.rows b.ax).length:Int))then((au b.ax a).bind λg=>((au e a).bind λh=>(bif !h then((f66 f g).bind λi=>((f112 f i).bind λj=>((au c a).bind λk=>(jz f d b e (c.set a.toNat ⟨6,j,0,[],d.At,[]⟩) (IntKind.i64.wrap (a+1))))))else(jz f d b e c (IntKind.i64.wrap (a+1))))))else(some (.ret c)))
abbrev mN (f:Fs):MX:=λi b c g d h=>(bif decide (h<(↑(ab.rows b.Kids).length:Int))then((au b.Kids h).bind λe=>((f185 f c.Names e.Text).bind λa=>(bif decide (a<0)then(aA (f80 f 3 e.At) λ_=>none)else((au d a).bind λj=>(bif j then(aA (f80 f 3 e.At) λ_=>none)else((au e.Kids 0).bind λk=>((au c.ax a).bind λl=>((f112 f l).bind λm=>(aA (f48 f i k m) λn=>((au g a).bind λo=>((au d a).bind λp=>(lQ f i b c (g.set a.toNat n) (d.set a.toNat true) (IntKind.i64.wrap (h+1))))))))))))))else(jz f b c d g 0))
abbrev ry (f:Fs):F':=λb c a=>((wv ((↑(ah.rows a.ax).length:Int))).bind λm1=>((wv ((↑(ah.rows a.ax).length:Int))).bind λm2=>(lQ f b c a (List.replicate m1 ae.z) (List.replicate m2 false) 0)))
abbrev jc (f:Fs):Ga:=λb a=>((au a.Kids 0).bind λc=>((f113 f 2).bind λj=>((f113 f 1).bind λh=>((f113 f 4).bind λk=>(bif a.Text==[115,105,122,101]then(aA (f48 f b c az.z) λg=>(bif g.ai.aP !=4 then(bif g.ai.aP !=0 then(aA (f80 f 4 a.At) λ_=>none)else((f199 f ([4,5,9,10]) g.ai.aj.Kind).bind λm=>(bif !m then(aA (f80 f 4 a.At) λ_=>none)else(some (.ret (⟨29,h,0,[],0,[g]⟩))))))else(some (.ret (⟨29,h,0,[],0,[g]⟩)))))else(bif a.Text==[115,117,109]then(aA (f237 f 30 h ([5]) b a c) λi=>((au i.Kids 0).bind λn=>((au n.ai.aj.ax 0).bind λl=>(bif l.Kind !=2 then(bif l.Kind !=3 then(aA (f80 f 4 a.At) λ_=>none)else(some (.ret i)))else(some (.ret i))))))else(bif a.Text==[110,117,109,98,101,114]then(aA (f237 f 31 h ([2,3]) b a c) λo=>(some (.ret o)))else(bif a.Text==[111,110]then(aA (f237 f 32 j ([1]) b a c) λp=>(some (.ret p)))else(bif a.Text==[107,101,121,115]then(aA (f237 f 33 k ([5,4,10]) b a c) λq=>(some (.ret q)))else(bif a.Text==[118,97,108,117,101,115]then(aA (f237 f 34 k ([8,9]) b a c) λr=>(some (.ret r)))else(bif a.Text==[99,111,110,102,108,105,99,116]then(aA (f237 f 37 j ([8,9]) b a c) λs=>(some (.ret s)))else(bif a.Text==[115,101,99,111,110,100]then(aA (f237 f 36 az.z ([7]) b a c) λd=>((au d.Kids 0).bind λt=>((au t.ai.aj.ax 1).bind λu=>((f112 f u).bind λv=>(some (.ret (⟨d.Op,v,d.N,d.Text,d.At,d.Kids⟩)))))))else(aA (f237 f 35 az.z ([7]) b a c) λe=>((au e.Kids 0).bind λw=>((au w.ai.aj.ax 0).bind λx=>((f112 f x).bind λy=>(some (.ret (⟨e.Op,y,e.N,e.Text,e.At,e.Kids⟩)))))))))))))))))))
abbrev nr (f:Fs):Gb:=λa b c d e g=>(aA (f204 f d e g c) λh=>(some (.ret (⟨a,b,0,[],0,[h]⟩))))
abbrev og (f:Fs):Gc:=λc b d e=>(aA (f48 f c d az.z) λa=>(bif a.ai.aP !=0 then(aA (f80 f 4 b.At) λ_=>none)else((f199 f e a.ai.aj.Kind).bind λg=>(bif !g then(aA (f80 f 4 b.At) λ_=>none)else(some (.ret a))))))
abbrev ie (f:Fs):Gd:=λb a c=>((f113 f 2).bind λd=>(bif a.Kind==30 then((au a.Kids 0).bind λo=>(aA (f48 f b o d) λk=>((f92 f c).bind λp=>(bif p then((au a.Kids 1).bind λq=>((au a.Kids 2).bind λr=>(aA (f203 f b a q r false) λe=>(some (.ret (⟨7,e.fst.ai,0,[],0,[k,e.fst,e.snd]⟩))))))else((au a.Kids 1).bind λs=>(aA (f48 f b s c) λl=>((au a.Kids 2).bind λt=>(aA (f48 f b t c) λu=>(some (.ret (⟨7,l.ai,0,[],0,[k,l,u]⟩)))))))))))else(bif a.Kind==36 then((au a.Kids 0).bind λv=>(aA (f48 f b v az.z) λg=>(bif g.ai.aP==0 then((au a.Kids 0).bind λw=>(aA (f80 f 4 w.At) λ_=>none))else((au a.Kids 1).bind λx=>(aA (f48 f b x g.ai) λy=>(some (.ret (⟨13,d,0,[],0,[g,y]⟩))))))))else(bif a.Kind==38 then((au a.Kids 0).bind λA=>((au a.Kids 1).bind λB=>(aA (f203 f b a A B true) λm=>(some (.ret (⟨15,d,0,[],0,[m.fst,m.snd]⟩))))))else(bif a.Kind==39 then((f92 f c).bind λC=>(bif !C then(bif c.aP !=0 then(aA (f80 f 4 a.At) λ_=>none)else(aA (f158 f b 16 a c c c) λD=>(some (.ret D))))else((au a.Kids 0).bind λE=>((au a.Kids 1).bind λF=>(aA (f203 f b a E F true) λh=>(some (.ret (⟨16,h.fst.ai,0,[],0,[h.fst,h.snd]⟩))))))))else(bif a.Kind==42 then((au a.Kids 0).bind λG=>(aA (f204 f b a G ([6])) λi=>((f185 f i.ai.aj.Names a.Text).bind λj=>(bif decide (j<0)then(aA (f80 f 3 a.At) λ_=>none)else((au i.ai.aj.ax j).bind λH=>((f112 f H).bind λJ=>(some (.ret (⟨19,J,j,[],0,[i]⟩)))))))))else((au a.Kids 0).bind λK=>(aA (f204 f b a K ([5])) λn=>((au a.Kids 1).bind λL=>((f113 f 3).bind λM=>(aA (f48 f b L M) λN=>((au n.ai.aj.ax 0).bind λO=>((f112 f O).bind λP=>(some (.ret (⟨20,P,0,[],0,[n,N]⟩))))))))))))))))
abbrev rz (f:Fs):Ge:=λa h b c g=>((f238 f b).bind λi=>(bif i then((f238 f c).bind λj=>(bif j then(aA (f80 f 4 h.At) λ_=>none)else(aA (f48 f a c az.z) λd=>(bif g then(bif d.ai.aP !=0 then(aA (f80 f 4 c.At) λ_=>none)else(aA (f48 f a b d.ai) λk=>(some (.ret ((k,d))))))else(aA (f48 f a b d.ai) λl=>(some (.ret ((l,d)))))))))else(aA (f48 f a b az.z) λe=>(bif g then(bif e.ai.aP !=0 then(aA (f80 f 4 b.At) λ_=>none)else(aA (f48 f a c e.ai) λm=>(some (.ret ((e,m))))))else(aA (f48 f a c e.ai) λn=>(some (.ret ((e,n)))))))))
abbrev uS (f:Fs):Io:=λa b c d=>(fx 28 (f48 f ({l:=a,params:=b:bO}) d c) (λc3 c4=>(bif c3 !=0 then(some ((ae.z,{Code:=c3,At:=c4:aM})))else(some ((ae.z,{Code:=c3,At:=c4:aM}))))) λe=>(some ((e,aM.z))))
abbrev xj (f:Fs):Ip:=λa b=>(bif a.Op==b.Op then(bif a.N==b.N then(bif a.Text==b.Text then(bif a.At==b.At then((f93 f a.ai b.ai).bind λc=>(bif c then((z8 f a.Kids b.Kids).bind λd=>(some d))else(some false)))else(some false))else(some false))else(some false))else(some false))
abbrev sm (f:Fs):Ko:=λb c a=>(bif decide (a<(↑(ae.rows b).length:Int))then((au b a).bind λd=>((au c a).bind λe=>((f64 f d e).bind λg=>(bif !g then(some false)else(sk f b c (IntKind.i64.wrap (a+1)))))))else(some true))
abbrev vD (f:Fs):DB:=λa b=>(bif (↑(ae.rows a).length:Int) !=(↑(ae.rows b).length:Int)then(some false)else(sk f a b 0))
abbrev uT (f:Fs):Iq:=λb a=>((f54 f b).bind λe=>(bif e !=0 then(some false)else((f61 f a).bind λg=>(bif !g then(some false)else((f62 f a.Params a.Body).bind λc=>(bif !c.snd then(some false)else((f63 f b a).bind λh=>((f18 f b a.Params h c.fst).bind λd=>(bif d.snd.Code==0 then((f64 f d.fst a.Body).bind λi=>(some i))else(some false))))))))))
abbrev tn (f:Fs):OJ:=λb h i j m n g d e k c=>(bif decide (c<(↑(bl.rows d).length:Int))then((au d c).bind λa=>((z7 f b.bH a).bind λl=>(bif decide (l<0)then(some false)else(bif !(a.Result==0)==(g==0)then(some false)else(bif decide (c>0)then((au d (IntKind.i64.wrap (c-1))).bind λo=>(bif !Op.bytesLess o.Name a.Name then(some false)else((au b.bH l).bind λp=>((f25 f p.aj a).bind λq=>(bif !q then(some false)else(bif decide (((e:List (List UInt8))++([a.Name]:List (List UInt8))).length<=274877906944)then(mV f b h i j m n g d (e++[a.Name]) k (IntKind.i64.wrap (c+1)))else none))))))else((au b.bH l).bind λr=>((f25 f r.aj a).bind λs=>(bif !s then(some false)else(bif decide (((e:List (List UInt8))++([a.Name]:List (List UInt8))).length<=274877906944)then(mV f b h i j m n g d (e++[a.Name]) k (IntKind.i64.wrap (c+1)))else none)))))))))else(vW f b h i j e k (IntKind.i64.wrap (g+1))))
abbrev qN (f:Fs):OK:=λb e g h a c d=>(bif decide (d<(↑2:Int))then((au ([b.cQ,b.Queries]) d).bind λi=>(mV f b e g h a c d i a c 0))else(bif c then((f57 f a).bind λj=>(some ((↑(aN j).length:Int)==(↑(aN a).length:Int))))else(some false)))
abbrev tp (f:Fs):OL:=λc e d a=>(bif decide (a<(↑(bt.rows c.bH).length:Int))then((au c.bH a).bind λb=>((f53 f b.Name).bind λg=>(bif !g then(some false)else((f54 f b.aj).bind λh=>(bif h !=0 then(some false)else(bif decide (a>0)then((au c.bH (IntKind.i64.wrap (a-1))).bind λi=>(bif !Op.bytesLess i.Name b.Name then(some false)else(bif decide (((d:List (List UInt8))++([b.Name]:List (List UInt8))).length<=274877906944)then(nR f c e (d++[b.Name]) (IntKind.i64.wrap (a+1)))else none)))else(bif decide (((d:List (List UInt8))++([b.Name]:List (List UInt8))).length<=274877906944)then(nR f c e (d++[b.Name]) (IntKind.i64.wrap (a+1)))else none)))))))else(vW f c e d a d true 0))
abbrev xk (f:Fs):Ir:=λa=>(bif decide (IntKind.i64.wrap (IntKind.i64.wrap ((↑(bt.rows a.bH).length:Int)+(↑(bl.rows a.cQ).length:Int))+(↑(bl.rows a.Queries).length:Int))>64)then(some false)else(nR f a false ([]) 0))
abbrev uD (f:Fs):Gg:=λa=>(bif a.Kind==2 then(bif (↑(aU.rows a.aZ).length:Int) !=0 then(some false)else(bif (↑(aN a.Names).length:Int)==0 then(some ((↑(ah.rows a.ax).length:Int)==0))else(some false)))else(bif !a.Kind==3 then(bif a.Lo !=0 then(some false)else(bif a.Hi !=0 then(some false)else(bif a.Kind !=10 then(bif (↑(aU.rows a.aZ).length:Int) !=0 then(some false)else(bif a.Kind==1 then(bif (↑(aN a.Names).length:Int)==0 then(some ((↑(ah.rows a.ax).length:Int)==0))else(some false))else(bif a.Kind==9 then(bif (↑(aN a.Names).length:Int)==0 then(some ((↑(ah.rows a.ax).length:Int)==0))else(some false))else(bif a.Kind==4 then(some ((↑(ah.rows a.ax).length:Int)==0))else(bif a.Kind==8 then(some ((↑(ah.rows a.ax).length:Int)==0))else(bif a.Kind==5 then(some ((↑(ah.rows a.ax).length:Int)==1))else(bif a.Kind==6 then(bif decide ((↑(aN a.Names).length:Int)>0)then(some ((↑(aN a.Names).length:Int)==(↑(ah.rows a.ax).length:Int)))else(some false))else(bif a.Kind==7 then(bif (↑(aN a.Names).length:Int)==0 then(some ((↑(ah.rows a.ax).length:Int)==2))else(some false))else(some false)))))))))else(bif decide ((↑(aN a.Names).length:Int)>0)then(some ((↑(ah.rows a.ax).length:Int)==0))else(some false)))))else(bif (↑(aU.rows a.aZ).length:Int) !=0 then(some false)else(bif (↑(aN a.Names).length:Int)==0 then(some ((↑(ah.rows a.ax).length:Int)==0))else(some false)))))
abbrev sS (f:Fs):MY:=λa b=>(bif decide (b<(↑a.length:Int))then((au (a:List UInt8) b).bind λc=>(bif decide ((↑c.toNat:Int)<97)then((au (a:List UInt8) b).bind λd=>(bif decide ((↑d.toNat:Int)<48)then((au (a:List UInt8) b).bind λe=>(bif (↑e.toNat:Int) !=45 then(some false)else(lR f a (IntKind.i64.wrap (b+1)))))else((au (a:List UInt8) b).bind λg=>(bif decide ((↑g.toNat:Int)>57)then((au (a:List UInt8) b).bind λh=>(bif (↑h.toNat:Int) !=45 then(some false)else(lR f a (IntKind.i64.wrap (b+1)))))else(lR f a (IntKind.i64.wrap (b+1)))))))else((au (a:List UInt8) b).bind λi=>(bif decide ((↑i.toNat:Int)>122)then((au (a:List UInt8) b).bind λj=>(bif decide ((↑j.toNat:Int)<48)then((au (a:List UInt8) b).bind λk=>(bif (↑k.toNat:Int) !=45 then(some false)else(lR f a (IntKind.i64.wrap (b+1)))))else((au (a:List UInt8) b).bind λl=>(bif decide ((↑l.toNat:Int)>57)then((au (a:List UInt8) b).bind λm=>(bif (↑m.toNat:Int) !=45 then(some false)else(lR f a (IntKind.i64.wrap (b+1)))))else(lR f a (IntKind.i64.wrap (b+1)))))))else(lR f a (IntKind.i64.wrap (b+1)))))))else(some true))
abbrev wU (f:Fs):Gh:=λa=>(bif decide ((↑a.length:Int)<1)then(some false)else(bif decide ((↑a.length:Int)>16)then(some false)else((au (a:List UInt8) 0).bind λb=>(bif decide ((↑b.toNat:Int)<97)then(some false)else((au (a:List UInt8) 0).bind λc=>(bif decide ((↑c.toNat:Int)>122)then(some false)else(lR f a 0)))))))
abbrev sT (f:Fs):MZ:=λa c b=>(bif decide (b<(↑(aN a).length:Int))then((au a b).bind λd=>(bif d==c then(some true)else(qA f a c (IntKind.i64.wrap (b+1)))))else(some false))
abbrev uB (f:Fs):Gi:=λa b=>(qA f a b 0)
abbrev pf (f:Fs):M0:=λb a=>(bif decide (a<(↑(aN b).length:Int))then((au b a).bind λc=>((f194 f c).bind λd=>(bif !d then(some false)else(bif decide (a>0)then((au b (IntKind.i64.wrap (a-1))).bind λe=>((au b a).bind λg=>(bif !Op.bytesLess e g then(some false)else(lS f b (IntKind.i64.wrap (a+1))))))else(lS f b (IntKind.i64.wrap (a+1)))))))else(some true))
abbrev ru (f:Fs):Gj:=λa=>(lS f a 0)
abbrev pg (f:Fs):M1:=λa b=>(bif decide (b<(↑(aN a.Names).length:Int))then((au a.Names b).bind λc=>((f194 f c).bind λd=>(bif !d then(some false)else((iV a.Names 0 b).bind λe=>((au a.Names b).bind λg=>((f195 f e g).bind λh=>(bif h then(some false)else(mO f a (IntKind.i64.wrap (b+1))))))))))else(some true))
abbrev ph (f:Fs):M3:=λa d h e b i j g c=>(bif decide (c<(↑(aN b.If).length:Int))then((au b.If c).bind λk=>((f195 f a.Names k).bind λl=>(bif !l then(some false)else(mP f a d h e b i j g (IntKind.i64.wrap (c+1))))))else(mQ f a d g (IntKind.i64.wrap (e+1))))
