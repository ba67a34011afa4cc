/- What the printed functions rest on. -/
import Derived.Test.YtnocmolegijmkaaGreatKZs
import Derived.Test.YtnocmolegijmkaaGreatKGk
import Derived.Test.YtnocmolegijmkaaGreatKPl
set_option linter.all false
section

end

section
set_option maxRecDepth 100000
noncomputable section
namespace Go.Proofs.YtnocmolegijmkaaGreat
open Go Go.Bw
abbrev ON:=ab->Int->Int->Option Int
abbrev IX:=ab->Int->Option Int
abbrev IY:=ab->Int->Option Bool
abbrev OO:=cq->Int->Int->Option Int
abbrev OQ:=cq->Int->Int->Int->Option Int
abbrev IZ:=cq->Int->Option Int
abbrev I0:=cq->Int->Option Bool
abbrev PI:=List eh->Int->Option Bool
abbrev T8:=bD->cq->List eh->Option Bool
abbrev Hr:=Bool->Int->Option Int
abbrev Hs:=ah->Option Int
abbrev Ht:=ah->Option Int
abbrev Hu:=Int->Option Bool
abbrev OR:=List UInt8->Int->Option Bool
abbrev I3:=List UInt8->Option Bool
abbrev OS:=List (List UInt8)->List UInt8->Int->Option Int
abbrev I4:=List (List UInt8)->List UInt8->Option Int
abbrev Hv:=List (List UInt8)->List UInt8->Option Bool
abbrev Nr:=List (List UInt8)->Int->Option Bool
abbrev Hw:=List (List UInt8)->Option Bool
abbrev Hx:=List (List UInt8)->List UInt8->Option Bool
abbrev OT:=List (List UInt8)->List (List UInt8)->Int->Option Bool
abbrev I5:=List (List UInt8)->List (List UInt8)->Option Bool
abbrev Ns:=ah->Int->Option Int
abbrev Nt:=ah->Int->Option Int
abbrev Nv:=ah->Int->Int->Option Int
abbrev Hy:=ah->Option Int
abbrev Hz:=ah->Option Int
abbrev HA:=ah->Option Bool
abbrev HB:=ah->Option Int
abbrev Nw:=List Int->Int->Option Int
abbrev HC:=List Int->Option Int
abbrev OU:=ah->Int->Int->dh->Option (Int×dh)
abbrev I6:=dh->ah->Int->Option (Int×dh)
abbrev I7:=ah->Option Int
abbrev I8:=TParam->TParam->Option Bool
abbrev KA:=List TParam->TParam->Int->Option Int
abbrev EK:=List TParam->TParam->Option Int
abbrev E7:=List TParam->TParam->Option Bool
abbrev OV:=bD->Int->Option Bool
abbrev I9:=bD->Option Bool
abbrev I':=List TParam->ab->Option (af×Bool)
abbrev Ja:=Int->Option (Int×Int)
abbrev Jb:=Int->Option (List UInt8)
abbrev OW:=ab->List af->List UInt8->List af->Int->Option (af×Bool)
abbrev OX:=ab->List af->List UInt8->List af->Int->Option (af×Bool)
abbrev OY:=List TParam->ab->Bool->Int->List af->Option (af×Bool)
abbrev Jc:=List TParam->ab->Option (af×Bool)
abbrev Jd:=ah->Option ay
abbrev Je:=Int->Option ay
abbrev Jf:=ah->bD->Option ay
abbrev HD:=TParam->af->Option Bool
abbrev Km:=List TParam->af->Int->Option Int
abbrev Er:=List TParam->af->Option Int
abbrev HE:=Int->Int->Option (aR Unit)
abbrev HF:=ay->Option Bool
abbrev HG:=List UInt8->Option Int
abbrev Ny:=List Int->Int->Int->Option Int
abbrev HH:=List Int->Int->Option Int
abbrev HI:=List Int->Int->Option Bool
abbrev HJ:=List Int->ay->af->Option (aR Unit)
abbrev HK:=List (List UInt8)->Option (List (List UInt8))
abbrev GJ:=List aP->Option (List aP)
abbrev GK:=List ah->Option (List ah)
abbrev Nz:=ah->List (List UInt8)->List ah->Int->List ah->List aP->Option ah
abbrev NA:=ah->List (List UInt8)->List aP->Int->List aP->Option ah
abbrev HL:=ah->Option ah
abbrev HM:=af->Option Bool
abbrev NB:=List (List UInt8)->List (List UInt8)->Int->Option Bool
abbrev HN:=List (List UInt8)->List (List UInt8)->Option Bool
abbrev HO:=aP->aP->Option Bool
abbrev KC:=List aP->List aP->Int->Option Bool
abbrev EL:=List aP->List aP->Option Bool
abbrev HP:=ah->ah->Option Bool
abbrev KD:=List ah->List ah->Int->Option Bool
abbrev EM:=List ah->List ah->Option Bool
abbrev Jg:=ay->ay->Option Bool
abbrev Jh:=bJ->af->ay->Option (aR ab)
abbrev HQ:=bJ->af->ay->Option (aR ab)
abbrev HR:=bJ->Int->af->ay->ay->ay->Option (aR ab)
abbrev NC:=bJ->af->ay->Int->List ab->Option (aR ab)
abbrev ND:=bJ->af->ay->Int->List ab->Option (aR ab)
abbrev NF:=bJ->af->ay->Int->List ab->Option (aR ab)
abbrev NG:=bJ->af->ay->Int->List ab->Option (aR ab)
abbrev HT:=bJ->af->ay->Option (aR ab)
abbrev NH:=af->ah->List Bool->List ab->Int->Option (aR (List ab))
abbrev NI:=bJ->af->ah->List ab->List Bool->Int->Option (aR (List ab))
abbrev HU:=bJ->af->ah->Option (aR (List ab))
abbrev HV:=bJ->af->Option (aR ab)
abbrev HW:=Int->ay->List Int->bJ->af->af->Option (aR ab)
abbrev HX:=bJ->af->af->List Int->Option (aR ab)
abbrev HY:=bJ->af->ay->Option (aR ab)
abbrev HZ:=bJ->af->af->af->Bool->Option (aR (ab×ab))
abbrev Ji:=ah->List TParam->ay->af->Option (ab×aS)
abbrev Jj:=ab->ab->Option Bool
abbrev Lz:=List ab->List ab->Int->Option Bool
abbrev Ft:=List ab->List ab->Option Bool
abbrev Jk:=ah->bD->Option Bool
abbrev Jl:=List TParam->Option (List TParam)
abbrev Jm:=ab->ab->Option Bool
abbrev LA:=List ab->List ab->Int->Option Bool
abbrev Fu:=List ab->List ab->Option Bool
abbrev Jn:=ab->Option ab
abbrev Jo:=ab->Option Bool
abbrev OZ:=ab->ab->List ab->Bool->Int->Option ab
abbrev O0:=ab->ab->List ab->Int->Option ab
abbrev Jp:=ab->ab->Option ab
abbrev O1:=ab->Int->List ab->Option ab
abbrev Jq:=ab->Option ab
abbrev T9:=ah->bD->Option (bD×Int)
abbrev H0:=ah->Option Bool
abbrev M7:=List UInt8->Int->Option Bool
abbrev H2:=List UInt8->Option Bool
abbrev M8:=List (List UInt8)->List UInt8->Int->Option Bool
abbrev H3:=List (List UInt8)->List UInt8->Option Bool
abbrev M9:=List (List UInt8)->Int->Option Bool
abbrev H4:=List (List UInt8)->Option Bool
abbrev M':=ah->Int->Option Bool
abbrev Na:=ah->Bool->Bool->Int->aP->Bool->Bool->Bool->Int->Option Bool
abbrev Nb:=ah->Bool->Bool->Int->Option Bool
abbrev H5:=ah->Option Bool
abbrev H6:=ah->Option Bool
abbrev H7:=ah->Int->Int->Option Int
abbrev Nc:=ah->Int->Int->Int->Option (Int×Int)
abbrev H8:=ah->Int->Int->Option (Int×Int)
abbrev Jr:=ah->Option Int
abbrev H9:=Int->Option Bool
abbrev OB:=List UInt8->Int->Option Bool
abbrev Js:=List UInt8->Option Bool
abbrev OC:=List (List UInt8)->List UInt8->Int->Option Bool
abbrev Jt:=List (List UInt8)->List UInt8->Option Bool
abbrev Ju:=Int->Option ay
abbrev Jv:=ah->Option ay
abbrev H':=Int->Option Int
abbrev Ia:=Int->Option (List UInt8)
abbrev OD:=ab->List af->List UInt8->Int->List af->Option (af×Bool)
abbrev OE:=ab->List af->List UInt8->List af->Int->Option (af×Bool)
abbrev OF:=List TParam->ab->Bool->Int->List af->Option (af×Bool)
abbrev Jw:=List TParam->ab->Option (af×Bool)
abbrev Ib:=Int->Int->Option aS
abbrev Ic:=ay->Option Bool
abbrev Ie:=af->Option Bool
abbrev Ig:=List UInt8->Int->Option Bool
abbrev Nd:=List (List UInt8)->List (List UInt8)->Int->Option Bool
abbrev Ih:=List (List UInt8)->List (List UInt8)->Option Bool
abbrev Nf:=ah->ah->Int->Option Bool
abbrev Ng:=ah->ah->Bool->Int->Option Bool
abbrev Ii:=ah->ah->Option Bool
abbrev Jx:=ay->ay->Option Bool
abbrev Ij:=cC->af->ay->Option (ab×aS)
abbrev Nh:=cC->af->Int->Option (ab×aS)
abbrev Ni:=af->((List ab)×aS)->ab->Int->Option (ab×aS)
abbrev Ik:=cC->af->ay->Option (ab×aS)
abbrev Il:=cC->af->af->Int->Bool->Option ((List ab)×aS)
abbrev Nj:=cC->List af->List ay->List ab->List ab->Int->Option ((List ab)×aS)
abbrev Im:=cC->List af->List ay->Option ((List ab)×aS)
abbrev Io:=cC->af->ay->Option (ab×aS)
abbrev Nk:=cC->af->ay->Int->List ab->aS->Option (ab×aS)
abbrev Nl:=cC->af->ay->Int->List ab->aS->Option (ab×aS)
abbrev Nn:=cC->af->ay->Int->List ab->aS->Option (ab×aS)
abbrev No:=cC->af->ay->Int->List ab->List (List UInt8)->Int->List ab->aS->Int->Option (ab×aS)
abbrev Np:=cC->af->ay->Int->List ab->List (List UInt8)->Int->List ab->aS->Option (ab×aS)
abbrev Nq:=cC->af->ay->Int->List ab->Option (ab×aS)
abbrev Ip:=cC->af->ay->Option (ab×aS)
abbrev Iq:=cC->af->Option (ab×aS)
abbrev Jy:=ah->List TParam->ay->af->Option (ab×aS)
abbrev OG:=ab->ab->Int->Option Bool
abbrev Jz:=ab->ab->Option Bool
abbrev OH:=ah->bD->List (List UInt8)->Int->Option Bool
abbrev JA:=ah->bD->Option Bool
abbrev OI:=ab->ab->Int->Option Bool
abbrev JB:=ab->ab->Option Bool
abbrev JC:=ab->Option ab
abbrev JD:=ab->List ab->Option ab
abbrev JE:=ab->ab->Option ab
abbrev OJ:=ab->ab->List ab->Bool->Int->Option ab
abbrev JF:=ab->ab->Option ab
abbrev OK:=ab->ab->List ab->Int->Option ab
abbrev JG:=ab->ab->Option ab
abbrev CM:=ah->bD->Option (bD×Int)
abbrev OL:=bD->bD->Int->Option Bool
abbrev CO:=bD->bD->Option Bool
abbrev OM:=ab->Int->Int->Option Int
abbrev JH:=ab->Option Int
def Dq:=((((ON×IX)×(IY×(OO×OQ)))×((IZ×I0)×(PI×(T8×Hr))))×(((Hs×Ht)×(Hu×(OR×I3)))×((OS×I4)×(Hv×(Nr×Hw)))))
def Dr:=((((Hx×OT)×(I5×(Ns×Nt)))×((Nv×Hy)×(Hz×(HA×HB))))×(((Nw×HC)×(OU×(I6×I7)))×((I8×KA)×(EK×(E7×OV)))))
def Ds:=((((I9×I')×(Ja×(Jb×OW)))×((OX×OY)×(Jc×(Jd×Je))))×(((Jf×HD)×(Km×(Er×HE)))×((HF×HG)×(Ny×(HH×HI)))))
def Dt:=((((HJ×HK)×(GJ×(GK×Nz)))×((NA×HL)×(HM×(NB×HN))))×(((HO×KC)×(EL×(HP×KD)))×((EM×Jg)×(Jh×(HQ×HR)))))
def Dv:=((((NC×ND)×(NF×(NG×HT)))×((NH×NI)×(HU×(HV×HW))))×(((HX×HY)×(HZ×(Ji×Jj)))×((Lz×Ft)×(Jk×(Jl×Jm)))))
def Dw:=((((LA×Fu)×(Jn×(Jo×OZ)))×((O0×Jp)×(O1×(Jq×T9))))×(((H0×M7)×(H2×(M8×H3)))×((M9×H4)×(M'×(Na×Nb)))))
def Dx:=((((H5×H6)×(H7×(Nc×H8)))×((Jr×H9)×(OB×(Js×OC))))×(((Jt×Ju)×(Jv×(H'×Ia)))×((OD×OE)×(OF×(Jw×Ib)))))
def Dy:=((((Ic×Ie)×(Ig×(Nd×Ih)))×((Nf×Ng)×(Ii×(Jx×Ij))))×(((Nh×Ni)×(Ik×(Il×Nj)))×((Im×Io)×(Nk×(Nl×Nn)))))
def Dz:=((((No×Np)×(Nq×(Ip×Iq)))×((Jy×OG)×(Jz×(OH×JA))))×(((OI×JB)×(JC×(JD×JE)))×((OJ×JF)×(OK×(JG×CM)))))
def DA:=((OL×CO)×(OM×JH))
instance:PF Dq:=by delta Dq;exact @PF.prod _ _ (@PF.prod _ _ inferInstance inferInstance) (@PF.prod _ _ inferInstance inferInstance)
instance:PF Dr:=by delta Dr;exact @PF.prod _ _ (@PF.prod _ _ inferInstance inferInstance) (@PF.prod _ _ inferInstance inferInstance)
instance:PF Ds:=by delta Ds;exact @PF.prod _ _ (@PF.prod _ _ inferInstance inferInstance) (@PF.prod _ _ inferInstance inferInstance)
instance:PF Dt:=by delta Dt;exact @PF.prod _ _ (@PF.prod _ _ inferInstance inferInstance) (@PF.prod _ _ inferInstance inferInstance)
instance:PF Dv:=by delta Dv;exact @PF.prod _ _ (@PF.prod _ _ inferInstance inferInstance) (@PF.prod _ _ inferInstance inferInstance)
instance:PF Dw:=by delta Dw;exact @PF.prod _ _ (@PF.prod _ _ inferInstance inferInstance) (@PF.prod _ _ inferInstance inferInstance)
instance:PF Dx:=by delta Dx;exact @PF.prod _ _ (@PF.prod _ _ inferInstance inferInstance) (@PF.prod _ _ inferInstance inferInstance)
instance:PF Dy:=by delta Dy;exact @PF.prod _ _ (@PF.prod _ _ inferInstance inferInstance) (@PF.prod _ _ inferInstance inferInstance)
instance:PF Dz:=by delta Dz;exact @PF.prod _ _ (@PF.prod _ _ inferInstance inferInstance) (@PF.prod _ _ inferInstance inferInstance)
instance:PF DA:=by delta DA;infer_instance
abbrev Us:=(((Dq×Dr)×(Ds×(Dt×Dv)))×((Dw×Dx)×(Dy×(Dz×DA))))
def gf:=(PF.i (D:=Us)).a.a.a
def gg:=(PF.i (D:=Us)).a.a.b
def gh:=(PF.i (D:=Us)).a.b.a
def gk:=(PF.i (D:=Us)).a.b.b.a
def gl:=(PF.i (D:=Us)).a.b.b.b
def gm:=(PF.i (D:=Us)).b.a.a
def gn:=(PF.i (D:=Us)).b.a.b
def gq:=(PF.i (D:=Us)).b.b.a
def gr:=(PF.i (D:=Us)).b.b.b.a
def DB:=(PF.i (D:=Us)).b.b.b.b
def rf:=gf.a.a.a.a
def zy:=gf.a.a.a.b
def CZ:=gf.a.a.b.a
def xc:=gf.a.a.b.b.a
def xa:=gf.a.a.b.b.b
def zA:=gf.a.b.a.a
def C0:=gf.a.b.a.b
def Cn:=gf.a.b.b.a
def u8:=gf.a.b.b.b.a
def b4:=gf.a.b.b.b.b
def xV:=gf.b.a.a.a
def CC:=gf.b.a.a.b
def CD:=gf.b.a.b.a
def xe:=gf.b.a.b.b.a
def oS:=gf.b.a.b.b.b
def BY:=gf.b.b.a.a
def vp:=gf.b.b.a.b
def xW:=gf.b.b.b.a
def wL:=gf.b.b.b.b.a
def p6:=gf.b.b.b.b.b
def p7:=gg.a.a.a.a
def rh:=gg.a.a.a.b
def sw:=gg.a.a.b.a
def Bt:=gg.a.a.b.b.a
def Bv:=gg.a.a.b.b.b
def ma:=gg.a.b.a.a
def xX:=gg.a.b.a.b
def xY:=gg.a.b.b.a
def rY:=gg.a.b.b.b.a
def xZ:=gg.a.b.b.b.b
def na:=gg.b.a.a.a
def ya:=gg.b.a.a.b
def ny:=gg.b.a.b.a
def vq:=gg.b.a.b.b.a
def zB:=gg.b.a.b.b.b
def JI:=gg.b.b.a.a
def AA:=gg.b.b.a.b
def Bb:=gg.b.b.b.a
def BD:=gg.b.b.b.b.a
def nz:=gg.b.b.b.b.b
def u32:=gh.a.a.a.a
def vt:=gh.a.a.a.b
def kn:=gh.a.a.b.a
def ko:=gh.a.a.b.b.a
def kN:=gh.a.a.b.b.b
def jk:=gh.a.b.a.a
def iA:=gh.a.b.a.b
def nU:=gh.a.b.b.a
def gP:=gh.a.b.b.b.a
def dQ:=gh.a.b.b.b.b
def C1:=gh.b.a.a.a
def Ir:=gh.b.a.a.b
def Aw:=gh.b.a.b.a
def wh:=gh.b.a.b.b.a
def dg:=gh.b.a.b.b.b
def rZ:=gh.b.b.a.a
def dT:=gh.b.b.a.b
def By:=gh.b.b.b.a
def CF:=gh.b.b.b.b.a
def nN:=gh.b.b.b.b.b
def gL:=gk.a.a.a.a
def yb:=gk.a.a.a.b
def GL:=gk.a.a.b.a
def GM:=gk.a.a.b.b.a
def wO:=gk.a.a.b.b.b
def wN:=gk.a.b.a.a
def r6:=gk.a.b.a.b
def mz:=gk.a.b.b.a
def Bz:=gk.a.b.b.b.a
def yh:=gk.a.b.b.b.b
def yn:=gk.b.a.a.a
def sJ:=gk.b.a.a.b
def Bc:=gk.b.a.b.a
def uW:=gk.b.a.b.b.a
def sL:=gk.b.a.b.b.b
def Bd:=gk.b.b.a.a
def qp:=gk.b.b.a.b
def bR:=gk.b.b.b.a
def lH:=gk.b.b.b.b.a
def iJ:=gk.b.b.b.b.b
def BC:=gl.a.a.a.a
def E5:=gl.a.a.a.b
def gD:=gl.a.a.b.a
def jO:=gl.a.a.b.b.a
def cV:=gl.a.a.b.b.b
def jP:=gl.a.b.a.a
def mb:=gl.a.b.a.b
def uX:=gl.a.b.b.a
def uY:=gl.a.b.b.b.a
def jZ:=gl.a.b.b.b.b
def nO:=gl.b.a.a.a
def yx:=gl.b.a.a.b
def qa:=gl.b.a.b.a
def C2:=gl.b.a.b.b.a
def vu:=gl.b.a.b.b.b
def sX:=gl.b.b.a.a
def BZ:=gl.b.b.a.b
def so:=gl.b.b.b.a
def C4:=gl.b.b.b.b.a
def vv:=gl.b.b.b.b.b
def sZ:=gm.a.a.a.a
def B0:=gm.a.a.a.b
def sx:=gm.a.a.b.a
def oT:=gm.a.a.b.b.a
def pQ:=gm.a.a.b.b.b
def nA:=gm.a.b.a.a
def kp:=gm.a.b.a.b
def rj:=gm.a.b.b.a
def zE:=gm.a.b.b.b.a
def u9:=gm.a.b.b.b.b
def r8:=gm.b.a.a.a
def mc:=gm.b.a.a.b
def yy:=gm.b.a.b.a
def qR:=gm.b.a.b.b.a
def uZ:=gm.b.a.b.b.b
def me:=gm.b.b.a.a
def u0:=gm.b.b.a.b
def ng:=gm.b.b.b.a
def nh:=gm.b.b.b.b.a
def ni:=gm.b.b.b.b.b
def r9:=gn.a.a.a.a
def sa:=gn.a.a.a.b
def yA:=gn.a.a.b.a
def nj:=gn.a.a.b.b.a
def u1:=gn.a.a.b.b.b
def zG:=gn.a.b.a.a
def CG:=gn.a.b.a.b
def xh:=gn.a.b.b.a
def oU:=gn.a.b.b.b.a
def xi:=gn.a.b.b.b.b
def sy:=gn.b.a.a.a
def eQ:=gn.b.a.a.b
def jc:=gn.b.a.b.a
def ka:=gn.b.a.b.b.a
def eD:=gn.b.a.b.b.b
def mi:=gn.b.b.a.a
def jR:=gn.b.b.a.b
def iT:=gn.b.b.b.a
def lh:=gn.b.b.b.b.a
def cP:=gn.b.b.b.b.b
def u2:=gq.a.a.a.a
def eX:=gq.a.a.a.b
def lI:=gq.a.a.b.a
def BL:=gq.a.a.b.b.a
def yB:=gq.a.a.b.b.b
def qS:=gq.a.b.a.a
def tG:=gq.a.b.a.b
def sd:=gq.a.b.b.a
def vw:=gq.a.b.b.b.a
def eb:=gq.a.b.b.b.b
def qT:=gq.b.a.a.a
def oh:=gq.b.a.a.b
def se:=gq.b.a.b.a
def u3:=gq.b.a.b.b.a
def kI:=gq.b.a.b.b.b
def dC:=gq.b.b.a.a
def kf:=gq.b.b.a.b
def lv:=gq.b.b.b.a
def lx:=gq.b.b.b.b.a
def qX:=gq.b.b.b.b.b
def pF:=gr.a.a.a.a
def nk:=gr.a.a.a.b
def q0:=gr.a.a.b.a
def nP:=gr.a.a.b.b.a
def CH:=gr.a.a.b.b.b
def vx:=gr.a.b.a.a
def uc:=gr.a.b.a.b
def mK:=gr.a.b.b.a
def rn:=gr.a.b.b.b.a
def C':=gr.a.b.b.b.b
def uf:=gr.b.a.a.a
def vy:=gr.b.a.a.b
def sA:=gr.b.a.b.a
def qq:=gr.b.a.b.b.a
def kq:=gr.b.a.b.b.b
def pT:=gr.b.b.a.a
def u64:=gr.b.b.a.b
def nB:=gr.b.b.b.a
def JN:=gr.b.b.b.b.a
def yZ:=gr.b.b.b.b.b
def pU:=DB.a.a
def qg:=DB.a.b
def Fy:=DB.b.a
def SI:=DB.b.b
abbrev tT (f:Us):ON:=λb a c=>(bif decide (c<(↑(ab.rows b.Kids).length:Int))then(bif decide (a>=0)then((ao b.Kids c).bind λd=>((zy f d a).bind λe=>(rf f b e (IntKind.i64.wrap (c+1)))))else(some a))else(some a))
abbrev zf (f:Us):IX:=λb a=>(bif decide (a<1)then(some (-1))else(bif decide ((↑(ab.rows b.Kids).length:Int)>a)then(some (-1))else(rf f b (IntKind.i64.wrap (a-1)) 0)))
abbrev zh (f:Us):IY:=λa b=>((zy f a b).bind λc=>(some (decide (c>=0))))
abbrev xd (f:Us):OO:=λa c b=>(bif decide (b<(↑(cq.rows a.aw).length:Int))then((ao a.aw b).bind λe=>((zA f e c).bind λd=>(bif decide (d<0)then(some (-1))else(xc f a d (IntKind.i64.wrap (b+1))))))else(some c))
abbrev xb (f:Us):OQ:=λa b d c=>(bif decide (c<(↑(eC.rows a.Entries).length:Int))then(bif decide (b<1)then(some (-1))else((ao a.Entries c).bind λe=>(bif decide ((↑(fM.rows e.GN).length:Int)>IntKind.i64.wrap (b-1))then(some (-1))else((ao a.Entries c).bind λg=>(xa f a (IntKind.i64.wrap (b-IntKind.i64.wrap (1+(↑(fM.rows g.GN).length:Int)))) d (IntKind.i64.wrap (c+1)))))))else(xc f a b 0))
abbrev zj (f:Us):IZ:=λa b=>(bif decide (b<1)then(some (-1))else(bif decide ((↑(aT a.Names).length:Int)>IntKind.i64.wrap (b-1))then(some (-1))else(xa f a (IntKind.i64.wrap (b-IntKind.i64.wrap (1+(↑(aT a.Names).length:Int)))) 0 0)))
abbrev zm (f:Us):I0:=λa b=>((zA f a b).bind λc=>(some (decide (c>=0))))
abbrev xw (f:Us):PI:=λa b=>(bif decide (b<(↑(eh.rows a).length:Int))then((ao a b).bind λc=>(bif decide ((↑(aT c.Names).length:Int)>12)then(some false)else(Cn f a (IntKind.i64.wrap (b+1)))))else(some true))
abbrev B8 (f:Us):T8:=λa c b=>((CZ f a.Body 60).bind λd=>(bif !d then(some false)else((C0 f c 40).bind λe=>(bif !e then(some false)else(bif decide ((↑(eh.rows b).length:Int)>12)then(some false)else(bif decide ((↑(TParam.rows a.Params).length:Int)>12)then(some false)else(Cn f b 0)))))))
abbrev xI (f:Us):Hr:=λa b=>(bif a then(some b)else(some 0))
abbrev uR (f:Us):Hs:=λa=>(bif a.Kind==1 then(bif (↑(ah.rows a.aw).length:Int) !=0 then((b4 f true 1).bind λb=>(some b))else(bif decide ((↑(aT a.Names).length:Int)>0)then((b4 f true 1).bind λc=>(some c))else(bif decide ((↑(aP.rows a.aX).length:Int)>0)then((b4 f true 1).bind λd=>(some d))else(bif a.Lo !=0 then((b4 f true 1).bind λe=>(some e))else(bif a.Hi !=0 then((b4 f true 1).bind λg=>(some g))else((b4 f false 1).bind λh=>(some h)))))))else(bif a.Kind==9 then(bif (↑(ah.rows a.aw).length:Int) !=0 then((b4 f true 1).bind λi=>(some i))else(bif decide ((↑(aT a.Names).length:Int)>0)then((b4 f true 1).bind λj=>(some j))else(bif decide ((↑(aP.rows a.aX).length:Int)>0)then((b4 f true 1).bind λk=>(some k))else(bif a.Lo !=0 then((b4 f true 1).bind λl=>(some l))else(bif a.Hi !=0 then((b4 f true 1).bind λm=>(some m))else((b4 f false 1).bind λn=>(some n)))))))else(bif a.Kind==2 then(bif (↑(ah.rows a.aw).length:Int) !=0 then((b4 f true 1).bind λo=>(some o))else(bif decide ((↑(aT a.Names).length:Int)>0)then((b4 f true 1).bind λp=>(some p))else(bif decide ((↑(aP.rows a.aX).length:Int)>0)then((b4 f true 1).bind λq=>(some q))else((b4 f false 1).bind λr=>(some r)))))else(bif a.Kind==3 then(bif (↑(ah.rows a.aw).length:Int) !=0 then((b4 f true 1).bind λs=>(some s))else(bif decide ((↑(aT a.Names).length:Int)>0)then((b4 f true 1).bind λt=>(some t))else(bif decide ((↑(aP.rows a.aX).length:Int)>0)then((b4 f true 1).bind λu=>(some u))else((b4 f false 1).bind λv=>(some v)))))else(bif a.Kind==4 then(bif (↑(ah.rows a.aw).length:Int) !=0 then((b4 f true 1).bind λw=>(some w))else(bif decide ((↑(aP.rows a.aX).length:Int)>0)then((b4 f true 1).bind λx=>(some x))else(bif a.Lo !=0 then((b4 f true 1).bind λy=>(some y))else(bif a.Hi !=0 then((b4 f true 1).bind λz=>(some z))else((b4 f false 1).bind λA=>(some A))))))else(bif a.Kind==8 then(bif (↑(ah.rows a.aw).length:Int) !=0 then((b4 f true 1).bind λB=>(some B))else(bif decide ((↑(aP.rows a.aX).length:Int)>0)then((b4 f true 1).bind λC=>(some C))else(bif a.Lo !=0 then((b4 f true 1).bind λD=>(some D))else(bif a.Hi !=0 then((b4 f true 1).bind λE=>(some E))else((b4 f false 1).bind λF=>(some F))))))else(bif a.Kind==5 then(bif (↑(ah.rows a.aw).length:Int) !=1 then((b4 f true 1).bind λG=>(some G))else(bif decide ((↑(aP.rows a.aX).length:Int)>0)then((b4 f true 1).bind λH=>(some H))else(bif a.Lo !=0 then((b4 f true 1).bind λJ=>(some J))else(bif a.Hi !=0 then((b4 f true 1).bind λK=>(some K))else((b4 f false 1).bind λL=>(some L))))))else(bif a.Kind==7 then(bif (↑(ah.rows a.aw).length:Int) !=2 then((b4 f true 1).bind λM=>(some M))else(bif decide ((↑(aT a.Names).length:Int)>0)then((b4 f true 1).bind λN=>(some N))else(bif decide ((↑(aP.rows a.aX).length:Int)>0)then((b4 f true 1).bind λO=>(some O))else(bif a.Lo !=0 then((b4 f true 1).bind λP=>(some P))else(bif a.Hi !=0 then((b4 f true 1).bind λQ=>(some Q))else((b4 f false 1).bind λR=>(some R)))))))else(bif a.Kind==6 then(bif (↑(ah.rows a.aw).length:Int) !=(↑(aT a.Names).length:Int)then((b4 f true 1).bind λS=>(some S))else(bif decide ((↑(aP.rows a.aX).length:Int)>0)then((b4 f true 1).bind λT=>(some T))else(bif a.Lo !=0 then((b4 f true 1).bind λU=>(some U))else(bif a.Hi !=0 then((b4 f true 1).bind λV=>(some V))else((b4 f ((↑(aT a.Names).length:Int)==0) 1).bind λW=>(some W))))))else(bif a.Kind==10 then(bif (↑(ah.rows a.aw).length:Int) !=0 then((b4 f true 1).bind λX=>(some X))else(bif a.Lo !=0 then((b4 f true 1).bind λY=>(some Y))else(bif a.Hi !=0 then((b4 f true 1).bind λZ=>(some Z))else((b4 f ((↑(aT a.Names).length:Int)==0) 1).bind λy100=>(some y100)))))else(some 1)))))))))))
abbrev xJ (f:Us):Ht:=λa=>(bif a.Kind==6 then(bif decide ((↑(aT a.Names).length:Int)>8)then((b4 f true 6).bind λb=>(some b))else((b4 f (decide ((↑(aP.rows a.aX).length:Int)>32)) 6).bind λc=>(some c)))else(bif a.Kind==10 then(bif decide ((↑(aT a.Names).length:Int)>12)then((b4 f true 6).bind λd=>(some d))else((b4 f (decide ((↑(aP.rows a.aX).length:Int)>32)) 6).bind λe=>(some e)))else(bif decide ((↑(aT a.Names).length:Int)>32)then((b4 f true 6).bind λg=>(some g))else((b4 f (decide ((↑(aP.rows a.aX).length:Int)>32)) 6).bind λh=>(some h)))))
abbrev xK (f:Us):Hu:=λa=>(bif decide (97<=a)then(bif decide (a<=122)then(some true)else(bif decide (48<=a)then(bif decide (a<=57)then(some true)else(some (a==45)))else(some (a==45))))else(bif decide (48<=a)then(bif decide (a<=57)then(some true)else(some (a==45)))else(some (a==45))))
abbrev tU (f:Us):OR:=λa b=>(bif decide (b<(↑a.length:Int))then((ao (a:List UInt8) b).bind λc=>((CD f ((↑c.toNat:Int))).bind λd=>(bif !d then(some false)else(xe f a (IntKind.i64.wrap (b+1))))))else(some true))
abbrev zr (f:Us):I3:=λa=>(bif (↑a.length:Int)==0 then(some false)else(bif decide ((↑a.length:Int)>16)then(some false)else((ao (a:List UInt8) 0).bind λb=>(bif decide ((↑b.toNat:Int)<97)then(some false)else((ao (a:List UInt8) 0).bind λc=>(bif decide ((↑c.toNat:Int)>122)then(some false)else(xe f a 0)))))))
abbrev tV (f:Us):OS:=λb c a=>(bif decide (a<(↑(aT b).length:Int))then((ao b a).bind λd=>(bif c==d then(some a)else(BY f b c (IntKind.i64.wrap (a+1)))))else(some (-1)))
abbrev vj (f:Us):I4:=λa b=>(BY f a b 0)
abbrev xL (f:Us):Hv:=λa b=>((vp f a b).bind λc=>(some (decide (c>=0))))
abbrev qQ (f:Us):Nr:=λa b=>(bif decide (b<(↑(aT a).length:Int))then((ao a (IntKind.i64.wrap (b-1))).bind λc=>((ao a b).bind λd=>(bif !Op.bytesLess c d then(some false)else(wL f a (IntKind.i64.wrap (b+1))))))else(some true))
abbrev uS (f:Us):Hw:=λa=>(wL f a 1)
abbrev xM (f:Us):Hx:=λa b=>((xW f a b).bind λc=>(some c))
abbrev tW (f:Us):OT:=λa c b=>(bif decide (b<(↑(aT a).length:Int))then((ao a b).bind λd=>((p7 f c d).bind λe=>(bif !e then(some false)else(rh f a c (IntKind.i64.wrap (b+1))))))else(some true))
abbrev vk (f:Us):I5:=λa b=>(rh f a b 0)
abbrev Bu (f:Us):Ns:=λa c=>(bif decide (c<(↑(aP.rows a.aX).length:Int))then((ao a.aX c).bind λb=>(bif (↑(aT b.If).length:Int)==0 then(some 3)else((p6 f b.If).bind λd=>(bif !d then(some 3)else((sw f b.If a.Names).bind λe=>(bif !e then(some 3)else((p7 f a.Names b.eY).bind λg=>(bif !g then(some 3)else(Bt f a (IntKind.i64.wrap (c+1)))))))))))else(some 0))
abbrev Bx (f:Us):Nt:=λa c=>(bif decide (c<(↑(aP.rows a.aX).length:Int))then((ao a.aX c).bind λb=>(bif (↑(aT b.If).length:Int)==0 then(some 3)else((p6 f b.If).bind λd=>(bif !d then(some 3)else((sw f b.If a.Names).bind λe=>(bif !e then(some 3)else((p7 f a.Names b.eY).bind λg=>(bif !g then(some 3)else(Bv f a (IntKind.i64.wrap (c+1)))))))))))else(some 0))
abbrev px (f:Us):Nv:=λa c b=>(bif decide (b<(↑(aT a.Names).length:Int))then((ao a.Names b).bind λd=>((oS f d).bind λe=>(bif !e then(some 3)else(bif a.Kind==6 then((oB a.Names 0 b).bind λg=>((xW f g d).bind λh=>(bif h then(some 3)else(ma f a c (IntKind.i64.wrap (b+1))))))else(ma f a c (IntKind.i64.wrap (b+1)))))))else(bif a.Kind !=6 then((p6 f a.Names).bind λi=>(bif !i then(some 3)else(Bt f a 0)))else(Bv f a 0)))
abbrev rS (f:Us):Hy:=λa=>(ma f a 0 0)
abbrev uT (f:Us):Hz:=λa=>(bif decide (a.Lo>a.Hi)then((b4 f true 5).bind λb=>(some b))else(bif decide (a.Lo< -1000000000)then((b4 f true 5).bind λc=>(some c))else(bif decide (a.Lo>1000000000)then((b4 f true 5).bind λd=>(some d))else(bif decide (a.Hi< -1000000000)then((b4 f true 5).bind λe=>(some e))else((b4 f (decide (a.Hi>1000000000)) 5).bind λg=>(some g))))))
abbrev rT (f:Us):HA:=λa=>(bif a.Kind==1 then(some true)else(bif a.Kind==2 then(some true)else(bif a.Kind==3 then(some true)else(bif a.Kind==7 then(bif (↑(ah.rows a.aw).length:Int)==2 then((ao a.aw 0).bind λb=>((rY f b).bind λc=>(bif c then((ao a.aw 1).bind λd=>((rY f d).bind λe=>(some e)))else(some false))))else(some false))else(some false)))))
abbrev uU (f:Us):HB:=λa=>(bif a.Kind==7 then((ao a.aw 0).bind λb=>((rY f b).bind λc=>((b4 f (!c) 4).bind λd=>(some d))))else((b4 f false 4).bind λe=>(some e)))
abbrev py (f:Us):Nw:=λa b=>(bif decide (b<(↑(ep IntKind.i64 a).length:Int))then((ao a b).bind λc=>(bif c !=0 then(some c)else(na f a (IntKind.i64.wrap (b+1)))))else(some 0))
abbrev rU (f:Us):HC:=λa=>(na f a 0)
abbrev pL (f:Us):OU:=λb d c e=>(bif decide (c<(↑(ah.rows b.aw).length:Int))then((ao b.aw c).bind λg=>((vq f e g (IntKind.i64.wrap (d+1))).bind λa=>(bif a.fst !=0 then(some (a.fst,a.snd))else(ny f b d (IntKind.i64.wrap (c+1)) a.snd))))else(some (0,e)))
abbrev vl (f:Us):I6:=λa b c=>(bif decide (c>6)then(some (6,a))else(bif decide (a.nodes>=64)then(some (6,a))else((xV f b).bind λd=>(bif d !=0 then(some (d,({nodes:=IntKind.i64.wrap (a.nodes+1):dh})))else((CC f b).bind λg=>((xX f b).bind λh=>((xY f b).bind λi=>((xZ f b).bind λj=>((ya f ([g,h,i,j])).bind λe=>(bif e !=0 then(some (e,({nodes:=IntKind.i64.wrap (a.nodes+1):dh})))else(ny f b c 0 ({nodes:=IntKind.i64.wrap (a.nodes+1):dh}))))))))))))
abbrev vm (f:Us):I7:=λa=>((vq f dh.z a 1).bind λb=>(some b.fst))
abbrev zt (f:Us):I8:=λa b=>(some (a.Name==b.Name))
abbrev sI (f:Us):KA:=λb c a=>(bif decide (a<(↑(TParam.rows b).length:Int))then((ao b a).bind λd=>((JI f d c).bind λe=>(bif e then(some a)else(AA f b c (IntKind.i64.wrap (a+1))))))else(some (-1)))
abbrev th (f:Us):EK:=λa b=>(AA f a b 0)
abbrev wM (f:Us):E7:=λa b=>((Bb f a b).bind λc=>(some (decide (c>=0))))
abbrev pM (f:Us):OV:=λa b=>(bif decide (b<(↑(TParam.rows a.Params).length:Int))then((ao a.Params b).bind λc=>((oS f c.Name).bind λd=>(bif !d then(some false)else(bif decide (c.aK<1)then(some false)else(bif decide (c.aK>4)then(some false)else((oB a.Params 0 b).bind λe=>((BD f e c).bind λg=>(bif g then(some false)else(nz f a (IntKind.i64.wrap (b+1)))))))))))else(some true))
abbrev vn (f:Us):I9:=λa=>((oS f a.Name).bind λb=>(bif !b then(some false)else((oS f a.On).bind λc=>(bif !c then(some false)else(bif decide ((↑(TParam.rows a.Params).length:Int)>8)then(some false)else(bif decide (a.Result<0)then(some false)else(bif decide (a.Result>4)then(some false)else(nz f a 0))))))))
abbrev mI (f:Us):I':=λb a=>(bif decide ((↑(ab.rows a.Kids).length:Int)>0)then(some ((⟨0,[],0,a.At,[]⟩,false)))else(bif a.Op==1 then(bif decide (-1000000000000000<=a.N)then(bif decide (a.N<=1000000000000000)then(some ((⟨44,[],a.N,a.At,[]⟩,true)))else(some ((⟨0,[],0,a.At,[]⟩,false))))else(some ((⟨0,[],0,a.At,[]⟩,false))))else(bif a.Op==2 then(bif a.N==1 then(some ((⟨45,[],0,a.At,[]⟩,true)))else(bif a.N==0 then(some ((⟨46,[],0,a.At,[]⟩,true)))else(some ((⟨0,[],0,a.At,[]⟩,false)))))else(bif a.Op==3 then((oS f a.Text).bind λc=>(bif c then(some ((⟨47,a.Text,0,a.At,[]⟩,true)))else(some ((⟨0,[],0,a.At,[]⟩,false)))))else(bif a.Op==4 then(bif decide (0<=a.N)then(bif decide (a.N<(↑(TParam.rows b).length:Int))then((ao b a.N).bind λd=>(some ((⟨48,d.Name,0,a.At,[]⟩,true))))else(some ((⟨0,[],0,a.At,[]⟩,false))))else(some ((⟨0,[],0,a.At,[]⟩,false))))else(some ((⟨0,[],0,a.At,[]⟩,false))))))))
abbrev jF (f:Us):Ja:=λa=>(bif a==7 then(some ((30,3)))else(bif a==8 then(some ((31,2)))else(bif a==9 then(some ((32,2)))else(bif a==10 then(some ((33,1)))else(bif a==11 then(some ((34,2)))else(bif a==12 then(some ((35,2)))else(bif a==13 then(some ((36,2)))else(bif a==14 then(some ((37,2)))else(bif a==15 then(some ((38,2)))else(bif a==16 then(some ((39,2)))else(bif a==17 then(some ((40,2)))else(bif a==18 then(some ((41,2)))else(bif a==20 then(some ((43,2)))else(bif a==19 then(some ((42,1)))else(bif a==5 then(some ((49,0)))else(bif a==6 then(some ((50,0)))else(some ((0,0)))))))))))))))))))
abbrev oR (f:Us):Jb:=λa=>(bif a==21 then(some ([102,108,97,103]))else(bif a==22 then(some ([110,117,109]))else(bif a==23 then(some ([115,101,116]))else(bif a==24 then(some ([109,97,112]))else(bif a==25 then(some ([114,101,99]))else(bif a==26 then(some ([112,97,105,114]))else(bif a==27 then(some ([111,110,101]))else(bif a==28 then(some ([119,114,105,116,101]))else(bif a==29 then(some ([115,105,122,101]))else(bif a==30 then(some ([115,117,109]))else(bif a==31 then(some ([110,117,109,98,101,114]))else(bif a==32 then(some ([111,110]))else(bif a==33 then(some ([107,101,121,115]))else(bif a==34 then(some ([118,97,108,117,101,115]))else(bif a==35 then(some ([102,105,114,115,116]))else(bif a==36 then(some ([115,101,99,111,110,100]))else(bif a==37 then(some ([99,111,110,102,108,105,99,116]))else(some ([])))))))))))))))))))
abbrev pO (f:Us):OW:=λd a e c b=>(bif decide (b<(↑(af.rows a).length:Int))then((ao a b).bind λg=>((ao a (IntKind.i64.wrap (b+1))).bind λh=>(bif decide (((c:List af)++([⟨52,[],0,0,[g,h]⟩]:List af)).length<=274877906944)then(kN f d a e (c++[⟨52,[],0,0,[g,h]⟩]) (IntKind.i64.wrap (b+2)))else none)))else(some ((⟨51,e,0,d.At,c⟩,true))))
abbrev pP (f:Us):OX:=λa e g c b=>(bif decide (b<(↑(af.rows e).length:Int))then((ao e b).bind λd=>(bif d.Kind !=50 then((ao a.aj.ai.Names b).bind λh=>(bif decide (((c:List af)++([⟨52,h,0,0,[d]⟩]:List af)).length<=274877906944)then(jk f a e g (c++[⟨52,h,0,0,[d]⟩]) (IntKind.i64.wrap (b+1)))else none))else(bif d.At !=a.At then((ao a.aj.ai.Names b).bind λi=>(bif decide (((c:List af)++([⟨52,i,0,0,[d]⟩]:List af)).length<=274877906944)then(jk f a e g (c++[⟨52,i,0,0,[d]⟩]) (IntKind.i64.wrap (b+1)))else none))else(jk f a e g c (IntKind.i64.wrap (b+1))))))else(some ((⟨51,g,0,a.At,c⟩,true))))
abbrev pN (f:Us):OY:=λg a j e b=>(bif decide (e<(↑(ab.rows a.Kids).length:Int))then((ao a.Kids e).bind λk=>((nU f g k).bind λh=>(bif !h.snd then(some ((⟨0,[],0,a.At,b⟩,false)))else(bif decide (((b:List af)++([af.z]:List af)).length<=274877906944)then((ao (b++[af.z]) ((↑(af.rows b).length:Int))).bind λm=>(iA f g a j (IntKind.i64.wrap (e+1)) ((b++[af.z]).set (↑(af.rows b).length:Int).toNat h.fst)))else none))))else((kn f a.Op).bind λc=>(bif c.fst !=0 then(bif c.snd !=(↑(ab.rows a.Kids).length:Int)then(some ((⟨c.fst,[],0,a.At,b⟩,false)))else(bif c.fst==42 then((ao a.Kids 0).bind λi=>(bif decide (a.N<0)then(some ((⟨c.fst,[],0,a.At,b⟩,false)))else(bif decide (a.N>=(↑(aT i.aj.ai.Names).length:Int))then(some ((⟨c.fst,[],0,a.At,b⟩,false)))else((ao i.aj.ai.Names a.N).bind λl=>(some ((⟨c.fst,l,0,a.At,b⟩,true)))))))else(some ((⟨c.fst,[],0,a.At,b⟩,true)))))else((ko f a.Op).bind λd=>(bif a.Op==24 then(bif (↑(af.rows b).length:Int).tmod 2 !=0 then(some ((⟨51,d,0,a.At,b⟩,false)))else(kN f a b d ([]) 0))else(bif a.Op==25 then(bif (↑(aT a.aj.ai.Names).length:Int) !=(↑(af.rows b).length:Int)then(some ((⟨51,d,0,a.At,b⟩,false)))else(jk f a b d ([]) 0))else(some ((⟨51,d,0,a.At,b⟩,!d==[])))))))))
abbrev su (f:Us):Jc:=λa b=>((vt f a b).bind λc=>(bif c.snd then(some ((c.fst,true)))else(iA f a b false 0 ([]))))
abbrev CX (f:Us):Jd:=λa=>(some ({aK:=0,ai:=a:ay}))
abbrev CY (f:Us):Je:=λa=>(some ({aK:=a,ai:=ah.z:ay}))
abbrev zw (f:Us):Jf:=λb a=>(bif a.Result==0 then((gP f b).bind λc=>(some c))else((dQ f a.Result).bind λd=>(some d)))
abbrev xN (f:Us):HD:=λa b=>(some (a.Name==b.Text))
abbrev sH (f:Us):Km:=λb c a=>(bif decide (a<(↑(TParam.rows b).length:Int))then((ao b a).bind λd=>((Ir f d c).bind λe=>(bif e then(some a)else(Aw f b c (IntKind.i64.wrap (a+1))))))else(some (-1)))
abbrev sW (f:Us):Er:=λa b=>(Aw f a b 0)
abbrev iW (f:Us):HE:=λa b=>(some (.aM (AV.bA 75 (AV.agg (AV.v (Value.int IntKind.i64 a)::AV.v (Value.int IntKind.i64 b)::List.map AV.v [])))))
abbrev xO (f:Us):HF:=λa=>(bif a.aK==0 then(some (a.ai.Kind==0))else(some false))
abbrev dN (f:Us):HG:=λa=>(bif a==[115,101,116]then(some (-1))else(bif a==[109,97,112]then(some (-1))else(bif a==[114,101,99]then(some (-1))else(bif a==[119,114,105,116,101]then(some 3)else(bif a==[112,97,105,114]then(some 2)else(some 1))))))
abbrev tp (f:Us):Ny:=λb c a=>(bif decide (a<(↑(ep IntKind.i64 b).length:Int))then((ao b a).bind λd=>(bif c==d then(some a)else(By f b c (IntKind.i64.wrap (a+1)))))else(some (-1)))
abbrev uV (f:Us):HH:=λa b=>(By f a b 0)
abbrev xP (f:Us):HI:=λa b=>((CF f a b).bind λc=>(some (decide (c>=0))))
abbrev rV (f:Us):HJ:=λc a b=>(bif a.aK !=0 then(aA (dg f 4 b.At) λ_=>none)else((nN f c a.ai.Kind).bind λd=>(bif !d then(aA (dg f 4 b.At) λ_=>none)else(some (.ret (()))))))
abbrev xQ (f:Us):HK:=λa=>(bif decide ((([]:List (List UInt8))++(a:List (List UInt8))).length<=274877906944)then(some ([]++a))else none)
abbrev xx (f:Us):GJ:=λa=>(bif decide ((([]:List aP)++(a:List aP)).length<=274877906944)then(some ([]++a))else none)
abbrev xy (f:Us):GK:=λa=>(bif decide ((([]:List ah)++(a:List ah)).length<=274877906944)then(some ([]++a))else none)
abbrev tz (f:Us):Nz:=λb d e a c g=>(bif decide (a<(↑(ah.rows e).length:Int))then((ao c a).bind λh=>((r6 f h).bind λi=>((ao c a).bind λj=>(wO f b d e (IntKind.i64.wrap (a+1)) (c.set a.toNat i) g))))else(some (⟨b.Kind,b.Lo,b.Hi,d,c,g⟩)))
abbrev tq (f:Us):NA:=λc d e a b=>(bif decide (a<(↑(aP.rows e).length:Int))then((ao b a).bind λh=>((yb f h.If).bind λi=>((ao b a).bind λj=>(wN f c d e (IntKind.i64.wrap (a+1)) (b.set a.toNat {If:=i,eY:=j.eY:aP})))))else((GM f c.aw).bind λg=>(wO f c d g 0 g b)))
abbrev xR (f:Us):HL:=λa=>((yb f a.Names).bind λc=>((GL f a.aX).bind λb=>(wN f a c b 0 b)))
abbrev rW (f:Us):HM:=λa=>(bif a.Kind==50 then(some true)else(bif a.Kind==51 then(bif a.Text==[102,108,97,103]then(some true)else(bif a.Text==[110,117,109]then(some true)else(bif a.Text==[115,101,116]then(some true)else(bif a.Text==[109,97,112]then(some true)else(bif a.Text==[114,101,99]then(some true)else(bif a.Text==[112,97,105,114]then(some true)else(bif a.Text==[111,110,101]then(some true)else(some false))))))))else(bif a.Kind==39 then((ao a.Kids 0).bind λb=>((mz f b).bind λc=>(bif c then((ao a.Kids 1).bind λd=>((mz f d).bind λe=>(some e)))else(some false))))else(bif a.Kind==30 then((ao a.Kids 1).bind λg=>((mz f g).bind λh=>(bif h then((ao a.Kids 2).bind λi=>((mz f i).bind λj=>(some j)))else(some false))))else(some false)))))
abbrev BA (f:Us):NB:=λb c a=>(bif decide (a<(↑(aT b).length:Int))then((ao b a).bind λd=>((ao c a).bind λe=>(bif !d==e then(some false)else(Bz f b c (IntKind.i64.wrap (a+1))))))else(some true))
abbrev CA (f:Us):HN:=λa b=>(bif (↑(aT a).length:Int) !=(↑(aT b).length:Int)then(some false)else(Bz f a b 0))
abbrev xS (f:Us):HO:=λa b=>(bif a.eY==b.eY then((yh f a.If b.If).bind λc=>(some c))else(some false))
abbrev sK (f:Us):KC:=λb c a=>(bif decide (a<(↑(aP.rows b).length:Int))then((ao b a).bind λd=>((ao c a).bind λe=>((yn f d e).bind λg=>(bif !g then(some false)else(sJ f b c (IntKind.i64.wrap (a+1)))))))else(some true))
abbrev wA (f:Us):EL:=λa b=>(bif (↑(aP.rows a).length:Int) !=(↑(aP.rows b).length:Int)then(some false)else(sJ f a b 0))
abbrev xT (f:Us):HP:=λa b=>(bif a.Kind==b.Kind then(bif a.Lo==b.Lo then(bif a.Hi==b.Hi then((yh f a.Names b.Names).bind λc=>(bif c then((Bc f a.aX b.aX).bind λd=>(bif d then((Bd f a.aw b.aw).bind λe=>(some e))else(some false)))else(some false)))else(some false))else(some false))else(some false))
abbrev sM (f:Us):KD:=λb c a=>(bif decide (a<(↑(ah.rows b).length:Int))then((ao b a).bind λd=>((ao c a).bind λe=>((uW f d e).bind λg=>(bif !g then(some false)else(sL f b c (IntKind.i64.wrap (a+1)))))))else(some true))
abbrev wB (f:Us):EM:=λa b=>(bif (↑(ah.rows a).length:Int) !=(↑(ah.rows b).length:Int)then(some false)else(sL f a b 0))
abbrev zx (f:Us):Jg:=λa b=>(bif a.aK==b.aK then((uW f a.ai b.ai).bind λc=>(some c))else(some false))
abbrev sv (f:Us):Jh:=λe b c=>(aA (lH f e b c) λa=>((r6 f a.aj.ai).bind λd=>((rZ f c).bind λg=>(bif !g then((qp f c ({aK:=a.aj.aK,ai:=d:ay})).bind λh=>(bif !h then(aA (dg f 4 b.At) λ_=>none)else(some (.ret (⟨a.Op,{aK:=a.aj.aK,ai:=d:ay},a.N,a.Text,b.At,a.Kids⟩)))))else(some (.ret (⟨a.Op,{aK:=a.aj.aK,ai:=d:ay},a.N,a.Text,b.At,a.Kids⟩)))))))
abbrev dO (f:Us):HQ:=λb a e=>((dQ f 2).bind λc=>((dQ f 1).bind λd=>((dQ f 3).bind λh=>(bif a.Kind==44 then(some (.ret (⟨1,d,a.N,[],0,[]⟩)))else(bif a.Kind==45 then(some (.ret (⟨2,c,1,[],0,[]⟩)))else(bif a.Kind==46 then(some (.ret (⟨2,c,0,[],0,[]⟩)))else(bif a.Kind==47 then(some (.ret (⟨3,h,0,a.Text,0,[]⟩)))else(bif a.Kind==48 then((wh f b.params a).bind λg=>(bif decide (g<0)then(aA (dg f 3 a.At) λ_=>none)else((ao b.params g).bind λi=>((dQ f i.aK).bind λj=>(some (.ret (⟨4,j,g,[],0,[]⟩)))))))else(bif a.Kind==49 then((gP f b.l).bind λk=>(some (.ret (⟨5,k,0,[],0,[]⟩))))else(bif a.Kind==50 then(bif e.aK !=0 then(aA (dg f 4 a.At) λ_=>none)else((rZ f e).bind λm=>(bif m then(aA (dg f 4 a.At) λ_=>none)else(some (.ret (⟨6,e,0,[],0,[]⟩))))))else(bif a.Kind==31 then(aA (iJ f b 8 a c c c) λn=>(some (.ret n)))else(bif a.Kind==32 then(aA (iJ f b 9 a c c c) λo=>(some (.ret o)))else(bif a.Kind==33 then((ao a.Kids 0).bind λp=>(aA (bR f b p c) λq=>(some (.ret (⟨10,c,0,[],0,[q]⟩)))))else(bif a.Kind==34 then(aA (iJ f b 11 a d d c) λr=>(some (.ret r)))else(bif a.Kind==35 then(aA (iJ f b 12 a d d c) λs=>(some (.ret s)))else(bif a.Kind==37 then((dQ f 4).bind λt=>(aA (iJ f b 14 a h t c) λu=>(some (.ret u))))else(bif a.Kind==40 then(aA (iJ f b 17 a d d d) λv=>(some (.ret v)))else(bif a.Kind==41 then(aA (iJ f b 18 a d d d) λw=>(some (.ret w)))else(bif a.Kind==51 then(aA (cV f b a e) λx=>(some (.ret x)))else(aA (yx f b a e) λy=>(some (.ret y))))))))))))))))))))))
abbrev rX (f:Us):HR:=λa c b d e g=>((ao b.Kids 0).bind λh=>(aA (bR f a h d) λi=>((ao b.Kids 1).bind λj=>(aA (bR f a j e) λk=>(some (.ret (⟨c,g,0,[],0,[i,k]⟩)))))))
abbrev E4 (f:Us):NC:=λd b e c a=>(bif decide (c<(↑(af.rows b.Kids).length:Int))then((ao b.Kids c).bind λh=>(aA (bR f d h ay.z) λg=>(bif decide (((a:List ab)++([ab.z]:List ab)).length<=274877906944)then((ao (a++[ab.z]) ((↑(ab.rows a).length:Int))).bind λj=>((ao ((a++[ab.z]).set (↑(ab.rows a).length:Int).toNat g) (IntKind.i64.wrap ((↑(ab.rows a++ab.rows [ab.z]).length:Int)-1))).bind λi=>(bif i.aj.aK !=3 then(bif i.aj.aK !=4 then(aA (dg f 4 h.At) λ_=>none)else(BC f d b e (IntKind.i64.wrap (c+1)) ((a++[ab.z]).set (↑(ab.rows a).length:Int).toNat g)))else(BC f d b e (IntKind.i64.wrap (c+1)) ((a++[ab.z]).set (↑(ab.rows a).length:Int).toNat g)))))else none)))else(some (.ret (⟨23,e,0,[],0,a⟩))))
abbrev E6 (f:Us):ND:=λb c d e a=>(bif decide (e<(↑(af.rows c.Kids).length:Int))then((ao c.Kids e).bind λh=>((ao h.Kids 0).bind λi=>((dQ f 3).bind λj=>(aA (bR f b i j) λg=>(bif decide (((a:List ab)++([ab.z]:List ab)).length<=274877906944)then((ao (a++[ab.z]) ((↑(ab.rows a).length:Int))).bind λo=>((ao h.Kids 1).bind λk=>((ao d.ai.aw 0).bind λl=>((gP f l).bind λm=>(aA (bR f b k m) λn=>(bif decide ((((a++[ab.z]).set (↑(ab.rows a).length:Int).toNat g:List ab)++([ab.z]:List ab)).length<=274877906944)then((ao ((a++[ab.z]).set (↑(ab.rows a).length:Int).toNat g++[ab.z]) ((↑(ab.rows a++ab.rows [ab.z]).length:Int))).bind λp=>(E5 f b c d (IntKind.i64.wrap (e+1)) (((a++[ab.z]).set (↑(ab.rows a).length:Int).toNat g++[ab.z]).set (↑(ab.rows a++ab.rows [ab.z]).length:Int).toNat n)))else none))))))else none)))))else(some (.ret (⟨24,d,0,[],0,a⟩))))
abbrev lu (f:Us):NF:=λd b e c a=>(bif decide (c<(↑(af.rows b.Kids).length:Int))then((ao b.Kids c).bind λh=>(aA (bR f d h ay.z) λg=>(bif decide (((a:List ab)++([ab.z]:List ab)).length<=274877906944)then((ao (a++[ab.z]) ((↑(ab.rows a).length:Int))).bind λj=>((ao ((a++[ab.z]).set (↑(ab.rows a).length:Int).toNat g) (IntKind.i64.wrap ((↑(ab.rows a++ab.rows [ab.z]).length:Int)-1))).bind λi=>(bif i.aj.aK !=3 then(bif i.aj.aK !=4 then(aA (dg f 4 h.At) λ_=>none)else(gD f d b e (IntKind.i64.wrap (c+1)) ((a++[ab.z]).set (↑(ab.rows a).length:Int).toNat g)))else(gD f d b e (IntKind.i64.wrap (c+1)) ((a++[ab.z]).set (↑(ab.rows a).length:Int).toNat g)))))else none)))else(some (.ret (⟨23,e,0,[],0,a⟩))))
abbrev nb (f:Us):NG:=λb c d e a=>(bif decide (e<(↑(af.rows c.Kids).length:Int))then((ao c.Kids e).bind λh=>((ao h.Kids 0).bind λi=>((dQ f 3).bind λj=>(aA (bR f b i j) λg=>(bif decide (((a:List ab)++([ab.z]:List ab)).length<=274877906944)then((ao (a++[ab.z]) ((↑(ab.rows a).length:Int))).bind λo=>((ao h.Kids 1).bind λk=>((ao d.ai.aw 0).bind λl=>((gP f l).bind λm=>(aA (bR f b k m) λn=>(bif decide ((((a++[ab.z]).set (↑(ab.rows a).length:Int).toNat g:List ab)++([ab.z]:List ab)).length<=274877906944)then((ao ((a++[ab.z]).set (↑(ab.rows a).length:Int).toNat g++[ab.z]) ((↑(ab.rows a++ab.rows [ab.z]).length:Int))).bind λp=>(jO f b c d (IntKind.i64.wrap (e+1)) (((a++[ab.z]).set (↑(ab.rows a).length:Int).toNat g++[ab.z]).set (↑(ab.rows a++ab.rows [ab.z]).length:Int).toNat n)))else none))))))else none)))))else(some (.ret (⟨24,d,0,[],0,a⟩))))
abbrev dP (f:Us):HT:=λc a b=>((dT f a.Text).bind λk=>(bif decide (k>=0)then(bif k !=(↑(af.rows a.Kids).length:Int)then(aA (dg f 1 a.At) λ_=>none)else(bif a.Text==[102,108,97,103]then(cr (gL f ([1]) b a) λy6=>((ao a.Kids 0).bind λn=>((dQ f 2).bind λo=>(aA (bR f c n o) λp=>(bif decide (([ab.z]:List ab).length<=274877906944)then((ao ([ab.z]) ((↑0:Int))).bind λx12=>(some (.ret (⟨21,b,0,[],0,[ab.z].set (Int.toNat 0) p⟩))))else none)))))else(bif a.Text==[110,117,109]then(cr (gL f ([2,3]) b a) λy15=>((ao a.Kids 0).bind λq=>((dQ f 1).bind λr=>(aA (bR f c q r) λs=>(bif decide (([ab.z]:List ab).length<=274877906944)then((ao ([ab.z]) ((↑0:Int))).bind λx21=>(some (.ret (⟨22,b,0,[],0,[ab.z].set (Int.toNat 0) s⟩))))else none)))))else(bif a.Text==[115,101,116]then(cr (gL f ([4,10]) b a) λy24=>(BC f c a b 0 ([])))else(bif a.Text==[109,97,112]then(cr (gL f ([5]) b a) λy51=>(E5 f c a b 0 ([])))else(bif a.Text==[114,101,99]then(cr (gL f ([6]) b a) λy85=>(aA (uX f c a b.ai) λt=>(some (.ret (⟨25,b,0,[],0,t⟩)))))else(bif a.Text==[112,97,105,114]then(cr (gL f ([7]) b a) λy88=>((ao a.Kids 0).bind λu=>((ao b.ai.aw 0).bind λv=>((gP f v).bind λw=>(aA (bR f c u w) λg=>(bif decide (([ab.z]:List ab).length<=274877906944)then((ao ([ab.z]) ((↑0:Int))).bind λx96=>((ao a.Kids 1).bind λx=>((ao b.ai.aw 1).bind λy=>((gP f y).bind λA=>(aA (bR f c x A) λB=>(bif decide ((([ab.z].set (Int.toNat 0) g:List ab)++([ab.z]:List ab)).length<=274877906944)then((ao ([ab.z].set (Int.toNat 0) g++[ab.z]) ((↑1:Int))).bind λx105=>(some (.ret (⟨26,b,0,[],0,([ab.z].set (Int.toNat 0) g++[ab.z]).set (Int.toNat 1) B⟩))))else none))))))else none))))))else(bif a.Text==[111,110,101]then(cr (gL f ([8]) b a) λy108=>((ao a.Kids 0).bind λC=>((dQ f 3).bind λD=>(aA (bR f c C D) λE=>(bif decide (([ab.z]:List ab).length<=274877906944)then((ao ([ab.z]) ((↑0:Int))).bind λx114=>(some (.ret (⟨27,b,0,[],0,[ab.z].set (Int.toNat 0) E⟩))))else none)))))else(bif a.Text==[119,114,105,116,101]then((gP f (⟨9,0,0,[],[],[]⟩)).bind λl=>((ao a.Kids 0).bind λF=>(aA (bR f c F l) λd=>(bif decide (([ab.z]:List ab).length<=274877906944)then((ao ([ab.z]) ((↑0:Int))).bind λx122=>((ao a.Kids 1).bind λG=>((dQ f 1).bind λH=>(aA (bR f c G H) λh=>(bif decide ((([ab.z].set (Int.toNat 0) d:List ab)++([ab.z]:List ab)).length<=274877906944)then((ao ([ab.z].set (Int.toNat 0) d++[ab.z]) ((↑1:Int))).bind λx129=>((ao a.Kids 2).bind λJ=>((dQ f 3).bind λK=>(aA (bR f c J K) λL=>(bif decide (((([ab.z].set (Int.toNat 0) d++[ab.z]).set (Int.toNat 1) h:List ab)++([ab.z]:List ab)).length<=274877906944)then((ao (([ab.z].set (Int.toNat 0) d++[ab.z]).set (Int.toNat 1) h++[ab.z]) ((↑2:Int))).bind λx136=>(some (.ret (⟨28,l,0,[],0,(([ab.z].set (Int.toNat 0) d++[ab.z]).set (Int.toNat 1) h++[ab.z]).set (Int.toNat 2) L⟩))))else none)))))else none)))))else none))))else(aA (uY f c a) λM=>(some (.ret M))))))))))))else(bif a.Text==[102,108,97,103]then(cr (gL f ([1]) b a) λy140=>((ao a.Kids 0).bind λN=>((dQ f 2).bind λO=>(aA (bR f c N O) λP=>(bif decide (([ab.z]:List ab).length<=274877906944)then((ao ([ab.z]) ((↑0:Int))).bind λx146=>(some (.ret (⟨21,b,0,[],0,[ab.z].set (Int.toNat 0) P⟩))))else none)))))else(bif a.Text==[110,117,109]then(cr (gL f ([2,3]) b a) λy149=>((ao a.Kids 0).bind λQ=>((dQ f 1).bind λR=>(aA (bR f c Q R) λS=>(bif decide (([ab.z]:List ab).length<=274877906944)then((ao ([ab.z]) ((↑0:Int))).bind λx155=>(some (.ret (⟨22,b,0,[],0,[ab.z].set (Int.toNat 0) S⟩))))else none)))))else(bif a.Text==[115,101,116]then(cr (gL f ([4,10]) b a) λy158=>(gD f c a b 0 ([])))else(bif a.Text==[109,97,112]then(cr (gL f ([5]) b a) λy185=>(jO f c a b 0 ([])))else(bif a.Text==[114,101,99]then(cr (gL f ([6]) b a) λy219=>(aA (uX f c a b.ai) λT=>(some (.ret (⟨25,b,0,[],0,T⟩)))))else(bif a.Text==[112,97,105,114]then(cr (gL f ([7]) b a) λy222=>((ao a.Kids 0).bind λU=>((ao b.ai.aw 0).bind λV=>((gP f V).bind λW=>(aA (bR f c U W) λi=>(bif decide (([ab.z]:List ab).length<=274877906944)then((ao ([ab.z]) ((↑0:Int))).bind λx230=>((ao a.Kids 1).bind λX=>((ao b.ai.aw 1).bind λY=>((gP f Y).bind λZ=>(aA (bR f c X Z) λy237=>(bif decide ((([ab.z].set (Int.toNat 0) i:List ab)++([ab.z]:List ab)).length<=274877906944)then((ao ([ab.z].set (Int.toNat 0) i++[ab.z]) ((↑1:Int))).bind λx239=>(some (.ret (⟨26,b,0,[],0,([ab.z].set (Int.toNat 0) i++[ab.z]).set (Int.toNat 1) y237⟩))))else none))))))else none))))))else(bif a.Text==[111,110,101]then(cr (gL f ([8]) b a) λy242=>((ao a.Kids 0).bind λx243=>((dQ f 3).bind λy245=>(aA (bR f c x243 y245) λy246=>(bif decide (([ab.z]:List ab).length<=274877906944)then((ao ([ab.z]) ((↑0:Int))).bind λx248=>(some (.ret (⟨27,b,0,[],0,[ab.z].set (Int.toNat 0) y246⟩))))else none)))))else(bif a.Text==[119,114,105,116,101]then((gP f (⟨9,0,0,[],[],[]⟩)).bind λm=>((ao a.Kids 0).bind λx252=>(aA (bR f c x252 m) λe=>(bif decide (([ab.z]:List ab).length<=274877906944)then((ao ([ab.z]) ((↑0:Int))).bind λx256=>((ao a.Kids 1).bind λx258=>((dQ f 1).bind λy260=>(aA (bR f c x258 y260) λj=>(bif decide ((([ab.z].set (Int.toNat 0) e:List ab)++([ab.z]:List ab)).length<=274877906944)then((ao ([ab.z].set (Int.toNat 0) e++[ab.z]) ((↑1:Int))).bind λx263=>((ao a.Kids 2).bind λx265=>((dQ f 3).bind λy267=>(aA (bR f c x265 y267) λy268=>(bif decide (((([ab.z].set (Int.toNat 0) e++[ab.z]).set (Int.toNat 1) j:List ab)++([ab.z]:List ab)).length<=274877906944)then((ao (([ab.z].set (Int.toNat 0) e++[ab.z]).set (Int.toNat 1) j++[ab.z]) ((↑2:Int))).bind λx270=>(some (.ret (⟨28,m,0,[],0,(([ab.z].set (Int.toNat 0) e++[ab.z]).set (Int.toNat 1) j++[ab.z]).set (Int.toNat 2) y268⟩))))else none)))))else none)))))else none))))else(aA (uY f c a) λy272=>(some (.ret y272)))))))))))))
abbrev nc (f:Us):NH:=λd b e c a=>(bif decide (a<(↑(ah.rows b.aw).length:Int))then((ao b.aw a).bind λg=>((ao e a).bind λh=>(bif !h then((r6 f g).bind λi=>((gP f i).bind λj=>((ao c a).bind λk=>(jP f d b e (c.set a.toNat ⟨6,j,0,[],d.At,[]⟩) (IntKind.i64.wrap (a+1))))))else(jP f d b e c (IntKind.i64.wrap (a+1))))))else(some (.ret c)))
abbrev nf (f:Us):NI:=λi b c g d h=>(bif decide (h<(↑(af.rows b.Kids).length:Int))then((ao b.Kids h).bind λe=>((vp f c.Names e.Text).bind λa=>(bif decide (a<0)then(aA (dg f 3 e.At) λ_=>none)else((ao d a).bind λj=>(bif j then(aA (dg f 3 e.At) λ_=>none)else((ao e.Kids 0).bind λk=>((ao c.aw a).bind λl=>((gP f l).bind λm=>(aA (bR f i k m) λn=>((ao g a).bind λo=>((ao d a).bind λp=>(mb f i b c (g.set a.toNat n) (d.set a.toNat true) (IntKind.i64.wrap (h+1))))))))))))))else(jP f b c d g 0))
abbrev si (f:Us):HU:=λb c a=>((xn ((↑(ah.rows a.aw).length:Int))).bind λm1=>((xn ((↑(ah.rows a.aw).length:Int))).bind λm2=>(mb f b c a (List.replicate m1 ab.z) (List.replicate m2 false) 0)))
abbrev jy (f:Us):HV:=λb a=>((ao a.Kids 0).bind λc=>((dQ f 2).bind λj=>((dQ f 1).bind λh=>((dQ f 4).bind λk=>(bif a.Text==[115,105,122,101]then(aA (bR f b c ay.z) λg=>(bif g.aj.aK !=4 then(bif g.aj.aK !=0 then(aA (dg f 4 a.At) λ_=>none)else((nN f ([4,5,9,10]) g.aj.ai.Kind).bind λm=>(bif !m then(aA (dg f 4 a.At) λ_=>none)else(some (.ret (⟨29,h,0,[],0,[g]⟩))))))else(some (.ret (⟨29,h,0,[],0,[g]⟩)))))else(bif a.Text==[115,117,109]then(aA (jZ f 30 h ([5]) b a c) λi=>((ao i.Kids 0).bind λn=>((ao n.aj.ai.aw 0).bind λl=>(bif l.Kind !=2 then(bif l.Kind !=3 then(aA (dg f 4 a.At) λ_=>none)else(some (.ret i)))else(some (.ret i))))))else(bif a.Text==[110,117,109,98,101,114]then(aA (jZ f 31 h ([2,3]) b a c) λo=>(some (.ret o)))else(bif a.Text==[111,110]then(aA (jZ f 32 j ([1]) b a c) λp=>(some (.ret p)))else(bif a.Text==[107,101,121,115]then(aA (jZ f 33 k ([5,4,10]) b a c) λq=>(some (.ret q)))else(bif a.Text==[118,97,108,117,101,115]then(aA (jZ f 34 k ([8,9]) b a c) λr=>(some (.ret r)))else(bif a.Text==[99,111,110,102,108,105,99,116]then(aA (jZ f 37 j ([8,9]) b a c) λs=>(some (.ret s)))else(bif a.Text==[115,101,99,111,110,100]then(aA (jZ f 36 ay.z ([7]) b a c) λd=>((ao d.Kids 0).bind λt=>((ao t.aj.ai.aw 1).bind λu=>((gP f u).bind λv=>(some (.ret (⟨d.Op,v,d.N,d.Text,d.At,d.Kids⟩)))))))else(aA (jZ f 35 ay.z ([7]) b a c) λe=>((ao e.Kids 0).bind λw=>((ao w.aj.ai.aw 0).bind λx=>((gP f x).bind λy=>(some (.ret (⟨e.Op,y,e.N,e.Text,e.At,e.Kids⟩)))))))))))))))))))
abbrev nQ (f:Us):HW:=λa b c d e g=>(aA (nO f d e g c) λh=>(some (.ret (⟨a,b,0,[],0,[h]⟩))))
abbrev oJ (f:Us):HX:=λc b d e=>(aA (bR f c d ay.z) λa=>(bif a.aj.aK !=0 then(aA (dg f 4 b.At) λ_=>none)else((nN f e a.aj.ai.Kind).bind λg=>(bif !g then(aA (dg f 4 b.At) λ_=>none)else(some (.ret a))))))
abbrev iK (f:Us):HY:=λb a c=>((dQ f 2).bind λd=>(bif a.Kind==30 then((ao a.Kids 0).bind λo=>(aA (bR f b o d) λk=>((rZ f c).bind λp=>(bif p then((ao a.Kids 1).bind λq=>((ao a.Kids 2).bind λr=>(aA (qa f b a q r false) λe=>(some (.ret (⟨7,e.fst.aj,0,[],0,[k,e.fst,e.snd]⟩))))))else((ao a.Kids 1).bind λs=>(aA (bR f b s c) λl=>((ao a.Kids 2).bind λt=>(aA (bR f b t c) λu=>(some (.ret (⟨7,l.aj,0,[],0,[k,l,u]⟩)))))))))))else(bif a.Kind==36 then((ao a.Kids 0).bind λv=>(aA (bR f b v ay.z) λg=>(bif g.aj.aK==0 then((ao a.Kids 0).bind λw=>(aA (dg f 4 w.At) λ_=>none))else((ao a.Kids 1).bind λx=>(aA (bR f b x g.aj) λy=>(some (.ret (⟨13,d,0,[],0,[g,y]⟩))))))))else(bif a.Kind==38 then((ao a.Kids 0).bind λA=>((ao a.Kids 1).bind λB=>(aA (qa f b a A B true) λm=>(some (.ret (⟨15,d,0,[],0,[m.fst,m.snd]⟩))))))else(bif a.Kind==39 then((rZ f c).bind λC=>(bif !C then(bif c.aK !=0 then(aA (dg f 4 a.At) λ_=>none)else(aA (iJ f b 16 a c c c) λD=>(some (.ret D))))else((ao a.Kids 0).bind λE=>((ao a.Kids 1).bind λF=>(aA (qa f b a E F true) λh=>(some (.ret (⟨16,h.fst.aj,0,[],0,[h.fst,h.snd]⟩))))))))else(bif a.Kind==42 then((ao a.Kids 0).bind λG=>(aA (nO f b a G ([6])) λi=>((vp f i.aj.ai.Names a.Text).bind λj=>(bif decide (j<0)then(aA (dg f 3 a.At) λ_=>none)else((ao i.aj.ai.aw j).bind λH=>((gP f H).bind λJ=>(some (.ret (⟨19,J,j,[],0,[i]⟩)))))))))else((ao a.Kids 0).bind λK=>(aA (nO f b a K ([5])) λn=>((ao a.Kids 1).bind λL=>((dQ f 3).bind λM=>(aA (bR f b L M) λN=>((ao n.aj.ai.aw 0).bind λO=>((gP f O).bind λP=>(some (.ret (⟨20,P,0,[],0,[n,N]⟩))))))))))))))))
abbrev sj (f:Us):HZ:=λa h b c g=>((mz f b).bind λi=>(bif i then((mz f c).bind λj=>(bif j then(aA (dg f 4 h.At) λ_=>none)else(aA (bR f a c ay.z) λd=>(bif g then(bif d.aj.aK !=0 then(aA (dg f 4 c.At) λ_=>none)else(aA (bR f a b d.aj) λk=>(some (.ret ((k,d))))))else(aA (bR f a b d.aj) λl=>(some (.ret ((l,d)))))))))else(aA (bR f a b ay.z) λe=>(bif g then(bif e.aj.aK !=0 then(aA (dg f 4 b.At) λ_=>none)else(aA (bR f a c e.aj) λm=>(some (.ret ((e,m))))))else(aA (bR f a c e.aj) λn=>(some (.ret ((e,n)))))))))
abbrev vD (f:Us):Ji:=λa b c d=>(gM 75 (bR f ({l:=a,params:=b:bJ}) d c) (λc3 c4=>(bif c3 !=0 then(some ((ab.z,{Code:=c3,At:=c4:aS})))else(some ((ab.z,{Code:=c3,At:=c4:aS}))))) λe=>(some ((e,aS.z))))
abbrev zK (f:Us):Jj:=λa b=>(bif a.Op==b.Op then(bif a.N==b.N then(bif a.Text==b.Text then(bif a.At==b.At then((qp f a.aj b.aj).bind λc=>(bif c then((BZ f a.Kids b.Kids).bind λd=>(some d))else(some false)))else(some false))else(some false))else(some false))else(some false))
abbrev sY (f:Us):Lz:=λb c a=>(bif decide (a<(↑(ab.rows b).length:Int))then((ao b a).bind λd=>((ao c a).bind λe=>((vu f d e).bind λg=>(bif !g then(some false)else(sX f b c (IntKind.i64.wrap (a+1)))))))else(some true))
abbrev xf (f:Us):Ft:=λa b=>(bif (↑(ab.rows a).length:Int) !=(↑(ab.rows b).length:Int)then(some false)else(sX f a b 0))
abbrev vE (f:Us):Jk:=λb a=>((zB f b).bind λe=>(bif e !=0 then(some false)else((u32 f a).bind λg=>(bif !g then(some false)else((nU f a.Params a.Body).bind λc=>(bif !c.snd then(some false)else((C1 f b a).bind λh=>((C2 f b a.Params h c.fst).bind λd=>(bif d.snd.Code==0 then((vu f d.fst a.Body).bind λi=>(some i))else(some false))))))))))
abbrev Dm (f:Us):Jl:=λa=>(bif decide ((([]:List TParam)++(a:List TParam)).length<=274877906944)then(some ([]++a))else none)
abbrev zN (f:Us):Jm:=λa b=>(bif a.Op==b.Op then((qp f a.aj b.aj).bind λc=>(bif c then(bif a.N==b.N then(bif a.Text==b.Text then((B0 f a.Kids b.Kids).bind λd=>(some d))else(some false))else(some false))else(some false)))else(some false))
abbrev s6 (f:Us):LA:=λb c a=>(bif decide (a<(↑(ab.rows b).length:Int))then((ao b a).bind λd=>((ao c a).bind λe=>((vv f d e).bind λg=>(bif !g then(some false)else(sZ f b c (IntKind.i64.wrap (a+1)))))))else(some true))
abbrev xg (f:Us):Fu:=λa b=>(bif (↑(ab.rows a).length:Int) !=(↑(ab.rows b).length:Int)then(some false)else(sZ f a b 0))
abbrev zO (f:Us):Jn:=λa=>(some (⟨6,a.aj,0,[],a.At,[]⟩))
abbrev zQ (f:Us):Jo:=λa=>(some (a.Op==6))
abbrev tX (f:Us):OZ:=λe a c g b=>(bif decide (b<(↑(ab.rows a.Kids).length:Int))then((ao a.Kids b).bind λh=>((ao e.aj.ai.aw b).bind λi=>((kp f (⟨19,{aK:=0,ai:=i:ay},b,[],0,[e]⟩) h).bind λd=>(bif g then((oT f d).bind λj=>(bif decide (((c:List ab)++([d]:List ab)).length<=274877906944)then(pQ f e a (c++[d]) j (IntKind.i64.wrap (b+1)))else none))else(bif decide (((c:List ab)++([d]:List ab)).length<=274877906944)then(pQ f e a (c++[d]) false (IntKind.i64.wrap (b+1)))else none)))))else(bif g then((sx f a).bind λk=>(some k))else(some (⟨a.Op,a.aj,a.N,a.Text,a.At,c⟩))))
abbrev tY (f:Us):O0:=λd a c b=>(bif decide (b<(↑(ab.rows a.Kids).length:Int))then((ao d.aj.ai.aw 0).bind λh=>((ao a.Kids b).bind λi=>((ao a.Kids (IntKind.i64.wrap (b+1))).bind λj=>((kp f (⟨20,{aK:=0,ai:=h:ay},0,[],0,[d,i]⟩) j).bind λe=>((oT f e).bind λk=>(bif !k then((ao a.Kids b).bind λg=>(bif decide (((c:List ab)++([g,e]:List ab)).length<=274877906944)then(nA f d a (c++[g,e]) (IntKind.i64.wrap (b+2)))else none))else(nA f d a c (IntKind.i64.wrap (b+2)))))))))else(bif (↑(ab.rows c).length:Int)==0 then((sx f a).bind λl=>(some l))else(some (⟨a.Op,a.aj,a.N,a.Text,a.At,c⟩))))
abbrev oV (f:Us):Jp:=λb a=>((vv f b a).bind λh=>(bif h then((sx f a).bind λi=>(some i))else(bif a.Op==16 then((ao a.Kids 0).bind λj=>((kp f b j).bind λc=>((ao a.Kids 1).bind λk=>((kp f b k).bind λd=>((oT f c).bind λl=>(bif l then(some d)else((oT f d).bind λm=>(bif m then(some c)else(some (⟨a.Op,a.aj,a.N,a.Text,a.At,[c,d]⟩))))))))))else(bif a.Op==7 then((ao a.Kids 1).bind λn=>((kp f b n).bind λe=>((ao a.Kids 2).bind λo=>((kp f b o).bind λg=>((oT f e).bind λp=>(bif p then((oT f g).bind λq=>(bif q then((sx f a).bind λr=>(some r))else((ao a.Kids 0).bind λs=>(some (⟨a.Op,a.aj,a.N,a.Text,a.At,[s,e,g]⟩)))))else((ao a.Kids 0).bind λt=>(some (⟨a.Op,a.aj,a.N,a.Text,a.At,[t,e,g]⟩)))))))))else(bif a.Op==25 then(pQ f b a ([]) true 0)else(bif a.Op==24 then(nA f b a ([]) 0)else(some a)))))))
abbrev tZ (f:Us):O1:=λa b c=>(bif decide (b<(↑(ab.rows a.Kids).length:Int))then((ao a.Kids b).bind λe=>((zE f e).bind λd=>(bif decide (((c:List ab)++([d]:List ab)).length<=274877906944)then(rj f a (IntKind.i64.wrap (b+1)) (c++[d]))else none)))else(some (⟨a.Op,a.aj,a.N,a.Text,a.At,c⟩)))
abbrev vz (f:Us):Jq:=λa=>(rj f a 0 ([]))
abbrev B9 (f:Us):T9:=λb a=>((so f b a).bind λc=>(bif !c then(some ((bD.z,1)))else(bif a.Result !=0 then(some ((bD.z,1)))else((C4 f a.Params).bind λd=>((kp f (⟨5,{aK:=0,ai:=b:ay},0,[],0,[]⟩) a.Body).bind λe=>((zE f e).bind λg=>(some (({Name:=a.Name,On:=a.On,Params:=d,Result:=a.Result,Body:=g:bD},0)))))))))
abbrev u6 (f:Us):H0:=λa=>(bif a.Kind==2 then(bif (↑(aP.rows a.aX).length:Int) !=0 then(some false)else(bif (↑(aT a.Names).length:Int)==0 then(some ((↑(ah.rows a.aw).length:Int)==0))else(some false)))else(bif !a.Kind==3 then(bif a.Lo !=0 then(some false)else(bif a.Hi !=0 then(some false)else(bif a.Kind !=10 then(bif (↑(aP.rows a.aX).length:Int) !=0 then(some false)else(bif a.Kind==1 then(bif (↑(aT a.Names).length:Int)==0 then(some ((↑(ah.rows a.aw).length:Int)==0))else(some false))else(bif a.Kind==9 then(bif (↑(aT a.Names).length:Int)==0 then(some ((↑(ah.rows a.aw).length:Int)==0))else(some false))else(bif a.Kind==4 then(some ((↑(ah.rows a.aw).length:Int)==0))else(bif a.Kind==8 then(some ((↑(ah.rows a.aw).length:Int)==0))else(bif a.Kind==5 then(some ((↑(ah.rows a.aw).length:Int)==1))else(bif a.Kind==6 then(bif decide ((↑(aT a.Names).length:Int)>0)then(some ((↑(aT a.Names).length:Int)==(↑(ah.rows a.aw).length:Int)))else(some false))else(bif a.Kind==7 then(bif (↑(aT a.Names).length:Int)==0 then(some ((↑(ah.rows a.aw).length:Int)==2))else(some false))else(some false)))))))))else(bif decide ((↑(aT a.Names).length:Int)>0)then(some ((↑(ah.rows a.aw).length:Int)==0))else(some false)))))else(bif (↑(aP.rows a.aX).length:Int) !=0 then(some false)else(bif (↑(aT a.Names).length:Int)==0 then(some ((↑(ah.rows a.aw).length:Int)==0))else(some false)))))
