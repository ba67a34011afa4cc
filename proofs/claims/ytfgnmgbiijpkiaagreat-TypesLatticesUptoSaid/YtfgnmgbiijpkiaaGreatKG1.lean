/- Printed by a program: what functions answer, and that they do. -/
import Derived.Test.YtfgnmgbiijpkiaaGreatKAw
set_option linter.all false
set_option maxRecDepth 100000
noncomputable section
namespace Go.Proofs.YtfgnmgbiijpkiaaGreat
open Go Go.Bw
abbrev aes:=ab->Option Bool
abbrev aeA:=List ab->Int->Option Int
abbrev aem:=List ab->Option Int
abbrev MJ:=List (List UInt8)->List UInt8->Int->Option Int
abbrev FE:=List (List UInt8)->List UInt8->Option Int
abbrev FG:=List (List UInt8)->List UInt8->Option Bool
abbrev H9:=List (List UInt8)->List UInt8->Option Bool
abbrev Ih:=Int->Int->Option (aX Unit)
abbrev aeU:=List ab->List (List UInt8)->Int->Option (aX (List (List UInt8)))
abbrev aet:=List ab->Option (aX (List (List UInt8)))
abbrev aeu:=bt->ab->Option Bool
abbrev aeB:=List bt->ab->Int->Option Int
abbrev aen:=List bt->ab->Option Int
abbrev aeV:=fN->ab->Int->List ah->Option (aX ah)
abbrev aeW:=fN->ab->Int->List (List UInt8)->List ah->Option (aX ah)
abbrev aeX:=List (List UInt8)->List ab->Int->List aU->Option (aX ah)
abbrev aeY:=fN->ab->Int->List ah->Option (aX ah)
abbrev aeZ:=fN->ab->Int->List (List UInt8)->List ah->Option (aX ah)
abbrev ae0:=List (List UInt8)->List ab->Int->List aU->Option (aX ah)
abbrev aev:=fN->ab->Option (aX ah)
abbrev FA:=Bool->Int->Option Int
abbrev FC:=ah->Option Int
abbrev FD:=ah->Option Int
abbrev H7:=Int->Option Bool
abbrev OA:=List UInt8->Int->Option Bool
abbrev H8:=List UInt8->Option Bool
abbrev MK:=List (List UInt8)->Int->Option Bool
abbrev FH:=List (List UInt8)->Option Bool
abbrev ML:=List (List UInt8)->List (List UInt8)->Int->Option Bool
abbrev FI:=List (List UInt8)->List (List UInt8)->Option Bool
abbrev MM:=ah->Int->Option Int
abbrev MN:=ah->Int->Option Int
abbrev MO:=ah->Int->Int->Option Int
abbrev FJ:=ah->Option Int
abbrev FK:=ah->Option Int
abbrev FL:=ah->Option Bool
abbrev FM:=ah->Option Int
abbrev MP:=List Int->Int->Option Int
abbrev FN:=List Int->Option Int
abbrev OC:=ah->Int->Int->dp->Option (Int×dp)
abbrev H':=dp->ah->Int->Option (Int×dp)
abbrev Ia:=ah->Option Int
abbrev T67:=fN->ab->Option (aX ah)
abbrev F1:=List (List UInt8)->Option (List (List UInt8))
abbrev E9:=List aU->Option (List aU)
abbrev E':=List ah->Option (List ah)
abbrev OH:=ah->List (List UInt8)->List ah->Int->List ah->List aU->Option ah
abbrev OI:=ah->List (List UInt8)->List aU->Int->List aU->Option ah
abbrev Ij:=ah->Option ah
abbrev T27:=List bt->ab->Option (ah×aM)
abbrev IA:=Int->Int->Option aM
abbrev Od:=List (List UInt8)->List UInt8->Int->Option Bool
abbrev Ix:=List (List UInt8)->List UInt8->Option Bool
abbrev ae1:=List (List UInt8)->List (List UInt8)->Int->List UInt8->Bool->List UInt8->List (List UInt8)->Int->Option (List (List UInt8))
abbrev ae2:=List (List UInt8)->List (List UInt8)->Int->Option (List (List UInt8))
abbrev aew:=List (List UInt8)->Option (List (List UInt8))
abbrev ae3:=List ab->List (List UInt8)->List (List UInt8)->Int->Option ((List (List UInt8))×aM)
abbrev aex:=List ab->Option ((List (List UInt8))×aM)
abbrev aff:=List bt->ab->Int->Option (ah×aM)
abbrev afg:=List bt->ab->Int->List ah->aM->Option (ah×aM)
abbrev afh:=List bt->ab->Int->List (List UInt8)->List ah->aM->Option (ah×aM)
abbrev afi:=ab->((List (List UInt8))×aM)->Int->List aU->aM->Option (ah×aM)
abbrev afj:=ab->((List (List UInt8))×aM)->Int->List aU->aM->Option (ah×aM)
abbrev afk:=ab->Int->Option (ah×aM)
abbrev T68:=List bt->ab->Option (ah×aM)
abbrev Gg:=ah->Option Bool
abbrev MY:=List UInt8->Int->Option Bool
abbrev Gh:=List UInt8->Option Bool
abbrev MZ:=List (List UInt8)->List UInt8->Int->Option Bool
abbrev Gi:=List (List UInt8)->List UInt8->Option Bool
abbrev M0:=List (List UInt8)->Int->Option Bool
abbrev Gj:=List (List UInt8)->Option Bool
abbrev M1:=ah->Int->Option Bool
abbrev M3:=ah->Bool->Bool->Int->aU->Bool->Bool->Bool->Int->Option Bool
abbrev Mv:=ah->Bool->Bool->Int->Option Bool
abbrev Gk:=ah->Option Bool
abbrev Gm:=ah->Option Bool
abbrev Is:=ah->Int->Int->Option Int
abbrev Ob:=ah->Int->Int->Int->Option (Int×Int)
abbrev Iu:=ah->Int->Int->Option (Int×Int)
abbrev Iv:=ah->Option Int
abbrev T28:=List bt->ab->Option (ah×aM)
abbrev Oe:=List (List UInt8)->List (List UInt8)->Int->Option Bool
abbrev IC:=List (List UInt8)->List (List UInt8)->Option Bool
abbrev Og:=ah->ah->Int->Option Bool
abbrev Oh:=ah->ah->Bool->Int->Option Bool
abbrev ID:=ah->ah->Option Bool
abbrev T7qq:=ah->List UInt8->List UInt8->Option Bool
def BI:=((((aes×aeA)×(aem×(MJ×FE)))×((FG×H9)×(Ih×(aeU×aet))))×(((aeu×aeB)×(aen×(aeV×aeW)))×((aeX×aeY)×(aeZ×(ae0×aev)))))
def BJ:=((((FA×FC)×(FD×(H7×OA)))×((H8×MK)×(FH×(ML×FI))))×(((MM×MN)×(MO×(FJ×FK)))×((FL×FM)×(MP×(FN×OC)))))
def BK:=((((H'×Ia)×(T67×(F1×E9)))×((E'×OH)×(OI×(Ij×T27))))×(((IA×Od)×(Ix×(ae1×ae2)))×((aew×ae3)×(aex×(aff×afg)))))
def BL:=((((afh×afi)×(afj×(afk×T68)))×((Gg×MY)×(Gh×(MZ×Gi))))×(((M0×Gj)×(M1×(M3×Mv)))×((Gk×Gm)×(Is×(Ob×Iu)))))
def BM:=(((Iv×T28)×(Oe×(IC×Og)))×((Oh×(ID×T7qq))×(I6×(T9×Jp))))
instance:PF BI:=by delta BI;exact @PF.prod _ _ (@PF.prod _ _ inferInstance inferInstance) (@PF.prod _ _ inferInstance inferInstance)
instance:PF BJ:=by delta BJ;exact @PF.prod _ _ (@PF.prod _ _ inferInstance inferInstance) (@PF.prod _ _ inferInstance inferInstance)
instance:PF BK:=by delta BK;exact @PF.prod _ _ (@PF.prod _ _ inferInstance inferInstance) (@PF.prod _ _ inferInstance inferInstance)
instance:PF BL:=by delta BL;exact @PF.prod _ _ (@PF.prod _ _ inferInstance inferInstance) (@PF.prod _ _ inferInstance inferInstance)
instance:PF BM:=by delta BM;exact @PF.prod _ _ (@PF.prod _ _ inferInstance inferInstance) (@PF.prod _ _ inferInstance inferInstance)
abbrev Fs:=((BI×BJ)×(BK×(BL×BM)))
def fW:=(PF.i (D:=Fs)).a.a
def fX:=(PF.i (D:=Fs)).a.b
def fY:=(PF.i (D:=Fs)).b.a
def fZ:=(PF.i (D:=Fs)).b.b.a
def ga:=(PF.i (D:=Fs)).b.b.b
def f176:=fW.a.a.a.a
def ad4:=fW.a.a.a.b
def ad7:=fW.a.a.b.a
def zQ:=fW.a.a.b.b.a
def f185:=fW.a.a.b.b.b
def f131:=fW.a.b.a.a
def f81:=fW.a.b.a.b
def f80:=fW.a.b.b.a
def adM:=fW.a.b.b.b.a
def f177:=fW.a.b.b.b.b
def f178:=fW.b.a.a.a
def ad5:=fW.b.a.a.b
def adz:=fW.b.a.b.a
def adN:=fW.b.a.b.b.a
def adO:=fW.b.a.b.b.b
def aeb:=fW.b.b.a.a
def adQ:=fW.b.b.a.b
def adR:=fW.b.b.b.a
def adS:=fW.b.b.b.b.a
def f117:=fW.b.b.b.b.b
def f213:=fX.a.a.a.a
def f166:=fX.a.a.a.b
def f168:=fX.a.a.b.a
def f98:=fX.a.a.b.b.a
def vT:=fX.a.a.b.b.b
def f53:=fX.a.b.a.a
def vC:=fX.a.b.a.b
def f214:=fX.a.b.b.a
def qz:=fX.a.b.b.b.a
def f215:=fX.a.b.b.b.b
def zT:=fX.b.a.a.a
def zV:=fX.b.a.a.b
def lO:=fX.b.a.b.a
def f169:=fX.b.a.b.b.a
def f170:=fX.b.a.b.b.b
def f216:=fX.b.b.a.a
def f171:=fX.b.b.a.b
def mK:=fX.b.b.b.a
def f167:=fX.b.b.b.b.a
def mT:=fX.b.b.b.b.b
def f99:=fY.a.a.a.a
def f54:=fY.a.a.a.b
def f67:=fY.a.a.b.a
def f100:=fY.a.a.b.b.a
def Fa:=fY.a.a.b.b.b
def Fb:=fY.a.b.a.a
def vV:=fY.a.b.a.b
def vU:=fY.a.b.b.a
def f66:=fY.a.b.b.b.a
def f27:=fY.a.b.b.b.b
def f41:=fY.b.a.a.a
def vY:=fY.b.a.a.b
def f42:=fY.b.a.b.a
def adT:=fY.b.a.b.b.a
def k7:=fY.b.a.b.b.b
def f179:=fY.b.b.a.a
def adU:=fY.b.b.a.b
def f118:=fY.b.b.b.a
def o6:=fY.b.b.b.b.a
def o7:=fY.b.b.b.b.b
def adF:=fZ.a.a.a.a
def adW:=fZ.a.a.a.b
def adY:=fZ.a.a.b.a
def s7:=fZ.a.a.b.b.a
def f68:=fZ.a.a.b.b.b
def f153:=fZ.a.b.a.a
def lR:=fZ.a.b.a.b
def f194:=fZ.a.b.b.a
def qA:=fZ.a.b.b.b.a
def f195:=fZ.a.b.b.b.b
def lS:=fZ.b.a.a.a
def f196:=fZ.b.a.a.b
def mO:=fZ.b.a.b.a
def mP:=fZ.b.a.b.b.a
def mQ:=fZ.b.a.b.b.b
def f154:=fZ.b.b.a.a
def f155:=fZ.b.b.a.b
def f90:=fZ.b.b.b.a
def mW:=fZ.b.b.b.b.a
def f46:=fZ.b.b.b.b.b
def f15:=ga.a.a.a
def f28:=ga.a.a.b
def AD:=ga.a.b.a
def f69:=ga.a.b.b.a
def qO:=ga.a.b.b.b
def tB:=ga.b.a.a
def f29:=ga.b.a.b.a
def f7:=ga.b.a.b.b
def f57:=ga.b.b.a
def f9:=ga.b.b.b.a
def f26:=ga.b.b.b.b
abbrev ad0 (f:Fs):aes:=λa0=>(some (a0.Kind !=47))
abbrev wz (f:Fs):aeA:=λa0 s1=>(bif decide (s1<(↑(ab.rows a0).length:Int))then((au a0 s1).bind λx3=>((f176 f x3).bind λy5=>(bif y5 then(some s1)else(ad4 f a0 (IntKind.i64.wrap (s1+1))))))else(some (-1)))
abbrev I1 (f:Fs):aem:=λa0=>(ad4 f a0 0)
abbrev sL (f:Fs):MJ:=λa0 a1 s1=>(bif decide (s1<(↑(aN a0).length:Int))then((au a0 s1).bind λx3=>(bif a1==x3 then(some s1)else(zQ f a0 a1 (IntKind.i64.wrap (s1+1)))))else(some (-1)))
abbrev uq (f:Fs):FE:=λa0 a1=>(zQ f a0 a1 0)
abbrev wL (f:Fs):FG:=λa0 a1=>((f185 f a0 a1).bind λy1=>(some (decide (y1>=0))))
abbrev xc (f:Fs):H9:=λa0 a1=>((f131 f a0 a1).bind λy1=>(some y1))
abbrev iL (f:Fs):Ih:=λa0 a1=>(some (.aO (AV.bB 28 (AV.agg (AV.v (Value.int IntKind.i64 a0)::AV.v (Value.int IntKind.i64 a1)::List.map AV.v [])))))
abbrev adA (f:Fs):aeU:=λa0 s1 s2=>(bif decide (s2<(↑(ab.rows a0).length:Int))then((au a0 s2).bind λx4=>((f81 f s1 x4.Text).bind λy6=>(bif y6 then(aA (f80 f 3 x4.At) λ_=>none)else(bif decide (((s1:List (List UInt8))++([x4.Text]:List (List UInt8))).length<=274877906944)then(adM f a0 (s1++[x4.Text]) (IntKind.i64.wrap (s2+1)))else none))))else((f57 f s1).bind λy11=>(some (.ret y11))))
abbrev adH (f:Fs):aet:=λa0=>(adM f a0 ([]) 0)
abbrev ad1 (f:Fs):aeu:=λa0 a1=>(some (a0.Name==a1.Text))
abbrev F3 (f:Fs):aeB:=λa0 a1 s1=>(bif decide (s1<(↑(bt.rows a0).length:Int))then((au a0 s1).bind λx3=>((f178 f x3 a1).bind λy5=>(bif y5 then(some s1)else(ad5 f a0 a1 (IntKind.i64.wrap (s1+1))))))else(some (-1)))
abbrev I2 (f:Fs):aen:=λa0 a1=>(ad5 f a0 a1 0)
abbrev ad' (f:Fs):aeV:=λa0 a1 s27 s32=>(bif decide (s27<(↑(ab.rows a1.Kids).length:Int))then((au a1.Kids s27).bind λx35=>(aA (f117 f a0 x35) λy37=>(bif decide (((s32:List ah)++([y37]:List ah)).length<=274877906944)then(adN f a0 a1 (IntKind.i64.wrap (s27+1)) (s32++[y37]))else none)))else(some (.ret ({Kind:=7,Lo:=0,Hi:=0,Names:=[],ax:=s32,aZ:=[]:ah}))))
abbrev aea (f:Fs):aeW:=λa0 a1 s40 s44 s45=>(bif decide (s40<(↑(ab.rows a1.Kids).length:Int))then((au a1.Kids s40).bind λx48=>((f81 f s44 x48.Text).bind λy50=>(bif y50 then(aA (f80 f 3 x48.At) λ_=>none)else(bif decide (((s44:List (List UInt8))++([x48.Text]:List (List UInt8))).length<=274877906944)then((au x48.Kids 0).bind λx54=>(aA (f117 f a0 x54) λy56=>(bif decide (((s45:List ah)++([y56]:List ah)).length<=274877906944)then(adO f a0 a1 (IntKind.i64.wrap (s40+1)) (s44++[x48.Text]) (s45++[y56]))else none)))else none))))else(some (.ret ({Kind:=6,Lo:=0,Hi:=0,Names:=s44,ax:=s45,aZ:=[]:ah}))))
abbrev adP (f:Fs):aeX:=λy61 x62 s64 s70=>(bif decide (s64<(↑(ab.rows x62).length:Int))then((au x62 s64).bind λx72=>((iV x72.Kids 0 (IntKind.i64.wrap ((↑(ab.rows x72.Kids).length:Int)-1))).bind λx74=>((au x72.Kids (IntKind.i64.wrap ((↑(ab.rows x72.Kids).length:Int)-1))).bind λx76=>(aA (f177 f x74) λy78=>(bif decide (((s70:List aU)++([{If:=y78,eP:=x76.Text:aU}]:List aU)).length<=274877906944)then(aeb f y61 x62 (IntKind.i64.wrap (s64+1)) (s70++[{If:=y78,eP:=x76.Text:aU}]))else none)))))else(some (.ret ({Kind:=10,Lo:=0,Hi:=0,Names:=y61,ax:=[],aZ:=s70:ah}))))
abbrev aec (f:Fs):aeY:=λa0 a1 s110 s115=>(bif decide (s110<(↑(ab.rows a1.Kids).length:Int))then((au a1.Kids s110).bind λx118=>(aA (f117 f a0 x118) λy120=>(bif decide (((s115:List ah)++([y120]:List ah)).length<=274877906944)then(adQ f a0 a1 (IntKind.i64.wrap (s110+1)) (s115++[y120]))else none)))else(some (.ret ({Kind:=7,Lo:=0,Hi:=0,Names:=[],ax:=s115,aZ:=[]:ah}))))
abbrev aed (f:Fs):aeZ:=λa0 a1 s123 s127 s128=>(bif decide (s123<(↑(ab.rows a1.Kids).length:Int))then((au a1.Kids s123).bind λx131=>((f81 f s127 x131.Text).bind λy133=>(bif y133 then(aA (f80 f 3 x131.At) λ_=>none)else(bif decide (((s127:List (List UInt8))++([x131.Text]:List (List UInt8))).length<=274877906944)then((au x131.Kids 0).bind λx137=>(aA (f117 f a0 x137) λy139=>(bif decide (((s128:List ah)++([y139]:List ah)).length<=274877906944)then(adR f a0 a1 (IntKind.i64.wrap (s123+1)) (s127++[x131.Text]) (s128++[y139]))else none)))else none))))else(some (.ret ({Kind:=6,Lo:=0,Hi:=0,Names:=s127,ax:=s128,aZ:=[]:ah}))))
abbrev aee (f:Fs):ae0:=λy144 x145 s147 s153=>(bif decide (s147<(↑(ab.rows x145).length:Int))then((au x145 s147).bind λx155=>((iV x155.Kids 0 (IntKind.i64.wrap ((↑(ab.rows x155.Kids).length:Int)-1))).bind λx157=>((au x155.Kids (IntKind.i64.wrap ((↑(ab.rows x155.Kids).length:Int)-1))).bind λx159=>(aA (f177 f x157) λy161=>(bif decide (((s153:List aU)++([{If:=y161,eP:=x159.Text:aU}]:List aU)).length<=274877906944)then(adS f y144 x145 (IntKind.i64.wrap (s147+1)) (s153++[{If:=y161,eP:=x159.Text:aU}]))else none)))))else(some (.ret ({Kind:=10,Lo:=0,Hi:=0,Names:=y144,ax:=[],aZ:=s153:ah}))))
abbrev ej (f:Fs):aev:=λa0 a1=>((ad7 f a1.Kids).bind λy1=>(bif decide (y1<0)then(bif a1.Kind==10 then(some (.ret ({Kind:=1,Lo:=0,Hi:=0,Names:=[],ax:=[],aZ:=[]:ah})))else(bif a1.Kind==18 then(some (.ret ({Kind:=9,Lo:=0,Hi:=0,Names:=[],ax:=[],aZ:=[]:ah})))else(bif a1.Kind==11 then((au a1.Kids 0).bind λx6=>((au a1.Kids 1).bind λx8=>(some (.ret ({Kind:=2,Lo:=x6.N,Hi:=x8.N,Names:=[],ax:=[],aZ:=[]:ah})))))else(bif a1.Kind==12 then((au a1.Kids 0).bind λx11=>((au a1.Kids 1).bind λx13=>(some (.ret ({Kind:=3,Lo:=x11.N,Hi:=x13.N,Names:=[],ax:=[],aZ:=[]:ah})))))else(bif a1.Kind==13 then(aA (f177 f a1.Kids) λy16=>(some (.ret ({Kind:=4,Lo:=0,Hi:=0,Names:=y16,ax:=[],aZ:=[]:ah}))))else(bif a1.Kind==17 then(aA (f177 f a1.Kids) λy18=>(some (.ret ({Kind:=8,Lo:=0,Hi:=0,Names:=y18,ax:=[],aZ:=[]:ah}))))else(bif a1.Kind==14 then((iV a1.Kids 0 ((↑(ab.rows a1.Kids).length:Int))).bind λx20=>(aA (f177 f x20) λy22=>((au a1.Kids ((↑(ab.rows a1.Kids).length:Int))).bind λx23=>(aA (f117 f a0 x23) λy25=>(some (.ret ({Kind:=5,Lo:=0,Hi:=0,Names:=y22,ax:=[y25],aZ:=[]:ah})))))))else(bif a1.Kind==16 then(adN f a0 a1 0 ([]))else(bif a1.Kind==15 then(adO f a0 a1 0 ([]) ([]))else(bif a1.Kind==19 then((iV a1.Kids 0 ((↑(ab.rows a1.Kids).length:Int))).bind λx59=>(aA (f177 f x59) λy61=>((iV a1.Kids ((↑(ab.rows a1.Kids).length:Int)) (((a1.Kids).length:Int))).bind λx62=>(aeb f y61 x62 0 ([])))))else(bif a1.Kind==21 then((adz f a0.known a1).bind λy81=>(bif decide (y81<0)then(aA (f80 f 3 a1.At) λ_=>none)else((au a0.known y81).bind λx84=>(some (.ret x84.aj)))))else(some (.ret ah.z)))))))))))))else(bif a1.Kind==10 then(some (.ret ({Kind:=1,Lo:=0,Hi:=0,Names:=[],ax:=[],aZ:=[]:ah})))else(bif a1.Kind==18 then(some (.ret ({Kind:=9,Lo:=0,Hi:=0,Names:=[],ax:=[],aZ:=[]:ah})))else(bif a1.Kind==11 then((au a1.Kids 0).bind λx89=>((au a1.Kids 1).bind λx91=>(some (.ret ({Kind:=2,Lo:=x89.N,Hi:=x91.N,Names:=[],ax:=[],aZ:=[]:ah})))))else(bif a1.Kind==12 then((au a1.Kids 0).bind λx94=>((au a1.Kids 1).bind λx96=>(some (.ret ({Kind:=3,Lo:=x94.N,Hi:=x96.N,Names:=[],ax:=[],aZ:=[]:ah})))))else(bif a1.Kind==13 then(aA (f177 f a1.Kids) λy99=>(some (.ret ({Kind:=4,Lo:=0,Hi:=0,Names:=y99,ax:=[],aZ:=[]:ah}))))else(bif a1.Kind==17 then(aA (f177 f a1.Kids) λy101=>(some (.ret ({Kind:=8,Lo:=0,Hi:=0,Names:=y101,ax:=[],aZ:=[]:ah}))))else(bif a1.Kind==14 then((iV a1.Kids 0 y1).bind λx103=>(aA (f177 f x103) λy105=>((au a1.Kids y1).bind λx106=>(aA (f117 f a0 x106) λy108=>(some (.ret ({Kind:=5,Lo:=0,Hi:=0,Names:=y105,ax:=[y108],aZ:=[]:ah})))))))else(bif a1.Kind==16 then(adQ f a0 a1 0 ([]))else(bif a1.Kind==15 then(adR f a0 a1 0 ([]) ([]))else(bif a1.Kind==19 then((iV a1.Kids 0 y1).bind λx142=>(aA (f177 f x142) λy144=>((iV a1.Kids y1 (((a1.Kids).length:Int))).bind λx145=>(adS f y144 x145 0 ([])))))else(bif a1.Kind==21 then((adz f a0.known a1).bind λy164=>(bif decide (y164<0)then(aA (f80 f 3 a1.At) λ_=>none)else((au a0.known y164).bind λx167=>(some (.ret x167.aj)))))else(some (.ret ah.z)))))))))))))))
abbrev wJ (f:Fs):FA:=λa0 a1=>(bif a0 then(some a1)else(some 0))
abbrev uo (f:Fs):FC:=λa0=>(bif a0.Kind==1 then(bif (↑(ah.rows a0.ax).length:Int) !=0 then((f213 f true 1).bind λy3=>(some y3))else(bif decide ((↑(aN a0.Names).length:Int)>0)then((f213 f true 1).bind λy5=>(some y5))else(bif decide ((↑(aU.rows a0.aZ).length:Int)>0)then((f213 f true 1).bind λy7=>(some y7))else(bif a0.Lo !=0 then((f213 f true 1).bind λy9=>(some y9))else(bif a0.Hi !=0 then((f213 f true 1).bind λy11=>(some y11))else((f213 f false 1).bind λy12=>(some y12)))))))else(bif a0.Kind==9 then(bif (↑(ah.rows a0.ax).length:Int) !=0 then((f213 f true 1).bind λy15=>(some y15))else(bif decide ((↑(aN a0.Names).length:Int)>0)then((f213 f true 1).bind λy17=>(some y17))else(bif decide ((↑(aU.rows a0.aZ).length:Int)>0)then((f213 f true 1).bind λy19=>(some y19))else(bif a0.Lo !=0 then((f213 f true 1).bind λy21=>(some y21))else(bif a0.Hi !=0 then((f213 f true 1).bind λy23=>(some y23))else((f213 f false 1).bind λy24=>(some y24)))))))else(bif a0.Kind==2 then(bif (↑(ah.rows a0.ax).length:Int) !=0 then((f213 f true 1).bind λy27=>(some y27))else(bif decide ((↑(aN a0.Names).length:Int)>0)then((f213 f true 1).bind λy29=>(some y29))else(bif decide ((↑(aU.rows a0.aZ).length:Int)>0)then((f213 f true 1).bind λy31=>(some y31))else((f213 f false 1).bind λy32=>(some y32)))))else(bif a0.Kind==3 then(bif (↑(ah.rows a0.ax).length:Int) !=0 then((f213 f true 1).bind λy35=>(some y35))else(bif decide ((↑(aN a0.Names).length:Int)>0)then((f213 f true 1).bind λy37=>(some y37))else(bif decide ((↑(aU.rows a0.aZ).length:Int)>0)then((f213 f true 1).bind λy39=>(some y39))else((f213 f false 1).bind λy40=>(some y40)))))else(bif a0.Kind==4 then(bif (↑(ah.rows a0.ax).length:Int) !=0 then((f213 f true 1).bind λy43=>(some y43))else(bif decide ((↑(aU.rows a0.aZ).length:Int)>0)then((f213 f true 1).bind λy45=>(some y45))else(bif a0.Lo !=0 then((f213 f true 1).bind λy47=>(some y47))else(bif a0.Hi !=0 then((f213 f true 1).bind λy49=>(some y49))else((f213 f false 1).bind λy50=>(some y50))))))else(bif a0.Kind==8 then(bif (↑(ah.rows a0.ax).length:Int) !=0 then((f213 f true 1).bind λy53=>(some y53))else(bif decide ((↑(aU.rows a0.aZ).length:Int)>0)then((f213 f true 1).bind λy55=>(some y55))else(bif a0.Lo !=0 then((f213 f true 1).bind λy57=>(some y57))else(bif a0.Hi !=0 then((f213 f true 1).bind λy59=>(some y59))else((f213 f false 1).bind λy60=>(some y60))))))else(bif a0.Kind==5 then(bif (↑(ah.rows a0.ax).length:Int) !=1 then((f213 f true 1).bind λy63=>(some y63))else(bif decide ((↑(aU.rows a0.aZ).length:Int)>0)then((f213 f true 1).bind λy65=>(some y65))else(bif a0.Lo !=0 then((f213 f true 1).bind λy67=>(some y67))else(bif a0.Hi !=0 then((f213 f true 1).bind λy69=>(some y69))else((f213 f false 1).bind λy70=>(some y70))))))else(bif a0.Kind==7 then(bif (↑(ah.rows a0.ax).length:Int) !=2 then((f213 f true 1).bind λy73=>(some y73))else(bif decide ((↑(aN a0.Names).length:Int)>0)then((f213 f true 1).bind λy75=>(some y75))else(bif decide ((↑(aU.rows a0.aZ).length:Int)>0)then((f213 f true 1).bind λy77=>(some y77))else(bif a0.Lo !=0 then((f213 f true 1).bind λy79=>(some y79))else(bif a0.Hi !=0 then((f213 f true 1).bind λy81=>(some y81))else((f213 f false 1).bind λy82=>(some y82)))))))else(bif a0.Kind==6 then(bif (↑(ah.rows a0.ax).length:Int) !=(↑(aN a0.Names).length:Int)then((f213 f true 1).bind λy85=>(some y85))else(bif decide ((↑(aU.rows a0.aZ).length:Int)>0)then((f213 f true 1).bind λy87=>(some y87))else(bif a0.Lo !=0 then((f213 f true 1).bind λy89=>(some y89))else(bif a0.Hi !=0 then((f213 f true 1).bind λy91=>(some y91))else((f213 f ((↑(aN a0.Names).length:Int)==0) 1).bind λy92=>(some y92))))))else(bif a0.Kind==10 then(bif (↑(ah.rows a0.ax).length:Int) !=0 then((f213 f true 1).bind λy95=>(some y95))else(bif a0.Lo !=0 then((f213 f true 1).bind λy97=>(some y97))else(bif a0.Hi !=0 then((f213 f true 1).bind λy99=>(some y99))else((f213 f ((↑(aN a0.Names).length:Int)==0) 1).bind λy100=>(some y100)))))else(some 1)))))))))))
abbrev wK (f:Fs):FD:=λa0=>(bif a0.Kind==6 then(bif decide ((↑(aN a0.Names).length:Int)>8)then((f213 f true 6).bind λy3=>(some y3))else((f213 f (decide ((↑(aU.rows a0.aZ).length:Int)>32)) 6).bind λy4=>(some y4)))else(bif a0.Kind==10 then(bif decide ((↑(aN a0.Names).length:Int)>12)then((f213 f true 6).bind λy7=>(some y7))else((f213 f (decide ((↑(aU.rows a0.aZ).length:Int)>32)) 6).bind λy8=>(some y8)))else(bif decide ((↑(aN a0.Names).length:Int)>32)then((f213 f true 6).bind λy10=>(some y10))else((f213 f (decide ((↑(aU.rows a0.aZ).length:Int)>32)) 6).bind λy11=>(some y11)))))
abbrev xa (f:Fs):H7:=λa0=>(bif decide (97<=a0)then(bif decide (a0<=122)then(some true)else(bif decide (48<=a0)then(bif decide (a0<=57)then(some true)else(some (a0==45)))else(some (a0==45))))else(bif decide (48<=a0)then(bif decide (a0<=57)then(some true)else(some (a0==45)))else(some (a0==45))))
abbrev th (f:Fs):OA:=λa0 s9=>(bif decide (s9<(↑a0.length:Int))then((au (a0:List UInt8) s9).bind λx11=>((f98 f ((↑x11.toNat:Int))).bind λy13=>(bif !y13 then(some false)else(vT f a0 (IntKind.i64.wrap (s9+1))))))else(some true))
abbrev xb (f:Fs):H8:=λa0=>(bif (↑a0.length:Int)==0 then(some false)else(bif decide ((↑a0.length:Int)>16)then(some false)else((au (a0:List UInt8) 0).bind λx3=>(bif decide ((↑x3.toNat:Int)<97)then(some false)else((au (a0:List UInt8) 0).bind λx6=>(bif decide ((↑x6.toNat:Int)>122)then(some false)else(vT f a0 0)))))))
abbrev qy (f:Fs):MK:=λa0 s1=>(bif decide (s1<(↑(aN a0).length:Int))then((au a0 (IntKind.i64.wrap (s1-1))).bind λx3=>((au a0 s1).bind λx5=>(bif !Op.bytesLess x3 x5 then(some false)else(vC f a0 (IntKind.i64.wrap (s1+1))))))else(some true))
abbrev uv (f:Fs):FH:=λa0=>(vC f a0 1)
abbrev sM (f:Fs):ML:=λa0 a1 s1=>(bif decide (s1<(↑(aN a0).length:Int))then((au a0 s1).bind λx3=>((f81 f a1 x3).bind λy5=>(bif !y5 then(some false)else(qz f a0 a1 (IntKind.i64.wrap (s1+1))))))else(some true))
abbrev uw (f:Fs):FI:=λa0 a1=>(qz f a0 a1 0)
abbrev zU (f:Fs):MM:=λa0 s16=>(bif decide (s16<(↑(aU.rows a0.aZ).length:Int))then((au a0.aZ s16).bind λx18=>(bif (↑(aN x18.If).length:Int)==0 then(some 3)else((f214 f x18.If).bind λy21=>(bif !y21 then(some 3)else((f215 f x18.If a0.Names).bind λy23=>(bif !y23 then(some 3)else((f81 f a0.Names x18.eP).bind λy25=>(bif !y25 then(some 3)else(zT f a0 (IntKind.i64.wrap (s16+1)))))))))))else(some 0))
abbrev zW (f:Fs):MN:=λa0 s27=>(bif decide (s27<(↑(aU.rows a0.aZ).length:Int))then((au a0.aZ s27).bind λx29=>(bif (↑(aN x29.If).length:Int)==0 then(some 3)else((f214 f x29.If).bind λy32=>(bif !y32 then(some 3)else((f215 f x29.If a0.Names).bind λy34=>(bif !y34 then(some 3)else((f81 f a0.Names x29.eP).bind λy36=>(bif !y36 then(some 3)else(zV f a0 (IntKind.i64.wrap (s27+1)))))))))))else(some 0))
abbrev pc (f:Fs):MO:=λa0 s1 s2=>(bif decide (s2<(↑(aN a0.Names).length:Int))then((au a0.Names s2).bind λx4=>((f53 f x4).bind λy6=>(bif !y6 then(some 3)else(bif a0.Kind==6 then((iV a0.Names 0 s2).bind λx9=>((f131 f x9 x4).bind λy11=>(bif y11 then(some 3)else(lO f a0 s1 (IntKind.i64.wrap (s2+1))))))else(lO f a0 s1 (IntKind.i64.wrap (s2+1)))))))else(bif a0.Kind !=6 then((f214 f a0.Names).bind λy14=>(bif !y14 then(some 3)else(zT f a0 0)))else(zV f a0 0)))
abbrev rj (f:Fs):FJ:=λa0=>(lO f a0 0 0)
abbrev ux (f:Fs):FK:=λa0=>(bif decide (a0.Lo>a0.Hi)then((f213 f true 5).bind λy2=>(some y2))else(bif decide (a0.Lo< -1000000000)then((f213 f true 5).bind λy4=>(some y4))else(bif decide (a0.Lo>1000000000)then((f213 f true 5).bind λy6=>(some y6))else(bif decide (a0.Hi< -1000000000)then((f213 f true 5).bind λy8=>(some y8))else((f213 f (decide (a0.Hi>1000000000)) 5).bind λy9=>(some y9))))))
abbrev rk (f:Fs):FL:=λa0=>(bif a0.Kind==1 then(some true)else(bif a0.Kind==2 then(some true)else(bif a0.Kind==3 then(some true)else(bif a0.Kind==7 then(bif (↑(ah.rows a0.ax).length:Int)==2 then((au a0.ax 0).bind λx6=>((f216 f x6).bind λy8=>(bif y8 then((au a0.ax 1).bind λx10=>((f216 f x10).bind λy12=>(some y12)))else(some false))))else(some false))else(some false)))))
abbrev uy (f:Fs):FM:=λa0=>(bif a0.Kind==7 then((au a0.ax 0).bind λx2=>((f216 f x2).bind λy4=>((f213 f (!y4) 4).bind λy5=>(some y5))))else((f213 f false 4).bind λy6=>(some y6)))
abbrev pd (f:Fs):MP:=λa0 s1=>(bif decide (s1<(↑(eW IntKind.i64 a0).length:Int))then((au a0 s1).bind λx3=>(bif x3 !=0 then(some x3)else(mK f a0 (IntKind.i64.wrap (s1+1)))))else(some 0))
abbrev rm (f:Fs):FN:=λa0=>(mK f a0 0)
abbrev py (f:Fs):OC:=λa1 a2 s11 s12=>(bif decide (s11<(↑(ah.rows a1.ax).length:Int))then((au a1.ax s11).bind λx14=>((f99 f s12 x14 (IntKind.i64.wrap (a2+1))).bind λy16=>(bif y16.fst !=0 then(some (y16.fst,y16.snd))else(mT f a1 a2 (IntKind.i64.wrap (s11+1)) y16.snd))))else(some (0,s12)))
abbrev uL (f:Fs):H':=λa0 a1 a2=>(bif decide (a2>6)then(some (6,a0))else(bif decide (a0.nodes>=64)then(some (6,a0))else((f166 f a1).bind λy3=>(bif y3 !=0 then(some (y3,({nodes:=IntKind.i64.wrap (a0.nodes+1):dp})))else((f168 f a1).bind λy5=>((f169 f a1).bind λy6=>((f170 f a1).bind λy7=>((f171 f a1).bind λy8=>((f167 f ([y5,y6,y7,y8])).bind λy9=>(bif y9 !=0 then(some (y9,({nodes:=IntKind.i64.wrap (a0.nodes+1):dp})))else(mT f a1 a2 0 ({nodes:=IntKind.i64.wrap (a0.nodes+1):dp}))))))))))))
abbrev uM (f:Fs):Ia:=λa0=>((f99 f dp.z a0 1).bind λy1=>(some y1.fst))
abbrev tx (f:Fs):T67:=λa0 a1=>(aA (f117 f a0 a1) λy1=>((f54 f y1).bind λy2=>(bif y2 !=0 then(aA (f80 f y2 a1.At) λ_=>none)else(some (.ret y1)))))
abbrev wP (f:Fs):F1:=λa0=>(bif decide ((([]:List (List UInt8))++(a0:List (List UInt8))).length<=274877906944)then(some ([]++a0))else none)
abbrev wo (f:Fs):E9:=λa0=>(bif decide ((([]:List aU)++(a0:List aU)).length<=274877906944)then(some ([]++a0))else none)
abbrev wu (f:Fs):E':=λa0=>(bif decide ((([]:List ah)++(a0:List ah)).length<=274877906944)then(some ([]++a0))else none)
abbrev tm (f:Fs):OH:=λa0 y1 y16 s17 s22 s23=>(bif decide (s17<(↑(ah.rows y16).length:Int))then((au s22 s17).bind λx25=>((f66 f x25).bind λy27=>((au s22 s17).bind λx28=>(vV f a0 y1 y16 (IntKind.i64.wrap (s17+1)) (s22.set s17.toNat y27) s23))))else(some ({Kind:=a0.Kind,Lo:=a0.Lo,Hi:=a0.Hi,Names:=y1,ax:=s22,aZ:=s23:ah})))
abbrev tj (f:Fs):OI:=λa0 y1 y2 s3 s9=>(bif decide (s3<(↑(aU.rows y2).length:Int))then((au s9 s3).bind λx11=>((f100 f x11.If).bind λy13=>((au s9 s3).bind λx14=>(vU f a0 y1 y2 (IntKind.i64.wrap (s3+1)) (s9.set s3.toNat {If:=y13,eP:=x14.eP:aU})))))else((Fb f a0.ax).bind λy16=>(vV f a0 y1 y16 0 y16 s9)))
abbrev xg (f:Fs):Ij:=λa0=>((f100 f a0.Names).bind λy1=>((Fa f a0.aZ).bind λy2=>(vU f a0 y1 y2 0 y2)))
abbrev tF (f:Fs):T27:=λa0 a1=>(fx 28 (f67 f ({known:=a0:fN}) a1) (λc3 c4=>(bif c3 !=0 then(some ((ah.z,{Code:=c3,At:=c4:aM})))else(some ((ah.z,{Code:=c3,At:=c4:aM}))))) λy1=>((f66 f y1).bind λy2=>(some ((y2,aM.z)))))
abbrev BG (f:Fs):IA:=λa0 a1=>(some ({Code:=a0,At:=a1:aM}))
abbrev tz (f:Fs):Od:=λa0 a1 s1=>(bif decide (s1<(↑(aN a0).length:Int))then((au a0 s1).bind λx3=>(bif x3==a1 then(some true)else(vY f a0 a1 (IntKind.i64.wrap (s1+1)))))else(some false))
abbrev uQ (f:Fs):Ix:=λa0 a1=>(vY f a0 a1 0)
abbrev adC (f:Fs):ae1:=λa0 s1 s2 x4 y6 x8 s11 s12=>(bif decide (s12>0)then((au s11 (IntKind.i64.wrap (s12-1))).bind λx14=>((au s11 s12).bind λx16=>(bif !(Op.bytesLess x14 x16||x14==x16)then((au s11 s12).bind λx19=>((au s11 (IntKind.i64.wrap (s12-1))).bind λx21=>((au s11 (IntKind.i64.wrap (s12-1))).bind λx23=>((au (s11.set (IntKind.i64.wrap (s12-1)).toNat x19) s12).bind λx25=>(adT f a0 s1 s2 x4 y6 x8 ((s11.set (IntKind.i64.wrap (s12-1)).toNat x19).set s12.toNat x21) (IntKind.i64.wrap (s12-1)))))))else(k7 f a0 s11 (IntKind.i64.wrap (s2+1))))))else(k7 f a0 s11 (IntKind.i64.wrap (s2+1))))
abbrev adB (f:Fs):ae2:=λa0 s1 s2=>(bif decide (s2<(↑(aN a0).length:Int))then((au a0 s2).bind λx4=>((f42 f s1 x4).bind λy6=>(bif y6 then(k7 f a0 s1 (IntKind.i64.wrap (s2+1)))else((au a0 s2).bind λx8=>(bif decide (((s1:List (List UInt8))++([x8]:List (List UInt8))).length<=274877906944)then(adT f a0 s1 s2 x4 y6 x8 (s1++[x8]) (IntKind.i64.wrap ((↑(aN s1++[List.take 1 (AV.v (Value.string {data:={toList:=x8:Array UInt8}:ByteArray})::(List.map AV.v []).append [])]).length:Int)-1)))else none)))))else(some s1))
abbrev adI (f:Fs):aew:=λa0=>(k7 f a0 ([]) 0)
abbrev adD (f:Fs):ae3:=λa0 s1 s2 s3=>(bif decide (s3<(↑(ab.rows a0).length:Int))then((au a0 s3).bind λx5=>((f42 f s2 x5.Text).bind λy7=>(bif y7 then((au a0 s3).bind λx9=>((f41 f 3 x9.At).bind λy11=>(some (([],y11)))))else((au a0 s3).bind λx12=>(bif decide (((s2:List (List UInt8))++([x12.Text]:List (List UInt8))).length<=274877906944)then(adU f a0 s1 (s2++[x12.Text]) (IntKind.i64.wrap (s3+1)))else none)))))else((f179 f s2).bind λy16=>(some ((y16,aM.z)))))
abbrev adJ (f:Fs):aex:=λa0=>(adU f a0 ([]) ([]) 0)
abbrev adE (f:Fs):aff:=λa0 a1 s2=>(bif decide (s2<(↑(bt.rows a0).length:Int))then((au a0 s2).bind λx4=>(bif x4.Name==a1.Text then((au a0 s2).bind λx7=>(some ((x7.aj,aM.z))))else(o6 f a0 a1 (IntKind.i64.wrap (s2+1)))))else((f41 f 3 a1.At).bind λy9=>(some ((ah.z,y9)))))
abbrev n5 (f:Fs):afg:=λa0 a1 s35 s40 s42=>(bif decide (s35<2)then(bif s42.Code==0 then((au a1.Kids s35).bind λx45=>((f68 f a0 x45).bind λy47=>(bif decide (((s40:List ah)++([y47.fst]:List ah)).length<=274877906944)then(o7 f a0 a1 (IntKind.i64.wrap (s35+1)) (s40++[y47.fst]) y47.snd)else none)))else(some (({Kind:=7,Lo:=0,Hi:=0,Names:=[],ax:=s40,aZ:=[]:ah},s42))))else(some (({Kind:=7,Lo:=0,Hi:=0,Names:=[],ax:=s40,aZ:=[]:ah},s42))))
abbrev s6 (f:Fs):afh:=λa0 a1 s50 s54 s55 s57=>(bif decide (s50<(↑(ab.rows a1.Kids).length:Int))then(bif s57.Code==0 then((au a1.Kids s50).bind λx60=>((f42 f s54 x60.Text).bind λy62=>(bif y62 then((au a1.Kids s50).bind λx64=>((f41 f 3 x64.At).bind λy66=>(some (({Kind:=6,Lo:=0,Hi:=0,Names:=s54,ax:=s55,aZ:=[]:ah},y66)))))else((au a1.Kids s50).bind λx67=>((au x67.Kids 0).bind λx69=>((f68 f a0 x69).bind λy71=>((au a1.Kids s50).bind λx72=>(bif decide (((s54:List (List UInt8))++([x72.Text]:List (List UInt8))).length<=274877906944)then(bif decide (((s55:List ah)++([y71.fst]:List ah)).length<=274877906944)then(adF f a0 a1 (IntKind.i64.wrap (s50+1)) (s54++[x72.Text]) (s55++[y71.fst]) y71.snd)else none)else none))))))))else(some (({Kind:=6,Lo:=0,Hi:=0,Names:=s54,ax:=s55,aZ:=[]:ah},s57))))else(some (({Kind:=6,Lo:=0,Hi:=0,Names:=s54,ax:=s55,aZ:=[]:ah},s57))))
abbrev adX (f:Fs):afi:=λa1 y84 s85 s91 s92=>(bif decide (s85<(↑(ab.rows a1.Kids).length:Int))then(bif s92.Code==0 then((au a1.Kids s85).bind λx95=>((au a1.Kids s85).bind λx97=>((iV x97.Kids 0 (IntKind.i64.wrap ((↑(ab.rows x95.Kids).length:Int)-1))).bind λx99=>((f118 f x99).bind λy101=>((au a1.Kids s85).bind λx102=>((au x102.Kids (IntKind.i64.wrap ((↑(ab.rows x95.Kids).length:Int)-1))).bind λx104=>(bif decide (((s91:List aU)++([{If:=y101.fst,eP:=x104.Text:aU}]:List aU)).length<=274877906944)then(adW f a1 y84 (IntKind.i64.wrap (s85+1)) (s91++[{If:=y101.fst,eP:=x104.Text:aU}]) y101.snd)else none)))))))else(some (({Kind:=10,Lo:=0,Hi:=0,Names:=y84.fst,ax:=[],aZ:=s91:ah},s92))))else(some (({Kind:=10,Lo:=0,Hi:=0,Names:=y84.fst,ax:=[],aZ:=s91:ah},s92))))
abbrev adZ (f:Fs):afj:=λa1 y109 s110 s116 s117=>(bif decide (s110<(↑(ab.rows a1.Kids).length:Int))then(bif s117.Code==0 then((au a1.Kids s110).bind λx120=>((au a1.Kids s110).bind λx122=>((iV x122.Kids 0 (IntKind.i64.wrap ((↑(ab.rows x120.Kids).length:Int)-1))).bind λx124=>((f118 f x124).bind λy126=>((au a1.Kids s110).bind λx127=>((au x127.Kids (IntKind.i64.wrap ((↑(ab.rows x120.Kids).length:Int)-1))).bind λx129=>(bif decide (((s116:List aU)++([{If:=y126.fst,eP:=x129.Text:aU}]:List aU)).length<=274877906944)then(adY f a1 y109 (IntKind.i64.wrap (s110+1)) (s116++[{If:=y126.fst,eP:=x129.Text:aU}]) y126.snd)else none)))))))else(some (({Kind:=10,Lo:=0,Hi:=0,Names:=y109.fst,ax:=[],aZ:=s116:ah},s117))))else(some (({Kind:=10,Lo:=0,Hi:=0,Names:=y109.fst,ax:=[],aZ:=s116:ah},s117))))
abbrev adG (f:Fs):afk:=λa1 s77=>(bif decide (s77<(↑(ab.rows a1.Kids).length:Int))then((au a1.Kids s77).bind λx79=>(bif x79.Kind==47 then(s7 f a1 (IntKind.i64.wrap (s77+1)))else((iV a1.Kids 0 s77).bind λx82=>((f118 f x82).bind λy84=>(adW f a1 y84 s77 ([]) y84.snd)))))else((iV a1.Kids 0 s77).bind λx107=>((f118 f x107).bind λy109=>(adY f a1 y109 s77 ([]) y109.snd))))
abbrev iu (f:Fs):T68:=λa0 a1=>(bif a1.Kind==21 then(o6 f a0 a1 0)else(bif a1.Kind==10 then(some (({Kind:=1,Lo:=0,Hi:=0,Names:=[],ax:=[],aZ:=[]:ah},aM.z)))else(bif a1.Kind==18 then(some (({Kind:=9,Lo:=0,Hi:=0,Names:=[],ax:=[],aZ:=[]:ah},aM.z)))else(bif a1.Kind==11 then((au a1.Kids 0).bind λx13=>((au a1.Kids 1).bind λx15=>(some (({Kind:=2,Lo:=x13.N,Hi:=x15.N,Names:=[],ax:=[],aZ:=[]:ah},aM.z)))))else(bif a1.Kind==12 then((au a1.Kids 0).bind λx18=>((au a1.Kids 1).bind λx20=>(some (({Kind:=3,Lo:=x18.N,Hi:=x20.N,Names:=[],ax:=[],aZ:=[]:ah},aM.z)))))else(bif a1.Kind==13 then((f118 f a1.Kids).bind λy23=>(some (({Kind:=4,Lo:=0,Hi:=0,Names:=y23.fst,ax:=[],aZ:=[]:ah},y23.snd))))else(bif a1.Kind==17 then((f118 f a1.Kids).bind λy25=>(some (({Kind:=8,Lo:=0,Hi:=0,Names:=y25.fst,ax:=[],aZ:=[]:ah},y25.snd))))else(bif a1.Kind==14 then((iV a1.Kids 0 (IntKind.i64.wrap ((↑(ab.rows a1.Kids).length:Int)-1))).bind λx27=>((f118 f x27).bind λy29=>(bif y29.snd.Code==0 then((au a1.Kids (IntKind.i64.wrap ((↑(ab.rows a1.Kids).length:Int)-1))).bind λx31=>((f68 f a0 x31).bind λy33=>(some (({Kind:=5,Lo:=0,Hi:=0,Names:=y29.fst,ax:=[y33.fst],aZ:=[]:ah},y33.snd)))))else(some (({Kind:=5,Lo:=0,Hi:=0,Names:=y29.fst,ax:=[],aZ:=[]:ah},y29.snd))))))else(bif a1.Kind==16 then(o7 f a0 a1 0 ([]) aM.z)else(bif a1.Kind==15 then(adF f a0 a1 0 ([]) ([]) aM.z)else(bif a1.Kind==19 then(s7 f a1 0)else(some ((ah.z,aM.z))))))))))))))
abbrev uD (f:Fs):Gg:=λa0=>(bif a0.Kind==2 then(bif (↑(aU.rows a0.aZ).length:Int) !=0 then(some false)else(bif (↑(aN a0.Names).length:Int)==0 then(some ((↑(ah.rows a0.ax).length:Int)==0))else(some false)))else(bif !a0.Kind==3 then(bif a0.Lo !=0 then(some false)else(bif a0.Hi !=0 then(some false)else(bif a0.Kind !=10 then(bif (↑(aU.rows a0.aZ).length:Int) !=0 then(some false)else(bif a0.Kind==1 then(bif (↑(aN a0.Names).length:Int)==0 then(some ((↑(ah.rows a0.ax).length:Int)==0))else(some false))else(bif a0.Kind==9 then(bif (↑(aN a0.Names).length:Int)==0 then(some ((↑(ah.rows a0.ax).length:Int)==0))else(some false))else(bif a0.Kind==4 then(some ((↑(ah.rows a0.ax).length:Int)==0))else(bif a0.Kind==8 then(some ((↑(ah.rows a0.ax).length:Int)==0))else(bif a0.Kind==5 then(some ((↑(ah.rows a0.ax).length:Int)==1))else(bif a0.Kind==6 then(bif decide ((↑(aN a0.Names).length:Int)>0)then(some ((↑(aN a0.Names).length:Int)==(↑(ah.rows a0.ax).length:Int)))else(some false))else(bif a0.Kind==7 then(bif (↑(aN a0.Names).length:Int)==0 then(some ((↑(ah.rows a0.ax).length:Int)==2))else(some false))else(some false)))))))))else(bif decide ((↑(aN a0.Names).length:Int)>0)then(some ((↑(ah.rows a0.ax).length:Int)==0))else(some false)))))else(bif (↑(aU.rows a0.aZ).length:Int) !=0 then(some false)else(bif (↑(aN a0.Names).length:Int)==0 then(some ((↑(ah.rows a0.ax).length:Int)==0))else(some false)))))
abbrev sS (f:Fs):MY:=λa0 s9=>(bif decide (s9<(↑a0.length:Int))then((au (a0:List UInt8) s9).bind λx11=>(bif decide ((↑x11.toNat:Int)<97)then((au (a0:List UInt8) s9).bind λx14=>(bif decide ((↑x14.toNat:Int)<48)then((au (a0:List UInt8) s9).bind λx17=>(bif (↑x17.toNat:Int) !=45 then(some false)else(lR f a0 (IntKind.i64.wrap (s9+1)))))else((au (a0:List UInt8) s9).bind λx20=>(bif decide ((↑x20.toNat:Int)>57)then((au (a0:List UInt8) s9).bind λx23=>(bif (↑x23.toNat:Int) !=45 then(some false)else(lR f a0 (IntKind.i64.wrap (s9+1)))))else(lR f a0 (IntKind.i64.wrap (s9+1)))))))else((au (a0:List UInt8) s9).bind λwx=>(bif decide ((↑wx.toNat:Int)>122)then((au (a0:List UInt8) s9).bind λx29=>(bif decide ((↑x29.toNat:Int)<48)then((au (a0:List UInt8) s9).bind λx32=>(bif (↑x32.toNat:Int) !=45 then(some false)else(lR f a0 (IntKind.i64.wrap (s9+1)))))else((au (a0:List UInt8) s9).bind λx35=>(bif decide ((↑x35.toNat:Int)>57)then((au (a0:List UInt8) s9).bind λx38=>(bif (↑x38.toNat:Int) !=45 then(some false)else(lR f a0 (IntKind.i64.wrap (s9+1)))))else(lR f a0 (IntKind.i64.wrap (s9+1)))))))else(lR f a0 (IntKind.i64.wrap (s9+1)))))))else(some true))
abbrev wU (f:Fs):Gh:=λa0=>(bif decide ((↑a0.length:Int)<1)then(some false)else(bif decide ((↑a0.length:Int)>16)then(some false)else((au (a0:List UInt8) 0).bind λx3=>(bif decide ((↑x3.toNat:Int)<97)then(some false)else((au (a0:List UInt8) 0).bind λx6=>(bif decide ((↑x6.toNat:Int)>122)then(some false)else(lR f a0 0)))))))
abbrev sT (f:Fs):MZ:=λa0 a1 s1=>(bif decide (s1<(↑(aN a0).length:Int))then((au a0 s1).bind λx3=>(bif x3==a1 then(some true)else(qA f a0 a1 (IntKind.i64.wrap (s1+1)))))else(some false))
abbrev uB (f:Fs):Gi:=λa0 a1=>(qA f a0 a1 0)
abbrev pf (f:Fs):M0:=λa0 s1=>(bif decide (s1<(↑(aN a0).length:Int))then((au a0 s1).bind λx3=>((f194 f x3).bind λy5=>(bif !y5 then(some false)else(bif decide (s1>0)then((au a0 (IntKind.i64.wrap (s1-1))).bind λx8=>((au a0 s1).bind λx10=>(bif !Op.bytesLess x8 x10 then(some false)else(lS f a0 (IntKind.i64.wrap (s1+1))))))else(lS f a0 (IntKind.i64.wrap (s1+1)))))))else(some true))
abbrev ru (f:Fs):Gj:=λa0=>(lS f a0 0)
abbrev pg (f:Fs):M1:=λa0 s2=>(bif decide (s2<(↑(aN a0.Names).length:Int))then((au a0.Names s2).bind λx4=>((f194 f x4).bind λy6=>(bif !y6 then(some false)else((iV a0.Names 0 s2).bind λx8=>((au a0.Names s2).bind λx10=>((f195 f x8 x10).bind λy12=>(bif y12 then(some false)else(mO f a0 (IntKind.i64.wrap (s2+1))))))))))else(some true))
abbrev ph (f:Fs):M3:=λa0 y14 s16 s17 x19 y22 y24 s26 s27=>(bif decide (s27<(↑(aN x19.If).length:Int))then((au x19.If s27).bind λx29=>((f195 f a0.Names x29).bind λy31=>(bif !y31 then(some false)else(mP f a0 y14 s16 s17 x19 y22 y24 s26 (IntKind.i64.wrap (s27+1))))))else(mQ f a0 y14 s26 (IntKind.i64.wrap (s17+1))))
abbrev pj (f:Fs):Mv:=λa0 y14 s16 s17=>(bif decide (s17<(↑(aU.rows a0.aZ).length:Int))then((au a0.aZ s17).bind λx19=>(bif (↑(aN x19.If).length:Int)==0 then(some false)else((f196 f x19.If).bind λy22=>(bif !y22 then(some false)else((f195 f a0.Names x19.eP).bind λy24=>(bif !y24 then(some false)else(mP f a0 y14 s16 s17 x19 y22 y24 s16 0)))))))else(some true))
abbrev uE (f:Fs):Gk:=λa0=>(bif a0.Kind==6 then(mO f a0 0)else((f196 f a0.Names).bind λy14=>(bif !y14 then(some false)else(mQ f a0 y14 false 0))))
abbrev rA (f:Fs):Gm:=λa0=>(bif a0.Kind==1 then(some true)else(bif a0.Kind==2 then(some true)else(bif a0.Kind==3 then(some true)else(bif a0.Kind==7 then(bif (↑(ah.rows a0.ax).length:Int)==2 then((au a0.ax 0).bind λx6=>((f155 f x6).bind λy8=>(bif y8 then((au a0.ax 1).bind λx10=>((f155 f x10).bind λy12=>(some y12)))else(some false))))else(some false))else(some false)))))
abbrev uU (f:Fs):Is:=λa0 a1 a2=>(bif a0.Kind==6 then(bif decide (a1>6)then(some 6)else(bif decide (a2>=64)then(some 6)else((f153 f a0).bind λy4=>(bif !y4 then(some 1)else(bif decide ((↑(aN a0.Names).length:Int)>8)then(some 6)else(bif decide ((↑(aU.rows a0.aZ).length:Int)>32)then(some 6)else((f154 f a0).bind λy8=>(bif !y8 then(some 3)else(bif decide (a0.Lo>a0.Hi)then(some 5)else(bif decide (a0.Lo< -1000000000)then(some 5)else(bif decide (a0.Hi>1000000000)then(some 5)else(some 0))))))))))))else(bif a0.Kind==10 then(bif decide (a1>6)then(some 6)else(bif decide (a2>=64)then(some 6)else((f153 f a0).bind λy16=>(bif !y16 then(some 1)else(bif decide ((↑(aN a0.Names).length:Int)>12)then(some 6)else(bif decide ((↑(aU.rows a0.aZ).length:Int)>32)then(some 6)else((f154 f a0).bind λy20=>(bif !y20 then(some 3)else(bif decide (a0.Lo>a0.Hi)then(some 5)else(bif decide (a0.Lo< -1000000000)then(some 5)else(bif decide (a0.Hi>1000000000)then(some 5)else(some 0))))))))))))else(bif decide (a1>6)then(some 6)else(bif decide (a2>=64)then(some 6)else((f153 f a0).bind λy27=>(bif !y27 then(some 1)else(bif decide ((↑(aN a0.Names).length:Int)>32)then(some 6)else(bif decide ((↑(aU.rows a0.aZ).length:Int)>32)then(some 6)else((f154 f a0).bind λy31=>(bif !y31 then(some 3)else(bif decide (a0.Lo>a0.Hi)then(some 5)else(bif decide (a0.Lo< -1000000000)then(some 5)else(bif decide (a0.Hi>1000000000)then(some 5)else(bif a0.Kind==7 then((au a0.ax 0).bind λx37=>((f155 f x37).bind λy39=>(bif !y39 then(some 4)else(some 0))))else(some 0)))))))))))))))
abbrev pD (f:Fs):Ob:=λa0 a1 s3 s4=>(bif decide (s4<(↑(ah.rows a0.ax).length:Int))then((au a0.ax s4).bind λx6=>((f46 f x6 (IntKind.i64.wrap (a1+1)) s3).bind λy8=>(bif y8.snd !=0 then(some ((s3,y8.snd)))else(mW f a0 a1 y8.fst (IntKind.i64.wrap (s4+1))))))else(some ((s3,0))))
abbrev uV (f:Fs):Iu:=λa0 a1 a2=>((f90 f a0 a1 a2).bind λy1=>(bif y1 !=0 then(some ((a2,y1)))else(mW f a0 a1 (IntKind.i64.wrap (a2+1)) 0)))
abbrev uW (f:Fs):Iv:=λa0=>((f46 f a0 1 0).bind λy1=>(some y1.snd))
abbrev wq (f:Fs):T28:=λa0 a1=>((f68 f a0 a1).bind λy1=>(bif y1.snd.Code !=0 then(some ((ah.z,y1.snd)))else((f15 f y1.fst).bind λy3=>(bif y3 !=0 then((f41 f y3 a1.At).bind λy5=>(some ((ah.z,y5))))else(some y1)))))
abbrev AF (f:Fs):Oe:=λa0 a1 s2=>(bif decide (s2<(↑(aN a0).length:Int))then((au a0 s2).bind λx4=>((au a1 s2).bind λx6=>(bif !x4==x6 then(some false)else(AD f a0 a1 (IntKind.i64.wrap (s2+1))))))else(some true))
abbrev BH (f:Fs):IC:=λa0 a1=>(bif (↑(aN a0).length:Int) !=(↑(aN a1).length:Int)then(some false)else(AD f a0 a1 0))
abbrev tA (f:Fs):Og:=λa0 a1 s22=>(bif decide (s22<(↑(ah.rows a0.ax).length:Int))then((au a0.ax s22).bind λx24=>((au a1.ax s22).bind λwx=>((f29 f x24 wx).bind λy28=>(bif !y28 then(some false)else(qO f a0 a1 (IntKind.i64.wrap (s22+1)))))))else(some true))
abbrev tC (f:Fs):Oh:=λa0 a1 s8 s9=>(bif decide (s9<(↑(aU.rows a0.aZ).length:Int))then((au a0.aZ s9).bind λx11=>((au a1.aZ s9).bind λx13=>(bif !x11.eP==x13.eP then(some false)else((au a0.aZ s9).bind λx16=>((au a1.aZ s9).bind λx18=>((f69 f x16.If x18.If).bind λy20=>(bif !y20 then(some false)else(tB f a0 a1 s8 (IntKind.i64.wrap (s9+1))))))))))else(qO f a0 a1 0))
abbrev xm (f:Fs):ID:=λa0 a1=>(bif a0.Kind !=a1.Kind then(some false)else(bif a0.Lo !=a1.Lo then(some false)else(bif a0.Hi !=a1.Hi then(some false)else((f69 f a0.Names a1.Names).bind λy4=>(bif !y4 then(some false)else(bif (↑(ah.rows a0.ax).length:Int) !=(↑(ah.rows a1.ax).length:Int)then(some false)else(bif (↑(aU.rows a0.aZ).length:Int) !=(↑(aU.rows a1.aZ).length:Int)then(some false)else(tB f a0 a1 false 0))))))))
abbrev B7qq (f:Fs):T7qq:=λa0 a1 a2=>(bif decide ((↑a2.length:Int)>1000)then((f9 f).bind λy2=>(some y2))else(bif decide ((↑a1.length:Int)>40)then((f9 f).bind λy4=>(some y4))else((f15 f a0).bind λy5=>(bif y5 !=0 then((f9 f).bind λy7=>(some y7))else((f26 f a2).bind λy8=>(bif y8.snd.Code !=0 then((f9 f).bind λy10=>(some y10))else((f27 f ([{Name:=a1,aj:=a0:bt}]) y8.fst).bind λy12=>((f28 f ([{Name:=a1,aj:=a0:bt}]) y8.fst).bind λy13=>((f9 f).bind λy14=>(bif y14 then(bif y12.snd.Code==y13.snd.Code&&(y12.snd.At==y13.snd.At&&true)then((f29 f y12.fst y13.fst).bind λy17=>(bif y17 then(bif y12.snd.Code !=0 then(some true)else((f15 f y12.fst).bind λy20=>(some (y20==0))))else(some false)))else(some false))else(some false)))))))))))
def Bx (x:Us) (f:Fs):BI:=((((ad0 f,wz f),(I1 f,(sL f,uq f))),((wL f,xc f),(iL f,(adA f,adH f)))),(((ad1 f,F3 f),(I2 f,(ad' f,aea f))),((adP f,aec f),(aed f,(aee f,ej f)))))
def By (x:Us) (f:Fs):BJ:=((((wJ f,uo f),(wK f,(xa f,th f))),((xb f,qy f),(uv f,(sM f,uw f)))),(((zU f,zW f),(pc f,(rj f,ux f))),((rk f,uy f),(pd f,(rm f,py f)))))
def Bz (x:Us) (f:Fs):BK:=((((uL f,uM f),(tx f,(wP f,wo f))),((wu f,tm f),(tj f,(xg f,tF f)))),(((BG f,tz f),(uQ f,(adC f,adB f))),((adI f,adD f),(adJ f,(adE f,n5 f)))))
def IX (x:Us) (f:Fs):BL:=((((s6 f,adX f),(adZ f,(adG f,iu f))),((uD f,sS f),(wU f,(sT f,uB f)))),(((pf f,ru f),(pg f,(ph f,pj f))),((uE f,rA f),(uU f,(pD f,uV f)))))
def IY (x:Us) (f:Fs):BM:=(((uW f,wq f),(AF f,(BH f,tA f))),((tC f,(xm f,B7qq f)),(uY,(P9,u26 x))))
def Qf (x:Us) (f:Fs):Fs:=((Bx x f,By x f),(Bz x f,(IX x f,IY x f)))
def Gf:Nat->Fs
 |0=>PF.bot
 |n+1=>Qf (Gu n) (Gf n)
def Pf:Fs:=PF.lm Gf
theorem Xf0 {f:Nat->Fs} {p} (h:PF.R f p):PF.R (λn=>Bx (Gu n) (f n)) (Bx Pu p):=by unfold Bx I1 uq adH I2;exact zP h
theorem Xf1 {f:Nat->Fs} {p} (h:PF.R f p):PF.R (λn=>By (Gu n) (f n)) (By Pu p):=by unfold By uv uw rj rm;exact zP h
theorem Xf2 {f:Nat->Fs} {p} (h:PF.R f p):PF.R (λn=>Bz (Gu n) (f n)) (Bz Pu p):=by unfold Bz uQ adI adJ;exact zP h
theorem Xf3 {f:Nat->Fs} {p} (h:PF.R f p):PF.R (λn=>IX (Gu n) (f n)) (IX Pu p):=by unfold IX uB ru;exact zP h
theorem Xf4 {f:Nat->Fs} {p} (h:PF.R f p):PF.R (λn=>IY (Gu n) (f n)) (IY Pu p):=(PF.pair (PF.pair (PF.pair (zM h) (zM h)) (PF.pair (zM h) (PF.pair (zM h) (zM h)))) (PF.pair (PF.pair (zM h) (PF.pair (zM h) (zM h))) (PF.pair zC (PF.pair zC (PF.K.k _ Xu.1)))))
set_option maxHeartbeats 0 in
theorem Xf:PF.Fix Gf (Qf Pu):=PF.fix (Φ:=λn=>Qf (Gu n)) (λf p h=>(PF.pair (PF.pair (Xf0 h) (Xf1 h)) (PF.pair (Xf2 h) (PF.pair (Xf3 h) (Xf4 h))))) rfl λ_=>rfl
theorem l7qq:PF.R (λn=>f7 (Gf n)) (f7 Pf):=PF.K.k _ Xf.1
theorem Df {β:Type} [PF β] (π:PF.K Fs β):π Pf=π (Qf Pu Pf):=congrArg π.f Xf.2
theorem agL (a0):f176 Pf a0=ad0 Pf a0:=cK (Df _) _
theorem aey (a0 s1):ad4 Pf a0 s1=wz Pf a0 s1:=cw (Df _) _ _
theorem afX (a0):ad7 Pf a0=I1 Pf a0:=cK (Df _) _
theorem Ml (a0 a1 s1):zQ Pf a0 a1 s1=sL Pf a0 a1 s1:=dh (Df _) _ _ _
theorem abZ (a0 a1):f185 Pf a0 a1=uq Pf a0 a1:=cw (Df _) _ _
theorem ab0 (a0 a1):f131 Pf a0 a1=wL Pf a0 a1:=cw (Df _) _ _
theorem e81 (a0 a1):f81 Pf a0 a1=xc Pf a0 a1:=cw (Df _) _ _
theorem lq (a0 a1):f80 Pf a0 a1=iL Pf a0 a1:=cw (Df _) _ _
theorem aeQ (a0 s1 s2):adM Pf a0 s1 s2=adA Pf a0 s1 s2:=dh (Df _) _ _ _
theorem agM (a0):f177 Pf a0=adH Pf a0:=cK (Df _) _
theorem agN (a0 a1):f178 Pf a0 a1=ad1 Pf a0 a1:=cw (Df _) _ _
theorem aez (a0 a1 s1):ad5 Pf a0 a1 s1=F3 Pf a0 a1 s1:=dh (Df _) _ _ _
theorem afY (a0 a1):adz Pf a0 a1=I2 Pf a0 a1:=cw (Df _) _ _
theorem af3 (a0 a1 s27 s32):adN Pf a0 a1 s27 s32=ad' Pf a0 a1 s27 s32:=mn (Df _) _ _ _ _
theorem af4 (a0 a1 s40 s44 s45):adO Pf a0 a1 s40 s44 s45=aea Pf a0 a1 s40 s44 s45:=kM (Df _) _ _ _ _ _
theorem af5 (y61 x62 s64 s70):aeb Pf y61 x62 s64 s70=adP Pf y61 x62 s64 s70:=mn (Df _) _ _ _ _
theorem af6 (a0 a1 s110 s115):adQ Pf a0 a1 s110 s115=aec Pf a0 a1 s110 s115:=mn (Df _) _ _ _ _
theorem af7 (a0 a1 s123 s127 s128):adR Pf a0 a1 s123 s127 s128=aed Pf a0 a1 s123 s127 s128:=kM (Df _) _ _ _ _ _
theorem af8 (y144 x145 s147 s153):adS Pf y144 x145 s147 s153=aee Pf y144 x145 s147 s153:=mn (Df _) _ _ _ _
theorem tw (a0 a1):f117 Pf a0 a1=ej Pf a0 a1:=cw (Df _) _ _
theorem abX (a0 a1):f213 Pf a0 a1=wJ Pf a0 a1:=cw (Df _) _ _
theorem Rq (a0):f166 Pf a0=uo Pf a0:=cK (Df _) _
theorem abY (a0):f168 Pf a0=wK Pf a0:=cK (Df _) _
theorem e98 (a0):f98 Pf a0=xa Pf a0:=cK (Df _) _
theorem NQ (a0 s9):vT Pf a0 s9=th Pf a0 s9:=cw (Df _) _ _
theorem e53 (a0):f53 Pf a0=xb Pf a0:=cK (Df _) _
theorem DD (a0 s1):vC Pf a0 s1=qy Pf a0 s1:=cw (Df _) _ _
theorem ab1 (a0):f214 Pf a0=uv Pf a0:=cK (Df _) _
theorem Mm (a0 a1 s1):qz Pf a0 a1 s1=sM Pf a0 a1 s1:=dh (Df _) _ _ _
theorem ab2 (a0 a1):f215 Pf a0 a1=uw Pf a0 a1:=cw (Df _) _ _
theorem Mn (a0 s16):zT Pf a0 s16=zU Pf a0 s16:=cw (Df _) _ _
theorem Mo (a0 s27):zV Pf a0 s27=zW Pf a0 s27:=cw (Df _) _ _
theorem Aa (a0 s1 s2):lO Pf a0 s1 s2=pc Pf a0 s1 s2:=dh (Df _) _ _ _
theorem Rr (a0):f169 Pf a0=rj Pf a0:=cK (Df _) _
theorem Rs (a0):f170 Pf a0=ux Pf a0:=cK (Df _) _
theorem GJ (a0):f216 Pf a0=rk Pf a0:=cK (Df _) _
theorem Rt (a0):f171 Pf a0=uy Pf a0:=cK (Df _) _
theorem Ab (a0 s1):mK Pf a0 s1=pd Pf a0 s1:=cw (Df _) _ _
theorem Ru (a0):f167 Pf a0=rm Pf a0:=cK (Df _) _
theorem Aw (a1 a2 s11 s12):mT Pf a1 a2 s11 s12=py Pf a1 a2 s11 s12:=mn (Df _) _ _ _ _
theorem TJ (a0 a1 a2):f99 Pf a0 a1 a2=uL Pf a0 a1 a2:=dh (Df _) _ _ _
theorem TL (a0):f54 Pf a0=uM Pf a0:=cK (Df _) _
theorem e67 (a0 a1):f67 Pf a0 a1=tx Pf a0 a1:=cw (Df _) _ _
theorem ab9 (a0):f100 Pf a0=wP Pf a0:=cK (Df _) _
theorem ZV (a0):Fa Pf a0=wo Pf a0:=cK (Df _) _
theorem ZW (a0):Fb Pf a0=wu Pf a0:=cK (Df _) _
theorem NR (a0 y1 y16 s17 s22 s23):vV Pf a0 y1 y16 s17 s22 s23=tm Pf a0 y1 y16 s17 s22 s23:=p4 (Df _) _ _ _ _ _ _
theorem NS (a0 y1 y2 s3 s9):vU Pf a0 y1 y2 s3 s9=tj Pf a0 y1 y2 s3 s9:=kM (Df _) _ _ _ _ _
theorem e66 (a0):f66 Pf a0=xg Pf a0:=cK (Df _) _
theorem e27 (a0 a1):f27 Pf a0 a1=tF Pf a0 a1:=cw (Df _) _ _
theorem e41 (a0 a1):f41 Pf a0 a1=BG Pf a0 a1:=cw (Df _) _ _
theorem NX (a0 a1 s1):vY Pf a0 a1 s1=tz Pf a0 a1 s1:=dh (Df _) _ _ _
theorem e42 (a0 a1):f42 Pf a0 a1=uQ Pf a0 a1:=cw (Df _) _ _
theorem aeR (a0 s1 s2 x4 y6 x8 s11 s12):adT Pf a0 s1 s2 x4 y6 x8 s11 s12=adC Pf a0 s1 s2 x4 y6 x8 s11 s12:=ap8 (Df _) _ _ _ _ _ _ _ _
theorem aeS (a0 s1 s2):k7 Pf a0 s1 s2=adB Pf a0 s1 s2:=dh (Df _) _ _ _
theorem agO (a0):f179 Pf a0=adI Pf a0:=cK (Df _) _
theorem aeT (a0 s1 s2 s3):adU Pf a0 s1 s2 s3=adD Pf a0 s1 s2 s3:=mn (Df _) _ _ _ _
theorem agP (a0):f118 Pf a0=adJ Pf a0:=cK (Df _) _
theorem afc (a0 a1 s2):o6 Pf a0 a1 s2=adE Pf a0 a1 s2:=dh (Df _) _ _ _
theorem aeg (a0 a1 s35 s40 s42):o7 Pf a0 a1 s35 s40 s42=n5 Pf a0 a1 s35 s40 s42:=kM (Df _) _ _ _ _ _
theorem aep (a0 a1 s50 s54 s55 s57):adF Pf a0 a1 s50 s54 s55 s57=s6 Pf a0 a1 s50 s54 s55 s57:=p4 (Df _) _ _ _ _ _ _
theorem afd (a1 y84 s85 s91 s92):adW Pf a1 y84 s85 s91 s92=adX Pf a1 y84 s85 s91 s92:=kM (Df _) _ _ _ _ _
theorem agf (a1 y109 s110 s116 s117):adY Pf a1 y109 s110 s116 s117=adZ Pf a1 y109 s110 s116 s117:=kM (Df _) _ _ _ _ _
theorem afe (a1 s77):s7 Pf a1 s77=adG Pf a1 s77:=cw (Df _) _ _
theorem tQ (a0 a1):f68 Pf a0 a1=iu Pf a0 a1:=cw (Df _) _ _
theorem Rv (a0):f153 Pf a0=uD Pf a0:=cK (Df _) _
theorem Mq (a0 s9):lR Pf a0 s9=sS Pf a0 s9:=cw (Df _) _ _
theorem ace (a0):f194 Pf a0=wU Pf a0:=cK (Df _) _
theorem Mr (a0 a1 s1):qA Pf a0 a1 s1=sT Pf a0 a1 s1:=dh (Df _) _ _ _
theorem acf (a0 a1):f195 Pf a0 a1=uB Pf a0 a1:=cw (Df _) _ _
theorem Ac (a0 s1):lS Pf a0 s1=pf Pf a0 s1:=cw (Df _) _ _
theorem Rw (a0):f196 Pf a0=ru Pf a0:=cK (Df _) _
theorem Ad (a0 s2):mO Pf a0 s2=pg Pf a0 s2:=cw (Df _) _ _
theorem Ae (a0 y14 s16 s17 x19 y22 y24 s26 s27):mP Pf a0 y14 s16 s17 x19 y22 y24 s26 s27=ph Pf a0 y14 s16 s17 x19 y22 y24 s26 s27:=I5 (Df _) _ _ _ _ _ _ _ _ _
theorem Af (a0 y14 s16 s17):mQ Pf a0 y14 s16 s17=pj Pf a0 y14 s16 s17:=mn (Df _) _ _ _ _
theorem Rx (a0):f154 Pf a0=uE Pf a0:=cK (Df _) _
theorem GP (a0):f155 Pf a0=rA Pf a0:=cK (Df _) _
theorem TR (a0 a1 a2):f90 Pf a0 a1 a2=uU Pf a0 a1 a2:=dh (Df _) _ _ _
theorem AB (a0 a1 s3 s4):mW Pf a0 a1 s3 s4=pD Pf a0 a1 s3 s4:=mn (Df _) _ _ _ _
theorem TU (a0 a1 a2):f46 Pf a0 a1 a2=uV Pf a0 a1 a2:=dh (Df _) _ _ _
theorem TV (a0):f15 Pf a0=uW Pf a0:=cK (Df _) _
theorem e28 (a0 a1):f28 Pf a0 a1=wq Pf a0 a1:=cw (Df _) _ _
theorem YN (a0 a1 s2):AD Pf a0 a1 s2=AF Pf a0 a1 s2:=dh (Df _) _ _ _
theorem e69 (a0 a1):f69 Pf a0 a1=BH Pf a0 a1:=cw (Df _) _ _
theorem NY (a0 a1 s22):qO Pf a0 a1 s22=tA Pf a0 a1 s22:=dh (Df _) _ _ _
theorem NZ (a0 a1 s8 s9):tB Pf a0 a1 s8 s9=tC Pf a0 a1 s8 s9:=mn (Df _) _ _ _ _
theorem e29 (a0 a1):f29 Pf a0 a1=xm Pf a0 a1:=cw (Df _) _ _
theorem e7 (a0 a1 a2):f7 Pf a0 a1 a2=B7qq Pf a0 a1 a2:=dh (Df _) _ _ _
theorem lr:f57 Pf=uY:=Df _
theorem x9:f9 Pf=P9:=Df _
theorem wx:f26 Pf=u26 Pu:=Df _
