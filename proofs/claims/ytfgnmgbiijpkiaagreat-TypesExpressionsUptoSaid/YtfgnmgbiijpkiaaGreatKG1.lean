/- Printed by a program: what functions answer, and that they do. -/
import Derived.Test.YtfgnmgbiijpkiaaGreatKAw
set_option linter.all false
set_option maxRecDepth 100000
noncomputable section
namespace Go.Proofs.YtfgnmgbiijpkiaaGreat
open Go Go.Bw
abbrev Bm:=Int->Option az
abbrev Bn:=TParam->ae->Option Bool
abbrev El:=List TParam->ae->Int->Option Int
abbrev xW:=List TParam->ae->Option Int
abbrev CY:=Int->Int->Option (aU Unit)
abbrev Bo:=ai->Option az
abbrev CZ:=az->Option Bool
abbrev Bp:=List UInt8->Option Int
abbrev GF:=List Int->Int->Int->Option Int
abbrev Bq:=List Int->Int->Option Int
abbrev Br:=List Int->Int->Option Bool
abbrev Bs:=List Int->az->ae->Option (aU Unit)
abbrev GG:=List (List UInt8)->List UInt8->Int->Option Int
abbrev Bt:=List (List UInt8)->List UInt8->Option Int
abbrev Bu:=List (List UInt8)->Option (List (List UInt8))
abbrev AY:=List aV->Option (List aV)
abbrev AZ:=List ai->Option (List ai)
abbrev H2:=ai->List (List UInt8)->List ai->Int->List ai->List aV->Option ai
abbrev H3:=ai->List (List UInt8)->List aV->Int->List aV->Option ai
abbrev C0:=ai->Option ai
abbrev Bv:=ae->Option Bool
abbrev GH:=List (List UInt8)->List (List UInt8)->Int->Option Bool
abbrev Bx:=List (List UInt8)->List (List UInt8)->Option Bool
abbrev By:=aV->aV->Option Bool
abbrev Ew:=List aV->List aV->Int->Option Bool
abbrev yH:=List aV->List aV->Option Bool
abbrev Bz:=ai->ai->Option Bool
abbrev Ex:=List ai->List ai->Int->Option Bool
abbrev yK:=List ai->List ai->Option Bool
abbrev C1:=az->az->Option Bool
abbrev C2:=bR->ae->az->Option (aU ab)
abbrev C3:=bR->ae->az->Option (aU ab)
abbrev BA:=bR->Int->ae->az->az->az->Option (aU ab)
abbrev GI:=bR->ae->az->Int->List ab->Option (aU ab)
abbrev GJ:=bR->ae->az->Int->List ab->Option (aU ab)
abbrev GK:=bR->ae->az->Int->List ab->Option (aU ab)
abbrev GL:=bR->ae->az->Int->List ab->Option (aU ab)
abbrev BB:=bR->ae->az->Option (aU ab)
abbrev GM:=ae->ai->List Bool->List ab->Int->Option (aU (List ab))
abbrev GN:=bR->ae->ai->List ab->List Bool->Int->Option (aU (List ab))
abbrev BC:=bR->ae->ai->Option (aU (List ab))
abbrev BD:=bR->ae->Option (aU ab)
abbrev BE:=Int->az->List Int->bR->ae->ae->Option (aU ab)
abbrev BF:=bR->ae->ae->List Int->Option (aU ab)
abbrev BG:=bR->ae->az->Option (aU ab)
abbrev BH:=bR->ae->ae->ae->Bool->Option (aU (ab×ab))
abbrev C5:=ai->List TParam->az->ae->Option (ab×aK)
abbrev H4:=List TParam->Bool->Int->TParam->TParam->Bool->Int->Option Bool
abbrev H5:=List TParam->Bool->Int->Option Bool
abbrev C6:=List TParam->Option Bool
abbrev H6:=List (List UInt8)->List (List UInt8)->Int->Option Bool
abbrev C7:=List (List UInt8)->List (List UInt8)->Option Bool
abbrev H7:=ai->ai->Int->Option Bool
abbrev H8:=ai->ai->Bool->Int->Option Bool
abbrev C8:=ai->ai->Option Bool
abbrev BI:=ai->Option Bool
abbrev GO:=List UInt8->Int->Option Bool
abbrev BJ:=List UInt8->Option Bool
abbrev GP:=List (List UInt8)->List UInt8->Int->Option Bool
abbrev BK:=List (List UInt8)->List UInt8->Option Bool
abbrev GQ:=List (List UInt8)->Int->Option Bool
abbrev BL:=List (List UInt8)->Option Bool
abbrev GR:=ai->Int->Option Bool
abbrev GS:=ai->Bool->Bool->Int->aV->Bool->Bool->Bool->Int->Option Bool
abbrev GU:=ai->Bool->Bool->Int->Option Bool
abbrev BM:=ai->Option Bool
abbrev BN:=ai->Option Bool
abbrev C':=ai->Int->Int->Option Int
abbrev H9:=ai->Int->Int->Int->Option (Int×Int)
abbrev Da:=ai->Int->Int->Option (Int×Int)
abbrev Db:=ai->Option Int
abbrev Dc:=az->Option Bool
abbrev H':=List (List UInt8)->List UInt8->Int->Option Bool
abbrev Dd:=List (List UInt8)->List UInt8->Option Bool
abbrev De:=Int->Int->Option aK
abbrev Dg:=az->az->Option Bool
abbrev Ia:=ab->ab->Int->Option Bool
abbrev Dh:=ab->ab->Option Bool
abbrev Di:=Int->Option az
abbrev Dj:=ai->Option az
abbrev Dk:=az->Option Bool
abbrev BO:=ae->Option Bool
abbrev BP:=List UInt8->Int->Option Bool
abbrev Dl:=cr->ae->az->Option (ab×aK)
abbrev Ib:=cr->ae->Int->Option (ab×aK)
abbrev Ic:=ae->((List ab)×aK)->ab->Int->Option (ab×aK)
abbrev Dm:=cr->ae->az->Option (ab×aK)
abbrev BR:=cr->ae->ae->Int->Bool->Option ((List ab)×aK)
abbrev GV:=cr->List ae->List az->List ab->List ab->Int->Option ((List ab)×aK)
abbrev BS:=cr->List ae->List az->Option ((List ab)×aK)
abbrev BT:=cr->ae->az->Option (ab×aK)
abbrev GW:=cr->ae->az->Int->List ab->aK->Option (ab×aK)
abbrev GX:=cr->ae->az->Int->List ab->aK->Option (ab×aK)
abbrev GY:=cr->ae->az->Int->List ab->aK->Option (ab×aK)
abbrev GZ:=cr->ae->az->Int->List ab->List (List UInt8)->Int->List ab->aK->Int->Option (ab×aK)
abbrev GC:=cr->ae->az->Int->List ab->List (List UInt8)->Int->List ab->aK->Option (ab×aK)
abbrev GD:=cr->ae->az->Int->List ab->Option (ab×aK)
abbrev BU:=cr->ae->az->Option (ab×aK)
abbrev BV:=cr->ae->Option (ab×aK)
abbrev Dn:=ai->List TParam->az->ae->Option (ab×aK)
abbrev T4:=ai->List TParam->az->List UInt8->Option Bool
def wR:=((((Bm×Bn)×(El×(xW×CY)))×((Bo×CZ)×(Bp×(GF×Bq))))×(((Br×Bs)×(GG×(Bt×Bu)))×((AY×AZ)×(H2×(H3×C0)))))
def wS:=((((Bv×GH)×(Bx×(By×Ew)))×((yH×Bz)×(Ex×(yK×C1))))×(((C2×C3)×(BA×(GI×GJ)))×((GK×GL)×(BB×(GM×GN)))))
def wT:=((((BC×BD)×(BE×(BF×BG)))×((BH×C5)×(H4×(H5×C6))))×(((H6×C7)×(H7×(H8×C8)))×((BI×GO)×(BJ×(GP×BK)))))
def wU:=((((GQ×BL)×(GR×(GS×GU)))×((BM×BN)×(C'×(H9×Da))))×(((Db×Dc)×(H'×(Dd×De)))×((Dg×Ia)×(Dh×(Di×Dj)))))
def wV:=((((Dk×BO)×(BP×(Dl×Ib)))×((Ic×Dm)×(BR×(GV×BS))))×(((BT×GW)×(GX×(GY×GZ)))×((GC×GD)×(BU×(BV×Dn)))))
def wW:=(T4×(T9×wX))
instance:PF wR:=by delta wR;exact @PF.prod _ _ (@PF.prod _ _ inferInstance inferInstance) (@PF.prod _ _ inferInstance inferInstance)
instance:PF wS:=by delta wS;exact @PF.prod _ _ (@PF.prod _ _ inferInstance inferInstance) (@PF.prod _ _ inferInstance inferInstance)
instance:PF wT:=by delta wT;exact @PF.prod _ _ (@PF.prod _ _ inferInstance inferInstance) (@PF.prod _ _ inferInstance inferInstance)
instance:PF wU:=by delta wU;exact @PF.prod _ _ (@PF.prod _ _ inferInstance inferInstance) (@PF.prod _ _ inferInstance inferInstance)
instance:PF wV:=by delta wV;exact @PF.prod _ _ (@PF.prod _ _ inferInstance inferInstance) (@PF.prod _ _ inferInstance inferInstance)
instance:PF wW:=by delta wW;infer_instance
abbrev Fs:=((wR×(wS×wT))×(wU×(wV×wW)))
def fp:=(PF.i (D:=Fs)).a.a
def fq:=(PF.i (D:=Fs)).a.b.a
def fu:=(PF.i (D:=Fs)).a.b.b
def fv:=(PF.i (D:=Fs)).b.a
def fw:=(PF.i (D:=Fs)).b.b.a
def Dw:=(PF.i (D:=Fs)).b.b.b
def f113:=fp.a.a.a.a
def f157:=fp.a.a.a.b
def uD:=fp.a.a.b.a
def rC:=fp.a.a.b.b.a
def f80:=fp.a.a.b.b.b
def f112:=fp.a.b.a.a
def f92:=fp.a.b.a.b
def f197:=fp.a.b.b.a
def ve:=fp.a.b.b.b.a
def f236:=fp.a.b.b.b.b
def f199:=fp.b.a.a.a
def f198:=fp.b.a.a.b
def vf:=fp.b.a.b.a
def f185:=fp.b.a.b.b.a
def f100:=fp.b.a.b.b.b
def A0:=fp.b.b.a.a
def A1:=fp.b.b.a.b
def se:=fp.b.b.b.a
def sd:=fp.b.b.b.b.a
def f66:=fp.b.b.b.b.b
def f238:=fq.a.a.a.a
def vg:=fq.a.a.a.b
def f205:=fq.a.a.b.a
def f207:=fq.a.a.b.b.a
def oT:=fq.a.a.b.b.b
def u1:=fq.a.b.a.a
def f161:=fq.a.b.a.b
def oV:=fq.a.b.b.a
def u2:=fq.a.b.b.b.a
def f93:=fq.a.b.b.b.b
def f48:=fq.b.a.a.a
def f91:=fq.b.a.a.b
def f158:=fq.b.a.b.a
def vi:=fq.b.a.b.b.a
def zx:=fq.b.a.b.b.b
def gZ:=fq.b.b.a.a
def kI:=fq.b.b.a.b
def f159:=fq.b.b.b.a
def kJ:=fq.b.b.b.b.a
def me:=fq.b.b.b.b.b
def f201:=fu.a.a.a.a
def f202:=fu.a.a.a.b
def f237:=fu.a.a.b.a
def f204:=fu.a.a.b.b.a
def f160:=fu.a.a.b.b.b
def f203:=fu.a.b.a.a
def f18:=fu.a.b.a.b
def sf:=fu.a.b.b.a
def mq:=fu.a.b.b.b.a
def f14:=fu.a.b.b.b.b
def vw:=fu.b.a.a.a
def f69:=fu.b.a.a.b
def nH:=fu.b.a.b.a
def p5:=fu.b.a.b.b.a
def f29:=fu.b.a.b.b.b
def f153:=fu.b.b.a.a
def jX:=fu.b.b.a.b
def f194:=fu.b.b.b.a
def ni:=fu.b.b.b.b.a
def f195:=fu.b.b.b.b.b
def mh:=fv.a.a.a.a
def f196:=fv.a.a.a.b
def nj:=fv.a.a.b.a
def nk:=fv.a.a.b.b.a
def nn:=fv.a.a.b.b.b
def f154:=fv.a.b.a.a
def f155:=fv.a.b.a.b
def f90:=fv.a.b.b.a
def nI:=fv.a.b.b.b.a
def f46:=fv.a.b.b.b.b
def f15:=fv.b.a.a.a
def f16:=fv.b.a.a.b
def si:=fv.b.a.b.a
def f42:=fv.b.a.b.b.a
def f41:=fv.b.a.b.b.b
def f50:=fv.b.b.a.a
def p9:=fv.b.b.a.b
def f20:=fv.b.b.b.a
def f88:=fv.b.b.b.b.a
def f87:=fv.b.b.b.b.b
def f95:=fw.a.a.a.a
def f209:=fw.a.a.a.b
def f210:=fw.a.a.b.a
def f49:=fw.a.a.b.b.a
def nK:=fw.a.a.b.b.b
def lC:=fw.a.b.a.a
def f94:=fw.a.b.a.b
def f162:=fw.a.b.b.a
def iP:=fw.a.b.b.b.a
def f163:=fw.a.b.b.b.b
def f164:=fw.b.a.a.a
def jj:=fw.b.a.a.b
def jk:=fw.b.a.b.a
def nr:=fw.b.a.b.b.a
def mi:=fw.b.a.b.b.b
def kK:=fw.b.b.a.a
def nz:=fw.b.b.a.b
def f211:=fw.b.b.b.a
def f212:=fw.b.b.b.b.a
def f19:=fw.b.b.b.b.b
def f4:=Dw.a
def f9:=Dw.b.a
def f17:=Dw.b.b
abbrev vV (f:Fs):Bm:=λa0=>(some ({aS:=a0,aj:=ai.z:az}))
abbrev sM (f:Fs):Bn:=λa0 a1=>(some (a0.Name==a1.Text))
abbrev oR (f:Fs):El:=λa0 a1 s1=>(bif decide (s1<(↑(TParam.rows a0).length:Int))then((ax a0 s1).bind λx3=>((f157 f x3 a1).bind λy5=>(bif y5 then(some s1)else(uD f a0 a1 (IntKind.i64.wrap (s1+1))))))else(some (-1)))
abbrev pd (f:Fs):xW:=λa0 a1=>(uD f a0 a1 0)
abbrev gD (f:Fs):CY:=λa0 a1=>(some (.aO (AV.bu 28 (AV.agg (AV.v (Value.int IntKind.i64 a0)::AV.v (Value.int IntKind.i64 a1)::List.map AV.v [])))))
abbrev vW (f:Fs):Bo:=λa0=>(some ({aS:=0,aj:=a0:az}))
abbrev tO (f:Fs):CZ:=λa0=>(bif a0.aS==0 then(some (a0.aj.Kind==0))else(some false))
abbrev iq (f:Fs):Bp:=λa0=>(bif a0==[115,101,116]then(some (-1))else(bif a0==[109,97,112]then(some (-1))else(bif a0==[114,101,99]then(some (-1))else(bif a0==[119,114,105,116,101]then(some 3)else(bif a0==[112,97,105,114]then(some 2)else(some 1))))))
abbrev pv (f:Fs):GF:=λa0 a1 s1=>(bif decide (s1<(↑(eC IntKind.i64 a0).length:Int))then((ax a0 s1).bind λx3=>(bif a1==x3 then(some s1)else(ve f a0 a1 (IntKind.i64.wrap (s1+1)))))else(some (-1)))
abbrev qw (f:Fs):Bq:=λa0 a1=>(ve f a0 a1 0)
abbrev sN (f:Fs):Br:=λa0 a1=>((f236 f a0 a1).bind λy1=>(some (decide (y1>=0))))
abbrev qx (f:Fs):Bs:=λa0 a1 a2=>(bif a1.aS !=0 then(aH (f80 f 4 a2.At) λ_=>none)else((f199 f a0 a1.aj.Kind).bind λy3=>(bif !y3 then(aH (f80 f 4 a2.At) λ_=>none)else(some (.ret (()))))))
abbrev pw (f:Fs):GG:=λa0 a1 s1=>(bif decide (s1<(↑(bn a0).length:Int))then((ax a0 s1).bind λx3=>(bif a1==x3 then(some s1)else(vf f a0 a1 (IntKind.i64.wrap (s1+1)))))else(some (-1)))
abbrev qy (f:Fs):Bt:=λa0 a1=>(vf f a0 a1 0)
abbrev sO (f:Fs):Bu:=λa0=>(bif decide ((([]:List (List UInt8))++(a0:List (List UInt8))).length<=274877906944)then(some ([]++a0))else none)
abbrev sC (f:Fs):AY:=λa0=>(bif decide ((([]:List aV)++(a0:List aV)).length<=274877906944)then(some ([]++a0))else none)
abbrev sD (f:Fs):AZ:=λa0=>(bif decide ((([]:List ai)++(a0:List ai)).length<=274877906944)then(some ([]++a0))else none)
abbrev pY (f:Fs):H2:=λa0 y1 y16 s17 s22 s23=>(bif decide (s17<(↑(ai.rows y16).length:Int))then((ax s22 s17).bind λx25=>((f66 f x25).bind λy27=>((ax s22 s17).bind λx28=>(se f a0 y1 y16 (IntKind.i64.wrap (s17+1)) (s22.set s17.toNat y27) s23))))else(some ({Kind:=a0.Kind,Lo:=a0.Lo,Hi:=a0.Hi,Names:=y1,aB:=s22,bw:=s23:ai})))
abbrev pX (f:Fs):H3:=λa0 y1 y2 s3 s9=>(bif decide (s3<(↑(aV.rows y2).length:Int))then((ax s9 s3).bind λx11=>((f100 f x11.If).bind λy13=>((ax s9 s3).bind λx14=>(sd f a0 y1 y2 (IntKind.i64.wrap (s3+1)) (s9.set s3.toNat {If:=y13,eU:=x14.eU:aV})))))else((A1 f a0.aB).bind λy16=>(se f a0 y1 y16 0 y16 s9)))
abbrev tP (f:Fs):C0:=λa0=>((f100 f a0.Names).bind λy1=>((A0 f a0.bw).bind λy2=>(sd f a0 y1 y2 0 y2)))
abbrev qz (f:Fs):Bv:=λa0=>(bif a0.Kind==50 then(some true)else(bif a0.Kind==51 then(bif a0.Text==[102,108,97,103]then(some true)else(bif a0.Text==[110,117,109]then(some true)else(bif a0.Text==[115,101,116]then(some true)else(bif a0.Text==[109,97,112]then(some true)else(bif a0.Text==[114,101,99]then(some true)else(bif a0.Text==[112,97,105,114]then(some true)else(bif a0.Text==[111,110,101]then(some true)else(some false))))))))else(bif a0.Kind==39 then((ax a0.Kids 0).bind λx11=>((f238 f x11).bind λy13=>(bif y13 then((ax a0.Kids 1).bind λx15=>((f238 f x15).bind λy17=>(some y17)))else(some false))))else(bif a0.Kind==30 then((ax a0.Kids 1).bind λx19=>((f238 f x19).bind λy21=>(bif y21 then((ax a0.Kids 2).bind λx23=>((f238 f x23).bind λy25=>(some y25)))else(some false))))else(some false)))))
abbrev vh (f:Fs):GH:=λa0 a1 s2=>(bif decide (s2<(↑(bn a0).length:Int))then((ax a0 s2).bind λx4=>((ax a1 s2).bind λx6=>(bif !x4==x6 then(some false)else(vg f a0 a1 (IntKind.i64.wrap (s2+1))))))else(some true))
abbrev vY (f:Fs):Bx:=λa0 a1=>(bif (↑(bn a0).length:Int) !=(↑(bn a1).length:Int)then(some false)else(vg f a0 a1 0))
abbrev sP (f:Fs):By:=λa0 a1=>(bif a0.eU==a1.eU then((f205 f a0.If a1.If).bind λy2=>(some y2))else(some false))
abbrev oU (f:Fs):Ew:=λa0 a1 s2=>(bif decide (s2<(↑(aV.rows a0).length:Int))then((ax a0 s2).bind λx4=>((ax a1 s2).bind λx6=>((f207 f x4 x6).bind λy8=>(bif !y8 then(some false)else(oT f a0 a1 (IntKind.i64.wrap (s2+1)))))))else(some true))
abbrev rI (f:Fs):yH:=λa0 a1=>(bif (↑(aV.rows a0).length:Int) !=(↑(aV.rows a1).length:Int)then(some false)else(oT f a0 a1 0))
abbrev sQ (f:Fs):Bz:=λa0 a1=>(bif a0.Kind==a1.Kind then(bif a0.Lo==a1.Lo then(bif a0.Hi==a1.Hi then((f205 f a0.Names a1.Names).bind λy4=>(bif y4 then((u1 f a0.bw a1.bw).bind λy6=>(bif y6 then((u2 f a0.aB a1.aB).bind λy8=>(some y8))else(some false)))else(some false)))else(some false))else(some false))else(some false))
abbrev oW (f:Fs):Ex:=λa0 a1 s2=>(bif decide (s2<(↑(ai.rows a0).length:Int))then((ax a0 s2).bind λx4=>((ax a1 s2).bind λx6=>((f161 f x4 x6).bind λy8=>(bif !y8 then(some false)else(oV f a0 a1 (IntKind.i64.wrap (s2+1)))))))else(some true))
abbrev rJ (f:Fs):yK:=λa0 a1=>(bif (↑(ai.rows a0).length:Int) !=(↑(ai.rows a1).length:Int)then(some false)else(oV f a0 a1 0))
abbrev tQ (f:Fs):C1:=λa0 a1=>(bif a0.aS==a1.aS then((f161 f a0.aj a1.aj).bind λy2=>(some y2))else(some false))
abbrev qV (f:Fs):C2:=λa0 a1 a2=>(aH (f91 f a0 a1 a2) λy1=>((f66 f y1.ak.aj).bind λy2=>((f92 f a2).bind λy3=>(bif !y3 then((f93 f a2 ({aS:=y1.ak.aS,aj:=y2:az})).bind λy5=>(bif !y5 then(aH (f80 f 4 a1.At) λ_=>none)else(some (.ret ({Op:=y1.Op,ak:={aS:=y1.ak.aS,aj:=y2:az},N:=y1.N,Text:=y1.Text,At:=a1.At,Kids:=y1.Kids:ab})))))else(some (.ret ({Op:=y1.Op,ak:={aS:=y1.ak.aS,aj:=y2:az},N:=y1.N,Text:=y1.Text,At:=a1.At,Kids:=y1.Kids:ab})))))))
abbrev oE (f:Fs):C3:=λa0 a1 a2=>((f113 f 2).bind λy1=>((f113 f 1).bind λy2=>((f113 f 3).bind λy3=>(bif a1.Kind==44 then(some (.ret ({Op:=1,ak:=y2,N:=a1.N,Text:=[],At:=0,Kids:=[]:ab})))else(bif a1.Kind==45 then(some (.ret ({Op:=2,ak:=y1,N:=1,Text:=[],At:=0,Kids:=[]:ab})))else(bif a1.Kind==46 then(some (.ret ({Op:=2,ak:=y1,N:=0,Text:=[],At:=0,Kids:=[]:ab})))else(bif a1.Kind==47 then(some (.ret ({Op:=3,ak:=y3,N:=0,Text:=a1.Text,At:=0,Kids:=[]:ab})))else(bif a1.Kind==48 then((rC f a0.params a1).bind λy9=>(bif decide (y9<0)then(aH (f80 f 3 a1.At) λ_=>none)else((ax a0.params y9).bind λx12=>((f113 f x12.aS).bind λy14=>(some (.ret ({Op:=4,ak:=y14,N:=y9,Text:=[],At:=0,Kids:=[]:ab})))))))else(bif a1.Kind==49 then((f112 f a0.l).bind λy16=>(some (.ret ({Op:=5,ak:=y16,N:=0,Text:=[],At:=0,Kids:=[]:ab}))))else(bif a1.Kind==50 then(bif a2.aS !=0 then(aH (f80 f 4 a1.At) λ_=>none)else((f92 f a2).bind λy20=>(bif y20 then(aH (f80 f 4 a1.At) λ_=>none)else(some (.ret ({Op:=6,ak:=a2,N:=0,Text:=[],At:=0,Kids:=[]:ab}))))))else(bif a1.Kind==31 then(aH (f158 f a0 8 a1 y1 y1 y1) λy24=>(some (.ret y24)))else(bif a1.Kind==32 then(aH (f158 f a0 9 a1 y1 y1 y1) λy26=>(some (.ret y26)))else(bif a1.Kind==33 then((ax a1.Kids 0).bind λx28=>(aH (f48 f a0 x28 y1) λy30=>(some (.ret ({Op:=10,ak:=y1,N:=0,Text:=[],At:=0,Kids:=[y30]:ab})))))else(bif a1.Kind==34 then(aH (f158 f a0 11 a1 y2 y2 y1) λy32=>(some (.ret y32)))else(bif a1.Kind==35 then(aH (f158 f a0 12 a1 y2 y2 y1) λy34=>(some (.ret y34)))else(bif a1.Kind==37 then((f113 f 4).bind λy36=>(aH (f158 f a0 14 a1 y3 y36 y1) λy37=>(some (.ret y37))))else(bif a1.Kind==40 then(aH (f158 f a0 17 a1 y2 y2 y2) λy39=>(some (.ret y39)))else(bif a1.Kind==41 then(aH (f158 f a0 18 a1 y2 y2 y2) λy41=>(some (.ret y41)))else(bif a1.Kind==51 then(aH (f159 f a0 a1 a2) λy43=>(some (.ret y43)))else(aH (f160 f a0 a1 a2) λy44=>(some (.ret y44))))))))))))))))))))))
abbrev qB (f:Fs):BA:=λa0 a1 a2 a3 a4 a5=>((ax a2.Kids 0).bind λx1=>(aH (f48 f a0 x1 a3) λy3=>((ax a2.Kids 1).bind λx4=>(aH (f48 f a0 x4 a4) λy6=>(some (.ret ({Op:=a1,ak:=a5,N:=0,Text:=[],At:=0,Kids:=[y3,y6]:ab})))))))
abbrev zw (f:Fs):GI:=λa0 a1 a2 s25 s37=>(bif decide (s25<(↑(ae.rows a1.Kids).length:Int))then((ax a1.Kids s25).bind λx39=>(aH (f48 f a0 x39 az.z) λy41=>(bif decide (((s37:List ab)++([ab.z]:List ab)).length<=274877906944)then((ax (s37++[ab.z]) ((↑(ab.rows s37).length:Int))).bind λx43=>((ax ((s37++[ab.z]).set (↑(ab.rows s37).length:Int).toNat y41) (IntKind.i64.wrap ((↑(ab.rows s37++ab.rows [ab.z]).length:Int)-1))).bind λx45=>(bif x45.ak.aS !=3 then(bif x45.ak.aS !=4 then(aH (f80 f 4 x39.At) λ_=>none)else(vi f a0 a1 a2 (IntKind.i64.wrap (s25+1)) ((s37++[ab.z]).set (↑(ab.rows s37).length:Int).toNat y41)))else(vi f a0 a1 a2 (IntKind.i64.wrap (s25+1)) ((s37++[ab.z]).set (↑(ab.rows s37).length:Int).toNat y41)))))else none)))else(some (.ret ({Op:=23,ak:=a2,N:=0,Text:=[],At:=0,Kids:=s37:ab}))))
abbrev zy (f:Fs):GJ:=λa0 a1 a2 s52 s64=>(bif decide (s52<(↑(ae.rows a1.Kids).length:Int))then((ax a1.Kids s52).bind λx66=>((ax x66.Kids 0).bind λx68=>((f113 f 3).bind λy70=>(aH (f48 f a0 x68 y70) λy71=>(bif decide (((s64:List ab)++([ab.z]:List ab)).length<=274877906944)then((ax (s64++[ab.z]) ((↑(ab.rows s64).length:Int))).bind λx73=>((ax x66.Kids 1).bind λx75=>((ax a2.aj.aB 0).bind λx77=>((f112 f x77).bind λy79=>(aH (f48 f a0 x75 y79) λy80=>(bif decide ((((s64++[ab.z]).set (↑(ab.rows s64).length:Int).toNat y71:List ab)++([ab.z]:List ab)).length<=274877906944)then((ax ((s64++[ab.z]).set (↑(ab.rows s64).length:Int).toNat y71++[ab.z]) ((↑(ab.rows s64++ab.rows [ab.z]).length:Int))).bind λx82=>(zx f a0 a1 a2 (IntKind.i64.wrap (s52+1)) (((s64++[ab.z]).set (↑(ab.rows s64).length:Int).toNat y71++[ab.z]).set (↑(ab.rows s64++ab.rows [ab.z]).length:Int).toNat y80)))else none))))))else none)))))else(some (.ret ({Op:=24,ak:=a2,N:=0,Text:=[],At:=0,Kids:=s64:ab}))))
abbrev kH (f:Fs):GK:=λa0 a1 a2 s159 s171=>(bif decide (s159<(↑(ae.rows a1.Kids).length:Int))then((ax a1.Kids s159).bind λx173=>(aH (f48 f a0 x173 az.z) λy175=>(bif decide (((s171:List ab)++([ab.z]:List ab)).length<=274877906944)then((ax (s171++[ab.z]) ((↑(ab.rows s171).length:Int))).bind λx177=>((ax ((s171++[ab.z]).set (↑(ab.rows s171).length:Int).toNat y175) (IntKind.i64.wrap ((↑(ab.rows s171++ab.rows [ab.z]).length:Int)-1))).bind λx179=>(bif x179.ak.aS !=3 then(bif x179.ak.aS !=4 then(aH (f80 f 4 x173.At) λ_=>none)else(gZ f a0 a1 a2 (IntKind.i64.wrap (s159+1)) ((s171++[ab.z]).set (↑(ab.rows s171).length:Int).toNat y175)))else(gZ f a0 a1 a2 (IntKind.i64.wrap (s159+1)) ((s171++[ab.z]).set (↑(ab.rows s171).length:Int).toNat y175)))))else none)))else(some (.ret ({Op:=23,ak:=a2,N:=0,Text:=[],At:=0,Kids:=s171:ab}))))
abbrev mc (f:Fs):GL:=λa0 a1 a2 s186 s198=>(bif decide (s186<(↑(ae.rows a1.Kids).length:Int))then((ax a1.Kids s186).bind λx200=>((ax x200.Kids 0).bind λx202=>((f113 f 3).bind λy204=>(aH (f48 f a0 x202 y204) λy205=>(bif decide (((s198:List ab)++([ab.z]:List ab)).length<=274877906944)then((ax (s198++[ab.z]) ((↑(ab.rows s198).length:Int))).bind λx207=>((ax x200.Kids 1).bind λx209=>((ax a2.aj.aB 0).bind λx211=>((f112 f x211).bind λy213=>(aH (f48 f a0 x209 y213) λy214=>(bif decide ((((s198++[ab.z]).set (↑(ab.rows s198).length:Int).toNat y205:List ab)++([ab.z]:List ab)).length<=274877906944)then((ax ((s198++[ab.z]).set (↑(ab.rows s198).length:Int).toNat y205++[ab.z]) ((↑(ab.rows s198++ab.rows [ab.z]).length:Int))).bind λx216=>(kI f a0 a1 a2 (IntKind.i64.wrap (s186+1)) (((s198++[ab.z]).set (↑(ab.rows s198).length:Int).toNat y205++[ab.z]).set (↑(ab.rows s198++ab.rows [ab.z]).length:Int).toNat y214)))else none))))))else none)))))else(some (.ret ({Op:=24,ak:=a2,N:=0,Text:=[],At:=0,Kids:=s198:ab}))))
abbrev ir (f:Fs):BB:=λa0 a1 a2=>((f197 f a1.Text).bind λy1=>(bif decide (y1>=0)then(bif y1 !=(↑(ae.rows a1.Kids).length:Int)then(aH (f80 f 1 a1.At) λ_=>none)else(bif a1.Text==[102,108,97,103]then(cC (f198 f ([1]) a2 a1) λy6=>((ax a1.Kids 0).bind λx7=>((f113 f 2).bind λy9=>(aH (f48 f a0 x7 y9) λy10=>(bif decide (([ab.z]:List ab).length<=274877906944)then((ax ([ab.z]) ((↑0:Int))).bind λx12=>(some (.ret ({Op:=21,ak:=a2,N:=0,Text:=[],At:=0,Kids:=[ab.z].set (Int.toNat 0) y10:ab}))))else none)))))else(bif a1.Text==[110,117,109]then(cC (f198 f ([2,3]) a2 a1) λy15=>((ax a1.Kids 0).bind λx16=>((f113 f 1).bind λy18=>(aH (f48 f a0 x16 y18) λy19=>(bif decide (([ab.z]:List ab).length<=274877906944)then((ax ([ab.z]) ((↑0:Int))).bind λx21=>(some (.ret ({Op:=22,ak:=a2,N:=0,Text:=[],At:=0,Kids:=[ab.z].set (Int.toNat 0) y19:ab}))))else none)))))else(bif a1.Text==[115,101,116]then(cC (f198 f ([4,10]) a2 a1) λy24=>(vi f a0 a1 a2 0 ([])))else(bif a1.Text==[109,97,112]then(cC (f198 f ([5]) a2 a1) λy51=>(zx f a0 a1 a2 0 ([])))else(bif a1.Text==[114,101,99]then(cC (f198 f ([6]) a2 a1) λy85=>(aH (f201 f a0 a1 a2.aj) λy86=>(some (.ret ({Op:=25,ak:=a2,N:=0,Text:=[],At:=0,Kids:=y86:ab})))))else(bif a1.Text==[112,97,105,114]then(cC (f198 f ([7]) a2 a1) λy88=>((ax a1.Kids 0).bind λx89=>((ax a2.aj.aB 0).bind λx91=>((f112 f x91).bind λy93=>(aH (f48 f a0 x89 y93) λy94=>(bif decide (([ab.z]:List ab).length<=274877906944)then((ax ([ab.z]) ((↑0:Int))).bind λx96=>((ax a1.Kids 1).bind λx98=>((ax a2.aj.aB 1).bind λx100=>((f112 f x100).bind λy102=>(aH (f48 f a0 x98 y102) λy103=>(bif decide ((([ab.z].set (Int.toNat 0) y94:List ab)++([ab.z]:List ab)).length<=274877906944)then((ax ([ab.z].set (Int.toNat 0) y94++[ab.z]) ((↑1:Int))).bind λx105=>(some (.ret ({Op:=26,ak:=a2,N:=0,Text:=[],At:=0,Kids:=([ab.z].set (Int.toNat 0) y94++[ab.z]).set (Int.toNat 1) y103:ab}))))else none))))))else none))))))else(bif a1.Text==[111,110,101]then(cC (f198 f ([8]) a2 a1) λy108=>((ax a1.Kids 0).bind λx109=>((f113 f 3).bind λy111=>(aH (f48 f a0 x109 y111) λy112=>(bif decide (([ab.z]:List ab).length<=274877906944)then((ax ([ab.z]) ((↑0:Int))).bind λx114=>(some (.ret ({Op:=27,ak:=a2,N:=0,Text:=[],At:=0,Kids:=[ab.z].set (Int.toNat 0) y112:ab}))))else none)))))else(bif a1.Text==[119,114,105,116,101]then((f112 f ({Kind:=9,Lo:=0,Hi:=0,Names:=[],aB:=[],bw:=[]:ai})).bind λy117=>((ax a1.Kids 0).bind λx118=>(aH (f48 f a0 x118 y117) λy120=>(bif decide (([ab.z]:List ab).length<=274877906944)then((ax ([ab.z]) ((↑0:Int))).bind λx122=>((ax a1.Kids 1).bind λx124=>((f113 f 1).bind λy126=>(aH (f48 f a0 x124 y126) λy127=>(bif decide ((([ab.z].set (Int.toNat 0) y120:List ab)++([ab.z]:List ab)).length<=274877906944)then((ax ([ab.z].set (Int.toNat 0) y120++[ab.z]) ((↑1:Int))).bind λx129=>((ax a1.Kids 2).bind λx131=>((f113 f 3).bind λy133=>(aH (f48 f a0 x131 y133) λy134=>(bif decide (((([ab.z].set (Int.toNat 0) y120++[ab.z]).set (Int.toNat 1) y127:List ab)++([ab.z]:List ab)).length<=274877906944)then((ax (([ab.z].set (Int.toNat 0) y120++[ab.z]).set (Int.toNat 1) y127++[ab.z]) ((↑2:Int))).bind λx136=>(some (.ret ({Op:=28,ak:=y117,N:=0,Text:=[],At:=0,Kids:=(([ab.z].set (Int.toNat 0) y120++[ab.z]).set (Int.toNat 1) y127++[ab.z]).set (Int.toNat 2) y134:ab}))))else none)))))else none)))))else none))))else(aH (f202 f a0 a1) λy138=>(some (.ret y138))))))))))))else(bif a1.Text==[102,108,97,103]then(cC (f198 f ([1]) a2 a1) λy140=>((ax a1.Kids 0).bind λx141=>((f113 f 2).bind λy143=>(aH (f48 f a0 x141 y143) λy144=>(bif decide (([ab.z]:List ab).length<=274877906944)then((ax ([ab.z]) ((↑0:Int))).bind λx146=>(some (.ret ({Op:=21,ak:=a2,N:=0,Text:=[],At:=0,Kids:=[ab.z].set (Int.toNat 0) y144:ab}))))else none)))))else(bif a1.Text==[110,117,109]then(cC (f198 f ([2,3]) a2 a1) λy149=>((ax a1.Kids 0).bind λx150=>((f113 f 1).bind λy152=>(aH (f48 f a0 x150 y152) λy153=>(bif decide (([ab.z]:List ab).length<=274877906944)then((ax ([ab.z]) ((↑0:Int))).bind λx155=>(some (.ret ({Op:=22,ak:=a2,N:=0,Text:=[],At:=0,Kids:=[ab.z].set (Int.toNat 0) y153:ab}))))else none)))))else(bif a1.Text==[115,101,116]then(cC (f198 f ([4,10]) a2 a1) λy158=>(gZ f a0 a1 a2 0 ([])))else(bif a1.Text==[109,97,112]then(cC (f198 f ([5]) a2 a1) λy185=>(kI f a0 a1 a2 0 ([])))else(bif a1.Text==[114,101,99]then(cC (f198 f ([6]) a2 a1) λy219=>(aH (f201 f a0 a1 a2.aj) λy220=>(some (.ret ({Op:=25,ak:=a2,N:=0,Text:=[],At:=0,Kids:=y220:ab})))))else(bif a1.Text==[112,97,105,114]then(cC (f198 f ([7]) a2 a1) λy222=>((ax a1.Kids 0).bind λx223=>((ax a2.aj.aB 0).bind λx225=>((f112 f x225).bind λy227=>(aH (f48 f a0 x223 y227) λy228=>(bif decide (([ab.z]:List ab).length<=274877906944)then((ax ([ab.z]) ((↑0:Int))).bind λx230=>((ax a1.Kids 1).bind λx232=>((ax a2.aj.aB 1).bind λx234=>((f112 f x234).bind λy236=>(aH (f48 f a0 x232 y236) λy237=>(bif decide ((([ab.z].set (Int.toNat 0) y228:List ab)++([ab.z]:List ab)).length<=274877906944)then((ax ([ab.z].set (Int.toNat 0) y228++[ab.z]) ((↑1:Int))).bind λx239=>(some (.ret ({Op:=26,ak:=a2,N:=0,Text:=[],At:=0,Kids:=([ab.z].set (Int.toNat 0) y228++[ab.z]).set (Int.toNat 1) y237:ab}))))else none))))))else none))))))else(bif a1.Text==[111,110,101]then(cC (f198 f ([8]) a2 a1) λy242=>((ax a1.Kids 0).bind λx243=>((f113 f 3).bind λy245=>(aH (f48 f a0 x243 y245) λy246=>(bif decide (([ab.z]:List ab).length<=274877906944)then((ax ([ab.z]) ((↑0:Int))).bind λx248=>(some (.ret ({Op:=27,ak:=a2,N:=0,Text:=[],At:=0,Kids:=[ab.z].set (Int.toNat 0) y246:ab}))))else none)))))else(bif a1.Text==[119,114,105,116,101]then((f112 f ({Kind:=9,Lo:=0,Hi:=0,Names:=[],aB:=[],bw:=[]:ai})).bind λy251=>((ax a1.Kids 0).bind λx252=>(aH (f48 f a0 x252 y251) λy254=>(bif decide (([ab.z]:List ab).length<=274877906944)then((ax ([ab.z]) ((↑0:Int))).bind λx256=>((ax a1.Kids 1).bind λx258=>((f113 f 1).bind λy260=>(aH (f48 f a0 x258 y260) λy261=>(bif decide ((([ab.z].set (Int.toNat 0) y254:List ab)++([ab.z]:List ab)).length<=274877906944)then((ax ([ab.z].set (Int.toNat 0) y254++[ab.z]) ((↑1:Int))).bind λx263=>((ax a1.Kids 2).bind λx265=>((f113 f 3).bind λy267=>(aH (f48 f a0 x265 y267) λy268=>(bif decide (((([ab.z].set (Int.toNat 0) y254++[ab.z]).set (Int.toNat 1) y261:List ab)++([ab.z]:List ab)).length<=274877906944)then((ax (([ab.z].set (Int.toNat 0) y254++[ab.z]).set (Int.toNat 1) y261++[ab.z]) ((↑2:Int))).bind λx270=>(some (.ret ({Op:=28,ak:=y251,N:=0,Text:=[],At:=0,Kids:=(([ab.z].set (Int.toNat 0) y254++[ab.z]).set (Int.toNat 1) y261++[ab.z]).set (Int.toNat 2) y268:ab}))))else none)))))else none)))))else none))))else(aH (f202 f a0 a1) λy272=>(some (.ret y272)))))))))))))
abbrev mg (f:Fs):GM:=λa1 a2 s4 s26 s27=>(bif decide (s27<(↑(ai.rows a2.aB).length:Int))then((ax a2.aB s27).bind λx29=>((ax s4 s27).bind λx31=>(bif !x31 then((f66 f x29).bind λy34=>((f112 f y34).bind λy35=>((ax s26 s27).bind λx36=>(kJ f a1 a2 s4 (s26.set s27.toNat {Op:=6,ak:=y35,N:=0,Text:=[],At:=a1.At,Kids:=[]:ab}) (IntKind.i64.wrap (s27+1))))))else(kJ f a1 a2 s4 s26 (IntKind.i64.wrap (s27+1))))))else(some (.ret s26)))
abbrev mf (f:Fs):GN:=λa0 a1 a2 s3 s4 s5=>(bif decide (s5<(↑(ae.rows a1.Kids).length:Int))then((ax a1.Kids s5).bind λx7=>((f185 f a2.Names x7.Text).bind λy9=>(bif decide (y9<0)then(aH (f80 f 3 x7.At) λ_=>none)else((ax s4 y9).bind λx12=>(bif x12 then(aH (f80 f 3 x7.At) λ_=>none)else((ax x7.Kids 0).bind λx16=>((ax a2.aB y9).bind λx18=>((f112 f x18).bind λy20=>(aH (f48 f a0 x16 y20) λy21=>((ax s3 y9).bind λx22=>((ax s4 y9).bind λx24=>(me f a0 a1 a2 (s3.set y9.toNat y21) (s4.set y9.toNat true) (IntKind.i64.wrap (s5+1))))))))))))))else(kJ f a1 a2 s4 s3 0))
abbrev qC (f:Fs):BC:=λa0 a1 a2=>((sE ((↑(ai.rows a2.aB).length:Int))).bind λm1=>((sE ((↑(ai.rows a2.aB).length:Int))).bind λm2=>(me f a0 a1 a2 (List.replicate m1 ab.z) (List.replicate m2 false) 0)))
abbrev qD (f:Fs):BD:=λa0 a1=>((ax a1.Kids 0).bind λx1=>((f113 f 2).bind λy3=>((f113 f 1).bind λy4=>((f113 f 4).bind λy5=>(bif a1.Text==[115,105,122,101]then(aH (f48 f a0 x1 az.z) λy7=>(bif y7.ak.aS !=4 then(bif y7.ak.aS !=0 then(aH (f80 f 4 a1.At) λ_=>none)else((f199 f ([4,5,9,10]) y7.ak.aj.Kind).bind λy11=>(bif !y11 then(aH (f80 f 4 a1.At) λ_=>none)else(some (.ret ({Op:=29,ak:=y4,N:=0,Text:=[],At:=0,Kids:=[y7]:ab}))))))else(some (.ret ({Op:=29,ak:=y4,N:=0,Text:=[],At:=0,Kids:=[y7]:ab})))))else(bif a1.Text==[115,117,109]then(aH (f237 f 30 y4 ([5]) a0 a1 x1) λy17=>((ax y17.Kids 0).bind λx18=>((ax x18.ak.aj.aB 0).bind λx20=>(bif x20.Kind !=2 then(bif x20.Kind !=3 then(aH (f80 f 4 a1.At) λ_=>none)else(some (.ret y17)))else(some (.ret y17))))))else(bif a1.Text==[110,117,109,98,101,114]then(aH (f237 f 31 y4 ([2,3]) a0 a1 x1) λy28=>(some (.ret y28)))else(bif a1.Text==[111,110]then(aH (f237 f 32 y3 ([1]) a0 a1 x1) λy32=>(some (.ret y32)))else(bif a1.Text==[107,101,121,115]then(aH (f237 f 33 y5 ([5,4,10]) a0 a1 x1) λy36=>(some (.ret y36)))else(bif a1.Text==[118,97,108,117,101,115]then(aH (f237 f 34 y5 ([8,9]) a0 a1 x1) λy40=>(some (.ret y40)))else(bif a1.Text==[99,111,110,102,108,105,99,116]then(aH (f237 f 37 y3 ([8,9]) a0 a1 x1) λy44=>(some (.ret y44)))else(bif a1.Text==[115,101,99,111,110,100]then(aH (f237 f 36 az.z ([7]) a0 a1 x1) λy48=>((ax y48.Kids 0).bind λx49=>((ax x49.ak.aj.aB 1).bind λx51=>((f112 f x51).bind λy53=>(some (.ret ({Op:=y48.Op,ak:=y53,N:=y48.N,Text:=y48.Text,At:=y48.At,Kids:=y48.Kids:ab})))))))else(aH (f237 f 35 az.z ([7]) a0 a1 x1) λy56=>((ax y56.Kids 0).bind λx57=>((ax x57.ak.aj.aB 0).bind λx59=>((f112 f x59).bind λy61=>(some (.ret ({Op:=y56.Op,ak:=y61,N:=y56.N,Text:=y56.Text,At:=y56.At,Kids:=y56.Kids:ab})))))))))))))))))))
abbrev lG (f:Fs):BE:=λa0 a1 a2 a3 a4 a5=>(aH (f204 f a3 a4 a5 a2) λy1=>(some (.ret ({Op:=a0,ak:=a1,N:=0,Text:=[],At:=0,Kids:=[y1]:ab}))))
abbrev mE (f:Fs):BF:=λa0 a1 a2 a3=>(aH (f48 f a0 a2 az.z) λy1=>(bif y1.ak.aS !=0 then(aH (f80 f 4 a1.At) λ_=>none)else((f199 f a3 y1.ak.aj.Kind).bind λy4=>(bif !y4 then(aH (f80 f 4 a1.At) λ_=>none)else(some (.ret y1))))))
abbrev qE (f:Fs):BG:=λa0 a1 a2=>((f113 f 2).bind λy1=>(bif a1.Kind==30 then((ax a1.Kids 0).bind λx3=>(aH (f48 f a0 x3 y1) λy5=>((f92 f a2).bind λy6=>(bif y6 then((ax a1.Kids 1).bind λx8=>((ax a1.Kids 2).bind λx10=>(aH (f203 f a0 a1 x8 x10 false) λy12=>(some (.ret ({Op:=7,ak:=y12.fst.ak,N:=0,Text:=[],At:=0,Kids:=[y5,y12.fst,y12.snd]:ab}))))))else((ax a1.Kids 1).bind λx13=>(aH (f48 f a0 x13 a2) λy15=>((ax a1.Kids 2).bind λx16=>(aH (f48 f a0 x16 a2) λy18=>(some (.ret ({Op:=7,ak:=y15.ak,N:=0,Text:=[],At:=0,Kids:=[y5,y15,y18]:ab})))))))))))else(bif a1.Kind==36 then((ax a1.Kids 0).bind λx20=>(aH (f48 f a0 x20 az.z) λy22=>(bif y22.ak.aS==0 then((ax a1.Kids 0).bind λx24=>(aH (f80 f 4 x24.At) λ_=>none))else((ax a1.Kids 1).bind λx27=>(aH (f48 f a0 x27 y22.ak) λy29=>(some (.ret ({Op:=13,ak:=y1,N:=0,Text:=[],At:=0,Kids:=[y22,y29]:ab}))))))))else(bif a1.Kind==38 then((ax a1.Kids 0).bind λx31=>((ax a1.Kids 1).bind λx33=>(aH (f203 f a0 a1 x31 x33 true) λy35=>(some (.ret ({Op:=15,ak:=y1,N:=0,Text:=[],At:=0,Kids:=[y35.fst,y35.snd]:ab}))))))else(bif a1.Kind==39 then((f92 f a2).bind λy37=>(bif !y37 then(bif a2.aS !=0 then(aH (f80 f 4 a1.At) λ_=>none)else(aH (f158 f a0 16 a1 a2 a2 a2) λy41=>(some (.ret y41))))else((ax a1.Kids 0).bind λx42=>((ax a1.Kids 1).bind λx44=>(aH (f203 f a0 a1 x42 x44 true) λy46=>(some (.ret ({Op:=16,ak:=y46.fst.ak,N:=0,Text:=[],At:=0,Kids:=[y46.fst,y46.snd]:ab}))))))))else(bif a1.Kind==42 then((ax a1.Kids 0).bind λx48=>(aH (f204 f a0 a1 x48 ([6])) λy50=>((f185 f y50.ak.aj.Names a1.Text).bind λy51=>(bif decide (y51<0)then(aH (f80 f 3 a1.At) λ_=>none)else((ax y50.ak.aj.aB y51).bind λx54=>((f112 f x54).bind λy56=>(some (.ret ({Op:=19,ak:=y56,N:=y51,Text:=[],At:=0,Kids:=[y50]:ab})))))))))else((ax a1.Kids 0).bind λx57=>(aH (f204 f a0 a1 x57 ([5])) λy59=>((ax a1.Kids 1).bind λx60=>((f113 f 3).bind λy62=>(aH (f48 f a0 x60 y62) λy63=>((ax y59.ak.aj.aB 0).bind λx64=>((f112 f x64).bind λy66=>(some (.ret ({Op:=20,ak:=y66,N:=0,Text:=[],At:=0,Kids:=[y59,y63]:ab}))))))))))))))))
abbrev qH (f:Fs):BH:=λa0 a1 a2 a3 a4=>((f238 f a2).bind λy1=>(bif y1 then((f238 f a3).bind λy3=>(bif y3 then(aH (f80 f 4 a1.At) λ_=>none)else(aH (f48 f a0 a3 az.z) λy6=>(bif a4 then(bif y6.ak.aS !=0 then(aH (f80 f 4 a3.At) λ_=>none)else(aH (f48 f a0 a2 y6.ak) λy10=>(some (.ret ((y10,y6))))))else(aH (f48 f a0 a2 y6.ak) λy11=>(some (.ret ((y11,y6)))))))))else(aH (f48 f a0 a2 az.z) λy12=>(bif a4 then(bif y12.ak.aS !=0 then(aH (f80 f 4 a2.At) λ_=>none)else(aH (f48 f a0 a3 y12.ak) λy16=>(some (.ret ((y12,y16))))))else(aH (f48 f a0 a3 y12.ak) λy17=>(some (.ret ((y12,y17)))))))))
abbrev qZ (f:Fs):C5:=λa0 a1 a2 a3=>(fm 28 (f48 f ({l:=a0,params:=a1:bR}) a3 a2) (λc3 c4=>(bif c3 !=0 then(some ((ab.z,{Code:=c3,At:=c4:aK})))else(some ((ab.z,{Code:=c3,At:=c4:aK}))))) λy2=>(some ((y2,aK.z))))
abbrev pZ (f:Fs):H4:=λa0 s1 s2 x4 x7 s11 s12=>(bif decide (s12<s2)then((ax a0 s12).bind λx14=>((ax a0 s2).bind λx16=>(bif x14.Name==x16.Name then(some false)else(sf f a0 s1 s2 x4 x7 s11 (IntKind.i64.wrap (s12+1))))))else(mq f a0 s11 (IntKind.i64.wrap (s2+1))))
abbrev p0 (f:Fs):H5:=λa0 s1 s2=>(bif decide (s2<(↑(TParam.rows a0).length:Int))then((ax a0 s2).bind λx4=>(bif decide (x4.aS<1)then(some false)else((ax a0 s2).bind λx7=>(bif decide (x7.aS>4)then(some false)else(bif decide (s2>20)then(some false)else(sf f a0 s1 s2 x4 x7 s1 0))))))else(some true))
abbrev qX (f:Fs):C6:=λa0=>(mq f a0 false 0)
abbrev vx (f:Fs):H6:=λa0 a1 s2=>(bif decide (s2<(↑(bn a0).length:Int))then((ax a0 s2).bind λx4=>((ax a1 s2).bind λx6=>(bif !x4==x6 then(some false)else(vw f a0 a1 (IntKind.i64.wrap (s2+1))))))else(some true))
abbrev wM (f:Fs):C7:=λa0 a1=>(bif (↑(bn a0).length:Int) !=(↑(bn a1).length:Int)then(some false)else(vw f a0 a1 0))
abbrev p3 (f:Fs):H7:=λa0 a1 s22=>(bif decide (s22<(↑(ai.rows a0.aB).length:Int))then((ax a0.aB s22).bind λx24=>((ax a1.aB s22).bind λx26=>((f29 f x24 x26).bind λy28=>(bif !y28 then(some false)else(nH f a0 a1 (IntKind.i64.wrap (s22+1)))))))else(some true))
abbrev p6 (f:Fs):H8:=λa0 a1 s8 s9=>(bif decide (s9<(↑(aV.rows a0.bw).length:Int))then((ax a0.bw s9).bind λx11=>((ax a1.bw s9).bind λx13=>(bif !x11.eU==x13.eU then(some false)else((ax a0.bw s9).bind λx16=>((ax a1.bw s9).bind λx18=>((f69 f x16.If x18.If).bind λy20=>(bif !y20 then(some false)else(p5 f a0 a1 s8 (IntKind.i64.wrap (s9+1))))))))))else(nH f a0 a1 0))
abbrev tR (f:Fs):C8:=λa0 a1=>(bif a0.Kind !=a1.Kind then(some false)else(bif a0.Lo !=a1.Lo then(some false)else(bif a0.Hi !=a1.Hi then(some false)else((f69 f a0.Names a1.Names).bind λy4=>(bif !y4 then(some false)else(bif (↑(ai.rows a0.aB).length:Int) !=(↑(ai.rows a1.aB).length:Int)then(some false)else(bif (↑(aV.rows a0.bw).length:Int) !=(↑(aV.rows a1.bw).length:Int)then(some false)else(p5 f a0 a1 false 0))))))))
abbrev sS (f:Fs):BI:=λa0=>(bif a0.Kind==2 then(bif (↑(aV.rows a0.bw).length:Int) !=0 then(some false)else(bif (↑(bn a0.Names).length:Int)==0 then(some ((↑(ai.rows a0.aB).length:Int)==0))else(some false)))else(bif !a0.Kind==3 then(bif a0.Lo !=0 then(some false)else(bif a0.Hi !=0 then(some false)else(bif a0.Kind !=10 then(bif (↑(aV.rows a0.bw).length:Int) !=0 then(some false)else(bif a0.Kind==1 then(bif (↑(bn a0.Names).length:Int)==0 then(some ((↑(ai.rows a0.aB).length:Int)==0))else(some false))else(bif a0.Kind==9 then(bif (↑(bn a0.Names).length:Int)==0 then(some ((↑(ai.rows a0.aB).length:Int)==0))else(some false))else(bif a0.Kind==4 then(some ((↑(ai.rows a0.aB).length:Int)==0))else(bif a0.Kind==8 then(some ((↑(ai.rows a0.aB).length:Int)==0))else(bif a0.Kind==5 then(some ((↑(ai.rows a0.aB).length:Int)==1))else(bif a0.Kind==6 then(bif decide ((↑(bn a0.Names).length:Int)>0)then(some ((↑(bn a0.Names).length:Int)==(↑(ai.rows a0.aB).length:Int)))else(some false))else(bif a0.Kind==7 then(bif (↑(bn a0.Names).length:Int)==0 then(some ((↑(ai.rows a0.aB).length:Int)==2))else(some false))else(some false)))))))))else(bif decide ((↑(bn a0.Names).length:Int)>0)then(some ((↑(ai.rows a0.aB).length:Int)==0))else(some false)))))else(bif (↑(aV.rows a0.bw).length:Int) !=0 then(some false)else(bif (↑(bn a0.Names).length:Int)==0 then(some ((↑(ai.rows a0.aB).length:Int)==0))else(some false)))))
abbrev py (f:Fs):GO:=λa0 s9=>(bif decide (s9<(↑a0.length:Int))then((ax (a0:List UInt8) s9).bind λx11=>(bif decide ((↑x11.toNat:Int)<97)then((ax (a0:List UInt8) s9).bind λx14=>(bif decide ((↑x14.toNat:Int)<48)then((ax (a0:List UInt8) s9).bind λwQ=>(bif (↑wQ.toNat:Int) !=45 then(some false)else(jX f a0 (IntKind.i64.wrap (s9+1)))))else((ax (a0:List UInt8) s9).bind λx20=>(bif decide ((↑x20.toNat:Int)>57)then((ax (a0:List UInt8) s9).bind λx23=>(bif (↑x23.toNat:Int) !=45 then(some false)else(jX f a0 (IntKind.i64.wrap (s9+1)))))else(jX f a0 (IntKind.i64.wrap (s9+1)))))))else((ax (a0:List UInt8) s9).bind λx26=>(bif decide ((↑x26.toNat:Int)>122)then((ax (a0:List UInt8) s9).bind λx29=>(bif decide ((↑x29.toNat:Int)<48)then((ax (a0:List UInt8) s9).bind λx32=>(bif (↑x32.toNat:Int) !=45 then(some false)else(jX f a0 (IntKind.i64.wrap (s9+1)))))else((ax (a0:List UInt8) s9).bind λx35=>(bif decide ((↑x35.toNat:Int)>57)then((ax (a0:List UInt8) s9).bind λx38=>(bif (↑x38.toNat:Int) !=45 then(some false)else(jX f a0 (IntKind.i64.wrap (s9+1)))))else(jX f a0 (IntKind.i64.wrap (s9+1)))))))else(jX f a0 (IntKind.i64.wrap (s9+1)))))))else(some true))
abbrev sT (f:Fs):BJ:=λa0=>(bif decide ((↑a0.length:Int)<1)then(some false)else(bif decide ((↑a0.length:Int)>16)then(some false)else((ax (a0:List UInt8) 0).bind λx3=>(bif decide ((↑x3.toNat:Int)<97)then(some false)else((ax (a0:List UInt8) 0).bind λx6=>(bif decide ((↑x6.toNat:Int)>122)then(some false)else(jX f a0 0)))))))
abbrev pz (f:Fs):GP:=λa0 a1 s1=>(bif decide (s1<(↑(bn a0).length:Int))then((ax a0 s1).bind λx3=>(bif x3==a1 then(some true)else(ni f a0 a1 (IntKind.i64.wrap (s1+1)))))else(some false))
abbrev qF (f:Fs):BK:=λa0 a1=>(ni f a0 a1 0)
abbrev pA (f:Fs):GQ:=λa0 s1=>(bif decide (s1<(↑(bn a0).length:Int))then((ax a0 s1).bind λx3=>((f194 f x3).bind λy5=>(bif !y5 then(some false)else(bif decide (s1>0)then((ax a0 (IntKind.i64.wrap (s1-1))).bind λx8=>((ax a0 s1).bind λx10=>(bif !Op.bytesLess x8 x10 then(some false)else(mh f a0 (IntKind.i64.wrap (s1+1))))))else(mh f a0 (IntKind.i64.wrap (s1+1)))))))else(some true))
abbrev qG (f:Fs):BL:=λa0=>(mh f a0 0)
abbrev pB (f:Fs):GR:=λa0 s2=>(bif decide (s2<(↑(bn a0.Names).length:Int))then((ax a0.Names s2).bind λx4=>((f194 f x4).bind λy6=>(bif !y6 then(some false)else((ij a0.Names 0 s2).bind λx8=>((ax a0.Names s2).bind λx10=>((f195 f x8 x10).bind λy12=>(bif y12 then(some false)else(nj f a0 (IntKind.i64.wrap (s2+1))))))))))else(some true))
abbrev pC (f:Fs):GS:=λa0 y14 s16 s17 x19 y22 y24 s26 s27=>(bif decide (s27<(↑(bn x19.If).length:Int))then((ax x19.If s27).bind λx29=>((f195 f a0.Names x29).bind λy31=>(bif !y31 then(some false)else(nk f a0 y14 s16 s17 x19 y22 y24 s26 (IntKind.i64.wrap (s27+1))))))else(nn f a0 y14 s26 (IntKind.i64.wrap (s17+1))))
abbrev pD (f:Fs):GU:=λa0 y14 s16 s17=>(bif decide (s17<(↑(aV.rows a0.bw).length:Int))then((ax a0.bw s17).bind λx19=>(bif (↑(bn x19.If).length:Int)==0 then(some false)else((f196 f x19.If).bind λy22=>(bif !y22 then(some false)else((f195 f a0.Names x19.eU).bind λy24=>(bif !y24 then(some false)else(nk f a0 y14 s16 s17 x19 y22 y24 s16 0)))))))else(some true))
abbrev sU (f:Fs):BM:=λa0=>(bif a0.Kind==6 then(nj f a0 0)else((f196 f a0.Names).bind λy14=>(bif !y14 then(some false)else(nn f a0 y14 false 0))))
abbrev sV (f:Fs):BN:=λa0=>(bif a0.Kind==1 then(some true)else(bif a0.Kind==2 then(some true)else(bif a0.Kind==3 then(some true)else(bif a0.Kind==7 then(bif (↑(ai.rows a0.aB).length:Int)==2 then((ax a0.aB 0).bind λx6=>((f155 f x6).bind λy8=>(bif y8 then((ax a0.aB 1).bind λx10=>((f155 f x10).bind λy12=>(some y12)))else(some false))))else(some false))else(some false)))))
abbrev tT (f:Fs):C':=λa0 a1 a2=>(bif a0.Kind==6 then(bif decide (a1>6)then(some 6)else(bif decide (a2>=64)then(some 6)else((f153 f a0).bind λy4=>(bif !y4 then(some 1)else(bif decide ((↑(bn a0.Names).length:Int)>8)then(some 6)else(bif decide ((↑(aV.rows a0.bw).length:Int)>32)then(some 6)else((f154 f a0).bind λy8=>(bif !y8 then(some 3)else(bif decide (a0.Lo>a0.Hi)then(some 5)else(bif decide (a0.Lo< -1000000000)then(some 5)else(bif decide (a0.Hi>1000000000)then(some 5)else(some 0))))))))))))else(bif a0.Kind==10 then(bif decide (a1>6)then(some 6)else(bif decide (a2>=64)then(some 6)else((f153 f a0).bind λy16=>(bif !y16 then(some 1)else(bif decide ((↑(bn a0.Names).length:Int)>12)then(some 6)else(bif decide ((↑(aV.rows a0.bw).length:Int)>32)then(some 6)else((f154 f a0).bind λy20=>(bif !y20 then(some 3)else(bif decide (a0.Lo>a0.Hi)then(some 5)else(bif decide (a0.Lo< -1000000000)then(some 5)else(bif decide (a0.Hi>1000000000)then(some 5)else(some 0))))))))))))else(bif decide (a1>6)then(some 6)else(bif decide (a2>=64)then(some 6)else((f153 f a0).bind λy27=>(bif !y27 then(some 1)else(bif decide ((↑(bn a0.Names).length:Int)>32)then(some 6)else(bif decide ((↑(aV.rows a0.bw).length:Int)>32)then(some 6)else((f154 f a0).bind λy31=>(bif !y31 then(some 3)else(bif decide (a0.Lo>a0.Hi)then(some 5)else(bif decide (a0.Lo< -1000000000)then(some 5)else(bif decide (a0.Hi>1000000000)then(some 5)else(bif a0.Kind==7 then((ax a0.aB 0).bind λx37=>((f155 f x37).bind λy39=>(bif !y39 then(some 4)else(some 0))))else(some 0)))))))))))))))
abbrev p7 (f:Fs):H9:=λa0 a1 s3 s4=>(bif decide (s4<(↑(ai.rows a0.aB).length:Int))then((ax a0.aB s4).bind λx6=>((f46 f x6 (IntKind.i64.wrap (a1+1)) s3).bind λy8=>(bif y8.snd !=0 then(some ((s3,y8.snd)))else(nI f a0 a1 y8.fst (IntKind.i64.wrap (s4+1))))))else(some ((s3,0))))
abbrev tU (f:Fs):Da:=λa0 a1 a2=>((f90 f a0 a1 a2).bind λy1=>(bif y1 !=0 then(some ((a2,y1)))else(nI f a0 a1 (IntKind.i64.wrap (a2+1)) 0)))
abbrev tV (f:Fs):Db:=λa0=>((f46 f a0 1 0).bind λy1=>(some y1.snd))
abbrev tW (f:Fs):Dc:=λa0=>(bif a0.aS !=0 then(bif decide (a0.aS>=1)then(bif decide (a0.aS<=4)then((f29 f a0.aj ai.z).bind λy4=>(some y4))else(some false))else(some false))else((f29 f a0.aj ai.z).bind λy5=>(bif y5 then(some true)else((f15 f a0.aj).bind λy7=>(some (y7==0))))))
abbrev p8 (f:Fs):H':=λa0 a1 s1=>(bif decide (s1<(↑(bn a0).length:Int))then((ax a0 s1).bind λx3=>(bif x3==a1 then(some true)else(si f a0 a1 (IntKind.i64.wrap (s1+1)))))else(some false))
abbrev qY (f:Fs):Dd:=λa0 a1=>(si f a0 a1 0)
abbrev wN (f:Fs):De:=λa0 a1=>(some ({Code:=a0,At:=a1:aK}))
abbrev tX (f:Fs):Dg:=λa0 a1=>(bif a0.aS==a1.aS then((f29 f a0.aj a1.aj).bind λy2=>(some y2))else(some false))
abbrev nJ (f:Fs):Ia:=λa0 a1 s8=>(bif decide (s8<(↑(ab.rows a0.Kids).length:Int))then((ax a0.Kids s8).bind λx10=>((ax a1.Kids s8).bind λx12=>((f20 f x10 x12).bind λy14=>(bif !y14 then(some false)else(p9 f a0 a1 (IntKind.i64.wrap (s8+1)))))))else(some true))
abbrev q0 (f:Fs):Dh:=λa0 a1=>(bif a0.Op !=a1.Op then(some false)else((f50 f a0.ak a1.ak).bind λy2=>(bif !y2 then(some false)else(bif a0.N !=a1.N then(some false)else(bif !a0.Text==a1.Text then(some false)else(bif a0.At !=a1.At then(some false)else(bif (↑(ab.rows a0.Kids).length:Int) !=(↑(ab.rows a1.Kids).length:Int)then(some false)else(p9 f a0 a1 0))))))))
abbrev wO (f:Fs):Di:=λa0=>(some ({aS:=a0,aj:=ai.z:az}))
abbrev wP (f:Fs):Dj:=λa0=>(some ({aS:=0,aj:=a0:az}))
abbrev tY (f:Fs):Dk:=λa0=>(bif a0.aS==0 then(some (a0.aj.Kind==0))else(some false))
abbrev iv (f:Fs):BO:=λa0=>(bif a0.Kind==50 then(some true)else(bif a0.Kind==51 then(bif a0.Text==[102,108,97,103]then(some true)else(bif a0.Text==[110,117,109]then(some true)else(bif a0.Text==[115,101,116]then(some true)else(bif a0.Text==[109,97,112]then(some true)else(bif a0.Text==[114,101,99]then(some true)else(bif a0.Text==[112,97,105,114]then(some true)else(bif a0.Text==[111,110,101]then(some true)else(some false))))))))else(bif a0.Kind==39 then((ax a0.Kids 0).bind λx11=>((f209 f x11).bind λy13=>(bif y13 then((ax a0.Kids 1).bind λx15=>((f209 f x15).bind λy17=>(some y17)))else(some false))))else(bif a0.Kind==30 then((ax a0.Kids 1).bind λx19=>((f209 f x19).bind λy21=>(bif y21 then((ax a0.Kids 2).bind λx23=>((f209 f x23).bind λy25=>(some y25)))else(some false))))else(some false)))))
abbrev iX (f:Fs):BP:=λa0 a1=>(bif a0==[115,101,116]then(some true)else(bif a0==[109,97,112]then(some true)else(bif a0==[114,101,99]then(some true)else(bif a0==[119,114,105,116,101]then(some (a1==3))else(bif a0==[112,97,105,114]then(some (a1==2))else(some (a1==1)))))))
abbrev q7 (f:Fs):Dl:=λa0 a1 a2=>((f94 f a0 a1 a2).bind λy1=>(bif y1.snd.Code==0 then((f95 f a2).bind λy3=>(bif !y3 then((f50 f y1.fst.ak a2).bind λy5=>(bif !y5 then((f41 f 4 a1.At).bind λy7=>(bif y7.Code !=0 then(some ((ab.z,y7)))else(some (({Op:=y1.fst.Op,ak:=y1.fst.ak,N:=y1.fst.N,Text:=y1.fst.Text,At:=a1.At,Kids:=y1.fst.Kids:ab},y7)))))else(some (({Op:=y1.fst.Op,ak:=y1.fst.ak,N:=y1.fst.N,Text:=y1.fst.Text,At:=a1.At,Kids:=y1.fst.Kids:ab},y1.snd)))))else(some (({Op:=y1.fst.Op,ak:=y1.fst.ak,N:=y1.fst.N,Text:=y1.fst.Text,At:=a1.At,Kids:=y1.fst.Kids:ab},y1.snd)))))else(some ((ab.z,y1.snd)))))
abbrev nL (f:Fs):Ib:=λa0 a1 s10=>(bif decide (s10<(↑(TParam.rows a0.Params).length:Int))then((ax a0.Params s10).bind λx12=>(bif x12.Name==a1.Text then((ax a0.Params s10).bind λx15=>((f88 f x15.aS).bind λy17=>(some (({Op:=4,ak:=y17,N:=s10,Text:=[],At:=0,Kids:=[]:ab},aK.z)))))else(nK f a0 a1 (IntKind.i64.wrap (s10+1)))))else((f41 f 3 a1.At).bind λy18=>(some ((ab.z,y18)))))
abbrev qa (f:Fs):Ic:=λa1 y108 x110 s113=>(bif decide (s113<(↑(bn x110.ak.aj.Names).length:Int))then((ax x110.ak.aj.Names s113).bind λx115=>(bif x115==a1.Text then((ax x110.ak.aj.aB s113).bind λx118=>((f87 f x118).bind λy120=>(some (({Op:=19,ak:=y120,N:=s113,Text:=[],At:=0,Kids:=y108.fst:ab},y108.snd)))))else(lC f a1 y108 x110 (IntKind.i64.wrap (s113+1)))))else((f41 f 3 a1.At).bind λy121=>(some (({Op:=0,ak:=az.z,N:=0,Text:=[],At:=0,Kids:=y108.fst:ab},y121)))))
abbrev q8 (f:Fs):Dm:=λa0 a1 a2=>((f88 f 2).bind λy1=>((f88 f 1).bind λy2=>((f41 f 4 a1.At).bind λy3=>(bif a1.Kind==44 then(some (({Op:=1,ak:=y2,N:=a1.N,Text:=[],At:=0,Kids:=[]:ab},aK.z)))else(bif a1.Kind==45 then(some (({Op:=2,ak:=y1,N:=1,Text:=[],At:=0,Kids:=[]:ab},aK.z)))else(bif a1.Kind==46 then(some (({Op:=2,ak:=y1,N:=0,Text:=[],At:=0,Kids:=[]:ab},aK.z)))else(bif a1.Kind==47 then((f88 f 3).bind λy8=>(some (({Op:=3,ak:=y8,N:=0,Text:=a1.Text,At:=0,Kids:=[]:ab},aK.z))))else(bif a1.Kind==48 then(nK f a0 a1 0)else(bif a1.Kind==49 then((f87 f a0.L).bind λy20=>(some (({Op:=5,ak:=y20,N:=0,Text:=[],At:=0,Kids:=[]:ab},aK.z))))else(bif a1.Kind==50 then(bif a2.aj.Kind==0 then(some ((ab.z,y3)))else(some (({Op:=6,ak:=a2,N:=0,Text:=[],At:=0,Kids:=[]:ab},aK.z))))else(bif a1.Kind==30 then((ax a1.Kids 0).bind λx24=>((f49 f a0 x24 y1).bind λy26=>(bif y26.snd.Code !=0 then(some ((ab.z,y26.snd)))else((f95 f a2).bind λy28=>(bif y28 then((ax a1.Kids 1).bind λx30=>((ax a1.Kids 2).bind λx32=>((f162 f a0 x30 x32 a1.At false).bind λy34=>(bif y34.snd.Code !=0 then(some ((ab.z,y34.snd)))else((ax y34.fst 0).bind λx36=>(bif decide ((([y26.fst]:List ab)++(y34.fst:List ab)).length<=274877906944)then(some (({Op:=7,ak:=x36.ak,N:=0,Text:=[],At:=0,Kids:=[y26.fst]++y34.fst:ab},y34.snd)))else none))))))else((ij a1.Kids 1 (((a1.Kids).length:Int))).bind λx39=>((f163 f a0 x39 ([a2,a2])).bind λy41=>(bif y41.snd.Code !=0 then(some ((ab.z,y41.snd)))else((ax y41.fst 0).bind λx43=>(bif decide ((([y26.fst]:List ab)++(y41.fst:List ab)).length<=274877906944)then(some (({Op:=7,ak:=x43.ak,N:=0,Text:=[],At:=0,Kids:=[y26.fst]++y41.fst:ab},y41.snd)))else none))))))))))else(bif a1.Kind==31 then((f163 f a0 a1.Kids ([y1,y1])).bind λy48=>(some (({Op:=8,ak:=y1,N:=0,Text:=[],At:=0,Kids:=y48.fst:ab},y48.snd))))else(bif a1.Kind==32 then((f163 f a0 a1.Kids ([y1,y1])).bind λy51=>(some (({Op:=9,ak:=y1,N:=0,Text:=[],At:=0,Kids:=y51.fst:ab},y51.snd))))else(bif a1.Kind==33 then((f163 f a0 a1.Kids ([y1])).bind λy54=>(some (({Op:=10,ak:=y1,N:=0,Text:=[],At:=0,Kids:=y54.fst:ab},y54.snd))))else(bif a1.Kind==34 then((f163 f a0 a1.Kids ([y2,y2])).bind λy57=>(some (({Op:=11,ak:=y1,N:=0,Text:=[],At:=0,Kids:=y57.fst:ab},y57.snd))))else(bif a1.Kind==35 then((f163 f a0 a1.Kids ([y2,y2])).bind λy60=>(some (({Op:=12,ak:=y1,N:=0,Text:=[],At:=0,Kids:=y60.fst:ab},y60.snd))))else(bif a1.Kind==40 then((f163 f a0 a1.Kids ([y2,y2])).bind λy63=>(some (({Op:=17,ak:=y2,N:=0,Text:=[],At:=0,Kids:=y63.fst:ab},y63.snd))))else(bif a1.Kind==41 then((f163 f a0 a1.Kids ([y2,y2])).bind λy66=>(some (({Op:=18,ak:=y2,N:=0,Text:=[],At:=0,Kids:=y66.fst:ab},y66.snd))))else(bif a1.Kind==37 then((f88 f 3).bind λy68=>((f88 f 4).bind λy69=>((f163 f a0 a1.Kids ([y68,y69])).bind λy70=>(some (({Op:=14,ak:=y1,N:=0,Text:=[],At:=0,Kids:=y70.fst:ab},y70.snd))))))else(bif a1.Kind==36 then((ax a1.Kids 0).bind λx72=>((f49 f a0 x72 az.z).bind λy74=>(bif y74.snd.Code !=0 then(some ((ab.z,y74.snd)))else(bif y74.fst.ak.aS==0 then((ax a1.Kids 0).bind λx77=>((f41 f 4 x77.At).bind λy79=>(some ((ab.z,y79)))))else((ax a1.Kids 1).bind λx80=>((f49 f a0 x80 y74.fst.ak).bind λy82=>(some (({Op:=13,ak:=y1,N:=0,Text:=[],At:=0,Kids:=[y74.fst,y82.fst]:ab},y82.snd)))))))))else(bif a1.Kind==38 then((ax a1.Kids 0).bind λx84=>((ax a1.Kids 1).bind λx86=>((f162 f a0 x84 x86 a1.At true).bind λy88=>(some (({Op:=15,ak:=y1,N:=0,Text:=[],At:=0,Kids:=y88.fst:ab},y88.snd))))))else(bif a1.Kind==39 then((f95 f a2).bind λy90=>(bif y90 then((ax a1.Kids 0).bind λx92=>((ax a1.Kids 1).bind λx94=>((f162 f a0 x92 x94 a1.At true).bind λy96=>(bif y96.snd.Code==0 then((ax y96.fst 0).bind λx98=>(some (({Op:=16,ak:=x98.ak,N:=0,Text:=[],At:=0,Kids:=y96.fst:ab},y96.snd))))else(some (({Op:=0,ak:=az.z,N:=0,Text:=[],At:=0,Kids:=y96.fst:ab},y96.snd)))))))else(bif a2.aS !=0 then(some ((ab.z,y3)))else((f163 f a0 a1.Kids ([a2,a2])).bind λy102=>(bif y102.snd.Code==0 then((ax y102.fst 0).bind λx104=>(some (({Op:=16,ak:=x104.ak,N:=0,Text:=[],At:=0,Kids:=y102.fst:ab},y102.snd))))else(some (({Op:=0,ak:=az.z,N:=0,Text:=[],At:=0,Kids:=y102.fst:ab},y102.snd))))))))else(bif a1.Kind==42 then((f163 f a0 a1.Kids ([az.z])).bind λy108=>(bif y108.snd.Code !=0 then(some (({Op:=0,ak:=az.z,N:=0,Text:=[],At:=0,Kids:=y108.fst:ab},y108.snd)))else((ax y108.fst 0).bind λx110=>(bif x110.ak.aj.Kind !=6 then(some (({Op:=0,ak:=az.z,N:=0,Text:=[],At:=0,Kids:=y108.fst:ab},y3)))else(lC f a1 y108 x110 0)))))else(bif a1.Kind==43 then((ax a1.Kids 0).bind λx123=>((f49 f a0 x123 az.z).bind λy125=>(bif y125.snd.Code !=0 then(some ((ab.z,y125.snd)))else(bif y125.fst.ak.aj.Kind !=5 then(some ((ab.z,y3)))else((ax a1.Kids 1).bind λx128=>((f88 f 3).bind λy130=>((f49 f a0 x128 y130).bind λy131=>((ax y125.fst.ak.aj.aB 0).bind λx132=>((f87 f x132).bind λy134=>(some (({Op:=20,ak:=y134,N:=0,Text:=[],At:=0,Kids:=[y125.fst,y131.fst]:ab},y131.snd))))))))))))else(bif a1.Kind==51 then((f164 f a0 a1 a2).bind λy136=>(some y136))else(some ((ab.z,aK.z))))))))))))))))))))))))))))
abbrev sW (f:Fs):BR:=λa0 a1 a2 a3 a4=>((f209 f a1).bind λy1=>(bif y1 then((f209 f a2).bind λy3=>(bif y3 then((f41 f 4 a3).bind λy5=>(some (([],y5))))else((f49 f a0 a2 az.z).bind λy6=>(bif y6.snd.Code !=0 then(some (([],y6.snd)))else(bif a4 then(bif y6.fst.ak.aS !=0 then((f41 f 4 a2.At).bind λy10=>(some (([],y10))))else((f49 f a0 a1 y6.fst.ak).bind λy11=>(bif y11.snd.Code !=0 then(some (([],y11.snd)))else((f209 f a1).bind λy13=>(bif y13 then(some (([y11.fst,y6.fst],y11.snd)))else(some (([y6.fst,y11.fst],y11.snd))))))))else((f49 f a0 a1 y6.fst.ak).bind λy15=>(bif y15.snd.Code !=0 then(some (([],y15.snd)))else((f209 f a1).bind λy17=>(bif y17 then(some (([y15.fst,y6.fst],y15.snd)))else(some (([y6.fst,y15.fst],y15.snd))))))))))))else((f209 f a1).bind λy19=>(bif y19 then((f41 f 4 a3).bind λy21=>(some (([],y21))))else((f49 f a0 a1 az.z).bind λy22=>(bif y22.snd.Code !=0 then(some (([],y22.snd)))else(bif a4 then(bif y22.fst.ak.aS !=0 then((f41 f 4 a1.At).bind λy26=>(some (([],y26))))else((f49 f a0 a2 y22.fst.ak).bind λy27=>(bif y27.snd.Code !=0 then(some (([],y27.snd)))else((f209 f a1).bind λy29=>(bif y29 then(some (([y27.fst,y22.fst],y27.snd)))else(some (([y22.fst,y27.fst],y27.snd))))))))else((f49 f a0 a2 y22.fst.ak).bind λy31=>(bif y31.snd.Code !=0 then(some (([],y31.snd)))else((f209 f a1).bind λy33=>(bif y33 then(some (([y31.fst,y22.fst],y31.snd)))else(some (([y22.fst,y31.fst],y31.snd))))))))))))))
abbrev pE (f:Fs):GV:=λa0 a1 a2 s1 s2 s3=>(bif decide (s3<(↑(az.rows a2).length:Int))then((ax a1 s3).bind λx5=>((ax a2 s3).bind λx7=>((f49 f a0 x5 x7).bind λy9=>(bif y9.snd.Code !=0 then(some (([],y9.snd)))else(bif decide (((s2:List ab)++([y9.fst]:List ab)).length<=274877906944)then(iP f a0 a1 a2 s1 (s2++[y9.fst]) (IntKind.i64.wrap (s3+1)))else none)))))else(some ((s2,aK.z))))
abbrev mF (f:Fs):BS:=λa0 a1 a2=>(iP f a0 a1 a2 ([]) ([]) 0)
abbrev iY (f:Fs):BT:=λa0 a1 a2=>((f210 f a1.Text ((↑(ae.rows a1.Kids).length:Int))).bind λy1=>(bif !y1 then((f41 f 1 a1.At).bind λy3=>(some ((ab.z,y3))))else((f209 f a1).bind λy4=>(bif y4 then((f211 f a0 a1 a2).bind λy6=>(some y6))else(bif a1.Text==[119,114,105,116,101]then((f87 f ({Kind:=9,Lo:=0,Hi:=0,Names:=[],aB:=[],bw:=[]:ai})).bind λy8=>((f88 f 1).bind λy9=>((f88 f 3).bind λy10=>((f163 f a0 a1.Kids ([y8,y9,y10])).bind λy11=>(some (({Op:=28,ak:=y8,N:=0,Text:=[],At:=0,Kids:=y11.fst:ab},y11.snd)))))))else((f212 f a0 a1).bind λy12=>(some y12)))))))
abbrev np (f:Fs):GW:=λa0 a1 a2 s16 s28 s29=>(bif decide (s16<(↑(ae.rows a1.Kids).length:Int))then(bif s29.Code==0 then((ax a1.Kids s16).bind λx32=>((f49 f a0 x32 az.z).bind λy34=>(bif y34.snd.Code==0 then(bif y34.fst.ak.aS !=3 then(bif y34.fst.ak.aS !=4 then((ax a1.Kids s16).bind λx38=>((f41 f 4 x38.At).bind λy40=>(bif decide (((s28:List ab)++([y34.fst]:List ab)).length<=274877906944)then(jj f a0 a1 a2 (IntKind.i64.wrap (s16+1)) (s28++[y34.fst]) y40)else none)))else(bif decide (((s28:List ab)++([y34.fst]:List ab)).length<=274877906944)then(jj f a0 a1 a2 (IntKind.i64.wrap (s16+1)) (s28++[y34.fst]) y34.snd)else none))else(bif decide (((s28:List ab)++([y34.fst]:List ab)).length<=274877906944)then(jj f a0 a1 a2 (IntKind.i64.wrap (s16+1)) (s28++[y34.fst]) y34.snd)else none))else(bif decide (((s28:List ab)++([y34.fst]:List ab)).length<=274877906944)then(jj f a0 a1 a2 (IntKind.i64.wrap (s16+1)) (s28++[y34.fst]) y34.snd)else none))))else(some (({Op:=23,ak:=a2,N:=0,Text:=[],At:=0,Kids:=s28:ab},s29))))else(some (({Op:=23,ak:=a2,N:=0,Text:=[],At:=0,Kids:=s28:ab},s29))))
abbrev nq (f:Fs):GX:=λa0 a1 a2 s47 s59 s60=>(bif decide (s47<(↑(ae.rows a1.Kids).length:Int))then(bif s60.Code==0 then((ax a1.Kids s47).bind λx63=>((f49 f a0 x63 az.z).bind λy65=>(bif y65.snd.Code==0 then(bif y65.fst.ak.aS !=3 then(bif y65.fst.ak.aS !=4 then((ax a1.Kids s47).bind λx69=>((f41 f 4 x69.At).bind λy71=>(bif decide (((s59:List ab)++([y65.fst]:List ab)).length<=274877906944)then(jk f a0 a1 a2 (IntKind.i64.wrap (s47+1)) (s59++[y65.fst]) y71)else none)))else(bif decide (((s59:List ab)++([y65.fst]:List ab)).length<=274877906944)then(jk f a0 a1 a2 (IntKind.i64.wrap (s47+1)) (s59++[y65.fst]) y65.snd)else none))else(bif decide (((s59:List ab)++([y65.fst]:List ab)).length<=274877906944)then(jk f a0 a1 a2 (IntKind.i64.wrap (s47+1)) (s59++[y65.fst]) y65.snd)else none))else(bif decide (((s59:List ab)++([y65.fst]:List ab)).length<=274877906944)then(jk f a0 a1 a2 (IntKind.i64.wrap (s47+1)) (s59++[y65.fst]) y65.snd)else none))))else(some (({Op:=23,ak:=a2,N:=0,Text:=[],At:=0,Kids:=s59:ab},s60))))else(some (({Op:=23,ak:=a2,N:=0,Text:=[],At:=0,Kids:=s59:ab},s60))))
abbrev nw (f:Fs):GY:=λa0 a1 a2 s79 s91 s92=>(bif decide (s79<(↑(ae.rows a1.Kids).length:Int))then(bif s92.Code==0 then((ax a1.Kids s79).bind λx95=>((f88 f 3).bind λy97=>((ax a2.aj.aB 0).bind λx98=>((f87 f x98).bind λy100=>((f163 f a0 x95.Kids ([y97,y100])).bind λy101=>(bif decide (((s91:List ab)++(y101.fst:List ab)).length<=274877906944)then(nr f a0 a1 a2 (IntKind.i64.wrap (s79+1)) (s91++y101.fst) y101.snd)else none))))))else(some (({Op:=24,ak:=a2,N:=0,Text:=[],At:=0,Kids:=s91:ab},s92))))else(some (({Op:=24,ak:=a2,N:=0,Text:=[],At:=0,Kids:=s91:ab},s92))))
abbrev pF (f:Fs):GZ:=λa0 a1 a2 s106 s118 s124 s125 s137 s138 s141=>(bif decide (s141<(↑(bn a2.aj.Names).length:Int))then((ax a2.aj.Names s141).bind λx143=>((ax a1.Kids s125).bind λx145=>(bif !x143==x145.Text then(mi f a0 a1 a2 s106 s118 s124 s125 s137 s138 (IntKind.i64.wrap (s141+1)))else(bif s141==(↑(bn a2.aj.Names).length:Int)then((ax a1.Kids s125).bind λx149=>((f41 f 3 x149.At).bind λy151=>(some (({Op:=25,ak:=a2,N:=0,Text:=[],At:=0,Kids:=s137:ab},y151)))))else((ax a1.Kids s125).bind λx152=>((f42 f s124 x152.Text).bind λy154=>(bif y154 then((ax a1.Kids s125).bind λx156=>((f41 f 3 x156.At).bind λy158=>(some (({Op:=25,ak:=a2,N:=0,Text:=[],At:=0,Kids:=s137:ab},y158)))))else((ax a1.Kids s125).bind λx159=>(bif decide (((s124:List (List UInt8))++([x159.Text]:List (List UInt8))).length<=274877906944)then((ax a1.Kids s125).bind λx162=>((ax x162.Kids 0).bind λx164=>((ax a2.aj.aB s141).bind λx166=>((f87 f x166).bind λy168=>((f49 f a0 x164 y168).bind λy169=>((ax s137 s141).bind λx170=>(kK f a0 a1 a2 s106 s118 (s124++[x159.Text]) (IntKind.i64.wrap (s125+1)) (s137.set s141.toNat y169.fst) y169.snd)))))))else none)))))))))else(bif s141==(↑(bn a2.aj.Names).length:Int)then((ax a1.Kids s125).bind λx173=>((f41 f 3 x173.At).bind λy175=>(some (({Op:=25,ak:=a2,N:=0,Text:=[],At:=0,Kids:=s137:ab},y175)))))else((ax a1.Kids s125).bind λx176=>((f42 f s124 x176.Text).bind λy178=>(bif y178 then((ax a1.Kids s125).bind λx180=>((f41 f 3 x180.At).bind λy182=>(some (({Op:=25,ak:=a2,N:=0,Text:=[],At:=0,Kids:=s137:ab},y182)))))else((ax a1.Kids s125).bind λx183=>(bif decide (((s124:List (List UInt8))++([x183.Text]:List (List UInt8))).length<=274877906944)then((ax a1.Kids s125).bind λx186=>((ax x186.Kids 0).bind λx188=>((ax a2.aj.aB s141).bind λx190=>((f87 f x190).bind λy192=>((f49 f a0 x188 y192).bind λy193=>((ax s137 s141).bind λx194=>(kK f a0 a1 a2 s106 s118 (s124++[x183.Text]) (IntKind.i64.wrap (s125+1)) (s137.set s141.toNat y193.fst) y193.snd)))))))else none)))))))
