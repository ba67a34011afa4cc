/- Printed by a program: what functions answer, and that they do. -/
import Derived.Test.YtnocmolegijmkaaGreatKG3
set_option linter.all false
set_option maxRecDepth 100000
noncomputable section
namespace Go.Proofs.YtnocmolegijmkaaGreat
open Go Go.Bw
abbrev we (f:Fs):Lx:=λa0 a1=>(qZ f a0 a1 0)
abbrev Cv (f:Fs):OE:=λa0 a1=>(bif !a0.Name==a1.Name then((f87 f (Op.bytesLess a0.Name a1.Name)).bind λy2=>(some y2))else((f136 f a0.a8 a1.a8).bind λy3=>(some y3)))
abbrev JO (f:Fs):Ws:=λa0 a1 s31=>(bif decide (s31<(↑(az.rows a0.Entries).length:Int))then(bif decide (s31<(↑(az.rows a1.Entries).length:Int))then((aq a0.Entries s31).bind λx34=>((aq a1.Entries s31).bind λx36=>((f89 f x34 x36).bind λy38=>(bif y38 !=0 then(some y38)else(JP f a0 a1 (IntKind.i64.wrap (s31+1)))))))else((f88 f ((↑(az.rows a0.Entries).length:Int)) ((↑(az.rows a1.Entries).length:Int))).bind λy40=>(some y40)))else((f88 f ((↑(az.rows a0.Entries).length:Int)) ((↑(az.rows a1.Entries).length:Int))).bind λy41=>(some y41)))
abbrev JQ (f:Fs):Wt:=λa0 a1 s44=>(bif decide (s44<(↑(az.rows a0.Entries).length:Int))then(bif decide (s44<(↑(az.rows a1.Entries).length:Int))then((aq a0.Entries s44).bind λx47=>((aq a1.Entries s44).bind λx49=>((f89 f x47 x49).bind λy51=>(bif y51 !=0 then(some y51)else(JR f a0 a1 (IntKind.i64.wrap (s44+1)))))))else((f88 f ((↑(az.rows a0.Entries).length:Int)) ((↑(az.rows a1.Entries).length:Int))).bind λy53=>(some y53)))else((f88 f ((↑(az.rows a0.Entries).length:Int)) ((↑(az.rows a1.Entries).length:Int))).bind λy54=>(some y54)))
abbrev JS (f:Fs):Wu:=λa0 a1 s19 s20=>(bif decide (s20<(↑(ah.rows a0.ak).length:Int))then(bif decide (s20<(↑(ah.rows a1.ak).length:Int))then((aq a0.ak s20).bind λx23=>((aq a1.ak s20).bind λx25=>((f42 f x23 x25).bind λy27=>(bif y27 !=0 then(some y27)else(JT f a0 a1 s19 (IntKind.i64.wrap (s20+1)))))))else(bif (↑(ah.rows a0.ak).length:Int) !=(↑(ah.rows a1.ak).length:Int)then((f88 f ((↑(ah.rows a0.ak).length:Int)) ((↑(ah.rows a1.ak).length:Int))).bind λy30=>(some y30))else(JP f a0 a1 0)))else(bif (↑(ah.rows a0.ak).length:Int) !=(↑(ah.rows a1.ak).length:Int)then((f88 f ((↑(ah.rows a0.ak).length:Int)) ((↑(ah.rows a1.ak).length:Int))).bind λy43=>(some y43))else(JR f a0 a1 0)))
abbrev JU (f:Fs):Wv:=λa0 a1 s69=>(bif decide (s69<(↑(az.rows a0.Entries).length:Int))then(bif decide (s69<(↑(az.rows a1.Entries).length:Int))then((aq a0.Entries s69).bind λx72=>((aq a1.Entries s69).bind λx74=>((f89 f x72 x74).bind λy76=>(bif y76 !=0 then(some y76)else(JV f a0 a1 (IntKind.i64.wrap (s69+1)))))))else((f88 f ((↑(az.rows a0.Entries).length:Int)) ((↑(az.rows a1.Entries).length:Int))).bind λy78=>(some y78)))else((f88 f ((↑(az.rows a0.Entries).length:Int)) ((↑(az.rows a1.Entries).length:Int))).bind λy79=>(some y79)))
abbrev u5 (f:Fs):Ww:=λa0 a1 s82=>(bif decide (s82<(↑(az.rows a0.Entries).length:Int))then(bif decide (s82<(↑(az.rows a1.Entries).length:Int))then((aq a0.Entries s82).bind λx85=>((aq a1.Entries s82).bind λx87=>((f89 f x85 x87).bind λy89=>(bif y89 !=0 then(some y89)else(pS f a0 a1 (IntKind.i64.wrap (s82+1)))))))else((f88 f ((↑(az.rows a0.Entries).length:Int)) ((↑(az.rows a1.Entries).length:Int))).bind λy91=>(some y91)))else((f88 f ((↑(az.rows a0.Entries).length:Int)) ((↑(az.rows a1.Entries).length:Int))).bind λy92=>(some y92)))
abbrev u6 (f:Fs):Wx:=λa0 a1 s57 s58=>(bif decide (s58<(↑(ah.rows a0.ak).length:Int))then(bif decide (s58<(↑(ah.rows a1.ak).length:Int))then((aq a0.ak s58).bind λx61=>((aq a1.ak s58).bind λx63=>((f42 f x61 x63).bind λy65=>(bif y65 !=0 then(some y65)else(pT f a0 a1 s57 (IntKind.i64.wrap (s58+1)))))))else(bif (↑(ah.rows a0.ak).length:Int) !=(↑(ah.rows a1.ak).length:Int)then((f88 f ((↑(ah.rows a0.ak).length:Int)) ((↑(ah.rows a1.ak).length:Int))).bind λy68=>(some y68))else(JV f a0 a1 0)))else(bif (↑(ah.rows a0.ak).length:Int) !=(↑(ah.rows a1.ak).length:Int)then((f88 f ((↑(ah.rows a0.ak).length:Int)) ((↑(ah.rows a1.ak).length:Int))).bind λy81=>(some y81))else(pS f a0 a1 0)))
abbrev u7 (f:Fs):Wy:=λa0 a1 s3 s4=>(bif decide (s4<(↑(aG a0.Names).length:Int))then(bif decide (s4<(↑(aG a1.Names).length:Int))then((aq a0.Names s4).bind λx7=>((aq a1.Names s4).bind λx9=>(bif !x7==x9 then((aq a0.Names s4).bind λx12=>((aq a1.Names s4).bind λx14=>((f87 f (Op.bytesLess x12 x14)).bind λy16=>(some y16))))else(ry f a0 a1 s3 (IntKind.i64.wrap (s4+1))))))else(bif (↑(aG a0.Names).length:Int) !=(↑(aG a1.Names).length:Int)then((f88 f ((↑(aG a0.Names).length:Int)) ((↑(aG a1.Names).length:Int))).bind λy18=>(some y18))else(JT f a0 a1 s3 0)))else(bif (↑(aG a0.Names).length:Int) !=(↑(aG a1.Names).length:Int)then((f88 f ((↑(aG a0.Names).length:Int)) ((↑(aG a1.Names).length:Int))).bind λy56=>(some y56))else(pT f a0 a1 s3 0)))
abbrev Cw (f:Fs):OF:=λa0 a1=>(bif a0.N !=a1.N then((f87 f (decide (a0.N<a1.N))).bind λy2=>(some y2))else(ry f a0 a1 0 0))
abbrev Cy (f:Fs):OG:=λa0 a1=>((f42 f a0 a1).bind λy1=>(some (y1==0)))
abbrev B6 (f:Fs):T6:=λa0 a1 a2 a3=>((f7 f).bind λy1=>(bif !y1 then(some false)else((f14 f a0 a1 a2 a3).bind λy3=>(bif !y3 then(some true)else((f20 f a1.Body).bind λy5=>(bif y5 then(some true)else((f15 f a0 a1 a2 a3).bind λy7=>((f16 f a0 a1 a2 a3).bind λy8=>(bif y7.snd==0 then(bif y8.snd==0 then((f17 f y7.fst y8.fst).bind λy11=>(some y11))else(some false))else(some false))))))))))
def GH (x:Us) (f:Fs):GS:=((((va f,CA f),(CB f,(vb f,vc f))),((CC f,CD f),(vJ f,(B8 f,BD f)))),(((wL f,BE f),(BF f,(vq f,C2 f))),((vt f,xi f),(BG f,(rn f,wK f)))))
def GI (x:Us) (f:Fs):GU:=((((BH f,vw f),(xj f,(E2 f,E4 f))),((pH f,sy f),(wM f,(sA f,wN f)))),(((pI f,sB f),(p4 f,(xg f,xh f))),((C0 f,sZ f),(tT f,(zG f,vp f)))))
def GJ (x:Us) (f:Fs):GV:=((((C1 f,CT f),(CU f,(CW f,vm f))),((vn f,vo f),(CX f,(GP f,GQ f)))),(((CZ f,Bu f),(sU f,(tE f,Bs f))),((BA f,BI f),(uP f,(wJ f,Bt f)))))
def OC (x:Us) (f:Fs):GW:=((((BJ f,By f),(Ar f,(Aq f,uQ f))),((uR f,Bz f),(Bx f,(E7 f,F' f)))),(((BB f,tc f),(yS f,(BC f,tf f))),((yV f,CY f),(CS f,(BK f,Bm f)))))
def OD (x:Us) (f:Fs):GX:=((((Ju f,Jv f),(uS f,(uT f,BL f))),((uN f,uO f),(Br f,(Bq f,Bp f)))),(((Bo f,BM f),(Bn f,(C3 f,C4 f))),((tG f,Ab f),(C5 f,(A7 f,uK f)))))
def GK (x:Us) (f:Fs):GY:=((((Bk f,uL f),(wI f,(uH f,wF f))),((A8 f,DN f),(yH f,(Ba f,Bc f)))),(((zt f,zw f),(uG f,(wE f,E' f))),((Fa f,A5 f),(CR f,(vl f,vk f)))))
def GL (x:Us) (f:Fs):GZ:=((((CO f,CP f),(Ax f,(xI f,tQ f))),((yy f,CF f),(u9 f,(Cz f,Co f)))),(((Ct f,zX f),(tz f,(u4 f,Cq f))),((GR f,C' f),(tI f,(Ac f,Da f)))))
def GM (x:Us) (f:Fs):G0:=((((Db f,vx f),(vy f,(oV f,vz f))),((xk f,B9 f),(AG f,(AH f,A6 f)))),(((Ay f,mL f),(Bj f,(Bi f,rE f))),((xf f,CI f),(Bd f,(AX f,xE f)))))
def GN (x:Us) (f:Fs):G1:=((((tD f,xV f),(CM f,(vh f,vi f))),((vj f,CN f),(CJ f,(AT f,nw f)))),(((Bh f,Bg f),(AY f,(Ly f,uz f))),((wB f,AZ f),(uA f,(A0 f,A2 f)))))
def GO (x:Us) (f:Fs):G2:=((((uC f,A1 f),(sY f,(sX f,yE f))),((A3 f,uB f),(wC f,(uF f,uE f)))),(((uD f,wD f),(AW f,(xC f,tC f))),((xU f,ux f),(uw f,(wA f,uq f)))))
def F7 (x:Us) (f:Fs):Ga:=((((uv f,AU f),(wu f,(um f,uo f))),((AS f,rF f),(CL f,(CK f,AI f)))),(((Bl f,AN f),(sT f,(tB f,uj f))),((AO f,A4 f),(AK f,(A9 f,DP f)))))
def F8 (x:Us) (f:Fs):Gb:=((((yK f,Bb f),(zh f,(wo f,uI f))),((Be f,Bf f),(AM f,(AL f,Fb f)))),(((AJ f,AD f),(ub f,(wg f,wh f))),((ug f,wj f),(mb f,(gO f,vZ f)))))
def F9 (x:Us) (f:Fs):Gc:=((((sr f,px f),(lP f,(q9 f,jK f))),((vY f,uf f),(wi f,(sw f,vd f)))),(((vg f,CH f),(sK f,(Cp f,Cs f))),((Cr f,OH f),(Cu f,(tZ f,we f)))))
def Lv (x:Us) (f:Fs):Gd:=((((Cv f,JO f),(JQ f,(JS f,JU f))),((u5 f,u6 f),(u7 f,(Cw f,Cy f)))),(((B6 f,BN),(wG,(wm,tR))),((P7,qf x),(sD x,(wO x,wP x)))))
def Lw (x:Us) (f:Fs):Ge:=(wQ x,wR x)
def Qf (x:Us) (f:Fs):Fs:=(((GH x f,(GI x f,GJ x f)),((OC x f,OD x f),(GK x f,GL x f))),(((GM x f,GN x f),(GO x f,F7 x f)),((F8 x f,F9 x f),(Lv x f,Lw x f))))
def Gf:Nat->Fs
 |0=>PF.bot
 |n+1=>Qf (Gu n) (Gf n)
def Pf:Fs:=PF.lm Gf
theorem Xf0 {f:Nat->Fs} {p} (h:PF.R f p):PF.R (λn=>GH (Gu n) (f n)) (GH Pu p):=by unfold GH xi wK;exact zP h
theorem Xf1 {f:Nat->Fs} {p} (h:PF.R f p):PF.R (λn=>GI (Gu n) (f n)) (GI Pu p):=by unfold GI xj sy sB tT;exact zP h
theorem Xf2 {f:Nat->Fs} {p} (h:PF.R f p):PF.R (λn=>GJ (Gu n) (f n)) (GJ Pu p):=by unfold GJ tE wJ;exact zP h
theorem Xf3 {f:Nat->Fs} {p} (h:PF.R f p):PF.R (λn=>OC (Gu n) (f n)) (OC Pu p):=zP h
theorem Xf4 {f:Nat->Fs} {p} (h:PF.R f p):PF.R (λn=>OD (Gu n) (f n)) (OD Pu p):=zP h
theorem Xf5 {f:Nat->Fs} {p} (h:PF.R f p):PF.R (λn=>GK (Gu n) (f n)) (GK Pu p):=by unfold GK wI wF wE;exact zP h
theorem Xf6 {f:Nat->Fs} {p} (h:PF.R f p):PF.R (λn=>GL (Gu n) (f n)) (GL Pu p):=by unfold GL tQ u4;exact zP h
theorem Xf7 {f:Nat->Fs} {p} (h:PF.R f p):PF.R (λn=>GM (Gu n) (f n)) (GM Pu p):=by unfold GM xk xf;exact zP h
theorem Xf8 {f:Nat->Fs} {p} (h:PF.R f p):PF.R (λn=>GN (Gu n) (f n)) (GN Pu p):=by unfold GN tD wB;exact zP h
theorem Xf9 {f:Nat->Fs} {p} (h:PF.R f p):PF.R (λn=>GO (Gu n) (f n)) (GO Pu p):=by unfold GO sX wC wD tC wA;exact zP h
theorem ajO {f:Nat->Fs} {p} (h:PF.R f p):PF.R (λn=>F7 (Gu n) (f n)) (F7 Pu p):=by unfold F7 tB;exact zP h
theorem ajP {f:Nat->Fs} {p} (h:PF.R f p):PF.R (λn=>F8 (Gu n) (f n)) (F8 Pu p):=by unfold F8 wo wg wj;exact zP h
theorem ajQ {f:Nat->Fs} {p} (h:PF.R f p):PF.R (λn=>F9 (Gu n) (f n)) (F9 Pu p):=by unfold F9 wi we;exact zP h
theorem ajR {f:Nat->Fs} {p} (h:PF.R f p):PF.R (λn=>Lv (Gu n) (f n)) (Lv Pu p):=(PF.pair (PF.pair (PF.pair (PF.pair (zM h) (zM h)) (PF.pair (zM h) (PF.pair (zM h) (zM h)))) (PF.pair (PF.pair (zM h) (zM h)) (PF.pair (zM h) (PF.pair (zM h) (zM h))))) (PF.pair (PF.pair (PF.pair (zM h) zC) (PF.pair zC (PF.pair zC zC))) (PF.pair (PF.pair zC (PF.K.k _ Xu.1)) (PF.pair (PF.K.k _ Xu.1) (PF.pair (PF.K.k _ Xu.1) (PF.K.k _ Xu.1))))))
theorem ajS {f:Nat->Fs} {p} (h:PF.R f p):PF.R (λn=>Lw (Gu n) (f n)) (Lw Pu p):=(PF.pair (PF.K.k _ Xu.1) (PF.K.k _ Xu.1))
set_option maxHeartbeats 0 in
theorem Xf:PF.Fix Gf (Qf Pu):=PF.fix (Φ:=λn=>Qf (Gu n)) (λf p h=>(PF.pair (PF.pair (PF.pair (Xf0 h) (PF.pair (Xf1 h) (Xf2 h))) (PF.pair (PF.pair (Xf3 h) (Xf4 h)) (PF.pair (Xf5 h) (Xf6 h)))) (PF.pair (PF.pair (PF.pair (Xf7 h) (Xf8 h)) (PF.pair (Xf9 h) (ajO h))) (PF.pair (PF.pair (ajP h) (ajQ h)) (PF.pair (ajR h) (ajS h)))))) rfl λ_=>rfl
theorem l6:PF.R (λn=>f6 (Gf n)) (f6 Pf):=PF.K.k _ Xf.1
theorem Df {β:Type} [PF β] (π:PF.K Fs β):π Pf=π (Qf Pu Pf):=congrArg π.f Xf.2
theorem V6 (a0 s3 s4):rA Pf a0 s3 s4=va Pf a0 s3 s4:=cF (Df _) _ _ _
theorem e48 (a0 a1):f48 Pf a0 a1=CA Pf a0 a1:=bq (Df _) _ _
theorem e23 (a0 a1):f23 Pf a0 a1=CB Pf a0 a1:=bq (Df _) _ _
theorem V7 (a0 s13 s14):pU Pf a0 s13 s14=vb Pf a0 s13 s14:=cF (Df _) _ _ _
theorem V8 (a0 s3 s4 s5):rB Pf a0 s3 s4 s5=vc Pf a0 s3 s4 s5:=eQ (Df _) _ _ _ _
theorem e49 (a0 a1):f49 Pf a0 a1=CC Pf a0 a1:=bq (Df _) _ _
theorem e24 (a0 a1):f24 Pf a0 a1=CD Pf a0 a1:=bq (Df _) _ _
theorem Xo (a2 s7):rW Pf a2 s7=vJ Pf a2 s7:=bq (Df _) _ _
theorem e8 (a0 a1 a2):f8 Pf a0 a1 a2=B8 Pf a0 a1 a2:=cF (Df _) _ _ _
theorem ajI (a0 a1):f160 Pf a0 a1=BD Pf a0 a1:=bq (Df _) _ _
theorem X1 (a0):f107 Pf a0=wL Pf a0:=cI (Df _) _
theorem ajK (a0):f109 Pf a0=BE Pf a0:=cI (Df _) _
theorem ajL (a0):f113 Pf a0=BF Pf a0:=cI (Df _) _
theorem Wm (a0 s9):Aa Pf a0 s9=vq Pf a0 s9:=bq (Df _) _ _
theorem e68 (a0):f68 Pf a0=C2 Pf a0:=cI (Df _) _
theorem Wn (a0 a1 s1):Fv Pf a0 a1 s1=vt Pf a0 a1 s1:=cF (Df _) _ _ _
theorem e93 (a0 a1):f93 Pf a0 a1=xi Pf a0 a1:=bq (Df _) _ _
theorem ajM (a0 a1):f148 Pf a0 a1=BG Pf a0 a1:=bq (Df _) _ _
theorem Jt (a0 s1):zH Pf a0 s1=rn Pf a0 s1:=bq (Df _) _ _
theorem ajJ (a0):f126 Pf a0=wK Pf a0:=cI (Df _) _
theorem ajN (a0 a1):f140 Pf a0 a1=BH Pf a0 a1:=bq (Df _) _ _
theorem Wo (a0 a1 s1):rM Pf a0 a1 s1=vw Pf a0 a1 s1:=cF (Df _) _ _ _
theorem e92 (a0 a1):f92 Pf a0 a1=xj Pf a0 a1:=bq (Df _) _ _
theorem UJ (a0 s16):E1 Pf a0 s16=E2 Pf a0 s16:=bq (Df _) _ _
theorem UK (a0 s27):E3 Pf a0 s27=E4 Pf a0 s27:=bq (Df _) _ _
theorem EZ (a0 s1 s2):mu Pf a0 s1 s2=pH Pf a0 s1 s2:=cF (Df _) _ _ _
theorem X0 (a0):f110 Pf a0=sy Pf a0:=cI (Df _) _
theorem X2 (a0):f111 Pf a0=wM Pf a0:=cI (Df _) _
theorem Lu (a0):f161 Pf a0=sA Pf a0:=cI (Df _) _
theorem X3 (a0):f112 Pf a0=wN Pf a0:=cI (Df _) _
theorem E0 (a0 s1):ny Pf a0 s1=pI Pf a0 s1:=bq (Df _) _ _
theorem X4 (a0):f108 Pf a0=sB Pf a0:=cI (Df _) _
theorem Fu (a1 a2 s11 s12):nE Pf a1 a2 s11 s12=p4 Pf a1 a2 s11 s12:=eQ (Df _) _ _ _ _
theorem Z7 (a0 a1 a2):f67 Pf a0 a1 a2=xg Pf a0 a1 a2:=cF (Df _) _ _ _
theorem Z8 (a0):f31 Pf a0=xh Pf a0:=cI (Df _) _
theorem e70 (a0 a1):f70 Pf a0 a1=C0 Pf a0 a1:=bq (Df _) _ _
theorem QB (a0 a1 s1):DM Pf a0 a1 s1=sZ Pf a0 a1 s1:=cF (Df _) _ _ _
theorem ad5 (a0 a1):EC Pf a0 a1=tT Pf a0 a1:=bq (Df _) _ _
theorem afz (a0 a1):EY Pf a0 a1=zG Pf a0 a1:=bq (Df _) _ _
theorem Wl (a0 s8):rL Pf a0 s8=vp Pf a0 s8:=bq (Df _) _ _
theorem e32 (a0):f32 Pf a0=C1 Pf a0:=cI (Df _) _
theorem e71 (a0 a1):f71 Pf a0 a1=CT Pf a0 a1:=bq (Df _) _ _
theorem e72 (a0):f72 Pf a0=CU Pf a0:=cI (Df _) _
theorem e73 (a0):f73 Pf a0=CW Pf a0:=cI (Df _) _
theorem Wi (a1 s9 y28 s31 s32):pZ Pf a1 s9 y28 s31 s32=vm Pf a1 s9 y28 s31 s32:=jt (Df _) _ _ _ _ _
theorem Wj (a1 s9 y28 s41 s42):mB Pf a1 s9 y28 s41 s42=vn Pf a1 s9 y28 s41 s42:=jt (Df _) _ _ _ _ _
theorem Wk (a0 a1 s3 s4 s9):rK Pf a0 a1 s3 s4 s9=vo Pf a0 a1 s3 s4 s9:=jt (Df _) _ _ _ _ _
theorem e33 (a0 a1):f33 Pf a0 a1=CX Pf a0 a1:=bq (Df _) _ _
theorem e79 (a0):f79 Pf a0=GP Pf a0:=cI (Df _) _
theorem e80 (a0):f80 Pf a0=GQ Pf a0:=cI (Df _) _
theorem e35 (a0 a1):f35 Pf a0 a1=CZ Pf a0 a1:=bq (Df _) _ _
theorem ajB (a0 a1):f162 Pf a0 a1=Bu Pf a0 a1:=bq (Df _) _ _
theorem Qi (a0 a1 s1):DH Pf a0 a1 s1=sU Pf a0 a1 s1:=cF (Df _) _ _ _
theorem acV (a0 a1):Eh Pf a0 a1=tE Pf a0 a1:=bq (Df _) _ _
theorem ajy (a0 a1):f119 Pf a0 a1=Bs Pf a0 a1:=bq (Df _) _ _
theorem ajE (a0):f118 Pf a0=BA Pf a0:=cI (Df _) _
theorem ajT (a0):f219 Pf a0=BI Pf a0:=cI (Df _) _
theorem UG (a0 a1 s1):E5 Pf a0 a1 s1=uP Pf a0 a1 s1:=cF (Df _) _ _ _
theorem ajz (a0 a1):f260 Pf a0 a1=wJ Pf a0 a1:=bq (Df _) _ _
theorem ajA (a0 a1):f221 Pf a0 a1=Bt Pf a0 a1:=bq (Df _) _ _
theorem ajU (a0 a1 a2):f220 Pf a0 a1 a2=BJ Pf a0 a1 a2:=cF (Df _) _ _ _
theorem FZ (a0):f129 Pf a0=By Pf a0:=cI (Df _) _
theorem ag9 (a0):Kh Pf a0=Ar Pf a0:=cI (Df _) _
theorem ag8 (a0):Ki Pf a0=Aq Pf a0:=cI (Df _) _
theorem UH (a0 y1 y16 s17 s22 s23):zB Pf a0 y1 y16 s17 s22 s23=uQ Pf a0 y1 y16 s17 s22 s23:=xa (Df _) _ _ _ _ _ _
theorem UI (a0 y1 y2 s3 s9):zE Pf a0 y1 y2 s3 s9=uR Pf a0 y1 y2 s3 s9:=jt (Df _) _ _ _ _ _
theorem ajD (a0):f117 Pf a0=Bz Pf a0:=cI (Df _) _
theorem ajC (a0):f262 Pf a0=Bx Pf a0:=cI (Df _) _
theorem afA (a0 a1 s2):E6 Pf a0 a1 s2=E7 Pf a0 a1 s2:=cF (Df _) _ _ _
theorem ajF (a0 a1):f168 Pf a0 a1=F' Pf a0 a1:=bq (Df _) _ _
theorem ajG (a0 a1):f170 Pf a0 a1=BB Pf a0 a1:=bq (Df _) _ _
theorem QC (a0 a1 s2):ta Pf a0 a1 s2=tc Pf a0 a1 s2:=cF (Df _) _ _ _
theorem ad6 (a0 a1):ED Pf a0 a1=yS Pf a0 a1:=bq (Df _) _ _
theorem ajH (a0 a1):f120 Pf a0 a1=BC Pf a0 a1:=bq (Df _) _ _
theorem QD (a0 a1 s2):te Pf a0 a1 s2=tf Pf a0 a1 s2:=cF (Df _) _ _ _
theorem ad7 (a0 a1):EF Pf a0 a1=yV Pf a0 a1:=bq (Df _) _ _
theorem e81 (a0 a1):f81 Pf a0 a1=CY Pf a0 a1:=bq (Df _) _ _
theorem e78 (a0 a1 a2):f78 Pf a0 a1 a2=CS Pf a0 a1 a2:=cF (Df _) _ _ _
theorem ajV (a0 a1 a2):f116 Pf a0 a1 a2=BK Pf a0 a1 a2:=cF (Df _) _ _ _
theorem ajs (a0 a1 a2 a3 a4 a5):f163 Pf a0 a1 a2 a3 a4 a5=Bm Pf a0 a1 a2 a3 a4 a5:=xa (Df _) _ _ _ _ _ _
theorem UL (a0 a1 a2 s159 s171):nz Pf a0 a1 a2 s159 s171=uS Pf a0 a1 a2 s159 s171:=jt (Df _) _ _ _ _ _
theorem UM (a0 a1 a2 s186 s198):pJ Pf a0 a1 a2 s186 s198=uT Pf a0 a1 a2 s186 s198:=jt (Df _) _ _ _ _ _
theorem ajW (a0 a1 a2):f164 Pf a0 a1 a2=BL Pf a0 a1 a2:=cF (Df _) _ _ _
theorem UE (a1 a2 s4 s26 s27):oy Pf a1 a2 s4 s26 s27=uN Pf a1 a2 s4 s26 s27:=jt (Df _) _ _ _ _ _
theorem UF (a0 a1 a2 s3 s4 s5):rl Pf a0 a1 a2 s3 s4 s5=uO Pf a0 a1 a2 s3 s4 s5:=xa (Df _) _ _ _ _ _ _
theorem ajx (a0 a1 a2):f223 Pf a0 a1 a2=Br Pf a0 a1 a2:=cF (Df _) _ _ _
theorem ajw (a0 a1):f224 Pf a0 a1=Bq Pf a0 a1:=bq (Df _) _ _
theorem ajv (a0 a1 a2 a3 a4 a5):f261 Pf a0 a1 a2 a3 a4 a5=Bp Pf a0 a1 a2 a3 a4 a5:=xa (Df _) _ _ _ _ _ _
theorem aju (a0 a1 a2 a3):f226 Pf a0 a1 a2 a3=Bo Pf a0 a1 a2 a3:=eQ (Df _) _ _ _ _
theorem ajX (a0 a1 a2):f165 Pf a0 a1 a2=BM Pf a0 a1 a2:=cF (Df _) _ _ _
theorem ajt (a0 a1 a2 a3 a4):f225 Pf a0 a1 a2 a3 a4=Bn Pf a0 a1 a2 a3 a4:=jt (Df _) _ _ _ _ _
theorem e34 (a0 a1 a2 a3):f34 Pf a0 a1 a2 a3=C3 Pf a0 a1 a2 a3:=eQ (Df _) _ _ _ _
theorem e36 (a0 a1):f36 Pf a0 a1=C4 Pf a0 a1:=bq (Df _) _ _
theorem R8 (a0 a1 s2):tF Pf a0 a1 s2=tG Pf a0 a1 s2:=cF (Df _) _ _ _
theorem agy (a0 a1):Fw Pf a0 a1=Ab Pf a0 a1:=bq (Df _) _ _
theorem e12 (a0 a1):f12 Pf a0 a1=C5 Pf a0 a1:=bq (Df _) _ _
theorem ai9 (a0 a1 a2 a3 a4):f121 Pf a0 a1 a2 a3 a4=A7 Pf a0 a1 a2 a3 a4:=jt (Df _) _ _ _ _ _
theorem Uz (a0 a1 s3):pF Pf a0 a1 s3=uK Pf a0 a1 s3:=cF (Df _) _ _ _
theorem ajp (a0 a1):f122 Pf a0 a1=Bk Pf a0 a1:=bq (Df _) _ _
theorem UA (a0 a1 s1):pG Pf a0 a1 s1=uL Pf a0 a1 s1:=cF (Df _) _ _ _
theorem ajq (a0 a1):f123 Pf a0 a1=wI Pf a0 a1:=bq (Df _) _ _
theorem Uu (a0 s1 s2):zx Pf a0 s1 s2=uH Pf a0 s1 s2:=cF (Df _) _ _ _
theorem aja (a0):f172 Pf a0=wF Pf a0:=cI (Df _) _
theorem ajb (a0 a1):f266 Pf a0 a1=A8 Pf a0 a1:=bq (Df _) _ _
theorem abk (s5 s6 s7):gq Pf s5 s6 s7=DN Pf s5 s6 s7:=cF (Df _) _ _ _
theorem adV (a0 a1):IM Pf a0 a1=yH Pf a0 a1:=bq (Df _) _ _
theorem ajd (a0 a1):f230 Pf a0 a1=Ba Pf a0 a1:=bq (Df _) _ _
theorem ajf (a0 a1):f174 Pf a0 a1=Bc Pf a0 a1:=bq (Df _) _ _
theorem afs (a0 s1 s2 x4 y7 y9 x12 y14 x16 s18 s19):E8 Pf a0 s1 s2 x4 y7 y9 x12 y14 x16 s18 s19=zt Pf a0 s1 s2 x4 y7 y9 x12 y14 x16 s18 s19:=aio (Df _) _ _ _ _ _ _ _ _ _ _ _
theorem aft (a0 s1 s2 x4 y7 y9 x26 s28 s29):E9 Pf a0 s1 s2 x4 y7 y9 x26 s28 s29=zw Pf a0 s1 s2 x4 y7 y9 x26 s28 s29:=Z0 (Df _) _ _ _ _ _ _ _ _ _
theorem Ut (a0 s1 s2):ox Pf a0 s1 s2=uG Pf a0 s1 s2:=cF (Df _) _ _ _
theorem ai' (a0):f124 Pf a0=wE Pf a0:=cI (Df _) _
theorem afq (a0 s4 s7):zm Pf a0 s4 s7=E' Pf a0 s4 s7:=cF (Df _) _ _ _
theorem afr (a0 s15 s18):zr Pf a0 s15 s18=Fa Pf a0 s15 s18:=cF (Df _) _ _ _
theorem ai7 (a0):f125 Pf a0=A5 Pf a0:=cI (Df _) _
theorem e94 (a0 a1):f94 Pf a0 a1=CR Pf a0 a1:=bq (Df _) _ _
theorem Wg (a0 a1 s43):pY Pf a0 a1 s43=vl Pf a0 a1 s43:=cF (Df _) _ _ _
theorem Wf (a0 a1 s59):pX Pf a0 a1 s59=vk Pf a0 a1 s59:=cF (Df _) _ _ _
theorem e83 (a0 a1):f83 Pf a0 a1=CO Pf a0 a1:=bq (Df _) _ _
theorem e37 (a0 a1):f37 Pf a0 a1=CP Pf a0 a1:=bq (Df _) _ _
theorem aiz (a0):f128 Pf a0=Ax Pf a0:=cI (Df _) _
theorem abf (a0 s1):xH Pf a0 s1=xI Pf a0 s1:=bq (Df _) _ _
theorem adI (a0):IN Pf a0=tQ Pf a0:=cI (Df _) _
theorem adH (a0):yx Pf a0=yy Pf a0:=cI (Df _) _
theorem e84 (a0 a1):f84 Pf a0 a1=CF Pf a0 a1:=bq (Df _) _ _
theorem V5 (a0 a1 s2):rz Pf a0 a1 s2=u9 Pf a0 a1 s2:=cF (Df _) _ _ _
theorem e38 (a0 a1):f38 Pf a0 a1=Cz Pf a0 a1:=bq (Df _) _ _
theorem e14 (a0 a1 a2 a3):f14 Pf a0 a1 a2 a3=Co Pf a0 a1 a2 a3:=eQ (Df _) _ _ _ _
theorem e20 (a0):f20 Pf a0=Ct Pf a0:=cI (Df _) _
theorem agn (a0):JM Pf a0=zX Pf a0:=cI (Df _) _
theorem RO (a0 s1):pg Pf a0 s1=tz Pf a0 s1:=bq (Df _) _ _
theorem ago (a0):JN Pf a0=u4 Pf a0:=cI (Df _) _
theorem e39 (a0 a1 a2 a3):f39 Pf a0 a1 a2 a3=Cq Pf a0 a1 a2 a3:=eQ (Df _) _ _ _ _
theorem e25 (a0):f25 Pf a0=GR Pf a0:=cI (Df _) _
theorem e50 (a0 a1):f50 Pf a0 a1=C' Pf a0 a1:=bq (Df _) _ _
theorem R9 (a0 a1 s2):tH Pf a0 a1 s2=tI Pf a0 a1 s2:=cF (Df _) _ _ _
theorem agz (a0 a1):Fx Pf a0 a1=Ac Pf a0 a1:=bq (Df _) _ _
theorem e51 (a0):f51 Pf a0=Da Pf a0:=cI (Df _) _
theorem e53 (a0):f53 Pf a0=Db Pf a0:=cI (Df _) _
theorem Wp (a0 a1 s32 s33 s34):p5 Pf a0 a1 s32 s33 s34=vx Pf a0 a1 s32 s33 s34:=jt (Df _) _ _ _ _ _
theorem Wq (a0 a1 s48 s49):nF Pf a0 a1 s48 s49=vy Pf a0 a1 s48 s49:=eQ (Df _) _ _ _ _
theorem Dc (a0 a1):f27 Pf a0 a1=oV Pf a0 a1:=bq (Df _) _ _
theorem Wr (a0 s1 s13):rN Pf a0 s1 s13=vz Pf a0 s1 s13:=cF (Df _) _ _ _
theorem e26 (a0):f26 Pf a0=xk Pf a0:=cI (Df _) _
theorem e9 (a0 a1):f9 Pf a0 a1=B9 Pf a0 a1:=bq (Df _) _ _
theorem aiE (a0):f176 Pf a0=AG Pf a0:=cI (Df _) _
theorem aiF (a0):f177 Pf a0=AH Pf a0:=cI (Df _) _
theorem ai8 (a0):f190 Pf a0=A6 Pf a0:=cI (Df _) _
theorem aiA (a0):f178 Pf a0=Ay Pf a0:=cI (Df _) _
theorem sq (a0 a1):f131 Pf a0 a1=mL Pf a0 a1:=bq (Df _) _ _
theorem ajm (a0 a1):f231 Pf a0 a1=Bj Pf a0 a1:=bq (Df _) _ _
theorem ajl (a0 a1):f180 Pf a0 a1=Bi Pf a0 a1:=bq (Df _) _ _
theorem JK (a0 a1 s1):Fy Pf a0 a1 s1=rE Pf a0 a1 s1:=cF (Df _) _ _ _
theorem e91 (a0 a1):f91 Pf a0 a1=xf Pf a0 a1:=bq (Df _) _ _
theorem e44 (a0 a1):f44 Pf a0 a1=CI Pf a0 a1:=bq (Df _) _ _
theorem ajg (a0 a1):f144 Pf a0 a1=Bd Pf a0 a1:=bq (Df _) _ _
theorem aiU (a0 a1):f143 Pf a0 a1=AX Pf a0 a1:=bq (Df _) _ _
theorem aa0 (a0 a1 s1):xD Pf a0 a1 s1=xE Pf a0 a1 s1:=cF (Df _) _ _ _
theorem acN (a0 a1):Ig Pf a0 a1=tD Pf a0 a1:=bq (Df _) _ _
theorem acM (a0 a1):Ih Pf a0 a1=xV Pf a0 a1:=bq (Df _) _ _
theorem e95 (a0 a1):f95 Pf a0 a1=CM Pf a0 a1:=bq (Df _) _ _
theorem Wc (a0 a1 a2 s9):rG Pf a0 a1 a2 s9=vh Pf a0 a1 a2 s9:=eQ (Df _) _ _ _ _
theorem Wd (a0 a1 a2 s24):rH Pf a0 a1 a2 s24=vi Pf a0 a1 a2 s24:=eQ (Df _) _ _ _ _
theorem We (a1 a2 s59):rI Pf a1 a2 s59=vj Pf a1 a2 s59:=cF (Df _) _ _ _
theorem e45 (a0 a1 a2):f45 Pf a0 a1 a2=CN Pf a0 a1 a2:=cF (Df _) _ _ _
theorem e19 (a0 a1 a2):f19 Pf a0 a1 a2=CJ Pf a0 a1 a2:=cF (Df _) _ _ _
theorem aiQ (a0):f137 Pf a0=AT Pf a0:=cI (Df _) _
theorem uJ (a2 a3 a4 s3 s4 s5):fV Pf a2 a3 a4 s3 s4 s5=nw Pf a2 a3 a4 s3 s4 s5:=xa (Df _) _ _ _ _ _ _
theorem ajk (a0 a1 a2 a3 a4):f237 Pf a0 a1 a2 a3 a4=Bh Pf a0 a1 a2 a3 a4:=jt (Df _) _ _ _ _ _
theorem ajj (a0 a1):f191 Pf a0 a1=Bg Pf a0 a1:=bq (Df _) _ _
theorem aiV (a0 a1):f204 Pf a0 a1=AY Pf a0 a1:=bq (Df _) _ _
theorem Uk (a0 a1 s1 s2):uy Pf a0 a1 s1 s2=uz Pf a0 a1 s1 s2:=eQ (Df _) _ _ _ _
theorem aiX (a0 a1):f150 Pf a0 a1=wB Pf a0 a1:=bq (Df _) _ _
theorem aiY (a0 a1):f278 Pf a0 a1=AZ Pf a0 a1:=bq (Df _) _ _
theorem Ul (a0 a1 s4 s5 s6):rf Pf a0 a1 s4 s5 s6=uA Pf a0 a1 s4 s5 s6:=jt (Df _) _ _ _ _ _
theorem aiZ (a0 a1):f239 Pf a0 a1=A0 Pf a0 a1:=bq (Df _) _ _
theorem ai2 (a0):f280 Pf a0=A2 Pf a0:=cI (Df _) _
theorem Un (a0 a1 s4):rh Pf a0 a1 s4=uC Pf a0 a1 s4:=cF (Df _) _ _ _
theorem ai1 (a0 a1):f295 Pf a0 a1=A1 Pf a0 a1:=bq (Df _) _ _
theorem QA (a0 a1 m1 s4 s5 s6 s7 s8):o7 Pf a0 a1 m1 s4 s5 s6 s7 s8=sY Pf a0 a1 m1 s4 s5 s6 s7 s8:=ap8 (Df _) _ _ _ _ _ _ _ _
theorem abh (a0 a1 m1 s4 s5 s6 s7):sW Pf a0 a1 m1 s4 s5 s6 s7=sX Pf a0 a1 m1 s4 s5 s6 s7:=ap7 (Df _) _ _ _ _ _ _ _
theorem adT (a0 a1):IP Pf a0 a1=yE Pf a0 a1:=bq (Df _) _ _
theorem ai4 (a0 a1):f241 Pf a0 a1=A3 Pf a0 a1:=bq (Df _) _ _
theorem Um (a0 a1 s1 s2):pE Pf a0 a1 s1 s2=uB Pf a0 a1 s1 s2:=eQ (Df _) _ _ _ _
theorem ai0 (a0 a1):f240 Pf a0 a1=wC Pf a0 a1:=bq (Df _) _ _
theorem Ur (a0 a1 a2 s1 s2 y8 s10 s11 s13 x15 y17 y19 s20 s21 s22):rk Pf a0 a1 a2 s1 s2 y8 s10 s11 s13 x15 y17 y19 s20 s21 s22=uF Pf a0 a1 a2 s1 s2 y8 s10 s11 s13 x15 y17 y19 s20 s21 s22:=aip (Df _) _ _ _ _ _ _ _ _ _ _ _ _ _ _ _
theorem Uq (a0 a1 a2 s1 s2 y8 s10 s11 s13):rj Pf a0 a1 a2 s1 s2 y8 s10 s11 s13=uE Pf a0 a1 a2 s1 s2 y8 s10 s11 s13:=Z0 (Df _) _ _ _ _ _ _ _ _ _
theorem Uo (a0 a1 a2 s1 s2):ri Pf a0 a1 a2 s1 s2=uD Pf a0 a1 a2 s1 s2:=jt (Df _) _ _ _ _ _
theorem ai3 (a0 a1 a2):f192 Pf a0 a1 a2=wD Pf a0 a1 a2:=cF (Df _) _ _ _
theorem aiT (a0 a1):f242 Pf a0 a1=AW Pf a0 a1:=bq (Df _) _ _
theorem aaZ (a0 a1 s1):xB Pf a0 a1 s1=xC Pf a0 a1 s1:=cF (Df _) _ _ _
theorem acL (a0 a1):Ii Pf a0 a1=tC Pf a0 a1:=bq (Df _) _ _
theorem acK (a0 a1):Ee Pf a0 a1=xU Pf a0 a1:=bq (Df _) _ _
theorem Uj (a0 a1 s9 s10):pD Pf a0 a1 s9 s10=ux Pf a0 a1 s9 s10:=eQ (Df _) _ _ _ _
theorem Ui (a0 a1 s1 s2):pC Pf a0 a1 s1 s2=uw Pf a0 a1 s1 s2:=eQ (Df _) _ _ _ _
theorem aiS (a0 a1):f193 Pf a0 a1=wA Pf a0 a1:=bq (Df _) _ _
theorem Ue (a0 a1 a2 y9 s10 s13):nr Pf a0 a1 a2 y9 s10 s13=uq Pf a0 a1 a2 y9 s10 s13:=xa (Df _) _ _ _ _ _ _
theorem Uf (a0 a1 a2 s37 s40):re Pf a0 a1 a2 s37 s40=uv Pf a0 a1 a2 s37 s40:=jt (Df _) _ _ _ _ _
theorem aiR (a0 a1 a2):f138 Pf a0 a1 a2=AU Pf a0 a1 a2:=cF (Df _) _ _ _
theorem XX (a0):f130 Pf a0=wu Pf a0:=cI (Df _) _
theorem Uc (a0 y1 s12 s15 s16):pB Pf a0 y1 s12 s15 s16=um Pf a0 y1 s12 s15 s16:=jt (Df _) _ _ _ _ _
theorem Ud (a0 y1 s2 s5):ra Pf a0 y1 s2 s5=uo Pf a0 y1 s2 s5:=eQ (Df _) _ _ _ _
theorem aiP (a0):f139 Pf a0=AS Pf a0:=cI (Df _) _
theorem JL (a0 a1 s4 s5):Fz Pf a0 a1 s4 s5=rF Pf a0 a1 s4 s5:=eQ (Df _) _ _ _ _
theorem e90 (a0 a1):f90 Pf a0 a1=CL Pf a0 a1:=bq (Df _) _ _
theorem e43 (a0 a1 a2):f43 Pf a0 a1 a2=CK Pf a0 a1 a2:=cF (Df _) _ _ _
theorem aiG (a0):f181 Pf a0=AI Pf a0:=cI (Df _) _
theorem ajr (a0 a1):f184 Pf a0 a1=Bl Pf a0 a1:=bq (Df _) _ _
theorem aiN (a0 a1):f269 Pf a0 a1=AN Pf a0 a1:=bq (Df _) _ _
theorem Qh (a0 a1 s1):qH Pf a0 a1 s1=sT Pf a0 a1 s1:=cF (Df _) _ _ _
theorem acJ (a0 a1):Ed Pf a0 a1=tB Pf a0 a1:=bq (Df _) _ _
theorem Ub (a0 s4 s5 s6):pA Pf a0 s4 s5 s6=uj Pf a0 s4 s5 s6:=eQ (Df _) _ _ _ _
theorem aiO (a0 a1):f233 Pf a0 a1=AO Pf a0 a1:=bq (Df _) _ _
theorem ai5 (a0 a1):f151 Pf a0 a1=A4 Pf a0 a1:=bq (Df _) _ _
theorem aiK:f270 Pf=AK Pf:=Df _
theorem ajc (a0 a1):f274 Pf a0 a1=A9 Pf a0 a1:=bq (Df _) _ _
theorem abl (s5 s6 s7):gr Pf s5 s6 s7=DP Pf s5 s6 s7:=cF (Df _) _ _ _
theorem adW (a0 a1):IQ Pf a0 a1=yK Pf a0 a1:=bq (Df _) _ _
theorem aje (a0 a1):f235 Pf a0 a1=Bb Pf a0 a1:=bq (Df _) _ _
theorem afi (a0 s1 s2):zf Pf a0 s1 s2=zh Pf a0 s1 s2:=cF (Df _) _ _ _
theorem aiI (a0):f272 Pf a0=wo Pf a0:=cI (Df _) _
theorem Uv (a0 a1 s3):zy Pf a0 a1 s3=uI Pf a0 a1 s3:=cF (Df _) _ _ _
theorem ajh (a0 a1):f284 Pf a0 a1=Be Pf a0 a1:=bq (Df _) _ _
theorem aji (a0 a1):f271 Pf a0 a1=Bf Pf a0 a1:=bq (Df _) _ _
theorem aiM (a0 a1):f273 Pf a0 a1=AM Pf a0 a1:=bq (Df _) _ _
theorem aiL (a0 a1 a2):f234 Pf a0 a1 a2=AL Pf a0 a1 a2:=cF (Df _) _ _ _
theorem afj (a0 a2 s3 s4):ui Pf a0 a2 s3 s4=Fb Pf a0 a2 s3 s4:=eQ (Df _) _ _ _ _
theorem aiJ (a0 a1 a2):f185 Pf a0 a1 a2=AJ Pf a0 a1 a2:=cF (Df _) _ _ _
theorem aiC (a0):f186 Pf a0=AD Pf a0:=cI (Df _) _
theorem T3 (a0 s1 s2):q8 Pf a0 s1 s2=ub Pf a0 s1 s2:=cF (Df _) _ _ _
theorem aiB (a0):f187 Pf a0=wg Pf a0:=cI (Df _) _
theorem XV (a0):f188 Pf a0=wh Pf a0:=cI (Df _) _
theorem T' (a0 s1 s2 s3):pz Pf a0 s1 s2 s3=ug Pf a0 s1 s2 s3:=eQ (Df _) _ _ _ _
theorem aiH (a0):f189 Pf a0=wj Pf a0:=cI (Df _) _
theorem qz (a0 a1):f86 Pf a0 a1=mb Pf a0 a1:=bq (Df _) _ _
theorem jL (a0 a1):f132 Pf a0 a1=gO Pf a0 a1:=bq (Df _) _ _
theorem XU (a0 a1 a2):f179 Pf a0 a1 a2=vZ Pf a0 a1 a2:=cF (Df _) _ _ _
theorem Lr (a0 a1):f133 Pf a0 a1=sr Pf a0 a1:=bq (Df _) _ _
theorem ES (a0 a1 s9 s10):kX Pf a0 a1 s9 s10=px Pf a0 a1 s9 s10:=eQ (Df _) _ _ _ _
theorem py (a0 a1 s22 s25):ky Pf a0 a1 s22 s25=lP Pf a0 a1 s22 s25:=eQ (Df _) _ _ _ _
theorem Jn (a0 a1 s31 s34):ua Pf a0 a1 s31 s34=q9 Pf a0 a1 s31 s34:=eQ (Df _) _ _ _ _
theorem lZ (a0 a1):f134 Pf a0 a1=jK Pf a0 a1:=bq (Df _) _ _
theorem XT (a0 a1 a2):f182 Pf a0 a1 a2=vY Pf a0 a1 a2:=cF (Df _) _ _ _
theorem T5 (a0 a1 s1 s2):nk Pf a0 a1 s1 s2=uf Pf a0 a1 s1 s2:=eQ (Df _) _ _ _ _
theorem aiD (a0 a1):f183 Pf a0 a1=wi Pf a0 a1:=bq (Df _) _ _
theorem Ls (a0 a1):f135 Pf a0 a1=sw Pf a0 a1:=bq (Df _) _ _
theorem V' (a0 y1 s12 s15 s16):pW Pf a0 y1 s12 s15 s16=vd Pf a0 y1 s12 s15 s16:=jt (Df _) _ _ _ _ _
theorem Wa (a0 y1 s2 s5):rD Pf a0 y1 s2 s5=vg Pf a0 y1 s2 s5:=eQ (Df _) _ _ _ _
theorem e85 (a0):f85 Pf a0=CH Pf a0:=cI (Df _) _
theorem OB (a0 a1 a2):f40 Pf a0 a1 a2=sK Pf a0 a1 a2:=cF (Df _) _ _ _
theorem e15 (a0 a1 a2 a3):f15 Pf a0 a1 a2 a3=Cp Pf a0 a1 a2 a3:=eQ (Df _) _ _ _ _
theorem e41 (a0 a1 a2 a3 a4):f41 Pf a0 a1 a2 a3 a4=Cs Pf a0 a1 a2 a3 a4:=jt (Df _) _ _ _ _ _
theorem e16 (a0 a1 a2 a3):f16 Pf a0 a1 a2 a3=Cr Pf a0 a1 a2 a3:=eQ (Df _) _ _ _ _
theorem e88 (a0 a1):f88 Pf a0 a1=Cu Pf a0 a1:=bq (Df _) _ _
theorem T1 (a0 a1 s1):qZ Pf a0 a1 s1=tZ Pf a0 a1 s1:=cF (Df _) _ _ _
theorem aiy (a0 a1):f136 Pf a0 a1=we Pf a0 a1:=bq (Df _) _ _
theorem e89 (a0 a1):f89 Pf a0 a1=Cv Pf a0 a1:=bq (Df _) _ _
theorem V2 (a0 a1 s82):pS Pf a0 a1 s82=u5 Pf a0 a1 s82:=cF (Df _) _ _ _
theorem V3 (a0 a1 s57 s58):pT Pf a0 a1 s57 s58=u6 Pf a0 a1 s57 s58:=eQ (Df _) _ _ _ _
theorem V4 (a0 a1 s3 s4):ry Pf a0 a1 s3 s4=u7 Pf a0 a1 s3 s4:=eQ (Df _) _ _ _ _
theorem e42 (a0 a1):f42 Pf a0 a1=Cw Pf a0 a1:=bq (Df _) _ _
theorem e17 (a0 a1):f17 Pf a0 a1=Cy Pf a0 a1:=bq (Df _) _ _
theorem e6 (a0 a1 a2 a3):f6 Pf a0 a1 a2 a3=B6 Pf a0 a1 a2 a3:=eQ (Df _) _ _ _ _
theorem F1:f232 Pf=wG:=Df _
theorem XW:f236 Pf=wm:=Df _
theorem S2:IS Pf=tR:=Df _
theorem x7:f7 Pf=P7:=Df _
theorem ag6:Kj Pf=qf Pu:=Df _
theorem ai6:f141 Pf=sD Pu:=Df _
theorem XY:f173 Pf=wO Pu:=Df _
theorem ajn:f196 Pf=wP Pu:=Df _
theorem aiW:f247 Pf=wQ Pu:=Df _
theorem ajo:f264 Pf=wR Pu:=Df _
