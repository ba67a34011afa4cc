/- Printed by a program: what functions answer, and that they do. -/
import Derived.Test.YtnocmolegijmkaaGreatKG3
set_option linter.all false
set_option maxRecDepth 100000
noncomputable section
namespace Go.Proofs.YtnocmolegijmkaaGreat
open Go Go.Bw
abbrev wM (f:Fs):K3:=λa0 a1=>(rF f a0 a1 0)
abbrev CC (f:Fs):No:=λa0 a1=>(bif !a0.Name==a1.Name then((f87 f (Op.bytesLess a0.Name a1.Name)).bind λy2=>(some y2))else((f136 f a0.a8 a1.a8).bind λy3=>(some y3)))
abbrev Kb (f:Fs):Vn:=λa0 a1 s31=>(bif decide (s31<(↑(az.rows a0.Entries).length:Int))then(bif decide (s31<(↑(az.rows a1.Entries).length:Int))then((aj a0.Entries s31).bind λx34=>((aj a1.Entries s31).bind λx36=>((f89 f x34 x36).bind λy38=>(bif y38 !=0 then(some y38)else(Kc f a0 a1 (IntKind.i64.wrap (s31+1)))))))else((f88 f ((↑(az.rows a0.Entries).length:Int)) ((↑(az.rows a1.Entries).length:Int))).bind λy40=>(some y40)))else((f88 f ((↑(az.rows a0.Entries).length:Int)) ((↑(az.rows a1.Entries).length:Int))).bind λy41=>(some y41)))
abbrev Kd (f:Fs):Vo:=λa0 a1 s44=>(bif decide (s44<(↑(az.rows a0.Entries).length:Int))then(bif decide (s44<(↑(az.rows a1.Entries).length:Int))then((aj a0.Entries s44).bind λx47=>((aj a1.Entries s44).bind λx49=>((f89 f x47 x49).bind λy51=>(bif y51 !=0 then(some y51)else(Ke f a0 a1 (IntKind.i64.wrap (s44+1)))))))else((f88 f ((↑(az.rows a0.Entries).length:Int)) ((↑(az.rows a1.Entries).length:Int))).bind λy53=>(some y53)))else((f88 f ((↑(az.rows a0.Entries).length:Int)) ((↑(az.rows a1.Entries).length:Int))).bind λy54=>(some y54)))
abbrev Kg (f:Fs):Vp:=λa0 a1 s19 s20=>(bif decide (s20<(↑(af.rows a0.ai).length:Int))then(bif decide (s20<(↑(af.rows a1.ai).length:Int))then((aj a0.ai s20).bind λx23=>((aj a1.ai s20).bind λx25=>((f42 f x23 x25).bind λy27=>(bif y27 !=0 then(some y27)else(Kh f a0 a1 s19 (IntKind.i64.wrap (s20+1)))))))else(bif (↑(af.rows a0.ai).length:Int) !=(↑(af.rows a1.ai).length:Int)then((f88 f ((↑(af.rows a0.ai).length:Int)) ((↑(af.rows a1.ai).length:Int))).bind λy30=>(some y30))else(Kc f a0 a1 0)))else(bif (↑(af.rows a0.ai).length:Int) !=(↑(af.rows a1.ai).length:Int)then((f88 f ((↑(af.rows a0.ai).length:Int)) ((↑(af.rows a1.ai).length:Int))).bind λy43=>(some y43))else(Ke f a0 a1 0)))
abbrev Ki (f:Fs):Vq:=λa0 a1 s69=>(bif decide (s69<(↑(az.rows a0.Entries).length:Int))then(bif decide (s69<(↑(az.rows a1.Entries).length:Int))then((aj a0.Entries s69).bind λx72=>((aj a1.Entries s69).bind λx74=>((f89 f x72 x74).bind λy76=>(bif y76 !=0 then(some y76)else(Kj f a0 a1 (IntKind.i64.wrap (s69+1)))))))else((f88 f ((↑(az.rows a0.Entries).length:Int)) ((↑(az.rows a1.Entries).length:Int))).bind λy78=>(some y78)))else((f88 f ((↑(az.rows a0.Entries).length:Int)) ((↑(az.rows a1.Entries).length:Int))).bind λy79=>(some y79)))
abbrev vz (f:Fs):Vr:=λa0 a1 s82=>(bif decide (s82<(↑(az.rows a0.Entries).length:Int))then(bif decide (s82<(↑(az.rows a1.Entries).length:Int))then((aj a0.Entries s82).bind λx85=>((aj a1.Entries s82).bind λx87=>((f89 f x85 x87).bind λy89=>(bif y89 !=0 then(some y89)else(qh f a0 a1 (IntKind.i64.wrap (s82+1)))))))else((f88 f ((↑(az.rows a0.Entries).length:Int)) ((↑(az.rows a1.Entries).length:Int))).bind λy91=>(some y91)))else((f88 f ((↑(az.rows a0.Entries).length:Int)) ((↑(az.rows a1.Entries).length:Int))).bind λy92=>(some y92)))
abbrev vA (f:Fs):Vs:=λa0 a1 s57 s58=>(bif decide (s58<(↑(af.rows a0.ai).length:Int))then(bif decide (s58<(↑(af.rows a1.ai).length:Int))then((aj a0.ai s58).bind λx61=>((aj a1.ai s58).bind λx63=>((f42 f x61 x63).bind λy65=>(bif y65 !=0 then(some y65)else(qk f a0 a1 s57 (IntKind.i64.wrap (s58+1)))))))else(bif (↑(af.rows a0.ai).length:Int) !=(↑(af.rows a1.ai).length:Int)then((f88 f ((↑(af.rows a0.ai).length:Int)) ((↑(af.rows a1.ai).length:Int))).bind λy68=>(some y68))else(Kj f a0 a1 0)))else(bif (↑(af.rows a0.ai).length:Int) !=(↑(af.rows a1.ai).length:Int)then((f88 f ((↑(af.rows a0.ai).length:Int)) ((↑(af.rows a1.ai).length:Int))).bind λy81=>(some y81))else(qh f a0 a1 0)))
abbrev vB (f:Fs):Vt:=λa0 a1 s3 s4=>(bif decide (s4<(↑(aG a0.Names).length:Int))then(bif decide (s4<(↑(aG a1.Names).length:Int))then((aj a0.Names s4).bind λx7=>((aj a1.Names s4).bind λx9=>(bif !x7==x9 then((aj a0.Names s4).bind λx12=>((aj a1.Names s4).bind λx14=>((f87 f (Op.bytesLess x12 x14)).bind λy16=>(some y16))))else(rV f a0 a1 s3 (IntKind.i64.wrap (s4+1))))))else(bif (↑(aG a0.Names).length:Int) !=(↑(aG a1.Names).length:Int)then((f88 f ((↑(aG a0.Names).length:Int)) ((↑(aG a1.Names).length:Int))).bind λy18=>(some y18))else(Kh f a0 a1 s3 0)))else(bif (↑(aG a0.Names).length:Int) !=(↑(aG a1.Names).length:Int)then((f88 f ((↑(aG a0.Names).length:Int)) ((↑(aG a1.Names).length:Int))).bind λy56=>(some y56))else(qk f a0 a1 s3 0)))
abbrev CD (f:Fs):Np:=λa0 a1=>(bif a0.N !=a1.N then((f87 f (decide (a0.N<a1.N))).bind λy2=>(some y2))else(rV f a0 a1 0 0))
abbrev CF (f:Fs):Nq:=λa0 a1=>((f42 f a0 a1).bind λy1=>(some (y1==0)))
abbrev B5 (f:Fs):T5:=λa0 a1 a2 a3=>((f7 f).bind λy1=>(bif !y1 then(some false)else((f14 f a0 a1 a2 a3).bind λy3=>(bif !y3 then(some true)else((f15 f a0 a1 a2 a3).bind λy5=>((f16 f a0 a1 a2 a3).bind λy6=>(bif y5.snd==0 then(bif y6.snd==0 then((f18 f a0 a2 y5.fst).bind λy9=>((f18 f a0 a2 y6.fst).bind λy10=>((f17 f y9 y10).bind λy11=>(bif y11 then((f19 f a0 y5.fst y6.fst).bind λy13=>(some y13))else(some false)))))else(some false))else(some false))))))))
def GS (x:Us) (f:Fs):G4:=((((vD f,CH f),(CI f,(vE f,vF f))),((CJ f,CK f),(wC f,(B8 f,BW f)))),(((xb f,BX f),(BY f,(vS f,Db f))),((vT f,xD f),(BZ f,(rR f,xa f)))))
def GU (x:Us) (f:Fs):G5:=((((B0 f,vU f),(xE f,(Fc f,Ff f))),((p8 f,sV f),(xc f,(sW f,xd f)))),(((p9 f,sX f),(qv f,(xB f,xC f))),((C' f,tK f),(uz f,(Ad f,vR f)))))
def GV (x:Us) (f:Fs):G6:=((((Da f,C0 f),(C1 f,(C2 f,vO f))),((vP f,vQ f),(C3 f,(G1 f,G2 f)))),(((C6 f,BM f),(tE f,(uf f,BK f))),((BS f,B1 f),(vi f,(w7 f,BL f)))))
def Nl (x:Us) (f:Fs):G7:=((((B2 f,BP f),(AN f,(AM f,vj f))),((vk f,BR f),(BO f,(Fi f,Gp f)))),(((BT f,tN f),(zH f,(BU f,tP f))),((zI f,C4 f),(CZ f,(B3 f,BE f)))))
def Nn (x:Us) (f:Fs):G8:=((((JU f,JV f),(vl f,(vm f,B4 f))),((vg f,vh f),(BJ f,(BI f,BH f)))),(((BG f,B6 f),(BF f,(Dc f,Dd f))),((uh f,Ax f),(De f,(Bo f,u9 f)))))
def GW (x:Us) (f:Fs):G9:=((((BC f,vb f),(w6 f,(u5 f,wY f))),((Bp f,D1 f),(zy f,(Br f,Bt f)))),(((zZ f,z6 f),(u4 f,(wX f,Fl f))),((Fm f,Bm f),(CY f,(vM f,vL f)))))
def GX (x:Us) (f:Fs):G':=((((CW f,CX f),(AX f,(yh f,ux f))),((zj f,CL f),(vC f,(CG f,Dg f)))),(((Dh f,G3 f),(Di f,(uj f,Ay f))),((Dj f,Dk f),(vV f,(vW f,pz f)))))
def GY (x:Us) (f:Fs):Ha:=((((vX f,xF f),(B9 f,(A1 f,A2 f))),((Bn f,AY f),(mr f,(BB f,BA f)))),(((r6 f,xA f),(CO f,(Bu f,Be f))),((xY f,ue f),(yS f,(CT f,vI f)))))
def GZ (x:Us) (f:Fs):Hb:=((((vJ f,vK f),(CU f,(CP f,Bb f))),((nU f,Bz f),(By f,(Bf f,K4 f)))),(((uU f,wU f),(Bg f,(uV f,Bh f))),((Bj f,uX f),(Bi f,(tJ f,tI f)))))
def G0 (x:Us) (f:Fs):Hc:=((((zw f,Bk f),(uW f,(wV f,u0 f))),((uZ f,uY f),(wW f,(Bd f,xW f)))),(((uc f,yR f),(uS f,(uR f,wT f))),((uP f,uQ f),(Bc f,(wS f,uN f)))))
def Gk (x:Us) (f:Fs):Gq:=((((uO f,Ba f),(r7 f,(CS f,CR f))),((A3 f,BD f),(A8 f,(tD f,ub f)))),(((uL f,A9 f),(Bl f,(A5 f,Bq f))),((D2 f,zA f),(Bs f,(zU f,wR f)))))
def Gm (x:Us) (f:Fs):Gr:=((((u6 f,Bv f),(Bx f,(A7 f,A6 f))),((Fo f,A4 f),(A0 f,(uG f,wN f)))),(((wO f,uI f),(wP f,(jL f,gv f))),((qJ f,nh f),(mN f,(mO f,nS f)))))
def Gn (x:Us) (f:Fs):Gs:=((((kb f,qK f),(oS f,(qM f,pf f))),((vG f,vH f),(CN f,(Cz f,Dm f)))),(((Dn f,Dp f),(CA f,(Nr f,CB f))),((uF f,wM f),(CC f,(Kb f,Kd f)))))
def K2 (x:Us) (f:Fs):Gt:=((((Kg f,Ki f),(vz f,vA f)),((vB f,CD f),(CF f,(B5 f,B7)))),(((wZ,wQ),(uy,(P7,qE x))),((sZ x,xe x),(xf x,(xg x,xh x)))))
def Qf (x:Us) (f:Fs):Fs:=(((GS x f,(GU x f,GV x f)),((Nl x f,Nn x f),(GW x f,GX x f))),((GY x f,(GZ x f,G0 x f)),((Gk x f,Gm x f),(Gn x f,K2 x f))))
def Gf:Nat->Fs
 |0=>PF.bot
 |n+1=>Qf (Gu n) (Gf n)
def Pf:Fs:=PF.lm Gf
theorem Xf0 {f:Nat->Fs} {p} (h:PF.R f p):PF.R (λn=>GS (Gu n) (f n)) (GS Pu p):=by unfold GS xD xa;exact zP h
theorem Xf1 {f:Nat->Fs} {p} (h:PF.R f p):PF.R (λn=>GU (Gu n) (f n)) (GU Pu p):=by unfold GU xE sV sX uz;exact zP h
theorem Xf2 {f:Nat->Fs} {p} (h:PF.R f p):PF.R (λn=>GV (Gu n) (f n)) (GV Pu p):=by unfold GV uf w7;exact zP h
theorem Xf3 {f:Nat->Fs} {p} (h:PF.R f p):PF.R (λn=>Nl (Gu n) (f n)) (Nl Pu p):=zP h
theorem Xf4 {f:Nat->Fs} {p} (h:PF.R f p):PF.R (λn=>Nn (Gu n) (f n)) (Nn Pu p):=zP h
theorem Xf5 {f:Nat->Fs} {p} (h:PF.R f p):PF.R (λn=>GW (Gu n) (f n)) (GW Pu p):=by unfold GW w6 wY wX;exact zP h
theorem Xf6 {f:Nat->Fs} {p} (h:PF.R f p):PF.R (λn=>GX (Gu n) (f n)) (GX Pu p):=by unfold GX ux;exact zP h
theorem Xf7 {f:Nat->Fs} {p} (h:PF.R f p):PF.R (λn=>GY (Gu n) (f n)) (GY Pu p):=by unfold GY xF xA ue;exact zP h
theorem Xf8 {f:Nat->Fs} {p} (h:PF.R f p):PF.R (λn=>GZ (Gu n) (f n)) (GZ Pu p):=by unfold GZ wU tI;exact zP h
theorem Xf9 {f:Nat->Fs} {p} (h:PF.R f p):PF.R (λn=>G0 (Gu n) (f n)) (G0 Pu p):=by unfold G0 wV wW uc wT;exact zP h
theorem ajM {f:Nat->Fs} {p} (h:PF.R f p):PF.R (λn=>Gk (Gu n) (f n)) (Gk Pu p):=by unfold Gk ub wR;exact zP h
theorem ajN {f:Nat->Fs} {p} (h:PF.R f p):PF.R (λn=>Gm (Gu n) (f n)) (Gm Pu p):=by unfold Gm wN wP;exact zP h
theorem ajO {f:Nat->Fs} {p} (h:PF.R f p):PF.R (λn=>Gn (Gu n) (f n)) (Gn Pu p):=by unfold Gn qM wM;exact zP h
theorem ajP {f:Nat->Fs} {p} (h:PF.R f p):PF.R (λn=>K2 (Gu n) (f n)) (K2 Pu p):=(PF.pair (PF.pair (PF.pair (PF.pair (zM h) (zM h)) (PF.pair (zM h) (zM h))) (PF.pair (PF.pair (zM h) (zM h)) (PF.pair (zM h) (PF.pair (zM h) zC)))) (PF.pair (PF.pair (PF.pair zC zC) (PF.pair zC (PF.pair zC (PF.K.k _ Xu.1)))) (PF.pair (PF.pair (PF.K.k _ Xu.1) (PF.K.k _ Xu.1)) (PF.pair (PF.K.k _ Xu.1) (PF.pair (PF.K.k _ Xu.1) (PF.K.k _ Xu.1))))))
set_option maxHeartbeats 0 in
theorem Xf:PF.Fix Gf (Qf Pu):=PF.fix (Φ:=λn=>Qf (Gu n)) (λf p h=>(PF.pair (PF.pair (PF.pair (Xf0 h) (PF.pair (Xf1 h) (Xf2 h))) (PF.pair (PF.pair (Xf3 h) (Xf4 h)) (PF.pair (Xf5 h) (Xf6 h)))) (PF.pair (PF.pair (Xf7 h) (PF.pair (Xf8 h) (Xf9 h))) (PF.pair (PF.pair (ajM h) (ajN h)) (PF.pair (ajO h) (ajP h)))))) rfl λ_=>rfl
theorem l5:PF.R (λn=>f5 (Gf n)) (f5 Pf):=PF.K.k _ Xf.1
theorem Df {β:Type} [PF β] (π:PF.K Fs β):π Pf=π (Qf Pu Pf):=congrArg π.f Xf.2
theorem U1 (a0 s3 s4):rX Pf a0 s3 s4=vD Pf a0 s3 s4:=cK (Df _) _ _ _
theorem e48 (a0 a1):f48 Pf a0 a1=CH Pf a0 a1:=bB (Df _) _ _
theorem e23 (a0 a1):f23 Pf a0 a1=CI Pf a0 a1:=bB (Df _) _ _
theorem U2 (a0 s13 s14):ql Pf a0 s13 s14=vE Pf a0 s13 s14:=cK (Df _) _ _ _
theorem U3 (a0 s3 s4 s5):rY Pf a0 s3 s4 s5=vF Pf a0 s3 s4 s5:=eY (Df _) _ _ _ _
theorem e49 (a0 a1):f49 Pf a0 a1=CJ Pf a0 a1:=bB (Df _) _ _
theorem e24 (a0 a1):f24 Pf a0 a1=CK Pf a0 a1:=bB (Df _) _ _
theorem Wh (a2 s7):sC Pf a2 s7=wC Pf a2 s7:=bB (Df _) _ _
theorem e8 (a0 a1 a2):f8 Pf a0 a1 a2=B8 Pf a0 a1 a2:=cK (Df _) _ _ _
theorem ajG (a0 a1):f160 Pf a0 a1=BW Pf a0 a1:=bB (Df _) _ _
theorem WR (a0):f107 Pf a0=xb Pf a0:=cQ (Df _) _
theorem ajI (a0):f109 Pf a0=BX Pf a0:=cQ (Df _) _
theorem ajJ (a0):f113 Pf a0=BY Pf a0:=cQ (Df _) _
theorem Vh (a0 s9):Aw Pf a0 s9=vS Pf a0 s9:=bB (Df _) _ _
theorem e68 (a0):f68 Pf a0=Db Pf a0:=cQ (Df _) _
theorem Vi (a0 a1 s1):FH Pf a0 a1 s1=vT Pf a0 a1 s1:=cK (Df _) _ _ _
theorem e93 (a0 a1):f93 Pf a0 a1=xD Pf a0 a1:=bB (Df _) _ _
theorem ajK (a0 a1):f148 Pf a0 a1=BZ Pf a0 a1:=bB (Df _) _ _
theorem JT (a0 s1):Ae Pf a0 s1=rR Pf a0 s1:=bB (Df _) _ _
theorem ajH (a0):f126 Pf a0=xa Pf a0:=cQ (Df _) _
theorem ajL (a0 a1):f140 Pf a0 a1=B0 Pf a0 a1:=bB (Df _) _ _
theorem Vj (a0 a1 s1):si Pf a0 a1 s1=vU Pf a0 a1 s1:=cK (Df _) _ _ _
theorem e92 (a0 a1):f92 Pf a0 a1=xE Pf a0 a1:=bB (Df _) _ _
theorem Tv (a0 s16):Fb Pf a0 s16=Fc Pf a0 s16:=bB (Df _) _ _
theorem Tw (a0 s27):Fe Pf a0 s27=Ff Pf a0 s27:=bB (Df _) _ _
theorem E' (a0 s1 s2):mQ Pf a0 s1 s2=p8 Pf a0 s1 s2:=cK (Df _) _ _ _
theorem WQ (a0):f110 Pf a0=sV Pf a0:=cQ (Df _) _
theorem WS (a0):f111 Pf a0=xc Pf a0:=cQ (Df _) _
theorem K0 (a0):f161 Pf a0=sW Pf a0:=cQ (Df _) _
theorem WT (a0):f112 Pf a0=xd Pf a0:=cQ (Df _) _
theorem Fa (a0 s1):nV Pf a0 s1=p9 Pf a0 s1:=bB (Df _) _ _
theorem WU (a0):f108 Pf a0=sX Pf a0:=cQ (Df _) _
theorem FG (a1 a2 s11 s12):od Pf a1 a2 s11 s12=qv Pf a1 a2 s11 s12:=eY (Df _) _ _ _ _
theorem Y5 (a0 a1 a2):f67 Pf a0 a1 a2=xB Pf a0 a1 a2:=cK (Df _) _ _ _
theorem Y6 (a0):f31 Pf a0=xC Pf a0:=cQ (Df _) _
theorem e70 (a0 a1):f70 Pf a0 a1=C' Pf a0 a1:=bB (Df _) _ _
theorem Pn (a0 a1 s1):D0 Pf a0 a1 s1=tK Pf a0 a1 s1:=cK (Df _) _ _ _
theorem adX (a0 a1):EL Pf a0 a1=uz Pf a0 a1:=bB (Df _) _ _
theorem afp (a0 a1):E9 Pf a0 a1=Ad Pf a0 a1:=bB (Df _) _ _
theorem Vg (a0 s8):sf Pf a0 s8=vR Pf a0 s8:=bB (Df _) _ _
theorem e32 (a0):f32 Pf a0=Da Pf a0:=cQ (Df _) _
theorem e71 (a0 a1):f71 Pf a0 a1=C0 Pf a0 a1:=bB (Df _) _ _
theorem e72 (a0):f72 Pf a0=C1 Pf a0:=cQ (Df _) _
theorem e73 (a0):f73 Pf a0=C2 Pf a0:=cQ (Df _) _
theorem Vd (a1 s9 y28 s31 s32):qu Pf a1 s9 y28 s31 s32=vO Pf a1 s9 y28 s31 s32:=jI (Df _) _ _ _ _ _
theorem Ve (a1 s9 y28 s41 s42):mW Pf a1 s9 y28 s41 s42=vP Pf a1 s9 y28 s41 s42:=jI (Df _) _ _ _ _ _
theorem Vf (a0 a1 s3 s4 s9):se Pf a0 a1 s3 s4 s9=vQ Pf a0 a1 s3 s4 s9:=jI (Df _) _ _ _ _ _
theorem e33 (a0 a1):f33 Pf a0 a1=C3 Pf a0 a1:=bB (Df _) _ _
theorem e79 (a0):f79 Pf a0=G1 Pf a0:=cQ (Df _) _
theorem e80 (a0):f80 Pf a0=G2 Pf a0:=cQ (Df _) _
theorem e35 (a0 a1):f35 Pf a0 a1=C6 Pf a0 a1:=bB (Df _) _ _
theorem ajz (a0 a1):f162 Pf a0 a1=BM Pf a0 a1:=bB (Df _) _ _
theorem O6 (a0 a1 s1):DU Pf a0 a1 s1=tE Pf a0 a1 s1:=cK (Df _) _ _ _
theorem acP (a0 a1):Eo Pf a0 a1=uf Pf a0 a1:=bB (Df _) _ _
theorem ajw (a0 a1):f119 Pf a0 a1=BK Pf a0 a1:=bB (Df _) _ _
theorem ajC (a0):f118 Pf a0=BS Pf a0:=cQ (Df _) _
theorem ajQ (a0):f219 Pf a0=B1 Pf a0:=cQ (Df _) _
theorem Ts (a0 a1 s1):Fg Pf a0 a1 s1=vi Pf a0 a1 s1:=cK (Df _) _ _ _
theorem ajx (a0 a1):f260 Pf a0 a1=w7 Pf a0 a1:=bB (Df _) _ _
theorem ajy (a0 a1):f221 Pf a0 a1=BL Pf a0 a1:=bB (Df _) _ _
theorem ajR (a0 a1 a2):f220 Pf a0 a1 a2=B2 Pf a0 a1 a2:=cK (Df _) _ _ _
theorem Gc (a0):f129 Pf a0=BP Pf a0:=cQ (Df _) _
theorem agZ (a0):KE Pf a0=AN Pf a0:=cQ (Df _) _
theorem agY (a0):KF Pf a0=AM Pf a0:=cQ (Df _) _
theorem Tt (a0 y1 y16 s17 s22 s23):Ab Pf a0 y1 y16 s17 s22 s23=vj Pf a0 y1 y16 s17 s22 s23:=xv (Df _) _ _ _ _ _ _
theorem Tu (a0 y1 y2 s3 s9):Ac Pf a0 y1 y2 s3 s9=vk Pf a0 y1 y2 s3 s9:=jI (Df _) _ _ _ _ _
theorem ajB (a0):f117 Pf a0=BR Pf a0:=cQ (Df _) _
theorem ajA (a0):f262 Pf a0=BO Pf a0:=cQ (Df _) _
theorem afq (a0 a1 s2):Fh Pf a0 a1 s2=Fi Pf a0 a1 s2:=cK (Df _) _ _ _
theorem ajD (a0 a1):f168 Pf a0 a1=Gp Pf a0 a1:=bB (Df _) _ _
theorem ajE (a0 a1):f170 Pf a0 a1=BT Pf a0 a1:=bB (Df _) _ _
theorem Po (a0 a1 s2):tM Pf a0 a1 s2=tN Pf a0 a1 s2:=cK (Df _) _ _ _
theorem adY (a0 a1):EM Pf a0 a1=zH Pf a0 a1:=bB (Df _) _ _
theorem ajF (a0 a1):f120 Pf a0 a1=BU Pf a0 a1:=bB (Df _) _ _
theorem Pp (a0 a1 s2):tO Pf a0 a1 s2=tP Pf a0 a1 s2:=cK (Df _) _ _ _
theorem adZ (a0 a1):EN Pf a0 a1=zI Pf a0 a1:=bB (Df _) _ _
theorem e81 (a0 a1):f81 Pf a0 a1=C4 Pf a0 a1:=bB (Df _) _ _
theorem e78 (a0 a1 a2):f78 Pf a0 a1 a2=CZ Pf a0 a1 a2:=cK (Df _) _ _ _
theorem ajS (a0 a1 a2):f116 Pf a0 a1 a2=B3 Pf a0 a1 a2:=cK (Df _) _ _ _
theorem ajq (a0 a1 a2 a3 a4 a5):f163 Pf a0 a1 a2 a3 a4 a5=BE Pf a0 a1 a2 a3 a4 a5:=xv (Df _) _ _ _ _ _ _
theorem Tx (a0 a1 a2 s159 s171):nW Pf a0 a1 a2 s159 s171=vl Pf a0 a1 a2 s159 s171:=jI (Df _) _ _ _ _ _
theorem Ty (a0 a1 a2 s186 s198):qa Pf a0 a1 a2 s186 s198=vm Pf a0 a1 a2 s186 s198:=jI (Df _) _ _ _ _ _
theorem ajT (a0 a1 a2):f164 Pf a0 a1 a2=B4 Pf a0 a1 a2:=cK (Df _) _ _ _
theorem Tp (a1 a2 s4 s26 s27):oW Pf a1 a2 s4 s26 s27=vg Pf a1 a2 s4 s26 s27:=jI (Df _) _ _ _ _ _
theorem Tq (a0 a1 a2 s3 s4 s5):rP Pf a0 a1 a2 s3 s4 s5=vh Pf a0 a1 a2 s3 s4 s5:=xv (Df _) _ _ _ _ _ _
theorem ajv (a0 a1 a2):f223 Pf a0 a1 a2=BJ Pf a0 a1 a2:=cK (Df _) _ _ _
theorem aju (a0 a1):f224 Pf a0 a1=BI Pf a0 a1:=bB (Df _) _ _
theorem ajt (a0 a1 a2 a3 a4 a5):f261 Pf a0 a1 a2 a3 a4 a5=BH Pf a0 a1 a2 a3 a4 a5:=xv (Df _) _ _ _ _ _ _
theorem ajs (a0 a1 a2 a3):f226 Pf a0 a1 a2 a3=BG Pf a0 a1 a2 a3:=eY (Df _) _ _ _ _
theorem ajU (a0 a1 a2):f165 Pf a0 a1 a2=B6 Pf a0 a1 a2:=cK (Df _) _ _ _
theorem ajr (a0 a1 a2 a3 a4):f225 Pf a0 a1 a2 a3 a4=BF Pf a0 a1 a2 a3 a4:=jI (Df _) _ _ _ _ _
theorem e34 (a0 a1 a2 a3):f34 Pf a0 a1 a2 a3=Dc Pf a0 a1 a2 a3:=eY (Df _) _ _ _ _
theorem e36 (a0 a1):f36 Pf a0 a1=Dd Pf a0 a1:=bB (Df _) _ _
theorem QV (a0 a1 s2):ug Pf a0 a1 s2=uh Pf a0 a1 s2:=cK (Df _) _ _ _
theorem ago (a0 a1):FI Pf a0 a1=Ax Pf a0 a1:=bB (Df _) _ _
theorem e12 (a0 a1):f12 Pf a0 a1=De Pf a0 a1:=bB (Df _) _ _
theorem ai7 (a0 a1 a2 a3 a4):f121 Pf a0 a1 a2 a3 a4=Bo Pf a0 a1 a2 a3 a4:=jI (Df _) _ _ _ _ _
theorem Tl (a0 a1 s3):p6 Pf a0 a1 s3=u9 Pf a0 a1 s3:=cK (Df _) _ _ _
theorem ajn (a0 a1):f122 Pf a0 a1=BC Pf a0 a1:=bB (Df _) _ _
theorem Tm (a0 a1 s1):p7 Pf a0 a1 s1=vb Pf a0 a1 s1:=cK (Df _) _ _ _
theorem ajo (a0 a1):f123 Pf a0 a1=w6 Pf a0 a1:=bB (Df _) _ _
theorem Tf (a0 s1 s2):z7 Pf a0 s1 s2=u5 Pf a0 s1 s2:=cK (Df _) _ _ _
theorem ai9 (a0):f172 Pf a0=wY Pf a0:=cQ (Df _) _
theorem ai' (a0 a1):f266 Pf a0 a1=Bp Pf a0 a1:=bB (Df _) _ _
theorem abi (s5 s6 s7):gC Pf s5 s6 s7=D1 Pf s5 s6 s7:=cK (Df _) _ _ _
theorem adN (a0 a1):I8 Pf a0 a1=zy Pf a0 a1:=bB (Df _) _ _
theorem ajb (a0 a1):f230 Pf a0 a1=Br Pf a0 a1:=bB (Df _) _ _
theorem ajd (a0 a1):f174 Pf a0 a1=Bt Pf a0 a1:=bB (Df _) _ _
theorem afj (a0 s1 s2 x4 y7 y9 x12 y14 x16 s18 s19):Fj Pf a0 s1 s2 x4 y7 y9 x12 y14 x16 s18 s19=zZ Pf a0 s1 s2 x4 y7 y9 x12 y14 x16 s18 s19:=aik (Df _) _ _ _ _ _ _ _ _ _ _ _
theorem afk (a0 s1 s2 x4 y7 y9 x26 s28 s29):Fk Pf a0 s1 s2 x4 y7 y9 x26 s28 s29=z6 Pf a0 s1 s2 x4 y7 y9 x26 s28 s29:=YV (Df _) _ _ _ _ _ _ _ _ _
theorem Te (a0 s1 s2):oV Pf a0 s1 s2=u4 Pf a0 s1 s2:=cK (Df _) _ _ _
theorem ai8 (a0):f124 Pf a0=wX Pf a0:=cQ (Df _) _
theorem afh (a0 s4 s7):zX Pf a0 s4 s7=Fl Pf a0 s4 s7:=cK (Df _) _ _ _
theorem afi (a0 s15 s18):zY Pf a0 s15 s18=Fm Pf a0 s15 s18:=cK (Df _) _ _ _
theorem ai5 (a0):f125 Pf a0=Bm Pf a0:=cQ (Df _) _
theorem e94 (a0 a1):f94 Pf a0 a1=CY Pf a0 a1:=bB (Df _) _ _
theorem Vb (a0 a1 s43):qt Pf a0 a1 s43=vM Pf a0 a1 s43:=cK (Df _) _ _ _
theorem Va (a0 a1 s59):qq Pf a0 a1 s59=vL Pf a0 a1 s59:=cK (Df _) _ _ _
theorem e83 (a0 a1):f83 Pf a0 a1=CW Pf a0 a1:=bB (Df _) _ _
theorem e37 (a0 a1):f37 Pf a0 a1=CX Pf a0 a1:=bB (Df _) _ _
theorem aix (a0):f128 Pf a0=AX Pf a0:=cQ (Df _) _
theorem abd (a0 s1):yb Pf a0 s1=yh Pf a0 s1:=bB (Df _) _ _
theorem adA (a0):I9 Pf a0=ux Pf a0:=cQ (Df _) _
theorem adz (a0):zh Pf a0=zj Pf a0:=cQ (Df _) _
theorem e84 (a0 a1):f84 Pf a0 a1=CL Pf a0 a1:=bB (Df _) _ _
theorem U0 (a0 a1 s2):rW Pf a0 a1 s2=vC Pf a0 a1 s2:=cK (Df _) _ _ _
theorem e38 (a0 a1):f38 Pf a0 a1=CG Pf a0 a1:=bB (Df _) _ _
theorem e14 (a0 a1 a2 a3):f14 Pf a0 a1 a2 a3=Dg Pf a0 a1 a2 a3:=eY (Df _) _ _ _ _
theorem e39 (a0 a1 a2 a3):f39 Pf a0 a1 a2 a3=Dh Pf a0 a1 a2 a3:=eY (Df _) _ _ _ _
theorem e25 (a0):f25 Pf a0=G3 Pf a0:=cQ (Df _) _
theorem e50 (a0 a1):f50 Pf a0 a1=Di Pf a0 a1:=bB (Df _) _ _
theorem QW (a0 a1 s2):ui Pf a0 a1 s2=uj Pf a0 a1 s2:=cK (Df _) _ _ _
theorem agp (a0 a1):FJ Pf a0 a1=Ay Pf a0 a1:=bB (Df _) _ _
theorem e51 (a0):f51 Pf a0=Dj Pf a0:=cQ (Df _) _
theorem e53 (a0):f53 Pf a0=Dk Pf a0:=cQ (Df _) _
theorem Vk (a0 a1 s32 s33 s34):qw Pf a0 a1 s32 s33 s34=vV Pf a0 a1 s32 s33 s34:=jI (Df _) _ _ _ _ _
theorem Vl (a0 a1 s48 s49):og Pf a0 a1 s48 s49=vW Pf a0 a1 s48 s49:=eY (Df _) _ _ _ _
theorem Dl (a0 a1):f27 Pf a0 a1=pz Pf a0 a1:=bB (Df _) _ _
theorem Vm (a0 s1 s13):sk Pf a0 s1 s13=vX Pf a0 s1 s13:=cK (Df _) _ _ _
theorem e26 (a0):f26 Pf a0=xF Pf a0:=cQ (Df _) _
theorem e9 (a0 a1):f9 Pf a0 a1=B9 Pf a0 a1:=bB (Df _) _ _
theorem aiC (a0):f176 Pf a0=A1 Pf a0:=cQ (Df _) _
theorem aiD (a0):f177 Pf a0=A2 Pf a0:=cQ (Df _) _
theorem ai6 (a0):f190 Pf a0=Bn Pf a0:=cQ (Df _) _
theorem aiy (a0):f178 Pf a0=AY Pf a0:=cQ (Df _) _
theorem qI (a0 a1):f131 Pf a0 a1=mr Pf a0 a1:=bB (Df _) _ _
theorem ajk (a0 a1):f231 Pf a0 a1=BB Pf a0 a1:=bB (Df _) _ _
theorem ajj (a0 a1):f180 Pf a0 a1=BA Pf a0 a1:=bB (Df _) _ _
theorem J' (a0 a1 s1):FK Pf a0 a1 s1=r6 Pf a0 a1 s1:=cK (Df _) _ _ _
theorem e91 (a0 a1):f91 Pf a0 a1=xA Pf a0 a1:=bB (Df _) _ _
theorem e44 (a0 a1):f44 Pf a0 a1=CO Pf a0 a1:=bB (Df _) _ _
theorem aje (a0 a1):f144 Pf a0 a1=Bu Pf a0 a1:=bB (Df _) _ _
theorem aiS (a0 a1):f143 Pf a0 a1=Be Pf a0 a1:=bB (Df _) _ _
theorem aaZ (a0 a1 s1):xX Pf a0 a1 s1=xY Pf a0 a1 s1:=cK (Df _) _ _ _
theorem acH (a0 a1):IC Pf a0 a1=ue Pf a0 a1:=bB (Df _) _ _
theorem acG (a0 a1):ID Pf a0 a1=yS Pf a0 a1:=bB (Df _) _ _
theorem e95 (a0 a1):f95 Pf a0 a1=CT Pf a0 a1:=bB (Df _) _ _
theorem U8 (a0 a1 a2 s9):r8 Pf a0 a1 a2 s9=vI Pf a0 a1 a2 s9:=eY (Df _) _ _ _ _
theorem U9 (a0 a1 a2 s24):r9 Pf a0 a1 a2 s24=vJ Pf a0 a1 a2 s24:=eY (Df _) _ _ _ _
theorem U' (a1 a2 s59):sc Pf a1 a2 s59=vK Pf a1 a2 s59:=cK (Df _) _ _ _
theorem e45 (a0 a1 a2):f45 Pf a0 a1 a2=CU Pf a0 a1 a2:=cK (Df _) _ _ _
theorem e19 (a0 a1 a2):f19 Pf a0 a1 a2=CP Pf a0 a1 a2:=cK (Df _) _ _ _
theorem aiO (a0):f137 Pf a0=Bb Pf a0:=cQ (Df _) _
theorem u7 (a2 a3 a4 s3 s4 s5):gh Pf a2 a3 a4 s3 s4 s5=nU Pf a2 a3 a4 s3 s4 s5:=xv (Df _) _ _ _ _ _ _
theorem aji (a0 a1 a2 a3 a4):f237 Pf a0 a1 a2 a3 a4=Bz Pf a0 a1 a2 a3 a4:=jI (Df _) _ _ _ _ _
theorem ajh (a0 a1):f191 Pf a0 a1=By Pf a0 a1:=bB (Df _) _ _
theorem aiT (a0 a1):f204 Pf a0 a1=Bf Pf a0 a1:=bB (Df _) _ _
theorem S7 (a0 a1 s1 s2):uT Pf a0 a1 s1 s2=uU Pf a0 a1 s1 s2:=eY (Df _) _ _ _ _
theorem aiV (a0 a1):f150 Pf a0 a1=wU Pf a0 a1:=bB (Df _) _ _
theorem aiW (a0 a1):f278 Pf a0 a1=Bg Pf a0 a1:=bB (Df _) _ _
theorem S8 (a0 a1 s4 s5 s6):rK Pf a0 a1 s4 s5 s6=uV Pf a0 a1 s4 s5 s6:=jI (Df _) _ _ _ _ _
theorem aiX (a0 a1):f239 Pf a0 a1=Bh Pf a0 a1:=bB (Df _) _ _
theorem ai0 (a0):f280 Pf a0=Bj Pf a0:=cQ (Df _) _
theorem S' (a0 a1 s4):rL Pf a0 a1 s4=uX Pf a0 a1 s4:=cK (Df _) _ _ _
theorem aiZ (a0 a1):f295 Pf a0 a1=Bi Pf a0 a1:=bB (Df _) _ _
theorem Pm (a0 a1 m1 s4 s5 s6 s7 s8):pF Pf a0 a1 m1 s4 s5 s6 s7 s8=tJ Pf a0 a1 m1 s4 s5 s6 s7 s8:=ap8 (Df _) _ _ _ _ _ _ _ _
theorem abf (a0 a1 m1 s4 s5 s6 s7):tH Pf a0 a1 m1 s4 s5 s6 s7=tI Pf a0 a1 m1 s4 s5 s6 s7:=ap7 (Df _) _ _ _ _ _ _ _
theorem adL (a0 a1):I' Pf a0 a1=zw Pf a0 a1:=bB (Df _) _ _
theorem ai2 (a0 a1):f241 Pf a0 a1=Bk Pf a0 a1:=bB (Df _) _ _
theorem S9 (a0 a1 s1 s2):p4 Pf a0 a1 s1 s2=uW Pf a0 a1 s1 s2:=eY (Df _) _ _ _ _
theorem aiY (a0 a1):f240 Pf a0 a1=wV Pf a0 a1:=bB (Df _) _ _
theorem Tc (a0 a1 a2 s1 s2 y8 s10 s11 s13 x15 y17 y19 s20 s21 s22):rO Pf a0 a1 a2 s1 s2 y8 s10 s11 s13 x15 y17 y19 s20 s21 s22=u0 Pf a0 a1 a2 s1 s2 y8 s10 s11 s13 x15 y17 y19 s20 s21 s22:=ail (Df _) _ _ _ _ _ _ _ _ _ _ _ _ _ _ _
theorem Tb (a0 a1 a2 s1 s2 y8 s10 s11 s13):rN Pf a0 a1 a2 s1 s2 y8 s10 s11 s13=uZ Pf a0 a1 a2 s1 s2 y8 s10 s11 s13:=YV (Df _) _ _ _ _ _ _ _ _ _
theorem Ta (a0 a1 a2 s1 s2):rM Pf a0 a1 a2 s1 s2=uY Pf a0 a1 a2 s1 s2:=jI (Df _) _ _ _ _ _
theorem ai1 (a0 a1 a2):f192 Pf a0 a1 a2=wW Pf a0 a1 a2:=cK (Df _) _ _ _
theorem aiR (a0 a1):f242 Pf a0 a1=Bd Pf a0 a1:=bB (Df _) _ _
theorem aaY (a0 a1 s1):xV Pf a0 a1 s1=xW Pf a0 a1 s1:=cK (Df _) _ _ _
theorem acF (a0 a1):IE Pf a0 a1=uc Pf a0 a1:=bB (Df _) _ _
theorem acE (a0 a1):El Pf a0 a1=yR Pf a0 a1:=bB (Df _) _ _
theorem S6 (a0 a1 s9 s10):pZ Pf a0 a1 s9 s10=uS Pf a0 a1 s9 s10:=eY (Df _) _ _ _ _
theorem S5 (a0 a1 s1 s2):pY Pf a0 a1 s1 s2=uR Pf a0 a1 s1 s2:=eY (Df _) _ _ _ _
theorem aiQ (a0 a1):f193 Pf a0 a1=wT Pf a0 a1:=bB (Df _) _ _
theorem S1 (a0 a1 a2 y9 s10 s13):nT Pf a0 a1 a2 y9 s10 s13=uP Pf a0 a1 a2 y9 s10 s13:=xv (Df _) _ _ _ _ _ _
theorem S2 (a0 a1 a2 s37 s40):rJ Pf a0 a1 a2 s37 s40=uQ Pf a0 a1 a2 s37 s40:=jI (Df _) _ _ _ _ _
theorem aiP (a0 a1 a2):f138 Pf a0 a1 a2=Bc Pf a0 a1 a2:=cK (Df _) _ _ _
theorem WL (a0):f130 Pf a0=wS Pf a0:=cQ (Df _) _
theorem SZ (a0 y1 s12 s15 s16):pX Pf a0 y1 s12 s15 s16=uN Pf a0 y1 s12 s15 s16:=jI (Df _) _ _ _ _ _
theorem S0 (a0 y1 s2 s5):rH Pf a0 y1 s2 s5=uO Pf a0 y1 s2 s5:=eY (Df _) _ _ _ _
theorem aiN (a0):f139 Pf a0=Ba Pf a0:=cQ (Df _) _
theorem Ka (a0 a1 s4 s5):FL Pf a0 a1 s4 s5=r7 Pf a0 a1 s4 s5:=eY (Df _) _ _ _ _
theorem e90 (a0 a1):f90 Pf a0 a1=CS Pf a0 a1:=bB (Df _) _ _
theorem e43 (a0 a1 a2):f43 Pf a0 a1 a2=CR Pf a0 a1 a2:=cK (Df _) _ _ _
theorem aiE (a0):f181 Pf a0=A3 Pf a0:=cQ (Df _) _
theorem ajp (a0 a1):f184 Pf a0 a1=BD Pf a0 a1:=bB (Df _) _ _
theorem aiL (a0 a1):f269 Pf a0 a1=A8 Pf a0 a1:=bB (Df _) _ _
theorem O5 (a0 a1 s1):re Pf a0 a1 s1=tD Pf a0 a1 s1:=cK (Df _) _ _ _
theorem acD (a0 a1):Ek Pf a0 a1=ub Pf a0 a1:=bB (Df _) _ _
theorem SY (a0 s4 s5 s6):pW Pf a0 s4 s5 s6=uL Pf a0 s4 s5 s6:=eY (Df _) _ _ _ _
theorem aiM (a0 a1):f233 Pf a0 a1=A9 Pf a0 a1:=bB (Df _) _ _
theorem ai3 (a0 a1):f151 Pf a0 a1=Bl Pf a0 a1:=bB (Df _) _ _
theorem aiI:f270 Pf=A5 Pf:=Df _
theorem aja (a0 a1):f274 Pf a0 a1=Bq Pf a0 a1:=bB (Df _) _ _
theorem abj (s5 s6 s7):gD Pf s5 s6 s7=D2 Pf s5 s6 s7:=cK (Df _) _ _ _
theorem adO (a0 a1):Ja Pf a0 a1=zA Pf a0 a1:=bB (Df _) _ _
theorem ajc (a0 a1):f235 Pf a0 a1=Bs Pf a0 a1:=bB (Df _) _ _
theorem ae' (a0 s1 s2):zT Pf a0 s1 s2=zU Pf a0 s1 s2:=cK (Df _) _ _ _
theorem aiG (a0):f272 Pf a0=wR Pf a0:=cQ (Df _) _
theorem Tg (a0 a1 s3):z8 Pf a0 a1 s3=u6 Pf a0 a1 s3:=cK (Df _) _ _ _
theorem ajf (a0 a1):f284 Pf a0 a1=Bv Pf a0 a1:=bB (Df _) _ _
theorem ajg (a0 a1):f271 Pf a0 a1=Bx Pf a0 a1:=bB (Df _) _ _
theorem aiK (a0 a1):f273 Pf a0 a1=A7 Pf a0 a1:=bB (Df _) _ _
theorem aiJ (a0 a1 a2):f234 Pf a0 a1 a2=A6 Pf a0 a1 a2:=cK (Df _) _ _ _
theorem afa (a0 a2 s3 s4):uK Pf a0 a2 s3 s4=Fo Pf a0 a2 s3 s4:=eY (Df _) _ _ _ _
theorem aiH (a0 a1 a2):f185 Pf a0 a1 a2=A4 Pf a0 a1 a2:=cK (Df _) _ _ _
theorem aiA (a0):f186 Pf a0=A0 Pf a0:=cQ (Df _) _
theorem SP (a0 s1 s2):rG Pf a0 s1 s2=uG Pf a0 s1 s2:=cK (Df _) _ _ _
theorem aiz (a0):f187 Pf a0=wN Pf a0:=cQ (Df _) _
theorem WH (a0):f188 Pf a0=wO Pf a0:=cQ (Df _) _
theorem SU (a0 s1 s2 s3):pV Pf a0 s1 s2 s3=uI Pf a0 s1 s2 s3:=eY (Df _) _ _ _ _
theorem aiF (a0):f189 Pf a0=wP Pf a0:=cQ (Df _) _
theorem ny (a0 a1):f86 Pf a0 a1=jL Pf a0 a1:=bB (Df _) _ _
theorem ka (a0 a1):f132 Pf a0 a1=gv Pf a0 a1:=bB (Df _) _ _
theorem WI (a0 a1 a2):f179 Pf a0 a1 a2=qJ Pf a0 a1 a2:=cK (Df _) _ _ _
theorem AW (a0 a1):f133 Pf a0 a1=nh Pf a0 a1:=bB (Df _) _ _
theorem E4 (a0 a1 s9 s10):jw Pf a0 a1 s9 s10=mN Pf a0 a1 s9 s10:=eY (Df _) _ _ _ _
theorem E5 (a0 a1 s22 s25):jV Pf a0 a1 s22 s25=mO Pf a0 a1 s22 s25:=eY (Df _) _ _ _ _
theorem JN (a0 a1 s31 s34):nR Pf a0 a1 s31 s34=nS Pf a0 a1 s31 s34:=eY (Df _) _ _ _ _
theorem oA (a0 a1):f134 Pf a0 a1=kb Pf a0 a1:=bB (Df _) _ _
theorem WJ (a0 a1 a2):f182 Pf a0 a1 a2=qK Pf a0 a1 a2:=cK (Df _) _ _ _
theorem SR (a0 a1 s1 s2):kT Pf a0 a1 s1 s2=oS Pf a0 a1 s1 s2:=eY (Df _) _ _ _ _
theorem aiB (a0 a1):f183 Pf a0 a1=qM Pf a0 a1:=bB (Df _) _ _
theorem KX (a0 a1):f135 Pf a0 a1=pf Pf a0 a1:=bB (Df _) _ _
theorem U5 (a0 y1 s12 s15 s16):qp Pf a0 y1 s12 s15 s16=vG Pf a0 y1 s12 s15 s16:=jI (Df _) _ _ _ _ _
theorem U6 (a0 y1 s2 s5):rZ Pf a0 y1 s2 s5=vH Pf a0 y1 s2 s5:=eY (Df _) _ _ _ _
theorem e85 (a0):f85 Pf a0=CN Pf a0:=cQ (Df _) _
theorem e40 (a0 a1 a2):f40 Pf a0 a1 a2=Cz Pf a0 a1 a2:=cK (Df _) _ _ _
theorem e15 (a0 a1 a2 a3):f15 Pf a0 a1 a2 a3=Dm Pf a0 a1 a2 a3:=eY (Df _) _ _ _ _
theorem e41 (a0 a1 a2 a3 a4):f41 Pf a0 a1 a2 a3 a4=Dn Pf a0 a1 a2 a3 a4:=jI (Df _) _ _ _ _ _
theorem e16 (a0 a1 a2 a3):f16 Pf a0 a1 a2 a3=Dp Pf a0 a1 a2 a3:=eY (Df _) _ _ _ _
theorem e18 (a0 a1 a2):f18 Pf a0 a1 a2=CA Pf a0 a1 a2:=cK (Df _) _ _ _
theorem e88 (a0 a1):f88 Pf a0 a1=CB Pf a0 a1:=bB (Df _) _ _
theorem SO (a0 a1 s1):rF Pf a0 a1 s1=uF Pf a0 a1 s1:=cK (Df _) _ _ _
theorem aiw (a0 a1):f136 Pf a0 a1=wM Pf a0 a1:=bB (Df _) _ _
theorem e89 (a0 a1):f89 Pf a0 a1=CC Pf a0 a1:=bB (Df _) _ _
theorem UX (a0 a1 s82):qh Pf a0 a1 s82=vz Pf a0 a1 s82:=cK (Df _) _ _ _
theorem UY (a0 a1 s57 s58):qk Pf a0 a1 s57 s58=vA Pf a0 a1 s57 s58:=eY (Df _) _ _ _ _
theorem UZ (a0 a1 s3 s4):rV Pf a0 a1 s3 s4=vB Pf a0 a1 s3 s4:=eY (Df _) _ _ _ _
theorem e42 (a0 a1):f42 Pf a0 a1=CD Pf a0 a1:=bB (Df _) _ _
theorem e17 (a0 a1):f17 Pf a0 a1=CF Pf a0 a1:=bB (Df _) _ _
theorem e5 (a0 a1 a2 a3):f5 Pf a0 a1 a2 a3=B5 Pf a0 a1 a2 a3:=eY (Df _) _ _ _ _
theorem Gd:f232 Pf=wZ:=Df _
theorem WK:f236 Pf=wQ:=Df _
theorem RH:Jb Pf=uy:=Df _
theorem x7:f7 Pf=P7:=Df _
theorem agW:KG Pf=qE Pu:=Df _
theorem ai4:f141 Pf=sZ Pu:=Df _
theorem WM:f173 Pf=xe Pu:=Df _
theorem ajl:f196 Pf=xf Pu:=Df _
theorem aiU:f247 Pf=xg Pu:=Df _
theorem ajm:f264 Pf=xh Pu:=Df _
