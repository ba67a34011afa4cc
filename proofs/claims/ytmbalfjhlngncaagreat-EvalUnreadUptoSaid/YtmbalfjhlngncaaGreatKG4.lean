/- Printed by a program: what functions answer, and that they do. -/
import Derived.Test.YtmbalfjhlngncaaGreatKG3
set_option linter.all false
set_option maxRecDepth 100000
noncomputable section
namespace Go.Proofs.YtmbalfjhlngncaaGreat
open Go Go.Bw
abbrev H8 (f:Fs):Ty:=λa0 a1 s19 s20=>(bif decide (s20<(↑(af.rows a0.aj).length:Int))then(bif decide (s20<(↑(af.rows a1.aj).length:Int))then((ao a0.aj s20).bind λx23=>((ao a1.aj s20).bind λx25=>((f38 f x23 x25).bind λy27=>(bif y27 !=0 then(some y27)else(H9 f a0 a1 s19 (IntKind.i64.wrap (s20+1)))))))else(bif (↑(af.rows a0.aj).length:Int) !=(↑(af.rows a1.aj).length:Int)then((f73 f ((↑(af.rows a0.aj).length:Int)) ((↑(af.rows a1.aj).length:Int))).bind λy30=>(some y30))else(H' f a0 a1 0)))else(bif (↑(af.rows a0.aj).length:Int) !=(↑(af.rows a1.aj).length:Int)then((f73 f ((↑(af.rows a0.aj).length:Int)) ((↑(af.rows a1.aj).length:Int))).bind λy43=>(some y43))else(Ia f a0 a1 0)))
abbrev Ib (f:Fs):Tz:=λa0 a1 s69=>(bif decide (s69<(↑(ax.rows a0.Entries).length:Int))then(bif decide (s69<(↑(ax.rows a1.Entries).length:Int))then((ao a0.Entries s69).bind λx72=>((ao a1.Entries s69).bind λx74=>((f74 f x72 x74).bind λy76=>(bif y76 !=0 then(some y76)else(Ic f a0 a1 (IntKind.i64.wrap (s69+1)))))))else((f73 f ((↑(ax.rows a0.Entries).length:Int)) ((↑(ax.rows a1.Entries).length:Int))).bind λy78=>(some y78)))else((f73 f ((↑(ax.rows a0.Entries).length:Int)) ((↑(ax.rows a1.Entries).length:Int))).bind λy79=>(some y79)))
abbrev uB (f:Fs):TA:=λa0 a1 s82=>(bif decide (s82<(↑(ax.rows a0.Entries).length:Int))then(bif decide (s82<(↑(ax.rows a1.Entries).length:Int))then((ao a0.Entries s82).bind λx85=>((ao a1.Entries s82).bind λx87=>((f74 f x85 x87).bind λy89=>(bif y89 !=0 then(some y89)else(pj f a0 a1 (IntKind.i64.wrap (s82+1)))))))else((f73 f ((↑(ax.rows a0.Entries).length:Int)) ((↑(ax.rows a1.Entries).length:Int))).bind λy91=>(some y91)))else((f73 f ((↑(ax.rows a0.Entries).length:Int)) ((↑(ax.rows a1.Entries).length:Int))).bind λy92=>(some y92)))
abbrev uC (f:Fs):TB:=λa0 a1 s57 s58=>(bif decide (s58<(↑(af.rows a0.aj).length:Int))then(bif decide (s58<(↑(af.rows a1.aj).length:Int))then((ao a0.aj s58).bind λx61=>((ao a1.aj s58).bind λx63=>((f38 f x61 x63).bind λy65=>(bif y65 !=0 then(some y65)else(pk f a0 a1 s57 (IntKind.i64.wrap (s58+1)))))))else(bif (↑(af.rows a0.aj).length:Int) !=(↑(af.rows a1.aj).length:Int)then((f73 f ((↑(af.rows a0.aj).length:Int)) ((↑(af.rows a1.aj).length:Int))).bind λy68=>(some y68))else(Ic f a0 a1 0)))else(bif (↑(af.rows a0.aj).length:Int) !=(↑(af.rows a1.aj).length:Int)then((f73 f ((↑(af.rows a0.aj).length:Int)) ((↑(af.rows a1.aj).length:Int))).bind λy81=>(some y81))else(pj f a0 a1 0)))
abbrev uD (f:Fs):TC:=λa0 a1 s3 s4=>(bif decide (s4<(↑(aB a0.Names).length:Int))then(bif decide (s4<(↑(aB a1.Names).length:Int))then((ao a0.Names s4).bind λx7=>((ao a1.Names s4).bind λx9=>(bif !x7==x9 then((ao a0.Names s4).bind λx12=>((ao a1.Names s4).bind λx14=>((f72 f (Op.bytesLess x12 x14)).bind λy16=>(some y16))))else(qT f a0 a1 s3 (IntKind.i64.wrap (s4+1))))))else(bif (↑(aB a0.Names).length:Int) !=(↑(aB a1.Names).length:Int)then((f73 f ((↑(aB a0.Names).length:Int)) ((↑(aB a1.Names).length:Int))).bind λy18=>(some y18))else(H9 f a0 a1 s3 0)))else(bif (↑(aB a0.Names).length:Int) !=(↑(aB a1.Names).length:Int)then((f73 f ((↑(aB a0.Names).length:Int)) ((↑(aB a1.Names).length:Int))).bind λy56=>(some y56))else(pk f a0 a1 s3 0)))
abbrev BD (f:Fs):LG:=λa0 a1=>(bif a0.N !=a1.N then((f72 f (decide (a0.N<a1.N))).bind λy2=>(some y2))else(qT f a0 a1 0 0))
abbrev BE (f:Fs):LH:=λa0 a1=>((f38 f a0 a1).bind λy1=>(some (y1==0)))
abbrev uE (f:Fs):TE:=λa0 a1 s2=>(bif decide (s2<(↑(aB a0).length:Int))then((ao a0 s2).bind λx4=>((ao a1 s2).bind λx6=>(bif !x4==x6 then(some false)else(pn f a0 a1 (IntKind.i64.wrap (s2+1))))))else(some true))
abbrev BF (f:Fs):LI:=λa0 a1=>(bif (↑(aB a0).length:Int) !=(↑(aB a1).length:Int)then(some false)else(pn f a0 a1 0))
abbrev BG (f:Fs):LJ:=λa0 a1=>(bif a0.aX==a1.aX then(bif a0.N==a1.N then(bif a0.Name==a1.Name then((f75 f a0.Names a1.Names).bind λy4=>(some y4))else(some false))else(some false))else(some false))
abbrev BH (f:Fs):LK:=λa0 a1=>((f39 f a0 a1).bind λy1=>(some y1))
abbrev B7 (f:Fs):T7:=λa0 a1 a2 a3 a4=>((f10 f).bind λy1=>(bif !y1 then(some false)else((f11 f a1 a2 a4).bind λy3=>(bif !y3 then(some true)else((f28 f a3 40).bind λy5=>(bif !y5 then(some true)else((f29 f a1.Body).bind λy7=>(bif y7 then(some true)else((f26 f a0 a2).bind λy9=>(bif !y9 then(some true)else((f26 f a0 a3).bind λy11=>(bif !y11 then(some true)else((f12 f a0 a1 a2 a4).bind λy13=>((f12 f a0 a1 a3 a4).bind λy14=>((f15 f a0 a1 a2 a4).bind λy15=>((f15 f a0 a1 a3 a4).bind λy16=>(bif y13.snd==y14.snd then((f14 f y13.fst y14.fst).bind λy18=>(bif y18 then(bif y15.snd==y16.snd then((f17 f y15.fst y16.fst).bind λy21=>(some y21))else(some false))else(some false)))else(some false))))))))))))))))))
abbrev Ie (f:Fs):TF:=λa0 a1 s3=>(bif decide (s3<(↑(ae.rows a0.Kids).length:Int))then((ao a0.Kids s3).bind λx5=>((f31 f x5 a1).bind λy7=>(bif y7 then(some true)else(Ig f a0 a1 (IntKind.i64.wrap (s3+1))))))else(some false))
abbrev Ih (f:Fs):TG:=λa0 a1 s9=>(bif decide (s9<(↑(ae.rows a0.Kids).length:Int))then((ao a0.Kids s9).bind λx11=>((f31 f x11 a1).bind λy13=>(bif y13 then(some true)else(Ii f a0 a1 (IntKind.i64.wrap (s9+1))))))else(some false))
abbrev LL (f:Fs):LM:=λa0 a1=>(bif a0.Op==4 then(bif a0.N==a1 then(some true)else(Ig f a0 a1 0))else(Ii f a0 a1 0))
abbrev IH (f:Fs):Uu:=λa0 a1 a2 a3 a4 s13 s14=>(bif decide (s14<(↑(aR.rows s13).length:Int))then((f31 f a1.Body s14).bind λy16=>(bif !y16 then((ao a4 s14).bind λx18=>((ao s13 s14).bind λx20=>(Ea f a0 a1 a2 a3 a4 (s13.set s14.toNat x18) (IntKind.i64.wrap (s14+1)))))else(Ea f a0 a1 a2 a3 a4 s13 (IntKind.i64.wrap (s14+1)))))else((f12 f a0 a1 a2 a3).bind λy22=>((f12 f a0 a1 a2 s13).bind λy24=>((f15 f a0 a1 a2 a3).bind λy25=>((f15 f a0 a1 a2 s13).bind λy26=>(bif y22.snd==y24.snd then((f14 f y22.fst y24.fst).bind λy28=>(bif y28 then(bif y25.snd==y26.snd then((f17 f y25.fst y26.fst).bind λy31=>(some y31))else(some false))else(some false)))else(some false)))))))
abbrev B8 (f:Fs):T8:=λa0 a1 a2 a3 a4=>((f10 f).bind λy1=>(bif !y1 then(some false)else((f11 f a1 a2 a3).bind λy3=>(bif !y3 then(some true)else((f30 f a4).bind λy5=>(bif !y5 then(some true)else(bif (↑(aR.rows a3).length:Int) !=(↑(aR.rows a4).length:Int)then(some true)else((f27 f a1.Params a3).bind λy8=>(bif y8 !=0 then(some true)else((f27 f a1.Params a4).bind λy10=>(bif y10 !=0 then(some true)else(bif decide ((([]:List aR)++(a3:List aR)).length<=274877906944)then(Ea f a0 a1 a2 a3 a4 ([]++a3) 0)else none))))))))))))
abbrev B6 (f:Fs):T6:=λa0 a1 a2 a3=>((f10 f).bind λy1=>(bif !y1 then(some false)else((f11 f a1 a2 a3).bind λy3=>(bif !y3 then(some true)else((f25 f a0 a1).bind λy5=>(bif !y5 then(some true)else((f26 f a0 a2).bind λy7=>(bif !y7 then(some true)else((f27 f a1.Params a3).bind λy9=>(bif y9 !=0 then(some true)else((f12 f a0 a1 a2 a3).bind λy11=>((f15 f a0 a1 a2 a3).bind λy12=>(bif a1.Result==0 then(bif y11.snd==0 then((f26 f a0 y11.fst).bind λy15=>(bif y15 then(some (y12.snd==1))else(some false)))else(some false))else(bif y11.snd==1 then(bif y12.snd==0 then((f27 f ([{Name:=[120],aX:=a1.Result:TParam}]) ([y12.fst])).bind λy19=>(some (y19==0)))else(some false))else(some false)))))))))))))))
def E3 (x:Us) (f:Fs):Fb:=((((LN f,LO f),(LP f,(AG f,vi f))),((AH f,AI f),(tR f,(AJ f,tT f)))),(((vl f,AK f),(qF f,(vh f,AL f))),((tU f,vm f),(Dm f,(Dp f,oS f)))))
def E4 (x:Us) (f:Fs):Fc:=((((rv f,vj f),(ry f,(vk f,oU f))),((rz f,oT f),(vg f,(vM f,AB f)))),(((rX f,sI f),(wR f,(uz f,Bv f))),((Av f,Aw f),(Ax f,(uw f,ux f)))))
def E5 (x:Us) (f:Fs):Fe:=((((uy f,Bs f),(Es f,(Et f,Bu f))),((Ar f,rW f),(sH f,(Ap f,AA f)))),(((AM f,tO f),(vd f,(Aq f,AN f))),((Bt f,yA f),(yy f,(tP f,tQ f)))))
def LF (x:Us) (f:Fs):Ff:=((((Ay f,Au f),(Ds f,(Eu f,AD f))),((r9 f,xh f),(AF f,(sd f,xi f)))),(((Az f,Ah f),(AO f,(Ai f,HO f))),((HP f,tW f),(tX f,(AS f,tM f)))))
def E6 (x:Us) (f:Fs):Fg:=((((tN f,Ao f),(An f,(Am f,Ak f))),((AT f,Aj f),(Bx f,(By f,sr f)))),(((xD f,Bz f),(zT f,(tI f,Ae f))),((tJ f,vc f),(tF f,(u9 f,zU f)))))
def E7 (x:Us) (f:Fs):Fh:=((((Ca f,xd f),(zX f,(zZ f,xu f))),((xv f,tE f),(u7 f,(Dx f,Dy f)))),(((zO f,zN f),(uv f,(uq f,Bq f))),((Br f,yK f),(wC f,(sM f,w4 f)))))
def E8 (x:Us) (f:Fs):Fi:=((((Bk f,uf f),(Bc f,(rI f,yR f))),((yS f,zQ f),(yM f,(kF f,Ad f)))),(((Ac f,qp f),(uZ f,(zj f,z6 f))),((zx f,wq f),(sG f,(wO f,zy f)))))
def E9 (x:Us) (f:Fs):Fj:=((((tn f,tp f),(tq f,(zA f,Bo f))),((zm f,mE f),(Ab f,(Aa f,zB f)))),(((I9 f,tu f),(u4 f,(zE f,tv f))),((zG f,zI f),(tA f,(zH f,r7 f)))))
def E' (x:Us) (f:Fs):Fk:=((((r6 f,xb f),(zJ f,(tz f,u5 f))),((tD f,tC f),(tB f,(u6 f,zw f)))),(((wm f,sF f),(wN f,(tm f,tj f))),((u0 f,tf f),(th f,(zt f,vL f)))))
def Fa (x:Us) (f:Fs):Fl:=((((tc f,te f),(zh f,(qq f,zr f))),((Bp f,yV f),(Af f,(zd f,rV f)))),(((sE f,sZ f),(zf f,(zK f,yZ f))),((zW f,Cb f),(xe f,(zY f,xo f)))))
def Eo (x:Us) (f:Fs):Ev:=((((uX f,tG f),(z7 f,(z8 f,zc f))),((za f,DB f),(yW f,(yO f,sT f)))),(((uT f,uU f),(sW f,(uV f,me f))),((gu f,rp f),(n9 f,(pc f,pd f)))))
def Ep (x:Us) (f:Fs):Ew:=((((nE f,ka f),(rq f,(oJ f,pB f))),((oc f,um f),(uo f,(Bn f,rJ f)))),(((rL f,rK f),(rM f,(BA f,xS f))),((sw f,tV f),(LQ f,(ug f,Bf f)))))
def Er (x:Us) (f:Fs):Ex:=((((Bg f,uh f),(ui f,(Bh f,Bi f))),((uj f,Bj f),(Be f,(LR f,BB f)))),(((tY f,vn f),(BC f,(Ij f,Ik f))),((H8 f,Ib f),(uB f,(uC f,uD f)))))
def I6 (x:Us) (f:Fs):Ey:=((((BD f,BE f),(uE f,(BF f,BG f))),((BH f,B7 f),(Ie f,(Ih f,LL f)))),(((IH f,B8 f),(B6 f,(va,uW))),((vo,sN),(vp x,(rB x,vq x)))))
def I7 (x:Us) (f:Fs):Ez:=(vt x,(vu x,pD x))
def Qf (x:Us) (f:Fs):Fs:=(((E3 x f,(E4 x f,E5 x f)),((LF x f,E6 x f),(E7 x f,E8 x f))),(((E9 x f,E' x f),(Fa x f,Eo x f)),((Ep x f,Er x f),(I6 x f,I7 x f))))
def Gf:Nat->Fs
 |0=>PF.bot
 |n+1=>Qf (Gu n) (Gf n)
def Pf:Fs:=PF.lm Gf
theorem Xf0 {f:Nat->Fs} {p} (h:PF.R f p):PF.R (λn=>E3 (Gu n) (f n)) (E3 Pu p):=by unfold E3 vl vh vm;exact zP h
theorem Xf1 {f:Nat->Fs} {p} (h:PF.R f p):PF.R (λn=>E4 (Gu n) (f n)) (E4 Pu p):=by unfold E4 rv rz sI;exact zP h
theorem Xf2 {f:Nat->Fs} {p} (h:PF.R f p):PF.R (λn=>E5 (Gu n) (f n)) (E5 Pu p):=by unfold E5 sH vd;exact zP h
theorem Xf3 {f:Nat->Fs} {p} (h:PF.R f p):PF.R (λn=>LF (Gu n) (f n)) (LF Pu p):=zP h
theorem Xf4 {f:Nat->Fs} {p} (h:PF.R f p):PF.R (λn=>E6 (Gu n) (f n)) (E6 Pu p):=by unfold E6 vc u9;exact zP h
theorem Xf5 {f:Nat->Fs} {p} (h:PF.R f p):PF.R (λn=>E7 (Gu n) (f n)) (E7 Pu p):=by unfold E7 u7 sM;exact zP h
theorem Xf6 {f:Nat->Fs} {p} (h:PF.R f p):PF.R (λn=>E8 (Gu n) (f n)) (E8 Pu p):=by unfold E8 uZ sG;exact zP h
theorem Xf7 {f:Nat->Fs} {p} (h:PF.R f p):PF.R (λn=>E9 (Gu n) (f n)) (E9 Pu p):=by unfold E9 u4;exact zP h
theorem Xf8 {f:Nat->Fs} {p} (h:PF.R f p):PF.R (λn=>E' (Gu n) (f n)) (E' Pu p):=by unfold E' r6 u5 u6 sF u0;exact zP h
theorem Xf9 {f:Nat->Fs} {p} (h:PF.R f p):PF.R (λn=>Fa (Gu n) (f n)) (Fa Pu p):=by unfold Fa sE;exact zP h
theorem ag0 {f:Nat->Fs} {p} (h:PF.R f p):PF.R (λn=>Eo (Gu n) (f n)) (Eo Pu p):=by unfold Eo uX uT uV;exact zP h
theorem ag1 {f:Nat->Fs} {p} (h:PF.R f p):PF.R (λn=>Ep (Gu n) (f n)) (Ep Pu p):=by unfold Ep pB tV;exact zP h
theorem ag2 {f:Nat->Fs} {p} (h:PF.R f p):PF.R (λn=>Er (Gu n) (f n)) (Er Pu p):=by unfold Er vn;exact zP h
theorem ag3 {f:Nat->Fs} {p} (h:PF.R f p):PF.R (λn=>I6 (Gu n) (f n)) (I6 Pu p):=(PF.pair (PF.pair (PF.pair (PF.pair (zM h) (zM h)) (PF.pair (zM h) (PF.pair (zM h) (zM h)))) (PF.pair (PF.pair (zM h) (zM h)) (PF.pair (zM h) (PF.pair (zM h) (zM h))))) (PF.pair (PF.pair (PF.pair (zM h) (zM h)) (PF.pair (zM h) (PF.pair zC zC))) (PF.pair (PF.pair zC zC) (PF.pair (PF.K.k _ Xu.1) (PF.pair (PF.K.k _ Xu.1) (PF.K.k _ Xu.1))))))
theorem ag4 {f:Nat->Fs} {p} (h:PF.R f p):PF.R (λn=>I7 (Gu n) (f n)) (I7 Pu p):=(PF.pair (PF.K.k _ Xu.1) (PF.pair (PF.K.k _ Xu.1) (PF.K.k _ Xu.1)))
set_option maxHeartbeats 0 in
theorem Xf:PF.Fix Gf (Qf Pu):=PF.fix (Φ:=λn=>Qf (Gu n)) (λf p h=>(PF.pair (PF.pair (PF.pair (Xf0 h) (PF.pair (Xf1 h) (Xf2 h))) (PF.pair (PF.pair (Xf3 h) (Xf4 h)) (PF.pair (Xf5 h) (Xf6 h)))) (PF.pair (PF.pair (PF.pair (Xf7 h) (Xf8 h)) (PF.pair (Xf9 h) (ag0 h))) (PF.pair (PF.pair (ag1 h) (ag2 h)) (PF.pair (ag3 h) (ag4 h)))))) rfl λ_=>rfl
theorem l7:PF.R (λn=>f7 (Gf n)) (f7 Pf):=PF.K.k _ Xf.1
theorem Df {β:Type} [PF β] (π:PF.K Fs β):π Pf=π (Qf Pu Pf):=congrArg π.f Xf.2
theorem agR (a0 a1):f226 Pf a0 a1=AG Pf a0 a1:=bt (Df _) _ _
theorem UQ (a0):f168 Pf a0=vi Pf a0:=cD (Df _) _
theorem agT (a0):f170 Pf a0=AH Pf a0:=cD (Df _) _
theorem agU (a0):f174 Pf a0=AI Pf a0:=cD (Df _) _
theorem Rx (a0 s9):xC Pf a0 s9=tR Pf a0 s9:=bt (Df _) _ _
theorem agV (a0):f101 Pf a0=AJ Pf a0:=cD (Df _) _
theorem Ry (a0 a1 s1):Dk Pf a0 a1 s1=tT Pf a0 a1 s1:=cy (Df _) _ _ _
theorem agW (a0 a1):f145 Pf a0 a1=vl Pf a0 a1:=bt (Df _) _ _
theorem agX (a0 a1):f205 Pf a0 a1=AK Pf a0 a1:=bt (Df _) _ _
theorem HM (a0 s1):xB Pf a0 s1=qF Pf a0 s1:=bt (Df _) _ _
theorem agS (a0):f122 Pf a0=vh Pf a0:=cD (Df _) _
theorem agY (a0 a1):f143 Pf a0 a1=AL Pf a0 a1:=bt (Df _) _ _
theorem Rz (a0 a1 s1):qG Pf a0 a1 s1=tU Pf a0 a1 s1:=cy (Df _) _ _ _
theorem agZ (a0 a1):f182 Pf a0 a1=vm Pf a0 a1:=bt (Df _) _ _
theorem Rv (a0 s16):Dl Pf a0 s16=Dm Pf a0 s16:=bt (Df _) _ _
theorem Rw (a0 s27):Dn Pf a0 s27=Dp Pf a0 s27:=bt (Df _) _ _
theorem Dh (a0 s1 s2):lM Pf a0 s1 s2=oS Pf a0 s1 s2:=cy (Df _) _ _ _
theorem UO (a0):f171 Pf a0=rv Pf a0:=cD (Df _) _
theorem UR (a0):f172 Pf a0=vj Pf a0:=cD (Df _) _
theorem I5 (a0):f227 Pf a0=ry Pf a0:=cD (Df _) _
theorem US (a0):f173 Pf a0=vk Pf a0:=cD (Df _) _
theorem Dj (a0 s1):mG Pf a0 s1=oU Pf a0 s1:=bt (Df _) _ _
theorem UT (a0):f169 Pf a0=rz Pf a0:=cD (Df _) _
theorem Di (a1 a2 s11 s12):mF Pf a1 a2 s11 s12=oT Pf a1 a2 s11 s12:=eP (Df _) _ _ _ _
theorem UP (a0 a1 a2):f100 Pf a0 a1 a2=vg Pf a0 a1 a2:=cy (Df _) _ _ _
theorem Xm (a0):f58 Pf a0=vM Pf a0:=cD (Df _) _
theorem agM (a0 a1):f103 Pf a0 a1=AB Pf a0 a1:=bt (Df _) _ _
theorem Nd (a0 a1 s1):B3 Pf a0 a1 s1=rX Pf a0 a1 s1:=cy (Df _) _ _ _
theorem aa6 (a0 a1):CD Pf a0 a1=sI Pf a0 a1:=bt (Df _) _ _
theorem aa5 (a0 a1):CC Pf a0 a1=wR Pf a0 a1:=bt (Df _) _ _
theorem Tt (a0 s8):qS Pf a0 s8=uz Pf a0 s8:=bt (Df _) _ _
theorem e59 (a0):f59 Pf a0=Bv Pf a0:=cD (Df _) _
theorem agE (a0 a1):f104 Pf a0 a1=Av Pf a0 a1:=bt (Df _) _ _
theorem agF (a0):f105 Pf a0=Aw Pf a0:=cD (Df _) _
theorem agG (a0):f106 Pf a0=Ax Pf a0:=cD (Df _) _
theorem Tp (a1 s9 y28 s31 s32):ph Pf a1 s9 y28 s31 s32=uw Pf a1 s9 y28 s31 s32:=gY (Df _) _ _ _ _ _
theorem Tq (a1 s9 y28 s41 s42):lS Pf a1 s9 y28 s41 s42=ux Pf a1 s9 y28 s41 s42:=gY (Df _) _ _ _ _ _
theorem Ts (a0 a1 s3 s4 s9):qR Pf a0 a1 s3 s4 s9=uy Pf a0 a1 s3 s4 s9:=gY (Df _) _ _ _ _ _
theorem e60 (a0 a1):f60 Pf a0 a1=Bs Pf a0 a1:=bt (Df _) _ _
theorem agL (a0):f112 Pf a0=Es Pf a0:=cD (Df _) _
theorem agK (a0):f113 Pf a0=Et Pf a0:=cD (Df _) _
theorem e62 (a0 a1):f62 Pf a0 a1=Bu Pf a0 a1:=bt (Df _) _ _
theorem agC (a0 a1):f228 Pf a0 a1=Ar Pf a0 a1:=bt (Df _) _ _
theorem Nc (a0 a1 s1):B4 Pf a0 a1 s1=rW Pf a0 a1 s1:=cy (Df _) _ _ _
theorem aa3 (a0 a1):CB Pf a0 a1=sH Pf a0 a1:=bt (Df _) _ _
theorem agz (a0 a1):f180 Pf a0 a1=Ap Pf a0 a1:=bt (Df _) _ _
theorem agJ (a0):f179 Pf a0=AA Pf a0:=cD (Df _) _
theorem ag5 (a0):f279 Pf a0=AM Pf a0:=cD (Df _) _
theorem Rs (a0 a1 s1):Dq Pf a0 a1 s1=tO Pf a0 a1 s1:=cy (Df _) _ _ _
theorem agA (a0 a1):f315 Pf a0 a1=vd Pf a0 a1:=bt (Df _) _ _
theorem agB (a0 a1):f281 Pf a0 a1=Aq Pf a0 a1:=bt (Df _) _ _
theorem ag6 (a0 a1 a2):f280 Pf a0 a1 a2=AN Pf a0 a1 a2:=cy (Df _) _ _ _
theorem Bd (a0):f51 Pf a0=Bt Pf a0:=cD (Df _) _
theorem ae7 (a0):IF Pf a0=yA Pf a0:=cD (Df _) _
theorem ae6 (a0):IG Pf a0=yy Pf a0:=cD (Df _) _
theorem Rt (a0 y1 y16 s17 s22 s23):xz Pf a0 y1 y16 s17 s22 s23=tP Pf a0 y1 y16 s17 s22 s23:=vG (Df _) _ _ _ _ _ _
theorem Ru (a0 y1 y2 s3 s9):xA Pf a0 y1 y2 s3 s9=tQ Pf a0 y1 y2 s3 s9:=gY (Df _) _ _ _ _ _
theorem agH (a0):f178 Pf a0=Ay Pf a0:=cD (Df _) _
theorem agD (a0):f317 Pf a0=Au Pf a0:=cD (Df _) _
theorem adK (a0 a1 s2):Dr Pf a0 a1 s2=Ds Pf a0 a1 s2:=cy (Df _) _ _ _
theorem agO (a0 a1):f234 Pf a0 a1=Eu Pf a0 a1:=bt (Df _) _ _
theorem agP (a0 a1):f236 Pf a0 a1=AD Pf a0 a1:=bt (Df _) _ _
theorem Ny (a0 a1 s2):r8 Pf a0 a1 s2=r9 Pf a0 a1 s2:=cy (Df _) _ _ _
theorem ace (a0 a1):CX Pf a0 a1=xh Pf a0 a1:=bt (Df _) _ _
theorem agQ (a0 a1):f181 Pf a0 a1=AF Pf a0 a1:=bt (Df _) _ _
theorem Nz (a0 a1 s2):sc Pf a0 a1 s2=sd Pf a0 a1 s2:=cy (Df _) _ _ _
theorem acf (a0 a1):CY Pf a0 a1=xi Pf a0 a1:=bt (Df _) _ _
theorem agI (a0 a1):f114 Pf a0 a1=Az Pf a0 a1:=bt (Df _) _ _
theorem ags (a0 a1 a2):f111 Pf a0 a1 a2=Ah Pf a0 a1 a2:=cy (Df _) _ _ _
theorem ag7 (a0 a1 a2):f177 Pf a0 a1 a2=AO Pf a0 a1 a2:=cy (Df _) _ _ _
theorem agt (a0 a1 a2 a3 a4 a5):f229 Pf a0 a1 a2 a3 a4 a5=Ai Pf a0 a1 a2 a3 a4 a5:=vG (Df _) _ _ _ _ _ _
theorem RA (a0 a1 a2 s159 s171):mH Pf a0 a1 a2 s159 s171=tW Pf a0 a1 a2 s159 s171:=gY (Df _) _ _ _ _ _
theorem RB (a0 a1 a2 s186 s198):oV Pf a0 a1 a2 s186 s198=tX Pf a0 a1 a2 s186 s198:=gY (Df _) _ _ _ _ _
theorem ag8 (a0 a1 a2):f230 Pf a0 a1 a2=AS Pf a0 a1 a2:=cy (Df _) _ _ _
theorem Rq (a1 a2 s4 s26 s27):nB Pf a1 a2 s4 s26 s27=tM Pf a1 a2 s4 s26 s27:=gY (Df _) _ _ _ _ _
theorem Rr (a0 a1 a2 s3 s4 s5):qD Pf a0 a1 a2 s3 s4 s5=tN Pf a0 a1 a2 s3 s4 s5:=vG (Df _) _ _ _ _ _ _
theorem agy (a0 a1 a2):f283 Pf a0 a1 a2=Ao Pf a0 a1 a2:=cy (Df _) _ _ _
theorem agx (a0 a1):f284 Pf a0 a1=An Pf a0 a1:=bt (Df _) _ _
theorem agw (a0 a1 a2 a3 a4 a5):f316 Pf a0 a1 a2 a3 a4 a5=Am Pf a0 a1 a2 a3 a4 a5:=vG (Df _) _ _ _ _ _ _
theorem agv (a0 a1 a2 a3):f286 Pf a0 a1 a2 a3=Ak Pf a0 a1 a2 a3:=eP (Df _) _ _ _ _
theorem ag9 (a0 a1 a2):f231 Pf a0 a1 a2=AT Pf a0 a1 a2:=cy (Df _) _ _ _
theorem agu (a0 a1 a2 a3 a4):f285 Pf a0 a1 a2 a3 a4=Aj Pf a0 a1 a2 a3 a4:=gY (Df _) _ _ _ _ _
theorem e61 (a0 a1 a2 a3):f61 Pf a0 a1 a2 a3=Bx Pf a0 a1 a2 a3:=eP (Df _) _ _ _ _
theorem e63 (a0 a1):f63 Pf a0 a1=By Pf a0 a1:=bt (Df _) _ _
theorem Oj (a0 a1 s2):sq Pf a0 a1 s2=sr Pf a0 a1 s2:=cy (Df _) _ _ _
theorem adM (a0 a1):Dt Pf a0 a1=xD Pf a0 a1:=bt (Df _) _ _
theorem e25 (a0 a1):f25 Pf a0 a1=Bz Pf a0 a1:=bt (Df _) _ _
theorem af8 (a0 a1 a2 a3 a4):f116 Pf a0 a1 a2 a3 a4=zT Pf a0 a1 a2 a3 a4:=gY (Df _) _ _ _ _ _
theorem Rl (a0 a1 s3):oQ Pf a0 a1 s3=tI Pf a0 a1 s3:=cy (Df _) _ _ _
theorem agp (a0 a1):f117 Pf a0 a1=Ae Pf a0 a1:=bt (Df _) _ _
theorem Rm (a0 a1 s1):oR Pf a0 a1 s1=tJ Pf a0 a1 s1:=cy (Df _) _ _ _
theorem agq (a0 a1):f118 Pf a0 a1=vc Pf a0 a1:=bt (Df _) _ _
theorem Rg (a0 s1 s2):xw Pf a0 s1 s2=tF Pf a0 s1 s2:=cy (Df _) _ _ _
theorem af' (a0):f183 Pf a0=u9 Pf a0:=cD (Df _) _
theorem aga (a0 a1):f288 Pf a0 a1=zU Pf a0 a1:=bt (Df _) _ _
theorem Zv (s5 s6 s7):fF Pf s5 s6 s7=Ca Pf s5 s6 s7:=cy (Df _) _ _ _
theorem ab4 (a0 a1):G6 Pf a0 a1=xd Pf a0 a1:=bt (Df _) _ _
theorem agc (a0 a1):f242 Pf a0 a1=zX Pf a0 a1:=bt (Df _) _ _
theorem age (a0 a1):f185 Pf a0 a1=zZ Pf a0 a1:=bt (Df _) _ _
theorem adD (a0 s1 s2 x4 y7 y9 x12 y14 x16 s18 s19):Dv Pf a0 s1 s2 x4 y7 y9 x12 y14 x16 s18 s19=xu Pf a0 s1 s2 x4 y7 y9 x12 y14 x16 s18 s19:=aff (Df _) _ _ _ _ _ _ _ _ _ _ _
theorem adE (a0 s1 s2 x4 y7 y9 x26 s28 s29):Dw Pf a0 s1 s2 x4 y7 y9 x26 s28 s29=xv Pf a0 s1 s2 x4 y7 y9 x26 s28 s29:=Xd (Df _) _ _ _ _ _ _ _ _ _
theorem Rf (a0 s1 s2):nA Pf a0 s1 s2=tE Pf a0 s1 s2:=cy (Df _) _ _ _
theorem af9 (a0):f119 Pf a0=u7 Pf a0:=cD (Df _) _
theorem adB (a0 s4 s7):xq Pf a0 s4 s7=Dx Pf a0 s4 s7:=cy (Df _) _ _ _
theorem adC (a0 s15 s18):xr Pf a0 s15 s18=Dy Pf a0 s15 s18:=cy (Df _) _ _ _
theorem af6 (a0):f121 Pf a0=zO Pf a0:=cD (Df _) _
theorem af4 (a0 a1):f120 Pf a0 a1=zN Pf a0 a1:=bt (Df _) _ _
theorem Tn (a0 a1 s43):pg Pf a0 a1 s43=uv Pf a0 a1 s43:=cy (Df _) _ _ _
theorem Tm (a0 a1 s59):pf Pf a0 a1 s59=uq Pf a0 a1 s59:=cy (Df _) _ _ _
theorem e64 (a0 a1):f64 Pf a0 a1=Bq Pf a0 a1:=bt (Df _) _ _
theorem e26 (a0 a1):f26 Pf a0 a1=Br Pf a0 a1:=bt (Df _) _ _
theorem afp (a0):f124 Pf a0=yK Pf a0:=cD (Df _) _
theorem Zp (a0 s1):wB Pf a0 s1=wC Pf a0 s1:=bt (Df _) _ _
theorem abR (a0):G7 Pf a0=sM Pf a0:=cD (Df _) _
theorem abQ (a0):wZ Pf a0=w4 Pf a0:=cD (Df _) _
theorem e65 (a0 a1):f65 Pf a0 a1=Bk Pf a0 a1:=bt (Df _) _ _
theorem Ta (a0 a1 s2):qK Pf a0 a1 s2=uf Pf a0 a1 s2:=cy (Df _) _ _ _
theorem e27 (a0 a1):f27 Pf a0 a1=Bc Pf a0 a1:=bt (Df _) _ _
theorem Lw (a0 a1 a2 a3 a4):f36 Pf a0 a1 a2 a3 a4=rI Pf a0 a1 a2 a3 a4:=gY (Df _) _ _ _ _ _
theorem afu (a0):f138 Pf a0=yR Pf a0:=cD (Df _) _
theorem afv (a0):f139 Pf a0=yS Pf a0:=cD (Df _) _
theorem af7 (a0):f202 Pf a0=zQ Pf a0:=cD (Df _) _
theorem afq (a0):f140 Pf a0=yM Pf a0:=cD (Df _) _
theorem vK (a0 a1):f87 Pf a0 a1=kF Pf a0 a1:=bt (Df _) _ _
theorem agm (a0 a1):f203 Pf a0 a1=Ad Pf a0 a1:=bt (Df _) _ _
theorem agl (a0 a1):f142 Pf a0 a1=Ac Pf a0 a1:=bt (Df _) _ _
theorem HF (a0 a1 s1):Dz Pf a0 a1 s1=qp Pf a0 a1 s1:=cy (Df _) _ _ _
theorem afJ (a0 a1):f191 Pf a0 a1=uZ Pf a0 a1:=bt (Df _) _ _
theorem afK (a0 a1):f127 Pf a0 a1=zj Pf a0 a1:=bt (Df _) _ _
theorem agf (a0 a1):f251 Pf a0 a1=z6 Pf a0 a1:=bt (Df _) _ _
theorem afQ (a0 a1):f250 Pf a0 a1=zx Pf a0 a1:=bt (Df _) _ _
theorem Y' (a0 a1 s1):wo Pf a0 a1 s1=wq Pf a0 a1 s1:=cy (Df _) _ _ _
theorem aaV (a0 a1):GB Pf a0 a1=sG Pf a0 a1:=bt (Df _) _ _
theorem aaU (a0 a1):GC Pf a0 a1=wO Pf a0 a1:=bt (Df _) _ _
theorem afR (a0 a1):f192 Pf a0 a1=zy Pf a0 a1:=bt (Df _) _ _
theorem Q4 (a0 a1 a2 s9):qv Pf a0 a1 a2 s9=tn Pf a0 a1 a2 s9:=eP (Df _) _ _ _ _
theorem Q5 (a0 a1 a2 s24):qw Pf a0 a1 a2 s24=tp Pf a0 a1 a2 s24:=eP (Df _) _ _ _ _
theorem Q6 (a1 a2 s59):qx Pf a1 a2 s59=tq Pf a1 a2 s59:=cy (Df _) _ _ _
theorem afS (a0 a1 a2):f128 Pf a0 a1 a2=zA Pf a0 a1 a2:=cy (Df _) _ _ _
theorem e69 (a0 a1 a2):f69 Pf a0 a1 a2=Bo Pf a0 a1 a2:=cy (Df _) _ _ _
theorem afL (a0):f188 Pf a0=zm Pf a0:=cD (Df _) _
theorem tH (a2 a3 a4 s3 s4 s5):fq Pf a2 a3 a4 s3 s4 s5=mE Pf a2 a3 a4 s3 s4 s5:=vG (Df _) _ _ _ _ _ _
theorem agk (a0 a1 a2 a3 a4):f291 Pf a0 a1 a2 a3 a4=Ab Pf a0 a1 a2 a3 a4:=gY (Df _) _ _ _ _ _
theorem agj (a0 a1):f247 Pf a0 a1=Aa Pf a0 a1:=bt (Df _) _ _
theorem afT (a0 a1):f309 Pf a0 a1=zB Pf a0 a1:=bt (Df _) _ _
theorem Q7 (a0 a1 s1 s2):tr Pf a0 a1 s1 s2=tu Pf a0 a1 s1 s2:=eP (Df _) _ _ _ _
theorem afV (a0 a1):f321 Pf a0 a1=u4 Pf a0 a1:=bt (Df _) _ _
theorem afW (a0 a1):f299 Pf a0 a1=zE Pf a0 a1:=bt (Df _) _ _
theorem Q8 (a0 a1 s4 s5 s6):qy Pf a0 a1 s4 s5 s6=tv Pf a0 a1 s4 s5 s6:=gY (Df _) _ _ _ _ _
theorem afX (a0 a1):f264 Pf a0 a1=zG Pf a0 a1:=bt (Df _) _ _
theorem af0 (a0):f301 Pf a0=zI Pf a0:=cD (Df _) _
theorem Ra (a0 a1 s4):qz Pf a0 a1 s4=tA Pf a0 a1 s4:=cy (Df _) _ _ _
theorem afZ (a0 a1):f322 Pf a0 a1=zH Pf a0 a1:=bt (Df _) _ _
theorem Nw (a0 a1 m1 s4 s5 s6 s7 s8):ov Pf a0 a1 m1 s4 s5 s6 s7 s8=r7 Pf a0 a1 m1 s4 s5 s6 s7 s8:=ap8 (Df _) _ _ _ _ _ _ _ _
theorem Zs (a0 a1 m1 s4 s5 s6 s7):rZ Pf a0 a1 m1 s4 s5 s6 s7=r6 Pf a0 a1 m1 s4 s5 s6 s7:=ap7 (Df _) _ _ _ _ _ _ _
theorem ab2 (a0 a1):G8 Pf a0 a1=xb Pf a0 a1:=bt (Df _) _ _
theorem af2 (a0 a1):f266 Pf a0 a1=zJ Pf a0 a1:=bt (Df _) _ _
theorem Q9 (a0 a1 s1 s2):oP Pf a0 a1 s1 s2=tz Pf a0 a1 s1 s2:=eP (Df _) _ _ _ _
theorem afY (a0 a1):f265 Pf a0 a1=u5 Pf a0 a1:=bt (Df _) _ _
theorem Re (a0 a1 a2 s1 s2 y8 s10 s11 s13 x15 y17 y19 s20 s21 s22):qC Pf a0 a1 a2 s1 s2 y8 s10 s11 s13 x15 y17 y19 s20 s21 s22=tD Pf a0 a1 a2 s1 s2 y8 s10 s11 s13 x15 y17 y19 s20 s21 s22:=afg (Df _) _ _ _ _ _ _ _ _ _ _ _ _ _ _ _
theorem Rc (a0 a1 a2 s1 s2 y8 s10 s11 s13):qB Pf a0 a1 a2 s1 s2 y8 s10 s11 s13=tC Pf a0 a1 a2 s1 s2 y8 s10 s11 s13:=Xd (Df _) _ _ _ _ _ _ _ _ _
theorem Rb (a0 a1 a2 s1 s2):qA Pf a0 a1 a2 s1 s2=tB Pf a0 a1 a2 s1 s2:=gY (Df _) _ _ _ _ _
theorem af1 (a0 a1 a2):f207 Pf a0 a1 a2=u6 Pf a0 a1 a2:=cy (Df _) _ _ _
theorem afP (a0 a1):f292 Pf a0 a1=zw Pf a0 a1:=bt (Df _) _ _
theorem Y9 (a0 a1 s1):wj Pf a0 a1 s1=wm Pf a0 a1 s1:=cy (Df _) _ _ _
theorem aaT (a0 a1):GD Pf a0 a1=sF Pf a0 a1:=bt (Df _) _ _
theorem aaS (a0 a1):Cy Pf a0 a1=wN Pf a0 a1:=bt (Df _) _ _
theorem Q3 (a0 a1 s9 s10):oO Pf a0 a1 s9 s10=tm Pf a0 a1 s9 s10:=eP (Df _) _ _ _ _
theorem Q2 (a0 a1 s1 s2):oN Pf a0 a1 s1 s2=tj Pf a0 a1 s1 s2:=eP (Df _) _ _ _ _
theorem afO (a0 a1):f248 Pf a0 a1=u0 Pf a0 a1:=bt (Df _) _ _
theorem QY (a0 a1 a2 y9 s10 s13):mD Pf a0 a1 a2 y9 s10 s13=tf Pf a0 a1 a2 y9 s10 s13:=vG (Df _) _ _ _ _ _ _
theorem QZ (a0 a1 a2 s37 s40):qu Pf a0 a1 a2 s37 s40=th Pf a0 a1 a2 s37 s40:=gY (Df _) _ _ _ _ _
theorem afN (a0 a1 a2):f189 Pf a0 a1 a2=zt Pf a0 a1 a2:=cy (Df _) _ _ _
theorem Xk (a0):f92 Pf a0=vL Pf a0:=cD (Df _) _
theorem QW (a0 y1 s12 s15 s16):oM Pf a0 y1 s12 s15 s16=tc Pf a0 y1 s12 s15 s16:=gY (Df _) _ _ _ _ _
theorem QX (a0 y1 s2 s5):qn Pf a0 y1 s2 s5=te Pf a0 y1 s2 s5:=eP (Df _) _ _ _ _
theorem afI (a0):f190 Pf a0=zh Pf a0:=cD (Df _) _
theorem HH (a0 a1 s4 s5):DA Pf a0 a1 s4 s5=qq Pf a0 a1 s4 s5:=eP (Df _) _ _ _ _
theorem afM (a0 a1):f126 Pf a0 a1=zr Pf a0 a1:=bt (Df _) _ _
theorem e68 (a0 a1 a2):f68 Pf a0 a1 a2=Bp Pf a0 a1 a2:=cy (Df _) _ _ _
theorem afw (a0):f144 Pf a0=yV Pf a0:=cD (Df _) _
theorem agr (a0 a1):f148 Pf a0 a1=Af Pf a0 a1:=bt (Df _) _ _
theorem afF (a0 a1):f262 Pf a0 a1=zd Pf a0 a1:=bt (Df _) _ _
theorem Nb (a0 a1 s1):pW Pf a0 a1 s1=rV Pf a0 a1 s1:=cy (Df _) _ _ _
theorem aaR (a0 a1):Cw Pf a0 a1=sE Pf a0 a1:=bt (Df _) _ _
theorem QV (a0 s4 s5 s6):oL Pf a0 s4 s5 s6=sZ Pf a0 s4 s5 s6:=eP (Df _) _ _ _ _
theorem afG (a0 a1):f206 Pf a0 a1=zf Pf a0 a1:=bt (Df _) _ _
theorem af3 (a0 a1):f149 Pf a0 a1=zK Pf a0 a1:=bt (Df _) _ _
theorem afC:f267 Pf=yZ Pf:=Df _
theorem agb (a0 a1):f272 Pf a0 a1=zW Pf a0 a1:=bt (Df _) _ _
theorem Zw (s5 s6 s7):fG Pf s5 s6 s7=Cb Pf s5 s6 s7:=cy (Df _) _ _ _
theorem ab5 (a0 a1):G9 Pf a0 a1=xe Pf a0 a1:=bt (Df _) _ _
theorem agd (a0 a1):f209 Pf a0 a1=zY Pf a0 a1:=bt (Df _) _ _
theorem adt (a0 s1 s2):xn Pf a0 s1 s2=xo Pf a0 s1 s2:=cy (Df _) _ _ _
theorem afA (a0):f269 Pf a0=uX Pf a0:=cD (Df _) _
theorem Rh (a0 a1 s3):xx Pf a0 a1 s3=tG Pf a0 a1 s3:=cy (Df _) _ _ _
theorem agh (a0 a1):f302 Pf a0 a1=z7 Pf a0 a1:=bt (Df _) _ _
theorem agi (a0 a1):f268 Pf a0 a1=z8 Pf a0 a1:=bt (Df _) _ _
theorem afE (a0 a1):f270 Pf a0 a1=zc Pf a0 a1:=bt (Df _) _ _
theorem afD (a0 a1 a2):f208 Pf a0 a1 a2=za Pf a0 a1 a2:=cy (Df _) _ _ _
theorem adu (a0 a2 s3 s4):sY Pf a0 a2 s3 s4=DB Pf a0 a2 s3 s4:=eP (Df _) _ _ _ _
theorem afB (a0 a1 a2):f150 Pf a0 a1 a2=yW Pf a0 a1 a2:=cy (Df _) _ _ _
theorem afs (a0):f151 Pf a0=yO Pf a0:=cD (Df _) _
theorem QQ (a0 s1 s2):ql Pf a0 s1 s2=sT Pf a0 s1 s2:=cy (Df _) _ _ _
theorem afr (a0):f152 Pf a0=uT Pf a0:=cD (Df _) _
theorem UJ (a0):f153 Pf a0=uU Pf a0:=cD (Df _) _
theorem QT (a0 s1 s2 s3):oK Pf a0 s1 s2 s3=sW Pf a0 s1 s2 s3:=eP (Df _) _ _ _ _
theorem afz (a0):f154 Pf a0=uV Pf a0:=cD (Df _) _
theorem Bl (a0 a1):f50 Pf a0 a1=me Pf a0 a1:=bt (Df _) _ _
theorem jZ (a0 a1):f88 Pf a0 a1=gu Pf a0 a1:=bt (Df _) _ _
theorem afx (a0 a1 a2):f141 Pf a0 a1 a2=rp Pf a0 a1 a2:=cy (Df _) _ _ _
theorem LB (a0 a1):f89 Pf a0 a1=n9 Pf a0 a1:=bt (Df _) _ _
theorem Tf (a0 a1 s9 s10):kU Pf a0 a1 s9 s10=pc Pf a0 a1 s9 s10:=eP (Df _) _ _ _ _
theorem Tg (a0 a1 s22 s25):nD Pf a0 a1 s22 s25=pd Pf a0 a1 s22 s25:=eP (Df _) _ _ _ _
theorem H5 (a0 a1 s31 s34):uA Pf a0 a1 s31 s34=nE Pf a0 a1 s31 s34:=eP (Df _) _ _ _ _
theorem pK (a0 a1):f90 Pf a0 a1=ka Pf a0 a1:=bt (Df _) _ _
theorem afy (a0 a1 a2):f146 Pf a0 a1 a2=rq Pf a0 a1 a2:=cy (Df _) _ _ _
theorem QS (a0 a1 s1 s2):mC Pf a0 a1 s1 s2=oJ Pf a0 a1 s1 s2:=eP (Df _) _ _ _ _
theorem aft (a0 a1):f147 Pf a0 a1=pB Pf a0 a1:=bt (Df _) _ _
theorem LC (a0 a1):f91 Pf a0 a1=oc Pf a0 a1:=bt (Df _) _ _
theorem Ti (a0 y1 s12 s15 s16):pe Pf a0 y1 s12 s15 s16=um Pf a0 y1 s12 s15 s16:=gY (Df _) _ _ _ _ _
theorem Tj (a0 y1 s2 s5):qP Pf a0 y1 s2 s5=uo Pf a0 y1 s2 s5:=eP (Df _) _ _ _ _
theorem e52 (a0):f52 Pf a0=Bn Pf a0:=cD (Df _) _
theorem Lx (a0 a1 a2):f23 Pf a0 a1 a2=rJ Pf a0 a1 a2:=cy (Df _) _ _ _
theorem Lz (a0 a1 a2 a3):f12 Pf a0 a1 a2 a3=rL Pf a0 a1 a2 a3:=eP (Df _) _ _ _ _
theorem Ly (a0 a1 a2):f22 Pf a0 a1 a2=rK Pf a0 a1 a2:=cy (Df _) _ _ _
theorem LA (a0 a1 a2 a3):f15 Pf a0 a1 a2 a3=rM Pf a0 a1 a2 a3:=eP (Df _) _ _ _ _
theorem e29 (a0):f29 Pf a0=BA Pf a0:=cD (Df _) _
theorem aeH (a0):H7 Pf a0=xS Pf a0:=cD (Df _) _
theorem Ol (a0 s1):oA Pf a0 s1=sw Pf a0 s1:=bt (Df _) _ _
theorem adN (a0):HN Pf a0=tV Pf a0:=cD (Df _) _
theorem Tb (a0 s3 s4):qM Pf a0 s3 s4=ug Pf a0 s3 s4:=cy (Df _) _ _ _
theorem e71 (a0 a1):f71 Pf a0 a1=Bf Pf a0 a1:=bt (Df _) _ _
theorem e35 (a0 a1):f35 Pf a0 a1=Bg Pf a0 a1:=bt (Df _) _ _
theorem Tc (a0 s13 s14):o8 Pf a0 s13 s14=uh Pf a0 s13 s14:=cy (Df _) _ _ _
theorem Td (a0 s3 s4 s5):qN Pf a0 s3 s4 s5=ui Pf a0 s3 s4 s5:=eP (Df _) _ _ _ _
theorem e66 (a0 a1):f66 Pf a0 a1=Bh Pf a0 a1:=bt (Df _) _ _
theorem e28 (a0 a1):f28 Pf a0 a1=Bi Pf a0 a1:=bt (Df _) _ _
theorem Te (a0 s2):qO Pf a0 s2=uj Pf a0 s2:=bt (Df _) _ _
theorem e30 (a0):f30 Pf a0=Bj Pf a0:=cD (Df _) _
theorem e11 (a0 a1 a2):f11 Pf a0 a1 a2=Be Pf a0 a1 a2:=cy (Df _) _ _ _
theorem e73 (a0 a1):f73 Pf a0 a1=BB Pf a0 a1:=bt (Df _) _ _
theorem RC (a0 a1 s1):qH Pf a0 a1 s1=tY Pf a0 a1 s1:=cy (Df _) _ _ _
theorem ag' (a0 a1):f129 Pf a0 a1=vn Pf a0 a1:=bt (Df _) _ _
theorem e74 (a0 a1):f74 Pf a0 a1=BC Pf a0 a1:=bt (Df _) _ _
theorem Tu (a0 a1 s82):pj Pf a0 a1 s82=uB Pf a0 a1 s82:=cy (Df _) _ _ _
theorem Tv (a0 a1 s57 s58):pk Pf a0 a1 s57 s58=uC Pf a0 a1 s57 s58:=eP (Df _) _ _ _ _
theorem Tw (a0 a1 s3 s4):qT Pf a0 a1 s3 s4=uD Pf a0 a1 s3 s4:=eP (Df _) _ _ _ _
theorem e38 (a0 a1):f38 Pf a0 a1=BD Pf a0 a1:=bt (Df _) _ _
theorem e14 (a0 a1):f14 Pf a0 a1=BE Pf a0 a1:=bt (Df _) _ _
theorem Tx (a0 a1 s2):pn Pf a0 a1 s2=uE Pf a0 a1 s2:=cy (Df _) _ _ _
theorem e75 (a0 a1):f75 Pf a0 a1=BF Pf a0 a1:=bt (Df _) _ _
theorem e39 (a0 a1):f39 Pf a0 a1=BG Pf a0 a1:=bt (Df _) _ _
theorem e17 (a0 a1):f17 Pf a0 a1=BH Pf a0 a1:=bt (Df _) _ _
theorem e7 (a0 a1 a2 a3 a4):f7 Pf a0 a1 a2 a3 a4=B7 Pf a0 a1 a2 a3 a4:=gY (Df _) _ _ _ _ _
theorem e8 (a0 a1 a2 a3 a4):f8 Pf a0 a1 a2 a3 a4=B8 Pf a0 a1 a2 a3 a4:=gY (Df _) _ _ _ _ _
theorem e6 (a0 a1 a2 a3):f6 Pf a0 a1 a2 a3=B6 Pf a0 a1 a2 a3:=eP (Df _) _ _ _ _
theorem Ei:f204 Pf=va:=Df _
theorem UK:f210 Pf=uW:=Df _
theorem UU:f239 Pf=vo:=Df _
theorem PU:G' Pf=sN:=Df _
theorem UM:f184 Pf=vp Pu:=Df _
theorem af5:f186 Pf=rB Pu:=Df _
theorem agn:f244 Pf=vq Pu:=Df _
theorem ago:f259 Pf=vt Pu:=Df _
theorem afU:f319 Pf=vu Pu:=Df _
theorem afH:I8 Pf=pD Pu:=Df _
