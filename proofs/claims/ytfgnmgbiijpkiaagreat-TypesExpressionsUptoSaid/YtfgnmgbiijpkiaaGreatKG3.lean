/- Printed by a program: what functions answer, and that they do. -/
import Derived.Test.YtfgnmgbiijpkiaaGreatKG1
set_option linter.all false
set_option maxRecDepth 100000
noncomputable section
namespace Go.Proofs.YtfgnmgbiijpkiaaGreat
open Go Go.Bw
abbrev ny (f:Fs):GC:=λa0 a1 a2 s106 s118 s124 s125 s137 s138=>(bif decide (s125<(↑(ae.rows a1.Kids).length:Int))then(bif s138.Code==0 then(mi f a0 a1 a2 s106 s118 s124 s125 s137 s138 0)else(some (({Op:=25,ak:=a2,N:=0,Text:=[],At:=0,Kids:=s137:ab},s138))))else(some (({Op:=25,ak:=a2,N:=0,Text:=[],At:=0,Kids:=s137:ab},s138))))
abbrev pG (f:Fs):GD:=λa0 a1 a2 s106 s118=>(bif decide (s106<(↑(bn a2.aj.Names).length:Int))then((ax a2.aj.aB s106).bind λx120=>((f87 f x120).bind λy122=>(bif decide (((s118:List ab)++([{Op:=6,ak:=y122,N:=0,Text:=[],At:=a1.At,Kids:=[]:ab}]:List ab)).length<=274877906944)then(nz f a0 a1 a2 (IntKind.i64.wrap (s106+1)) (s118++[{Op:=6,ak:=y122,N:=0,Text:=[],At:=a1.At,Kids:=[]:ab}]))else none)))else(kK f a0 a1 a2 s106 s118 ([]) 0 s118 aK.z))
abbrev kn (f:Fs):BU:=λa0 a1 a2=>(bif a1.Text==[102,108,97,103]then(bif !a2.aj.Kind==1 then((f41 f 4 a1.At).bind λy3=>(some (({Op:=0,ak:=a2,N:=0,Text:=[],At:=0,Kids:=[]:ab},y3))))else((f88 f 2).bind λy4=>((f163 f a0 a1.Kids ([y4])).bind λy5=>(some (({Op:=21,ak:=a2,N:=0,Text:=[],At:=0,Kids:=y5.fst:ab},y5.snd))))))else(bif a1.Text==[110,117,109]then(bif a2.aj.Kind==2 then((f88 f 1).bind λy8=>((f163 f a0 a1.Kids ([y8])).bind λy9=>(some (({Op:=22,ak:=a2,N:=0,Text:=[],At:=0,Kids:=y9.fst:ab},y9.snd)))))else(bif !a2.aj.Kind==3 then((f41 f 4 a1.At).bind λy11=>(some (({Op:=0,ak:=a2,N:=0,Text:=[],At:=0,Kids:=[]:ab},y11))))else((f88 f 1).bind λy12=>((f163 f a0 a1.Kids ([y12])).bind λy13=>(some (({Op:=22,ak:=a2,N:=0,Text:=[],At:=0,Kids:=y13.fst:ab},y13.snd)))))))else(bif a1.Text==[115,101,116]then(bif a2.aj.Kind==4 then(jj f a0 a1 a2 0 ([]) aK.z)else(bif !a2.aj.Kind==10 then((f41 f 4 a1.At).bind λy46=>(some (({Op:=0,ak:=a2,N:=0,Text:=[],At:=0,Kids:=[]:ab},y46))))else(jk f a0 a1 a2 0 ([]) aK.z)))else(bif a1.Text==[109,97,112]then(bif !a2.aj.Kind==5 then((f41 f 4 a1.At).bind λy78=>(some (({Op:=0,ak:=a2,N:=0,Text:=[],At:=0,Kids:=[]:ab},y78))))else(nr f a0 a1 a2 0 ([]) aK.z))else(bif a1.Text==[114,101,99]then(bif !a2.aj.Kind==6 then((f41 f 4 a1.At).bind λy105=>(some (({Op:=0,ak:=a2,N:=0,Text:=[],At:=0,Kids:=[]:ab},y105))))else(nz f a0 a1 a2 0 ([])))else(bif a1.Text==[112,97,105,114]then(bif !a2.aj.Kind==7 then((f41 f 4 a1.At).bind λy198=>(some (({Op:=0,ak:=a2,N:=0,Text:=[],At:=0,Kids:=[]:ab},y198))))else((ax a2.aj.aB 0).bind λx199=>((f87 f x199).bind λy201=>((ax a2.aj.aB 1).bind λx202=>((f87 f x202).bind λy204=>((f163 f a0 a1.Kids ([y201,y204])).bind λy205=>(some (({Op:=26,ak:=a2,N:=0,Text:=[],At:=0,Kids:=y205.fst:ab},y205.snd)))))))))else(bif a1.Text==[111,110,101]then(bif !a2.aj.Kind==8 then((f41 f 4 a1.At).bind λy208=>(some (({Op:=0,ak:=a2,N:=0,Text:=[],At:=0,Kids:=[]:ab},y208))))else((f88 f 3).bind λy209=>((f163 f a0 a1.Kids ([y209])).bind λy210=>(some (({Op:=27,ak:=a2,N:=0,Text:=[],At:=0,Kids:=y210.fst:ab},y210.snd))))))else((f41 f 4 a1.At).bind λy211=>(some (({Op:=0,ak:=a2,N:=0,Text:=[],At:=0,Kids:=[]:ab},y211)))))))))))
abbrev sX (f:Fs):BV:=λa0 a1=>((ax a1.Kids 0).bind λx1=>((f49 f a0 x1 az.z).bind λy3=>(bif y3.snd.Code !=0 then(some ((ab.z,y3.snd)))else(bif a1.Text==[115,105,122,101]then((f88 f 1).bind λy6=>(bif y3.fst.ak.aS==4 then(some (({Op:=29,ak:=y6,N:=0,Text:=[],At:=0,Kids:=[y3.fst]:ab},y3.snd)))else(bif y3.fst.ak.aj.Kind==4 then(some (({Op:=29,ak:=y6,N:=0,Text:=[],At:=0,Kids:=[y3.fst]:ab},y3.snd)))else(bif y3.fst.ak.aj.Kind==5 then(some (({Op:=29,ak:=y6,N:=0,Text:=[],At:=0,Kids:=[y3.fst]:ab},y3.snd)))else(bif y3.fst.ak.aj.Kind==9 then(some (({Op:=29,ak:=y6,N:=0,Text:=[],At:=0,Kids:=[y3.fst]:ab},y3.snd)))else(bif !y3.fst.ak.aj.Kind==10 then((f41 f 4 a1.At).bind λy12=>(some ((ab.z,y12))))else(some (({Op:=29,ak:=y6,N:=0,Text:=[],At:=0,Kids:=[y3.fst]:ab},y3.snd)))))))))else(bif a1.Text==[115,117,109]then((f88 f 1).bind λy14=>(bif y3.fst.ak.aj.Kind==5 then((ax y3.fst.ak.aj.aB 0).bind λx16=>(bif x16.Kind==2 then(some (({Op:=30,ak:=y14,N:=0,Text:=[],At:=0,Kids:=[y3.fst]:ab},y3.snd)))else((ax y3.fst.ak.aj.aB 0).bind λx19=>(bif !x19.Kind==3 then((f41 f 4 a1.At).bind λy22=>(some ((ab.z,y22))))else(some (({Op:=30,ak:=y14,N:=0,Text:=[],At:=0,Kids:=[y3.fst]:ab},y3.snd)))))))else((f41 f 4 a1.At).bind λy23=>(some ((ab.z,y23))))))else(bif a1.Text==[110,117,109,98,101,114]then((f88 f 1).bind λy25=>(bif y3.fst.ak.aj.Kind==2 then(some (({Op:=31,ak:=y25,N:=0,Text:=[],At:=0,Kids:=[y3.fst]:ab},y3.snd)))else(bif !y3.fst.ak.aj.Kind==3 then((f41 f 4 a1.At).bind λy28=>(some ((ab.z,y28))))else(some (({Op:=31,ak:=y25,N:=0,Text:=[],At:=0,Kids:=[y3.fst]:ab},y3.snd))))))else(bif a1.Text==[111,110]then((f88 f 2).bind λy30=>(bif !y3.fst.ak.aj.Kind==1 then((f41 f 4 a1.At).bind λy32=>(some ((ab.z,y32))))else(some (({Op:=32,ak:=y30,N:=0,Text:=[],At:=0,Kids:=[y3.fst]:ab},y3.snd)))))else(bif a1.Text==[107,101,121,115]then((f88 f 4).bind λy34=>(bif y3.fst.ak.aj.Kind==5 then(some (({Op:=33,ak:=y34,N:=0,Text:=[],At:=0,Kids:=[y3.fst]:ab},y3.snd)))else(bif y3.fst.ak.aj.Kind==4 then(some (({Op:=33,ak:=y34,N:=0,Text:=[],At:=0,Kids:=[y3.fst]:ab},y3.snd)))else(bif !y3.fst.ak.aj.Kind==10 then((f41 f 4 a1.At).bind λy38=>(some ((ab.z,y38))))else(some (({Op:=33,ak:=y34,N:=0,Text:=[],At:=0,Kids:=[y3.fst]:ab},y3.snd)))))))else(bif a1.Text==[118,97,108,117,101,115]then((f88 f 4).bind λy40=>(bif y3.fst.ak.aj.Kind==8 then(some (({Op:=34,ak:=y40,N:=0,Text:=[],At:=0,Kids:=[y3.fst]:ab},y3.snd)))else(bif !y3.fst.ak.aj.Kind==9 then((f41 f 4 a1.At).bind λy43=>(some ((ab.z,y43))))else(some (({Op:=34,ak:=y40,N:=0,Text:=[],At:=0,Kids:=[y3.fst]:ab},y3.snd))))))else(bif a1.Text==[99,111,110,102,108,105,99,116]then((f88 f 2).bind λy45=>(bif y3.fst.ak.aj.Kind==8 then(some (({Op:=37,ak:=y45,N:=0,Text:=[],At:=0,Kids:=[y3.fst]:ab},y3.snd)))else(bif !y3.fst.ak.aj.Kind==9 then((f41 f 4 a1.At).bind λy48=>(some ((ab.z,y48))))else(some (({Op:=37,ak:=y45,N:=0,Text:=[],At:=0,Kids:=[y3.fst]:ab},y3.snd))))))else(bif a1.Text==[102,105,114,115,116]then(bif y3.fst.ak.aj.Kind==7 then((ax y3.fst.ak.aj.aB 0).bind λx51=>((f87 f x51).bind λy53=>(some (({Op:=35,ak:=y53,N:=0,Text:=[],At:=0,Kids:=[y3.fst]:ab},y3.snd)))))else((f41 f 4 a1.At).bind λy54=>(some ((ab.z,y54)))))else(bif a1.Text==[115,101,99,111,110,100]then(bif y3.fst.ak.aj.Kind==7 then((ax y3.fst.ak.aj.aB 1).bind λx57=>((f87 f x57).bind λy59=>(some (({Op:=36,ak:=y59,N:=0,Text:=[],At:=0,Kids:=[y3.fst]:ab},y3.snd)))))else((f41 f 4 a1.At).bind λy60=>(some ((ab.z,y60)))))else((f41 f 4 a1.At).bind λy61=>(some ((ab.z,y61))))))))))))))))
abbrev tZ (f:Fs):Dn:=λa0 a1 a2 a3=>((f49 f ({L:=a0,Params:=a1:cr}) a3 a2).bind λy1=>(some y1))
abbrev B4 (f:Fs):T4:=λa0 a1 a2 a3=>(bif decide ((↑a3.length:Int)>1000)then((f9 f).bind λy2=>(some y2))else((f14 f a1).bind λy3=>(bif !y3 then((f9 f).bind λy5=>(some y5))else((f15 f a0).bind λy6=>(bif y6 !=0 then((f9 f).bind λy8=>(some y8))else((f16 f a2).bind λy9=>(bif !y9 then((f9 f).bind λy11=>(some y11))else((f17 f a3).bind λy12=>(bif y12.snd.Code !=0 then((f9 f).bind λy14=>(some y14))else((f18 f a0 a1 a2 y12.fst).bind λy15=>((f19 f a0 a1 a2 y12.fst).bind λy16=>((f9 f).bind λy17=>(bif y17 then(bif y15.snd.Code==y16.snd.Code&&(y15.snd.At==y16.snd.At&&true)then((f20 f y15.fst y16.fst).bind λy20=>(some y20))else(some false))else(some false))))))))))))))
def wI (x:Us) (f:Fs):wR:=((((vV f,sM f),(oR f,(pd f,gD f))),((vW f,tO f),(iq f,(pv f,qw f)))),(((sN f,qx f),(pw f,(qy f,sO f))),((sC f,sD f),(pY f,(pX f,tP f)))))
def Dr (x:Us) (f:Fs):wS:=((((qz f,vh f),(vY f,(sP f,oU f))),((rI f,sQ f),(oW f,(rJ f,tQ f)))),(((qV f,oE f),(qB f,(zw f,zy f))),((kH f,mc f),(ir f,(mg f,mf f)))))
def wJ (x:Us) (f:Fs):wT:=((((qC f,qD f),(lG f,(mE f,qE f))),((qH f,qZ f),(pZ f,(p0 f,qX f)))),(((vx f,wM f),(p3 f,(p6 f,tR f))),((sS f,py f),(sT f,(pz f,qF f)))))
def wK (x:Us) (f:Fs):wU:=((((pA f,qG f),(pB f,(pC f,pD f))),((sU f,sV f),(tT f,(p7 f,tU f)))),(((tV f,tW f),(p8 f,(qY f,wN f))),((tX f,nJ f),(q0 f,(wO f,wP f)))))
def wL (x:Us) (f:Fs):wV:=((((tY f,iv f),(iX f,(q7 f,nL f))),((qa f,q8 f),(sW f,(pE f,mF f)))),(((iY f,np f),(nq f,(nw f,pF f))),((ny f,pG f),(kn f,(sX f,tZ f)))))
def Ds (x:Us) (f:Fs):wW:=(B4 f,(P9,ua x))
def Qf (x:Us) (f:Fs):Fs:=((wI x f,(Dr x f,wJ x f)),(wK x f,(wL x f,Ds x f)))
def Gf:Nat->Fs
 |0=>PF.bot
 |n+1=>Qf (Gu n) (Gf n)
def Pf:Fs:=PF.lm Gf
theorem Vg {f:Nat->Fs} {p} (h:PF.R f p):PF.R (λn=>wI (Gu n) (f n)) (wI Pu p):=by unfold wI pd qw qy;exact zP h
theorem Vh {f:Nat->Fs} {p} (h:PF.R f p):PF.R (λn=>Dr (Gu n) (f n)) (Dr Pu p):=zP h
theorem Vi {f:Nat->Fs} {p} (h:PF.R f p):PF.R (λn=>wJ (Gu n) (f n)) (wJ Pu p):=by unfold wJ qX qF;exact zP h
theorem Vj {f:Nat->Fs} {p} (h:PF.R f p):PF.R (λn=>wK (Gu n) (f n)) (wK Pu p):=by unfold wK qG qY;exact zP h
theorem Vk {f:Nat->Fs} {p} (h:PF.R f p):PF.R (λn=>wL (Gu n) (f n)) (wL Pu p):=by unfold wL mF;exact zP h
theorem Vl {f:Nat->Fs} {p} (h:PF.R f p):PF.R (λn=>Ds (Gu n) (f n)) (Ds Pu p):=(PF.pair (zM h) (PF.pair zC (PF.K.k _ Xu.1)))
set_option maxHeartbeats 0 in
theorem Xf:PF.Fix Gf (Qf Pu):=PF.fix (Φ:=λn=>Qf (Gu n)) (λf p h=>(PF.pair (PF.pair (Vg h) (PF.pair (Vh h) (Vi h))) (PF.pair (Vj h) (PF.pair (Vk h) (Vl h))))) rfl λ_=>rfl
theorem l4:PF.R (λn=>f4 (Gf n)) (f4 Pf):=PF.K.k _ Xf.1
theorem Df {β:Type} [PF β] (π:PF.K Fs β):π Pf=π (Qf Pu Pf):=congrArg π.f Xf.2
theorem SB (a0):f113 Pf a0=vV Pf a0:=cY (Df _) _
theorem SC (a0 a1):f157 Pf a0 a1=sM Pf a0 a1:=cI (Df _) _ _
theorem Ek (a0 a1 s1):uD Pf a0 a1 s1=oR Pf a0 a1 s1:=dF (Df _) _ _ _
theorem NK (a0 a1):rC Pf a0 a1=pd Pf a0 a1:=cI (Df _) _ _
theorem jE (a0 a1):f80 Pf a0 a1=gD Pf a0 a1:=cI (Df _) _ _
theorem SD (a0):f112 Pf a0=vW Pf a0:=cY (Df _) _
theorem Vm (a0):f92 Pf a0=tO Pf a0:=cY (Df _) _
theorem kY (a0):f197 Pf a0=iq Pf a0:=cY (Df _) _
theorem Gq (a0 a1 s1):ve Pf a0 a1 s1=pv Pf a0 a1 s1:=dF (Df _) _ _ _
theorem SE (a0 a1):f236 Pf a0 a1=qw Pf a0 a1:=cI (Df _) _ _
theorem SF (a0 a1):f199 Pf a0 a1=sN Pf a0 a1:=cI (Df _) _ _
theorem Km (a0 a1 a2):f198 Pf a0 a1 a2=qx Pf a0 a1 a2:=dF (Df _) _ _ _
theorem Gr (a0 a1 s1):vf Pf a0 a1 s1=pw Pf a0 a1 s1:=dF (Df _) _ _ _
theorem SG (a0 a1):f185 Pf a0 a1=qy Pf a0 a1:=cI (Df _) _ _
theorem SH (a0):f100 Pf a0=sO Pf a0:=cY (Df _) _
theorem QX (a0):A0 Pf a0=sC Pf a0:=cY (Df _) _
theorem QY (a0):A1 Pf a0=sD Pf a0:=cY (Df _) _
theorem HR (a0 y1 y16 s17 s22 s23):se Pf a0 y1 y16 s17 s22 s23=pY Pf a0 y1 y16 s17 s22 s23:=mL (Df _) _ _ _ _ _ _
theorem HT (a0 y1 y2 s3 s9):sd Pf a0 y1 y2 s3 s9=pX Pf a0 y1 y2 s3 s9:=oF (Df _) _ _ _ _ _
theorem Vn (a0):f66 Pf a0=tP Pf a0:=cY (Df _) _
theorem Kn (a0):f238 Pf a0=qz Pf a0:=cY (Df _) _
theorem O6 (a0 a1 s2):vg Pf a0 a1 s2=vh Pf a0 a1 s2:=dF (Df _) _ _ _
theorem SI (a0 a1):f205 Pf a0 a1=vY Pf a0 a1:=cI (Df _) _ _
theorem SJ (a0 a1):f207 Pf a0 a1=sP Pf a0 a1:=cI (Df _) _ _
theorem Eu (a0 a1 s2):oT Pf a0 a1 s2=oU Pf a0 a1 s2:=dF (Df _) _ _ _
theorem Ov (a0 a1):u1 Pf a0 a1=rI Pf a0 a1:=cI (Df _) _ _
theorem SK (a0 a1):f161 Pf a0 a1=sQ Pf a0 a1:=cI (Df _) _ _
theorem Ev (a0 a1 s2):oV Pf a0 a1 s2=oW Pf a0 a1 s2:=dF (Df _) _ _ _
theorem Ow (a0 a1):u2 Pf a0 a1=rJ Pf a0 a1:=cI (Df _) _ _
theorem Vo (a0 a1):f93 Pf a0 a1=tQ Pf a0 a1:=cI (Df _) _ _
theorem LW (a0 a1 a2):f48 Pf a0 a1 a2=qV Pf a0 a1 a2:=dF (Df _) _ _ _
theorem Dt (a0 a1 a2):f91 Pf a0 a1 a2=oE Pf a0 a1 a2:=dF (Df _) _ _ _
theorem Ko (a0 a1 a2 a3 a4 a5):f158 Pf a0 a1 a2 a3 a4 a5=qB Pf a0 a1 a2 a3 a4 a5:=mL (Df _) _ _ _ _ _ _
theorem px (a0 a1 a2 s159 s171):gZ Pf a0 a1 a2 s159 s171=kH Pf a0 a1 a2 s159 s171:=oF (Df _) _ _ _ _ _
theorem vj (a0 a1 a2 s186 s198):kI Pf a0 a1 a2 s186 s198=mc Pf a0 a1 a2 s186 s198:=oF (Df _) _ _ _ _ _
theorem kZ (a0 a1 a2):f159 Pf a0 a1 a2=ir Pf a0 a1 a2:=dF (Df _) _ _ _
theorem vk (a1 a2 s4 s26 s27):kJ Pf a1 a2 s4 s26 s27=mg Pf a1 a2 s4 s26 s27:=oF (Df _) _ _ _ _ _
theorem vl (a0 a1 a2 s3 s4 s5):me Pf a0 a1 a2 s3 s4 s5=mf Pf a0 a1 a2 s3 s4 s5:=mL (Df _) _ _ _ _ _ _
theorem Kp (a0 a1 a2):f201 Pf a0 a1 a2=qC Pf a0 a1 a2:=dF (Df _) _ _ _
theorem Kq (a0 a1):f202 Pf a0 a1=qD Pf a0 a1:=cI (Df _) _ _
theorem sR (a0 a1 a2 a3 a4 a5):f237 Pf a0 a1 a2 a3 a4 a5=lG Pf a0 a1 a2 a3 a4 a5:=mL (Df _) _ _ _ _ _ _
theorem vZ (a0 a1 a2 a3):f204 Pf a0 a1 a2 a3=mE Pf a0 a1 a2 a3:=kt (Df _) _ _ _ _
theorem Kr (a0 a1 a2):f160 Pf a0 a1 a2=qE Pf a0 a1 a2:=dF (Df _) _ _ _
theorem Ks (a0 a1 a2 a3 a4):f203 Pf a0 a1 a2 a3 a4=qH Pf a0 a1 a2 a3 a4:=oF (Df _) _ _ _ _ _
theorem LX (a0 a1 a2 a3):f18 Pf a0 a1 a2 a3=qZ Pf a0 a1 a2 a3:=kt (Df _) _ _ _ _
theorem HU (a0 s1 s2 x4 x7 s11 s12):sf Pf a0 s1 s2 x4 x7 s11 s12=pZ Pf a0 s1 s2 x4 x7 s11 s12:=LY (Df _) _ _ _ _ _ _ _
theorem HV (a0 s1 s2):mq Pf a0 s1 s2=p0 Pf a0 s1 s2:=dF (Df _) _ _ _
theorem Dv (a0):f14 Pf a0=qX Pf a0:=cY (Df _) _
theorem PW (a0 a1 s2):vw Pf a0 a1 s2=vx Pf a0 a1 s2:=dF (Df _) _ _ _
theorem Vp (a0 a1):f69 Pf a0 a1=wM Pf a0 a1:=cI (Df _) _ _
theorem HW (a0 a1 s22):nH Pf a0 a1 s22=p3 Pf a0 a1 s22:=dF (Df _) _ _ _
theorem HX (a0 a1 s8 s9):p5 Pf a0 a1 s8 s9=p6 Pf a0 a1 s8 s9:=kt (Df _) _ _ _ _
theorem Vq (a0 a1):f29 Pf a0 a1=tR Pf a0 a1:=cI (Df _) _ _
theorem SL (a0):f153 Pf a0=sS Pf a0:=cY (Df _) _
theorem Gs (a0 s9):jX Pf a0 s9=py Pf a0 s9:=cI (Df _) _ _
theorem SM (a0):f194 Pf a0=sT Pf a0:=cY (Df _) _
theorem Gt (a0 a1 s1):ni Pf a0 a1 s1=pz Pf a0 a1 s1:=dF (Df _) _ _ _
theorem SN (a0 a1):f195 Pf a0 a1=qF Pf a0 a1:=cI (Df _) _ _
theorem Gv (a0 s1):mh Pf a0 s1=pA Pf a0 s1:=cI (Df _) _ _
theorem SO (a0):f196 Pf a0=qG Pf a0:=cY (Df _) _
theorem Gw (a0 s2):nj Pf a0 s2=pB Pf a0 s2:=cI (Df _) _ _
theorem Gx (a0 y14 s16 s17 x19 y22 y24 s26 s27):nk Pf a0 y14 s16 s17 x19 y22 y24 s26 s27=pC Pf a0 y14 s16 s17 x19 y22 y24 s26 s27:=LZ (Df _) _ _ _ _ _ _ _ _ _
theorem Gy (a0 y14 s16 s17):nn Pf a0 y14 s16 s17=pD Pf a0 y14 s16 s17:=kt (Df _) _ _ _ _
theorem SP (a0):f154 Pf a0=sU Pf a0:=cY (Df _) _
theorem SQ (a0):f155 Pf a0=sV Pf a0:=cY (Df _) _
theorem Vr (a0 a1 a2):f90 Pf a0 a1 a2=tT Pf a0 a1 a2:=dF (Df _) _ _ _
theorem HY (a0 a1 s3 s4):nI Pf a0 a1 s3 s4=p7 Pf a0 a1 s3 s4:=kt (Df _) _ _ _ _
theorem Vs (a0 a1 a2):f46 Pf a0 a1 a2=tU Pf a0 a1 a2:=dF (Df _) _ _ _
theorem Vt (a0):f15 Pf a0=tV Pf a0:=cY (Df _) _
theorem Vu (a0):f16 Pf a0=tW Pf a0:=cY (Df _) _
theorem HZ (a0 a1 s1):si Pf a0 a1 s1=p8 Pf a0 a1 s1:=dF (Df _) _ _ _
theorem Vv (a0 a1):f42 Pf a0 a1=qY Pf a0 a1:=cI (Df _) _ _
theorem Vw (a0 a1):f41 Pf a0 a1=wN Pf a0 a1:=cI (Df _) _ _
theorem Vx (a0 a1):f50 Pf a0 a1=tX Pf a0 a1:=cI (Df _) _ _
theorem Ac (a0 a1 s8):p9 Pf a0 a1 s8=nJ Pf a0 a1 s8:=dF (Df _) _ _ _
theorem L0 (a0 a1):f20 Pf a0 a1=q0 Pf a0 a1:=cI (Df _) _ _
theorem Vy (a0):f88 Pf a0=wO Pf a0:=cY (Df _) _
theorem Vz (a0):f87 Pf a0=wP Pf a0:=cY (Df _) _
theorem VA (a0):f95 Pf a0=tY Pf a0:=cY (Df _) _
theorem k3 (a0):f209 Pf a0=iv Pf a0:=cY (Df _) _
theorem lH (a0 a1):f210 Pf a0 a1=iX Pf a0 a1:=cI (Df _) _ _
theorem L1 (a0 a1 a2):f49 Pf a0 a1 a2=q7 Pf a0 a1 a2:=dF (Df _) _ _ _
theorem Ad (a0 a1 s10):nK Pf a0 a1 s10=nL Pf a0 a1 s10:=dF (Df _) _ _ _
theorem H0 (a1 y108 x110 s113):lC Pf a1 y108 x110 s113=qa Pf a1 y108 x110 s113:=kt (Df _) _ _ _ _
theorem L2 (a0 a1 a2):f94 Pf a0 a1 a2=q8 Pf a0 a1 a2:=dF (Df _) _ _ _
theorem SR (a0 a1 a2 a3 a4):f162 Pf a0 a1 a2 a3 a4=sW Pf a0 a1 a2 a3 a4:=oF (Df _) _ _ _ _ _
theorem Gz (a0 a1 a2 s1 s2 s3):iP Pf a0 a1 a2 s1 s2 s3=pE Pf a0 a1 a2 s1 s2 s3:=mL (Df _) _ _ _ _ _ _
theorem B1 (a0 a1 a2):f163 Pf a0 a1 a2=mF Pf a0 a1 a2:=dF (Df _) _ _ _
theorem lI (a0 a1 a2):f164 Pf a0 a1 a2=iY Pf a0 a1 a2:=dF (Df _) _ _ _
theorem zA (a0 a1 a2 s16 s28 s29):jj Pf a0 a1 a2 s16 s28 s29=np Pf a0 a1 a2 s16 s28 s29:=mL (Df _) _ _ _ _ _ _
theorem zB (a0 a1 a2 s47 s59 s60):jk Pf a0 a1 a2 s47 s59 s60=nq Pf a0 a1 a2 s47 s59 s60:=mL (Df _) _ _ _ _ _ _
theorem zD (a0 a1 a2 s79 s91 s92):nr Pf a0 a1 a2 s79 s91 s92=nw Pf a0 a1 a2 s79 s91 s92:=mL (Df _) _ _ _ _ _ _
theorem GA (a0 a1 a2 s106 s118 s124 s125 s137 s138 s141):mi Pf a0 a1 a2 s106 s118 s124 s125 s137 s138 s141=pF Pf a0 a1 a2 s106 s118 s124 s125 s137 s138 s141:=SU (Df _) _ _ _ _ _ _ _ _ _ _
theorem zE (a0 a1 a2 s106 s118 s124 s125 s137 s138):kK Pf a0 a1 a2 s106 s118 s124 s125 s137 s138=ny Pf a0 a1 a2 s106 s118 s124 s125 s137 s138:=LZ (Df _) _ _ _ _ _ _ _ _ _
theorem GB (a0 a1 a2 s106 s118):nz Pf a0 a1 a2 s106 s118=pG Pf a0 a1 a2 s106 s118:=oF (Df _) _ _ _ _ _
theorem nY (a0 a1 a2):f211 Pf a0 a1 a2=kn Pf a0 a1 a2:=dF (Df _) _ _ _
theorem SV (a0 a1):f212 Pf a0 a1=sX Pf a0 a1:=cI (Df _) _ _
theorem VB (a0 a1 a2 a3):f19 Pf a0 a1 a2 a3=tZ Pf a0 a1 a2 a3:=kt (Df _) _ _ _ _
theorem e4 (a0 a1 a2 a3):f4 Pf a0 a1 a2 a3=B4 Pf a0 a1 a2 a3:=kt (Df _) _ _ _ _
theorem x9:f9 Pf=P9:=Df _
theorem wQ:f17 Pf=ua Pu:=Df _
def JG (p:Bm):Prop:=∀a0 r,p a0=some r->Pure env.toCx 113 [(.v (.int .i64 a0))] (.ret (.agg (az.cs r)))
def JH (p:Bn):Prop:=∀a0 a1 r,p a0 a1=some r->Pure env.toCx 157 [(.agg (TParam.cs a0)),(.ip (ae.cs a1))] (.ret (.v (.bool r)))
def E4 (p:xW):Prop:=∀a0 a1 r,p a0 a1=some r->Pure env.toCx 156 [(.sl 2 (TParam.rows a0)),(.fn 157 [] [(.ip (ae.cs a1))])] (.ret (.v (.int .i64 r)))
def Lp (p:CY):Prop:=∀a0 a1 r,p a0 a1=some r->Pure env.toCx 80 [(.v (.int .i64 a0)),(.v (.int .i64 a1))] (aU.ar (λx=>(.bK [])) r)
def JI (p:Bo):Prop:=∀a0 r,p a0=some r->Pure env.toCx 112 [(.agg (ai.cs a0))] (.ret (.agg (az.cs r)))
def Lq (p:CZ):Prop:=∀a0 r,p a0=some r->Pure env.toCx 92 [(.agg (az.cs a0))] (.ret (.v (.bool r)))
def JJ (p:Bp):Prop:=∀a0 r,p a0=some r->Pure env.toCx 197 [(.v (.string ⟨⟨a0⟩⟩))] (.ret (.v (.int .i64 r)))
def JK (p:Bq):Prop:=∀a0 a1 r,p a0 a1=some r->Pure env.toCx 236 [(.sl 1 (eC .i64 a0)),(.v (.int .i64 a1))] (.ret (.v (.int .i64 r)))
def JL (p:Br):Prop:=∀a0 a1 r,p a0 a1=some r->Pure env.toCx 199 [(.sl 1 (eC .i64 a0)),(.v (.int .i64 a1))] (.ret (.v (.bool r)))
def JM (p:Bs):Prop:=∀a0 a1 a2 r,p a0 a1 a2=some r->Pure env.toCx 198 [(.sl 1 (eC .i64 a0)),(.ip (az.cs a1)),(.ip (ae.cs a2))] (aU.ar (λx=>(.bK [])) r)
def JN (p:Bt):Prop:=∀a0 a1 r,p a0 a1=some r->Pure env.toCx 185 [(.sl 1 (bn a0)),(.v (.string ⟨⟨a1⟩⟩))] (.ret (.v (.int .i64 r)))
def JO (p:Bu):Prop:=∀a0 r,p a0=some r->Pure env.toCx 100 [(.sl 1 (bn a0))] (.ret (.sl 1 (bn r)))
def I8 (p:AY):Prop:=∀a0 r,p a0=some r->ki env 115 [(.sl 2 (aV.rows a0))] 119 2 (aV.rows r)
def I9 (p:AZ):Prop:=∀a0 r,p a0=some r->ki env 116 [(.sl 6 (ai.rows a0))] 43 6 (ai.rows r)
def Lr (p:C0):Prop:=∀a0 r,p a0=some r->Pure env.toCx 66 [(.agg (ai.cs a0))] (.ret (.agg (ai.cs r)))
def JQ (p:Bv):Prop:=∀a0 r,p a0=some r->Pure env.toCx 238 [(.agg (ae.cs a0))] (.ret (.v (.bool r)))
def JR (p:Bx):Prop:=∀a0 a1 r,p a0 a1=some r->Pure env.toCx 205 [(.sl 1 (bn a0)),(.sl 1 (bn a1))] (.ret (.v (.bool r)))
def JS (p:By):Prop:=∀a0 a1 r,p a0 a1=some r->Pure env.toCx 207 [(.agg (aV.cs a0)),(.agg (aV.cs a1))] (.ret (.v (.bool r)))
def FJ (p:yH):Prop:=∀a0 a1 r,p a0 a1=some r->Pure env.toCx 206 [(.sl 2 (aV.rows a0)),(.sl 2 (aV.rows a1)),(.v (.func (.func 207) #[] #[]))] (.ret (.v (.bool r)))
def JU (p:Bz):Prop:=∀a0 a1 r,p a0 a1=some r->Pure env.toCx 161 [(.agg (ai.cs a0)),(.agg (ai.cs a1))] (.ret (.v (.bool r)))
def FK (p:yK):Prop:=∀a0 a1 r,p a0 a1=some r->Pure env.toCx 208 [(.sl 6 (ai.rows a0)),(.sl 6 (ai.rows a1)),(.v (.func (.func 161) #[] #[]))] (.ret (.v (.bool r)))
def Ls (p:C1):Prop:=∀a0 a1 r,p a0 a1=some r->Pure env.toCx 93 [(.agg (az.cs a0)),(.agg (az.cs a1))] (.ret (.v (.bool r)))
def Lt (p:C2):Prop:=∀a0 a1 a2 r,p a0 a1 a2=some r->Pure env.toCx 48 [(.ip (bR.cs a0)),(.agg (ae.cs a1)),(.agg (az.cs a2))] (aU.ar (λx=>(.agg (ab.cs x))) r)
def Lu (p:C3):Prop:=∀a0 a1 a2 r,p a0 a1 a2=some r->Pure env.toCx 91 [(.ip (bR.cs a0)),(.agg (ae.cs a1)),(.agg (az.cs a2))] (aU.ar (λx=>(.agg (ab.cs x))) r)
def JW (p:BA):Prop:=∀a0 a1 a2 a3 a4 a5 r,p a0 a1 a2 a3 a4 a5=some r->Pure env.toCx 158 [(.ip (bR.cs a0)),(.v (.int .i64 a1)),(.agg (ae.cs a2)),(.agg (az.cs a3)),(.agg (az.cs a4)),(.agg (az.cs a5))] (aU.ar (λx=>(.agg (ab.cs x))) r)
def JX (p:BB):Prop:=∀a0 a1 a2 r,p a0 a1 a2=some r->Pure env.toCx 159 [(.ip (bR.cs a0)),(.agg (ae.cs a1)),(.agg (az.cs a2))] (aU.ar (λx=>(.agg (ab.cs x))) r)
def J0 (p:BC):Prop:=∀a0 a1 a2 r,p a0 a1 a2=some r->Pure env.toCx 201 [(.ip (bR.cs a0)),(.agg (ae.cs a1)),(.agg (ai.cs a2))] (aU.ar (λx=>(.sl 12 (ab.rows x))) r)
def J2 (p:BD):Prop:=∀a0 a1 r,p a0 a1=some r->Pure env.toCx 202 [(.ip (bR.cs a0)),(.agg (ae.cs a1))] (aU.ar (λx=>(.agg (ab.cs x))) r)
def J3 (p:BE):Prop:=∀a0 a1 a2 a3 a4 a5 r,p a0 a1 a2 a3 a4 a5=some r->Pure env.toCx 237 [(.v (.int .i64 a0)),(.agg (az.cs a1)),(.sl 1 (eC .i64 a2)),(.ip ([.ip (bR.cs a3)])),(.ip (ae.cs a4)),(.ip (ae.cs a5))] (aU.ar (λx=>(.agg (ab.cs x))) r)
def J4 (p:BF):Prop:=∀a0 a1 a2 a3 r,p a0 a1 a2 a3=some r->Pure env.toCx 204 [(.ip (bR.cs a0)),(.agg (ae.cs a1)),(.agg (ae.cs a2)),(.sl 1 (eC .i64 a3))] (aU.ar (λx=>(.agg (ab.cs x))) r)
def J5 (p:BG):Prop:=∀a0 a1 a2 r,p a0 a1 a2=some r->Pure env.toCx 160 [(.ip (bR.cs a0)),(.agg (ae.cs a1)),(.agg (az.cs a2))] (aU.ar (λx=>(.agg (ab.cs x))) r)
def J6 (p:BH):Prop:=∀a0 a1 a2 a3 a4 r,p a0 a1 a2 a3 a4=some r->Pure env.toCx 203 [(.ip (bR.cs a0)),(.agg (ae.cs a1)),(.agg (ae.cs a2)),(.agg (ae.cs a3)),(.v (.bool a4))] (aU.ar (λx=>(.bK [(.agg (ab.cs x.1)),(.agg (ab.cs x.2))])) r)
def Lw (p:C5):Prop:=∀a0 a1 a2 a3 r,p a0 a1 a2 a3=some r->Pure env.toCx 18 [(.agg (ai.cs a0)),(.sl 2 (TParam.rows a1)),(.agg (az.cs a2)),(.agg (ae.cs a3))] (.ret (.bK [(.agg (ab.cs r.1)),(.agg (aK.cs r.2))]))
def Lx (p:C6):Prop:=∀a0 r,p a0=some r->Pure env.toCx 14 [(.sl 2 (TParam.rows a0))] (.ret (.v (.bool r)))
def Ly (p:C7):Prop:=∀a0 a1 r,p a0 a1=some r->Pure env.toCx 69 [(.sl 1 (bn a0)),(.sl 1 (bn a1))] (.ret (.v (.bool r)))
def Lz (p:C8):Prop:=∀a0 a1 r,p a0 a1=some r->Pure env.toCx 29 [(.agg (ai.cs a0)),(.agg (ai.cs a1))] (.ret (.v (.bool r)))
def J7 (p:BI):Prop:=∀a0 r,p a0=some r->Pure env.toCx 153 [(.agg (ai.cs a0))] (.ret (.v (.bool r)))
def J8 (p:BJ):Prop:=∀a0 r,p a0=some r->Pure env.toCx 194 [(.v (.string ⟨⟨a0⟩⟩))] (.ret (.v (.bool r)))
def J9 (p:BK):Prop:=∀a0 a1 r,p a0 a1=some r->Pure env.toCx 195 [(.sl 1 (bn a0)),(.v (.string ⟨⟨a1⟩⟩))] (.ret (.v (.bool r)))
def J' (p:BL):Prop:=∀a0 r,p a0=some r->Pure env.toCx 196 [(.sl 1 (bn a0))] (.ret (.v (.bool r)))
def Ka (p:BM):Prop:=∀a0 r,p a0=some r->Pure env.toCx 154 [(.agg (ai.cs a0))] (.ret (.v (.bool r)))
def Kb (p:BN):Prop:=∀a0 r,p a0=some r->Pure env.toCx 155 [(.agg (ai.cs a0))] (.ret (.v (.bool r)))
def LA (p:C'):Prop:=∀a0 a1 a2 r,p a0 a1 a2=some r->Pure env.toCx 90 [(.agg (ai.cs a0)),(.v (.int .i64 a1)),(.v (.int .i64 a2))] (.ret (.v (.int .i64 r)))
def LB (p:Da):Prop:=∀a0 a1 a2 r,p a0 a1 a2=some r->Pure env.toCx 46 [(.agg (ai.cs a0)),(.v (.int .i64 a1)),(.v (.int .i64 a2))] (.ret (.bK [(.v (.int .i64 r.1)),(.v (.int .i64 r.2))]))
def LC (p:Db):Prop:=∀a0 r,p a0=some r->Pure env.toCx 15 [(.agg (ai.cs a0))] (.ret (.v (.int .i64 r)))
def LD (p:Dc):Prop:=∀a0 r,p a0=some r->Pure env.toCx 16 [(.agg (az.cs a0))] (.ret (.v (.bool r)))
def LF (p:Dd):Prop:=∀a0 a1 r,p a0 a1=some r->Pure env.toCx 42 [(.sl 1 (bn a0)),(.v (.string ⟨⟨a1⟩⟩))] (.ret (.v (.bool r)))
def LG (p:De):Prop:=∀a0 a1 r,p a0 a1=some r->Pure env.toCx 41 [(.v (.int .i64 a0)),(.v (.int .i64 a1))] (.ret (.agg (aK.cs r)))
def LH (p:Dg):Prop:=∀a0 a1 r,p a0 a1=some r->Pure env.toCx 50 [(.agg (az.cs a0)),(.agg (az.cs a1))] (.ret (.v (.bool r)))
def LI (p:Dh):Prop:=∀a0 a1 r,p a0 a1=some r->Pure env.toCx 20 [(.agg (ab.cs a0)),(.agg (ab.cs a1))] (.ret (.v (.bool r)))
def LJ (p:Di):Prop:=∀a0 r,p a0=some r->Pure env.toCx 88 [(.v (.int .i64 a0))] (.ret (.agg (az.cs r)))
def LK (p:Dj):Prop:=∀a0 r,p a0=some r->Pure env.toCx 87 [(.agg (ai.cs a0))] (.ret (.agg (az.cs r)))
def LL (p:Dk):Prop:=∀a0 r,p a0=some r->Pure env.toCx 95 [(.agg (az.cs a0))] (.ret (.v (.bool r)))
def Kc (p:BO):Prop:=∀a0 r,p a0=some r->Pure env.toCx 209 [(.agg (ae.cs a0))] (.ret (.v (.bool r)))
def Kd (p:BP):Prop:=∀a0 a1 r,p a0 a1=some r->Pure env.toCx 210 [(.v (.string ⟨⟨a0⟩⟩)),(.v (.int .i64 a1))] (.ret (.v (.bool r)))
def LM (p:Dl):Prop:=∀a0 a1 a2 r,p a0 a1 a2=some r->Pure env.toCx 49 [(.agg (cr.cs a0)),(.agg (ae.cs a1)),(.agg (az.cs a2))] (.ret (.bK [(.agg (ab.cs r.1)),(.agg (aK.cs r.2))]))
def LN (p:Dm):Prop:=∀a0 a1 a2 r,p a0 a1 a2=some r->Pure env.toCx 94 [(.agg (cr.cs a0)),(.agg (ae.cs a1)),(.agg (az.cs a2))] (.ret (.bK [(.agg (ab.cs r.1)),(.agg (aK.cs r.2))]))
def Ke (p:BR):Prop:=∀a0 a1 a2 a3 a4 r,p a0 a1 a2 a3 a4=some r->Pure env.toCx 162 [(.agg (cr.cs a0)),(.agg (ae.cs a1)),(.agg (ae.cs a2)),(.v (.int .i64 a3)),(.v (.bool a4))] (.ret (.bK [(.sl 12 (ab.rows r.1)),(.agg (aK.cs r.2))]))
def Kg (p:BS):Prop:=∀a0 a1 a2 r,p a0 a1 a2=some r->Pure env.toCx 163 [(.agg (cr.cs a0)),(.sl 5 (ae.rows a1)),(.sl 7 (az.rows a2))] (.ret (.bK [(.sl 12 (ab.rows r.1)),(.agg (aK.cs r.2))]))
def Kh (p:BT):Prop:=∀a0 a1 a2 r,p a0 a1 a2=some r->Pure env.toCx 164 [(.agg (cr.cs a0)),(.agg (ae.cs a1)),(.agg (az.cs a2))] (.ret (.bK [(.agg (ab.cs r.1)),(.agg (aK.cs r.2))]))
def Ki (p:BU):Prop:=∀a0 a1 a2 r,p a0 a1 a2=some r->Pure env.toCx 211 [(.agg (cr.cs a0)),(.agg (ae.cs a1)),(.agg (az.cs a2))] (.ret (.bK [(.agg (ab.cs r.1)),(.agg (aK.cs r.2))]))
def Kj (p:BV):Prop:=∀a0 a1 r,p a0 a1=some r->Pure env.toCx 212 [(.agg (cr.cs a0)),(.agg (ae.cs a1))] (.ret (.bK [(.agg (ab.cs r.1)),(.agg (aK.cs r.2))]))
def LO (p:Dn):Prop:=∀a0 a1 a2 a3 r,p a0 a1 a2 a3=some r->Pure env.toCx 19 [(.agg (ai.cs a0)),(.sl 2 (TParam.rows a1)),(.agg (az.cs a2)),(.agg (ae.cs a3))] (.ret (.bK [(.agg (ab.cs r.1)),(.agg (aK.cs r.2))]))
def C4 (p:T4):Prop:=∀a0 a1 a2 a3 r,p a0 a1 a2 a3=some r->Pure env.toCx 4 [(.agg (ai.cs a0)),(.sl 2 (TParam.rows a1)),(.agg (az.cs a2)),(.v (.string ⟨⟨a3⟩⟩))] (.ret (.v (.bool r)))
structure Kf (n:Nat):Prop where
 eE:JG (f113 (Gf n))
 Sq:JH (f157 (Gf n))
 NI:E4 (rC (Gf n))
 eI:Lp (f80 (Gf n))
 gQ:JI (f112 (Gf n))
 wG:Lq (f92 (Gf n))
 Sw:JJ (f197 (Gf n))
 Sr:JK (f236 (Gf n))
 Bj:JL (f199 (Gf n))
 iu:JM (f198 (Gf n))
 J1:JN (f185 (Gf n))
 JP:JO (f100 (Gf n))
 QV:I8 (A0 (Gf n))
 QW:I9 (A1 (Gf n))
 CX:Lr (f66 (Gf n))
 qA:JQ (f238 (Gf n))
 JT:JR (f205 (Gf n))
 Ss:JS (f207 (Gf n))
 Oq:FJ (u1 (Gf n))
 JV:JU (f161 (Gf n))
 Ot:FK (u2 (Gf n))
 U':Ls (f93 (Gf n))
 cL:Lt (f48 (Gf n))
 U9:Lu (f91 (Gf n))
 mC:JW (f158 (Gf n))
 Su:JX (f159 (Gf n))
 JY:J0 (f201 (Gf n))
 JZ:J2 (f202 (Gf n))
 mD:J3 (f237 (Gf n))
 Bk:J4 (f204 (Gf n))
 Sv:J5 (f160 (Gf n))
 Bl:J6 (f203 (Gf n))
 Va:Lw (f18 (Gf n))
 Vb:Lx (f14 (Gf n))
 LP:Ly (f69 (Gf n))
 wH:Lz (f29 (Gf n))
 BW:J7 (f153 (Gf n))
 Kk:J8 (f194 (Gf n))
 BX:J9 (f195 (Gf n))
 Kl:J' (f196 (Gf n))
 BY:Ka (f154 (Gf n))
 BZ:Kb (f155 (Gf n))
 Vc:LA (f90 (Gf n))
 LQ:LB (f46 (Gf n))
 LR:LC (f15 (Gf n))
 Vd:LD (f16 (Gf n))
 LS:LF (f42 (Gf n))
 dm:LG (f41 (Gf n))
 LU:LH (f50 (Gf n))
 LV:LI (f20 (Gf n))
 eX:LJ (f88 (Gf n))
 jD:LK (f87 (Gf n))
 Dp:LL (f95 (Gf n))
 jz:Kc (f209 (Gf n))
 Sx:Kd (f210 (Gf n))
 fR:LM (f49 (Gf n))
 Ve:LN (f94 (Gf n))
 B0:Ke (f162 (Gf n))
 fQ:Kg (f163 (Gf n))
 Sy:Kh (f164 (Gf n))
 Sz:Ki (f211 (Gf n))
 SA:Kj (f212 (Gf n))
 Vf:LO (f19 (Gf n))
 c4:C4 (f4 (Gf n))
 c9:C9 (f9 (Gf n))
 CW:Dq (f17 (Gf n))
def Of (n:Nat):Prop:=∀m,m<=n->Kf m
theorem NJ (l:List (List UInt8)):bn l=l.map λx=>[.v (.string ⟨⟨x⟩⟩)]:=rfl
theorem Of.a {N m:Nat} (h:Of N) (hm:m<=N:=by omega):Kf m:=h m hm
