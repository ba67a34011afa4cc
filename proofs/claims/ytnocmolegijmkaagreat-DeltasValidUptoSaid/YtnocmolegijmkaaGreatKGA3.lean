/- Printed by a program: what functions answer, and that they do. -/
import Derived.Test.YtnocmolegijmkaaGreatKHx
set_option linter.all false
set_option maxRecDepth 100000
noncomputable section
namespace Go.Proofs.YtnocmolegijmkaaGreat
open Go Go.Bw
abbrev qH (f:Us):IC:=λb c d a=>(bif decide (a<(↑(aN.rows b.aY).length:Int))then((aA b.aY a).bind λe=>((aA c.aY a).bind λg=>(bif !e.fO==g.fO then(some false)else((aA b.aY a).bind λh=>((aA c.aY a).bind λi=>((uT f h.If i.If).bind λj=>(bif !j then(some false)else(qG f b c d (IntKind.i64.wrap (a+1))))))))))else(oI f b c 0))
abbrev uU (f:Us):Et:=λa b=>(bif a.Kind !=b.Kind then(some false)else(bif a.Lo !=b.Lo then(some false)else(bif a.Hi !=b.Hi then(some false)else((uT f a.Names b.Names).bind λc=>(bif !c then(some false)else(bif (↑(ai.rows a.aB).length:Int) !=(↑(ai.rows b.aB).length:Int)then(some false)else(bif (↑(aN.rows a.aY).length:Int) !=(↑(aN.rows b.aY).length:Int)then(some false)else(qG f a b false 0))))))))
abbrev vm (f:Us):Fh:=λa b=>(bif a.aL==b.aL then((pD f a.aw b.aw).bind λc=>(some c))else(some false))
abbrev qU (f:Us):JC:=λb c a=>(bif decide (a<(↑(ab.rows b.Kids).length:Int))then((aA b.Kids a).bind λd=>((aA c.Kids a).bind λe=>((pQ f d e).bind λg=>(bif !g then(some false)else(qT f b c (IntKind.i64.wrap (a+1)))))))else(some true))
abbrev vn (f:Us):Fi:=λa b=>(bif a.Op !=b.Op then(some false)else((zA f a.aq b.aq).bind λc=>(bif !c then(some false)else(bif a.N !=b.N then(some false)else(bif !a.Text==b.Text then(some false)else(bif a.At !=b.At then(some false)else(bif (↑(ab.rows a.Kids).length:Int) !=(↑(ab.rows b.Kids).length:Int)then(some false)else(qT f a b 0))))))))
abbrev qV (f:Us):JD:=λb c a=>(bif decide (a<(↑(TParam.rows b.Params).length:Int))then((aA b.Params a).bind λd=>((aA c.Params a).bind λe=>(bif !(d.Name==e.Name&&(d.aL==e.aL&&true))then(some false)else(nH f b c (IntKind.i64.wrap (a+1))))))else(some true))
abbrev vo (f:Us):yO:=λa b=>(bif !a.Name==b.Name then(some false)else(bif !a.On==b.On then(some false)else(bif a.Result !=b.Result then(some false)else(bif (↑(TParam.rows a.Params).length:Int) !=(↑(TParam.rows b.Params).length:Int)then(some false)else((pQ f a.Body b.Body).bind λc=>(bif !c then(some false)else(nH f a b 0)))))))
abbrev qW (f:Us):JE:=λa c b=>(bif decide (b<(↑(ab.rows a.Kids).length:Int))then((aA a.Kids b).bind λd=>((pH f d).bind λe=>(oP f a (IntKind.i64.wrap (c+e)) (IntKind.i64.wrap (b+1)))))else(some c))
abbrev sm (f:Us):yS:=λa=>(oP f a 1 0)
abbrev uV (f:Us):Eu:=λa=>(bif decide (a>=97)then(bif decide (a<=122)then(some true)else(bif decide (a>=48)then(bif decide (a<=57)then(some true)else(some (a==45)))else(some (a==45))))else(bif decide (a>=48)then(bif decide (a<=57)then(some true)else(some (a==45)))else(some (a==45))))
abbrev qX (f:Us):JF:=λa b=>(bif decide (b<(↑a.length:Int))then((aA (a:List UInt8) b).bind λc=>((yE f ((↑c.toNat:Int))).bind λd=>(bif !d then(some false)else(tQ f a (IntKind.i64.wrap (b+1))))))else(some true))
abbrev vp (f:Us):Fj:=λa=>(bif decide ((↑a.length:Int)<1)then(some false)else(bif decide ((↑a.length:Int)>16)then(some false)else((aA (a:List UInt8) 0).bind λb=>(bif decide ((↑b.toNat:Int)<97)then(some false)else((aA (a:List UInt8) 0).bind λc=>(bif decide ((↑c.toNat:Int)>122)then(some false)else(tQ f a 0)))))))
abbrev nT (f:Us):Ev:=λa=>(bif a==8 then(some 31)else(bif a==9 then(some 32)else(bif a==11 then(some 34)else(bif a==12 then(some 35)else(bif a==13 then(some 36)else(bif a==14 then(some 37)else(bif a==15 then(some 38)else(bif a==16 then(some 39)else(bif a==17 then(some 40)else(bif a==18 then(some 41)else(bif a==20 then(some 43)else(some 0))))))))))))
abbrev pE (f:Us):Ew:=λa=>(bif a==21 then(some ([102,108,97,103]))else(bif a==22 then(some ([110,117,109]))else(bif a==23 then(some ([115,101,116]))else(bif a==24 then(some ([109,97,112]))else(bif a==25 then(some ([114,101,99]))else(bif a==26 then(some ([112,97,105,114]))else(bif a==27 then(some ([111,110,101]))else(bif a==28 then(some ([119,114,105,116,101]))else(bif a==29 then(some ([115,105,122,101]))else(bif a==30 then(some ([115,117,109]))else(bif a==31 then(some ([110,117,109,98,101,114]))else(bif a==32 then(some ([111,110]))else(bif a==33 then(some ([107,101,121,115]))else(bif a==34 then(some ([118,97,108,117,101,115]))else(bif a==35 then(some ([102,105,114,115,116]))else(bif a==36 then(some ([115,101,99,111,110,100]))else(bif a==37 then(some ([99,111,110,102,108,105,99,116]))else(some ([])))))))))))))))))))
abbrev qY (f:Us):JG:=λd a e b c=>(bif decide (IntKind.i64.wrap (b+1)<(↑(af.rows a).length:Int))then((aA a b).bind λg=>((aA a b).bind λh=>((aA a (IntKind.i64.wrap (b+1))).bind λi=>(bif decide (((c:List af)++([⟨52,[],0,g.At,[h,i]⟩]:List af)).length<=274877906944)then(mr f d a e (IntKind.i64.wrap (b+2)) (c++[⟨52,[],0,g.At,[h,i]⟩]))else none))))else(some ((⟨51,e,0,d.At,c⟩,(↑(af.rows a).length:Int).tmod 2==0))))
abbrev qZ (f:Us):JH:=λb d e c a=>(bif decide (a<(↑(af.rows d).length:Int))then((aA b.aq.aw.Names a).bind λg=>((aA c a).bind λh=>((aA c a).bind λi=>(lO f b d e (c.set a.toNat ⟨52,g,0,b.At,[h]⟩) (IntKind.i64.wrap (a+1))))))else(some ((⟨51,e,0,b.At,c⟩,true))))
abbrev q0 (f:Us):JI:=λd a i e b=>(bif decide (e<(↑(ab.rows a.Kids).length:Int))then((aA a.Kids e).bind λj=>((oc f d j).bind λg=>(bif !g.snd then(some ((⟨0,[],0,a.At,b⟩,false)))else(bif decide (((b:List af)++([g.fst]:List af)).length<=274877906944)then(jI f d a i (IntKind.i64.wrap (e+1)) (b++[g.fst]))else none))))else((jN f a.Op).bind λh=>(bif h !=0 then(some ((⟨h,[],0,a.At,b⟩,(↑(af.rows b).length:Int)==2)))else((eo f a.Op).bind λc=>(bif !c==[]then(bif a.Op==24 then(mr f a b c 0 ([]))else(bif a.Op==25 then(bif (↑(aW a.aq.aw.Names).length:Int) !=(↑(af.rows b).length:Int)then(some ((⟨51,c,0,a.At,b⟩,false)))else(lO f a b c b 0))else(some ((⟨51,c,0,a.At,b⟩,true)))))else(bif a.Op==1 then(bif (↑(af.rows b).length:Int)==0 then(bif decide (a.N>= -1000000000000000)then(some ((⟨44,[],a.N,a.At,b⟩,decide (a.N<=1000000000000000))))else(some ((⟨44,[],a.N,a.At,b⟩,false))))else(some ((⟨44,[],a.N,a.At,b⟩,false))))else(bif a.Op==2 then(bif a.N==1 then(some ((⟨45,[],0,a.At,b⟩,(↑(af.rows b).length:Int)==0)))else(some ((⟨46,[],0,a.At,b⟩,(↑(af.rows b).length:Int)==0))))else(bif a.Op==3 then(bif (↑(af.rows b).length:Int)==0 then((sj f a.Text).bind λk=>(some ((⟨47,a.Text,0,a.At,b⟩,k))))else(some ((⟨47,a.Text,0,a.At,b⟩,false))))else(bif a.Op==4 then(bif decide (a.N<0)then(some ((⟨0,[],0,a.At,b⟩,false)))else(bif decide (a.N>=(↑(TParam.rows d).length:Int))then(some ((⟨0,[],0,a.At,b⟩,false)))else((aA d a.N).bind λl=>(some ((⟨48,l.Name,0,a.At,b⟩,(↑(af.rows b).length:Int)==0))))))else(bif a.Op==5 then(some ((⟨49,[],0,a.At,b⟩,(↑(af.rows b).length:Int)==0)))else(bif a.Op==6 then(some ((⟨50,[],0,a.At,b⟩,(↑(af.rows b).length:Int)==0)))else(bif a.Op==7 then(some ((⟨30,[],0,a.At,b⟩,(↑(af.rows b).length:Int)==3)))else(bif a.Op==10 then(some ((⟨33,[],0,a.At,b⟩,(↑(af.rows b).length:Int)==1)))else(bif a.Op==19 then(bif (↑(af.rows b).length:Int) !=1 then(some ((⟨0,[],0,a.At,b⟩,false)))else(bif decide (a.N<0)then(some ((⟨0,[],0,a.At,b⟩,false)))else((aA a.Kids 0).bind λm=>(bif decide (a.N>=(↑(aW m.aq.aw.Names).length:Int))then(some ((⟨0,[],0,a.At,b⟩,false)))else((aA a.Kids 0).bind λn=>((aA n.aq.aw.Names a.N).bind λo=>(some ((⟨42,o,0,a.At,b⟩,true)))))))))else(some ((⟨0,[],0,a.At,b⟩,false)))))))))))))))))
abbrev pR (f:Us):Fk:=λa b=>(jI f a b false 0 ([]))
def zB (f:Us):zJ:=((((qM f,u2 f),(u3 f,(tM f,tJ f))),((u4 f,u5 f),(uc f,(B8 f,uv f)))),(((rB f,uw f),(ux f,(qN f,u6 f))),((qO f,rY f),(uy f,(oH f,rC f)))))
def zD (f:Us):zK:=((((uz f,qP f),(rZ f,(wW f,wY f))),((ng f,pw f),(rD f,(px f,rE f)))),(((nh f,py f),(nB f,(r6 f,r7 f))),((u7 f,p5 f),(qx f,(te f,nC f)))))
def zE (f:Us):zN:=((((r8 f,lj f),(iK f,(pM f,nE f))),((nF f,nD f),(pN f,(zf f,zh f)))),(((va f,uA f),(p3 f,(qm f,uB f))),((uC f,eM f),(qC f,(rF f,uD f)))))
def Fm (f:Us):zO:=((((rG f,uE f),(ue f,(uf f,qE f))),((qD f,uF f),(rH f,(w5 f,yn f)))),(((uG f,p7 f),(sT f,(uH f,qb f))),((sU f,vb f),(r9 f,(dC f,rI f)))))
def Fo (f:Us):zQ:=((((Bu f,Bx f),(ni f,(nj f,eN f))),((nk f,nn f),(rN f,(jh f,rO f)))),(((rP f,gV f),(rQ f,(sn f,vh f))),((qo f,tO f),(so f,(zI f,vi f)))))
def zG (f:Us):zT:=((((qq f,tP f),(vj f,(vk f,qQ f))),((qR f,mL f),(qS f,(sk f,B9 f)))),(((xh f,yG f),(qF f,(qH f,uU f))),((vm f,qU f),(vn f,(qV f,vo f)))))
def zH (f:Us):zU:=(((qW f,sm f),(uV f,(qX f,vp f))),((nT f,(pE f,qY f)),(qZ f,(q0 f,pR f))))
def Qu (f:Us):Us:=((zB f,(zD f,zE f)),((Fm f,Fo f),(zG f,zH f)))
def Gu:Nat->Us
 |0=>PF.bot
 |n+1=>Qu (Gu n)
def Pu:Us:=PF.lm Gu
theorem Xi {f:Nat->Us} {p} (h:PF.R f p):PF.R (λn=>zB (f n)) (zB p):=by unfold zB rY rC;exact zP h
theorem Xj {f:Nat->Us} {p} (h:PF.R f p):PF.R (λn=>zD (f n)) (zD p):=by unfold zD rZ pw py qx;exact zP h
theorem Xk {f:Nat->Us} {p} (h:PF.R f p):PF.R (λn=>zE (f n)) (zE p):=by unfold zE qm rF;exact zP h
theorem Xl {f:Nat->Us} {p} (h:PF.R f p):PF.R (λn=>Fm (f n)) (Fm p):=zP h
theorem Xm {f:Nat->Us} {p} (h:PF.R f p):PF.R (λn=>Fo (f n)) (Fo p):=zP h
theorem Xn {f:Nat->Us} {p} (h:PF.R f p):PF.R (λn=>zG (f n)) (zG p):=by unfold zG sk;exact zP h
theorem Xo {f:Nat->Us} {p} (h:PF.R f p):PF.R (λn=>zH (f n)) (zH p):=by unfold zH sm pR;exact zP h
set_option maxHeartbeats 0 in
theorem Xu:PF.Fix Gu (Qu):=PF.fix (Φ:=λn=>Qu) (λf p h=>(PF.pair (PF.pair (Xi h) (PF.pair (Xj h) (Xk h))) (PF.pair (PF.pair (Xl h) (Xm h)) (PF.pair (Xn h) (Xo h))))) rfl λ_=>rfl
theorem Du {β:Type} [PF β] (π:PF.K Us β):π Pu=π (Qu Pu):=congrArg π.f Xu.2
theorem Jo (a0 s3 s4):oM Pu a0 s3 s4=qM Pu a0 s3 s4:=dN (Du _) _ _ _
theorem Xp (a0 a1):vc Pu a0 a1=u2 Pu a0 a1:=cf (Du _) _ _
theorem Xq (a0 a1):zj Pu a0 a1=u3 Pu a0 a1:=cf (Du _) _ _
theorem RF (a0 s13 s14):tK Pu a0 s13 s14=tM Pu a0 s13 s14:=dN (Du _) _ _ _
theorem RG (a0 s3 s4 s5):tI Pu a0 s3 s4 s5=tJ Pu a0 s3 s4 s5:=rS (Du _) _ _ _ _
theorem Xr (a0 a1):vd Pu a0 a1=u4 Pu a0 a1:=cf (Du _) _ _
theorem Xs (a0 a1):zm Pu a0 a1=u5 Pu a0 a1:=cf (Du _) _ _
theorem TW (a2 s7):xT Pu a2 s7=uc Pu a2 s7:=cf (Du _) _ _
theorem e8 (a0 a1 a2):u8 Pu a0 a1 a2=B8 Pu a0 a1 a2:=dN (Du _) _ _ _
theorem VA (a0 a1):bL Pu a0 a1=uv Pu a0 a1:=cf (Du _) _ _
theorem LJ (a0):uJ Pu a0=rB Pu a0:=dg (Du _) _
theorem VB (a0):yy Pu a0=uw Pu a0:=dg (Du _) _
theorem VC (a0):yA Pu a0=ux Pu a0:=dg (Du _) _
theorem Jp (a0 s9):tN Pu a0 s9=qN Pu a0 s9:=cf (Du _) _ _
theorem Xt (a0):mJ Pu a0=u6 Pu a0:=dg (Du _) _
theorem Jq (a0 a1 s1):xx Pu a0 a1 s1=qO Pu a0 a1 s1:=dN (Du _) _ _ _
theorem Xv (a0 a1):sb Pu a0 a1=rY Pu a0 a1:=cf (Du _) _ _
theorem VD (a0 a1):uK Pu a0 a1=uy Pu a0 a1:=cf (Du _) _ _
theorem Bz (a0 s1):tc Pu a0 s1=oH Pu a0 s1:=cf (Du _) _ _
theorem VE (a0):nQ Pu a0=rC Pu a0:=dg (Du _) _
theorem VG (a0 a1):nR Pu a0 a1=uz Pu a0 a1:=cf (Du _) _ _
theorem Jr (a0 a1 s1):oN Pu a0 a1 s1=qP Pu a0 a1 s1:=dN (Du _) _ _ _
theorem Xw (a0 a1):pO Pu a0 a1=rZ Pu a0 a1:=cf (Du _) _ _
theorem Iv (a0 s16):wV Pu a0 s16=wW Pu a0 s16:=cf (Du _) _ _
theorem Iw (a0 s27):wX Pu a0 s27=wY Pu a0 s27:=cf (Du _) _ _
theorem xa (a0 s1 s2):kO Pu a0 s1 s2=ng Pu a0 s1 s2:=dN (Du _) _ _ _
theorem LK (a0):uL Pu a0=pw Pu a0:=dg (Du _) _
theorem LL (a0):uM Pu a0=rD Pu a0:=dg (Du _) _
theorem EA (a0):pz Pu a0=px Pu a0:=dg (Du _) _
theorem LM (a0):uN Pu a0=rE Pu a0:=dg (Du _) _
theorem xb (a0 s1):lH Pu a0 s1=nh Pu a0 s1:=cf (Du _) _ _
theorem LN (a0):uO Pu a0=py Pu a0:=dg (Du _) _
theorem xA (a1 a2 s11 s12):lL Pu a1 a2 s11 s12=nB Pu a1 a2 s11 s12:=rS (Du _) _ _ _ _
theorem MJ (a0 a1 a2):sd Pu a0 a1 a2=r6 Pu a0 a1 a2:=dN (Du _) _ _ _
theorem MK (a0):ve Pu a0=r7 Pu a0:=dg (Du _) _
theorem Xx (a0 a1):Fl Pu a0 a1=u7 Pu a0 a1:=cf (Du _) _ _
theorem F9 (a0 a1 s1):vM Pu a0 a1 s1=p5 Pu a0 a1 s1:=dN (Du _) _ _ _
theorem PR (a0 a1):wF Pu a0 a1=qx Pu a0 a1:=cf (Du _) _ _
theorem QI (a0 a1):w7 Pu a0 a1=te Pu a0 a1:=cf (Du _) _ _
theorem xB (a0 s8):lM Pu a0 s8=nC Pu a0 s8:=cf (Du _) _ _
theorem ML (a0):u32 Pu a0=r8 Pu a0:=dg (Du _) _
theorem pS (a0 a1):se Pu a0 a1=lj Pu a0 a1:=cf (Du _) _ _
theorem ll (a0):jm Pu a0=iK Pu a0:=dg (Du _) _
theorem Fp (a0):lk Pu a0=pM Pu a0:=dg (Du _) _
theorem xC (a1 s9 y28 s31 s32):jH Pu a1 s9 y28 s31 s32=nE Pu a1 s9 y28 s31 s32:=kz (Du _) _ _ _ _ _
theorem xD (a1 s9 y28 s41 s42):il Pu a1 s9 y28 s41 s42=nF Pu a1 s9 y28 s41 s42:=kz (Du _) _ _ _ _ _
theorem xE (a0 a1 s3 s4 s9):gy Pu a0 a1 s3 s4 s9=nD Pu a0 a1 s3 s4 s9:=kz (Du _) _ _ _ _ _
theorem Fq (a0 a1):mc Pu a0 a1=pN Pu a0 a1:=cf (Du _) _ _
theorem Xy (a0):fR Pu a0=zf Pu a0:=dg (Du _) _
theorem Xz (a0):dU Pu a0=zh Pu a0:=dg (Du _) _
theorem XA (a0 a1):zr Pu a0 a1=va Pu a0 a1:=cf (Du _) _ _
theorem VH (a0 a1):Ex Pu a0 a1=uA Pu a0 a1:=cf (Du _) _ _
theorem FW (a0 a1 s1):vI Pu a0 a1 s1=p3 Pu a0 a1 s1:=dN (Du _) _ _ _
theorem O2 (a0 a1):wg Pu a0 a1=qm Pu a0 a1:=cf (Du _) _ _
theorem VI (a0 a1):ee Pu a0 a1=uB Pu a0 a1:=cf (Du _) _ _
theorem VJ (a0):pA Pu a0=uC Pu a0:=dg (Du _) _
theorem fY (a0):fc Pu a0=eM Pu a0:=dg (Du _) _
theorem Ix (a0 a1 s1):wZ Pu a0 a1 s1=qC Pu a0 a1 s1:=dN (Du _) _ _ _
theorem VK (a0 a1):yB Pu a0 a1=rF Pu a0 a1:=cf (Du _) _ _
theorem VL (a0 a1):rJ Pu a0 a1=uD Pu a0 a1:=cf (Du _) _ _
theorem LO (a0 a1 a2):fX Pu a0 a1 a2=rG Pu a0 a1 a2:=dN (Du _) _ _ _
theorem VM (a0):uP Pu a0=uE Pu a0:=dg (Du _) _
theorem TX (a0):C6 Pu a0=ue Pu a0:=dg (Du _) _
theorem TY (a0):C' Pu a0=uf Pu a0:=dg (Du _) _
theorem Iy (a0 y1 y16 s17 s22 s23):th Pu a0 y1 y16 s17 s22 s23=qE Pu a0 y1 y16 s17 s22 s23:=yV (Du _) _ _ _ _ _ _
theorem Iz (a0 y1 y2 s3 s9):tf Pu a0 y1 y2 s3 s9=qD Pu a0 y1 y2 s3 s9:=kz (Du _) _ _ _ _ _
theorem VN (a0):rK Pu a0=uF Pu a0:=dg (Du _) _
theorem LP (a0):l5 Pu a0=rH Pu a0:=dg (Du _) _
theorem QJ (a0 a1 s2):w3 Pu a0 a1 s2=w5 Pu a0 a1 s2:=dN (Du _) _ _ _
theorem VO (a0 a1):uQ Pu a0 a1=yn Pu a0 a1:=cf (Du _) _ _
theorem VP (a0 a1):uR Pu a0 a1=uG Pu a0 a1:=cf (Du _) _ _
theorem F' (a0 a1 s2):p6 Pu a0 a1 s2=p7 Pu a0 a1 s2:=dN (Du _) _ _ _
theorem PS (a0 a1):wG Pu a0 a1=sT Pu a0 a1:=cf (Du _) _ _
theorem VQ (a0 a1):rL Pu a0 a1=uH Pu a0 a1:=cf (Du _) _ _
theorem Ga (a0 a1 s2):qa Pu a0 a1 s2=qb Pu a0 a1 s2:=dN (Du _) _ _ _
theorem PT (a0 a1):wH Pu a0 a1=sU Pu a0 a1:=cf (Du _) _ _
theorem XB (a0 a1):n9 Pu a0 a1=vb Pu a0 a1:=cf (Du _) _ _
theorem MM (a0 a1 a2):cn Pu a0 a1 a2=r9 Pu a0 a1 a2:=dN (Du _) _ _ _
theorem ef (a0 a1 a2):nS Pu a0 a1 a2=dC Pu a0 a1 a2:=dN (Du _) _ _ _
theorem LQ (a0 a1 a2 a3 a4 a5):iF Pu a0 a1 a2 a3 a4 a5=rI Pu a0 a1 a2 a3 a4 a5:=yV (Du _) _ _ _ _ _ _
theorem xc (a0 a1 a2 s159 s171):ij Pu a0 a1 a2 s159 s171=ni Pu a0 a1 a2 s159 s171:=kz (Du _) _ _ _ _ _
theorem xd (a0 a1 a2 s186 s198):ke Pu a0 a1 a2 s186 s198=nj Pu a0 a1 a2 s186 s198:=kz (Du _) _ _ _ _ _
theorem fZ (a0 a1 a2):dM Pu a0 a1 a2=eN Pu a0 a1 a2:=dN (Du _) _ _ _
theorem xe (a1 a2 s4 s26 s27):jC Pu a1 a2 s4 s26 s27=nk Pu a1 a2 s4 s26 s27:=kz (Du _) _ _ _ _ _
theorem xf (a0 a1 a2 s3 s4 s5):lI Pu a0 a1 a2 s3 s4 s5=nn Pu a0 a1 a2 s3 s4 s5:=yV (Du _) _ _ _ _ _ _
theorem LR (a0 a1 a2):rM Pu a0 a1 a2=rN Pu a0 a1 a2:=dN (Du _) _ _ _
theorem l6 (a0 a1):uS Pu a0 a1=jh Pu a0 a1:=cf (Du _) _ _
theorem LS (a0 a1 a2 a3 a4 a5):jM Pu a0 a1 a2 a3 a4 a5=rO Pu a0 a1 a2 a3 a4 a5:=yV (Du _) _ _ _ _ _ _
theorem LU (a0 a1 a2 a3):mE Pu a0 a1 a2 a3=rP Pu a0 a1 a2 a3:=rS (Du _) _ _ _ _
theorem kq (a0 a1 a2):yD Pu a0 a1 a2=gV Pu a0 a1 a2:=dN (Du _) _ _ _
theorem LV (a0 a1 a2 a3 a4):pC Pu a0 a1 a2 a3 a4=rQ Pu a0 a1 a2 a3 a4:=kz (Du _) _ _ _ _ _
theorem MN (a0 a1 a2 a3):zt Pu a0 a1 a2 a3=sn Pu a0 a1 a2 a3:=rS (Du _) _ _ _ _
theorem XC (a0 a1):sf Pu a0 a1=vh Pu a0 a1:=cf (Du _) _ _
theorem G8 (a0 a1 s2):qn Pu a0 a1 s2=qo Pu a0 a1 s2:=dN (Du _) _ _ _
theorem RH (a0 a1):xy Pu a0 a1=tO Pu a0 a1:=cf (Du _) _ _
theorem MO (a0 a1):l7 Pu a0 a1=so Pu a0 a1:=cf (Du _) _ _
theorem XD (a0):zw Pu a0=zI Pu a0:=dg (Du _) _
theorem XE (a0 a1):si Pu a0 a1=vi Pu a0 a1:=cf (Du _) _ _
theorem G9 (a0 a1 s2):qp Pu a0 a1 s2=qq Pu a0 a1 s2:=dN (Du _) _ _ _
theorem RI (a0 a1):xz Pu a0 a1=tP Pu a0 a1:=cf (Du _) _ _
theorem XF (a0):pP Pu a0=vj Pu a0:=dg (Du _) _
theorem XG (a0):mK Pu a0=vk Pu a0:=dg (Du _) _
theorem Js (a0 a1 s32 s33 s34):nG Pu a0 a1 s32 s33 s34=qQ Pu a0 a1 s32 s33 s34:=kz (Du _) _ _ _ _ _
theorem Jt (a0 a1 s48 s49):lN Pu a0 a1 s48 s49=qR Pu a0 a1 s48 s49:=rS (Du _) _ _ _ _
theorem vl (a0 a1):jo Pu a0 a1=mL Pu a0 a1:=cf (Du _) _ _
theorem Ju (a0 s1 s13):oO Pu a0 s1 s13=qS Pu a0 s1 s13:=dN (Du _) _ _ _
theorem XH (a0):vg Pu a0=sk Pu a0:=dg (Du _) _
theorem e9 (a0 a1):u9 Pu a0 a1=B9 Pu a0 a1:=cf (Du _) _ _
theorem QK (a0 a1 s2):xg Pu a0 a1 s2=xh Pu a0 a1 s2:=dN (Du _) _ _ _
theorem VR (a0 a1):uT Pu a0 a1=yG Pu a0 a1:=cf (Du _) _ _
theorem IA (a0 a1 s22):oI Pu a0 a1 s22=qF Pu a0 a1 s22:=dN (Du _) _ _ _
theorem IB (a0 a1 s8 s9):qG Pu a0 a1 s8 s9=qH Pu a0 a1 s8 s9:=rS (Du _) _ _ _ _
theorem VS (a0 a1):pD Pu a0 a1=uU Pu a0 a1:=cf (Du _) _ _
theorem XI (a0 a1):zA Pu a0 a1=vm Pu a0 a1:=cf (Du _) _ _
theorem Jv (a0 a1 s8):qT Pu a0 a1 s8=qU Pu a0 a1 s8:=dN (Du _) _ _ _
theorem XJ (a0 a1):pQ Pu a0 a1=vn Pu a0 a1:=cf (Du _) _ _
theorem Jw (a0 a1 s7):nH Pu a0 a1 s7=qV Pu a0 a1 s7:=dN (Du _) _ _ _
theorem XK (a0 a1):pG Pu a0 a1=vo Pu a0 a1:=cf (Du _) _ _
theorem Jx (a0 s1 s2):oP Pu a0 s1 s2=qW Pu a0 s1 s2:=dN (Du _) _ _ _
theorem XL (a0):pH Pu a0=sm Pu a0:=dg (Du _) _
theorem VT (a0):yE Pu a0=uV Pu a0:=dg (Du _) _
theorem Jy (a0 s9):tQ Pu a0 s9=qX Pu a0 s9:=cf (Du _) _ _
theorem XM (a0):sj Pu a0=vp Pu a0:=dg (Du _) _
theorem yH (a0):jN Pu a0=nT Pu a0:=dg (Du _) _
theorem EB (a0):eo Pu a0=pE Pu a0:=dg (Du _) _
theorem Jz (a1 s7 y16 s19 s24):mr Pu a1 s7 y16 s19 s24=qY Pu a1 s7 y16 s19 s24:=kz (Du _) _ _ _ _ _
theorem JA (a1 s7 y16 s35 s36):lO Pu a1 s7 y16 s35 s36=qZ Pu a1 s7 y16 s35 s36:=kz (Du _) _ _ _ _ _
theorem JB (a0 a1 s1 s2 s7):jI Pu a0 a1 s1 s2 s7=q0 Pu a0 a1 s1 s2 s7:=kz (Du _) _ _ _ _ _
theorem MP (a0 a1):oc Pu a0 a1=pR Pu a0 a1:=cf (Du _) _ _
def L4 (p:EN):Prop:=∀a0 a1 r,p a0 a1=some r->Pure env.toCx 48 [(.agg (ab.cs a0)),(.v (.int .i64 a1))] (.ret (.v (.int .i64 r)))
def L6 (p:EO):Prop:=∀a0 a1 r,p a0 a1=some r->Pure env.toCx 23 [(.agg (ab.cs a0)),(.v (.int .i64 a1))] (.ret (.v (.bool r)))
def L7 (p:ER):Prop:=∀a0 a1 r,p a0 a1=some r->Pure env.toCx 49 [(.agg (b6.cs a0)),(.v (.int .i64 a1))] (.ret (.v (.int .i64 r)))
def L9 (p:ES):Prop:=∀a0 a1 r,p a0 a1=some r->Pure env.toCx 24 [(.agg (b6.cs a0)),(.v (.int .i64 a1))] (.ret (.v (.bool r)))
def C8 (p:T8):Prop:=∀a0 a1 a2 r,p a0 a1 a2=some r->Pure env.toCx 8 [(.agg (bA.cs a0)),(.agg (b6.cs a1)),(.sl 4 (dF.rows a2))] (.ret (.v (.bool r)))
def KT (p:DS):Prop:=∀a0 a1 r,p a0 a1=some r->Pure env.toCx 160 [(.v (.bool a0)),(.v (.int .i64 a1))] (.ret (.v (.int .i64 r)))
def KU (p:DT):Prop:=∀a0 r,p a0=some r->Pure env.toCx 107 [(.agg (ai.cs a0))] (.ret (.v (.int .i64 r)))
def KV (p:DU):Prop:=∀a0 r,p a0=some r->Pure env.toCx 109 [(.agg (ai.cs a0))] (.ret (.v (.int .i64 r)))
def KW (p:DV):Prop:=∀a0 r,p a0=some r->Pure env.toCx 113 [(.v (.int .u8 a0))] (.ret (.v (.bool r)))
def L' (p:ET):Prop:=∀a0 r,p a0=some r->Pure env.toCx 68 [(.v (.string ⟨⟨a0⟩⟩))] (.ret (.v (.bool r)))
def Ma (p:EU):Prop:=∀a0 a1 r,p a0 a1=some r->Pure env.toCx 93 [(.sl 1 (aW a0)),(.v (.string ⟨⟨a1⟩⟩))] (.ret (.v (.int .i64 r)))
def KX (p:DW):Prop:=∀a0 a1 r,p a0 a1=some r->Pure env.toCx 148 [(.sl 1 (aW a0)),(.v (.string ⟨⟨a1⟩⟩))] (.ret (.v (.bool r)))
def KY (p:DX):Prop:=∀a0 r,p a0=some r->Pure env.toCx 126 [(.sl 1 (aW a0))] (.ret (.v (.bool r)))
def KZ (p:DY):Prop:=∀a0 a1 r,p a0 a1=some r->Pure env.toCx 140 [(.sl 1 (aW a0)),(.v (.string ⟨⟨a1⟩⟩))] (.ret (.v (.bool r)))
def Mb (p:EV):Prop:=∀a0 a1 r,p a0 a1=some r->Pure env.toCx 92 [(.sl 1 (aW a0)),(.sl 1 (aW a1))] (.ret (.v (.bool r)))
def K2 (p:DZ):Prop:=∀a0 r,p a0=some r->Pure env.toCx 110 [(.agg (ai.cs a0))] (.ret (.v (.int .i64 r)))
def K3 (p:D0):Prop:=∀a0 r,p a0=some r->Pure env.toCx 111 [(.agg (ai.cs a0))] (.ret (.v (.int .i64 r)))
def K4 (p:D1):Prop:=∀a0 r,p a0=some r->Pure env.toCx 161 [(.agg (ai.cs a0))] (.ret (.v (.bool r)))
def K5 (p:D2):Prop:=∀a0 r,p a0=some r->Pure env.toCx 112 [(.agg (ai.cs a0))] (.ret (.v (.int .i64 r)))
def K6 (p:D3):Prop:=∀a0 r,p a0=some r->Pure env.toCx 108 [(.sl 1 (dL .i64 a0))] (.ret (.v (.int .i64 r)))
def Md (p:EW):Prop:=∀a0 a1 a2 r,p a0 a1 a2=some r->oU env 67 [(.own 0 0),(.d (.agg (ai.cs a1))),(.d (.v (.int .i64 a2)))] (.box (cN.cs a0)) (.v (.int .i64 r.1)) (.box (cN.cs r.2))
def Mf (p:EX):Prop:=∀a0 r,p a0=some r->Pure env.toCx 31 [(.agg (ai.cs a0))] (.ret (.v (.int .i64 r)))
def Mg (p:EY):Prop:=∀a0 a1 r,p a0 a1=some r->Pure env.toCx 70 [(.agg (TParam.cs a0)),(.ip (TParam.cs a1))] (.ret (.v (.bool r)))
def HL (p:Bb):Prop:=∀a0 a1 r,p a0 a1=some r->Pure env.toCx 114 [(.sl 2 (TParam.rows a0)),(.fn 70 [] [(.ip (TParam.cs a1))])] (.ret (.v (.int .i64 r)))
def Iu (p:By):Prop:=∀a0 a1 r,p a0 a1=some r->Pure env.toCx 69 [(.sl 2 (TParam.rows a0)),(.fn 70 [] [(.ip (TParam.cs a1))])] (.ret (.v (.bool r)))
def Mh (p:EZ):Prop:=∀a0 r,p a0=some r->Pure env.toCx 32 [(.agg (bA.cs a0))] (.ret (.v (.bool r)))
def Mi (p:E0):Prop:=∀a0 a1 r,p a0 a1=some r->Pure env.toCx 71 [(.sl 2 (TParam.rows a0)),(.agg (ab.cs a1))] (.ret (.bX [(.agg (af.cs r.1)),(.v (.bool r.2))]))
def Mj (p:E1):Prop:=∀a0 r,p a0=some r->Pure env.toCx 72 [(.v (.int .i64 a0))] (.ret (.bX [(.v (.int .i64 r.1)),(.v (.int .i64 r.2))]))
def Mk (p:E2):Prop:=∀a0 r,p a0=some r->Pure env.toCx 73 [(.v (.int .i64 a0))] (.ret (.v (.string ⟨⟨r⟩⟩)))
def Ml (p:E3):Prop:=∀a0 a1 r,p a0 a1=some r->Pure env.toCx 33 [(.sl 2 (TParam.rows a0)),(.agg (ab.cs a1))] (.ret (.bX [(.agg (af.cs r.1)),(.v (.bool r.2))]))
def Mn (p:E4):Prop:=∀a0 r,p a0=some r->Pure env.toCx 79 [(.agg (ai.cs a0))] (.ret (.agg (ay.cs r)))
def Mo (p:E5):Prop:=∀a0 r,p a0=some r->Pure env.toCx 80 [(.v (.int .i64 a0))] (.ret (.agg (ay.cs r)))
def Mp (p:E6):Prop:=∀a0 a1 r,p a0 a1=some r->Pure env.toCx 35 [(.agg (ai.cs a0)),(.agg (bA.cs a1))] (.ret (.agg (ay.cs r)))
def K7 (p:D4):Prop:=∀a0 a1 r,p a0 a1=some r->Pure env.toCx 162 [(.agg (TParam.cs a0)),(.ip (af.cs a1))] (.ret (.v (.bool r)))
def G7 (p:AN):Prop:=∀a0 a1 r,p a0 a1=some r->Pure env.toCx 114 [(.sl 2 (TParam.rows a0)),(.fn 162 [] [(.ip (af.cs a1))])] (.ret (.v (.int .i64 r)))
def K8 (p:D5):Prop:=∀a0 a1 r,p a0 a1=some r->Pure env.toCx 119 [(.v (.int .i64 a0)),(.v (.int .i64 a1))] (aU.ar (λx=>(.bX [])) r)
def K9 (p:D6):Prop:=∀a0 r,p a0=some r->Pure env.toCx 118 [(.agg (ay.cs a0))] (.ret (.v (.bool r)))
def La (p:D7):Prop:=∀a0 r,p a0=some r->Pure env.toCx 219 [(.v (.string ⟨⟨a0⟩⟩))] (.ret (.v (.int .i64 r)))
def Lb (p:D8):Prop:=∀a0 a1 r,p a0 a1=some r->Pure env.toCx 260 [(.sl 1 (dL .i64 a0)),(.v (.int .i64 a1))] (.ret (.v (.int .i64 r)))
def Lc (p:D9):Prop:=∀a0 a1 r,p a0 a1=some r->Pure env.toCx 221 [(.sl 1 (dL .i64 a0)),(.v (.int .i64 a1))] (.ret (.v (.bool r)))
def Ld (p:D'):Prop:=∀a0 a1 a2 r,p a0 a1 a2=some r->Pure env.toCx 220 [(.sl 1 (dL .i64 a0)),(.ip (ay.cs a1)),(.ip (af.cs a2))] (aU.ar (λx=>(.bX [])) r)
def Lf (p:Eb):Prop:=∀a0 r,p a0=some r->Pure env.toCx 129 [(.sl 1 (aW a0))] (.ret (.sl 1 (aW r)))
def Ky (p:C3):Prop:=∀a0 r,p a0=some r->mw env 166 [(.sl 2 (aN.rows a0))] 181 2 (aN.rows r)
def Kz (p:C5):Prop:=∀a0 r,p a0=some r->mw env 167 [(.sl 6 (ai.rows a0))] 26 6 (ai.rows r)
def Lg (p:Ec):Prop:=∀a0 r,p a0=some r->Pure env.toCx 117 [(.agg (ai.cs a0))] (.ret (.agg (ai.cs r)))
def Li (p:Ed):Prop:=∀a0 r,p a0=some r->Pure env.toCx 262 [(.agg (af.cs a0))] (.ret (.v (.bool r)))
def Lj (p:Ee):Prop:=∀a0 a1 r,p a0 a1=some r->Pure env.toCx 168 [(.sl 1 (aW a0)),(.sl 1 (aW a1))] (.ret (.v (.bool r)))
def Lk (p:Ef):Prop:=∀a0 a1 r,p a0 a1=some r->Pure env.toCx 170 [(.agg (aN.cs a0)),(.agg (aN.cs a1))] (.ret (.v (.bool r)))
def HM (p:Bc):Prop:=∀a0 a1 r,p a0 a1=some r->Pure env.toCx 169 [(.sl 2 (aN.rows a0)),(.sl 2 (aN.rows a1)),(.v (.func (.func 170) #[] #[]))] (.ret (.v (.bool r)))
def Ln (p:Eg):Prop:=∀a0 a1 r,p a0 a1=some r->Pure env.toCx 120 [(.agg (ai.cs a0)),(.agg (ai.cs a1))] (.ret (.v (.bool r)))
def HN (p:Bd):Prop:=∀a0 a1 r,p a0 a1=some r->Pure env.toCx 171 [(.sl 6 (ai.rows a0)),(.sl 6 (ai.rows a1)),(.v (.func (.func 120) #[] #[]))] (.ret (.v (.bool r)))
def Mq (p:E7):Prop:=∀a0 a1 r,p a0 a1=some r->Pure env.toCx 81 [(.agg (ay.cs a0)),(.agg (ay.cs a1))] (.ret (.v (.bool r)))
def Mr (p:E8):Prop:=∀a0 a1 a2 r,p a0 a1 a2=some r->Pure env.toCx 78 [(.ip (bm.cs a0)),(.agg (af.cs a1)),(.agg (ay.cs a2))] (aU.ar (λx=>(.agg (ab.cs x))) r)
def Lq (p:Eh):Prop:=∀a0 a1 a2 r,p a0 a1 a2=some r->Pure env.toCx 116 [(.ip (bm.cs a0)),(.agg (af.cs a1)),(.agg (ay.cs a2))] (aU.ar (λx=>(.agg (ab.cs x))) r)
def Lr (p:Ei):Prop:=∀a0 a1 a2 a3 a4 a5 r,p a0 a1 a2 a3 a4 a5=some r->Pure env.toCx 163 [(.ip (bm.cs a0)),(.v (.int .i64 a1)),(.agg (af.cs a2)),(.agg (ay.cs a3)),(.agg (ay.cs a4)),(.agg (ay.cs a5))] (aU.ar (λx=>(.agg (ab.cs x))) r)
def Ls (p:Ej):Prop:=∀a0 a1 a2 r,p a0 a1 a2=some r->Pure env.toCx 164 [(.ip (bm.cs a0)),(.agg (af.cs a1)),(.agg (ay.cs a2))] (aU.ar (λx=>(.agg (ab.cs x))) r)
def Lv (p:Ek):Prop:=∀a0 a1 a2 r,p a0 a1 a2=some r->Pure env.toCx 223 [(.ip (bm.cs a0)),(.agg (af.cs a1)),(.agg (ai.cs a2))] (aU.ar (λx=>(.sl 12 (ab.rows x))) r)
def Lw (p:Em):Prop:=∀a0 a1 r,p a0 a1=some r->Pure env.toCx 224 [(.ip (bm.cs a0)),(.agg (af.cs a1))] (aU.ar (λx=>(.agg (ab.cs x))) r)
def Lx (p:En):Prop:=∀a0 a1 a2 a3 a4 a5 r,p a0 a1 a2 a3 a4 a5=some r->Pure env.toCx 261 [(.v (.int .i64 a0)),(.agg (ay.cs a1)),(.sl 1 (dL .i64 a2)),(.ip ([.ip (bm.cs a3)])),(.ip (af.cs a4)),(.ip (af.cs a5))] (aU.ar (λx=>(.agg (ab.cs x))) r)
def Ly (p:Eo):Prop:=∀a0 a1 a2 a3 r,p a0 a1 a2 a3=some r->Pure env.toCx 226 [(.ip (bm.cs a0)),(.agg (af.cs a1)),(.agg (af.cs a2)),(.sl 1 (dL .i64 a3))] (aU.ar (λx=>(.agg (ab.cs x))) r)
def Lz (p:Ep):Prop:=∀a0 a1 a2 r,p a0 a1 a2=some r->Pure env.toCx 165 [(.ip (bm.cs a0)),(.agg (af.cs a1)),(.agg (ay.cs a2))] (aU.ar (λx=>(.agg (ab.cs x))) r)
def LA (p:Er):Prop:=∀a0 a1 a2 a3 a4 r,p a0 a1 a2 a3 a4=some r->Pure env.toCx 225 [(.ip (bm.cs a0)),(.agg (af.cs a1)),(.agg (af.cs a2)),(.agg (af.cs a3)),(.v (.bool a4))] (aU.ar (λx=>(.bX [(.agg (ab.cs x.1)),(.agg (ab.cs x.2))])) r)
def Mt (p:E9):Prop:=∀a0 a1 a2 a3 r,p a0 a1 a2 a3=some r->Pure env.toCx 34 [(.agg (ai.cs a0)),(.sl 2 (TParam.rows a1)),(.agg (ay.cs a2)),(.agg (af.cs a3))] (.ret (.bX [(.agg (ab.cs r.1)),(.agg (dX.cs r.2))]))
def Mu (p:E'):Prop:=∀a0 a1 r,p a0 a1=some r->Pure env.toCx 36 [(.agg (ab.cs a0)),(.agg (ab.cs a1))] (.ret (.v (.bool r)))
def Jm (p:BS):Prop:=∀a0 a1 r,p a0 a1=some r->Pure env.toCx 82 [(.sl 12 (ab.rows a0)),(.sl 12 (ab.rows a1)),(.v (.func (.func 36) #[] #[]))] (.ret (.v (.bool r)))
def EF (p:yR):Prop:=∀a0 a1 r,p a0 a1=some r->Pure env.toCx 12 [(.agg (ai.cs a0)),(.agg (bA.cs a1))] (.ret (.v (.bool r)))
def Mv (p:Fa):Prop:=∀a0 r,p a0=some r->Pure env.toCx 25 [(.sl 2 (TParam.rows a0))] (.ret (.sl 2 (TParam.rows r)))
def Mw (p:Fb):Prop:=∀a0 a1 r,p a0 a1=some r->Pure env.toCx 50 [(.agg (ab.cs a0)),(.agg (ab.cs a1))] (.ret (.v (.bool r)))
def Jn (p:BT):Prop:=∀a0 a1 r,p a0 a1=some r->Pure env.toCx 82 [(.sl 12 (ab.rows a0)),(.sl 12 (ab.rows a1)),(.v (.func (.func 50) #[] #[]))] (.ret (.v (.bool r)))
def Mx (p:Fc):Prop:=∀a0 r,p a0=some r->Pure env.toCx 51 [(.agg (ab.cs a0))] (.ret (.agg (ab.cs r)))
def My (p:Fe):Prop:=∀a0 r,p a0=some r->Pure env.toCx 53 [(.agg (ab.cs a0))] (.ret (.v (.bool r)))
def Mz (p:Ff):Prop:=∀a0 a1 r,p a0 a1=some r->Pure env.toCx 27 [(.agg (ab.cs a0)),(.agg (ab.cs a1))] (.ret (.agg (ab.cs r)))
def MA (p:Fg):Prop:=∀a0 r,p a0=some r->Pure env.toCx 26 [(.agg (ab.cs a0))] (.ret (.agg (ab.cs r)))
def C9 (p:T9):Prop:=∀a0 a1 r,p a0 a1=some r->Pure env.toCx 9 [(.agg (ai.cs a0)),(.agg (bA.cs a1))] (.ret (.bX [(.agg (bA.cs r.1)),(.v (.int .i64 r.2))]))
def LB (p:Es):Prop:=∀a0 a1 r,p a0 a1=some r->Pure env.toCx 159 [(.sl 1 (aW a0)),(.sl 1 (aW a1))] (.ret (.v (.bool r)))
def LC (p:Et):Prop:=∀a0 a1 r,p a0 a1=some r->Pure env.toCx 106 [(.agg (ai.cs a0)),(.agg (ai.cs a1))] (.ret (.v (.bool r)))
def MB (p:Fh):Prop:=∀a0 a1 r,p a0 a1=some r->Pure env.toCx 66 [(.agg (ay.cs a0)),(.agg (ay.cs a1))] (.ret (.v (.bool r)))
def MC (p:Fi):Prop:=∀a0 a1 r,p a0 a1=some r->Pure env.toCx 30 [(.agg (ab.cs a0)),(.agg (ab.cs a1))] (.ret (.v (.bool r)))
def ED (p:yO):Prop:=∀a0 a1 r,p a0 a1=some r->Pure env.toCx 11 [(.agg (bA.cs a0)),(.agg (bA.cs a1))] (.ret (.v (.bool r)))
def EG (p:yS):Prop:=∀a0 r,p a0=some r->Pure env.toCx 13 [(.agg (ab.cs a0))] (.ret (.v (.int .i64 r)))
def LD (p:Eu):Prop:=∀a0 r,p a0=some r->Pure env.toCx 102 [(.v (.int .u8 a0))] (.ret (.v (.bool r)))
def MD (p:Fj):Prop:=∀a0 r,p a0=some r->Pure env.toCx 55 [(.v (.string ⟨⟨a0⟩⟩))] (.ret (.v (.bool r)))
def LF (p:Ev):Prop:=∀a0 r,p a0=some r->Pure env.toCx 103 [(.v (.int .i64 a0))] (.ret (.v (.int .i64 r)))
def LG (p:Ew):Prop:=∀a0 r,p a0=some r->Pure env.toCx 104 [(.v (.int .i64 a0))] (.ret (.v (.string ⟨⟨r⟩⟩)))
def ME (p:Fk):Prop:=∀a0 a1 r,p a0 a1=some r->Pure env.toCx 59 [(.sl 2 (TParam.rows a0)),(.agg (ab.cs a1))] (.ret (.bX [(.agg (af.cs r.1)),(.v (.bool r.2))]))
structure Ku (n:Nat):Prop where
 L5:L4 (vc (Gu n))
 W3:L6 (zj (Gu n))
 L8:L7 (vd (Gu n))
 W4:L9 (zm (Gu n))
 c8:C8 (u8 (Gu n))
 gF:KT (bL (Gu n))
 Vk:KU (uJ (Gu n))
 Vl:KV (yy (Gu n))
 Vj:KW (yA (Gu n))
 zd:L' (mJ (Gu n))
 EL:Ma (sb (Gu n))
 K0:KX (uK (Gu n))
 DL:KY (nQ (Gu n))
 DK:KZ (nR (Gu n))
 Mc:Mb (pO (Gu n))
 Vm:K2 (uL (Gu n))
 Vn:K3 (uM (Gu n))
 DM:K4 (pz (Gu n))
 Vo:K5 (uN (Gu n))
 Vp:K6 (uO (Gu n))
 Me:Md (sd (Gu n))
 W9:Mf (ve (Gu n))
 W5:Mg (Fl (Gu n))
 PN:HL (wF (Gu n))
 QH:Iu (w7 (Gu n))
 Xa:Mh (u32 (Gu n))
 W6:Mi (se (Gu n))
 W7:Mj (jm (Gu n))
 W8:Mk (lk (Gu n))
 Mm:Ml (mc (Gu n))
 iL:Mn (fR (Gu n))
 gJ:Mo (dU (Gu n))
 Xb:Mp (zr (Gu n))
 Vq:K7 (Ex (Gu n))
 O1:G7 (wg (Gu n))
 fb:K8 (ee (Gu n))
 yx:K9 (pA (Gu n))
 Vw:La (fc (Gu n))
 Vr:Lb (yB (Gu n))
 DN:Lc (rJ (Gu n))
 kp:Ld (fX (Gu n))
 Lh:Lf (uP (Gu n))
 TU:Ky (C6 (Gu n))
 TV:Kz (C' (Gu n))
 DP:Lg (rK (Gu n))
 yh:Li (l5 (Gu n))
 Ll:Lj (uQ (Gu n))
 Vs:Lk (uR (Gu n))
 PO:HM (wG (Gu n))
 Lp:Ln (rL (Gu n))
 PQ:HN (wH (Gu n))
 EM:Mq (n9 (Gu n))
 cW:Mr (cn (Gu n))
 Vt:Lq (nS (Gu n))
 uI:Lr (iF (Gu n))
 Vu:Ls (dM (Gu n))
 Lt:Lv (rM (Gu n))
 Lu:Lw (uS (Gu n))
 pB:Lx (jM (Gu n))
 Ey:Ly (mE (Gu n))
 Vv:Lz (yD (Gu n))
 Ez:LA (pC (Gu n))
 Xc:Mt (zt (Gu n))
 MF:Mu (sf (Gu n))
 RC:Jm (xy (Gu n))
 rR:EF (l7 (Gu n))
 Xd:Mv (zw (Gu n))
 MG:Mw (si (Gu n))
 RE:Jn (xz (Gu n))
 zx:Mx (pP (Gu n))
 zy:My (mK (Gu n))
 vf:Mz (jo (Gu n))
 MH:MA (vg (Gu n))
 c9:C9 (u9 (Gu n))
 LH:LB (uT (Gu n))
 LI:LC (pD (Gu n))
 Xe:MB (zA (Gu n))
 MI:MC (pQ (Gu n))
 EC:ED (pG (Gu n))
 uY:EG (pH (Gu n))
 Vx:LD (yE (Gu n))
 Xg:MD (sj (Gu n))
 Vy:LF (jN (Gu n))
 Vz:LG (eo (Gu n))
 Xh:ME (oc (Gu n))
def Ou (n:Nat):Prop:=∀m,m<=n->Ku m
theorem O0 (l:List (List UInt8)):aW l=l.map λx=>[.v (.string ⟨⟨x⟩⟩)]:=rfl
theorem Ou.a {N m:Nat} (h:Ou N) (hm:m<=N:=by omega):Ku m:=h m hm
