/- Printed by a program: what functions answer, and that they do. -/
import Derived.Test.YtnocmolegijmkaaGreatKHx
set_option linter.all false
set_option maxRecDepth 100000
noncomputable section
namespace Go.Proofs.YtnocmolegijmkaaGreat
open Go Go.Bw
abbrev tD (f:Us):M7:=λa b=>(bif decide (b<(↑a.length:Int))then((ao (a:List UInt8) b).bind λc=>(bif decide ((↑c.toNat:Int)<97)then((ao (a:List UInt8) b).bind λd=>(bif decide ((↑d.toNat:Int)<48)then((ao (a:List UInt8) b).bind λe=>(bif (↑e.toNat:Int) !=45 then(some false)else(mc f a (IntKind.i64.wrap (b+1)))))else((ao (a:List UInt8) b).bind λg=>(bif decide ((↑g.toNat:Int)>57)then((ao (a:List UInt8) b).bind λh=>(bif (↑h.toNat:Int) !=45 then(some false)else(mc f a (IntKind.i64.wrap (b+1)))))else(mc f a (IntKind.i64.wrap (b+1)))))))else((ao (a:List UInt8) b).bind λi=>(bif decide ((↑i.toNat:Int)>122)then((ao (a:List UInt8) b).bind λj=>(bif decide ((↑j.toNat:Int)<48)then((ao (a:List UInt8) b).bind λk=>(bif (↑k.toNat:Int) !=45 then(some false)else(mc f a (IntKind.i64.wrap (b+1)))))else((ao (a:List UInt8) b).bind λl=>(bif decide ((↑l.toNat:Int)>57)then((ao (a:List UInt8) b).bind λm=>(bif (↑m.toNat:Int) !=45 then(some false)else(mc f a (IntKind.i64.wrap (b+1)))))else(mc f a (IntKind.i64.wrap (b+1)))))))else(mc f a (IntKind.i64.wrap (b+1)))))))else(some true))
abbrev yE (f:Us):H2:=λa=>(bif decide ((↑a.length:Int)<1)then(some false)else(bif decide ((↑a.length:Int)>16)then(some false)else((ao (a:List UInt8) 0).bind λb=>(bif decide ((↑b.toNat:Int)<97)then(some false)else((ao (a:List UInt8) 0).bind λc=>(bif decide ((↑c.toNat:Int)>122)then(some false)else(mc f a 0)))))))
abbrev tE (f:Us):M8:=λa c b=>(bif decide (b<(↑(aT a).length:Int))then((ao a b).bind λd=>(bif d==c then(some true)else(qR f a c (IntKind.i64.wrap (b+1)))))else(some false))
abbrev u4 (f:Us):H3:=λa b=>(qR f a b 0)
abbrev pA (f:Us):M9:=λb a=>(bif decide (a<(↑(aT b).length:Int))then((ao b a).bind λc=>((yy f c).bind λd=>(bif !d then(some false)else(bif decide (a>0)then((ao b (IntKind.i64.wrap (a-1))).bind λe=>((ao b a).bind λg=>(bif !Op.bytesLess e g then(some false)else(me f b (IntKind.i64.wrap (a+1))))))else(me f b (IntKind.i64.wrap (a+1)))))))else(some true))
abbrev sf (f:Us):H4:=λa=>(me f a 0)
abbrev pB (f:Us):M':=λa b=>(bif decide (b<(↑(aT a.Names).length:Int))then((ao a.Names b).bind λc=>((yy f c).bind λd=>(bif !d then(some false)else((oB a.Names 0 b).bind λe=>((ao a.Names b).bind λg=>((uZ f e g).bind λh=>(bif h then(some false)else(ng f a (IntKind.i64.wrap (b+1))))))))))else(some true))
abbrev pC (f:Us):Na:=λa d h e b i j g c=>(bif decide (c<(↑(aT b.If).length:Int))then((ao b.If c).bind λk=>((uZ f a.Names k).bind λl=>(bif !l then(some false)else(nh f a d h e b i j g (IntKind.i64.wrap (c+1))))))else(ni f a d g (IntKind.i64.wrap (e+1))))
abbrev pD (f:Us):Nb:=λa h d c=>(bif decide (c<(↑(aP.rows a.aX).length:Int))then((ao a.aX c).bind λb=>(bif (↑(aT b.If).length:Int)==0 then(some false)else((u0 f b.If).bind λe=>(bif !e then(some false)else((uZ f a.Names b.eY).bind λg=>(bif !g then(some false)else(nh f a h d c b e g d 0)))))))else(some true))
abbrev u7 (f:Us):H5:=λa=>(bif a.Kind==6 then(ng f a 0)else((u0 f a.Names).bind λb=>(bif !b then(some false)else(ni f a b false 0))))
abbrev sk (f:Us):H6:=λa=>(bif a.Kind==1 then(some true)else(bif a.Kind==2 then(some true)else(bif a.Kind==3 then(some true)else(bif a.Kind==7 then(bif (↑(ah.rows a.aw).length:Int)==2 then((ao a.aw 0).bind λb=>((sa f b).bind λc=>(bif c then((ao a.aw 1).bind λd=>((sa f d).bind λe=>(some e)))else(some false))))else(some false))else(some false)))))
abbrev va (f:Us):H7:=λa b c=>(bif a.Kind==6 then(bif decide (b>6)then(some 6)else(bif decide (c>=64)then(some 6)else((r8 f a).bind λd=>(bif !d then(some 1)else(bif decide ((↑(aT a.Names).length:Int)>8)then(some 6)else(bif decide ((↑(aP.rows a.aX).length:Int)>32)then(some 6)else((r9 f a).bind λe=>(bif !e then(some 3)else(bif decide (a.Lo>a.Hi)then(some 5)else(bif decide (a.Lo< -1000000000)then(some 5)else(bif decide (a.Hi>1000000000)then(some 5)else(some 0))))))))))))else(bif a.Kind==10 then(bif decide (b>6)then(some 6)else(bif decide (c>=64)then(some 6)else((r8 f a).bind λg=>(bif !g then(some 1)else(bif decide ((↑(aT a.Names).length:Int)>12)then(some 6)else(bif decide ((↑(aP.rows a.aX).length:Int)>32)then(some 6)else((r9 f a).bind λh=>(bif !h then(some 3)else(bif decide (a.Lo>a.Hi)then(some 5)else(bif decide (a.Lo< -1000000000)then(some 5)else(bif decide (a.Hi>1000000000)then(some 5)else(some 0))))))))))))else(bif decide (b>6)then(some 6)else(bif decide (c>=64)then(some 6)else((r8 f a).bind λi=>(bif !i then(some 1)else(bif decide ((↑(aT a.Names).length:Int)>32)then(some 6)else(bif decide ((↑(aP.rows a.aX).length:Int)>32)then(some 6)else((r9 f a).bind λj=>(bif !j then(some 3)else(bif decide (a.Lo>a.Hi)then(some 5)else(bif decide (a.Lo< -1000000000)then(some 5)else(bif decide (a.Hi>1000000000)then(some 5)else(bif a.Kind==7 then((ao a.aw 0).bind λk=>((sa f k).bind λl=>(bif !l then(some 4)else(some 0))))else(some 0)))))))))))))))
abbrev pE (f:Us):Nc:=λa e b c=>(bif decide (c<(↑(ah.rows a.aw).length:Int))then((ao a.aw c).bind λg=>((u1 f g (IntKind.i64.wrap (e+1)) b).bind λd=>(bif d.snd !=0 then(some ((b,d.snd)))else(nj f a e d.fst (IntKind.i64.wrap (c+1))))))else(some ((b,0))))
abbrev vb (f:Us):H8:=λb c a=>((yA f b c a).bind λd=>(bif d !=0 then(some ((a,d)))else(nj f b c (IntKind.i64.wrap (a+1)) 0)))
abbrev vF (f:Us):Jr:=λa=>((u1 f a 1 0).bind λb=>(some b.snd))
abbrev yG (f:Us):H9:=λa=>(bif decide (a>=97)then(bif decide (a<=122)then(some true)else(bif decide (a>=48)then(bif decide (a<=57)then(some true)else(some (a==45)))else(some (a==45))))else(bif decide (a>=48)then(bif decide (a<=57)then(some true)else(some (a==45)))else(some (a==45))))
abbrev ua (f:Us):OB:=λa b=>(bif decide (b<(↑a.length:Int))then((ao (a:List UInt8) b).bind λc=>((CG f ((↑c.toNat:Int))).bind λd=>(bif !d then(some false)else(xh f a (IntKind.i64.wrap (b+1))))))else(some true))
abbrev zU (f:Us):Js:=λa=>(bif decide ((↑a.length:Int)<1)then(some false)else(bif decide ((↑a.length:Int)>16)then(some false)else((ao (a:List UInt8) 0).bind λb=>(bif decide ((↑b.toNat:Int)<97)then(some false)else((ao (a:List UInt8) 0).bind λc=>(bif decide ((↑c.toNat:Int)>122)then(some false)else(xh f a 0)))))))
abbrev ub (f:Us):OC:=λa c b=>(bif decide (b<(↑(aT a).length:Int))then((ao a b).bind λd=>(bif d==c then(some true)else(xi f a c (IntKind.i64.wrap (b+1)))))else(some false))
abbrev vA (f:Us):Jt:=λa b=>(xi f a b 0)
abbrev Dn (f:Us):Ju:=λa=>(some ({aK:=a,ai:=ah.z:ay}))
abbrev Dp (f:Us):Jv:=λa=>(some ({aK:=0,ai:=a:ay}))
abbrev oK (f:Us):H':=λa=>(bif a==8 then(some 31)else(bif a==9 then(some 32)else(bif a==11 then(some 34)else(bif a==12 then(some 35)else(bif a==13 then(some 36)else(bif a==14 then(some 37)else(bif a==15 then(some 38)else(bif a==16 then(some 39)else(bif a==17 then(some 40)else(bif a==18 then(some 41)else(bif a==20 then(some 43)else(some 0))))))))))))
abbrev qc (f:Us):Ia:=λa=>(bif a==21 then(some ([102,108,97,103]))else(bif a==22 then(some ([110,117,109]))else(bif a==23 then(some ([115,101,116]))else(bif a==24 then(some ([109,97,112]))else(bif a==25 then(some ([114,101,99]))else(bif a==26 then(some ([112,97,105,114]))else(bif a==27 then(some ([111,110,101]))else(bif a==28 then(some ([119,114,105,116,101]))else(bif a==29 then(some ([115,105,122,101]))else(bif a==30 then(some ([115,117,109]))else(bif a==31 then(some ([110,117,109,98,101,114]))else(bif a==32 then(some ([111,110]))else(bif a==33 then(some ([107,101,121,115]))else(bif a==34 then(some ([118,97,108,117,101,115]))else(bif a==35 then(some ([102,105,114,115,116]))else(bif a==36 then(some ([115,101,99,111,110,100]))else(bif a==37 then(some ([99,111,110,102,108,105,99,116]))else(some ([])))))))))))))))))))
abbrev pR (f:Us):OD:=λd a e b c=>(bif decide (IntKind.i64.wrap (b+1)<(↑(af.rows a).length:Int))then((ao a b).bind λg=>((ao a b).bind λh=>((ao a (IntKind.i64.wrap (b+1))).bind λi=>(bif decide (((c:List af)++([⟨52,[],0,g.At,[h,i]⟩]:List af)).length<=274877906944)then(mi f d a e (IntKind.i64.wrap (b+2)) (c++[⟨52,[],0,g.At,[h,i]⟩]))else none))))else(some ((⟨51,e,0,d.At,c⟩,(↑(af.rows a).length:Int).tmod 2==0))))
abbrev pS (f:Us):OE:=λb d e c a=>(bif decide (a<(↑(af.rows d).length:Int))then((ao b.aj.ai.Names a).bind λg=>((ao c a).bind λh=>((ao c a).bind λi=>(jR f b d e (c.set a.toNat ⟨52,g,0,b.At,[h]⟩) (IntKind.i64.wrap (a+1))))))else(some ((⟨51,e,0,b.At,c⟩,true))))
abbrev rk (f:Us):OF:=λd a i e b=>(bif decide (e<(↑(ab.rows a.Kids).length:Int))then((ao a.Kids e).bind λj=>((lh f d j).bind λg=>(bif !g.snd then(some ((⟨0,[],0,a.At,b⟩,false)))else(bif decide (((b:List af)++([g.fst]:List af)).length<=274877906944)then(iT f d a i (IntKind.i64.wrap (e+1)) (b++[g.fst]))else none))))else((ka f a.Op).bind λh=>(bif h !=0 then(some ((⟨h,[],0,a.At,b⟩,(↑(af.rows b).length:Int)==2)))else((eD f a.Op).bind λc=>(bif !c==[]then(bif a.Op==24 then(mi f a b c 0 ([]))else(bif a.Op==25 then(bif (↑(aT a.aj.ai.Names).length:Int) !=(↑(af.rows b).length:Int)then(some ((⟨51,c,0,a.At,b⟩,false)))else(jR f a b c b 0))else(some ((⟨51,c,0,a.At,b⟩,true)))))else(bif a.Op==1 then(bif (↑(af.rows b).length:Int)==0 then(bif decide (a.N>= -1000000000000000)then(some ((⟨44,[],a.N,a.At,b⟩,decide (a.N<=1000000000000000))))else(some ((⟨44,[],a.N,a.At,b⟩,false))))else(some ((⟨44,[],a.N,a.At,b⟩,false))))else(bif a.Op==2 then(bif a.N==1 then(some ((⟨45,[],0,a.At,b⟩,(↑(af.rows b).length:Int)==0)))else(some ((⟨46,[],0,a.At,b⟩,(↑(af.rows b).length:Int)==0))))else(bif a.Op==3 then(bif (↑(af.rows b).length:Int)==0 then((oU f a.Text).bind λk=>(some ((⟨47,a.Text,0,a.At,b⟩,k))))else(some ((⟨47,a.Text,0,a.At,b⟩,false))))else(bif a.Op==4 then(bif decide (a.N<0)then(some ((⟨0,[],0,a.At,b⟩,false)))else(bif decide (a.N>=(↑(TParam.rows d).length:Int))then(some ((⟨0,[],0,a.At,b⟩,false)))else((ao d a.N).bind λl=>(some ((⟨48,l.Name,0,a.At,b⟩,(↑(af.rows b).length:Int)==0))))))else(bif a.Op==5 then(some ((⟨49,[],0,a.At,b⟩,(↑(af.rows b).length:Int)==0)))else(bif a.Op==6 then(some ((⟨50,[],0,a.At,b⟩,(↑(af.rows b).length:Int)==0)))else(bif a.Op==7 then(some ((⟨30,[],0,a.At,b⟩,(↑(af.rows b).length:Int)==3)))else(bif a.Op==10 then(some ((⟨33,[],0,a.At,b⟩,(↑(af.rows b).length:Int)==1)))else(bif a.Op==19 then(bif (↑(af.rows b).length:Int) !=1 then(some ((⟨0,[],0,a.At,b⟩,false)))else(bif decide (a.N<0)then(some ((⟨0,[],0,a.At,b⟩,false)))else((ao a.Kids 0).bind λm=>(bif decide (a.N>=(↑(aT m.aj.ai.Names).length:Int))then(some ((⟨0,[],0,a.At,b⟩,false)))else((ao a.Kids 0).bind λn=>((ao n.aj.ai.Names a.N).bind λo=>(some ((⟨42,o,0,a.At,b⟩,true)))))))))else(some ((⟨0,[],0,a.At,b⟩,false)))))))))))))))))
abbrev qt (f:Us):Jw:=λa b=>(iT f a b false 0 ([]))
abbrev CJ (f:Us):Ib:=λa b=>(some ({Code:=a,At:=b:aS}))
abbrev yK (f:Us):Ic:=λa=>(bif a.aK==0 then(some (a.ai.Kind==0))else(some false))
abbrev kg (f:Us):Ie:=λa=>(bif a.Kind==50 then(some true)else(bif a.Kind==51 then(bif a.Text==[102,108,97,103]then(some true)else(bif a.Text==[110,117,109]then(some true)else(bif a.Text==[115,101,116]then(some true)else(bif a.Text==[109,97,112]then(some true)else(bif a.Text==[114,101,99]then(some true)else(bif a.Text==[112,97,105,114]then(some true)else(bif a.Text==[111,110,101]then(some true)else(some false))))))))else(bif a.Kind==39 then((ao a.Kids 0).bind λb=>((eX f b).bind λc=>(bif c then((ao a.Kids 1).bind λd=>((eX f d).bind λe=>(some e)))else(some false))))else(bif a.Kind==30 then((ao a.Kids 1).bind λg=>((eX f g).bind λh=>(bif h then((ao a.Kids 2).bind λi=>((eX f i).bind λj=>(some j)))else(some false))))else(some false)))))
abbrev kW (f:Us):Ig:=λa b=>(bif a==[115,101,116]then(some true)else(bif a==[109,97,112]then(some true)else(bif a==[114,101,99]then(some true)else(bif a==[119,114,105,116,101]then(some (b==3))else(bif a==[112,97,105,114]then(some (b==2))else(some (b==1)))))))
abbrev BM (f:Us):Nd:=λb c a=>(bif decide (a<(↑(aT b).length:Int))then((ao b a).bind λd=>((ao c a).bind λe=>(bif !d==e then(some false)else(BL f b c (IntKind.i64.wrap (a+1))))))else(some true))
abbrev CK (f:Us):Ih:=λa b=>(bif (↑(aT a).length:Int) !=(↑(aT b).length:Int)then(some false)else(BL f a b 0))
abbrev tF (f:Us):Nf:=λb c a=>(bif decide (a<(↑(ah.rows b.aw).length:Int))then((ao b.aw a).bind λd=>((ao c.aw a).bind λe=>((sd f d e).bind λg=>(bif !g then(some false)else(qS f b c (IntKind.i64.wrap (a+1)))))))else(some true))
abbrev tH (f:Us):Ng:=λb c d a=>(bif decide (a<(↑(aP.rows b.aX).length:Int))then((ao b.aX a).bind λe=>((ao c.aX a).bind λg=>(bif !e.eY==g.eY then(some false)else((ao b.aX a).bind λh=>((ao c.aX a).bind λi=>((yB f h.If i.If).bind λj=>(bif !j then(some false)else(tG f b c d (IntKind.i64.wrap (a+1))))))))))else(qS f b c 0))
abbrev yM (f:Us):Ii:=λa b=>(bif a.Kind !=b.Kind then(some false)else(bif a.Lo !=b.Lo then(some false)else(bif a.Hi !=b.Hi then(some false)else((yB f a.Names b.Names).bind λc=>(bif !c then(some false)else(bif (↑(ah.rows a.aw).length:Int) !=(↑(ah.rows b.aw).length:Int)then(some false)else(bif (↑(aP.rows a.aX).length:Int) !=(↑(aP.rows b.aX).length:Int)then(some false)else(tG f a b false 0))))))))
abbrev zV (f:Us):Jx:=λa b=>(bif a.aK==b.aK then((sd f a.ai b.ai).bind λc=>(some c))else(some false))
abbrev yO (f:Us):Ij:=λe b c=>((se f e b c).bind λa=>(bif a.snd.Code==0 then((u2 f c).bind λg=>(bif !g then((vw f a.fst.aj c).bind λh=>(bif !h then((cP f 4 b.At).bind λd=>(bif d.Code !=0 then(some ((ab.z,d)))else(some ((⟨a.fst.Op,a.fst.aj,a.fst.N,a.fst.Text,b.At,a.fst.Kids⟩,d)))))else(some ((⟨a.fst.Op,a.fst.aj,a.fst.N,a.fst.Text,b.At,a.fst.Kids⟩,a.snd)))))else(some ((⟨a.fst.Op,a.fst.aj,a.fst.N,a.fst.Text,b.At,a.fst.Kids⟩,a.snd)))))else(some ((ab.z,a.snd)))))
abbrev qU (f:Us):Nh:=λb c a=>(bif decide (a<(↑(TParam.rows b.Params).length:Int))then((ao b.Params a).bind λd=>(bif d.Name==c.Text then((ao b.Params a).bind λe=>((eQ f e.aK).bind λg=>(some ((⟨4,g,a,[],0,[]⟩,aS.z)))))else(qT f b c (IntKind.i64.wrap (a+1)))))else((cP f 3 c.At).bind λh=>(some ((ab.z,h)))))
abbrev tI (f:Us):Ni:=λd b c a=>(bif decide (a<(↑(aT c.aj.ai.Names).length:Int))then((ao c.aj.ai.Names a).bind λe=>(bif e==d.Text then((ao c.aj.ai.aw a).bind λg=>((jc f g).bind λh=>(some ((⟨19,h,a,[],0,b.fst⟩,b.snd)))))else(oh f d b c (IntKind.i64.wrap (a+1)))))else((cP f 3 d.At).bind λi=>(some ((⟨0,ay.z,0,[],0,b.fst⟩,i)))))
abbrev vc (f:Us):Ik:=λb a e=>((eQ f 2).bind λc=>((eQ f 1).bind λd=>((cP f 4 a.At).bind λo=>(bif a.Kind==44 then(some ((⟨1,d,a.N,[],0,[]⟩,aS.z)))else(bif a.Kind==45 then(some ((⟨2,c,1,[],0,[]⟩,aS.z)))else(bif a.Kind==46 then(some ((⟨2,c,0,[],0,[]⟩,aS.z)))else(bif a.Kind==47 then((eQ f 3).bind λC=>(some ((⟨3,C,0,a.Text,0,[]⟩,aS.z))))else(bif a.Kind==48 then(qT f b a 0)else(bif a.Kind==49 then((jc f b.L).bind λD=>(some ((⟨5,D,0,[],0,[]⟩,aS.z))))else(bif a.Kind==50 then(bif e.ai.Kind==0 then(some ((ab.z,o)))else(some ((⟨6,e,0,[],0,[]⟩,aS.z))))else(bif a.Kind==30 then((ao a.Kids 0).bind λE=>((eb f b E c).bind λg=>(bif g.snd.Code !=0 then(some ((ab.z,g.snd)))else((u2 f e).bind λF=>(bif F then((ao a.Kids 1).bind λG=>((ao a.Kids 2).bind λH=>((u3 f b G H a.At false).bind λh=>(bif h.snd.Code !=0 then(some ((ab.z,h.snd)))else((ao h.fst 0).bind λJ=>(bif decide ((([g.fst]:List ab)++(h.fst:List ab)).length<=274877906944)then(some ((⟨7,J.aj,0,[],0,[g.fst]++h.fst⟩,h.snd)))else none))))))else((oB a.Kids 1 (((a.Kids).length:Int))).bind λK=>((dC f b K ([e,e])).bind λi=>(bif i.snd.Code !=0 then(some ((ab.z,i.snd)))else((ao i.fst 0).bind λM=>(bif decide ((([g.fst]:List ab)++(i.fst:List ab)).length<=274877906944)then(some ((⟨7,M.aj,0,[],0,[g.fst]++i.fst⟩,i.snd)))else none))))))))))else(bif a.Kind==31 then((dC f b a.Kids ([c,c])).bind λp=>(some ((⟨8,c,0,[],0,p.fst⟩,p.snd))))else(bif a.Kind==32 then((dC f b a.Kids ([c,c])).bind λq=>(some ((⟨9,c,0,[],0,q.fst⟩,q.snd))))else(bif a.Kind==33 then((dC f b a.Kids ([c])).bind λr=>(some ((⟨10,c,0,[],0,r.fst⟩,r.snd))))else(bif a.Kind==34 then((dC f b a.Kids ([d,d])).bind λs=>(some ((⟨11,c,0,[],0,s.fst⟩,s.snd))))else(bif a.Kind==35 then((dC f b a.Kids ([d,d])).bind λt=>(some ((⟨12,c,0,[],0,t.fst⟩,t.snd))))else(bif a.Kind==40 then((dC f b a.Kids ([d,d])).bind λu=>(some ((⟨17,d,0,[],0,u.fst⟩,u.snd))))else(bif a.Kind==41 then((dC f b a.Kids ([d,d])).bind λv=>(some ((⟨18,d,0,[],0,v.fst⟩,v.snd))))else(bif a.Kind==37 then((eQ f 3).bind λO=>((eQ f 4).bind λP=>((dC f b a.Kids ([O,P])).bind λw=>(some ((⟨14,c,0,[],0,w.fst⟩,w.snd))))))else(bif a.Kind==36 then((ao a.Kids 0).bind λQ=>((eb f b Q ay.z).bind λm=>(bif m.snd.Code !=0 then(some ((ab.z,m.snd)))else(bif m.fst.aj.aK==0 then((ao a.Kids 0).bind λR=>((cP f 4 R.At).bind λS=>(some ((ab.z,S)))))else((ao a.Kids 1).bind λT=>((eb f b T m.fst.aj).bind λx=>(some ((⟨13,c,0,[],0,[m.fst,x.fst]⟩,x.snd)))))))))else(bif a.Kind==38 then((ao a.Kids 0).bind λU=>((ao a.Kids 1).bind λV=>((u3 f b U V a.At true).bind λy=>(some ((⟨15,c,0,[],0,y.fst⟩,y.snd))))))else(bif a.Kind==39 then((u2 f e).bind λW=>(bif W then((ao a.Kids 0).bind λX=>((ao a.Kids 1).bind λY=>((u3 f b X Y a.At true).bind λj=>(bif j.snd.Code==0 then((ao j.fst 0).bind λZ=>(some ((⟨16,Z.aj,0,[],0,j.fst⟩,j.snd))))else(some ((⟨0,ay.z,0,[],0,j.fst⟩,j.snd)))))))else(bif e.aK !=0 then(some ((ab.z,o)))else((dC f b a.Kids ([e,e])).bind λk=>(bif k.snd.Code==0 then((ao k.fst 0).bind λx104=>(some ((⟨16,x104.aj,0,[],0,k.fst⟩,k.snd))))else(some ((⟨0,ay.z,0,[],0,k.fst⟩,k.snd))))))))else(bif a.Kind==42 then((dC f b a.Kids ([ay.z])).bind λl=>(bif l.snd.Code !=0 then(some ((⟨0,ay.z,0,[],0,l.fst⟩,l.snd)))else((ao l.fst 0).bind λA=>(bif A.aj.ai.Kind !=6 then(some ((⟨0,ay.z,0,[],0,l.fst⟩,o)))else(oh f a l A 0)))))else(bif a.Kind==43 then((ao a.Kids 0).bind λx123=>((eb f b x123 ay.z).bind λn=>(bif n.snd.Code !=0 then(some ((ab.z,n.snd)))else(bif n.fst.aj.ai.Kind !=5 then(some ((ab.z,o)))else((ao a.Kids 1).bind λx128=>((eQ f 3).bind λy130=>((eb f b x128 y130).bind λB=>((ao n.fst.aj.ai.aw 0).bind λx132=>((jc f x132).bind λy134=>(some ((⟨20,y134,0,[],0,[n.fst,B.fst]⟩,B.snd))))))))))))else(bif a.Kind==51 then((kf f b a e).bind λy136=>(some y136))else(some ((ab.z,aS.z))))))))))))))))))))))))))))
abbrev yR (f:Us):Il:=λd a j k l=>((eX f a).bind λm=>(bif m then((eX f j).bind λn=>(bif n then((cP f 4 k).bind λo=>(some (([],o))))else((eb f d j ay.z).bind λb=>(bif b.snd.Code !=0 then(some (([],b.snd)))else(bif l then(bif b.fst.aj.aK !=0 then((cP f 4 j.At).bind λp=>(some (([],p))))else((eb f d a b.fst.aj).bind λe=>(bif e.snd.Code !=0 then(some (([],e.snd)))else((eX f a).bind λq=>(bif q then(some (([e.fst,b.fst],e.snd)))else(some (([b.fst,e.fst],e.snd))))))))else((eb f d a b.fst.aj).bind λg=>(bif g.snd.Code !=0 then(some (([],g.snd)))else((eX f a).bind λr=>(bif r then(some (([g.fst,b.fst],g.snd)))else(some (([b.fst,g.fst],g.snd))))))))))))else((eX f a).bind λs=>(bif s then((cP f 4 k).bind λt=>(some (([],t))))else((eb f d a ay.z).bind λc=>(bif c.snd.Code !=0 then(some (([],c.snd)))else(bif l then(bif c.fst.aj.aK !=0 then((cP f 4 a.At).bind λu=>(some (([],u))))else((eb f d j c.fst.aj).bind λh=>(bif h.snd.Code !=0 then(some (([],h.snd)))else((eX f a).bind λv=>(bif v then(some (([h.fst,c.fst],h.snd)))else(some (([c.fst,h.fst],h.snd))))))))else((eb f d j c.fst.aj).bind λi=>(bif i.snd.Code !=0 then(some (([],i.snd)))else((eX f a).bind λw=>(bif w then(some (([i.fst,c.fst],i.snd)))else(some (([c.fst,i.fst],i.snd))))))))))))))
abbrev tJ (f:Us):Nj:=λe g c h d a=>(bif decide (a<(↑(ay.rows c).length:Int))then((ao g a).bind λi=>((ao c a).bind λj=>((eb f e i j).bind λb=>(bif b.snd.Code !=0 then(some (([],b.snd)))else(bif decide (((d:List ab)++([b.fst]:List ab)).length<=274877906944)then(kI f e g c h (d++[b.fst]) (IntKind.i64.wrap (a+1)))else none)))))else(some ((d,aS.z))))
abbrev qb (f:Us):Im:=λa b c=>(kI f a b c ([]) ([]) 0)
abbrev kX (f:Us):Io:=λb a e=>((lI f a.Text ((↑(af.rows a.Kids).length:Int))).bind λg=>(bif !g then((cP f 1 a.At).bind λh=>(some ((ab.z,h))))else((eX f a).bind λi=>(bif i then((nP f b a e).bind λj=>(some j))else(bif a.Text==[119,114,105,116,101]then((jc f (⟨9,0,0,[],[],[]⟩)).bind λc=>((eQ f 1).bind λk=>((eQ f 3).bind λl=>((dC f b a.Kids ([c,k,l])).bind λd=>(some ((⟨28,c,0,[],0,d.fst⟩,d.snd)))))))else((CH f b a).bind λm=>(some m)))))))
abbrev qV (f:Us):Nk:=λg c e d b h=>(bif decide (d<(↑(af.rows c.Kids).length:Int))then(bif h.Code==0 then((ao c.Kids d).bind λi=>((eb f g i ay.z).bind λa=>(bif a.snd.Code==0 then(bif a.fst.aj.aK !=3 then(bif a.fst.aj.aK !=4 then((ao c.Kids d).bind λj=>((cP f 4 j.At).bind λk=>(bif decide (((b:List ab)++([a.fst]:List ab)).length<=274877906944)then(lv f g c e (IntKind.i64.wrap (d+1)) (b++[a.fst]) k)else none)))else(bif decide (((b:List ab)++([a.fst]:List ab)).length<=274877906944)then(lv f g c e (IntKind.i64.wrap (d+1)) (b++[a.fst]) a.snd)else none))else(bif decide (((b:List ab)++([a.fst]:List ab)).length<=274877906944)then(lv f g c e (IntKind.i64.wrap (d+1)) (b++[a.fst]) a.snd)else none))else(bif decide (((b:List ab)++([a.fst]:List ab)).length<=274877906944)then(lv f g c e (IntKind.i64.wrap (d+1)) (b++[a.fst]) a.snd)else none))))else(some ((⟨23,e,0,[],0,b⟩,h))))else(some ((⟨23,e,0,[],0,b⟩,h))))
abbrev qW (f:Us):Nl:=λg c e d b h=>(bif decide (d<(↑(af.rows c.Kids).length:Int))then(bif h.Code==0 then((ao c.Kids d).bind λi=>((eb f g i ay.z).bind λa=>(bif a.snd.Code==0 then(bif a.fst.aj.aK !=3 then(bif a.fst.aj.aK !=4 then((ao c.Kids d).bind λj=>((cP f 4 j.At).bind λk=>(bif decide (((b:List ab)++([a.fst]:List ab)).length<=274877906944)then(lx f g c e (IntKind.i64.wrap (d+1)) (b++[a.fst]) k)else none)))else(bif decide (((b:List ab)++([a.fst]:List ab)).length<=274877906944)then(lx f g c e (IntKind.i64.wrap (d+1)) (b++[a.fst]) a.snd)else none))else(bif decide (((b:List ab)++([a.fst]:List ab)).length<=274877906944)then(lx f g c e (IntKind.i64.wrap (d+1)) (b++[a.fst]) a.snd)else none))else(bif decide (((b:List ab)++([a.fst]:List ab)).length<=274877906944)then(lx f g c e (IntKind.i64.wrap (d+1)) (b++[a.fst]) a.snd)else none))))else(some ((⟨23,e,0,[],0,b⟩,h))))else(some ((⟨23,e,0,[],0,b⟩,h))))
abbrev qY (f:Us):Nn:=λh c a d b e=>(bif decide (d<(↑(af.rows c.Kids).length:Int))then(bif e.Code==0 then((ao c.Kids d).bind λi=>((eQ f 3).bind λj=>((ao a.ai.aw 0).bind λk=>((jc f k).bind λl=>((dC f h i.Kids ([j,l])).bind λg=>(bif decide (((b:List ab)++(g.fst:List ab)).length<=274877906944)then(qX f h c a (IntKind.i64.wrap (d+1)) (b++g.fst) g.snd)else none))))))else(some ((⟨24,a,0,[],0,b⟩,e))))else(some ((⟨24,a,0,[],0,b⟩,e))))
abbrev tK (f:Us):No:=λh a c i j g b e o d=>(bif decide (d<(↑(aT c.ai.Names).length:Int))then((ao c.ai.Names d).bind λp=>((ao a.Kids b).bind λq=>(bif !p==q.Text then(pF f h a c i j g b e o (IntKind.i64.wrap (d+1)))else(bif d==(↑(aT c.ai.Names).length:Int)then((ao a.Kids b).bind λr=>((cP f 3 r.At).bind λs=>(some ((⟨25,c,0,[],0,e⟩,s)))))else((ao a.Kids b).bind λt=>((sy f g t.Text).bind λu=>(bif u then((ao a.Kids b).bind λv=>((cP f 3 v.At).bind λw=>(some ((⟨25,c,0,[],0,e⟩,w)))))else((ao a.Kids b).bind λk=>(bif decide (((g:List (List UInt8))++([k.Text]:List (List UInt8))).length<=274877906944)then((ao a.Kids b).bind λx=>((ao x.Kids 0).bind λy=>((ao c.ai.aw d).bind λz=>((jc f z).bind λA=>((eb f h y A).bind λl=>((ao e d).bind λM=>(nk f h a c i j (g++[k.Text]) (IntKind.i64.wrap (b+1)) (e.set d.toNat l.fst) l.snd)))))))else none)))))))))else(bif d==(↑(aT c.ai.Names).length:Int)then((ao a.Kids b).bind λB=>((cP f 3 B.At).bind λC=>(some ((⟨25,c,0,[],0,e⟩,C)))))else((ao a.Kids b).bind λD=>((sy f g D.Text).bind λE=>(bif E then((ao a.Kids b).bind λF=>((cP f 3 F.At).bind λG=>(some ((⟨25,c,0,[],0,e⟩,G)))))else((ao a.Kids b).bind λm=>(bif decide (((g:List (List UInt8))++([m.Text]:List (List UInt8))).length<=274877906944)then((ao a.Kids b).bind λH=>((ao H.Kids 0).bind λJ=>((ao c.ai.aw d).bind λK=>((jc f K).bind λL=>((eb f h J L).bind λn=>((ao e d).bind λN=>(nk f h a c i j (g++[m.Text]) (IntKind.i64.wrap (b+1)) (e.set d.toNat n.fst) n.snd)))))))else none)))))))
abbrev qZ (f:Us):Np:=λg d b h i j e c a=>(bif decide (e<(↑(af.rows d.Kids).length:Int))then(bif a.Code==0 then(pF f g d b h i j e c a 0)else(some ((⟨25,b,0,[],0,c⟩,a))))else(some ((⟨25,b,0,[],0,c⟩,a))))
abbrev tM (f:Us):Nq:=λe a b c d=>(bif decide (c<(↑(aT b.ai.Names).length:Int))then((ao b.ai.aw c).bind λh=>((jc f h).bind λg=>(bif decide (((d:List ab)++([⟨6,g,0,[],a.At,[]⟩]:List ab)).length<=274877906944)then(q0 f e a b (IntKind.i64.wrap (c+1)) (d++[⟨6,g,0,[],a.At,[]⟩]))else none)))else(nk f e a b c d ([]) 0 d aS.z))
abbrev mB (f:Us):Ip:=λc b a=>(bif b.Text==[102,108,97,103]then(bif !a.ai.Kind==1 then((cP f 4 b.At).bind λj=>(some ((⟨0,a,0,[],0,[]⟩,j))))else((eQ f 2).bind λk=>((dC f c b.Kids ([k])).bind λd=>(some ((⟨21,a,0,[],0,d.fst⟩,d.snd))))))else(bif b.Text==[110,117,109]then(bif a.ai.Kind==2 then((eQ f 1).bind λl=>((dC f c b.Kids ([l])).bind λe=>(some ((⟨22,a,0,[],0,e.fst⟩,e.snd)))))else(bif !a.ai.Kind==3 then((cP f 4 b.At).bind λm=>(some ((⟨0,a,0,[],0,[]⟩,m))))else((eQ f 1).bind λn=>((dC f c b.Kids ([n])).bind λg=>(some ((⟨22,a,0,[],0,g.fst⟩,g.snd)))))))else(bif b.Text==[115,101,116]then(bif a.ai.Kind==4 then(lv f c b a 0 ([]) aS.z)else(bif !a.ai.Kind==10 then((cP f 4 b.At).bind λo=>(some ((⟨0,a,0,[],0,[]⟩,o))))else(lx f c b a 0 ([]) aS.z)))else(bif b.Text==[109,97,112]then(bif !a.ai.Kind==5 then((cP f 4 b.At).bind λp=>(some ((⟨0,a,0,[],0,[]⟩,p))))else(qX f c b a 0 ([]) aS.z))else(bif b.Text==[114,101,99]then(bif !a.ai.Kind==6 then((cP f 4 b.At).bind λq=>(some ((⟨0,a,0,[],0,[]⟩,q))))else(q0 f c b a 0 ([])))else(bif b.Text==[112,97,105,114]then(bif !a.ai.Kind==7 then((cP f 4 b.At).bind λr=>(some ((⟨0,a,0,[],0,[]⟩,r))))else((ao a.ai.aw 0).bind λs=>((jc f s).bind λt=>((ao a.ai.aw 1).bind λu=>((jc f u).bind λv=>((dC f c b.Kids ([t,v])).bind λh=>(some ((⟨26,a,0,[],0,h.fst⟩,h.snd)))))))))else(bif b.Text==[111,110,101]then(bif !a.ai.Kind==8 then((cP f 4 b.At).bind λw=>(some ((⟨0,a,0,[],0,[]⟩,w))))else((eQ f 3).bind λx=>((dC f c b.Kids ([x])).bind λi=>(some ((⟨27,a,0,[],0,i.fst⟩,i.snd))))))else((cP f 4 b.At).bind λy=>(some ((⟨0,a,0,[],0,[]⟩,y)))))))))))
abbrev yS (f:Us):Iq:=λj b=>((ao b.Kids 0).bind λk=>((eb f j k ay.z).bind λa=>(bif a.snd.Code !=0 then(some ((ab.z,a.snd)))else(bif b.Text==[115,105,122,101]then((eQ f 1).bind λc=>(bif a.fst.aj.aK==4 then(some ((⟨29,c,0,[],0,[a.fst]⟩,a.snd)))else(bif a.fst.aj.ai.Kind==4 then(some ((⟨29,c,0,[],0,[a.fst]⟩,a.snd)))else(bif a.fst.aj.ai.Kind==5 then(some ((⟨29,c,0,[],0,[a.fst]⟩,a.snd)))else(bif a.fst.aj.ai.Kind==9 then(some ((⟨29,c,0,[],0,[a.fst]⟩,a.snd)))else(bif !a.fst.aj.ai.Kind==10 then((cP f 4 b.At).bind λl=>(some ((ab.z,l))))else(some ((⟨29,c,0,[],0,[a.fst]⟩,a.snd)))))))))else(bif b.Text==[115,117,109]then((eQ f 1).bind λe=>(bif a.fst.aj.ai.Kind==5 then((ao a.fst.aj.ai.aw 0).bind λm=>(bif m.Kind==2 then(some ((⟨30,e,0,[],0,[a.fst]⟩,a.snd)))else((ao a.fst.aj.ai.aw 0).bind λn=>(bif !n.Kind==3 then((cP f 4 b.At).bind λo=>(some ((ab.z,o))))else(some ((⟨30,e,0,[],0,[a.fst]⟩,a.snd)))))))else((cP f 4 b.At).bind λp=>(some ((ab.z,p))))))else(bif b.Text==[110,117,109,98,101,114]then((eQ f 1).bind λg=>(bif a.fst.aj.ai.Kind==2 then(some ((⟨31,g,0,[],0,[a.fst]⟩,a.snd)))else(bif !a.fst.aj.ai.Kind==3 then((cP f 4 b.At).bind λq=>(some ((ab.z,q))))else(some ((⟨31,g,0,[],0,[a.fst]⟩,a.snd))))))else(bif b.Text==[111,110]then((eQ f 2).bind λr=>(bif !a.fst.aj.ai.Kind==1 then((cP f 4 b.At).bind λs=>(some ((ab.z,s))))else(some ((⟨32,r,0,[],0,[a.fst]⟩,a.snd)))))else(bif b.Text==[107,101,121,115]then((eQ f 4).bind λd=>(bif a.fst.aj.ai.Kind==5 then(some ((⟨33,d,0,[],0,[a.fst]⟩,a.snd)))else(bif a.fst.aj.ai.Kind==4 then(some ((⟨33,d,0,[],0,[a.fst]⟩,a.snd)))else(bif !a.fst.aj.ai.Kind==10 then((cP f 4 b.At).bind λt=>(some ((ab.z,t))))else(some ((⟨33,d,0,[],0,[a.fst]⟩,a.snd)))))))else(bif b.Text==[118,97,108,117,101,115]then((eQ f 4).bind λh=>(bif a.fst.aj.ai.Kind==8 then(some ((⟨34,h,0,[],0,[a.fst]⟩,a.snd)))else(bif !a.fst.aj.ai.Kind==9 then((cP f 4 b.At).bind λu=>(some ((ab.z,u))))else(some ((⟨34,h,0,[],0,[a.fst]⟩,a.snd))))))else(bif b.Text==[99,111,110,102,108,105,99,116]then((eQ f 2).bind λi=>(bif a.fst.aj.ai.Kind==8 then(some ((⟨37,i,0,[],0,[a.fst]⟩,a.snd)))else(bif !a.fst.aj.ai.Kind==9 then((cP f 4 b.At).bind λv=>(some ((ab.z,v))))else(some ((⟨37,i,0,[],0,[a.fst]⟩,a.snd))))))else(bif b.Text==[102,105,114,115,116]then(bif a.fst.aj.ai.Kind==7 then((ao a.fst.aj.ai.aw 0).bind λw=>((jc f w).bind λx=>(some ((⟨35,x,0,[],0,[a.fst]⟩,a.snd)))))else((cP f 4 b.At).bind λy=>(some ((ab.z,y)))))else(bif b.Text==[115,101,99,111,110,100]then(bif a.fst.aj.ai.Kind==7 then((ao a.fst.aj.ai.aw 1).bind λA=>((jc f A).bind λB=>(some ((⟨36,B,0,[],0,[a.fst]⟩,a.snd)))))else((cP f 4 b.At).bind λC=>(some ((ab.z,C)))))else((cP f 4 b.At).bind λD=>(some ((ab.z,D))))))))))))))))
abbrev zW (f:Us):Jy:=λa b c d=>((eb f ({L:=a,Params:=b:cC}) d c).bind λe=>(some e))
abbrev rm (f:Us):OG:=λb c a=>(bif decide (a<(↑(ab.rows b.Kids).length:Int))then((ao b.Kids a).bind λd=>((ao c.Kids a).bind λe=>((mK f d e).bind λg=>(bif !g then(some false)else(uc f b c (IntKind.i64.wrap (a+1)))))))else(some true))
abbrev vG (f:Us):Jz:=λa b=>(bif a.Op !=b.Op then(some false)else((vw f a.aj b.aj).bind λc=>(bif !c then(some false)else(bif a.N !=b.N then(some false)else(bif !a.Text==b.Text then(some false)else(bif a.At !=b.At then(some false)else(bif (↑(ab.rows a.Kids).length:Int) !=(↑(ab.rows b.Kids).length:Int)then(some false)else(uc f a b 0))))))))
abbrev ue (f:Us):OH:=λc a d b=>(bif decide (b<(↑(TParam.rows a.Params).length:Int))then((ao a.Params b).bind λk=>((oU f k.Name).bind λl=>(bif !l then(some false)else((ao a.Params b).bind λm=>((sy f d m.Name).bind λn=>(bif n then(some false)else((ao a.Params b).bind λo=>(bif decide (o.aK<1)then(some false)else((ao a.Params b).bind λp=>(bif decide (p.aK>4)then(some false)else((ao a.Params b).bind λe=>(bif decide (((d:List (List UInt8))++([e.Name]:List (List UInt8))).length<=274877906944)then(rn f c a (d++[e.Name]) (IntKind.i64.wrap (b+1)))else none))))))))))))else((eQ f a.Result).bind λq=>(bif a.Result==0 then((jc f c).bind λr=>((lh f a.Params a.Body).bind λg=>(bif !g.snd then(some false)else((vx f c a.Params r g.fst).bind λh=>(bif h.snd.Code==0 then((mK f h.fst a.Body).bind λs=>(some s))else(some false))))))else((lh f a.Params a.Body).bind λi=>(bif !i.snd then(some false)else((vx f c a.Params q i.fst).bind λj=>(bif j.snd.Code==0 then((mK f j.fst a.Body).bind λt=>(some t))else(some false))))))))
abbrev zX (f:Us):JA:=λb a=>((zG f b).bind λc=>(bif c !=0 then(some false)else((oU f a.Name).bind λd=>(bif !d then(some false)else((oU f a.On).bind λe=>(bif !e then(some false)else(bif decide ((↑(TParam.rows a.Params).length:Int)>8)then(some false)else(bif decide (a.Result<0)then(some false)else(bif decide (a.Result>4)then(some false)else(rn f b a ([]) 0))))))))))
abbrev ug (f:Us):OI:=λb c a=>(bif decide (a<(↑(ab.rows b.Kids).length:Int))then((ao b.Kids a).bind λd=>((ao c.Kids a).bind λe=>((vy f d e).bind λg=>(bif !g then(some false)else(uf f b c (IntKind.i64.wrap (a+1)))))))else(some true))
abbrev zY (f:Us):JB:=λa b=>(bif a.Op !=b.Op then(some false)else(bif a.N !=b.N then(some false)else(bif !a.Text==b.Text then(some false)else((vw f a.aj b.aj).bind λc=>(bif !c then(some false)else(bif (↑(ab.rows a.Kids).length:Int) !=(↑(ab.rows b.Kids).length:Int)then(some false)else(uf f a b 0)))))))
abbrev zZ (f:Us):JC:=λa=>(some (⟨6,a.aj,0,[],a.At,[]⟩))
abbrev z6 (f:Us):JD:=λa b=>(some (⟨a.Op,a.aj,a.N,a.Text,a.At,b⟩))
abbrev oW (f:Us):JE:=λb a=>((vy f b a).bind λh=>(bif h then((sA f a).bind λi=>(some i))else(bif a.Op==16 then((ao a.Kids 0).bind λj=>((kq f b j).bind λc=>((ao a.Kids 1).bind λk=>((kq f b k).bind λd=>(bif c.Op==6 then(some d)else(bif d.Op==6 then(some c)else((qq f a ([c,d])).bind λl=>(some l))))))))else(bif a.Op==7 then((ao a.Kids 1).bind λm=>((kq f b m).bind λe=>((ao a.Kids 2).bind λn=>((kq f b n).bind λg=>(bif e.Op==6 then(bif g.Op==6 then((sA f a).bind λo=>(some o))else((ao a.Kids 0).bind λp=>((qq f a ([p,e,g])).bind λq=>(some q))))else((ao a.Kids 0).bind λr=>((qq f a ([r,e,g])).bind λs=>(some s))))))))else(bif a.Op==25 then((u64 f b a).bind λt=>(some t))else(bif a.Op==24 then((JN f b a).bind λu=>(some u))else(some a)))))))
abbrev uh (f:Us):OJ:=λe a c g b=>(bif decide (b<(↑(ab.rows a.Kids).length:Int))then((ao a.Kids b).bind λh=>((ao a.Kids b).bind λi=>((kq f (⟨19,h.aj,b,[],0,[e]⟩) i).bind λd=>(bif g then(bif decide (((c:List ab)++([d]:List ab)).length<=274877906944)then(pT f e a (c++[d]) true (IntKind.i64.wrap (b+1)))else none)else(bif decide (((c:List ab)++([d]:List ab)).length<=274877906944)then(pT f e a (c++[d]) (d.Op !=6) (IntKind.i64.wrap (b+1)))else none)))))else(bif !g then((sA f a).bind λj=>(some j))else((qq f a c).bind λk=>(some k))))
abbrev vB (f:Us):JF:=λa b=>(pT f a b ([]) false 0)
abbrev ui (f:Us):OK:=λd a c b=>(bif decide (IntKind.i64.wrap (b+1)<(↑(ab.rows a.Kids).length:Int))then((ao a.Kids (IntKind.i64.wrap (b+1))).bind λh=>((ao a.Kids b).bind λi=>((ao a.Kids (IntKind.i64.wrap (b+1))).bind λj=>((kq f (⟨20,h.aj,0,[],0,[d,i]⟩) j).bind λe=>(bif e.Op !=6 then((ao a.Kids b).bind λg=>(bif decide (((c:List ab)++([g,e]:List ab)).length<=274877906944)then(nB f d a (c++[g,e]) (IntKind.i64.wrap (b+2)))else none))else(nB f d a c (IntKind.i64.wrap (b+2))))))))else(bif (↑(ab.rows c).length:Int)==0 then((sA f a).bind λk=>(some k))else((qq f a c).bind λl=>(some l))))
abbrev vC (f:Us):JG:=λa b=>(nB f a b ([]) 0)
abbrev z8 (f:Us):CM:=λb a=>((C' f b a).bind λc=>(bif !c then(some ((bD.z,1)))else(bif a.Result !=0 then(some ((bD.z,1)))else((kq f (⟨5,{aK:=0,ai:=b:ay},0,[],0,[]⟩) a.Body).bind λd=>(some (({Name:=a.Name,On:=a.On,Params:=a.Params,Result:=a.Result,Body:=d:bD},0)))))))
abbrev uj (f:Us):OL:=λb c a=>(bif decide (a<(↑(TParam.rows b.Params).length:Int))then((ao b.Params a).bind λd=>((ao c.Params a).bind λe=>(bif !(d.Name==e.Name&&(d.aK==e.aK&&true))then(some false)else(pU f b c (IntKind.i64.wrap (a+1))))))else(some true))
abbrev Aa (f:Us):CO:=λa b=>(bif !a.Name==b.Name then(some false)else(bif !a.On==b.On then(some false)else(bif a.Result !=b.Result then(some false)else(bif (↑(TParam.rows a.Params).length:Int) !=(↑(TParam.rows b.Params).length:Int)then(some false)else((mK f a.Body b.Body).bind λc=>(bif !c then(some false)else(pU f a b 0)))))))
abbrev Fx (f:Us):OM:=λa c b=>(bif decide (b<(↑(ab.rows a.Kids).length:Int))then((ao a.Kids b).bind λd=>((SI f d).bind λe=>(Fy f a (IntKind.i64.wrap (c+e)) (IntKind.i64.wrap (b+1)))))else(some c))
abbrev Dl (f:Us):JH:=λa=>(Fy f a 1 0)
def Dc (f:Us):Dq:=((((tT f,zf f),(zh f,(xd f,xb f))),((zj f,zm f),(xw f,(B8 f,xI f)))),(((uR f,xJ f),(xK f,(tU f,zr f))),((tV f,vj f),(xL f,(qQ f,uS f)))))
def Dd (f:Us):Dr:=((((xM f,tW f),(vk f,(Bu f,Bx f))),((px f,rS f),(uT f,(rT f,uU f)))),(((py f,rU f),(pL f,(vl f,vm f))),((zt f,sI f),(th f,(wM f,pM f)))))
def De (f:Us):Ds:=((((vn f,mI f),(jF f,(oR f,pO f))),((pP f,pN f),(su f,(CX f,CY f)))),(((zw f,xN f),(sH f,(sW f,iW f))),((xO f,dN f),(tp f,(uV f,xP f)))))
def JO (f:Us):Dt:=((((rV f,xQ f),(xx f,(xy f,tz f))),((tq f,xR f),(rW f,(BA f,CA f)))),(((xS f,sK f),(wA f,(xT f,sM f))),((wB f,zx f),(sv f,(dO f,rX f)))))
def JP (f:Us):Dv:=((((E4 f,E6 f),(lu f,(nb f,dP f))),((nc f,nf f),(si f,(jy f,nQ f)))),(((oJ f,iK f),(sj f,(vD f,zK f))),((sY f,xf f),(vE f,(Dm f,zN f)))))
def Dg (f:Us):Dw:=((((s6 f,xg f),(zO f,(zQ f,tX f))),((tY f,oV f),(tZ f,(vz f,B9 f)))),(((u6 f,tD f),(yE f,(tE f,u4 f))),((pA f,sf f),(pB f,(pC f,pD f)))))
def Dh (f:Us):Dx:=((((u7 f,sk f),(va f,(pE f,vb f))),((vF f,yG f),(ua f,(zU f,ub f)))),(((vA f,Dn f),(Dp f,(oK f,qc f))),((pR f,pS f),(rk f,(qt f,CJ f)))))
def Di (f:Us):Dy:=((((yK f,kg f),(kW f,(BM f,CK f))),((tF f,tH f),(yM f,(zV f,yO f)))),(((qU f,tI f),(vc f,(yR f,tJ f))),((qb f,kX f),(qV f,(qW f,qY f)))))
def Dj (f:Us):Dz:=((((tK f,qZ f),(tM f,(mB f,yS f))),((zW f,rm f),(vG f,(ue f,zX f)))),(((ug f,zY f),(zZ f,(z6 f,oW f))),((uh f,vB f),(ui f,(vC f,z8 f)))))
def Dk (f:Us):DA:=((uj f,Aa f),(Fx f,Dl f))
def Qu (f:Us):Us:=(((Dc f,Dd f),(De f,(JO f,JP f))),((Dg f,Dh f),(Di f,(Dj f,Dk f))))
def Gu:Nat->Us
 |0=>PF.bot
 |n+1=>Qu (Gu n)
def Pu:Us:=PF.lm Gu
theorem Xu0 {f:Nat->Us} {p} (h:PF.R f p):PF.R (λn=>Dc (f n)) (Dc p):=by unfold Dc vj uS;exact zP h
theorem Xu1 {f:Nat->Us} {p} (h:PF.R f p):PF.R (λn=>Dd (f n)) (Dd p):=by unfold Dd vk rS rU th;exact zP h
theorem Xu2 {f:Nat->Us} {p} (h:PF.R f p):PF.R (λn=>De (f n)) (De p):=by unfold De sW uV;exact zP h
theorem Xu3 {f:Nat->Us} {p} (h:PF.R f p):PF.R (λn=>JO (f n)) (JO p):=zP h
theorem Xu4 {f:Nat->Us} {p} (h:PF.R f p):PF.R (λn=>JP (f n)) (JP p):=zP h
theorem Xu5 {f:Nat->Us} {p} (h:PF.R f p):PF.R (λn=>Dg (f n)) (Dg p):=by unfold Dg vz u4 sf;exact zP h
theorem Xu6 {f:Nat->Us} {p} (h:PF.R f p):PF.R (λn=>Dh (f n)) (Dh p):=by unfold Dh vA qt;exact zP h
theorem Xu7 {f:Nat->Us} {p} (h:PF.R f p):PF.R (λn=>Di (f n)) (Di p):=by unfold Di qb;exact zP h
theorem Xu8 {f:Nat->Us} {p} (h:PF.R f p):PF.R (λn=>Dj (f n)) (Dj p):=by unfold Dj vB vC;exact zP h
theorem Xu9 {f:Nat->Us} {p} (h:PF.R f p):PF.R (λn=>Dk (f n)) (Dk p):=by unfold Dk Dl;exact zP h
set_option maxHeartbeats 0 in
theorem Xu:PF.Fix Gu (Qu):=PF.fix (Φ:=λn=>Qu) (λf p h=>(PF.pair (PF.pair (PF.pair (Xu0 h) (Xu1 h)) (PF.pair (Xu2 h) (PF.pair (Xu3 h) (Xu4 h)))) (PF.pair (PF.pair (Xu5 h) (Xu6 h)) (PF.pair (Xu7 h) (PF.pair (Xu8 h) (Xu9 h)))))) rfl λ_=>rfl
theorem Du {β:Type} [PF β] (π:PF.K Us β):π Pu=π (Qu Pu):=congrArg π.f Xu.2
theorem Oh (a0 s3 s4):rf Pu a0 s3 s4=tT Pu a0 s3 s4:=dd (Du _) _ _ _
theorem e48 (a0 a1):zy Pu a0 a1=zf Pu a0 a1:=b6 (Du _) _ _
theorem e23 (a0 a1):CZ Pu a0 a1=zh Pu a0 a1:=b6 (Du _) _ _
theorem XS (a0 s13 s14):xc Pu a0 s13 s14=xd Pu a0 s13 s14:=dd (Du _) _ _ _
theorem XT (a0 s3 s4 s5):xa Pu a0 s3 s4 s5=xb Pu a0 s3 s4 s5:=lM (Du _) _ _ _ _
theorem e49 (a0 a1):zA Pu a0 a1=zj Pu a0 a1:=b6 (Du _) _ _
theorem zI (a0 a1):C0 Pu a0 a1=zm Pu a0 a1:=b6 (Du _) _ _
theorem ZL (a2 s7):Cn Pu a2 s7=xw Pu a2 s7:=b6 (Du _) _ _
theorem e8 (a0 a1 a2):u8 Pu a0 a1 a2=B8 Pu a0 a1 a2:=dd (Du _) _ _ _
theorem abM (a0 a1):b4 Pu a0 a1=xI Pu a0 a1:=b6 (Du _) _ _
theorem Rg (a0):xV Pu a0=uR Pu a0:=cK (Du _) _
theorem abN (a0):CC Pu a0=xJ Pu a0:=cK (Du _) _
theorem abO (a0):CD Pu a0=xK Pu a0:=cK (Du _) _
theorem Oi (a0 s9):xe Pu a0 s9=tU Pu a0 s9:=b6 (Du _) _ _
theorem e68 (a0):oS Pu a0=zr Pu a0:=cK (Du _) _
theorem Oj (a0 a1 s1):BY Pu a0 a1 s1=tV Pu a0 a1 s1:=dd (Du _) _ _ _
theorem e93 (a0 a1):vp Pu a0 a1=vj Pu a0 a1:=b6 (Du _) _ _
theorem abP (a0 a1):xW Pu a0 a1=xL Pu a0 a1:=b6 (Du _) _ _
theorem E8 (a0 s1):wL Pu a0 s1=qQ Pu a0 s1:=b6 (Du _) _ _
theorem abQ (a0):p6 Pu a0=uS Pu a0:=cK (Du _) _
theorem abR (a0 a1):p7 Pu a0 a1=xM Pu a0 a1:=b6 (Du _) _ _
theorem Ol (a0 a1 s1):rh Pu a0 a1 s1=tW Pu a0 a1 s1:=dd (Du _) _ _ _
theorem e92 (a0 a1):sw Pu a0 a1=vk Pu a0 a1:=b6 (Du _) _ _
theorem MT (a0 s16):Bt Pu a0 s16=Bu Pu a0 s16:=b6 (Du _) _ _
theorem MU (a0 s27):Bv Pu a0 s27=Bx Pu a0 s27:=b6 (Du _) _ _
theorem BE (a0 s1 s2):ma Pu a0 s1 s2=px Pu a0 s1 s2:=dd (Du _) _ _ _
theorem Rh (a0):xX Pu a0=rS Pu a0:=cK (Du _) _
theorem Ri (a0):xY Pu a0=uT Pu a0:=cK (Du _) _
theorem IB (a0):rY Pu a0=rT Pu a0:=cK (Du _) _
theorem Rj (a0):xZ Pu a0=uU Pu a0:=cK (Du _) _
theorem BF (a0 s1):na Pu a0 s1=py Pu a0 s1:=b6 (Du _) _ _
theorem Rk (a0):ya Pu a0=rU Pu a0:=cK (Du _) _
theorem B1 (a1 a2 s11 s12):ny Pu a1 a2 s11 s12=pL Pu a1 a2 s11 s12:=lM (Du _) _ _ _ _
theorem SJ (a0 a1 a2):vq Pu a0 a1 a2=vl Pu a0 a1 a2:=dd (Du _) _ _ _
theorem SK (a0):zB Pu a0=vm Pu a0:=cK (Du _) _
theorem e70 (a0 a1):JI Pu a0 a1=zt Pu a0 a1:=b6 (Du _) _ _
theorem Kx (a0 a1 s1):AA Pu a0 a1 s1=sI Pu a0 a1 s1:=dd (Du _) _ _ _
theorem VZ (a0 a1):Bb Pu a0 a1=th Pu a0 a1:=b6 (Du _) _ _
theorem WW (a0 a1):BD Pu a0 a1=wM Pu a0 a1:=b6 (Du _) _ _
theorem B2 (a0 s8):nz Pu a0 s8=pM Pu a0 s8:=b6 (Du _) _ _
theorem SL (a0):u32 Pu a0=vn Pu a0:=cK (Du _) _
theorem sB (a0 a1):vt Pu a0 a1=mI Pu a0 a1:=b6 (Du _) _ _
theorem mL (a0):kn Pu a0=jF Pu a0:=cK (Du _) _
theorem zJ (a0):ko Pu a0=oR Pu a0:=cK (Du _) _
theorem B4 (a1 s9 y28 s31 s32):kN Pu a1 s9 y28 s31 s32=pO Pu a1 s9 y28 s31 s32:=jE (Du _) _ _ _ _ _
theorem B5 (a1 s9 y28 s41 s42):jk Pu a1 s9 y28 s41 s42=pP Pu a1 s9 y28 s41 s42:=jE (Du _) _ _ _ _ _
theorem B6 (a0 a1 s3 s4 s9):iA Pu a0 a1 s3 s4 s9=pN Pu a0 a1 s3 s4 s9:=jE (Du _) _ _ _ _ _
theorem JQ (a0 a1):nU Pu a0 a1=su Pu a0 a1:=b6 (Du _) _ _
theorem e79 (a0):gP Pu a0=CX Pu a0:=cK (Du _) _
theorem e80 (a0):dQ Pu a0=CY Pu a0:=cK (Du _) _
theorem e35 (a0 a1):C1 Pu a0 a1=zw Pu a0 a1:=b6 (Du _) _ _
theorem abS (a0 a1):Ir Pu a0 a1=xN Pu a0 a1:=b6 (Du _) _ _
theorem Kl (a0 a1 s1):Aw Pu a0 a1 s1=sH Pu a0 a1 s1:=dd (Du _) _ _ _
theorem U9 (a0 a1):wh Pu a0 a1=sW Pu a0 a1:=b6 (Du _) _ _
theorem lJ (a0 a1):dg Pu a0 a1=iW Pu a0 a1:=b6 (Du _) _ _
theorem abT (a0):rZ Pu a0=xO Pu a0:=cK (Du _) _
theorem er (a0):dT Pu a0=dN Pu a0:=cK (Du _) _
theorem MV (a0 a1 s1):By Pu a0 a1 s1=tp Pu a0 a1 s1:=dd (Du _) _ _ _
theorem abU (a0 a1):CF Pu a0 a1=uV Pu a0 a1:=b6 (Du _) _ _
theorem abV (a0 a1):nN Pu a0 a1=xP Pu a0 a1:=b6 (Du _) _ _
theorem IC (a0 a1 a2):gL Pu a0 a1 a2=rV Pu a0 a1 a2:=dd (Du _) _ _ _
theorem abW (a0):yb Pu a0=xQ Pu a0:=cK (Du _) _
theorem ZM (a0):GL Pu a0=xx Pu a0:=cK (Du _) _
theorem ZN (a0):GM Pu a0=xy Pu a0:=cK (Du _) _
theorem MW (a0 y1 y16 s17 s22 s23):wO Pu a0 y1 y16 s17 s22 s23=tz Pu a0 y1 y16 s17 s22 s23:=qh (Du _) _ _ _ _ _ _
theorem MX (a0 y1 y2 s3 s9):wN Pu a0 y1 y2 s3 s9=tq Pu a0 y1 y2 s3 s9:=jE (Du _) _ _ _ _ _
theorem abX (a0):r6 Pu a0=xR Pu a0:=cK (Du _) _
theorem ID (a0):mz Pu a0=rW Pu a0:=cK (Du _) _
theorem WX (a0 a1 s2):Bz Pu a0 a1 s2=BA Pu a0 a1 s2:=dd (Du _) _ _ _
theorem abY (a0 a1):yh Pu a0 a1=CA Pu a0 a1:=b6 (Du _) _ _
theorem abZ (a0 a1):yn Pu a0 a1=xS Pu a0 a1:=b6 (Du _) _ _
theorem Ky (a0 a1 s2):sJ Pu a0 a1 s2=sK Pu a0 a1 s2:=dd (Du _) _ _ _
theorem V0 (a0 a1):Bc Pu a0 a1=wA Pu a0 a1:=b6 (Du _) _ _
theorem ab0 (a0 a1):uW Pu a0 a1=xT Pu a0 a1:=b6 (Du _) _ _
theorem Kz (a0 a1 s2):sL Pu a0 a1 s2=sM Pu a0 a1 s2:=dd (Du _) _ _ _
theorem V1 (a0 a1):Bd Pu a0 a1=wB Pu a0 a1:=b6 (Du _) _ _
theorem e81 (a0 a1):qp Pu a0 a1=zx Pu a0 a1:=b6 (Du _) _ _
theorem JR (a0 a1 a2):bR Pu a0 a1 a2=sv Pu a0 a1 a2:=dd (Du _) _ _ _
theorem eu (a0 a1 a2):lH Pu a0 a1 a2=dO Pu a0 a1 a2:=dd (Du _) _ _ _
theorem IE (a0 a1 a2 a3 a4 a5):iJ Pu a0 a1 a2 a3 a4 a5=rX Pu a0 a1 a2 a3 a4 a5:=qh (Du _) _ _ _ _ _ _
theorem pz (a0 a1 a2 s159 s171):gD Pu a0 a1 a2 s159 s171=lu Pu a0 a1 a2 s159 s171:=jE (Du _) _ _ _ _ _
theorem tA (a0 a1 a2 s186 s198):jO Pu a0 a1 a2 s186 s198=nb Pu a0 a1 a2 s186 s198:=jE (Du _) _ _ _ _ _
theorem ew (a0 a1 a2):cV Pu a0 a1 a2=dP Pu a0 a1 a2:=dd (Du _) _ _ _
theorem tB (a1 a2 s4 s26 s27):jP Pu a1 a2 s4 s26 s27=nc Pu a1 a2 s4 s26 s27:=jE (Du _) _ _ _ _ _
theorem tC (a0 a1 a2 s3 s4 s5):mb Pu a0 a1 a2 s3 s4 s5=nf Pu a0 a1 a2 s3 s4 s5:=qh (Du _) _ _ _ _ _ _
theorem IF (a0 a1 a2):uX Pu a0 a1 a2=si Pu a0 a1 a2:=dd (Du _) _ _ _
theorem mA (a0 a1):uY Pu a0 a1=jy Pu a0 a1:=b6 (Du _) _ _
theorem u5 (a0 a1 a2 a3 a4 a5):jZ Pu a0 a1 a2 a3 a4 a5=nQ Pu a0 a1 a2 a3 a4 a5:=qh (Du _) _ _ _ _ _ _
theorem yD (a0 a1 a2 a3):nO Pu a0 a1 a2 a3=oJ Pu a0 a1 a2 a3:=lM (Du _) _ _ _ _
theorem kV (a0 a1 a2):yx Pu a0 a1 a2=iK Pu a0 a1 a2:=dd (Du _) _ _ _
theorem IG (a0 a1 a2 a3 a4):qa Pu a0 a1 a2 a3 a4=sj Pu a0 a1 a2 a3 a4:=jE (Du _) _ _ _ _ _
theorem SM (a0 a1 a2 a3):C2 Pu a0 a1 a2 a3=vD Pu a0 a1 a2 a3:=lM (Du _) _ _ _ _
theorem e36 (a0 a1):vu Pu a0 a1=zK Pu a0 a1:=b6 (Du _) _ _
theorem Lx (a0 a1 s2):sX Pu a0 a1 s2=sY Pu a0 a1 s2:=dd (Du _) _ _ _
theorem XU (a0 a1):BZ Pu a0 a1=xf Pu a0 a1:=b6 (Du _) _ _
theorem SN (a0 a1):so Pu a0 a1=vE Pu a0 a1:=b6 (Du _) _ _
theorem e25 (a0):C4 Pu a0=Dm Pu a0:=cK (Du _) _
theorem e50 (a0 a1):vv Pu a0 a1=zN Pu a0 a1:=b6 (Du _) _ _
theorem Ly (a0 a1 s2):sZ Pu a0 a1 s2=s6 Pu a0 a1 s2:=dd (Du _) _ _ _
theorem XV (a0 a1):B0 Pu a0 a1=xg Pu a0 a1:=b6 (Du _) _ _
theorem e51 (a0):sx Pu a0=zO Pu a0:=cK (Du _) _
theorem e53 (a0):oT Pu a0=zQ Pu a0:=cK (Du _) _
theorem Om (a0 a1 s32 s33 s34):pQ Pu a0 a1 s32 s33 s34=tX Pu a0 a1 s32 s33 s34:=jE (Du _) _ _ _ _ _
theorem Oo (a0 a1 s48 s49):nA Pu a0 a1 s48 s49=tY Pu a0 a1 s48 s49:=lM (Du _) _ _ _ _
theorem zT (a0 a1):kp Pu a0 a1=oV Pu a0 a1:=b6 (Du _) _ _
theorem Oq (a0 s1 s13):rj Pu a0 s1 s13=tZ Pu a0 s1 s13:=dd (Du _) _ _ _
theorem e26 (a0):zE Pu a0=vz Pu a0:=cK (Du _) _
theorem e9 (a0 a1):u9 Pu a0 a1=B9 Pu a0 a1:=b6 (Du _) _ _
theorem Rl (a0):r8 Pu a0=u6 Pu a0:=cK (Du _) _
theorem MY (a0 s9):mc Pu a0 s9=tD Pu a0 s9:=b6 (Du _) _ _
theorem ab1 (a0):yy Pu a0=yE Pu a0:=cK (Du _) _
theorem MZ (a0 a1 s1):qR Pu a0 a1 s1=tE Pu a0 a1 s1:=dd (Du _) _ _ _
theorem ab2 (a0 a1):uZ Pu a0 a1=u4 Pu a0 a1:=b6 (Du _) _ _
theorem BG (a0 s1):me Pu a0 s1=pA Pu a0 s1:=b6 (Du _) _ _
theorem Rm (a0):u0 Pu a0=sf Pu a0:=cK (Du _) _
theorem BH (a0 s2):ng Pu a0 s2=pB Pu a0 s2:=b6 (Du _) _ _
theorem BI (a0 y14 s16 s17 x19 y22 y24 s26 s27):nh Pu a0 y14 s16 s17 x19 y22 y24 s26 s27=pC Pu a0 y14 s16 s17 x19 y22 y24 s26 s27:=Ru (Du _) _ _ _ _ _ _ _ _ _
theorem BJ (a0 y14 s16 s17):ni Pu a0 y14 s16 s17=pD Pu a0 y14 s16 s17:=lM (Du _) _ _ _ _
theorem Rn (a0):r9 Pu a0=u7 Pu a0:=cK (Du _) _
theorem II (a0):sa Pu a0=sk Pu a0:=cK (Du _) _
theorem Ro (a0 a1 a2):yA Pu a0 a1 a2=va Pu a0 a1 a2:=dd (Du _) _ _ _
theorem BK (a0 a1 s3 s4):nj Pu a0 a1 s3 s4=pE Pu a0 a1 s3 s4:=lM (Du _) _ _ _ _
theorem Rp (a0 a1 a2):u1 Pu a0 a1 a2=vb Pu a0 a1 a2:=dd (Du _) _ _ _
theorem SO (a0):zG Pu a0=vF Pu a0:=cK (Du _) _
theorem ab3 (a0):CG Pu a0=yG Pu a0:=cK (Du _) _
theorem Ot (a0 s9):xh Pu a0 s9=ua Pu a0 s9:=b6 (Du _) _ _
theorem e55 (a0):oU Pu a0=zU Pu a0:=cK (Du _) _
theorem Ov (a0 a1 s1):xi Pu a0 a1 s1=ub Pu a0 a1 s1:=dd (Du _) _ _ _
theorem e56 (a0 a1):sy Pu a0 a1=vA Pu a0 a1:=b6 (Du _) _ _
theorem e57 (a0):eQ Pu a0=Dn Pu a0:=cK (Du _) _
theorem e58 (a0):jc Pu a0=Dp Pu a0:=cK (Du _) _
theorem yH (a0):ka Pu a0=oK Pu a0:=cK (Du _) _
theorem CI (a0):eD Pu a0=qc Pu a0:=cK (Du _) _
theorem B7 (a1 s7 y16 s19 s24):mi Pu a1 s7 y16 s19 s24=pR Pu a1 s7 y16 s19 s24:=jE (Du _) _ _ _ _ _
theorem B' (a1 s7 y16 s35 s36):jR Pu a1 s7 y16 s35 s36=pS Pu a1 s7 y16 s35 s36:=jE (Du _) _ _ _ _ _
theorem Fv (a0 a1 s1 s2 s7):iT Pu a0 a1 s1 s2 s7=rk Pu a0 a1 s1 s2 s7:=jE (Du _) _ _ _ _ _
theorem JS (a0 a1):lh Pu a0 a1=qt Pu a0 a1:=b6 (Du _) _ _
theorem ab4 (a0 a1):cP Pu a0 a1=CJ Pu a0 a1:=b6 (Du _) _ _
theorem ab5 (a0):u2 Pu a0=yK Pu a0:=cK (Du _) _
theorem nR (a0):eX Pu a0=kg Pu a0:=cK (Du _) _
theorem oL (a0 a1):lI Pu a0 a1=kW Pu a0 a1:=b6 (Du _) _ _
theorem WY (a0 a1 s2):BL Pu a0 a1 s2=BM Pu a0 a1 s2:=dd (Du _) _ _ _
theorem ab6 (a0 a1):yB Pu a0 a1=CK Pu a0 a1:=b6 (Du _) _ _
theorem M0 (a0 a1 s22):qS Pu a0 a1 s22=tF Pu a0 a1 s22:=dd (Du _) _ _ _
theorem M1 (a0 a1 s8 s9):tG Pu a0 a1 s8 s9=tH Pu a0 a1 s8 s9:=lM (Du _) _ _ _ _
theorem ab7 (a0 a1):sd Pu a0 a1=yM Pu a0 a1:=b6 (Du _) _ _
theorem e66 (a0 a1):vw Pu a0 a1=zV Pu a0 a1:=b6 (Du _) _ _
theorem ab8 (a0 a1 a2):eb Pu a0 a1 a2=yO Pu a0 a1 a2:=dd (Du _) _ _ _
theorem E9 (a0 a1 s10):qT Pu a0 a1 s10=qU Pu a0 a1 s10:=dd (Du _) _ _ _
theorem M3 (a1 y108 x110 s113):oh Pu a1 y108 x110 s113=tI Pu a1 y108 x110 s113:=lM (Du _) _ _ _ _
theorem Rq (a0 a1 a2):se Pu a0 a1 a2=vc Pu a0 a1 a2:=dd (Du _) _ _ _
theorem ab9 (a0 a1 a2 a3 a4):u3 Pu a0 a1 a2 a3 a4=yR Pu a0 a1 a2 a3 a4:=jE (Du _) _ _ _ _ _
theorem M4 (a0 a1 a2 s1 s2 s3):kI Pu a0 a1 a2 s1 s2 s3=tJ Pu a0 a1 a2 s1 s2 s3:=qh (Du _) _ _ _ _ _ _
theorem IJ (a0 a1 a2):dC Pu a0 a1 a2=qb Pu a0 a1 a2:=dd (Du _) _ _ _
theorem oM (a0 a1 a2):kf Pu a0 a1 a2=kX Pu a0 a1 a2:=dd (Du _) _ _ _
theorem E' (a0 a1 a2 s16 s28 s29):lv Pu a0 a1 a2 s16 s28 s29=qV Pu a0 a1 a2 s16 s28 s29:=qh (Du _) _ _ _ _ _ _
theorem Fa (a0 a1 a2 s47 s59 s60):lx Pu a0 a1 a2 s47 s59 s60=qW Pu a0 a1 a2 s47 s59 s60:=qh (Du _) _ _ _ _ _ _
theorem Fb (a0 a1 a2 s79 s91 s92):qX Pu a0 a1 a2 s79 s91 s92=qY Pu a0 a1 a2 s79 s91 s92:=qh (Du _) _ _ _ _ _ _
theorem M5 (a0 a1 a2 s106 s118 s124 s125 s137 s138 s141):pF Pu a0 a1 a2 s106 s118 s124 s125 s137 s138 s141=tK Pu a0 a1 a2 s106 s118 s124 s125 s137 s138 s141:=aaj (Du _) _ _ _ _ _ _ _ _ _ _
theorem Fc (a0 a1 a2 s106 s118 s124 s125 s137 s138):nk Pu a0 a1 a2 s106 s118 s124 s125 s137 s138=qZ Pu a0 a1 a2 s106 s118 s124 s125 s137 s138:=Ru (Du _) _ _ _ _ _ _ _ _ _
theorem M6 (a0 a1 a2 s106 s118):q0 Pu a0 a1 a2 s106 s118=tM Pu a0 a1 a2 s106 s118:=jE (Du _) _ _ _ _ _
theorem sm (a0 a1 a2):nP Pu a0 a1 a2=mB Pu a0 a1 a2:=dd (Du _) _ _ _
theorem ab' (a0 a1):CH Pu a0 a1=yS Pu a0 a1:=b6 (Du _) _ _
theorem e60 (a0 a1 a2 a3):vx Pu a0 a1 a2 a3=zW Pu a0 a1 a2 a3:=lM (Du _) _ _ _ _
theorem Fw (a0 a1 s8):uc Pu a0 a1 s8=rm Pu a0 a1 s8:=dd (Du _) _ _ _
theorem SP (a0 a1):mK Pu a0 a1=vG Pu a0 a1:=b6 (Du _) _ _
theorem Ow (a0 a1 s10 s11):rn Pu a0 a1 s10 s11=ue Pu a0 a1 s10 s11:=lM (Du _) _ _ _ _
theorem e28 (a0 a1):C' Pu a0 a1=zX Pu a0 a1:=b6 (Du _) _ _
theorem Ox (a0 a1 s7):uf Pu a0 a1 s7=ug Pu a0 a1 s7:=dd (Du _) _ _ _
theorem e61 (a0 a1):vy Pu a0 a1=zY Pu a0 a1:=b6 (Du _) _ _
theorem e62 (a0):sA Pu a0=zZ Pu a0:=cK (Du _) _
theorem e63 (a0 a1):qq Pu a0 a1=z6 Pu a0 a1:=b6 (Du _) _ _
theorem z7 (a0 a1):kq Pu a0 a1=oW Pu a0 a1:=b6 (Du _) _ _
theorem Oy (a0 a1 s1 s2 s3):pT Pu a0 a1 s1 s2 s3=uh Pu a0 a1 s1 s2 s3:=jE (Du _) _ _ _ _ _
theorem e64 (a0 a1):u64 Pu a0 a1=vB Pu a0 a1:=b6 (Du _) _ _
theorem Oz (a0 a1 s1 s2):nB Pu a0 a1 s1 s2=ui Pu a0 a1 s1 s2:=lM (Du _) _ _ _ _
theorem e65 (a0 a1):JN Pu a0 a1=vC Pu a0 a1:=b6 (Du _) _ _
theorem e10 (a0 a1):yZ Pu a0 a1=z8 Pu a0 a1:=b6 (Du _) _ _
theorem OA (a0 a1 s7):pU Pu a0 a1 s7=uj Pu a0 a1 s7:=dd (Du _) _ _ _
theorem e11 (a0 a1):qg Pu a0 a1=Aa Pu a0 a1:=b6 (Du _) _ _
def RC (p:IX):Prop:=∀a0 a1 r,p a0 a1=some r->Pure env.toCx 48 [(.agg (ab.cs a0)),(.v (.int .i64 a1))] (.ret (.v (.int .i64 r)))
def RG (p:IY):Prop:=∀a0 a1 r,p a0 a1=some r->Pure env.toCx 23 [(.agg (ab.cs a0)),(.v (.int .i64 a1))] (.ret (.v (.bool r)))
def RH (p:IZ):Prop:=∀a0 a1 r,p a0 a1=some r->Pure env.toCx 49 [(.agg (cq.cs a0)),(.v (.int .i64 a1))] (.ret (.v (.int .i64 r)))
def RJ (p:I0):Prop:=∀a0 a1 r,p a0 a1=some r->Pure env.toCx 24 [(.agg (cq.cs a0)),(.v (.int .i64 a1))] (.ret (.v (.bool r)))
def C8 (p:T8):Prop:=∀a0 a1 a2 r,p a0 a1 a2=some r->Pure env.toCx 8 [(.agg (bD.cs a0)),(.agg (cq.cs a1)),(.sl 4 (eh.rows a2))] (.ret (.v (.bool r)))
def P2 (p:Hr):Prop:=∀a0 a1 r,p a0 a1=some r->Pure env.toCx 160 [(.v (.bool a0)),(.v (.int .i64 a1))] (.ret (.v (.int .i64 r)))
def P3 (p:Hs):Prop:=∀a0 r,p a0=some r->Pure env.toCx 107 [(.agg (ah.cs a0))] (.ret (.v (.int .i64 r)))
def P4 (p:Ht):Prop:=∀a0 r,p a0=some r->Pure env.toCx 109 [(.agg (ah.cs a0))] (.ret (.v (.int .i64 r)))
def P5 (p:Hu):Prop:=∀a0 r,p a0=some r->Pure env.toCx 113 [(.v (.int .u8 a0))] (.ret (.v (.bool r)))
def RK (p:I3):Prop:=∀a0 r,p a0=some r->Pure env.toCx 68 [(.v (.string ⟨⟨a0⟩⟩))] (.ret (.v (.bool r)))
def RL (p:I4):Prop:=∀a0 a1 r,p a0 a1=some r->Pure env.toCx 93 [(.sl 1 (aT a0)),(.v (.string ⟨⟨a1⟩⟩))] (.ret (.v (.int .i64 r)))
def P6 (p:Hv):Prop:=∀a0 a1 r,p a0 a1=some r->Pure env.toCx 148 [(.sl 1 (aT a0)),(.v (.string ⟨⟨a1⟩⟩))] (.ret (.v (.bool r)))
def P8 (p:Hw):Prop:=∀a0 r,p a0=some r->Pure env.toCx 126 [(.sl 1 (aT a0))] (.ret (.v (.bool r)))
def P9 (p:Hx):Prop:=∀a0 a1 r,p a0 a1=some r->Pure env.toCx 140 [(.sl 1 (aT a0)),(.v (.string ⟨⟨a1⟩⟩))] (.ret (.v (.bool r)))
def RM (p:I5):Prop:=∀a0 a1 r,p a0 a1=some r->Pure env.toCx 92 [(.sl 1 (aT a0)),(.sl 1 (aT a1))] (.ret (.v (.bool r)))
def Qb (p:Hy):Prop:=∀a0 r,p a0=some r->Pure env.toCx 110 [(.agg (ah.cs a0))] (.ret (.v (.int .i64 r)))
def Qc (p:Hz):Prop:=∀a0 r,p a0=some r->Pure env.toCx 111 [(.agg (ah.cs a0))] (.ret (.v (.int .i64 r)))
def Qd (p:HA):Prop:=∀a0 r,p a0=some r->Pure env.toCx 161 [(.agg (ah.cs a0))] (.ret (.v (.bool r)))
def Qg (p:HB):Prop:=∀a0 r,p a0=some r->Pure env.toCx 112 [(.agg (ah.cs a0))] (.ret (.v (.int .i64 r)))
def Qh (p:HC):Prop:=∀a0 r,p a0=some r->Pure env.toCx 108 [(.sl 1 (ep .i64 a0))] (.ret (.v (.int .i64 r)))
def RO (p:I6):Prop:=∀a0 a1 a2 r,p a0 a1 a2=some r->ry env 67 [(.own 0 0),(.d (.agg (ah.cs a1))),(.d (.v (.int .i64 a2)))] (.box (dh.cs a0)) (.v (.int .i64 r.1)) (.box (dh.cs r.2))
def RT (p:I7):Prop:=∀a0 r,p a0=some r->Pure env.toCx 31 [(.agg (ah.cs a0))] (.ret (.v (.int .i64 r)))
def RU (p:I8):Prop:=∀a0 a1 r,p a0 a1=some r->Pure env.toCx 70 [(.agg (TParam.cs a0)),(.ip (TParam.cs a1))] (.ret (.v (.bool r)))
def Mf (p:EK):Prop:=∀a0 a1 r,p a0 a1=some r->Pure env.toCx 114 [(.sl 2 (TParam.rows a0)),(.fn 70 [] [(.ip (TParam.cs a1))])] (.ret (.v (.int .i64 r)))
def MS (p:E7):Prop:=∀a0 a1 r,p a0 a1=some r->Pure env.toCx 69 [(.sl 2 (TParam.rows a0)),(.fn 70 [] [(.ip (TParam.cs a1))])] (.ret (.v (.bool r)))
def RV (p:I9):Prop:=∀a0 r,p a0=some r->Pure env.toCx 32 [(.agg (bD.cs a0))] (.ret (.v (.bool r)))
def RW (p:I'):Prop:=∀a0 a1 r,p a0 a1=some r->Pure env.toCx 71 [(.sl 2 (TParam.rows a0)),(.agg (ab.cs a1))] (.ret (.bZ [(.agg (af.cs r.1)),(.v (.bool r.2))]))
def RX (p:Ja):Prop:=∀a0 r,p a0=some r->Pure env.toCx 72 [(.v (.int .i64 a0))] (.ret (.bZ [(.v (.int .i64 r.1)),(.v (.int .i64 r.2))]))
def RY (p:Jb):Prop:=∀a0 r,p a0=some r->Pure env.toCx 73 [(.v (.int .i64 a0))] (.ret (.v (.string ⟨⟨r⟩⟩)))
def RZ (p:Jc):Prop:=∀a0 a1 r,p a0 a1=some r->Pure env.toCx 33 [(.sl 2 (TParam.rows a0)),(.agg (ab.cs a1))] (.ret (.bZ [(.agg (af.cs r.1)),(.v (.bool r.2))]))
def R2 (p:Jd):Prop:=∀a0 r,p a0=some r->Pure env.toCx 79 [(.agg (ah.cs a0))] (.ret (.agg (ay.cs r)))
def R3 (p:Je):Prop:=∀a0 r,p a0=some r->Pure env.toCx 80 [(.v (.int .i64 a0))] (.ret (.agg (ay.cs r)))
def R4 (p:Jf):Prop:=∀a0 a1 r,p a0 a1=some r->Pure env.toCx 35 [(.agg (ah.cs a0)),(.agg (bD.cs a1))] (.ret (.agg (ay.cs r)))
def Qi (p:HD):Prop:=∀a0 a1 r,p a0 a1=some r->Pure env.toCx 162 [(.agg (TParam.cs a0)),(.ip (af.cs a1))] (.ret (.v (.bool r)))
def Lw (p:Er):Prop:=∀a0 a1 r,p a0 a1=some r->Pure env.toCx 114 [(.sl 2 (TParam.rows a0)),(.fn 162 [] [(.ip (af.cs a1))])] (.ret (.v (.int .i64 r)))
def Qj (p:HE):Prop:=∀a0 a1 r,p a0 a1=some r->Pure env.toCx 119 [(.v (.int .i64 a0)),(.v (.int .i64 a1))] (aR.ar (λx=>(.bZ [])) r)
def Qk (p:HF):Prop:=∀a0 r,p a0=some r->Pure env.toCx 118 [(.agg (ay.cs a0))] (.ret (.v (.bool r)))
def Ql (p:HG):Prop:=∀a0 r,p a0=some r->Pure env.toCx 219 [(.v (.string ⟨⟨a0⟩⟩))] (.ret (.v (.int .i64 r)))
def Qm (p:HH):Prop:=∀a0 a1 r,p a0 a1=some r->Pure env.toCx 260 [(.sl 1 (ep .i64 a0)),(.v (.int .i64 a1))] (.ret (.v (.int .i64 r)))
def Qo (p:HI):Prop:=∀a0 a1 r,p a0 a1=some r->Pure env.toCx 221 [(.sl 1 (ep .i64 a0)),(.v (.int .i64 a1))] (.ret (.v (.bool r)))
def Qq (p:HJ):Prop:=∀a0 a1 a2 r,p a0 a1 a2=some r->Pure env.toCx 220 [(.sl 1 (ep .i64 a0)),(.ip (ay.cs a1)),(.ip (af.cs a2))] (aR.ar (λx=>(.bZ [])) r)
def Qr (p:HK):Prop:=∀a0 r,p a0=some r->Pure env.toCx 129 [(.sl 1 (aT a0))] (.ret (.sl 1 (aT r)))
def PG (p:GJ):Prop:=∀a0 r,p a0=some r->oA env 166 [(.sl 2 (aP.rows a0))] 181 2 (aP.rows r)
def PH (p:GK):Prop:=∀a0 r,p a0=some r->oA env 167 [(.sl 6 (ah.rows a0))] 26 6 (ah.rows r)
def Qs (p:HL):Prop:=∀a0 r,p a0=some r->Pure env.toCx 117 [(.agg (ah.cs a0))] (.ret (.agg (ah.cs r)))
def Qv (p:HM):Prop:=∀a0 r,p a0=some r->Pure env.toCx 262 [(.agg (af.cs a0))] (.ret (.v (.bool r)))
def Qw (p:HN):Prop:=∀a0 a1 r,p a0 a1=some r->Pure env.toCx 168 [(.sl 1 (aT a0)),(.sl 1 (aT a1))] (.ret (.v (.bool r)))
def Qx (p:HO):Prop:=∀a0 a1 r,p a0 a1=some r->Pure env.toCx 170 [(.agg (aP.cs a0)),(.agg (aP.cs a1))] (.ret (.v (.bool r)))
def Mg (p:EL):Prop:=∀a0 a1 r,p a0 a1=some r->Pure env.toCx 169 [(.sl 2 (aP.rows a0)),(.sl 2 (aP.rows a1)),(.v (.func (.func 170) #[] #[]))] (.ret (.v (.bool r)))
def Qz (p:HP):Prop:=∀a0 a1 r,p a0 a1=some r->Pure env.toCx 120 [(.agg (ah.cs a0)),(.agg (ah.cs a1))] (.ret (.v (.bool r)))
def Mh (p:EM):Prop:=∀a0 a1 r,p a0 a1=some r->Pure env.toCx 171 [(.sl 6 (ah.rows a0)),(.sl 6 (ah.rows a1)),(.v (.func (.func 120) #[] #[]))] (.ret (.v (.bool r)))
def R5 (p:Jg):Prop:=∀a0 a1 r,p a0 a1=some r->Pure env.toCx 81 [(.agg (ay.cs a0)),(.agg (ay.cs a1))] (.ret (.v (.bool r)))
def R6 (p:Jh):Prop:=∀a0 a1 a2 r,p a0 a1 a2=some r->Pure env.toCx 78 [(.ip (bJ.cs a0)),(.agg (af.cs a1)),(.agg (ay.cs a2))] (aR.ar (λx=>(.agg (ab.cs x))) r)
def QB (p:HQ):Prop:=∀a0 a1 a2 r,p a0 a1 a2=some r->Pure env.toCx 116 [(.ip (bJ.cs a0)),(.agg (af.cs a1)),(.agg (ay.cs a2))] (aR.ar (λx=>(.agg (ab.cs x))) r)
def QC (p:HR):Prop:=∀a0 a1 a2 a3 a4 a5 r,p a0 a1 a2 a3 a4 a5=some r->Pure env.toCx 163 [(.ip (bJ.cs a0)),(.v (.int .i64 a1)),(.agg (af.cs a2)),(.agg (ay.cs a3)),(.agg (ay.cs a4)),(.agg (ay.cs a5))] (aR.ar (λx=>(.agg (ab.cs x))) r)
def QD (p:HT):Prop:=∀a0 a1 a2 r,p a0 a1 a2=some r->Pure env.toCx 164 [(.ip (bJ.cs a0)),(.agg (af.cs a1)),(.agg (ay.cs a2))] (aR.ar (λx=>(.agg (ab.cs x))) r)
def QG (p:HU):Prop:=∀a0 a1 a2 r,p a0 a1 a2=some r->Pure env.toCx 223 [(.ip (bJ.cs a0)),(.agg (af.cs a1)),(.agg (ah.cs a2))] (aR.ar (λx=>(.sl 12 (ab.rows x))) r)
def QH (p:HV):Prop:=∀a0 a1 r,p a0 a1=some r->Pure env.toCx 224 [(.ip (bJ.cs a0)),(.agg (af.cs a1))] (aR.ar (λx=>(.agg (ab.cs x))) r)
def QI (p:HW):Prop:=∀a0 a1 a2 a3 a4 a5 r,p a0 a1 a2 a3 a4 a5=some r->Pure env.toCx 261 [(.v (.int .i64 a0)),(.agg (ay.cs a1)),(.sl 1 (ep .i64 a2)),(.ip ([.ip (bJ.cs a3)])),(.ip (af.cs a4)),(.ip (af.cs a5))] (aR.ar (λx=>(.agg (ab.cs x))) r)
def QJ (p:HX):Prop:=∀a0 a1 a2 a3 r,p a0 a1 a2 a3=some r->Pure env.toCx 226 [(.ip (bJ.cs a0)),(.agg (af.cs a1)),(.agg (af.cs a2)),(.sl 1 (ep .i64 a3))] (aR.ar (λx=>(.agg (ab.cs x))) r)
def QK (p:HY):Prop:=∀a0 a1 a2 r,p a0 a1 a2=some r->Pure env.toCx 165 [(.ip (bJ.cs a0)),(.agg (af.cs a1)),(.agg (ay.cs a2))] (aR.ar (λx=>(.agg (ab.cs x))) r)
def QL (p:HZ):Prop:=∀a0 a1 a2 a3 a4 r,p a0 a1 a2 a3 a4=some r->Pure env.toCx 225 [(.ip (bJ.cs a0)),(.agg (af.cs a1)),(.agg (af.cs a2)),(.agg (af.cs a3)),(.v (.bool a4))] (aR.ar (λx=>(.bZ [(.agg (ab.cs x.1)),(.agg (ab.cs x.2))])) r)
def R8 (p:Ji):Prop:=∀a0 a1 a2 a3 r,p a0 a1 a2 a3=some r->Pure env.toCx 34 [(.agg (ah.cs a0)),(.sl 2 (TParam.rows a1)),(.agg (ay.cs a2)),(.agg (af.cs a3))] (.ret (.bZ [(.agg (ab.cs r.1)),(.agg (aS.cs r.2))]))
def R9 (p:Jj):Prop:=∀a0 a1 r,p a0 a1=some r->Pure env.toCx 36 [(.agg (ab.cs a0)),(.agg (ab.cs a1))] (.ret (.v (.bool r)))
def Oe (p:Ft):Prop:=∀a0 a1 r,p a0 a1=some r->Pure env.toCx 82 [(.sl 12 (ab.rows a0)),(.sl 12 (ab.rows a1)),(.v (.func (.func 36) #[] #[]))] (.ret (.v (.bool r)))
def Sa (p:Jk):Prop:=∀a0 a1 r,p a0 a1=some r->Pure env.toCx 12 [(.agg (ah.cs a0)),(.agg (bD.cs a1))] (.ret (.v (.bool r)))
def Sb (p:Jl):Prop:=∀a0 r,p a0=some r->Pure env.toCx 25 [(.sl 2 (TParam.rows a0))] (.ret (.sl 2 (TParam.rows r)))
def Sc (p:Jm):Prop:=∀a0 a1 r,p a0 a1=some r->Pure env.toCx 50 [(.agg (ab.cs a0)),(.agg (ab.cs a1))] (.ret (.v (.bool r)))
def Og (p:Fu):Prop:=∀a0 a1 r,p a0 a1=some r->Pure env.toCx 82 [(.sl 12 (ab.rows a0)),(.sl 12 (ab.rows a1)),(.v (.func (.func 50) #[] #[]))] (.ret (.v (.bool r)))
def Sd (p:Jn):Prop:=∀a0 r,p a0=some r->Pure env.toCx 51 [(.agg (ab.cs a0))] (.ret (.agg (ab.cs r)))
def Se (p:Jo):Prop:=∀a0 r,p a0=some r->Pure env.toCx 53 [(.agg (ab.cs a0))] (.ret (.v (.bool r)))
def Sf (p:Jp):Prop:=∀a0 a1 r,p a0 a1=some r->Pure env.toCx 27 [(.agg (ab.cs a0)),(.agg (ab.cs a1))] (.ret (.agg (ab.cs r)))
def Si (p:Jq):Prop:=∀a0 r,p a0=some r->Pure env.toCx 26 [(.agg (ab.cs a0))] (.ret (.agg (ab.cs r)))
def C9 (p:T9):Prop:=∀a0 a1 r,p a0 a1=some r->Pure env.toCx 9 [(.agg (ah.cs a0)),(.agg (bD.cs a1))] (.ret (.bZ [(.agg (bD.cs r.1)),(.v (.int .i64 r.2))]))
def QM (p:H0):Prop:=∀a0 r,p a0=some r->Pure env.toCx 213 [(.agg (ah.cs a0))] (.ret (.v (.bool r)))
def QN (p:H2):Prop:=∀a0 r,p a0=some r->Pure env.toCx 253 [(.v (.string ⟨⟨a0⟩⟩))] (.ret (.v (.bool r)))
def QO (p:H3):Prop:=∀a0 a1 r,p a0 a1=some r->Pure env.toCx 254 [(.sl 1 (aT a0)),(.v (.string ⟨⟨a1⟩⟩))] (.ret (.v (.bool r)))
def QP (p:H4):Prop:=∀a0 r,p a0=some r->Pure env.toCx 255 [(.sl 1 (aT a0))] (.ret (.v (.bool r)))
def QQ (p:H5):Prop:=∀a0 r,p a0=some r->Pure env.toCx 214 [(.agg (ah.cs a0))] (.ret (.v (.bool r)))
def QR (p:H6):Prop:=∀a0 r,p a0=some r->Pure env.toCx 215 [(.agg (ah.cs a0))] (.ret (.v (.bool r)))
def QS (p:H7):Prop:=∀a0 a1 a2 r,p a0 a1 a2=some r->Pure env.toCx 155 [(.agg (ah.cs a0)),(.v (.int .i64 a1)),(.v (.int .i64 a2))] (.ret (.v (.int .i64 r)))
def QT (p:H8):Prop:=∀a0 a1 a2 r,p a0 a1 a2=some r->Pure env.toCx 101 [(.agg (ah.cs a0)),(.v (.int .i64 a1)),(.v (.int .i64 a2))] (.ret (.bZ [(.v (.int .i64 r.1)),(.v (.int .i64 r.2))]))
def Sj (p:Jr):Prop:=∀a0 r,p a0=some r->Pure env.toCx 54 [(.agg (ah.cs a0))] (.ret (.v (.int .i64 r)))
def QU (p:H9):Prop:=∀a0 r,p a0=some r->Pure env.toCx 102 [(.v (.int .u8 a0))] (.ret (.v (.bool r)))
def Sk (p:Js):Prop:=∀a0 r,p a0=some r->Pure env.toCx 55 [(.v (.string ⟨⟨a0⟩⟩))] (.ret (.v (.bool r)))
def Sm (p:Jt):Prop:=∀a0 a1 r,p a0 a1=some r->Pure env.toCx 56 [(.sl 1 (aT a0)),(.v (.string ⟨⟨a1⟩⟩))] (.ret (.v (.bool r)))
def Sn (p:Ju):Prop:=∀a0 r,p a0=some r->Pure env.toCx 57 [(.v (.int .i64 a0))] (.ret (.agg (ay.cs r)))
def Sp (p:Jv):Prop:=∀a0 r,p a0=some r->Pure env.toCx 58 [(.agg (ah.cs a0))] (.ret (.agg (ay.cs r)))
def QV (p:H'):Prop:=∀a0 r,p a0=some r->Pure env.toCx 103 [(.v (.int .i64 a0))] (.ret (.v (.int .i64 r)))
def QW (p:Ia):Prop:=∀a0 r,p a0=some r->Pure env.toCx 104 [(.v (.int .i64 a0))] (.ret (.v (.string ⟨⟨r⟩⟩)))
def Sq (p:Jw):Prop:=∀a0 a1 r,p a0 a1=some r->Pure env.toCx 59 [(.sl 2 (TParam.rows a0)),(.agg (ab.cs a1))] (.ret (.bZ [(.agg (af.cs r.1)),(.v (.bool r.2))]))
def QX (p:Ib):Prop:=∀a0 a1 r,p a0 a1=some r->Pure env.toCx 158 [(.v (.int .i64 a0)),(.v (.int .i64 a1))] (.ret (.agg (aS.cs r)))
def QY (p:Ic):Prop:=∀a0 r,p a0=some r->Pure env.toCx 157 [(.agg (ay.cs a0))] (.ret (.v (.bool r)))
def QZ (p:Ie):Prop:=∀a0 r,p a0=some r->Pure env.toCx 256 [(.agg (af.cs a0))] (.ret (.v (.bool r)))
def Q0 (p:Ig):Prop:=∀a0 a1 r,p a0 a1=some r->Pure env.toCx 257 [(.v (.string ⟨⟨a0⟩⟩)),(.v (.int .i64 a1))] (.ret (.v (.bool r)))
def Q1 (p:Ih):Prop:=∀a0 a1 r,p a0 a1=some r->Pure env.toCx 159 [(.sl 1 (aT a0)),(.sl 1 (aT a1))] (.ret (.v (.bool r)))
def Q2 (p:Ii):Prop:=∀a0 a1 r,p a0 a1=some r->Pure env.toCx 106 [(.agg (ah.cs a0)),(.agg (ah.cs a1))] (.ret (.v (.bool r)))
def Sr (p:Jx):Prop:=∀a0 a1 r,p a0 a1=some r->Pure env.toCx 66 [(.agg (ay.cs a0)),(.agg (ay.cs a1))] (.ret (.v (.bool r)))
def Q3 (p:Ij):Prop:=∀a0 a1 a2 r,p a0 a1 a2=some r->Pure env.toCx 105 [(.agg (cC.cs a0)),(.agg (af.cs a1)),(.agg (ay.cs a2))] (.ret (.bZ [(.agg (ab.cs r.1)),(.agg (aS.cs r.2))]))
def Q4 (p:Ik):Prop:=∀a0 a1 a2 r,p a0 a1 a2=some r->Pure env.toCx 156 [(.agg (cC.cs a0)),(.agg (af.cs a1)),(.agg (ay.cs a2))] (.ret (.bZ [(.agg (ab.cs r.1)),(.agg (aS.cs r.2))]))
def Q5 (p:Il):Prop:=∀a0 a1 a2 a3 a4 r,p a0 a1 a2 a3 a4=some r->Pure env.toCx 216 [(.agg (cC.cs a0)),(.agg (af.cs a1)),(.agg (af.cs a2)),(.v (.int .i64 a3)),(.v (.bool a4))] (.ret (.bZ [(.sl 12 (ab.rows r.1)),(.agg (aS.cs r.2))]))
def Q6 (p:Im):Prop:=∀a0 a1 a2 r,p a0 a1 a2=some r->Pure env.toCx 217 [(.agg (cC.cs a0)),(.sl 5 (af.rows a1)),(.sl 7 (ay.rows a2))] (.ret (.bZ [(.sl 12 (ab.rows r.1)),(.agg (aS.cs r.2))]))
def Q7 (p:Io):Prop:=∀a0 a1 a2 r,p a0 a1 a2=some r->Pure env.toCx 218 [(.agg (cC.cs a0)),(.agg (af.cs a1)),(.agg (ay.cs a2))] (.ret (.bZ [(.agg (ab.cs r.1)),(.agg (aS.cs r.2))]))
def Q8 (p:Ip):Prop:=∀a0 a1 a2 r,p a0 a1 a2=some r->Pure env.toCx 258 [(.agg (cC.cs a0)),(.agg (af.cs a1)),(.agg (ay.cs a2))] (.ret (.bZ [(.agg (ab.cs r.1)),(.agg (aS.cs r.2))]))
def Q9 (p:Iq):Prop:=∀a0 a1 r,p a0 a1=some r->Pure env.toCx 259 [(.agg (cC.cs a0)),(.agg (af.cs a1))] (.ret (.bZ [(.agg (ab.cs r.1)),(.agg (aS.cs r.2))]))
def Ss (p:Jy):Prop:=∀a0 a1 a2 a3 r,p a0 a1 a2 a3=some r->Pure env.toCx 60 [(.agg (ah.cs a0)),(.sl 2 (TParam.rows a1)),(.agg (ay.cs a2)),(.agg (af.cs a3))] (.ret (.bZ [(.agg (ab.cs r.1)),(.agg (aS.cs r.2))]))
def Su (p:Jz):Prop:=∀a0 a1 r,p a0 a1=some r->Pure env.toCx 30 [(.agg (ab.cs a0)),(.agg (ab.cs a1))] (.ret (.v (.bool r)))
def Sv (p:JA):Prop:=∀a0 a1 r,p a0 a1=some r->Pure env.toCx 28 [(.agg (ah.cs a0)),(.agg (bD.cs a1))] (.ret (.v (.bool r)))
def Sw (p:JB):Prop:=∀a0 a1 r,p a0 a1=some r->Pure env.toCx 61 [(.agg (ab.cs a0)),(.agg (ab.cs a1))] (.ret (.v (.bool r)))
def Sx (p:JC):Prop:=∀a0 r,p a0=some r->Pure env.toCx 62 [(.agg (ab.cs a0))] (.ret (.agg (ab.cs r)))
def Sy (p:JD):Prop:=∀a0 a1 r,p a0 a1=some r->Pure env.toCx 63 [(.agg (ab.cs a0)),(.sl 12 (ab.rows a1))] (.ret (.agg (ab.cs r)))
def Sz (p:JE):Prop:=∀a0 a1 r,p a0 a1=some r->Pure env.toCx 29 [(.agg (ab.cs a0)),(.agg (ab.cs a1))] (.ret (.agg (ab.cs r)))
def SA (p:JF):Prop:=∀a0 a1 r,p a0 a1=some r->Pure env.toCx 64 [(.agg (ab.cs a0)),(.agg (ab.cs a1))] (.ret (.agg (ab.cs r)))
def SB (p:JG):Prop:=∀a0 a1 r,p a0 a1=some r->Pure env.toCx 65 [(.agg (ab.cs a0)),(.agg (ab.cs a1))] (.ret (.agg (ab.cs r)))
def IN (p:CM):Prop:=∀a0 a1 r,p a0 a1=some r->Pure env.toCx 10 [(.agg (ah.cs a0)),(.agg (bD.cs a1))] (.ret (.bZ [(.agg (bD.cs r.1)),(.v (.int .i64 r.2))]))
def IP (p:CO):Prop:=∀a0 a1 r,p a0 a1=some r->Pure env.toCx 11 [(.agg (bD.cs a0)),(.agg (bD.cs a1))] (.ret (.v (.bool r)))
def SC (p:JH):Prop:=∀a0 r,p a0=some r->Pure env.toCx 13 [(.agg (ab.cs a0))] (.ret (.v (.int .i64 r)))
structure Ku (n:Nat):Prop where
 RF:RC (zy (Gu n))
 c23:RG (CZ (Gu n))
 RI:RH (zA (Gu n))
 c24:RJ (C0 (Gu n))
 c8:C8 (u8 (Gu n))
 iI:P2 (b4 (Gu n))
 abp:P3 (xV (Gu n))
 abq:P4 (CC (Gu n))
 abo:P5 (CD (Gu n))
 CW:RK (oS (Gu n))
 IV:RL (vp (Gu n))
 Qa:P6 (xW (Gu n))
 Hm:P8 (p6 (Gu n))
 Hl:P9 (p7 (Gu n))
 RN:RM (sw (Gu n))
 abr:Qb (xX (Gu n))
 abt:Qc (xY (Gu n))
 Hn:Qd (rY (Gu n))
 abu:Qg (xZ (Gu n))
 abv:Qh (ya (Gu n))
 RS:RO (vq (Gu n))
 c31:RT (zB (Gu n))
 c70:RU (JI (Gu n))
 VV:Mf (Bb (Gu n))
 WV:MS (BD (Gu n))
 c32:RV (u32 (Gu n))
 c71:RW (vt (Gu n))
 c72:RX (kn (Gu n))
 c73:RY (ko (Gu n))
 R1:RZ (nU (Gu n))
 jG:R2 (gP (Gu n))
 iN:R3 (dQ (Gu n))
 c35:R4 (C1 (Gu n))
 abw:Qi (Ir (Gu n))
 U8:Lw (wh (Gu n))
 fO:Qj (dg (Gu n))
 CB:Qk (rZ (Gu n))
 abC:Ql (dT (Gu n))
 abx:Qm (CF (Gu n))
 Ho:Qo (nN (Gu n))
 lG:Qq (gL (Gu n))
 Qt:Qr (yb (Gu n))
 ZJ:PG (GL (Gu n))
 ZK:PH (GM (Gu n))
 Hq:Qs (r6 (Gu n))
 Cz:Qv (mz (Gu n))
 Qy:Qw (yh (Gu n))
 aby:Qx (yn (Gu n))
 VW:Mg (Bc (Gu n))
 QA:Qz (uW (Gu n))
 VY:Mh (Bd (Gu n))
 IW:R5 (qp (Gu n))
 dA:R6 (bR (Gu n))
 abz:QB (lH (Gu n))
 xU:QC (iJ (Gu n))
 abA:QD (cV (Gu n))
 QE:QG (uX (Gu n))
 QF:QH (uY (Gu n))
 r7:QI (jZ (Gu n))
 Is:QJ (nO (Gu n))
 abB:QK (yx (Gu n))
 Iu:QL (qa (Gu n))
 c34:R8 (C2 (Gu n))
 SD:R9 (vu (Gu n))
 XQ:Oe (BZ (Gu n))
 Rt:Sa (so (Gu n))
 c25:Sb (C4 (Gu n))
 SE:Sc (vv (Gu n))
 XR:Og (B0 (Gu n))
 C5:Sd (sx (Gu n))
 C6:Se (oT (Gu n))
 zD:Sf (kp (Gu n))
 SF:Si (zE (Gu n))
 c9:C9 (u9 (Gu n))
 Iv:QM (r8 (Gu n))
 Ra:QN (yy (Gu n))
 Iw:QO (uZ (Gu n))
 Rb:QP (u0 (Gu n))
 Ix:QQ (r9 (Gu n))
 Iy:QR (sa (Gu n))
 abD:QS (yA (Gu n))
 Rc:QT (u1 (Gu n))
 c54:Sj (zG (Gu n))
 abE:QU (CG (Gu n))
 JJ:Sk (oU (Gu n))
 JK:Sm (sy (Gu n))
 iO:Sn (eQ (Gu n))
 mJ:Sp (jc (Gu n))
 abF:QV (ka (Gu n))
 abG:QW (eD (Gu n))
 SG:Sq (lh (Gu n))
 dU:QX (cP (Gu n))
 Iz:QY (u2 (Gu n))
 sb:QZ (eX (Gu n))
 abH:Q0 (lI (Gu n))
 Re:Q1 (yB (Gu n))
 Rf:Q2 (sd (Gu n))
 JL:Sr (vw (Gu n))
 ke:Q3 (eb (Gu n))
 abI:Q4 (se (Gu n))
 IA:Q5 (u3 (Gu n))
 gS:Q6 (dC (Gu n))
 abJ:Q7 (kf (Gu n))
 abK:Q8 (nP (Gu n))
 abL:Q9 (CH (Gu n))
 c60:Ss (vx (Gu n))
 JM:Su (mK (Gu n))
 c28:Sv (C' (Gu n))
 SH:Sw (vy (Gu n))
 Da:Sx (sA (Gu n))
 Db:Sy (qq (Gu n))
 zH:Sz (kq (Gu n))
 c64:SA (u64 (Gu n))
 c65:SB (JN (Gu n))
 IL:IN (yZ (Gu n))
 IM:IP (qg (Gu n))
 c13:SC (SI (Gu n))
def Ou (n:Nat):Prop:=∀m,m<=n->Ku m
theorem Lv (l:List (List UInt8)):aT l=l.map λx=>[.v (.string ⟨⟨x⟩⟩)]:=rfl
theorem Ou.a {N m:Nat} (h:Ou N) (hm:m<=N:=by omega):Ku m:=h m hm
