/- Printed by a program: what functions answer, and that they do. -/
import Derived.Test.YtfgnmgbiijpkiaaGreatKG1
set_option linter.all false
set_option maxRecDepth 100000
noncomputable section
namespace Go.Proofs.YtfgnmgbiijpkiaaGreat
open Go Go.Bw
abbrev pj (f:Fs):Mv:=λa h d c=>(bif decide (c<(↑(aU.rows a.aZ).length:Int))then((au a.aZ c).bind λb=>(bif (↑(aN b.If).length:Int)==0 then(some false)else((f196 f b.If).bind λe=>(bif !e then(some false)else((f195 f a.Names b.eP).bind λg=>(bif !g then(some false)else(mP f a h d c b e g d 0)))))))else(some true))
abbrev uE (f:Fs):Gk:=λa=>(bif a.Kind==6 then(mO f a 0)else((f196 f a.Names).bind λb=>(bif !b then(some false)else(mQ f a b false 0))))
abbrev rA (f:Fs):Gm:=λa=>(bif a.Kind==1 then(some true)else(bif a.Kind==2 then(some true)else(bif a.Kind==3 then(some true)else(bif a.Kind==7 then(bif (↑(ah.rows a.ax).length:Int)==2 then((au a.ax 0).bind λb=>((f155 f b).bind λc=>(bif c then((au a.ax 1).bind λd=>((f155 f d).bind λe=>(some e)))else(some false))))else(some false))else(some false)))))
abbrev uU (f:Fs):Is:=λa b c=>(bif a.Kind==6 then(bif decide (b>6)then(some 6)else(bif decide (c>=64)then(some 6)else((f153 f a).bind λd=>(bif !d then(some 1)else(bif decide ((↑(aN a.Names).length:Int)>8)then(some 6)else(bif decide ((↑(aU.rows a.aZ).length:Int)>32)then(some 6)else((f154 f a).bind λe=>(bif !e then(some 3)else(bif decide (a.Lo>a.Hi)then(some 5)else(bif decide (a.Lo< -1000000000)then(some 5)else(bif decide (a.Hi>1000000000)then(some 5)else(some 0))))))))))))else(bif a.Kind==10 then(bif decide (b>6)then(some 6)else(bif decide (c>=64)then(some 6)else((f153 f a).bind λg=>(bif !g then(some 1)else(bif decide ((↑(aN a.Names).length:Int)>12)then(some 6)else(bif decide ((↑(aU.rows a.aZ).length:Int)>32)then(some 6)else((f154 f a).bind λh=>(bif !h then(some 3)else(bif decide (a.Lo>a.Hi)then(some 5)else(bif decide (a.Lo< -1000000000)then(some 5)else(bif decide (a.Hi>1000000000)then(some 5)else(some 0))))))))))))else(bif decide (b>6)then(some 6)else(bif decide (c>=64)then(some 6)else((f153 f a).bind λi=>(bif !i then(some 1)else(bif decide ((↑(aN a.Names).length:Int)>32)then(some 6)else(bif decide ((↑(aU.rows a.aZ).length:Int)>32)then(some 6)else((f154 f a).bind λj=>(bif !j then(some 3)else(bif decide (a.Lo>a.Hi)then(some 5)else(bif decide (a.Lo< -1000000000)then(some 5)else(bif decide (a.Hi>1000000000)then(some 5)else(bif a.Kind==7 then((au a.ax 0).bind λk=>((f155 f k).bind λl=>(bif !l then(some 4)else(some 0))))else(some 0)))))))))))))))
abbrev pD (f:Fs):Ob:=λa e b c=>(bif decide (c<(↑(ah.rows a.ax).length:Int))then((au a.ax c).bind λg=>((f46 f g (IntKind.i64.wrap (e+1)) b).bind λd=>(bif d.snd !=0 then(some ((b,d.snd)))else(mW f a e d.fst (IntKind.i64.wrap (c+1))))))else(some ((b,0))))
abbrev uV (f:Fs):Iu:=λb c a=>((f90 f b c a).bind λd=>(bif d !=0 then(some ((a,d)))else(mW f b c (IntKind.i64.wrap (a+1)) 0)))
abbrev uW (f:Fs):Iv:=λa=>((f46 f a 1 0).bind λb=>(some b.snd))
abbrev tq (f:Fs):Oc:=λa c b=>(bif decide (b<(↑(bt.rows a).length:Int))then((au a b).bind λd=>(bif d.Name==c then((au a b).bind λe=>(some ((e.aj,true))))else(vX f a c (IntKind.i64.wrap (b+1)))))else(some ((ah.z,false))))
abbrev uP (f:Fs):Iw:=λa b=>(vX f a b 0)
abbrev tz (f:Fs):Od:=λa c b=>(bif decide (b<(↑(aN a).length:Int))then((au a b).bind λd=>(bif d==c then(some true)else(vY f a c (IntKind.i64.wrap (b+1)))))else(some false))
abbrev uQ (f:Fs):Ix:=λa b=>(vY f a b 0)
abbrev BE (f:Fs):Iy:=λa=>(some ({aP:=a,aj:=ah.z:az}))
abbrev BF (f:Fs):Iz:=λa=>(some ({aP:=0,aj:=a:az}))
abbrev oh (f:Fs):Gn:=λa=>(bif a==8 then(some 31)else(bif a==9 then(some 32)else(bif a==11 then(some 34)else(bif a==12 then(some 35)else(bif a==13 then(some 36)else(bif a==14 then(some 37)else(bif a==15 then(some 38)else(bif a==16 then(some 39)else(bif a==17 then(some 40)else(bif a==18 then(some 41)else(bif a==20 then(some 43)else(some 0))))))))))))
abbrev pV (f:Fs):Gp:=λa=>(bif a==21 then(some ([102,108,97,103]))else(bif a==22 then(some ([110,117,109]))else(bif a==23 then(some ([115,101,116]))else(bif a==24 then(some ([109,97,112]))else(bif a==25 then(some ([114,101,99]))else(bif a==26 then(some ([112,97,105,114]))else(bif a==27 then(some ([111,110,101]))else(bif a==28 then(some ([119,114,105,116,101]))else(bif a==29 then(some ([115,105,122,101]))else(bif a==30 then(some ([115,117,109]))else(bif a==31 then(some ([110,117,109,98,101,114]))else(bif a==32 then(some ([111,110]))else(bif a==33 then(some ([107,101,121,115]))else(bif a==34 then(some ([118,97,108,117,101,115]))else(bif a==35 then(some ([102,105,114,115,116]))else(bif a==36 then(some ([115,101,99,111,110,100]))else(bif a==37 then(some ([99,111,110,102,108,105,99,116]))else(some ([])))))))))))))))))))
abbrev pk (f:Fs):Mw:=λd a e b c=>(bif decide (IntKind.i64.wrap (b+1)<(↑(ab.rows a).length:Int))then((au a b).bind λg=>((au a b).bind λh=>((au a (IntKind.i64.wrap (b+1))).bind λi=>(bif decide (((c:List ab)++([⟨52,[],0,g.At,[h,i]⟩]:List ab)).length<=274877906944)then(lT f d a e (IntKind.i64.wrap (b+2)) (c++[⟨52,[],0,g.At,[h,i]⟩]))else none))))else(some ((⟨51,e,0,d.At,c⟩,(↑(ab.rows a).length:Int).tmod 2==0))))
abbrev pn (f:Fs):Mx:=λb d e c a=>(bif decide (a<(↑(ab.rows d).length:Int))then((au b.ai.aj.Names a).bind λg=>((au c a).bind λh=>((au c a).bind λi=>(jA f b d e (c.set a.toNat ⟨52,g,0,b.At,[h]⟩) (IntKind.i64.wrap (a+1))))))else(some ((⟨51,e,0,b.At,c⟩,true))))
abbrev qB (f:Fs):My:=λd a i e b=>(bif decide (e<(↑(ae.rows a.Kids).length:Int))then((au a.Kids e).bind λj=>((f104 f d j).bind λg=>(bif !g.snd then(some ((⟨0,[],0,a.At,b⟩,false)))else(bif decide (((b:List ab)++([g.fst]:List ab)).length<=274877906944)then(iC f d a i (IntKind.i64.wrap (e+1)) (b++[g.fst]))else none))))else((f173 f a.Op).bind λh=>(bif h !=0 then(some ((⟨h,[],0,a.At,b⟩,(↑(ab.rows b).length:Int)==2)))else((f174 f a.Op).bind λc=>(bif !c==[]then(bif a.Op==24 then(lT f a b c 0 ([]))else(bif a.Op==25 then(bif (↑(aN a.ai.aj.Names).length:Int) !=(↑(ab.rows b).length:Int)then(some ((⟨51,c,0,a.At,b⟩,false)))else(jA f a b c b 0))else(some ((⟨51,c,0,a.At,b⟩,true)))))else(bif a.Op==1 then(bif (↑(ab.rows b).length:Int)==0 then(bif decide (a.N>= -1000000000000000)then(some ((⟨44,[],a.N,a.At,b⟩,decide (a.N<=1000000000000000))))else(some ((⟨44,[],a.N,a.At,b⟩,false))))else(some ((⟨44,[],a.N,a.At,b⟩,false))))else(bif a.Op==2 then(bif a.N==1 then(some ((⟨45,[],0,a.At,b⟩,(↑(ab.rows b).length:Int)==0)))else(some ((⟨46,[],0,a.At,b⟩,(↑(ab.rows b).length:Int)==0))))else(bif a.Op==3 then(bif (↑(ab.rows b).length:Int)==0 then((f58 f a.Text).bind λk=>(some ((⟨47,a.Text,0,a.At,b⟩,k))))else(some ((⟨47,a.Text,0,a.At,b⟩,false))))else(bif a.Op==4 then(bif decide (a.N<0)then(some ((⟨0,[],0,a.At,b⟩,false)))else(bif decide (a.N>=(↑(TParam.rows d).length:Int))then(some ((⟨0,[],0,a.At,b⟩,false)))else((au d a.N).bind λl=>(some ((⟨48,l.Name,0,a.At,b⟩,(↑(ab.rows b).length:Int)==0))))))else(bif a.Op==5 then(some ((⟨49,[],0,a.At,b⟩,(↑(ab.rows b).length:Int)==0)))else(bif a.Op==6 then(some ((⟨50,[],0,a.At,b⟩,(↑(ab.rows b).length:Int)==0)))else(bif a.Op==7 then(some ((⟨30,[],0,a.At,b⟩,(↑(ab.rows b).length:Int)==3)))else(bif a.Op==10 then(some ((⟨33,[],0,a.At,b⟩,(↑(ab.rows b).length:Int)==1)))else(bif a.Op==19 then(bif (↑(ab.rows b).length:Int) !=1 then(some ((⟨0,[],0,a.At,b⟩,false)))else(bif decide (a.N<0)then(some ((⟨0,[],0,a.At,b⟩,false)))else((au a.Kids 0).bind λm=>(bif decide (a.N>=(↑(aN m.ai.aj.Names).length:Int))then(some ((⟨0,[],0,a.At,b⟩,false)))else((au a.Kids 0).bind λn=>((au n.ai.aj.Names a.N).bind λo=>(some ((⟨42,o,0,a.At,b⟩,true)))))))))else(some ((⟨0,[],0,a.At,b⟩,false)))))))))))))))))
abbrev pT (f:Fs):Gq:=λa b=>(iC f a b false 0 ([]))
abbrev BG (f:Fs):IA:=λa b=>(some ({Code:=a,At:=b:aM}))
abbrev xl (f:Fs):IB:=λa=>(bif a.aP==0 then(some (a.aj.Kind==0))else(some false))
abbrev jJ (f:Fs):Gr:=λa=>(bif a.Kind==50 then(some true)else(bif a.Kind==51 then(bif a.Text==[102,108,97,103]then(some true)else(bif a.Text==[110,117,109]then(some true)else(bif a.Text==[115,101,116]then(some true)else(bif a.Text==[109,97,112]then(some true)else(bif a.Text==[114,101,99]then(some true)else(bif a.Text==[112,97,105,114]then(some true)else(bif a.Text==[111,110,101]then(some true)else(some false))))))))else(bif a.Kind==39 then((au a.Kids 0).bind λb=>((f209 f b).bind λc=>(bif c then((au a.Kids 1).bind λd=>((f209 f d).bind λe=>(some e)))else(some false))))else(bif a.Kind==30 then((au a.Kids 1).bind λg=>((f209 f g).bind λh=>(bif h then((au a.Kids 2).bind λi=>((f209 f i).bind λj=>(some j)))else(some false))))else(some false)))))
abbrev kB (f:Fs):Gs:=λa b=>(bif a==[115,101,116]then(some true)else(bif a==[109,97,112]then(some true)else(bif a==[114,101,99]then(some true)else(bif a==[119,114,105,116,101]then(some (b==3))else(bif a==[112,97,105,114]then(some (b==2))else(some (b==1)))))))
abbrev AF (f:Fs):Oe:=λb c a=>(bif decide (a<(↑(aN b).length:Int))then((au b a).bind λd=>((au c a).bind λe=>(bif !d==e then(some false)else(AD f b c (IntKind.i64.wrap (a+1))))))else(some true))
abbrev BH (f:Fs):IC:=λa b=>(bif (↑(aN a).length:Int) !=(↑(aN b).length:Int)then(some false)else(AD f a b 0))
abbrev tA (f:Fs):Og:=λb c a=>(bif decide (a<(↑(ah.rows b.ax).length:Int))then((au b.ax a).bind λd=>((au c.ax a).bind λe=>((f29 f d e).bind λg=>(bif !g then(some false)else(qO f b c (IntKind.i64.wrap (a+1)))))))else(some true))
abbrev tC (f:Fs):Oh:=λb c d a=>(bif decide (a<(↑(aU.rows b.aZ).length:Int))then((au b.aZ a).bind λe=>((au c.aZ a).bind λg=>(bif !e.eP==g.eP then(some false)else((au b.aZ a).bind λh=>((au c.aZ a).bind λi=>((f69 f h.If i.If).bind λj=>(bif !j then(some false)else(tB f b c d (IntKind.i64.wrap (a+1))))))))))else(qO f b c 0))
abbrev xm (f:Fs):ID:=λa b=>(bif a.Kind !=b.Kind then(some false)else(bif a.Lo !=b.Lo then(some false)else(bif a.Hi !=b.Hi then(some false)else((f69 f a.Names b.Names).bind λc=>(bif !c then(some false)else(bif (↑(ah.rows a.ax).length:Int) !=(↑(ah.rows b.ax).length:Int)then(some false)else(bif (↑(aU.rows a.aZ).length:Int) !=(↑(aU.rows b.aZ).length:Int)then(some false)else(tB f a b false 0))))))))
abbrev xn (f:Fs):IE:=λa b=>(bif a.aP==b.aP then((f29 f a.aj b.aj).bind λc=>(some c))else(some false))
abbrev xo (f:Fs):IF:=λe b c=>((f94 f e b c).bind λa=>(bif a.snd.Code==0 then((f95 f c).bind λg=>(bif !g then((f50 f a.fst.ai c).bind λh=>(bif !h then((f41 f 4 b.At).bind λd=>(bif d.Code !=0 then(some ((ae.z,d)))else(some ((⟨a.fst.Op,a.fst.ai,a.fst.N,a.fst.Text,b.At,a.fst.Kids⟩,d)))))else(some ((⟨a.fst.Op,a.fst.ai,a.fst.N,a.fst.Text,b.At,a.fst.Kids⟩,a.snd)))))else(some ((⟨a.fst.Op,a.fst.ai,a.fst.N,a.fst.Text,b.At,a.fst.Kids⟩,a.snd)))))else(some ((ae.z,a.snd)))))
abbrev qQ (f:Fs):Oi:=λb c a=>(bif decide (a<(↑(TParam.rows b.Params).length:Int))then((au b.Params a).bind λd=>(bif d.Name==c.Text then((au b.Params a).bind λe=>((f88 f e.aP).bind λg=>(some ((⟨4,g,a,[],0,[]⟩,aM.z)))))else(qP f b c (IntKind.i64.wrap (a+1)))))else((f41 f 3 c.At).bind λh=>(some ((ae.z,h)))))
abbrev tD (f:Fs):Oj:=λd b c a=>(bif decide (a<(↑(aN c.ai.aj.Names).length:Int))then((au c.ai.aj.Names a).bind λe=>(bif e==d.Text then((au c.ai.aj.ax a).bind λg=>((f87 f g).bind λh=>(some ((⟨19,h,a,[],0,b.fst⟩,b.snd)))))else(nS f d b c (IntKind.i64.wrap (a+1)))))else((f41 f 3 d.At).bind λi=>(some ((⟨0,az.z,0,[],0,b.fst⟩,i)))))
abbrev uX (f:Fs):IG:=λb a e=>((f88 f 2).bind λc=>((f88 f 1).bind λd=>((f41 f 4 a.At).bind λo=>(bif a.Kind==44 then(some ((⟨1,d,a.N,[],0,[]⟩,aM.z)))else(bif a.Kind==45 then(some ((⟨2,c,1,[],0,[]⟩,aM.z)))else(bif a.Kind==46 then(some ((⟨2,c,0,[],0,[]⟩,aM.z)))else(bif a.Kind==47 then((f88 f 3).bind λC=>(some ((⟨3,C,0,a.Text,0,[]⟩,aM.z))))else(bif a.Kind==48 then(qP f b a 0)else(bif a.Kind==49 then((f87 f b.L).bind λD=>(some ((⟨5,D,0,[],0,[]⟩,aM.z))))else(bif a.Kind==50 then(bif e.aj.Kind==0 then(some ((ae.z,o)))else(some ((⟨6,e,0,[],0,[]⟩,aM.z))))else(bif a.Kind==30 then((au a.Kids 0).bind λE=>((f49 f b E c).bind λg=>(bif g.snd.Code !=0 then(some ((ae.z,g.snd)))else((f95 f e).bind λF=>(bif F then((au a.Kids 1).bind λG=>((au a.Kids 2).bind λH=>((f162 f b G H a.At false).bind λh=>(bif h.snd.Code !=0 then(some ((ae.z,h.snd)))else((au h.fst 0).bind λJ=>(bif decide ((([g.fst]:List ae)++(h.fst:List ae)).length<=274877906944)then(some ((⟨7,J.ai,0,[],0,[g.fst]++h.fst⟩,h.snd)))else none))))))else((iV a.Kids 1 (((a.Kids).length:Int))).bind λK=>((f163 f b K ([e,e])).bind λi=>(bif i.snd.Code !=0 then(some ((ae.z,i.snd)))else((au i.fst 0).bind λM=>(bif decide ((([g.fst]:List ae)++(i.fst:List ae)).length<=274877906944)then(some ((⟨7,M.ai,0,[],0,[g.fst]++i.fst⟩,i.snd)))else none))))))))))else(bif a.Kind==31 then((f163 f b a.Kids ([c,c])).bind λp=>(some ((⟨8,c,0,[],0,p.fst⟩,p.snd))))else(bif a.Kind==32 then((f163 f b a.Kids ([c,c])).bind λq=>(some ((⟨9,c,0,[],0,q.fst⟩,q.snd))))else(bif a.Kind==33 then((f163 f b a.Kids ([c])).bind λr=>(some ((⟨10,c,0,[],0,r.fst⟩,r.snd))))else(bif a.Kind==34 then((f163 f b a.Kids ([d,d])).bind λs=>(some ((⟨11,c,0,[],0,s.fst⟩,s.snd))))else(bif a.Kind==35 then((f163 f b a.Kids ([d,d])).bind λt=>(some ((⟨12,c,0,[],0,t.fst⟩,t.snd))))else(bif a.Kind==40 then((f163 f b a.Kids ([d,d])).bind λu=>(some ((⟨17,d,0,[],0,u.fst⟩,u.snd))))else(bif a.Kind==41 then((f163 f b a.Kids ([d,d])).bind λv=>(some ((⟨18,d,0,[],0,v.fst⟩,v.snd))))else(bif a.Kind==37 then((f88 f 3).bind λO=>((f88 f 4).bind λP=>((f163 f b a.Kids ([O,P])).bind λw=>(some ((⟨14,c,0,[],0,w.fst⟩,w.snd))))))else(bif a.Kind==36 then((au a.Kids 0).bind λQ=>((f49 f b Q az.z).bind λm=>(bif m.snd.Code !=0 then(some ((ae.z,m.snd)))else(bif m.fst.ai.aP==0 then((au a.Kids 0).bind λR=>((f41 f 4 R.At).bind λS=>(some ((ae.z,S)))))else((au a.Kids 1).bind λT=>((f49 f b T m.fst.ai).bind λx=>(some ((⟨13,c,0,[],0,[m.fst,x.fst]⟩,x.snd)))))))))else(bif a.Kind==38 then((au a.Kids 0).bind λU=>((au a.Kids 1).bind λV=>((f162 f b U V a.At true).bind λy=>(some ((⟨15,c,0,[],0,y.fst⟩,y.snd))))))else(bif a.Kind==39 then((f95 f e).bind λW=>(bif W then((au a.Kids 0).bind λX=>((au a.Kids 1).bind λY=>((f162 f b X Y a.At true).bind λj=>(bif j.snd.Code==0 then((au j.fst 0).bind λZ=>(some ((⟨16,Z.ai,0,[],0,j.fst⟩,j.snd))))else(some ((⟨0,az.z,0,[],0,j.fst⟩,j.snd)))))))else(bif e.aP !=0 then(some ((ae.z,o)))else((f163 f b a.Kids ([e,e])).bind λk=>(bif k.snd.Code==0 then((au k.fst 0).bind λx104=>(some ((⟨16,x104.ai,0,[],0,k.fst⟩,k.snd))))else(some ((⟨0,az.z,0,[],0,k.fst⟩,k.snd))))))))else(bif a.Kind==42 then((f163 f b a.Kids ([az.z])).bind λl=>(bif l.snd.Code !=0 then(some ((⟨0,az.z,0,[],0,l.fst⟩,l.snd)))else((au l.fst 0).bind λA=>(bif A.ai.aj.Kind !=6 then(some ((⟨0,az.z,0,[],0,l.fst⟩,o)))else(nS f a l A 0)))))else(bif a.Kind==43 then((au a.Kids 0).bind λx123=>((f49 f b x123 az.z).bind λn=>(bif n.snd.Code !=0 then(some ((ae.z,n.snd)))else(bif n.fst.ai.aj.Kind !=5 then(some ((ae.z,o)))else((au a.Kids 1).bind λx128=>((f88 f 3).bind λy130=>((f49 f b x128 y130).bind λB=>((au n.fst.ai.aj.ax 0).bind λx132=>((f87 f x132).bind λy134=>(some ((⟨20,y134,0,[],0,[n.fst,B.fst]⟩,B.snd))))))))))))else(bif a.Kind==51 then((f164 f b a e).bind λy136=>(some y136))else(some ((ae.z,aM.z))))))))))))))))))))))))))))
abbrev wW (f:Fs):Gt:=λd a j k l=>((f209 f a).bind λm=>(bif m then((f209 f j).bind λn=>(bif n then((f41 f 4 k).bind λo=>(some (([],o))))else((f49 f d j az.z).bind λb=>(bif b.snd.Code !=0 then(some (([],b.snd)))else(bif l then(bif b.fst.ai.aP !=0 then((f41 f 4 j.At).bind λp=>(some (([],p))))else((f49 f d a b.fst.ai).bind λe=>(bif e.snd.Code !=0 then(some (([],e.snd)))else((f209 f a).bind λq=>(bif q then(some (([e.fst,b.fst],e.snd)))else(some (([b.fst,e.fst],e.snd))))))))else((f49 f d a b.fst.ai).bind λg=>(bif g.snd.Code !=0 then(some (([],g.snd)))else((f209 f a).bind λr=>(bif r then(some (([g.fst,b.fst],g.snd)))else(some (([b.fst,g.fst],g.snd))))))))))))else((f209 f a).bind λs=>(bif s then((f41 f 4 k).bind λt=>(some (([],t))))else((f49 f d a az.z).bind λc=>(bif c.snd.Code !=0 then(some (([],c.snd)))else(bif l then(bif c.fst.ai.aP !=0 then((f41 f 4 a.At).bind λu=>(some (([],u))))else((f49 f d j c.fst.ai).bind λh=>(bif h.snd.Code !=0 then(some (([],h.snd)))else((f209 f a).bind λv=>(bif v then(some (([h.fst,c.fst],h.snd)))else(some (([c.fst,h.fst],h.snd))))))))else((f49 f d j c.fst.ai).bind λi=>(bif i.snd.Code !=0 then(some (([],i.snd)))else((f209 f a).bind λw=>(bif w then(some (([i.fst,c.fst],i.snd)))else(some (([c.fst,i.fst],i.snd))))))))))))))
abbrev sU (f:Fs):Mz:=λe g c h d a=>(bif decide (a<(↑(az.rows c).length:Int))then((au g a).bind λi=>((au c a).bind λj=>((f49 f e i j).bind λb=>(bif b.snd.Code !=0 then(some (([],b.snd)))else(bif decide (((d:List ae)++([b.fst]:List ae)).length<=274877906944)then(kn f e g c h (d++[b.fst]) (IntKind.i64.wrap (a+1)))else none)))))else(some ((d,aM.z))))
abbrev pU (f:Fs):Gv:=λa b c=>(kn f a b c ([]) ([]) 0)
abbrev kC (f:Fs):Gw:=λb a e=>((f210 f a.Text ((↑(ab.rows a.Kids).length:Int))).bind λg=>(bif !g then((f41 f 1 a.At).bind λh=>(some ((ae.z,h))))else((f209 f a).bind λi=>(bif i then((f211 f b a e).bind λj=>(some j))else(bif a.Text==[119,114,105,116,101]then((f87 f (⟨9,0,0,[],[],[]⟩)).bind λc=>((f88 f 1).bind λk=>((f88 f 3).bind λl=>((f163 f b a.Kids ([c,k,l])).bind λd=>(some ((⟨28,c,0,[],0,d.fst⟩,d.snd)))))))else((f212 f b a).bind λm=>(some m)))))))
abbrev qC (f:Fs):MA:=λg c e d b h=>(bif decide (d<(↑(ab.rows c.Kids).length:Int))then(bif h.Code==0 then((au c.Kids d).bind λi=>((f49 f g i az.z).bind λa=>(bif a.snd.Code==0 then(bif a.fst.ai.aP !=3 then(bif a.fst.ai.aP !=4 then((au c.Kids d).bind λj=>((f41 f 4 j.At).bind λk=>(bif decide (((b:List ae)++([a.fst]:List ae)).length<=274877906944)then(kU f g c e (IntKind.i64.wrap (d+1)) (b++[a.fst]) k)else none)))else(bif decide (((b:List ae)++([a.fst]:List ae)).length<=274877906944)then(kU f g c e (IntKind.i64.wrap (d+1)) (b++[a.fst]) a.snd)else none))else(bif decide (((b:List ae)++([a.fst]:List ae)).length<=274877906944)then(kU f g c e (IntKind.i64.wrap (d+1)) (b++[a.fst]) a.snd)else none))else(bif decide (((b:List ae)++([a.fst]:List ae)).length<=274877906944)then(kU f g c e (IntKind.i64.wrap (d+1)) (b++[a.fst]) a.snd)else none))))else(some ((⟨23,e,0,[],0,b⟩,h))))else(some ((⟨23,e,0,[],0,b⟩,h))))
abbrev qD (f:Fs):MB:=λg c e d b h=>(bif decide (d<(↑(ab.rows c.Kids).length:Int))then(bif h.Code==0 then((au c.Kids d).bind λi=>((f49 f g i az.z).bind λa=>(bif a.snd.Code==0 then(bif a.fst.ai.aP !=3 then(bif a.fst.ai.aP !=4 then((au c.Kids d).bind λj=>((f41 f 4 j.At).bind λk=>(bif decide (((b:List ae)++([a.fst]:List ae)).length<=274877906944)then(kV f g c e (IntKind.i64.wrap (d+1)) (b++[a.fst]) k)else none)))else(bif decide (((b:List ae)++([a.fst]:List ae)).length<=274877906944)then(kV f g c e (IntKind.i64.wrap (d+1)) (b++[a.fst]) a.snd)else none))else(bif decide (((b:List ae)++([a.fst]:List ae)).length<=274877906944)then(kV f g c e (IntKind.i64.wrap (d+1)) (b++[a.fst]) a.snd)else none))else(bif decide (((b:List ae)++([a.fst]:List ae)).length<=274877906944)then(kV f g c e (IntKind.i64.wrap (d+1)) (b++[a.fst]) a.snd)else none))))else(some ((⟨23,e,0,[],0,b⟩,h))))else(some ((⟨23,e,0,[],0,b⟩,h))))
abbrev qF (f:Fs):MC:=λh c a d b e=>(bif decide (d<(↑(ab.rows c.Kids).length:Int))then(bif e.Code==0 then((au c.Kids d).bind λi=>((f88 f 3).bind λj=>((au a.aj.ax 0).bind λk=>((f87 f k).bind λl=>((f163 f h i.Kids ([j,l])).bind λg=>(bif decide (((b:List ae)++(g.fst:List ae)).length<=274877906944)then(qE f h c a (IntKind.i64.wrap (d+1)) (b++g.fst) g.snd)else none))))))else(some ((⟨24,a,0,[],0,b⟩,e))))else(some ((⟨24,a,0,[],0,b⟩,e))))
abbrev sV (f:Fs):MD:=λh a c i j g b e o d=>(bif decide (d<(↑(aN c.aj.Names).length:Int))then((au c.aj.Names d).bind λp=>((au a.Kids b).bind λq=>(bif !p==q.Text then(po f h a c i j g b e o (IntKind.i64.wrap (d+1)))else(bif d==(↑(aN c.aj.Names).length:Int)then((au a.Kids b).bind λr=>((f41 f 3 r.At).bind λs=>(some ((⟨25,c,0,[],0,e⟩,s)))))else((au a.Kids b).bind λt=>((f42 f g t.Text).bind λu=>(bif u then((au a.Kids b).bind λv=>((f41 f 3 v.At).bind λw=>(some ((⟨25,c,0,[],0,e⟩,w)))))else((au a.Kids b).bind λk=>(bif decide (((g:List (List UInt8))++([k.Text]:List (List UInt8))).length<=274877906944)then((au a.Kids b).bind λx=>((au x.Kids 0).bind λy=>((au c.aj.ax d).bind λz=>((f87 f z).bind λA=>((f49 f h y A).bind λl=>((au e d).bind λM=>(mR f h a c i j (g++[k.Text]) (IntKind.i64.wrap (b+1)) (e.set d.toNat l.fst) l.snd)))))))else none)))))))))else(bif d==(↑(aN c.aj.Names).length:Int)then((au a.Kids b).bind λB=>((f41 f 3 B.At).bind λC=>(some ((⟨25,c,0,[],0,e⟩,C)))))else((au a.Kids b).bind λD=>((f42 f g D.Text).bind λE=>(bif E then((au a.Kids b).bind λF=>((f41 f 3 F.At).bind λG=>(some ((⟨25,c,0,[],0,e⟩,G)))))else((au a.Kids b).bind λm=>(bif decide (((g:List (List UInt8))++([m.Text]:List (List UInt8))).length<=274877906944)then((au a.Kids b).bind λH=>((au H.Kids 0).bind λJ=>((au c.aj.ax d).bind λK=>((f87 f K).bind λL=>((f49 f h J L).bind λn=>((au e d).bind λN=>(mR f h a c i j (g++[m.Text]) (IntKind.i64.wrap (b+1)) (e.set d.toNat n.fst) n.snd)))))))else none)))))))
abbrev qG (f:Fs):ME:=λg d b h i j e c a=>(bif decide (e<(↑(ab.rows d.Kids).length:Int))then(bif a.Code==0 then(po f g d b h i j e c a 0)else(some ((⟨25,b,0,[],0,c⟩,a))))else(some ((⟨25,b,0,[],0,c⟩,a))))
abbrev sW (f:Fs):MF:=λe a b c d=>(bif decide (c<(↑(aN b.aj.Names).length:Int))then((au b.aj.ax c).bind λh=>((f87 f h).bind λg=>(bif decide (((d:List ae)++([⟨6,g,0,[],a.At,[]⟩]:List ae)).length<=274877906944)then(qH f e a b (IntKind.i64.wrap (c+1)) (d++[⟨6,g,0,[],a.At,[]⟩]))else none)))else(mR f e a b c d ([]) 0 d aM.z))
abbrev me (f:Fs):Gx:=λc b a=>(bif b.Text==[102,108,97,103]then(bif !a.aj.Kind==1 then((f41 f 4 b.At).bind λj=>(some ((⟨0,a,0,[],0,[]⟩,j))))else((f88 f 2).bind λk=>((f163 f c b.Kids ([k])).bind λd=>(some ((⟨21,a,0,[],0,d.fst⟩,d.snd))))))else(bif b.Text==[110,117,109]then(bif a.aj.Kind==2 then((f88 f 1).bind λl=>((f163 f c b.Kids ([l])).bind λe=>(some ((⟨22,a,0,[],0,e.fst⟩,e.snd)))))else(bif !a.aj.Kind==3 then((f41 f 4 b.At).bind λm=>(some ((⟨0,a,0,[],0,[]⟩,m))))else((f88 f 1).bind λn=>((f163 f c b.Kids ([n])).bind λg=>(some ((⟨22,a,0,[],0,g.fst⟩,g.snd)))))))else(bif b.Text==[115,101,116]then(bif a.aj.Kind==4 then(kU f c b a 0 ([]) aM.z)else(bif !a.aj.Kind==10 then((f41 f 4 b.At).bind λo=>(some ((⟨0,a,0,[],0,[]⟩,o))))else(kV f c b a 0 ([]) aM.z)))else(bif b.Text==[109,97,112]then(bif !a.aj.Kind==5 then((f41 f 4 b.At).bind λp=>(some ((⟨0,a,0,[],0,[]⟩,p))))else(qE f c b a 0 ([]) aM.z))else(bif b.Text==[114,101,99]then(bif !a.aj.Kind==6 then((f41 f 4 b.At).bind λq=>(some ((⟨0,a,0,[],0,[]⟩,q))))else(qH f c b a 0 ([])))else(bif b.Text==[112,97,105,114]then(bif !a.aj.Kind==7 then((f41 f 4 b.At).bind λr=>(some ((⟨0,a,0,[],0,[]⟩,r))))else((au a.aj.ax 0).bind λs=>((f87 f s).bind λt=>((au a.aj.ax 1).bind λu=>((f87 f u).bind λv=>((f163 f c b.Kids ([t,v])).bind λh=>(some ((⟨26,a,0,[],0,h.fst⟩,h.snd)))))))))else(bif b.Text==[111,110,101]then(bif !a.aj.Kind==8 then((f41 f 4 b.At).bind λw=>(some ((⟨0,a,0,[],0,[]⟩,w))))else((f88 f 3).bind λx=>((f163 f c b.Kids ([x])).bind λi=>(some ((⟨27,a,0,[],0,i.fst⟩,i.snd))))))else((f41 f 4 b.At).bind λy=>(some ((⟨0,a,0,[],0,[]⟩,y)))))))))))
abbrev wX (f:Fs):Gy:=λj b=>((au b.Kids 0).bind λk=>((f49 f j k az.z).bind λa=>(bif a.snd.Code !=0 then(some ((ae.z,a.snd)))else(bif b.Text==[115,105,122,101]then((f88 f 1).bind λc=>(bif a.fst.ai.aP==4 then(some ((⟨29,c,0,[],0,[a.fst]⟩,a.snd)))else(bif a.fst.ai.aj.Kind==4 then(some ((⟨29,c,0,[],0,[a.fst]⟩,a.snd)))else(bif a.fst.ai.aj.Kind==5 then(some ((⟨29,c,0,[],0,[a.fst]⟩,a.snd)))else(bif a.fst.ai.aj.Kind==9 then(some ((⟨29,c,0,[],0,[a.fst]⟩,a.snd)))else(bif !a.fst.ai.aj.Kind==10 then((f41 f 4 b.At).bind λl=>(some ((ae.z,l))))else(some ((⟨29,c,0,[],0,[a.fst]⟩,a.snd)))))))))else(bif b.Text==[115,117,109]then((f88 f 1).bind λe=>(bif a.fst.ai.aj.Kind==5 then((au a.fst.ai.aj.ax 0).bind λm=>(bif m.Kind==2 then(some ((⟨30,e,0,[],0,[a.fst]⟩,a.snd)))else((au a.fst.ai.aj.ax 0).bind λn=>(bif !n.Kind==3 then((f41 f 4 b.At).bind λo=>(some ((ae.z,o))))else(some ((⟨30,e,0,[],0,[a.fst]⟩,a.snd)))))))else((f41 f 4 b.At).bind λp=>(some ((ae.z,p))))))else(bif b.Text==[110,117,109,98,101,114]then((f88 f 1).bind λg=>(bif a.fst.ai.aj.Kind==2 then(some ((⟨31,g,0,[],0,[a.fst]⟩,a.snd)))else(bif !a.fst.ai.aj.Kind==3 then((f41 f 4 b.At).bind λq=>(some ((ae.z,q))))else(some ((⟨31,g,0,[],0,[a.fst]⟩,a.snd))))))else(bif b.Text==[111,110]then((f88 f 2).bind λr=>(bif !a.fst.ai.aj.Kind==1 then((f41 f 4 b.At).bind λs=>(some ((ae.z,s))))else(some ((⟨32,r,0,[],0,[a.fst]⟩,a.snd)))))else(bif b.Text==[107,101,121,115]then((f88 f 4).bind λd=>(bif a.fst.ai.aj.Kind==5 then(some ((⟨33,d,0,[],0,[a.fst]⟩,a.snd)))else(bif a.fst.ai.aj.Kind==4 then(some ((⟨33,d,0,[],0,[a.fst]⟩,a.snd)))else(bif !a.fst.ai.aj.Kind==10 then((f41 f 4 b.At).bind λt=>(some ((ae.z,t))))else(some ((⟨33,d,0,[],0,[a.fst]⟩,a.snd)))))))else(bif b.Text==[118,97,108,117,101,115]then((f88 f 4).bind λh=>(bif a.fst.ai.aj.Kind==8 then(some ((⟨34,h,0,[],0,[a.fst]⟩,a.snd)))else(bif !a.fst.ai.aj.Kind==9 then((f41 f 4 b.At).bind λu=>(some ((ae.z,u))))else(some ((⟨34,h,0,[],0,[a.fst]⟩,a.snd))))))else(bif b.Text==[99,111,110,102,108,105,99,116]then((f88 f 2).bind λi=>(bif a.fst.ai.aj.Kind==8 then(some ((⟨37,i,0,[],0,[a.fst]⟩,a.snd)))else(bif !a.fst.ai.aj.Kind==9 then((f41 f 4 b.At).bind λv=>(some ((ae.z,v))))else(some ((⟨37,i,0,[],0,[a.fst]⟩,a.snd))))))else(bif b.Text==[102,105,114,115,116]then(bif a.fst.ai.aj.Kind==7 then((au a.fst.ai.aj.ax 0).bind λw=>((f87 f w).bind λx=>(some ((⟨35,x,0,[],0,[a.fst]⟩,a.snd)))))else((f41 f 4 b.At).bind λy=>(some ((ae.z,y)))))else(bif b.Text==[115,101,99,111,110,100]then(bif a.fst.ai.aj.Kind==7 then((au a.fst.ai.aj.ax 1).bind λA=>((f87 f A).bind λB=>(some ((⟨36,B,0,[],0,[a.fst]⟩,a.snd)))))else((f41 f 4 b.At).bind λC=>(some ((ae.z,C)))))else((f41 f 4 b.At).bind λD=>(some ((ae.z,D))))))))))))))))
abbrev xp (f:Fs):II:=λa b c d=>((f49 f ({L:=a,Params:=b:cA}) d c).bind λe=>(some e))
abbrev tG (f:Fs):Ol:=λb c a=>(bif decide (a<(↑(ae.rows b.Kids).length:Int))then((au b.Kids a).bind λd=>((au c.Kids a).bind λe=>((f20 f d e).bind λg=>(bif !g then(some false)else(tE f b c (IntKind.i64.wrap (a+1)))))))else(some true))
abbrev xq (f:Fs):IJ:=λa b=>(bif a.Op !=b.Op then(some false)else((f50 f a.ai b.ai).bind λc=>(bif !c then(some false)else(bif a.N !=b.N then(some false)else(bif !a.Text==b.Text then(some false)else(bif a.At !=b.At then(some false)else(bif (↑(ae.rows a.Kids).length:Int) !=(↑(ae.rows b.Kids).length:Int)then(some false)else(tE f a b 0))))))))
abbrev tH (f:Fs):Om:=λc a d b=>(bif decide (b<(↑(TParam.rows a.Params).length:Int))then((au a.Params b).bind λk=>((f58 f k.Name).bind λl=>(bif !l then(some false)else((au a.Params b).bind λm=>((f42 f d m.Name).bind λn=>(bif n then(some false)else((au a.Params b).bind λo=>(bif decide (o.aP<1)then(some false)else((au a.Params b).bind λp=>(bif decide (p.aP>4)then(some false)else((au a.Params b).bind λe=>(bif decide (((d:List (List UInt8))++([e.Name]:List (List UInt8))).length<=274877906944)then(qR f c a (d++[e.Name]) (IntKind.i64.wrap (b+1)))else none))))))))))))else((f88 f a.Result).bind λq=>(bif a.Result==0 then((f87 f c).bind λr=>((f104 f a.Params a.Body).bind λg=>(bif !g.snd then(some false)else((f19 f c a.Params r g.fst).bind λh=>(bif h.snd.Code==0 then((f20 f h.fst a.Body).bind λs=>(some s))else(some false))))))else((f104 f a.Params a.Body).bind λi=>(bif !i.snd then(some false)else((f19 f c a.Params q i.fst).bind λj=>(bif j.snd.Code==0 then((f20 f j.fst a.Body).bind λt=>(some t))else(some false))))))))
abbrev xr (f:Fs):IK:=λb a=>((f15 f b).bind λc=>(bif c !=0 then(some false)else((f58 f a.Name).bind λd=>(bif !d then(some false)else((f58 f a.On).bind λe=>(bif !e then(some false)else(bif decide ((↑(TParam.rows a.Params).length:Int)>8)then(some false)else(bif decide (a.Result<0)then(some false)else(bif decide (a.Result>4)then(some false)else(qR f b a ([]) 0))))))))))
abbrev tI (f:Fs):Oo:=λa e g h k l b i m n c d=>((au ([a.cQ,a.Queries]) b).bind λo=>(bif decide (d<(↑(bl.rows o).length:Int))then((au ([a.cQ,a.Queries]) b).bind λp=>((au p d).bind λj=>(bif decide (((c:List (List UInt8))++([j.Name]:List (List UInt8))).length<=274877906944)then(pE f a e g h k l b i m n (c++[j.Name]) (IntKind.i64.wrap (d+1)))else none)))else(tK f a e g h i c (IntKind.i64.wrap (b+1)))))
abbrev tJ (f:Fs):Oq:=λa g h i j e b k c=>((au ([a.cQ,a.Queries]) b).bind λm=>(bif decide (c<(↑(bl.rows m).length:Int))then((au ([a.cQ,a.Queries]) b).bind λn=>((au n c).bind λd=>((f59 f a.bH d.On).bind λl=>(bif !l.snd then(some false)else(bif !(d.Result==0)==(b==0)then(some false)else(bif decide (c>0)then((au ([a.cQ,a.Queries]) b).bind λo=>((au o (IntKind.i64.wrap (c-1))).bind λp=>(bif !Op.bytesLess p.Name d.Name then(some false)else((f42 f e d.Name).bind λq=>(bif q then(some false)else((f60 f l.fst d).bind λr=>(bif !r then(some false)else(mX f a g h i j e b k (IntKind.i64.wrap (c+1))))))))))else((f42 f e d.Name).bind λs=>(bif s then(some false)else((f60 f l.fst d).bind λt=>(bif !t then(some false)else(mX f a g h i j e b k (IntKind.i64.wrap (c+1)))))))))))))else(pE f a g h i j e b k c m e 0)))
abbrev qS (f:Fs):Ot:=λc d e g a h b=>(bif decide (b<2)then(mX f c d e g a h b a 0)else(some true))
abbrev tM (f:Fs):Ov:=λb d c a=>(bif decide (a<(↑(bt.rows b.bH).length:Int))then((au b.bH a).bind λh=>((f58 f h.Name).bind λi=>(bif !i then(some false)else(bif decide (a>0)then((au b.bH (IntKind.i64.wrap (a-1))).bind λj=>((au b.bH a).bind λk=>(bif !Op.bytesLess j.Name k.Name then(some false)else((au b.bH a).bind λl=>((f15 f l.aj).bind λm=>(bif m !=0 then(some false)else((au b.bH a).bind λe=>(bif decide (((c:List (List UInt8))++([e.Name]:List (List UInt8))).length<=274877906944)then(nT f b d (c++[e.Name]) (IntKind.i64.wrap (a+1)))else none))))))))else((au b.bH a).bind λn=>((f15 f n.aj).bind λo=>(bif o !=0 then(some false)else((au b.bH a).bind λg=>(bif decide (((c:List (List UInt8))++([g.Name]:List (List UInt8))).length<=274877906944)then(nT f b d (c++[g.Name]) (IntKind.i64.wrap (a+1)))else none)))))))))else(tK f b d c a d c 0))
abbrev xu (f:Fs):IL:=λa=>(bif decide ((↑(bt.rows a.bH).length:Int)>64)then(some false)else(bif decide ((↑(bl.rows a.cQ).length:Int)>64)then(some false)else(bif decide ((↑(bl.rows a.Queries).length:Int)>64)then(some false)else(bif decide (IntKind.i64.wrap (IntKind.i64.wrap ((↑(bt.rows a.bH).length:Int)+(↑(bl.rows a.cQ).length:Int))+(↑(bl.rows a.Queries).length:Int))>64)then(some false)else(nT f a false ([]) 0)))))
abbrev vF (f:Fs):MG:=λb a c=>(bif decide (c<(↑(ah.rows b.ax).length:Int))then(bif decide (a>=0)then((au b.ax c).bind λd=>((f165 f d a).bind λe=>(vE f b e (IntKind.i64.wrap (c+1)))))else(some a))else(some a))
abbrev vH (f:Fs):MH:=λb a c=>(bif decide (c<(↑(ah.rows b.ax).length:Int))then(bif decide (a>=0)then((au b.ax c).bind λd=>((f165 f d a).bind λe=>(vG f b e (IntKind.i64.wrap (c+1)))))else(some a))else(some a))
abbrev vJ (f:Fs):MI:=λb a c=>(bif decide (c<(↑(ah.rows b.ax).length:Int))then(bif decide (a>=0)then((au b.ax c).bind λd=>((f165 f d a).bind λe=>(vI f b e (IntKind.i64.wrap (c+1)))))else(some a))else(some a))
abbrev wY (f:Fs):Gz:=λa b=>(bif a.Kind==10 then(bif decide (IntKind.i64.wrap (IntKind.i64.wrap (b-1)-(↑(aN a.Names).length:Int))>=0)then(vE f a (IntKind.i64.wrap (IntKind.i64.wrap (IntKind.i64.wrap (b-1)-(↑(aN a.Names).length:Int))-IntKind.i64.wrap ((↑(aN a.Names).length:Int)*(↑(aU.rows a.aZ).length:Int)))) 0)else(vG f a (IntKind.i64.wrap (IntKind.i64.wrap (b-1)-(↑(aN a.Names).length:Int))) 0))else(vI f a (IntKind.i64.wrap (IntKind.i64.wrap (b-1)-(↑(aN a.Names).length:Int))) 0))
abbrev xv (f:Fs):IM:=λa=>((f165 f a 150).bind λb=>(some (decide (b>=0))))
abbrev tN (f:Fs):Ow:=λa b=>(bif decide (b<(↑(bt.rows a).length:Int))then((au a b).bind λc=>((f96 f c.aj).bind λd=>(bif !d then(some false)else(qT f a (IntKind.i64.wrap (b+1))))))else(some true))
abbrev uR (f:Fs):IN:=λa=>(qT f a 0)
abbrev tO (f:Fs):Ox:=λb a c=>(bif decide (c<(↑(ae.rows b.Kids).length:Int))then(bif decide (a>=0)then((au b.Kids c).bind λd=>((f97 f d a).bind λe=>(qU f b e (IntKind.i64.wrap (c+1)))))else(some a))else(some a))
abbrev xw (f:Fs):IP:=λb a=>(bif decide (a<1)then(some (-1))else(bif decide ((↑(ae.rows b.Kids).length:Int)>a)then(some (-1))else(qU f b (IntKind.i64.wrap (a-1)) 0)))
abbrev xx (f:Fs):IQ:=λa b=>((f97 f a b).bind λc=>(some (decide (c>=0))))
abbrev tP (f:Fs):Oy:=λa b=>(bif decide (b<(↑(bl.rows a.Queries).length:Int))then((au a.Queries b).bind λc=>((f52 f c.Body 100).bind λd=>(bif !d then(some false)else((au a.Queries b).bind λe=>(bif decide ((↑(TParam.rows e.Params).length:Int)>20)then(some false)else(pF f a (IntKind.i64.wrap (b+1))))))))else(some true))
abbrev tR (f:Fs):Oz:=λa c b=>(bif decide (b<(↑(bl.rows a.cQ).length:Int))then((au a.cQ b).bind λd=>((f52 f d.Body 100).bind λe=>(bif !e then(some false)else((au a.cQ b).bind λg=>(bif decide ((↑(TParam.rows g.Params).length:Int)>20)then(some false)else(qV f a c (IntKind.i64.wrap (b+1))))))))else(pF f a 0))
abbrev xy (f:Fs):IS:=λa=>(bif decide ((↑(bt.rows a.bH).length:Int)>70)then(some false)else((f51 f a.bH).bind λb=>(bif !b then(some false)else(bif decide ((↑(bl.rows a.cQ).length:Int)>70)then(some false)else(bif decide ((↑(bl.rows a.Queries).length:Int)>70)then(some false)else(qV f a false 0))))))
abbrev B5 (f:Fs):T5:=λa=>((f21 f a).bind λb=>(bif !b then((f9 f).bind λc=>(some c))else((f9 f).bind λd=>(bif d then((f22 f a).bind λe=>((f23 f a).bind λg=>(some (e==g))))else(some false)))))
def Bx (x:Us) (f:Fs):BI:=((((xa f,th f),(xb f,(wJ f,uo f))),((wK f,sL f),(uq f,(wL f,qy f)))),(((uv f,xc f),(sM f,(uw f,zU f))),((zW f,pc f),(rj f,(ux f,rk f)))))
def By (x:Us) (f:Fs):BJ:=((((uy f,pd f),(rm f,(py f,uL f))),((uM f,xd f),(sj f,(sN f,wM f)))),(((r8 f,sx f),(vi f,(pz f,uN f))),((ma f,jb f),(od f,(pB f,pC f)))))
def Bz (x:Us) (f:Fs):BK:=((((pA f,rR f),(A8 f,(A9 f,xe f))),((wN f,r9 f),(sy f,(iL f,xf f)))),(((dL f,sO f),(uz f,(wO f,rn f))),((wP f,wo f),(wu f,(tm f,tj f)))))
def IX (x:Us) (f:Fs):BL:=((((xg f,rp f),(zZ f,(Bb f,wQ f))),((sd f,vo f),(wR f,(sf f,vp f)))),(((xh f,rS f),(dN f,(rq f,Dx f))),((Dz f,kT f),(mL f,(dM f,mM f)))))
def IY (x:Us) (f:Fs):BM:=((((mN f,ry f),(jc f,(nr f,og f))),((ie f,rz f),(uS f,(xj f,sm f)))),(((vD f,uT f),(tn f,(qN f,tp f))),((xk f,uD f),(sS f,(wU f,sT f)))))
def BA (x:Us) (f:Fs):BN:=((((uB f,pf f),(ru f,(pg f,ph f))),((pj f,uE f),(rA f,(uU f,pD f)))),(((uV f,uW f),(tq f,(uP f,tz f))),((uQ f,BE f),(BF f,(oh f,pV f)))))
def BC (x:Us) (f:Fs):BO:=((((pk f,pn f),(qB f,(pT f,BG f))),((xl f,jJ f),(kB f,(AF f,BH f)))),(((tA f,tC f),(xm f,(xn f,xo f))),((qQ f,tD f),(uX f,(wW f,sU f)))))
def BD (x:Us) (f:Fs):BP:=((((pU f,kC f),(qC f,(qD f,qF f))),((sV f,qG f),(sW f,(me f,wX f)))),(((xp f,tG f),(xq f,(tH f,xr f))),((tI f,tJ f),(qS f,(tM f,xu f)))))
def IZ (x:Us) (f:Fs):BR:=((((vF f,vH f),(vJ f,wY f)),((xv f,tN f),(uR f,tO f))),(((xw f,xx f),(tP f,tR f)),((xy f,B5 f),(uY,(P9,p7 x)))))
def Qf (x:Us) (f:Fs):Fs:=(((Bx x f,By x f),(Bz x f,IX x f)),((IY x f,BA x f),(BC x f,(BD x f,IZ x f))))
def Gf:Nat->Fs
 |0=>PF.bot
 |n+1=>Qf (Gu n) (Gf n)
def Pf:Fs:=PF.lm Gf
theorem Xf0 {f:Nat->Fs} {p} (h:PF.R f p):PF.R (λn=>Bx (Gu n) (f n)) (Bx Pu p):=by unfold Bx uq uv uw rj;exact zP h
theorem Xf1 {f:Nat->Fs} {p} (h:PF.R f p):PF.R (λn=>By (Gu n) (f n)) (By Pu p):=by unfold By rm sN sx;exact zP h
theorem Xf2 {f:Nat->Fs} {p} (h:PF.R f p):PF.R (λn=>Bz (Gu n) (f n)) (Bz Pu p):=by unfold Bz sy uz;exact zP h
theorem Xf3 {f:Nat->Fs} {p} (h:PF.R f p):PF.R (λn=>IX (Gu n) (f n)) (IX Pu p):=zP h
theorem Xf4 {f:Nat->Fs} {p} (h:PF.R f p):PF.R (λn=>IY (Gu n) (f n)) (IY Pu p):=zP h
theorem Xf5 {f:Nat->Fs} {p} (h:PF.R f p):PF.R (λn=>BA (Gu n) (f n)) (BA Pu p):=by unfold BA uB ru uP uQ;exact zP h
theorem Xf6 {f:Nat->Fs} {p} (h:PF.R f p):PF.R (λn=>BC (Gu n) (f n)) (BC Pu p):=by unfold BC pT;exact zP h
theorem Xf7 {f:Nat->Fs} {p} (h:PF.R f p):PF.R (λn=>BD (Gu n) (f n)) (BD Pu p):=by unfold BD pU;exact zP h
theorem Xf8 {f:Nat->Fs} {p} (h:PF.R f p):PF.R (λn=>IZ (Gu n) (f n)) (IZ Pu p):=(PF.pair (PF.pair (PF.pair (PF.pair (zM h) (zM h)) (PF.pair (zM h) (zM h))) (PF.pair (PF.pair (zM h) (zM h)) (PF.pair (by(repeat refine PF.fn λ_=>?_);unfold uR;exact zM h) (zM h)))) (PF.pair (PF.pair (PF.pair (zM h) (zM h)) (PF.pair (zM h) (zM h))) (PF.pair (PF.pair (zM h) (zM h)) (PF.pair zC (PF.pair zC (PF.K.k _ Xu.1))))))
set_option maxHeartbeats 0 in
theorem Xf:PF.Fix Gf (Qf Pu):=PF.fix (Φ:=λn=>Qf (Gu n)) (λf p h=>(PF.pair (PF.pair (PF.pair (Xf0 h) (Xf1 h)) (PF.pair (Xf2 h) (Xf3 h))) (PF.pair (PF.pair (Xf4 h) (Xf5 h)) (PF.pair (Xf6 h) (PF.pair (Xf7 h) (Xf8 h)))))) rfl λ_=>rfl
theorem l5:PF.R (λn=>f5 (Gf n)) (f5 Pf):=PF.K.k _ Xf.1
theorem Df {β:Type} [PF β] (π:PF.K Fs β):π Pf=π (Qf Pu Pf):=congrArg π.f Xf.2
theorem e98 (a):f98 Pf a=xa Pf a:=cK (Df _) _
theorem NQ (a b):vT Pf a b=th Pf a b:=cw (Df _) _ _
theorem e53 (a):f53 Pf a=xb Pf a:=cK (Df _) _
theorem abX (a b):f213 Pf a b=wJ Pf a b:=cw (Df _) _ _
theorem Rq (a):f166 Pf a=uo Pf a:=cK (Df _) _
theorem abY (a):f168 Pf a=wK Pf a:=cK (Df _) _
theorem Ml (a b c):zQ Pf a b c=sL Pf a b c:=dh (Df _) _ _ _
theorem abZ (a b):f185 Pf a b=uq Pf a b:=cw (Df _) _ _
theorem ab0 (a b):f131 Pf a b=wL Pf a b:=cw (Df _) _ _
theorem DD (a b):vC Pf a b=qy Pf a b:=cw (Df _) _ _
theorem ab1 (a):f214 Pf a=uv Pf a:=cK (Df _) _
theorem e81 (a b):f81 Pf a b=xc Pf a b:=cw (Df _) _ _
theorem Mm (a b c):qz Pf a b c=sM Pf a b c:=dh (Df _) _ _ _
theorem ab2 (a b):f215 Pf a b=uw Pf a b:=cw (Df _) _ _
theorem Mn (a b):zT Pf a b=zU Pf a b:=cw (Df _) _ _
theorem Mo (a b):zV Pf a b=zW Pf a b:=cw (Df _) _ _
theorem Aa (a b c):lO Pf a b c=pc Pf a b c:=dh (Df _) _ _ _
theorem Rr (a):f169 Pf a=rj Pf a:=cK (Df _) _
theorem Rs (a):f170 Pf a=ux Pf a:=cK (Df _) _
theorem GJ (a):f216 Pf a=rk Pf a:=cK (Df _) _
theorem Rt (a):f171 Pf a=uy Pf a:=cK (Df _) _
theorem Ab (a b):mK Pf a b=pd Pf a b:=cw (Df _) _ _
theorem Ru (a):f167 Pf a=rm Pf a:=cK (Df _) _
theorem Aw (a b c d):mT Pf a b c d=py Pf a b c d:=mn (Df _) _ _ _ _
theorem TJ (a b c):f99 Pf a b c=uL Pf a b c:=dh (Df _) _ _ _
theorem TL (a):f54 Pf a=uM Pf a:=cK (Df _) _
theorem e56 (a b):f56 Pf a b=xd Pf a b:=cw (Df _) _ _
theorem Kl (a b c):yy Pf a b c=sj Pf a b c:=dh (Df _) _ _ _
theorem XW (a b):z7 Pf a b=sN Pf a b:=cw (Df _) _ _
theorem ab3 (a b):f106 Pf a b=wM Pf a b:=cw (Df _) _ _
theorem JR (a b c):xT Pf a b c=r8 Pf a b c:=dh (Df _) _ _ _
theorem V8 (a b):yO Pf a b=sx Pf a b:=cw (Df _) _ _
theorem V9 (a b):yR Pf a b=vi Pf a b:=cw (Df _) _ _
theorem Ax (a b):mU Pf a b=pz Pf a b:=cw (Df _) _ _
theorem TM (a):f61 Pf a=uN Pf a:=cK (Df _) _
theorem rv (a b):f107 Pf a b=ma Pf a b:=cw (Df _) _ _
theorem mb (a):f108 Pf a=jb Pf a:=cK (Df _) _
theorem wS (a):f109 Pf a=od Pf a:=cK (Df _) _
theorem Ay (a b c d e):kr Pf a b c d e=pB Pf a b c d e:=kM (Df _) _ _ _ _ _
theorem Az (a b c d e):iU Pf a b c d e=pC Pf a b c d e:=kM (Df _) _ _ _ _ _
theorem AA (a b c d e):gX Pf a b c d e=pA Pf a b c d e:=kM (Df _) _ _ _ _ _
theorem I0 (a b):f62 Pf a b=rR Pf a b:=cw (Df _) _ _
theorem ab4 (a):f112 Pf a=A8 Pf a:=cK (Df _) _
theorem ab5 (a):f113 Pf a=A9 Pf a:=cK (Df _) _
theorem e63 (a b):f63 Pf a b=xe Pf a b:=cw (Df _) _ _
theorem ab6 (a b):f157 Pf a b=wN Pf a b:=cw (Df _) _ _
theorem JS (a b c):xU Pf a b c=r9 Pf a b c:=dh (Df _) _ _ _
theorem V' (a b):vj Pf a b=sy Pf a b:=cw (Df _) _ _
theorem lq (a b):f80 Pf a b=iL Pf a b:=cw (Df _) _ _
theorem e92 (a):f92 Pf a=xf Pf a:=cK (Df _) _
theorem eu (a):f197 Pf a=dL Pf a:=cK (Df _) _
theorem Mp (a b c):zX Pf a b c=sO Pf a b c:=dh (Df _) _ _ _
theorem ab7 (a b):f236 Pf a b=uz Pf a b:=cw (Df _) _ _
theorem ab8 (a b):f199 Pf a b=wO Pf a b:=cw (Df _) _ _
theorem GK (a b c):f198 Pf a b c=rn Pf a b c:=dh (Df _) _ _ _
theorem ab9 (a):f100 Pf a=wP Pf a:=cK (Df _) _
theorem ZV (a):Fa Pf a=wo Pf a:=cK (Df _) _
theorem ZW (a):Fb Pf a=wu Pf a:=cK (Df _) _
theorem NR (a b c d e g):vV Pf a b c d e g=tm Pf a b c d e g:=p4 (Df _) _ _ _ _ _ _
theorem NS (a b c d e):vU Pf a b c d e=tj Pf a b c d e:=kM (Df _) _ _ _ _ _
theorem e66 (a):f66 Pf a=xg Pf a:=cK (Df _) _
theorem GL (a):f238 Pf a=rp Pf a:=cK (Df _) _
theorem XX (a b c):zY Pf a b c=zZ Pf a b c:=dh (Df _) _ _ _
theorem ab' (a b):f205 Pf a b=Bb Pf a b:=cw (Df _) _ _
theorem aca (a b):f207 Pf a b=wQ Pf a b:=cw (Df _) _ _
theorem J2 (a b c):sb Pf a b c=sd Pf a b c:=dh (Df _) _ _ _
theorem W4 (a b):zr Pf a b=vo Pf a b:=cw (Df _) _ _
theorem acb (a b):f161 Pf a b=wR Pf a b:=cw (Df _) _ _
theorem J3 (a b c):se Pf a b c=sf Pf a b c:=dh (Df _) _ _ _
theorem W5 (a b):zt Pf a b=vp Pf a b:=cw (Df _) _ _
theorem e93 (a b):f93 Pf a b=xh Pf a b:=cw (Df _) _ _
theorem I3 (a b c):f48 Pf a b c=rS Pf a b c:=dh (Df _) _ _ _
theorem eA (a b c):f91 Pf a b c=dN Pf a b c:=dh (Df _) _ _ _
theorem GM (a b c d e g):f158 Pf a b c d e g=rq Pf a b c d e g:=p4 (Df _) _ _ _ _ _ _
theorem pe (a b c d e):gz Pf a b c d e=kT Pf a b c d e:=kM (Df _) _ _ _ _ _
theorem sP (a b c d e):jy Pf a b c d e=mL Pf a b c d e:=kM (Df _) _ _ _ _ _
theorem ew (a b c):f159 Pf a b c=dM Pf a b c:=dh (Df _) _ _ _
theorem sQ (a b c d e):jz Pf a b c d e=mM Pf a b c d e:=kM (Df _) _ _ _ _ _
theorem sR (a b c d e g):lQ Pf a b c d e g=mN Pf a b c d e g:=p4 (Df _) _ _ _ _ _ _
theorem GN (a b c):f201 Pf a b c=ry Pf a b c:=dh (Df _) _ _ _
theorem mc (a b):f202 Pf a b=jc Pf a b:=cw (Df _) _ _
theorem uC (a b c d e g):f237 Pf a b c d e g=nr Pf a b c d e g:=p4 (Df _) _ _ _ _ _ _
theorem wT (a b c d):f204 Pf a b c d=og Pf a b c d:=mn (Df _) _ _ _ _
theorem kA (a b c):f160 Pf a b c=ie Pf a b c:=dh (Df _) _ _ _
theorem GO (a b c d e):f203 Pf a b c d e=rz Pf a b c d e:=kM (Df _) _ _ _ _ _
theorem TN (a b c d):f18 Pf a b c d=uS Pf a b c d:=mn (Df _) _ _ _ _
theorem e64 (a b):f64 Pf a b=xj Pf a b:=cw (Df _) _ _
theorem Km (a b c):sk Pf a b c=sm Pf a b c:=dh (Df _) _ _ _
theorem XY (a b):z8 Pf a b=vD Pf a b:=cw (Df _) _ _
theorem TO (a b):f25 Pf a b=uT Pf a b:=cw (Df _) _ _
theorem NT (a b c d e g h i j k l):mV Pf a b c d e g h i j k l=tn Pf a b c d e g h i j k l:=acd (Df _) _ _ _ _ _ _ _ _ _ _ _
theorem Er (a b c d e g h):vW Pf a b c d e g h=qN Pf a b c d e g h:=TQ (Df _) _ _ _ _ _ _ _
theorem NU (a b c d):nR Pf a b c d=tp Pf a b c d:=mn (Df _) _ _ _ _
theorem I4 (a):f22 Pf a=xk Pf a:=cK (Df _) _
theorem Rv (a):f153 Pf a=uD Pf a:=cK (Df _) _
theorem Mq (a b):lR Pf a b=sS Pf a b:=cw (Df _) _ _
theorem ace (a):f194 Pf a=wU Pf a:=cK (Df _) _
theorem Mr (a b c):qA Pf a b c=sT Pf a b c:=dh (Df _) _ _ _
theorem acf (a b):f195 Pf a b=uB Pf a b:=cw (Df _) _ _
theorem Ac (a b):lS Pf a b=pf Pf a b:=cw (Df _) _ _
theorem Rw (a):f196 Pf a=ru Pf a:=cK (Df _) _
theorem Ad (a b):mO Pf a b=pg Pf a b:=cw (Df _) _ _
theorem Ae (a b c d e g h i j):mP Pf a b c d e g h i j=ph Pf a b c d e g h i j:=I5 (Df _) _ _ _ _ _ _ _ _ _
theorem Af (a b c d):mQ Pf a b c d=pj Pf a b c d:=mn (Df _) _ _ _ _
theorem Rx (a):f154 Pf a=uE Pf a:=cK (Df _) _
theorem GP (a):f155 Pf a=rA Pf a:=cK (Df _) _
theorem TR (a b c):f90 Pf a b c=uU Pf a b c:=dh (Df _) _ _ _
theorem AB (a b c d):mW Pf a b c d=pD Pf a b c d:=mn (Df _) _ _ _ _
theorem TU (a b c):f46 Pf a b c=uV Pf a b c:=dh (Df _) _ _ _
theorem TV (a):f15 Pf a=uW Pf a:=cK (Df _) _
theorem NW (a b c):vX Pf a b c=tq Pf a b c:=dh (Df _) _ _ _
theorem e59 (a b):f59 Pf a b=uP Pf a b:=cw (Df _) _ _
theorem NX (a b c):vY Pf a b c=tz Pf a b c:=dh (Df _) _ _ _
theorem e42 (a b):f42 Pf a b=uQ Pf a b:=cw (Df _) _ _
theorem e88 (a):f88 Pf a=BE Pf a:=cK (Df _) _
theorem e87 (a):f87 Pf a=BF Pf a:=cK (Df _) _
theorem wV (a):f173 Pf a=oh Pf a:=cK (Df _) _
theorem Bd (a):f174 Pf a=pV Pf a:=cK (Df _) _
theorem Ag (a b c d e):lT Pf a b c d e=pk Pf a b c d e:=kM (Df _) _ _ _ _ _
theorem Ah (a b c d e):jA Pf a b c d e=pn Pf a b c d e:=kM (Df _) _ _ _ _ _
theorem DF (a b c d e):iC Pf a b c d e=qB Pf a b c d e:=kM (Df _) _ _ _ _ _
theorem GQ (a b):f104 Pf a b=pT Pf a b:=cw (Df _) _ _
theorem e41 (a b):f41 Pf a b=BG Pf a b:=cw (Df _) _ _
theorem e95 (a):f95 Pf a=xl Pf a:=cK (Df _) _
theorem nw (a):f209 Pf a=jJ Pf a:=cK (Df _) _
theorem oo (a b):f210 Pf a b=kB Pf a b:=cw (Df _) _ _
theorem YN (a b c):AD Pf a b c=AF Pf a b c:=dh (Df _) _ _ _
theorem e69 (a b):f69 Pf a b=BH Pf a b:=cw (Df _) _ _
theorem NY (a b c):qO Pf a b c=tA Pf a b c:=dh (Df _) _ _ _
theorem NZ (a b c d):tB Pf a b c d=tC Pf a b c d:=mn (Df _) _ _ _ _
theorem e29 (a b):f29 Pf a b=xm Pf a b:=cw (Df _) _ _
theorem e50 (a b):f50 Pf a b=xn Pf a b:=cw (Df _) _ _
theorem e49 (a b c):f49 Pf a b c=xo Pf a b c:=dh (Df _) _ _ _
theorem Es (a b c):qP Pf a b c=qQ Pf a b c:=dh (Df _) _ _ _
theorem N0 (a b c d):nS Pf a b c d=tD Pf a b c d:=mn (Df _) _ _ _ _
theorem TW (a b c):f94 Pf a b c=uX Pf a b c:=dh (Df _) _ _ _
theorem acg (a b c d e):f162 Pf a b c d e=wW Pf a b c d e:=kM (Df _) _ _ _ _ _
theorem Ms (a b c d e g):kn Pf a b c d e g=sU Pf a b c d e g:=p4 (Df _) _ _ _ _ _ _
theorem GR (a b c):f163 Pf a b c=pU Pf a b c:=dh (Df _) _ _ _
theorem ou (a b c):f164 Pf a b c=kC Pf a b c:=dh (Df _) _ _ _
theorem DG (a b c d e g):kU Pf a b c d e g=qC Pf a b c d e g:=p4 (Df _) _ _ _ _ _ _
theorem DH (a b c d e g):kV Pf a b c d e g=qD Pf a b c d e g:=p4 (Df _) _ _ _ _ _ _
theorem DI (a b c d e g):qE Pf a b c d e g=qF Pf a b c d e g:=p4 (Df _) _ _ _ _ _ _
theorem Mt (a b c d e g h i j k):po Pf a b c d e g h i j k=sV Pf a b c d e g h i j k:=ach (Df _) _ _ _ _ _ _ _ _ _ _
theorem DJ (a b c d e g h i j):mR Pf a b c d e g h i j=qG Pf a b c d e g h i j:=I5 (Df _) _ _ _ _ _ _ _ _ _
theorem Mu (a b c d e):qH Pf a b c d e=sW Pf a b c d e:=kM (Df _) _ _ _ _ _
theorem rB (a b c):f211 Pf a b c=me Pf a b c:=dh (Df _) _ _ _
theorem aci (a b):f212 Pf a b=wX Pf a b:=cw (Df _) _ _
theorem e19 (a b c d):f19 Pf a b c d=xp Pf a b c d:=mn (Df _) _ _ _ _
theorem N2 (a b c):tE Pf a b c=tG Pf a b c:=dh (Df _) _ _ _
theorem e20 (a b):f20 Pf a b=xq Pf a b:=cw (Df _) _ _
theorem N3 (a b c d):qR Pf a b c d=tH Pf a b c d:=mn (Df _) _ _ _ _
theorem e60 (a b):f60 Pf a b=xr Pf a b:=cw (Df _) _ _
theorem N4 (a b c d e g h i j k l m):pE Pf a b c d e g h i j k l m=tI Pf a b c d e g h i j k l m:=acj (Df _) _ _ _ _ _ _ _ _ _ _ _ _
theorem N5 (a b c d e g h i j):mX Pf a b c d e g h i j=tJ Pf a b c d e g h i j:=I5 (Df _) _ _ _ _ _ _ _ _ _
theorem Et (a b c d e g h):tK Pf a b c d e g h=qS Pf a b c d e g h:=TQ (Df _) _ _ _ _ _ _ _
theorem N6 (a b c d):nT Pf a b c d=tM Pf a b c d:=mn (Df _) _ _ _ _
theorem e23 (a):f23 Pf a=xu Pf a:=cK (Df _) _
theorem XZ (a b c):vE Pf a b c=vF Pf a b c:=dh (Df _) _ _ _
theorem X0 (a b c):vG Pf a b c=vH Pf a b c:=dh (Df _) _ _ _
theorem X1 (a b c):vI Pf a b c=vJ Pf a b c:=dh (Df _) _ _ _
theorem ack (a b):f165 Pf a b=wY Pf a b:=cw (Df _) _ _
theorem e96 (a):f96 Pf a=xv Pf a:=cK (Df _) _
theorem N7 (a b):qT Pf a b=tN Pf a b:=cw (Df _) _ _
theorem e51 (a):f51 Pf a=uR Pf a:=cK (Df _) _
theorem N8 (a b c):qU Pf a b c=tO Pf a b c:=dh (Df _) _ _ _
theorem e97 (a b):f97 Pf a b=xw Pf a b:=cw (Df _) _ _
theorem e52 (a b):f52 Pf a b=xx Pf a b:=cw (Df _) _ _
theorem N9 (a b):pF Pf a b=tP Pf a b:=cw (Df _) _ _
theorem Oa (a b c):qV Pf a b c=tR Pf a b c:=dh (Df _) _ _ _
theorem e21 (a):f21 Pf a=xy Pf a:=cK (Df _) _
theorem e5 (a):f5 Pf a=B5 Pf a:=cK (Df _) _
theorem lr:f57 Pf=uY:=Df _
theorem x9:f9 Pf=P9:=Df _
theorem p6:f58 Pf=p7 Pu:=Df _
def SH (p:H7):Prop:=∀a0 r,p a0=some r->Pure env.toCx 98 [(.v (.int .u8 a0))] (.ret (.v (.bool r)))
def SI (p:H8):Prop:=∀a0 r,p a0=some r->Pure env.toCx 53 [(.v (.string ⟨⟨a0⟩⟩))] (.ret (.v (.bool r)))
def Qm (p:FA):Prop:=∀a0 a1 r,p a0 a1=some r->Pure env.toCx 213 [(.v (.bool a0)),(.v (.int .i64 a1))] (.ret (.v (.int .i64 r)))
def Qo (p:FC):Prop:=∀a0 r,p a0=some r->Pure env.toCx 166 [(.agg (ah.cs a0))] (.ret (.v (.int .i64 r)))
def Qq (p:FD):Prop:=∀a0 r,p a0=some r->Pure env.toCx 168 [(.agg (ah.cs a0))] (.ret (.v (.int .i64 r)))
def Qr (p:FE):Prop:=∀a0 a1 r,p a0 a1=some r->Pure env.toCx 185 [(.sl 1 (aN a0)),(.v (.string ⟨⟨a1⟩⟩))] (.ret (.v (.int .i64 r)))
def Qs (p:FG):Prop:=∀a0 a1 r,p a0 a1=some r->Pure env.toCx 131 [(.sl 1 (aN a0)),(.v (.string ⟨⟨a1⟩⟩))] (.ret (.v (.bool r)))
def Qt (p:FH):Prop:=∀a0 r,p a0=some r->Pure env.toCx 214 [(.sl 1 (aN a0))] (.ret (.v (.bool r)))
def SJ (p:H9):Prop:=∀a0 a1 r,p a0 a1=some r->Pure env.toCx 81 [(.sl 1 (aN a0)),(.v (.string ⟨⟨a1⟩⟩))] (.ret (.v (.bool r)))
def Qw (p:FI):Prop:=∀a0 a1 r,p a0 a1=some r->Pure env.toCx 215 [(.sl 1 (aN a0)),(.sl 1 (aN a1))] (.ret (.v (.bool r)))
def Qx (p:FJ):Prop:=∀a0 r,p a0=some r->Pure env.toCx 169 [(.agg (ah.cs a0))] (.ret (.v (.int .i64 r)))
def Qz (p:FK):Prop:=∀a0 r,p a0=some r->Pure env.toCx 170 [(.agg (ah.cs a0))] (.ret (.v (.int .i64 r)))
def QA (p:FL):Prop:=∀a0 r,p a0=some r->Pure env.toCx 216 [(.agg (ah.cs a0))] (.ret (.v (.bool r)))
def QB (p:FM):Prop:=∀a0 r,p a0=some r->Pure env.toCx 171 [(.agg (ah.cs a0))] (.ret (.v (.int .i64 r)))
def QC (p:FN):Prop:=∀a0 r,p a0=some r->Pure env.toCx 167 [(.sl 1 (eW .i64 a0))] (.ret (.v (.int .i64 r)))
def SK (p:H'):Prop:=∀a0 a1 a2 r,p a0 a1 a2=some r->dk env 99 [(.own 0 0),(.d (.agg (ah.cs a1))),(.d (.v (.int .i64 a2)))] (.box (dp.cs a0)) (.v (.int .i64 r.1)) (.box (dp.cs r.2))
def SM (p:Ia):Prop:=∀a0 r,p a0=some r->Pure env.toCx 54 [(.agg (ah.cs a0))] (.ret (.v (.int .i64 r)))
def SN (p:Ib):Prop:=∀a0 a1 r,p a0 a1=some r->Pure env.toCx 56 [(.agg (bt.cs a0)),(.ip (bl.cs a1))] (.ret (.v (.bool r)))
def Mj (p:DA):Prop:=∀a0 a1 r,p a0 a1=some r->Pure env.toCx 55 [(.sl 7 (bt.rows a0)),(.fn 56 [] [(.ip (bl.cs a1))])] (.ret (.v (.int .i64 r)))
def QD (p:FO):Prop:=∀a0 a1 r,p a0 a1=some r->Pure env.toCx 106 [(.agg (TParam.cs a0)),(.ip (TParam.cs a1))] (.ret (.v (.bool r)))
def KR (p:CO):Prop:=∀a0 a1 r,p a0 a1=some r->Pure env.toCx 156 [(.sl 2 (TParam.rows a0)),(.fn 106 [] [(.ip (TParam.cs a1))])] (.ret (.v (.int .i64 r)))
def KS (p:CP):Prop:=∀a0 a1 r,p a0 a1=some r->Pure env.toCx 105 [(.sl 2 (TParam.rows a0)),(.fn 106 [] [(.ip (TParam.cs a1))])] (.ret (.v (.bool r)))
def SO (p:Ic):Prop:=∀a0 r,p a0=some r->Pure env.toCx 61 [(.agg (bl.cs a0))] (.ret (.v (.bool r)))
def QE (p:FP):Prop:=∀a0 a1 r,p a0 a1=some r->Pure env.toCx 107 [(.sl 2 (TParam.rows a0)),(.agg (ae.cs a1))] (.ret (.bN [(.agg (ab.cs r.1)),(.v (.bool r.2))]))
def QF (p:FQ):Prop:=∀a0 r,p a0=some r->Pure env.toCx 108 [(.v (.int .i64 a0))] (.ret (.bN [(.v (.int .i64 r.1)),(.v (.int .i64 r.2))]))
def QG (p:FR):Prop:=∀a0 r,p a0=some r->Pure env.toCx 109 [(.v (.int .i64 a0))] (.ret (.v (.string ⟨⟨r⟩⟩)))
def SP (p:Ie):Prop:=∀a0 a1 r,p a0 a1=some r->Pure env.toCx 62 [(.sl 2 (TParam.rows a0)),(.agg (ae.cs a1))] (.ret (.bN [(.agg (ab.cs r.1)),(.v (.bool r.2))]))
def QH (p:FT):Prop:=∀a0 r,p a0=some r->Pure env.toCx 112 [(.agg (ah.cs a0))] (.ret (.agg (az.cs r)))
def QI (p:FU):Prop:=∀a0 r,p a0=some r->Pure env.toCx 113 [(.v (.int .i64 a0))] (.ret (.agg (az.cs r)))
def SR (p:Ig):Prop:=∀a0 a1 r,p a0 a1=some r->Pure env.toCx 63 [(.agg (ah.cs a0)),(.agg (bl.cs a1))] (.ret (.agg (az.cs r)))
def QJ (p:FV):Prop:=∀a0 a1 r,p a0 a1=some r->Pure env.toCx 157 [(.agg (TParam.cs a0)),(.ip (ab.cs a1))] (.ret (.v (.bool r)))
def KT (p:CR):Prop:=∀a0 a1 r,p a0 a1=some r->Pure env.toCx 156 [(.sl 2 (TParam.rows a0)),(.fn 157 [] [(.ip (ab.cs a1))])] (.ret (.v (.int .i64 r)))
def SU (p:Ih):Prop:=∀a0 a1 r,p a0 a1=some r->Pure env.toCx 80 [(.v (.int .i64 a0)),(.v (.int .i64 a1))] (aX.ar (λx=>(.bN [])) r)
def SV (p:Ii):Prop:=∀a0 r,p a0=some r->Pure env.toCx 92 [(.agg (az.cs a0))] (.ret (.v (.bool r)))
def QK (p:FW):Prop:=∀a0 r,p a0=some r->Pure env.toCx 197 [(.v (.string ⟨⟨a0⟩⟩))] (.ret (.v (.int .i64 r)))
def QL (p:FX):Prop:=∀a0 a1 r,p a0 a1=some r->Pure env.toCx 236 [(.sl 1 (eW .i64 a0)),(.v (.int .i64 a1))] (.ret (.v (.int .i64 r)))
def QM (p:FY):Prop:=∀a0 a1 r,p a0 a1=some r->Pure env.toCx 199 [(.sl 1 (eW .i64 a0)),(.v (.int .i64 a1))] (.ret (.v (.bool r)))
def QN (p:FZ):Prop:=∀a0 a1 a2 r,p a0 a1 a2=some r->Pure env.toCx 198 [(.sl 1 (eW .i64 a0)),(.ip (az.cs a1)),(.ip (ab.cs a2))] (aX.ar (λx=>(.bN [])) r)
def QO (p:F1):Prop:=∀a0 r,p a0=some r->Pure env.toCx 100 [(.sl 1 (aN a0))] (.ret (.sl 1 (aN r)))
def PJ (p:E9):Prop:=∀a0 r,p a0=some r->jE env 115 [(.sl 2 (aU.rows a0))] 119 2 (aU.rows r)
def PK (p:E'):Prop:=∀a0 r,p a0=some r->jE env 116 [(.sl 6 (ah.rows a0))] 43 6 (ah.rows r)
def SX (p:Ij):Prop:=∀a0 r,p a0=some r->Pure env.toCx 66 [(.agg (ah.cs a0))] (.ret (.agg (ah.cs r)))
def QQ (p:F2):Prop:=∀a0 r,p a0=some r->Pure env.toCx 238 [(.agg (ab.cs a0))] (.ret (.v (.bool r)))
def QR (p:F5):Prop:=∀a0 a1 r,p a0 a1=some r->Pure env.toCx 205 [(.sl 1 (aN a0)),(.sl 1 (aN a1))] (.ret (.v (.bool r)))
def QS (p:F6):Prop:=∀a0 a1 r,p a0 a1=some r->Pure env.toCx 207 [(.agg (aU.cs a0)),(.agg (aU.cs a1))] (.ret (.v (.bool r)))
def LF (p:Db):Prop:=∀a0 a1 r,p a0 a1=some r->Pure env.toCx 206 [(.sl 2 (aU.rows a0)),(.sl 2 (aU.rows a1)),(.v (.func (.func 207) #[] #[]))] (.ret (.v (.bool r)))
def QU (p:F7):Prop:=∀a0 a1 r,p a0 a1=some r->Pure env.toCx 161 [(.agg (ah.cs a0)),(.agg (ah.cs a1))] (.ret (.v (.bool r)))
def LG (p:Dc):Prop:=∀a0 a1 r,p a0 a1=some r->Pure env.toCx 208 [(.sl 6 (ah.rows a0)),(.sl 6 (ah.rows a1)),(.v (.func (.func 161) #[] #[]))] (.ret (.v (.bool r)))
def SY (p:Ik):Prop:=∀a0 a1 r,p a0 a1=some r->Pure env.toCx 93 [(.agg (az.cs a0)),(.agg (az.cs a1))] (.ret (.v (.bool r)))
def SZ (p:Il):Prop:=∀a0 a1 a2 r,p a0 a1 a2=some r->Pure env.toCx 48 [(.ip (bO.cs a0)),(.agg (ab.cs a1)),(.agg (az.cs a2))] (aX.ar (λx=>(.agg (ae.cs x))) r)
def S1 (p:Im):Prop:=∀a0 a1 a2 r,p a0 a1 a2=some r->Pure env.toCx 91 [(.ip (bO.cs a0)),(.agg (ab.cs a1)),(.agg (az.cs a2))] (aX.ar (λx=>(.agg (ae.cs x))) r)
def QW (p:F8):Prop:=∀a0 a1 a2 a3 a4 a5 r,p a0 a1 a2 a3 a4 a5=some r->Pure env.toCx 158 [(.ip (bO.cs a0)),(.v (.int .i64 a1)),(.agg (ab.cs a2)),(.agg (az.cs a3)),(.agg (az.cs a4)),(.agg (az.cs a5))] (aX.ar (λx=>(.agg (ae.cs x))) r)
def QX (p:F9):Prop:=∀a0 a1 a2 r,p a0 a1 a2=some r->Pure env.toCx 159 [(.ip (bO.cs a0)),(.agg (ab.cs a1)),(.agg (az.cs a2))] (aX.ar (λx=>(.agg (ae.cs x))) r)
def Q0 (p:F'):Prop:=∀a0 a1 a2 r,p a0 a1 a2=some r->Pure env.toCx 201 [(.ip (bO.cs a0)),(.agg (ab.cs a1)),(.agg (ah.cs a2))] (aX.ar (λx=>(.sl 12 (ae.rows x))) r)
def Q1 (p:Ga):Prop:=∀a0 a1 r,p a0 a1=some r->Pure env.toCx 202 [(.ip (bO.cs a0)),(.agg (ab.cs a1))] (aX.ar (λx=>(.agg (ae.cs x))) r)
def Q2 (p:Gb):Prop:=∀a0 a1 a2 a3 a4 a5 r,p a0 a1 a2 a3 a4 a5=some r->Pure env.toCx 237 [(.v (.int .i64 a0)),(.agg (az.cs a1)),(.sl 1 (eW .i64 a2)),(.ip ([.ip (bO.cs a3)])),(.ip (ab.cs a4)),(.ip (ab.cs a5))] (aX.ar (λx=>(.agg (ae.cs x))) r)
def Q3 (p:Gc):Prop:=∀a0 a1 a2 a3 r,p a0 a1 a2 a3=some r->Pure env.toCx 204 [(.ip (bO.cs a0)),(.agg (ab.cs a1)),(.agg (ab.cs a2)),(.sl 1 (eW .i64 a3))] (aX.ar (λx=>(.agg (ae.cs x))) r)
def Q4 (p:Gd):Prop:=∀a0 a1 a2 r,p a0 a1 a2=some r->Pure env.toCx 160 [(.ip (bO.cs a0)),(.agg (ab.cs a1)),(.agg (az.cs a2))] (aX.ar (λx=>(.agg (ae.cs x))) r)
def Q5 (p:Ge):Prop:=∀a0 a1 a2 a3 a4 r,p a0 a1 a2 a3 a4=some r->Pure env.toCx 203 [(.ip (bO.cs a0)),(.agg (ab.cs a1)),(.agg (ab.cs a2)),(.agg (ab.cs a3)),(.v (.bool a4))] (aX.ar (λx=>(.bN [(.agg (ae.cs x.1)),(.agg (ae.cs x.2))])) r)
def S3 (p:Io):Prop:=∀a0 a1 a2 a3 r,p a0 a1 a2 a3=some r->Pure env.toCx 18 [(.agg (ah.cs a0)),(.sl 2 (TParam.rows a1)),(.agg (az.cs a2)),(.agg (ab.cs a3))] (.ret (.bN [(.agg (ae.cs r.1)),(.agg (aM.cs r.2))]))
def S4 (p:Ip):Prop:=∀a0 a1 r,p a0 a1=some r->Pure env.toCx 64 [(.agg (ae.cs a0)),(.agg (ae.cs a1))] (.ret (.v (.bool r)))
def Mk (p:DB):Prop:=∀a0 a1 r,p a0 a1=some r->Pure env.toCx 114 [(.sl 12 (ae.rows a0)),(.sl 12 (ae.rows a1)),(.v (.func (.func 64) #[] #[]))] (.ret (.v (.bool r)))
def S5 (p:Iq):Prop:=∀a0 a1 r,p a0 a1=some r->Pure env.toCx 25 [(.agg (ah.cs a0)),(.agg (bl.cs a1))] (.ret (.v (.bool r)))
def S6 (p:Ir):Prop:=∀a0 r,p a0=some r->Pure env.toCx 22 [(.agg (cp.cs a0))] (.ret (.v (.bool r)))
def Q6 (p:Gg):Prop:=∀a0 r,p a0=some r->Pure env.toCx 153 [(.agg (ah.cs a0))] (.ret (.v (.bool r)))
def Q7 (p:Gh):Prop:=∀a0 r,p a0=some r->Pure env.toCx 194 [(.v (.string ⟨⟨a0⟩⟩))] (.ret (.v (.bool r)))
def Q8 (p:Gi):Prop:=∀a0 a1 r,p a0 a1=some r->Pure env.toCx 195 [(.sl 1 (aN a0)),(.v (.string ⟨⟨a1⟩⟩))] (.ret (.v (.bool r)))
def Q9 (p:Gj):Prop:=∀a0 r,p a0=some r->Pure env.toCx 196 [(.sl 1 (aN a0))] (.ret (.v (.bool r)))
def Ra (p:Gk):Prop:=∀a0 r,p a0=some r->Pure env.toCx 154 [(.agg (ah.cs a0))] (.ret (.v (.bool r)))
def Rb (p:Gm):Prop:=∀a0 r,p a0=some r->Pure env.toCx 155 [(.agg (ah.cs a0))] (.ret (.v (.bool r)))
def S7 (p:Is):Prop:=∀a0 a1 a2 r,p a0 a1 a2=some r->Pure env.toCx 90 [(.agg (ah.cs a0)),(.v (.int .i64 a1)),(.v (.int .i64 a2))] (.ret (.v (.int .i64 r)))
def S8 (p:Iu):Prop:=∀a0 a1 a2 r,p a0 a1 a2=some r->Pure env.toCx 46 [(.agg (ah.cs a0)),(.v (.int .i64 a1)),(.v (.int .i64 a2))] (.ret (.bN [(.v (.int .i64 r.1)),(.v (.int .i64 r.2))]))
def S9 (p:Iv):Prop:=∀a0 r,p a0=some r->Pure env.toCx 15 [(.agg (ah.cs a0))] (.ret (.v (.int .i64 r)))
def S' (p:Iw):Prop:=∀a0 a1 r,p a0 a1=some r->Pure env.toCx 59 [(.sl 7 (bt.rows a0)),(.v (.string ⟨⟨a1⟩⟩))] (.ret (.bN [(.agg (ah.cs r.1)),(.v (.bool r.2))]))
def Ta (p:Ix):Prop:=∀a0 a1 r,p a0 a1=some r->Pure env.toCx 42 [(.sl 1 (aN a0)),(.v (.string ⟨⟨a1⟩⟩))] (.ret (.v (.bool r)))
def Tb (p:Iy):Prop:=∀a0 r,p a0=some r->Pure env.toCx 88 [(.v (.int .i64 a0))] (.ret (.agg (az.cs r)))
def Tc (p:Iz):Prop:=∀a0 r,p a0=some r->Pure env.toCx 87 [(.agg (ah.cs a0))] (.ret (.agg (az.cs r)))
def Rc (p:Gn):Prop:=∀a0 r,p a0=some r->Pure env.toCx 173 [(.v (.int .i64 a0))] (.ret (.v (.int .i64 r)))
def Re (p:Gp):Prop:=∀a0 r,p a0=some r->Pure env.toCx 174 [(.v (.int .i64 a0))] (.ret (.v (.string ⟨⟨r⟩⟩)))
def Rf (p:Gq):Prop:=∀a0 a1 r,p a0 a1=some r->Pure env.toCx 104 [(.sl 2 (TParam.rows a0)),(.agg (ae.cs a1))] (.ret (.bN [(.agg (ab.cs r.1)),(.v (.bool r.2))]))
def Td (p:IA):Prop:=∀a0 a1 r,p a0 a1=some r->Pure env.toCx 41 [(.v (.int .i64 a0)),(.v (.int .i64 a1))] (.ret (.agg (aM.cs r)))
def Te (p:IB):Prop:=∀a0 r,p a0=some r->Pure env.toCx 95 [(.agg (az.cs a0))] (.ret (.v (.bool r)))
def Rg (p:Gr):Prop:=∀a0 r,p a0=some r->Pure env.toCx 209 [(.agg (ab.cs a0))] (.ret (.v (.bool r)))
def Rh (p:Gs):Prop:=∀a0 a1 r,p a0 a1=some r->Pure env.toCx 210 [(.v (.string ⟨⟨a0⟩⟩)),(.v (.int .i64 a1))] (.ret (.v (.bool r)))
def Tf (p:IC):Prop:=∀a0 a1 r,p a0 a1=some r->Pure env.toCx 69 [(.sl 1 (aN a0)),(.sl 1 (aN a1))] (.ret (.v (.bool r)))
def Tg (p:ID):Prop:=∀a0 a1 r,p a0 a1=some r->Pure env.toCx 29 [(.agg (ah.cs a0)),(.agg (ah.cs a1))] (.ret (.v (.bool r)))
def Th (p:IE):Prop:=∀a0 a1 r,p a0 a1=some r->Pure env.toCx 50 [(.agg (az.cs a0)),(.agg (az.cs a1))] (.ret (.v (.bool r)))
def Ti (p:IF):Prop:=∀a0 a1 a2 r,p a0 a1 a2=some r->Pure env.toCx 49 [(.agg (cA.cs a0)),(.agg (ab.cs a1)),(.agg (az.cs a2))] (.ret (.bN [(.agg (ae.cs r.1)),(.agg (aM.cs r.2))]))
def Tj (p:IG):Prop:=∀a0 a1 a2 r,p a0 a1 a2=some r->Pure env.toCx 94 [(.agg (cA.cs a0)),(.agg (ab.cs a1)),(.agg (az.cs a2))] (.ret (.bN [(.agg (ae.cs r.1)),(.agg (aM.cs r.2))]))
def Ri (p:Gt):Prop:=∀a0 a1 a2 a3 a4 r,p a0 a1 a2 a3 a4=some r->Pure env.toCx 162 [(.agg (cA.cs a0)),(.agg (ab.cs a1)),(.agg (ab.cs a2)),(.v (.int .i64 a3)),(.v (.bool a4))] (.ret (.bN [(.sl 12 (ae.rows r.1)),(.agg (aM.cs r.2))]))
def Rj (p:Gv):Prop:=∀a0 a1 a2 r,p a0 a1 a2=some r->Pure env.toCx 163 [(.agg (cA.cs a0)),(.sl 5 (ab.rows a1)),(.sl 7 (az.rows a2))] (.ret (.bN [(.sl 12 (ae.rows r.1)),(.agg (aM.cs r.2))]))
def Rk (p:Gw):Prop:=∀a0 a1 a2 r,p a0 a1 a2=some r->Pure env.toCx 164 [(.agg (cA.cs a0)),(.agg (ab.cs a1)),(.agg (az.cs a2))] (.ret (.bN [(.agg (ae.cs r.1)),(.agg (aM.cs r.2))]))
def Rl (p:Gx):Prop:=∀a0 a1 a2 r,p a0 a1 a2=some r->Pure env.toCx 211 [(.agg (cA.cs a0)),(.agg (ab.cs a1)),(.agg (az.cs a2))] (.ret (.bN [(.agg (ae.cs r.1)),(.agg (aM.cs r.2))]))
def Rm (p:Gy):Prop:=∀a0 a1 r,p a0 a1=some r->Pure env.toCx 212 [(.agg (cA.cs a0)),(.agg (ab.cs a1))] (.ret (.bN [(.agg (ae.cs r.1)),(.agg (aM.cs r.2))]))
def Tk (p:II):Prop:=∀a0 a1 a2 a3 r,p a0 a1 a2 a3=some r->Pure env.toCx 19 [(.agg (ah.cs a0)),(.sl 2 (TParam.rows a1)),(.agg (az.cs a2)),(.agg (ab.cs a3))] (.ret (.bN [(.agg (ae.cs r.1)),(.agg (aM.cs r.2))]))
def Tl (p:IJ):Prop:=∀a0 a1 r,p a0 a1=some r->Pure env.toCx 20 [(.agg (ae.cs a0)),(.agg (ae.cs a1))] (.ret (.v (.bool r)))
def Tm (p:IK):Prop:=∀a0 a1 r,p a0 a1=some r->Pure env.toCx 60 [(.agg (ah.cs a0)),(.agg (bl.cs a1))] (.ret (.v (.bool r)))
def Tn (p:IL):Prop:=∀a0 r,p a0=some r->Pure env.toCx 23 [(.agg (cp.cs a0))] (.ret (.v (.bool r)))
def Rn (p:Gz):Prop:=∀a0 a1 r,p a0 a1=some r->Pure env.toCx 165 [(.agg (ah.cs a0)),(.v (.int .i64 a1))] (.ret (.v (.int .i64 r)))
def To (p:IM):Prop:=∀a0 r,p a0=some r->Pure env.toCx 96 [(.agg (ah.cs a0))] (.ret (.v (.bool r)))
def Tp (p:IN):Prop:=∀a0 r,p a0=some r->Pure env.toCx 51 [(.sl 7 (bt.rows a0))] (.ret (.v (.bool r)))
def Tq (p:IP):Prop:=∀a0 a1 r,p a0 a1=some r->Pure env.toCx 97 [(.agg (ae.cs a0)),(.v (.int .i64 a1))] (.ret (.v (.int .i64 r)))
def Ts (p:IQ):Prop:=∀a0 a1 r,p a0 a1=some r->Pure env.toCx 52 [(.agg (ae.cs a0)),(.v (.int .i64 a1))] (.ret (.v (.bool r)))
def Tt (p:IS):Prop:=∀a0 r,p a0=some r->Pure env.toCx 21 [(.agg (cp.cs a0))] (.ret (.v (.bool r)))
def C5 (p:T5):Prop:=∀a0 r,p a0=some r->Pure env.toCx 5 [(.agg (cp.cs a0))] (.ret (.v (.bool r)))
structure Kf (n:Nat):Prop where
 c98:SH (f98 (Gf n))
 uK:SI (f53 (Gf n))
 b8:Qm (f213 (Gf n))
 abB:Qo (f166 (Gf n))
 abC:Qq (f168 (Gf n))
 Fw:Qr (f185 (Gf n))
 Qv:Qs (f131 (Gf n))
 Fx:Qt (f214 (Gf n))
 H5:SJ (f81 (Gf n))
 Qy:Qw (f215 (Gf n))
 abD:Qx (f169 (Gf n))
 abE:Qz (f170 (Gf n))
 Fy:QA (f216 (Gf n))
 abF:QB (f171 (Gf n))
 abG:QC (f167 (Gf n))
 SL:SK (f99 (Gf n))
 Tu:SM (f54 (Gf n))
 c56:SN (f56 (Gf n))
 XU:Mj (z7 (Gf n))
 abH:QD (f106 (Gf n))
 V5:KR (yO (Gf n))
 V6:KS (yR (Gf n))
 c61:SO (f61 (Gf n))
 abI:QE (f107 (Gf n))
 abJ:QF (f108 (Gf n))
 abK:QG (f109 (Gf n))
 SQ:SP (f62 (Gf n))
 iH:QH (f112 (Gf n))
 fe:QI (f113 (Gf n))
 c63:SR (f63 (Gf n))
 abL:QJ (f157 (Gf n))
 V7:KT (vj (Gf n))
 fv:SU (f80 (Gf n))
 Bv:SV (f92 (Gf n))
 abQ:QK (f197 (Gf n))
 abM:QL (f236 (Gf n))
 Fz:QM (f199 (Gf n))
 jI:QN (f198 (Gf n))
 QP:QO (f100 (Gf n))
 ZT:PJ (Fa (Gf n))
 ZU:PK (Fb (Gf n))
 H6:SX (f66 (Gf n))
 uA:QQ (f238 (Gf n))
 QT:QR (f205 (Gf n))
 abN:QS (f207 (Gf n))
 W2:LF (zr (Gf n))
 QV:QU (f161 (Gf n))
 W3:LG (zt (Gf n))
 S0:SY (f93 (Gf n))
 cN:SZ (f48 (Gf n))
 c91:S1 (f91 (Gf n))
 pR:QW (f158 (Gf n))
 abO:QX (f159 (Gf n))
 QY:Q0 (f201 (Gf n))
 QZ:Q1 (f202 (Gf n))
 pS:Q2 (f237 (Gf n))
 GA:Q3 (f204 (Gf n))
 abP:Q4 (f160 (Gf n))
 GB:Q5 (f203 (Gf n))
 c18:S3 (f18 (Gf n))
 Tv:S4 (f64 (Gf n))
 XV:Mk (z8 (Gf n))
 Tw:S5 (f25 (Gf n))
 c22:S6 (f22 (Gf n))
 GC:Q6 (f153 (Gf n))
 Ro:Q7 (f194 (Gf n))
 GD:Q8 (f195 (Gf n))
 Rp:Q9 (f196 (Gf n))
 GF:Ra (f154 (Gf n))
 GG:Rb (f155 (Gf n))
 c90:S7 (f90 (Gf n))
 Tx:S8 (f46 (Gf n))
 IT:S9 (f15 (Gf n))
 c59:S' (f59 (Gf n))
 xi:Ta (f42 (Gf n))
 fw:Tb (f88 (Gf n))
 kL:Tc (f87 (Gf n))
 abR:Rc (f173 (Gf n))
 abS:Re (f174 (Gf n))
 GH:Rf (f104 (Gf n))
 dv:Td (f41 (Gf n))
 IU:Te (f95 (Gf n))
 lg:Rg (f209 (Gf n))
 abT:Rh (f210 (Gf n))
 Ty:Tf (f69 (Gf n))
 Tz:Tg (f29 (Gf n))
 TA:Th (f50 (Gf n))
 gM:Ti (f49 (Gf n))
 c94:Tj (f94 (Gf n))
 GI:Ri (f162 (Gf n))
 gJ:Rj (f163 (Gf n))
 abU:Rk (f164 (Gf n))
 abV:Rl (f211 (Gf n))
 abW:Rm (f212 (Gf n))
 TB:Tk (f19 (Gf n))
 IV:Tl (f20 (Gf n))
 TE:Tm (f60 (Gf n))
 c23:Tn (f23 (Gf n))
 Bc:Rn (f165 (Gf n))
 c96:To (f96 (Gf n))
 c51:Tp (f51 (Gf n))
 TF:Tq (f97 (Gf n))
 TG:Ts (f52 (Gf n))
 c21:Tt (f21 (Gf n))
 c5:C5 (f5 (Gf n))
 H4:TH (f57 (Gf n))
 c9:C9 (f9 (Gf n))
 p3:IW (f58 (Gf n))
def Of (n:Nat):Prop:=∀m,m<=n->Kf m
theorem KP (l:List (List UInt8)):aN l=l.map λx=>[.v (.string ⟨⟨x⟩⟩)]:=rfl
theorem Of.a {N m:Nat} (h:Of N) (hm:m<=N:=by omega):Kf m:=h m hm
