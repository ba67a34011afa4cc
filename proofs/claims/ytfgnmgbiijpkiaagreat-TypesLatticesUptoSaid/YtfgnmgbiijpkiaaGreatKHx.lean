/- What goes ahead of the printed texts. -/
import Derived.Test.YtfgnmgbiijpkiaaGreatKZs
import Derived.Test.YtfgnmgbiijpkiaaGreatKGk
import Derived.Test.YtfgnmgbiijpkiaaGreatKPl
set_option linter.all false
section

end

section
set_option maxRecDepth 100000
noncomputable section
namespace Go.Proofs.YtfgnmgbiijpkiaaGreat
open Go Go.Bw
abbrev Hv:=Int->Int->Option (bG×Int×aM)
abbrev Hw:=Int->Option Bool
abbrev Nr:=List UInt8->Int->Int->UInt8->Bool->UInt8->Int->Option Int
abbrev Ns:=List UInt8->Int->Int->UInt8->Bool->UInt8->UInt8->Int->Option Int
abbrev Nt:=List UInt8->Int->Int->Option Int
abbrev Hx:=List UInt8->Int->Option Int
abbrev Hy:=Int->Option Bool
abbrev Hz:=Int->Option Bool
abbrev HA:=Int->Option Bool
abbrev Nv:=List UInt8->Int->Option Int
abbrev HB:=List UInt8->Int->Option Int
abbrev HC:=Option (List (List UInt8))
abbrev Nw:=List (List UInt8)->List UInt8->Int->Option Bool
abbrev HD:=List (List UInt8)->List UInt8->Option Bool
abbrev HE:=List UInt8->Option Bool
abbrev Ny:=List UInt8->Int->Int->Int->Option (bG×Int×aM)
abbrev HF:=List UInt8->Int->Option (bG×Int×aM)
abbrev HG:=Int->Option Bool
abbrev O':=List UInt8->Int->Option Bool
abbrev BS:=List UInt8->Option Bool
abbrev HH:=Option (List (List UInt8))
abbrev Nz:=List UInt8->Int->List (List UInt8)->Int->Option (bG×Int×aM)
abbrev HI:=List UInt8->Int->Option (bG×Int×aM)
abbrev HJ:=List UInt8->Int->Option (bG×Int×aM)
abbrev Pa:=List UInt8->List bG->List bG->Int->Option ((List bG)×aM)
abbrev Jg:=List UInt8->Option ((List bG)×aM)
abbrev Jh:=aC->Option bG
abbrev HK:=aC->List UInt8->Option Bool
abbrev Ji:=aC->Int->Option (Unit×aC)
abbrev HL:=aC->Int->Option ((List UInt8)×aC)
abbrev HM:=aC->Option (ab×aC)
abbrev HN:=aC->Option (Unit×aC)
abbrev HO:=aC->List UInt8->Option (Unit×aC)
abbrev HP:=Option (List (List UInt8))
abbrev NA:=aC->List (List UInt8)->Int->Option Bool
abbrev HQ:=aC->Option Bool
abbrev HR:=aC->Int->Option Int
abbrev Jj:=aC->Option (ab×aC)
abbrev NB:=Int->(ab×aC)->Option (ab×aC)
abbrev NC:=Int->aC->ab->Option (ab×aC)
abbrev HT:=aC->Int->Option (ab×aC)
abbrev ND:=aC->ab->Option (ab×aC)
abbrev HU:=aC->Option (ab×aC)
abbrev NF:=bG->aC->List ab->Option (ab×aC)
abbrev HV:=aC->Option (ab×aC)
abbrev HW:=aC->List UInt8->Option (ab×aC)
abbrev NG:=List ab->List ab->aC->Option ((List ab)×aC)
abbrev HX:=aC->Option ((List ab)×aC)
abbrev Pb:=bG->aC->List ab->Option (ab×aC)
abbrev Pc:=aC->bG->Bool->Bool->Bool->Bool->Bool->Bool->Bool->Bool->Bool->Bool->(Unit×aC)->bG->List ab->List ab->aC->bG->((List UInt8)×aC)->Bool->aC->List ab->Bool->bG->bG->List ab->List ab->aC->Option (ab×aC)
abbrev Pd:=aC->bG->Bool->Bool->Bool->Bool->Bool->Bool->Bool->Bool->Bool->Bool->(Unit×aC)->bG->List ab->List ab->aC->bG->((List UInt8)×aC)->Bool->aC->List ab->Option (ab×aC)
abbrev Pe:=aC->bG->Bool->Bool->Bool->Bool->Bool->Bool->Bool->Bool->Bool->Bool->(Unit×aC)->bG->List ab->List ab->aC->Option (ab×aC)
abbrev Pg:=aC->bG->Bool->Bool->Bool->Bool->Bool->Bool->Bool->Bool->Bool->Bool->(Unit×aC)->bG->aC->List ab->Bool->bG->bG->List ab->List ab->aC->Option (ab×aC)
abbrev Ph:=aC->bG->Bool->Bool->Bool->Bool->Bool->Bool->Bool->Bool->Bool->Bool->(Unit×aC)->bG->aC->List ab->Option (ab×aC)
abbrev Jk:=aC->Option (ab×aC)
abbrev NH:=aC->Int->Option (Int×aC)
abbrev HY:=aC->Option (Int×aC)
abbrev Pj:=bG->((List UInt8)×aC)->aC->List ab->Option (ab×aC)
abbrev Pk:=bG->((List UInt8)×aC)->aC->List ab->Option (ab×aC)
abbrev Pl:=bG->((List UInt8)×aC)->aC->List ab->Option (ab×aC)
abbrev Pm:=bG->((List UInt8)×aC)->aC->List ab->Option (ab×aC)
abbrev Jl:=aC->Option (ab×aC)
abbrev Pn:=aC->List ab->Option (ab×aM)
abbrev Jm:=List UInt8->Int->Option (ab×aM)
abbrev Jn:=List UInt8->Option (ab×aM)
abbrev Jo:=List UInt8->Option (ab×aM)
abbrev Jp:=List UInt8->Option (ab×aM)
abbrev Fm:=List (List UInt8)->Option (List (List UInt8))
def B2:=((((Hv×Hw)×(Nr×(Ns×Nt)))×((Hx×Hy)×(Hz×(HA×Nv))))×(((HB×HC)×(Nw×(HD×HE)))×((Ny×HF)×(HG×(O'×BS)))))
def B3:=((((HH×Nz)×(HI×(HJ×Pa)))×((Jg×Jh)×(HK×(Ji×HL))))×(((HM×HN)×(HO×(HP×NA)))×((HQ×HR)×(Jj×(NB×NC)))))
def B4:=((((HT×ND)×(HU×(NF×HV)))×((HW×NG)×(HX×(Pb×Pc))))×(((Pd×Pe)×(Pg×(Ph×Jk)))×((NH×HY)×(Pj×(Pk×Pl)))))
def B6:=(((Pm×Jl)×(Pn×Jm))×((Jn×Jo)×(Jp×Fm)))
instance:PF B2:=by delta B2;exact @PF.prod _ _ (@PF.prod _ _ inferInstance inferInstance) (@PF.prod _ _ inferInstance inferInstance)
instance:PF B3:=by delta B3;exact @PF.prod _ _ (@PF.prod _ _ inferInstance inferInstance) (@PF.prod _ _ inferInstance inferInstance)
instance:PF B4:=by delta B4;exact @PF.prod _ _ (@PF.prod _ _ inferInstance inferInstance) (@PF.prod _ _ inferInstance inferInstance)
instance:PF B6:=by delta B6;exact @PF.prod _ _ (@PF.prod _ _ inferInstance inferInstance) (@PF.prod _ _ inferInstance inferInstance)
abbrev Us:=((B2×B3)×(B4×B6))
def gm:=(PF.i (D:=Us)).a.a
def gn:=(PF.i (D:=Us)).a.b
def gq:=(PF.i (D:=Us)).b.a
def qa:=(PF.i (D:=Us)).b.b
def jh:=gm.a.a.a.a
def Sq:=gm.a.a.a.b
def DX:=gm.a.a.b.a
def DZ:=gm.a.a.b.b.a
def pv:=gm.a.a.b.b.b
def Sr:=gm.a.b.a.a
def HZ:=gm.a.b.a.b
def Bs:=gm.a.b.b.a
def Ss:=gm.a.b.b.b.a
def D1:=gm.a.b.b.b.b
def H0:=gm.b.a.a.a
def Su:=gm.b.a.a.b
def D3:=gm.b.a.b.a
def Sv:=gm.b.a.b.b.a
def Sw:=gm.b.a.b.b.b
def Aq:=gm.b.b.a.a
def Sx:=gm.b.b.a.b
def Bt:=gm.b.b.b.a
def wj:=gm.b.b.b.b.a
def p7:=gm.b.b.b.b.b
def Sy:=gn.a.a.a.a
def Ar:=gn.a.a.a.b
def Sz:=gn.a.a.b.a
def SA:=gn.a.a.b.b.a
def EC:=gn.a.a.b.b.b
def Ue:=gn.a.b.a.a
def cE:=gn.a.b.a.b
def b6:=gn.a.b.b.a
def kO:=gn.a.b.b.b.a
def de:=gn.a.b.b.b.b
def mj:=gn.b.a.a.a
def oB:=gn.b.a.a.b
def bI:=gn.b.a.b.a
def SB:=gn.b.a.b.b.a
def D7:=gn.b.a.b.b.b
def SC:=gn.b.b.a.a
def H2:=gn.b.b.a.b
def gR:=gn.b.b.b.a
def Nq:=gn.b.b.b.b.a
def D':=gn.b.b.b.b.b
def rO:=gq.a.a.a.a
def As:=gq.a.a.a.b
def SD:=gq.a.a.b.a
def Ed:=gq.a.a.b.b.a
def SE:=gq.a.a.b.b.b
def H3:=gq.a.b.a.a
def Ef:=gq.a.b.a.b
def Bu:=gq.a.b.b.a
def EF:=gq.a.b.b.b.a
def EK:=gq.a.b.b.b.b
def AN:=gq.b.a.a.a
def EH:=gq.b.a.a.b
def EN:=gq.b.a.b.a
def AO:=gq.b.a.b.b.a
def nK:=gq.b.a.b.b.b
def Eh:=gq.b.b.a.a
def oC:=gq.b.b.a.b
def ER:=gq.b.b.b.a
def ET:=gq.b.b.b.b.a
def EV:=gq.b.b.b.b.b
def EX:=qa.a.a.a
def Uf:=qa.a.a.b
def E0:=qa.a.b.a
def u32:=qa.a.b.b
def u10:=qa.b.a.a
def u17:=qa.b.a.b
def u26:=qa.b.b.a
def wG:=qa.b.b.b
abbrev G4 (f:Us):Hv:=λa b=>(some ((bG.z,0,{Code:=a,At:=b:aM})))
abbrev G5 (f:Us):Hw:=λa=>(bif a==32 then(some true)else(bif a==9 then(some true)else(bif a==10 then(some true)else(some (a==13)))))
abbrev DY (f:Us):Nr:=λa c d e g h b=>(bif decide (b<(↑a.length:Int))then((au (a:List UInt8) b).bind λi=>(bif (↑i.toNat:Int) !=10 then(DX f a c d e g h (IntKind.i64.wrap (b+1)))else(pv f a c b)))else(pv f a c b))
abbrev D0 (f:Us):Ns:=λa c d e g h i b=>(bif decide (b<(↑a.length:Int))then((au (a:List UInt8) b).bind λj=>(bif (↑j.toNat:Int) !=10 then(DZ f a c d e g h i (IntKind.i64.wrap (b+1)))else(pv f a c b)))else(pv f a c b))
abbrev DW (f:Us):Nt:=λb c a=>(bif decide (a<(↑b.length:Int))then((au (b:List UInt8) a).bind λd=>((Sq f ((↑d.toNat:Int))).bind λe=>(bif e then((au (b:List UInt8) a).bind λg=>(bif (↑g.toNat:Int) !=35 then(pv f b c (IntKind.i64.wrap (a+1)))else(DX f b c a d e g a)))else((au (b:List UInt8) a).bind λh=>(bif (↑h.toNat:Int)==35 then((au (b:List UInt8) a).bind λi=>(bif (↑i.toNat:Int) !=35 then(pv f b c (IntKind.i64.wrap (a+1)))else(DZ f b c a d e h i a)))else(some a))))))else(some a))
abbrev Bm (f:Us):Hx:=λb a=>(pv f b a a)
abbrev G6 (f:Us):Hy:=λa=>(bif decide (a>=97)then(some (decide (a<=122)))else(some false))
abbrev G7 (f:Us):Hz:=λa=>(bif decide (a>=48)then(some (decide (a<=57)))else(some false))
abbrev G8 (f:Us):HA:=λa=>((HZ f a).bind λb=>(bif b then(some true)else((Bs f a).bind λc=>(bif c then(some true)else(some (a==45))))))
abbrev D2 (f:Us):Nv:=λb a=>(bif decide (a<(↑b.length:Int))then((au (b:List UInt8) a).bind λc=>((Ss f ((↑c.toNat:Int))).bind λd=>(bif d then(D1 f b (IntKind.i64.wrap (a+1)))else(some a))))else(some a))
abbrev Bn (f:Us):HB:=λa b=>(D1 f a b)
abbrev G' (f:Us):HC:=(some ([[97,110,100],[98,111,111,108],[98,111,116,116,111,109],[99,108,111,115,101,100],[99,111,110,102,108,105,99,116],[101,108,115,101],[102,97,108,115,101],[102,105,114,115,116],[102,108,97,103],[102,108,97,116],[105,102],[105,110],[105,110,116],[106,111,105,110],[107,101,121,115],[108,97,116,116,105,99,101],[108,101,113],[108,101,120],[109,97,112],[109,97,120],[109,105,110],[110,97,109,101],[110,97,109,101,115],[110,111,116],[110,117,109],[110,117,109,98,101,114],[111,98,106,101,99,116],[111,110],[111,110,101],[111,114],[112,97,105,114],[113,117,101,114,121],[114,101,99],[114,101,103,105,115,116,101,114],[115],[115,101,99,111,110,100],[115,101,116],[115,105,122,101],[115,117,109],[116,104,101,110],[116,114,117,101],[117,112,100,97,116,101],[118,97,108,117,101,115],[119,114,105,116,101]]))
abbrev D4 (f:Us):Nw:=λa c b=>(bif decide (b<(↑(aN a).length:Int))then((au a b).bind λd=>(bif d==c then(some true)else(D3 f a c (IntKind.i64.wrap (b+1)))))else(some false))
abbrev Bo (f:Us):HD:=λa b=>(D3 f a b 0)
abbrev Ha (f:Us):HE:=λa=>((Su f).bind λb=>((Sv f b a).bind λc=>(some c)))
abbrev D5 (f:Us):Ny:=λd a b c=>(bif decide (b<(↑d.length:Int))then((au (d:List UInt8) b).bind λe=>((Bs f ((↑e.toNat:Int))).bind λg=>(bif g then(bif decide (c<=1000000000000000)then((au (d:List UInt8) b).bind λh=>(Aq f d a (IntKind.i64.wrap (b+1)) (IntKind.i64.wrap (IntKind.i64.wrap (10*c)+IntKind.i64.wrap (IntKind.u8.wrap ((↑h.toNat:Int)-48))))))else(Aq f d a (IntKind.i64.wrap (b+1)) c))else((au (d:List UInt8) a).bind λi=>(bif (↑i.toNat:Int)==48 then(bif decide (IntKind.i64.wrap (b-a)>1)then((jh f 2 a).bind λj=>(some j))else(bif decide (c>1000000000000000)then((jh f 5 a).bind λk=>(some k))else(some (({Kind:=3,Text:=[],N:=c,At:=a:bG},b,aM.z)))))else(bif decide (c>1000000000000000)then((jh f 5 a).bind λl=>(some l))else(some (({Kind:=3,Text:=[],N:=c,At:=a:bG},b,aM.z)))))))))else((au (d:List UInt8) a).bind λm=>(bif (↑m.toNat:Int)==48 then(bif decide (IntKind.i64.wrap (b-a)>1)then((jh f 2 a).bind λn=>(some n))else(bif decide (c>1000000000000000)then((jh f 5 a).bind λo=>(some o))else(some (({Kind:=3,Text:=[],N:=c,At:=a:bG},b,aM.z)))))else(bif decide (c>1000000000000000)then((jh f 5 a).bind λp=>(some p))else(some (({Kind:=3,Text:=[],N:=c,At:=a:bG},b,aM.z)))))))
abbrev Bp (f:Us):HF:=λb a=>(Aq f b a a 0)
abbrev w8 (f:Us):HG:=λa=>(bif decide (a>=97)then(bif decide (a<=122)then(some true)else(bif decide (a>=48)then(bif decide (a<=57)then(some true)else(some (a==45)))else(some (a==45))))else(bif decide (a>=48)then(bif decide (a<=57)then(some true)else(some (a==45)))else(some (a==45))))
abbrev tV (f:Us):O':=λa b=>(bif decide (b<(↑a.length:Int))then((au (a:List UInt8) b).bind λc=>((Bt f ((↑c.toNat:Int))).bind λd=>(bif !d then(some false)else(wj f a (IntKind.i64.wrap (b+1))))))else(some true))
abbrev xB (f:Us):BS:=λa=>(bif decide ((↑a.length:Int)<1)then(some false)else(bif decide ((↑a.length:Int)>16)then(some false)else((au (a:List UInt8) 0).bind λb=>(bif decide ((↑b.toNat:Int)<97)then(some false)else((au (a:List UInt8) 0).bind λc=>(bif decide ((↑c.toNat:Int)>122)then(some false)else(wj f a 0)))))))
abbrev Hb (f:Us):HH:=(some ([[60,61],[61,61],[61,62],[61],[58],[59],[44],[40],[41],[123],[125],[91],[93],[46],[43],[45],[60]]))
abbrev D6 (f:Us):Nz:=λd a b c=>(bif decide (c<(↑(aN b).length:Int))then((au b c).bind λe=>(bif decide (IntKind.i64.wrap ((↑d.length:Int)-a)>=(↑e.length:Int))then((iV (d:List UInt8) a (IntKind.i64.wrap (a+(↑e.length:Int)))).bind λg=>((au b c).bind λh=>(bif g==h then((au b c).bind λi=>(some (({Kind:=5,Text:=i,N:=0,At:=a:bG},IntKind.i64.wrap (a+(↑e.length:Int)),aM.z))))else(Ar f d a b (IntKind.i64.wrap (c+1))))))else(Ar f d a b (IntKind.i64.wrap (c+1)))))else((jh f 2 a).bind λj=>(some j)))
abbrev Hc (f:Us):HI:=λb a=>((au (b:List UInt8) a).bind λe=>((HZ f ((↑e.toNat:Int))).bind λg=>(bif g then((H0 f b a).bind λc=>(bif decide (IntKind.i64.wrap (c-a)>16)then((jh f 3 a).bind λh=>(some h))else((iV (b:List UInt8) a c).bind λi=>((Sw f i).bind λj=>(bif j then((iV (b:List UInt8) a c).bind λk=>(some (({Kind:=2,Text:=k,N:=0,At:=a:bG},c,aM.z))))else((iV (b:List UInt8) a c).bind λl=>(some (({Kind:=1,Text:=l,N:=0,At:=a:bG},c,aM.z)))))))))else((Bs f ((↑e.toNat:Int))).bind λm=>(bif m then((Sx f b a).bind λn=>(some n))else(bif (↑e.toNat:Int)==39 then((H0 f b (IntKind.i64.wrap (a+1))).bind λd=>(bif d==(↑b.length:Int)then((jh f 2 a).bind λo=>(some o))else((au (b:List UInt8) d).bind λp=>(bif (↑p.toNat:Int) !=39 then((jh f 2 a).bind λq=>(some q))else((iV (b:List UInt8) (IntKind.i64.wrap (a+1)) d).bind λr=>((p7 f r).bind λs=>(bif !s then((jh f 3 a).bind λt=>(some t))else((iV (b:List UInt8) (IntKind.i64.wrap (a+1)) d).bind λu=>(some (({Kind:=4,Text:=u,N:=0,At:=a:bG},IntKind.i64.wrap (d+1),aM.z)))))))))))else((Sy f).bind λv=>(Ar f b a v 0))))))))
abbrev Hd (f:Us):HJ:=λa c=>(bif decide ((↑a.length:Int)>65536)then((jh f 6 65536).bind λd=>(some d))else(bif decide (c<0)then((jh f 1 0).bind λe=>(some e))else(bif decide (c>(↑a.length:Int))then((jh f 1 0).bind λg=>(some g))else((Sr f a c).bind λb=>(bif b==(↑a.length:Int)then(some (({Kind:=6,Text:=[],N:=0,At:=b:bG},b,aM.z)))else((Sz f a b).bind λh=>(some h)))))))
abbrev ED (f:Us):Pa:=λc d b e=>((SA f c e).bind λa=>(bif a.snd.snd.Code !=0 then(some (([],a.snd.snd)))else(bif decide (((b:List bG)++([a.fst]:List bG)).length<=274877906944)then(bif a.fst.Kind==6 then(some ((b++[a.fst],aM.z)))else(EC f c d (b++[a.fst]) a.snd.fst))else none)))
abbrev BY (f:Us):Jg:=λa=>(EC f a ([]) ([]) 0)
abbrev Jb (f:Us):Jh:=λa=>((au a.T a.I).bind λb=>(some b))
abbrev He (f:Us):HK:=λb c=>((cE f b).bind λa=>(bif !b.aR then(bif a.Kind==2 then(some (a.Text==c))else(bif a.Kind==5 then(some (a.Text==c))else(some false)))else(some false)))
abbrev Jc (f:Us):Ji:=λa b=>(bif !a.aR then((cE f ({a with aR:=true})).bind λc=>(some ((()),({a with aR:=true,aT:={Code:=b,At:=c.At:aM}}))))else(some ((()),a)))
abbrev Hf (f:Us):HL:=λa c=>((cE f a).bind λb=>(bif a.aR then((kO f a 2).bind λd=>(some (([]),d.snd)))else(bif b.Kind !=c then((kO f a 2).bind λe=>(some (([]),e.snd)))else(some (b.Text,({a with I:=IntKind.i64.wrap (a.I+1)}))))))
abbrev Hg (f:Us):HM:=λa=>((cE f a).bind λb=>((b6 f a ([45])).bind λc=>(bif c then((cE f ({a with I:=IntKind.i64.wrap (a.I+1)})).bind λd=>((de f ({a with I:=IntKind.i64.wrap (a.I+1)}) 3).bind λe=>(some ((⟨44,[],IntKind.i64.wrap (-1*d.N),b.At,[]⟩),e.snd))))else((cE f a).bind λg=>((de f a 3).bind λh=>(some ((⟨44,[],IntKind.i64.wrap (1*g.N),b.At,[]⟩),h.snd)))))))
abbrev Hh (f:Us):HN:=λa=>(bif decide (a.Open>=64)then((kO f a 6).bind λb=>(some ((()),({b.snd with Open:=IntKind.i64.wrap (b.snd.Open+1)}))))else(some ((()),({a with Open:=IntKind.i64.wrap (a.Open+1)}))))
abbrev Hk (f:Us):HO:=λa b=>((b6 f a b).bind λc=>(bif c then(some ((()),({a with I:=IntKind.i64.wrap (a.I+1)})))else((kO f a 2).bind λd=>(some ((()),d.snd)))))
abbrev Hl (f:Us):HP:=(some ([[102,108,97,103],[110,117,109],[115,101,116],[109,97,112],[114,101,99],[112,97,105,114],[111,110,101],[119,114,105,116,101],[115,105,122,101],[115,117,109],[110,117,109,98,101,114],[111,110],[107,101,121,115],[118,97,108,117,101,115],[102,105,114,115,116],[115,101,99,111,110,100],[99,111,110,102,108,105,99,116]]))
abbrev D8 (f:Us):NA:=λc a b=>(bif decide (b<(↑(aN a).length:Int))then((au a b).bind λd=>((b6 f c d).bind λe=>(bif e then(some true)else(D7 f c a (IntKind.i64.wrap (b+1))))))else(some false))
abbrev Hm (f:Us):HQ:=λa=>((SB f).bind λb=>(D7 f a b 0))
abbrev Hn (f:Us):HR:=λa b=>(bif b==0 then((b6 f a ([111,114])).bind λc=>(bif c then(some 31)else(some 0)))else(bif b==1 then((b6 f a ([97,110,100])).bind λd=>(bif d then(some 32)else(some 0)))else(bif b==2 then((b6 f a ([60,61])).bind λe=>(bif e then(some 34)else((b6 f a ([60])).bind λg=>(bif g then(some 35)else((b6 f a ([61,61])).bind λh=>(bif h then(some 36)else((b6 f a ([105,110])).bind λi=>(bif i then(some 37)else((b6 f a ([108,101,113])).bind λj=>(bif j then(some 38)else(some 0)))))))))))else(bif b==3 then((b6 f a ([106,111,105,110])).bind λk=>(bif k then(some 39)else(some 0)))else(bif b==4 then((b6 f a ([43])).bind λl=>(bif l then(some 40)else((b6 f a ([45])).bind λm=>(bif m then(some 41)else(some 0)))))else(some 0))))))
abbrev Jd (f:Us):Jj:=λa=>((b6 f a ([105,102])).bind λi=>(bif !i then((rO f a 0).bind λd=>(some (d.fst,d.snd)))else((cE f a).bind λe=>((oB f a).bind λb=>(bif b.snd.aR then(some ((⟨30,[],0,e.At,[]⟩),b.snd))else((gR f ({b.snd with I:=IntKind.i64.wrap (b.snd.I+1)})).bind λg=>((bI f g.snd ([116,104,101,110])).bind λj=>((gR f j.snd).bind λh=>((bI f h.snd ([101,108,115,101])).bind λk=>((gR f k.snd).bind λc=>(some ((⟨30,[],0,e.At,[g.fst,h.fst,c.fst]⟩),({c.snd with Open:=IntKind.i64.wrap (c.snd.Open-1)})))))))))))))
abbrev D9 (f:Us):NB:=λb a=>((H2 f a.snd b).bind λc=>(bif c==0 then(some (a.fst,a.snd))else((cE f a.snd).bind λe=>((rO f ({a.snd with I:=IntKind.i64.wrap (a.snd.I+1)}) (IntKind.i64.wrap (b+1))).bind λd=>(some ((⟨c,[],0,e.At,[a.fst,d.fst]⟩),d.snd))))))
abbrev Eb (f:Us):NC:=λb a c=>((H2 f a b).bind λd=>(bif d==0 then(some (c,a))else((cE f a).bind λg=>((rO f ({a with I:=IntKind.i64.wrap (a.I+1)}) (IntKind.i64.wrap (b+1))).bind λe=>(D' f b e.snd (⟨d,[],0,g.At,[c,e.fst]⟩))))))
abbrev Ho (f:Us):HT:=λa b=>(bif decide (b>4)then((SD f a).bind λe=>(some (e.fst,e.snd)))else(bif b==2 then((b6 f a ([110,111,116])).bind λi=>(bif i then((cE f a).bind λg=>((oB f a).bind λc=>(bif c.snd.aR then(some ((⟨33,[],0,g.At,[]⟩),c.snd))else((rO f ({c.snd with I:=IntKind.i64.wrap (c.snd.I+1)}) 2).bind λd=>(some ((⟨33,[],0,g.At,[d.fst]⟩),({d.snd with Open:=IntKind.i64.wrap (d.snd.Open-1)})))))))else((rO f a (IntKind.i64.wrap (b+1))).bind λj=>(Nq f b j))))else((rO f a (IntKind.i64.wrap (b+1))).bind λh=>(D' f b h.snd h.fst))))
abbrev Ec (f:Us):ND:=λa b=>((cE f a).bind λd=>((b6 f a ([46])).bind λi=>(bif i then((de f ({a with I:=IntKind.i64.wrap (a.I+1)}) 1).bind λe=>(As f e.snd (⟨42,e.fst,0,d.At,[b]⟩)))else((b6 f a ([91])).bind λj=>(bif j then((oB f a).bind λc=>(bif c.snd.aR then(some (b,c.snd))else((gR f ({c.snd with I:=IntKind.i64.wrap (c.snd.I+1)})).bind λg=>((bI f g.snd ([93])).bind λh=>(As f ({h.snd with Open:=IntKind.i64.wrap (h.snd.Open-1)}) (⟨43,[],0,d.At,[b,g.fst]⟩))))))else(some (b,a)))))))
abbrev Hq (f:Us):HU:=λb=>((SE f b).bind λa=>(As f a.snd a.fst))
abbrev Ee (f:Us):NF:=λa b c=>((b6 f b ([44])).bind λg=>(bif g then((H3 f ({b with I:=IntKind.i64.wrap (b.I+1)}) a.Text).bind λd=>(bif decide (((c:List ab)++([d.fst]:List ab)).length<=274877906944)then(Ed f a d.snd (c++[d.fst]))else none))else((bI f b ([41])).bind λe=>(some ((⟨51,a.Text,0,a.At,c⟩),({e.snd with Open:=IntKind.i64.wrap (e.snd.Open-1)}))))))
abbrev Hr (f:Us):HV:=λa=>((cE f a).bind λb=>((b6 f a ([45])).bind λn=>(bif n then((mj f a).bind λg=>(some (g.fst,g.snd)))else(bif b.Kind==3 then((mj f a).bind λh=>(some (h.fst,h.snd)))else(bif b.Kind==4 then((de f a 4).bind λi=>(some ((⟨47,i.fst,0,b.At,[]⟩),i.snd)))else(bif b.Kind==1 then((de f a 1).bind λj=>(some ((⟨48,j.fst,0,b.At,[]⟩),j.snd)))else((b6 f a ([116,114,117,101])).bind λo=>(bif o then(some ((⟨45,[],0,b.At,[]⟩),({a with I:=IntKind.i64.wrap (a.I+1)})))else((b6 f a ([102,97,108,115,101])).bind λp=>(bif p then(some ((⟨46,[],0,b.At,[]⟩),({a with I:=IntKind.i64.wrap (a.I+1)})))else((b6 f a ([115])).bind λq=>(bif q then(some ((⟨49,[],0,b.At,[]⟩),({a with I:=IntKind.i64.wrap (a.I+1)})))else((b6 f a ([98,111,116,116,111,109])).bind λr=>(bif r then(some ((⟨50,[],0,b.At,[]⟩),({a with I:=IntKind.i64.wrap (a.I+1)})))else((b6 f a ([40])).bind λs=>(bif s then((oB f a).bind λd=>(bif d.snd.aR then(some ((⟨0,[],0,b.At,[]⟩),d.snd))else((gR f ({d.snd with I:=IntKind.i64.wrap (d.snd.I+1)})).bind λk=>((bI f k.snd ([41])).bind λl=>(some (k.fst,({l.snd with Open:=IntKind.i64.wrap (l.snd.Open-1)})))))))else((SC f a).bind λt=>(bif t then((b6 f ({a with I:=IntKind.i64.wrap (a.I+1)}) ([40])).bind λu=>(bif !u then((kO f ({a with I:=IntKind.i64.wrap (a.I+1)}) 2).bind λv=>(some ((⟨51,b.Text,0,b.At,[]⟩),v.snd)))else((oB f ({a with I:=IntKind.i64.wrap (a.I+1)})).bind λc=>(bif c.snd.aR then(some ((⟨51,b.Text,0,b.At,[]⟩),c.snd))else((b6 f ({c.snd with I:=IntKind.i64.wrap (c.snd.I+1)}) ([41])).bind λw=>(bif !w then((H3 f ({c.snd with I:=IntKind.i64.wrap (c.snd.I+1)}) b.Text).bind λe=>(bif decide (([e.fst]:List ab).length<=274877906944)then(Ed f b e.snd ([e.fst]))else none))else((bI f ({c.snd with I:=IntKind.i64.wrap (c.snd.I+1)}) ([41])).bind λm=>(some ((⟨51,b.Text,0,b.At,[]⟩),({m.snd with Open:=IntKind.i64.wrap (m.snd.Open-1)}))))))))))else((kO f a 2).bind λx=>(some ((⟨0,[],0,b.At,[]⟩),x.snd)))))))))))))))))))))
abbrev Hs (f:Us):HW:=λb c=>((cE f b).bind λd=>(bif c==[114,101,99]then((de f b 1).bind λe=>((bI f e.snd ([58])).bind λi=>((gR f i.snd).bind λg=>(some ((⟨52,e.fst,0,d.At,[g.fst]⟩),g.snd)))))else((gR f b).bind λa=>(bif !c==[109,97,112]then(some (a.fst,a.snd))else((bI f a.snd ([58])).bind λj=>((gR f j.snd).bind λh=>(some ((⟨52,[],0,d.At,[a.fst,h.fst]⟩),h.snd))))))))
abbrev Eg (f:Us):NG:=λb e d=>((cE f d).bind λc=>((de f d 4).bind λa=>(bif decide (((b:List ab)++([⟨47,a.fst,0,c.At,[]⟩]:List ab)).length<=274877906944)then((b6 f a.snd ([44])).bind λg=>(bif !g then((bI f a.snd ([41])).bind λh=>(some ((b++[⟨47,a.fst,0,c.At,[]⟩]),h.snd)))else(Ef f (b++[⟨47,a.fst,0,c.At,[]⟩]) e ({a.snd with I:=IntKind.i64.wrap (a.snd.I+1)}))))else none)))
abbrev Ht (f:Us):HX:=λa=>((b6 f a ([40])).bind λb=>(bif b then(Ef f ([]) ([]) ({a with I:=IntKind.i64.wrap (a.I+1)}))else(some (([]),a))))
abbrev EG (f:Us):Pb:=λe g c=>((cE f g).bind λd=>((de f g 1).bind λb=>((bI f b.snd ([58])).bind λi=>((nK f i.snd).bind λa=>(bif decide (((c:List ab)++([⟨22,b.fst,0,d.At,[a.fst]⟩]:List ab)).length<=274877906944)then((b6 f a.snd ([44])).bind λj=>(bif !j then((bI f a.snd ([125])).bind λh=>(some ((⟨15,[],0,e.At,c++[⟨22,b.fst,0,d.At,[a.fst]⟩]⟩),({h.snd with Open:=IntKind.i64.wrap (h.snd.Open-1)}))))else(EF f e ({a.snd with I:=IntKind.i64.wrap (a.snd.I+1)}) (c++[⟨22,b.fst,0,d.At,[a.fst]⟩]))))else none)))))
abbrev EL (f:Us):Pc:=λi j k l m n o p q r s t u v w x y z A B E e F g G b H C=>((cE f C).bind λc=>((de f C 4).bind λa=>(bif decide (((b:List ab)++([⟨47,a.fst,0,c.At,[]⟩]:List ab)).length<=274877906944)then((b6 f a.snd ([44])).bind λJ=>(bif !J then((bI f a.snd ([61,62])).bind λD=>((cE f D.snd).bind λh=>((de f D.snd 4).bind λd=>(bif decide (((b++[⟨47,a.fst,0,c.At,[]⟩]:List ab)++([⟨47,d.fst,0,h.At,[]⟩]:List ab)).length<=274877906944)then(bif decide (((e:List ab)++([⟨20,[],0,g.At,b++[⟨47,a.fst,0,c.At,[]⟩]++[⟨47,d.fst,0,h.At,[]⟩]⟩]:List ab)).length<=274877906944)then(AN f i j k l m n o p q r s t u v w x y z A B d.snd (e++[⟨20,[],0,g.At,b++[⟨47,a.fst,0,c.At,[]⟩]++[⟨47,d.fst,0,h.At,[]⟩]⟩]))else none)else none))))else(EK f i j k l m n o p q r s t u v w x y z A B E e F g G (b++[⟨47,a.fst,0,c.At,[]⟩]) H ({a.snd with I:=IntKind.i64.wrap (a.snd.I+1)}))))else none)))
abbrev EJ (f:Us):Pd:=λh d i j k l m n o p q r s t u v w x y z a b=>((b6 f a ([59])).bind λA=>(bif A then((cE f ({a with I:=IntKind.i64.wrap (a.I+1)})).bind λe=>((cE f ({a with I:=IntKind.i64.wrap (a.I+1)})).bind λB=>(bif B.Kind==4 then(EK f h d i j k l m n o p q r s t u v w x y z a b A e B ([]) ([]) ({a with I:=IntKind.i64.wrap (a.I+1)}))else((bI f ({a with I:=IntKind.i64.wrap (a.I+1)}) ([61,62])).bind λC=>((cE f C.snd).bind λg=>((de f C.snd 4).bind λc=>(bif decide ((([]:List ab)++([⟨47,c.fst,0,g.At,[]⟩]:List ab)).length<=274877906944)then(bif decide (((b:List ab)++([⟨20,[],0,e.At,[]++[⟨47,c.fst,0,g.At,[]⟩]⟩]:List ab)).length<=274877906944)then(AN f h d i j k l m n o p q r s t u v w x y z c.snd (b++[⟨20,[],0,e.At,[]++[⟨47,c.fst,0,g.At,[]⟩]⟩]))else none)else none)))))))else((bI f a ([41])).bind λD=>(some ((⟨19,[],0,d.At,b⟩),D.snd)))))
abbrev EI (f:Us):Pe:=λe g h i j k l m n o p q r s b t d=>((cE f d).bind λc=>((de f d 4).bind λa=>(bif decide (((b:List ab)++([⟨47,a.fst,0,c.At,[]⟩]:List ab)).length<=274877906944)then((b6 f a.snd ([44])).bind λu=>(bif !u then(AN f e g h i j k l m n o p q r s b t d c a u a.snd (b++[⟨47,a.fst,0,c.At,[]⟩]))else(EH f e g h i j k l m n o p q r s (b++[⟨47,a.fst,0,c.At,[]⟩]) t ({a.snd with I:=IntKind.i64.wrap (a.snd.I+1)}))))else none)))
abbrev EO (f:Us):Pg:=λi j k l m n o p q r s t u v y e z g A b B w=>((cE f w).bind λc=>((de f w 4).bind λa=>(bif decide (((b:List ab)++([⟨47,a.fst,0,c.At,[]⟩]:List ab)).length<=274877906944)then((b6 f a.snd ([44])).bind λC=>(bif !C then((bI f a.snd ([61,62])).bind λx=>((cE f x.snd).bind λh=>((de f x.snd 4).bind λd=>(bif decide (((b++[⟨47,a.fst,0,c.At,[]⟩]:List ab)++([⟨47,d.fst,0,h.At,[]⟩]:List ab)).length<=274877906944)then(bif decide (((e:List ab)++([⟨20,[],0,g.At,b++[⟨47,a.fst,0,c.At,[]⟩]++[⟨47,d.fst,0,h.At,[]⟩]⟩]:List ab)).length<=274877906944)then(AO f i j k l m n o p q r s t u v d.snd (e++[⟨20,[],0,g.At,b++[⟨47,a.fst,0,c.At,[]⟩]++[⟨47,d.fst,0,h.At,[]⟩]⟩]))else none)else none))))else(EN f i j k l m n o p q r s t u v y e z g A (b++[⟨47,a.fst,0,c.At,[]⟩]) B ({a.snd with I:=IntKind.i64.wrap (a.snd.I+1)}))))else none)))
abbrev EM (f:Us):Ph:=λh d i j k l m n o p q r s t a b=>((b6 f a ([59])).bind λu=>(bif u then((cE f ({a with I:=IntKind.i64.wrap (a.I+1)})).bind λe=>((cE f ({a with I:=IntKind.i64.wrap (a.I+1)})).bind λv=>(bif v.Kind==4 then(EN f h d i j k l m n o p q r s t a b u e v ([]) ([]) ({a with I:=IntKind.i64.wrap (a.I+1)}))else((bI f ({a with I:=IntKind.i64.wrap (a.I+1)}) ([61,62])).bind λw=>((cE f w.snd).bind λg=>((de f w.snd 4).bind λc=>(bif decide ((([]:List ab)++([⟨47,c.fst,0,g.At,[]⟩]:List ab)).length<=274877906944)then(bif decide (((b:List ab)++([⟨20,[],0,e.At,[]++[⟨47,c.fst,0,g.At,[]⟩]⟩]:List ab)).length<=274877906944)then(AO f h d i j k l m n o p q r s t c.snd (b++[⟨20,[],0,e.At,[]++[⟨47,c.fst,0,g.At,[]⟩]⟩]))else none)else none)))))))else((bI f a ([41])).bind λx=>(some ((⟨19,[],0,d.At,b⟩),x.snd)))))
abbrev Je (f:Us):Jk:=λa=>((cE f a).bind λb=>(bif b.Kind==1 then((de f a 1).bind λr=>(some ((⟨21,r.fst,0,b.At,[]⟩),r.snd)))else((b6 f a ([102,108,97,103])).bind λe=>(bif e then(some ((⟨10,[],0,b.At,[]⟩),({a with I:=IntKind.i64.wrap (a.I+1)})))else((b6 f a ([114,101,103,105,115,116,101,114])).bind λg=>(bif g then(some ((⟨18,[],0,b.At,[]⟩),({a with I:=IntKind.i64.wrap (a.I+1)})))else((b6 f a ([115,101,116])).bind λh=>(bif h then((Bu f ({a with I:=IntKind.i64.wrap (a.I+1)})).bind λs=>(some ((⟨13,[],0,b.At,s.fst⟩),s.snd)))else((b6 f a ([102,108,97,116])).bind λi=>(bif i then((Bu f ({a with I:=IntKind.i64.wrap (a.I+1)})).bind λt=>(some ((⟨17,[],0,b.At,t.fst⟩),t.snd)))else((b6 f a ([109,97,120])).bind λj=>(bif j then((b6 f a ([109,97,120])).bind λJ=>(bif J then((bI f ({a with I:=IntKind.i64.wrap (a.I+1)}) ([40])).bind λK=>((mj f K.snd).bind λu=>((bI f u.snd ([44])).bind λL=>((mj f L.snd).bind λv=>((bI f v.snd ([41])).bind λM=>(some ((⟨11,[],0,b.At,[u.fst,v.fst]⟩),M.snd)))))))else((bI f ({a with I:=IntKind.i64.wrap (a.I+1)}) ([40])).bind λN=>((mj f N.snd).bind λw=>((bI f w.snd ([44])).bind λO=>((mj f O.snd).bind λx=>((bI f x.snd ([41])).bind λP=>(some ((⟨12,[],0,b.At,[w.fst,x.fst]⟩),P.snd)))))))))else((b6 f a ([109,105,110])).bind λk=>(bif k then((b6 f a ([109,97,120])).bind λQ=>(bif Q then((bI f ({a with I:=IntKind.i64.wrap (a.I+1)}) ([40])).bind λR=>((mj f R.snd).bind λy=>((bI f y.snd ([44])).bind λS=>((mj f S.snd).bind λz=>((bI f z.snd ([41])).bind λT=>(some ((⟨11,[],0,b.At,[y.fst,z.fst]⟩),T.snd)))))))else((bI f ({a with I:=IntKind.i64.wrap (a.I+1)}) ([40])).bind λU=>((mj f U.snd).bind λA=>((bI f A.snd ([44])).bind λV=>((mj f V.snd).bind λB=>((bI f B.snd ([41])).bind λW=>(some ((⟨12,[],0,b.At,[A.fst,B.fst]⟩),W.snd)))))))))else((b6 f a ([109,97,112])).bind λl=>(bif l then((oB f a).bind λC=>((Bu f ({C.snd with I:=IntKind.i64.wrap (C.snd.I+1)})).bind λm=>((nK f m.snd).bind λd=>(bif decide (((m.fst:List ab)++([d.fst]:List ab)).length<=274877906944)then(some ((⟨14,[],0,b.At,m.fst++[d.fst]⟩),({d.snd with Open:=IntKind.i64.wrap (d.snd.Open-1)})))else none))))else((b6 f a ([108,101,120])).bind λn=>(bif n then((oB f a).bind λD=>((bI f ({D.snd with I:=IntKind.i64.wrap (D.snd.I+1)}) ([40])).bind λX=>((nK f X.snd).bind λE=>((bI f E.snd ([44])).bind λY=>((nK f Y.snd).bind λF=>((bI f F.snd ([41])).bind λG=>(some ((⟨16,[],0,b.At,[E.fst,F.fst]⟩),({G.snd with Open:=IntKind.i64.wrap (G.snd.Open-1)})))))))))else((b6 f a ([123])).bind λo=>(bif o then((oB f a).bind λH=>(EF f b ({H.snd with I:=IntKind.i64.wrap (H.snd.I+1)}) ([])))else((b6 f a ([99,108,111,115,101,100])).bind λp=>(bif p then((bI f ({a with I:=IntKind.i64.wrap (a.I+1)}) ([40])).bind λc=>((cE f c.snd).bind λq=>(bif q.Kind==4 then(EH f a b e g h i j k l n o p c q ([]) ([]) c.snd)else(AO f a b e g h i j k l n o p c q c.snd ([])))))else((kO f a 2).bind λZ=>(some ((⟨0,[],0,b.At,[]⟩),Z.snd)))))))))))))))))))))))))
abbrev Ei (f:Us):NH:=λa b=>(bif decide (b<(↑4:Int))then((au ([[105,110,116],[98,111,111,108],[110,97,109,101],[110,97,109,101,115]]) b).bind λc=>((b6 f a c).bind λd=>(bif d then(some ((IntKind.i64.wrap (b+1)),({a with I:=IntKind.i64.wrap (a.I+1)})))else(Eh f a (IntKind.i64.wrap (b+1))))))else((kO f a 2).bind λe=>(some (0,e.snd))))
abbrev Bq (f:Us):HY:=λa=>(Eh f a 0)
abbrev ES (f:Us):Pj:=λi j k c=>((cE f k).bind λd=>((de f k 1).bind λb=>((bI f b.snd ([58])).bind λn=>((oC f n.snd).bind λa=>(bif decide (((c:List ab)++([⟨6,b.fst,a.fst,d.At,[]⟩]:List ab)).length<=274877906944)then((b6 f a.snd ([44])).bind λo=>(bif !o then((bI f a.snd ([41])).bind λp=>((bI f p.snd ([111,110])).bind λl=>((cE f l.snd).bind λg=>((de f l.snd 1).bind λe=>(bif decide (((c++[⟨6,b.fst,a.fst,d.At,[]⟩]:List ab)++([⟨48,e.fst,0,g.At,[]⟩]:List ab)).length<=274877906944)then((bI f e.snd ([58])).bind λq=>((oC f q.snd).bind λm=>((bI f m.snd ([61])).bind λr=>((gR f r.snd).bind λh=>(bif decide (((c++[⟨6,b.fst,a.fst,d.At,[]⟩]++[⟨48,e.fst,0,g.At,[]⟩]:List ab)++([h.fst]:List ab)).length<=274877906944)then((bI f h.snd ([59])).bind λs=>(some ((⟨5,j.fst,m.fst,i.At,c++[⟨6,b.fst,a.fst,d.At,[]⟩]++[⟨48,e.fst,0,g.At,[]⟩]++[h.fst]⟩),s.snd)))else none)))))else none)))))else(ER f i j ({a.snd with I:=IntKind.i64.wrap (a.snd.I+1)}) (c++[⟨6,b.fst,a.fst,d.At,[]⟩]))))else none)))))
abbrev EU (f:Us):Pk:=λi j k c=>((cE f k).bind λd=>((de f k 1).bind λb=>((bI f b.snd ([58])).bind λm=>((oC f m.snd).bind λa=>(bif decide (((c:List ab)++([⟨6,b.fst,a.fst,d.At,[]⟩]:List ab)).length<=274877906944)then((b6 f a.snd ([44])).bind λn=>(bif !n then((bI f a.snd ([41])).bind λo=>((bI f o.snd ([111,110])).bind λl=>((cE f l.snd).bind λg=>((de f l.snd 1).bind λe=>(bif decide (((c++[⟨6,b.fst,a.fst,d.At,[]⟩]:List ab)++([⟨48,e.fst,0,g.At,[]⟩]:List ab)).length<=274877906944)then((bI f e.snd ([61])).bind λp=>((gR f p.snd).bind λh=>(bif decide (((c++[⟨6,b.fst,a.fst,d.At,[]⟩]++[⟨48,e.fst,0,g.At,[]⟩]:List ab)++([h.fst]:List ab)).length<=274877906944)then((bI f h.snd ([59])).bind λq=>(some ((⟨4,j.fst,0,i.At,c++[⟨6,b.fst,a.fst,d.At,[]⟩]++[⟨48,e.fst,0,g.At,[]⟩]++[h.fst]⟩),q.snd)))else none)))else none)))))else(ET f i j ({a.snd with I:=IntKind.i64.wrap (a.snd.I+1)}) (c++[⟨6,b.fst,a.fst,d.At,[]⟩]))))else none)))))
abbrev EW (f:Us):Pl:=λi j k c=>((cE f k).bind λd=>((de f k 1).bind λb=>((bI f b.snd ([58])).bind λn=>((oC f n.snd).bind λa=>(bif decide (((c:List ab)++([⟨6,b.fst,a.fst,d.At,[]⟩]:List ab)).length<=274877906944)then((b6 f a.snd ([44])).bind λo=>(bif !o then((bI f a.snd ([41])).bind λp=>((bI f p.snd ([111,110])).bind λl=>((cE f l.snd).bind λg=>((de f l.snd 1).bind λe=>(bif decide (((c++[⟨6,b.fst,a.fst,d.At,[]⟩]:List ab)++([⟨48,e.fst,0,g.At,[]⟩]:List ab)).length<=274877906944)then((bI f e.snd ([58])).bind λq=>((oC f q.snd).bind λm=>((bI f m.snd ([61])).bind λr=>((gR f r.snd).bind λh=>(bif decide (((c++[⟨6,b.fst,a.fst,d.At,[]⟩]++[⟨48,e.fst,0,g.At,[]⟩]:List ab)++([h.fst]:List ab)).length<=274877906944)then((bI f h.snd ([59])).bind λs=>(some ((⟨5,j.fst,m.fst,i.At,c++[⟨6,b.fst,a.fst,d.At,[]⟩]++[⟨48,e.fst,0,g.At,[]⟩]++[h.fst]⟩),s.snd)))else none)))))else none)))))else(EV f i j ({a.snd with I:=IntKind.i64.wrap (a.snd.I+1)}) (c++[⟨6,b.fst,a.fst,d.At,[]⟩]))))else none)))))
abbrev EY (f:Us):Pm:=λi j k c=>((cE f k).bind λd=>((de f k 1).bind λb=>((bI f b.snd ([58])).bind λm=>((oC f m.snd).bind λa=>(bif decide (((c:List ab)++([⟨6,b.fst,a.fst,d.At,[]⟩]:List ab)).length<=274877906944)then((b6 f a.snd ([44])).bind λn=>(bif !n then((bI f a.snd ([41])).bind λo=>((bI f o.snd ([111,110])).bind λl=>((cE f l.snd).bind λg=>((de f l.snd 1).bind λe=>(bif decide (((c++[⟨6,b.fst,a.fst,d.At,[]⟩]:List ab)++([⟨48,e.fst,0,g.At,[]⟩]:List ab)).length<=274877906944)then((bI f e.snd ([61])).bind λp=>((gR f p.snd).bind λh=>(bif decide (((c++[⟨6,b.fst,a.fst,d.At,[]⟩]++[⟨48,e.fst,0,g.At,[]⟩]:List ab)++([h.fst]:List ab)).length<=274877906944)then((bI f h.snd ([59])).bind λq=>(some ((⟨4,j.fst,0,i.At,c++[⟨6,b.fst,a.fst,d.At,[]⟩]++[⟨48,e.fst,0,g.At,[]⟩]++[h.fst]⟩),q.snd)))else none)))else none)))))else(EX f i j ({a.snd with I:=IntKind.i64.wrap (a.snd.I+1)}) (c++[⟨6,b.fst,a.fst,d.At,[]⟩]))))else none)))))
abbrev Jf (f:Us):Jl:=λa=>((cE f a).bind λb=>((b6 f a ([108,97,116,116,105,99,101])).bind λM=>(bif M then((b6 f a ([108,97,116,116,105,99,101])).bind λN=>(bif N then((de f ({a with I:=IntKind.i64.wrap (a.I+1)}) 1).bind λx=>((bI f x.snd ([61])).bind λO=>((nK f O.snd).bind λy=>((bI f y.snd ([59])).bind λP=>(some ((⟨2,x.fst,0,b.At,[y.fst]⟩),P.snd))))))else((de f ({a with I:=IntKind.i64.wrap (a.I+1)}) 1).bind λz=>((bI f z.snd ([58])).bind λQ=>((nK f Q.snd).bind λA=>((bI f A.snd ([59])).bind λR=>(some ((⟨3,z.fst,0,b.At,[A.fst]⟩),R.snd))))))))else((b6 f a ([111,98,106,101,99,116])).bind λS=>(bif S then((b6 f a ([108,97,116,116,105,99,101])).bind λT=>(bif T then((de f ({a with I:=IntKind.i64.wrap (a.I+1)}) 1).bind λB=>((bI f B.snd ([61])).bind λU=>((nK f U.snd).bind λC=>((bI f C.snd ([59])).bind λV=>(some ((⟨2,B.fst,0,b.At,[C.fst]⟩),V.snd))))))else((de f ({a with I:=IntKind.i64.wrap (a.I+1)}) 1).bind λD=>((bI f D.snd ([58])).bind λW=>((nK f W.snd).bind λE=>((bI f E.snd ([59])).bind λX=>(some ((⟨3,D.fst,0,b.At,[E.fst]⟩),X.snd))))))))else((b6 f a ([117,112,100,97,116,101])).bind λY=>(bif !Y then((b6 f a ([113,117,101,114,121])).bind λZ=>(bif !Z then((kO f a 2).bind λy30=>(some ((⟨0,[],0,b.At,[]⟩),y30.snd)))else((b6 f a ([113,117,101,114,121])).bind λy31=>(bif y31 then((de f ({a with I:=IntKind.i64.wrap (a.I+1)}) 1).bind λh=>((bI f h.snd ([40])).bind λi=>((b6 f i.snd ([41])).bind λy35=>(bif !y35 then(ER f b h i.snd ([]))else((bI f i.snd ([41])).bind λy61=>((bI f y61.snd ([111,110])).bind λF=>((cE f F.snd).bind λj=>((de f F.snd 1).bind λc=>(bif decide ((([]:List ab)++([⟨48,c.fst,0,j.At,[]⟩]:List ab)).length<=274877906944)then((bI f c.snd ([58])).bind λy66=>((oC f y66.snd).bind λG=>((bI f G.snd ([61])).bind λy68=>((gR f y68.snd).bind λk=>(bif decide ((([]++[⟨48,c.fst,0,j.At,[]⟩]:List ab)++([k.fst]:List ab)).length<=274877906944)then((bI f k.snd ([59])).bind λy71=>(some ((⟨5,h.fst,G.fst,b.At,[]++[⟨48,c.fst,0,j.At,[]⟩]++[k.fst]⟩),y71.snd)))else none)))))else none)))))))))else((de f ({a with I:=IntKind.i64.wrap (a.I+1)}) 1).bind λl=>((bI f l.snd ([40])).bind λm=>((b6 f m.snd ([41])).bind λy74=>(bif !y74 then(ET f b l m.snd ([]))else((bI f m.snd ([41])).bind λy98=>((bI f y98.snd ([111,110])).bind λH=>((cE f H.snd).bind λn=>((de f H.snd 1).bind λd=>(bif decide ((([]:List ab)++([⟨48,d.fst,0,n.At,[]⟩]:List ab)).length<=274877906944)then((bI f d.snd ([61])).bind λy103=>((gR f y103.snd).bind λo=>(bif decide ((([]++[⟨48,d.fst,0,n.At,[]⟩]:List ab)++([o.fst]:List ab)).length<=274877906944)then((bI f o.snd ([59])).bind λy106=>(some ((⟨4,l.fst,0,b.At,[]++[⟨48,d.fst,0,n.At,[]⟩]++[o.fst]⟩),y106.snd)))else none)))else none)))))))))))))else((b6 f a ([113,117,101,114,121])).bind λy107=>(bif y107 then((de f ({a with I:=IntKind.i64.wrap (a.I+1)}) 1).bind λp=>((bI f p.snd ([40])).bind λq=>((b6 f q.snd ([41])).bind λy111=>(bif !y111 then(EV f b p q.snd ([]))else((bI f q.snd ([41])).bind λy137=>((bI f y137.snd ([111,110])).bind λJ=>((cE f J.snd).bind λr=>((de f J.snd 1).bind λe=>(bif decide ((([]:List ab)++([⟨48,e.fst,0,r.At,[]⟩]:List ab)).length<=274877906944)then((bI f e.snd ([58])).bind λy142=>((oC f y142.snd).bind λK=>((bI f K.snd ([61])).bind λy144=>((gR f y144.snd).bind λs=>(bif decide ((([]++[⟨48,e.fst,0,r.At,[]⟩]:List ab)++([s.fst]:List ab)).length<=274877906944)then((bI f s.snd ([59])).bind λy147=>(some ((⟨5,p.fst,K.fst,b.At,[]++[⟨48,e.fst,0,r.At,[]⟩]++[s.fst]⟩),y147.snd)))else none)))))else none)))))))))else((de f ({a with I:=IntKind.i64.wrap (a.I+1)}) 1).bind λt=>((bI f t.snd ([40])).bind λu=>((b6 f u.snd ([41])).bind λy150=>(bif !y150 then(EX f b t u.snd ([]))else((bI f u.snd ([41])).bind λy174=>((bI f y174.snd ([111,110])).bind λL=>((cE f L.snd).bind λv=>((de f L.snd 1).bind λg=>(bif decide ((([]:List ab)++([⟨48,g.fst,0,v.At,[]⟩]:List ab)).length<=274877906944)then((bI f g.snd ([61])).bind λy179=>((gR f y179.snd).bind λw=>(bif decide ((([]++[⟨48,g.fst,0,v.At,[]⟩]:List ab)++([w.fst]:List ab)).length<=274877906944)then((bI f w.snd ([59])).bind λy182=>(some ((⟨4,t.fst,0,b.At,[]++[⟨48,g.fst,0,v.At,[]⟩]++[w.fst]⟩),y182.snd)))else none)))else none))))))))))))))))))
abbrev EZ (f:Us):Pn:=λa b=>(bif !a.aR then((cE f a).bind λe=>(bif e.Kind !=6 then((Uf f a).bind λc=>(bif decide (((b:List ab)++([c.fst]:List ab)).length<=274877906944)then(E0 f c.snd (b++[c.fst]))else none))else((cE f a).bind λg=>(bif g.Kind !=6 then((kO f a 2).bind λd=>(bif d.snd.aR then(some ((ab.z,d.snd.aT)))else(some ((⟨1,[],0,0,b⟩,aM.z)))))else(some ((⟨1,[],0,0,b⟩,aM.z)))))))else(some ((ab.z,a.aT))))
abbrev Jr (f:Us):Jm:=λh d=>((Ue f h).bind λc=>(bif c.snd.Code !=0 then(some ((ab.z,c.snd)))else(bif d==1 then((gR f (⟨c.fst,0,0,false,aM.z⟩)).bind λa=>(bif !a.snd.aR then((cE f a.snd).bind λi=>(bif i.Kind !=6 then((kO f a.snd 2).bind λe=>(bif e.snd.aR then(some ((ab.z,e.snd.aT)))else(some ((a.fst,aM.z)))))else(some ((a.fst,aM.z)))))else(some ((ab.z,a.snd.aT)))))else(bif d==2 then((nK f (⟨c.fst,0,0,false,aM.z⟩)).bind λb=>(bif !b.snd.aR then((cE f b.snd).bind λj=>(bif j.Kind !=6 then((kO f b.snd 2).bind λg=>(bif g.snd.aR then(some ((ab.z,g.snd.aT)))else(some ((b.fst,aM.z)))))else(some ((b.fst,aM.z)))))else(some ((ab.z,b.snd.aT)))))else(E0 f (⟨c.fst,0,0,false,aM.z⟩) ([]))))))
abbrev Js (f:Us):Jn:=λa=>((u32 f a 0).bind λb=>(some b))
abbrev Jt (f:Us):Jo:=λa=>((u32 f a 1).bind λb=>(some b))
abbrev Ju (f:Us):Jp:=λa=>((u32 f a 2).bind λb=>(some b))
abbrev wy (f:Us):Fm:=λa=>(bif decide ((([]:List (List UInt8))++(a:List (List UInt8))).length<=274877906944)then(some ([]++a))else none)
def BZ (f:Us):B2:=((((G4 f,G5 f),(DY f,(D0 f,DW f))),((Bm f,G6 f),(G7 f,(G8 f,D2 f)))),(((Bn f,G' f),(D4 f,(Bo f,Ha f))),((D5 f,Bp f),(w8 f,(tV f,xB f)))))
def B0 (f:Us):B3:=((((Hb f,D6 f),(Hc f,(Hd f,ED f))),((BY f,Jb f),(He f,(Jc f,Hf f)))),(((Hg f,Hh f),(Hk f,(Hl f,D8 f))),((Hm f,Hn f),(Jd f,(D9 f,Eb f)))))
def B1 (f:Us):B4:=((((Ho f,Ec f),(Hq f,(Ee f,Hr f))),((Hs f,Eg f),(Ht f,(EG f,EL f)))),(((EJ f,EI f),(EO f,(EM f,Je f))),((Ei f,Bq f),(ES f,(EU f,EW f)))))
def Jq (f:Us):B6:=(((EY f,Jf f),(EZ f,Jr f)),((Js f,Jt f),(Ju f,wy f)))
def Qu (f:Us):Us:=((BZ f,B0 f),(B1 f,Jq f))
def Gu:Nat->Us
 |0=>PF.bot
 |n+1=>Qu (Gu n)
def Pu:Us:=PF.lm Gu
