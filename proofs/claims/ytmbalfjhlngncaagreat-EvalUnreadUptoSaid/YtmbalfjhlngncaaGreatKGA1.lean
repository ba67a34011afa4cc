/- Printed by a program: what functions answer, and that they do. -/
import Derived.Test.YtmbalfjhlngncaaGreatKSc
set_option linter.all false
section
set_option maxRecDepth 100000
noncomputable section
namespace Go.Proofs.YtmbalfjhlngncaaGreat
open Go Go.Bw
abbrev K5:=Int->Option Bool
abbrev EF:=Int->Int->Option Int
abbrev K6:=Int->Option Bool
abbrev K7:=Int->Int->Option Int
abbrev SH:=List Int->Int->Option Int
abbrev K8:=List Int->Option Int
abbrev K9:=ai->ai->Option Int
abbrev NI:=List ai->List ai->Int->Option Int
abbrev Hl:=List ai->List ai->Option Int
abbrev EB:=ax->ax->Option Int
abbrev EG:=List UInt8->Option Bool
abbrev La:=List UInt8->List UInt8->Option Int
abbrev SI:=List (List UInt8)->List (List UInt8)->Int->Option Int
abbrev ED:=List (List UInt8)->List (List UInt8)->Option Int
abbrev NJ:=List ax->List ax->Int->Option Int
abbrev Hm:=List ax->List ax->Option Int
abbrev EC:=af->af->Option Int
abbrev NK:=List af->List af->Int->Option Int
abbrev Hn:=List af->List af->Option Int
abbrev EH:=List (List UInt8)->Option (List (List UInt8))
abbrev Lb:=ax->ax->Option Int
def Fo:=((((K5×EF)×(K6×(K7×SH)))×((K8×K9)×(NI×(Hl×EB))))×(((EG×La)×(SI×(ED×NJ)))×((Hm×EC)×(NK×(Hn×EH)))))
def Fp:=(Lb×EA)
instance:PF Fo:=by delta Fo;infer_instance
instance:PF Fp:=by delta Fp;infer_instance
abbrev Us:=(Fo×Fp)
def gF:=(PF.i (α:=Us)).a
def Xn:=(PF.i (α:=Us)).b
def ER:=gF.a.a.a.a
def vt:=gF.a.a.a.b
def ES:=gF.a.a.b.a
def AU:=gF.a.a.b.b.a
def DG:=gF.a.a.b.b.b
def vx:=gF.a.b.a.a
def EJ:=gF.a.b.a.b
def ox:=gF.a.b.b.a
def CZ:=gF.a.b.b.b.a
def vp:=gF.a.b.b.b.b
def vu:=gF.b.a.a.a
def EI:=gF.b.a.a.b
def oW:=gF.b.a.b.a
def vq:=gF.b.a.b.b.a
def oy:=gF.b.a.b.b.b
def C1:=gF.b.b.a.a
def rB:=gF.b.b.a.b
def oz:=gF.b.b.b.a
def C2:=gF.b.b.b.b.a
def pD:=gF.b.b.b.b.b
def vA:=Xn.a
def Ld:=Xn.b
abbrev vw (f:Us):K5:=λa0=>(some (a0 !=a0))
abbrev AX (f:Us):EF:=λa0 a1=>((ER f a0).bind λy1=>((ER f a1).bind λy2=>(bif y1 then(bif y2 then(some 0)else(some (-1)))else(bif y2 then(some 1)else(bif decide (a0<a1)then(some (-1))else(bif decide (a0>a1)then(some 1)else(some 0)))))))
abbrev vv (f:Us):K6:=λa0=>(some (a0 !=a0))
abbrev AW (f:Us):K7:=λa0 a1=>((ES f a0).bind λy1=>((ES f a1).bind λy2=>(bif y1 then(bif y2 then(some 0)else(some (-1)))else(bif y2 then(some 1)else(bif decide (a0<a1)then(some (-1))else(bif decide (a0>a1)then(some 1)else(some 0)))))))
abbrev qI (f:Us):SH:=λa0 s1=>(bif decide (s1<(↑(dJ IntKind.i64 a0).length:Int))then((ao a0 s1).bind λx3=>(bif x3 !=0 then(some x3)else(DG f a0 (IntKind.i64.wrap (s1+1)))))else(some 0))
abbrev vy (f:Us):K8:=λa0=>(DG f a0 0)
abbrev AZ (f:Us):K9:=λa0 a1=>((vt f a0.Process a1.Process).bind λy1=>((AU f a0.N a1.N).bind λy2=>((vx f ([y1,y2])).bind λy3=>(some y3))))
abbrev pX (f:Us):NI:=λa0 a1 s1=>(bif decide (s1<(↑(ai.rows a0).length:Int))then((ao a0 s1).bind λx3=>(bif decide (s1>=(↑(ai.rows a1).length:Int))then(some 1)else((ao a1 s1).bind λx6=>((EJ f x3 x6).bind λy8=>(bif y8 !=0 then(some y8)else(ox f a0 a1 (IntKind.i64.wrap (s1+1))))))))else(bif decide ((↑(ai.rows a0).length:Int)<(↑(ai.rows a1).length:Int))then(some (-1))else(some 0)))
abbrev sO (f:Us):Hl:=λa0 a1=>(ox f a0 a1 0)
abbrev A0 (f:Us):EB:=λa0 a1=>((Ld f a0.Name a1.Name).bind λy1=>((CZ f a0.aY a1.aY).bind λy2=>((vx f ([y1,y2])).bind λy3=>(some y3))))
abbrev pE (f:Us):EG:=λa0=>(some (!a0==a0))
abbrev AY (f:Us):La:=λa0 a1=>((vu f a0).bind λy1=>((vu f a1).bind λy2=>(bif y1 then(bif y2 then(some 0)else(some (-1)))else(bif y2 then(some 1)else(bif Op.bytesLess a0 a1 then(some (-1))else(bif !(Op.bytesLess a0 a1||a0==a1)then(some 1)else(some 0)))))))
abbrev qJ (f:Us):SI:=λa0 a1 s1=>(bif decide (s1<(↑(aB a0).length:Int))then((ao a0 s1).bind λx3=>(bif decide (s1>=(↑(aB a1).length:Int))then(some 1)else((ao a1 s1).bind λx6=>((EI f x3 x6).bind λy8=>(bif y8 !=0 then(some y8)else(oW f a0 a1 (IntKind.i64.wrap (s1+1))))))))else(bif decide ((↑(aB a0).length:Int)<(↑(aB a1).length:Int))then(some (-1))else(some 0)))
abbrev vz (f:Us):ED:=λa0 a1=>(oW f a0 a1 0)
abbrev pY (f:Us):NJ:=λa0 a1 s1=>(bif decide (s1<(↑(ax.rows a0).length:Int))then((ao a0 s1).bind λx3=>(bif decide (s1>=(↑(ax.rows a1).length:Int))then(some 1)else((ao a1 s1).bind λx6=>((vp f x3 x6).bind λy8=>(bif y8 !=0 then(some y8)else(oy f a0 a1 (IntKind.i64.wrap (s1+1))))))))else(bif decide ((↑(ax.rows a0).length:Int)<(↑(ax.rows a1).length:Int))then(some (-1))else(some 0)))
abbrev sP (f:Us):Hm:=λa0 a1=>(oy f a0 a1 0)
abbrev A1 (f:Us):EC:=λa0 a1=>((AU f a0.N a1.N).bind λy1=>((vq f a0.Names a1.Names).bind λy2=>((vx f ([y1,y2])).bind λy3=>(bif y3 !=0 then(some y3)else((C2 f a0.aj a1.aj).bind λy5=>(bif y5 !=0 then(some y5)else((C1 f a0.Entries a1.Entries).bind λy7=>(some y7))))))))
abbrev pZ (f:Us):NK:=λa0 a1 s1=>(bif decide (s1<(↑(af.rows a0).length:Int))then((ao a0 s1).bind λx3=>(bif decide (s1>=(↑(af.rows a1).length:Int))then(some 1)else((ao a1 s1).bind λx6=>((rB f x3 x6).bind λy8=>(bif y8 !=0 then(some y8)else(oz f a0 a1 (IntKind.i64.wrap (s1+1))))))))else(bif decide ((↑(af.rows a0).length:Int)<(↑(af.rows a1).length:Int))then(some (-1))else(some 0)))
abbrev sQ (f:Us):Hn:=λa0 a1=>(oz f a0 a1 0)
abbrev uY (f:Us):EH:=λa0=>(bif decide ((([]:List (List UInt8))++(a0:List (List UInt8))).length<=274877906944)then(some ([]++a0))else none)
abbrev A2 (f:Us):Lb:=λa0 a1=>((rB f ({N:=0,Names:=[],aj:=[],Entries:=[a0]:af}) ({N:=0,Names:=[],aj:=[],Entries:=[a1]:af})).bind λy1=>(some y1))
def Fm (f:Us):Fo:=((((vw f,AX f),(vv f,(AW f,qI f))),((vy f,AZ f),(pX f,(sO f,A0 f)))),(((pE f,AY f),(qJ f,(vz f,pY f))),((sP f,A1 f),(pZ f,(sQ f,uY f)))))
def Mx (f:Us):Fp:=(A2 f,vo)
def Qu (f:Us):Us:=(Fm f,Mx f)
def Gu:Nat->Us
 |0=>PF.bot
 |n+1=>Qu (Gu n)
def Pu:Us:=PF.lm Gu
theorem Xu0 {f:Nat->Us} {p} (h:PF.R f p):PF.R (λn=>Fm (f n)) (Fm p):=by unfold Fm vy sO vz sP sQ;exact zP h
theorem Xu1 {f:Nat->Us} {p} (h:PF.R f p):PF.R (λn=>Mx (f n)) (Mx p):=zP h
set_option maxHeartbeats 0 in
theorem Xu:PF.Fix Gu (Qu):=PF.fix (Φ:=λn=>Qu) (λf p h=>(PF.pair (Xu0 h) (Xu1 h))) rfl λ_=>rfl
theorem ahy:PF.R (λn=>pD (Gu n)) (pD Pu):=PF.K.k _ Xu.1
theorem ahz:PF.R (λn=>vA (Gu n)) (vA Pu):=PF.K.k _ Xu.1
theorem Du {β:Type} [PF β] (π:PF.K Us β):π Pu=π (Qu Pu):=congrArg π.f Xu.2
theorem UX (a0):ER Pu a0=vw Pu a0:=cD (Du _) _
theorem ahc (a0 a1):vt Pu a0 a1=AX Pu a0 a1:=bt (Du _) _ _
theorem UW (a0):ES Pu a0=vv Pu a0:=cD (Du _) _
theorem ahb (a0 a1):AU Pu a0 a1=AW Pu a0 a1:=bt (Du _) _ _
theorem HU (a0 s1):DG Pu a0 s1=qI Pu a0 s1:=bt (Du _) _ _
theorem ahe (a0):vx Pu a0=vy Pu a0:=cD (Du _) _
theorem ahf (a0 a1):EJ Pu a0 a1=AZ Pu a0 a1:=bt (Du _) _ _
theorem F9 (a0 a1 s1):ox Pu a0 a1 s1=pX Pu a0 a1 s1:=cy (Du _) _ _ _
theorem acm (a0 a1):CZ Pu a0 a1=sO Pu a0 a1:=bt (Du _) _ _
theorem ahg (a0 a1):vp Pu a0 a1=A0 Pu a0 a1:=bt (Du _) _ _
theorem Ek (a0):vu Pu a0=pE Pu a0:=cD (Du _) _
theorem ahd (a0 a1):EI Pu a0 a1=AY Pu a0 a1:=bt (Du _) _ _
theorem HV (a0 a1 s1):oW Pu a0 a1 s1=qJ Pu a0 a1 s1:=cy (Du _) _ _ _
theorem ahh (a0 a1):vq Pu a0 a1=vz Pu a0 a1:=bt (Du _) _ _
theorem F' (a0 a1 s1):oy Pu a0 a1 s1=pY Pu a0 a1 s1:=cy (Du _) _ _ _
theorem aco (a0 a1):C1 Pu a0 a1=sP Pu a0 a1:=bt (Du _) _ _
theorem ahi (a0 a1):rB Pu a0 a1=A1 Pu a0 a1:=bt (Du _) _ _
theorem Ga (a0 a1 s1):oz Pu a0 a1 s1=pZ Pu a0 a1 s1:=cy (Du _) _ _ _
theorem acp (a0 a1):C2 Pu a0 a1=sQ Pu a0 a1:=bt (Du _) _ _
theorem UL (a0):pD Pu a0=uY Pu a0:=cD (Du _) _
theorem ahj (a0 a1):vA Pu a0 a1=A2 Pu a0 a1:=bt (Du _) _ _
theorem ae9:Ld Pu=vo:=Du _
def UY (p:K5):Prop:=∀a0 r,p a0=some r->Pure env.toCx 297 [(.v (.int .i64 a0))] (.ret (.v (.bool r)))
def KY (p:EF):Prop:=∀a0 a1 r,p a0 a1=some r->Pure env.toCx 259 [(.v (.int .i64 a0)),(.v (.int .i64 a1))] (.ret (.v (.int .i64 r)))
def U0 (p:K6):Prop:=∀a0 r,p a0=some r->Pure env.toCx 289 [(.v (.int .i64 a0))] (.ret (.v (.bool r)))
def U1 (p:K7):Prop:=∀a0 a1 r,p a0 a1=some r->Pure env.toCx 243 [(.v (.int .i64 a0)),(.v (.int .i64 a1))] (.ret (.v (.int .i64 r)))
def U3 (p:K8):Prop:=∀a0 r,p a0=some r->Pure env.toCx 238 [(.sl 1 (dJ .i64 a0))] (.ret (.v (.int .i64 r)))
def U4 (p:K9):Prop:=∀a0 a1 r,p a0 a1=some r->Pure env.toCx 241 [(.agg (ai.cs a0)),(.agg (ai.cs a1))] (.ret (.v (.int .i64 r)))
def Qc (p:Hl):Prop:=∀a0 a1 r,p a0 a1=some r->Pure env.toCx 240 [(.sl 2 (ai.rows a0)),(.sl 2 (ai.rows a1)),(.v (.func (.func 241) #[] #[]))] (.ret (.v (.int .i64 r)))
def K0 (p:EB):Prop:=∀a0 a1 r,p a0 a1=some r->Pure env.toCx 184 [(.agg (ax.cs a0)),(.agg (ax.cs a1))] (.ret (.v (.int .i64 r)))
def K2 (p:EG):Prop:=∀a0 r,p a0=some r->Pure env.toCx 319 [(.v (.string ⟨⟨a0⟩⟩))] (.ret (.v (.bool r)))
def U6 (p:La):Prop:=∀a0 a1 r,p a0 a1=some r->Pure env.toCx 290 [(.v (.string ⟨⟨a0⟩⟩)),(.v (.string ⟨⟨a1⟩⟩))] (.ret (.v (.int .i64 r)))
def K3 (p:ED):Prop:=∀a0 a1 r,p a0 a1=some r->Pure env.toCx 244 [(.sl 1 (aB a0)),(.sl 1 (aB a1))] (.ret (.v (.int .i64 r)))
def Qd (p:Hm):Prop:=∀a0 a1 r,p a0 a1=some r->Pure env.toCx 246 [(.sl 2 (ax.rows a0)),(.sl 2 (ax.rows a1)),(.v (.func (.func 184) #[] #[]))] (.ret (.v (.int .i64 r)))
def K4 (p:EC):Prop:=∀a0 a1 r,p a0 a1=some r->Pure env.toCx 186 [(.agg (af.cs a0)),(.agg (af.cs a1))] (.ret (.v (.int .i64 r)))
def Qg (p:Hn):Prop:=∀a0 a1 r,p a0 a1=some r->Pure env.toCx 245 [(.sl 4 (af.rows a0)),(.sl 4 (af.rows a1)),(.v (.func (.func 186) #[] #[]))] (.ret (.v (.int .i64 r)))
def EK (p:EH):Prop:=∀a0 r,p a0=some r->jM env 51 [(.sl 1 (aB a0))] 9 1 (aB r)
def KX (p:Lb):Prop:=∀a0 a1 r,p a0 a1=some r->Pure env.toCx 294 [(.agg (ax.cs a0)),(.agg (ax.cs a1))] (.ret (.v (.int .i64 r)))
structure Ku (n:Nat):Prop where
 UZ:UY (ER (Gu n))
 EM:KY (vt (Gu n))
 U2:U0 (ES (Gu n))
 U5:U1 (AU (Gu n))
 KZ:U3 (vx (Gu n))
 ahB:U4 (EJ (Gu n))
 acu:Qc (CZ (Gu n))
 EN:K0 (vp (Gu n))
 vB:K2 (vu (Gu n))
 ahC:U6 (EI (Gu n))
 EO:K3 (vq (Gu n))
 acw:Qd (C1 (Gu n))
 A4:K4 (rB (Gu n))
 acv:Qg (C2 (Gu n))
 EL:EK (pD (Gu n))
 ahA:KX (vA (Gu n))
 A3:Lc (Ld (Gu n))
def Ou (n:Nat):Prop:=∀m,m<=n->Ku m
theorem Ou.a {N m:Nat} (h:Ou N) (hm:m<=N:=by omega):Ku m:=h m hm
end Go.Proofs.YtmbalfjhlngncaaGreat
end

section
set_option maxRecDepth 100000
noncomputable section
namespace Go.Proofs.YtmbalfjhlngncaaGreat
open Go Go.Bw Go.Proofs.Tryz
/-cmp.isNaN[int]-/
theorem ahk {n} (o:Ou n):UY (vw (Gu n)):=by
 intro a0 r g;rw[vw]at g;refine yw func297 ntmps297 ?_;cases g;exact zl
/-cmp.Compare[int]-/
theorem ahl {n} (o:Ou n):KY (AX (Gu n)):=by
 intro a0 a1 r g;rw[AX]at g;refine yw func259 ntmps259 ?_;refine yc g (o.a.UZ _) λy1 g=>?_;refine yc g (o.a.UZ _) λy2 g=>?_;refine ay g (λ_ g=>?_) λ_ g=>?_;exact cO g
 iterate 2 (refine aM g λ_ g=>?_)
 exact cO g
/-cmp.isNaN[int64]-/
theorem ahm {n} (o:Ou n):U0 (vv (Gu n)):=by
 intro a0 r g;rw[vv]at g;refine yw func289 ntmps289 ?_;cases g;exact zl
/-cmp.Compare[int64]-/
theorem ahn {n} (o:Ou n):U1 (AW (Gu n)):=by
 intro a0 a1 r g;rw[AW]at g;refine yw func243 ntmps243 ?_;refine yc g (o.a.U2 _) λy1 g=>?_;refine yc g (o.a.U2 _) λy2 g=>?_;refine ay g (λ_ g=>?_) λ_ g=>?_;exact cO g
 iterate 2 (refine aM g λ_ g=>?_)
 exact cO g
/-cmp.Or[int]-/
theorem aho {n} (o:Ou n):U3 (vy (Gu n)):=by
 intro a0 r g;rw[vy]at g;refine yw func238 ntmps238 ?_;refine yk<|yL (S:=Int) (G:=λm s=>DG (Gu m) a0 s) (s0:=0) 0 [2,3,6,7] [8] (λs=>[(8,.d (.v (.int .i64 s)))]) (λs=>[]) g ?_;rintro n s1 _ g;change qI (Gu n) a0 s1=_ at g;rw[qI]at g;refine yz ?_
 refine bc g λ_ g=>?_;refine yX g Cm λx3 _ _ g=>?_;refine aM g λ_ g=>?_;exact yk (yN _ n ⟨by omega,g⟩)
/-plexus.value.compareTicks-/
theorem ahp {n} (o:Ou n):U4 (AZ (Gu n)):=by
 intro a0 a1 r g;rw[AZ]at g;refine yw func241 ntmps241 ?_;refine yo [0,1,2,3,4,5,6,7,8,9,10,11,12] [] [] ?_;obtain⟨y1,ey1,g⟩:=a8 g (o.a.EM _ _);refine yl (yC ey1) ?_;obtain⟨y2,ey2,g⟩:=a8 g (o.a.U5 _ _);refine yl (yC ey2) ?_;obtain⟨y3,ey3,g⟩:=a8 g (o.a.KZ _);refine yl (yC ey3) ?_;cases g;exact zl
/-slices.CompareFunc[[]plexus.api.Tick,[]plexus.api.Tick,plexus.api.Tick,plexus.api.Tick]-/
theorem acq {n} (o:Ou n):Qc (sO (Gu n)):=by
 intro a0 a1 r g;rw[sO]at g;refine yw func240 ntmps240 ?_;refine yk<|yL (S:=Int) (G:=λm s=>ox (Gu m) a0 a1 s) (s0:=0) 0 [0,1,2,6,11,12] [13] (λs=>[(13,.d (.v (.int .i64 s)))]) (λs=>[]) g ?_;rintro n s1 _ g;change pX (Gu n) a0 a1 s1=_ at g;rw[pX]at g;refine yz ?_
 refine ay g (λ_ g=>?_) λ_ g=>?_;refine yX g ai.aA λx3 _ _ g=>?_;refine aM g λ_ g=>?_;refine yX g ai.aA λx6 _ _ g=>?_;refine yc g (o.a.ahB _ _) λy8 g=>?_;refine aM g λ_ g=>?_;exact yk (yN _ n ⟨by omega,g⟩);exact cO g
/-plexus.value.compareEntries-/
theorem ahq {n} (o:Ou n):K0 (A0 (Gu n)):=by
 intro a0 a1 r g;rw[A0]at g;refine yw func184 ntmps184 ?_;refine yo [0,1,2,3,4,5,6,7,8,9,10,11,12] [] [] ?_;obtain⟨y1,ey1,g⟩:=a8 g (o.a.A3 _ _);refine yl (yC ey1) ?_;obtain⟨y2,ey2,g⟩:=a8 g (o.a.acu _ _);refine yl (yC ey2) ?_;obtain⟨y3,ey3,g⟩:=a8 g (o.a.KZ _);refine yl (yC ey3) ?_;cases g;exact zl
/-cmp.isNaN[string]-/
theorem ahr {n} (o:Ou n):K2 (pE (Gu n)):=by
 intro a0 r g;rw[pE]at g;refine yw func319 ntmps319 ?_;cases g;exact zl
/-cmp.Compare[string]-/
theorem ahs {n} (o:Ou n):U6 (AY (Gu n)):=by
 intro a0 a1 r g;rw[AY]at g;refine yw func290 ntmps290 ?_;refine yc g (o.a.vB _) λy1 g=>?_;refine yc g (o.a.vB _) λy2 g=>?_;refine ay g (λ_ g=>?_) λ_ g=>?_;exact cO g
 iterate 2 (refine aM g λ_ g=>?_)
 exact cO g
/-slices.Compare[[]string,string]-/
theorem aht {n} (o:Ou n):K3 (vz (Gu n)):=by
 intro a0 a1 r g;rw[vz]at g;refine yw func244 ntmps244 ?_;refine yk<|yL (S:=Int) (G:=λm s=>oW (Gu m) a0 a1 s) (s0:=0) 0 [0,1,4,9,10] [11] (λs=>[(11,.d (.v (.int .i64 s)))]) (λs=>[]) g ?_;rintro n s1 _ g;change qJ (Gu n) a0 a1 s1=_ at g;rw[qJ]at g;refine yz ?_
 refine ay g (λ_ g=>?_) λ_ g=>?_;refine yX g cL λx3 _ _ g=>?_;refine aM g λ_ g=>?_;refine yX g cL λx6 _ _ g=>?_;refine yc g (o.a.ahC _ _) λy8 g=>?_;refine aM g λ_ g=>?_;exact yk (yN _ n ⟨by omega,g⟩);exact cO g
/-slices.CompareFunc[[]plexus.api.Entry,[]plexus.api.Entry,plexus.api.Entry,plexus.api.Entry]-/
theorem acr {n} (o:Ou n):Qd (sP (Gu n)):=by
 intro a0 a1 r g;rw[sP]at g;refine yw func246 ntmps246 ?_;refine yk<|yL (S:=Int) (G:=λm s=>oy (Gu m) a0 a1 s) (s0:=0) 0 [0,1,2,6,11,12] [13] (λs=>[(13,.d (.v (.int .i64 s)))]) (λs=>[]) g ?_;rintro n s1 _ g;change pY (Gu n) a0 a1 s1=_ at g;rw[pY]at g;refine yz ?_
 refine ay g (λ_ g=>?_) λ_ g=>?_;refine yX g ax.aA λx3 _ _ g=>?_;refine aM g λ_ g=>?_;refine yX g ax.aA λx6 _ _ g=>?_;refine yc g (o.a.EN _ _) λy8 g=>?_;refine aM g λ_ g=>?_;exact yk (yN _ n ⟨by omega,g⟩);exact cO g
/-plexus.value.Compare-/
theorem ahu {n} (o:Ou n):K4 (A1 (Gu n)):=by
 intro a0 a1 r g;rw[A1]at g;refine yw func186 ntmps186 ?_;refine yo [0,1,2,3,4,5,6,7,8,9,10,11,12] [] [] ?_;obtain⟨y1,ey1,g⟩:=a8 g (o.a.U5 _ _);refine yl (yC ey1) ?_;obtain⟨y2,ey2,g⟩:=a8 g (o.a.EO _ _);refine yl (yC ey2) ?_;obtain⟨y3,ey3,g⟩:=a8 g (o.a.KZ _);refine yl (yC ey3) ?_;refine aM g λ_ g=>?_;refine yc g (o.a.acv _ _) λy5 g=>?_;refine aM g λ_ g=>?_;refine yc g (o.a.acw _ _) λy7 g=>?_;cases g;exact zl
/-slices.CompareFunc[[]plexus.api.Value,[]plexus.api.Value,plexus.api.Value,plexus.api.Value]-/
theorem acs {n} (o:Ou n):Qg (sQ (Gu n)):=by
 intro a0 a1 r g;rw[sQ]at g;refine yw func245 ntmps245 ?_;refine yk<|yL (S:=Int) (G:=λm s=>oz (Gu m) a0 a1 s) (s0:=0) 0 [0,1,2,6,11,12] [13] (λs=>[(13,.d (.v (.int .i64 s)))]) (λs=>[]) g ?_;rintro n s1 _ g;change pZ (Gu n) a0 a1 s1=_ at g;rw[pZ]at g;refine yz ?_
 refine ay g (λ_ g=>?_) λ_ g=>?_;refine yX g af.aA λx3 _ _ g=>?_;refine aM g λ_ g=>?_;refine yX g af.aA λx6 _ _ g=>?_;refine yc g (o.a.A4 _ _) λy8 g=>?_;refine aM g λ_ g=>?_;exact yk (yN _ n ⟨by omega,g⟩);exact cO g
/-slices.Clone[[]string,string]-/
theorem ahv {n} (o:Ou n):EK (uY (Gu n)):=by
 intro a0 r g;rw[uY]at g;refine jM.walk (E:=env) func51 rfl zk (rs:=_) rfl ntmps51 rfl (yz ?_);refine Ok.stuck aV<|ak.iU 3 rfl ?_ ?_
 intro cap h1;replace g:(some [])=some r:=(by have h0:a0=[]:=FJ.1 (by have h1:=congrArg List.length h1;simpa only[bD,lA]using h1);subst h0;simpa using g);refine yz ?_;refine yv (bp.toP (bp.mS (et:=9) rfl zk rfl rfl)) ?_;refine Ok.fin aV ?_;obtain rfl:=pS g;exact RD.GO rfl rfl (by simp only[gW]);intro ad n0 cap;refine yz ?_;refine yv (bp.toP (bp.mS (et:=9) rfl zk rfl rfl)) ?_;obtain⟨h2,g⟩:=bE g;refine yk<|DO.pw (rows2:=(aB a0)) rfl rfl zg rfl (bV.refl _) rfl rfl (Cd _) rfl rfl rfl (zo h2) (yz ?_)
 refine Ok.fin aV ?_;obtain rfl:=pS g;exact RD.Io rfl rfl rfl rfl zi
/-plexus.join.merged$2-/
theorem ahw {n} (o:Ou n):KX (A2 (Gu n)):=by
 intro a0 a1 r g;rw[A2]at g;refine yw func294 ntmps294 ?_;refine yc g (o.a.A4 _ _) λy1 g=>?_;cases g;exact zl
end Go.Proofs.YtmbalfjhlngncaaGreat
end

section
set_option maxRecDepth 100000
noncomputable section
namespace Go.Proofs.YtmbalfjhlngncaaGreat
open Go Go.Bw
theorem hu:∀n,Ku n:=by
 intro n
 induction n using Nat.strongRecOn with|_ n ih=>?_
 rcases n with _|n
 ·constructor<;>(repeat intro _)<;>contradiction
 ·have h:Ou n:=λm hm=>ih m (by omega);exact⟨ahk h,ahl h,ahm h,ahn h,aho h,ahp h,acq h,ahq h,ahr h,ahs h,aht h,acr h,ahu h,acs h,ahv h,ahw h,A3⟩
theorem ahx:EK (pD Pu):=λa0 r h=>by
 obtain⟨n,hn⟩:=PF.ex (PF.ap ahy a0) h;exact(hu n).EL a0 _ hn
theorem aha:KX (vA Pu):=λa0 a1 r h=>by
 obtain⟨n,hn⟩:=PF.ex (PF.ap (PF.ap ahz a0) a1) h;exact(hu n).ahA a0 a1 _ hn
