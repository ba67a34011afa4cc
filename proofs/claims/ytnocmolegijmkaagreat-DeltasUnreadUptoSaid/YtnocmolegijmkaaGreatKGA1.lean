/- Printed by a program: what functions answer, and that they do. -/
import Derived.Test.YtnocmolegijmkaaGreatKVc
set_option linter.all false
section
set_option maxRecDepth 100000
noncomputable section
namespace Go.Proofs.YtnocmolegijmkaaGreat
open Go Go.Bw
abbrev Ni:=Int->Option Bool
abbrev Nj:=Int->Int->Option Int
abbrev Gk:=List UInt8->Option Bool
abbrev Nk:=List UInt8->List UInt8->Option Int
abbrev VA:=List (List UInt8)->List (List UInt8)->Int->Option Int
abbrev Gj:=List (List UInt8)->List (List UInt8)->Option Int
abbrev VB:=List Int->Int->Option Int
abbrev Nl:=List Int->Option Int
abbrev Nn:=Int->Option Bool
abbrev Gm:=Int->Int->Option Int
abbrev No:=aj->aj->Option Int
abbrev QM:=List aj->List aj->Int->Option Int
abbrev I3:=List aj->List aj->Option Int
abbrev Gi:=az->az->Option Int
abbrev QN:=List az->List az->Int->Option Int
abbrev I4:=List az->List az->Option Int
abbrev Gh:=ah->ah->Option Int
abbrev QO:=List ah->List ah->Int->Option Int
abbrev I5:=List ah->List ah->Option Int
abbrev FO:=List (List UInt8)->Option (List (List UInt8))
abbrev Np:=az->az->Option Int
def G4:=((((Ni×Nj)×(Gk×(Nk×VA)))×((Gj×VB)×(Nl×(Nn×Gm))))×(((No×QM)×(I3×(Gi×QN)))×((I4×Gh)×(QO×(I5×FO)))))
def G5:=(Np×Gg)
instance:PF G4:=by delta G4;exact @PF.prod _ _ (@PF.prod _ _ inferInstance inferInstance) (@PF.prod _ _ inferInstance inferInstance)
instance:PF G5:=by delta G5;infer_instance
abbrev Us:=(G4×G5)
def iu:=(PF.i (D:=Us)).a
def Z9:=(PF.i (D:=Us)).b
def Gt:=iu.a.a.a.a
def BO:=iu.a.a.a.b
def wQ:=iu.a.a.b.a
def Gn:=iu.a.a.b.b.a
def pK:=iu.a.a.b.b.b
def wP:=iu.a.b.a.a
def Ff:=iu.a.b.a.b
def wU:=iu.a.b.b.a
def Gv:=iu.a.b.b.b.a
def wR:=iu.a.b.b.b.b
def Gp:=iu.b.a.a.a
def o9:=iu.b.a.a.b
def EG:=iu.b.a.b.a
def wO:=iu.b.a.b.b.a
def pc:=iu.b.a.b.b.b
def EI:=iu.b.b.a.a
def sD:=iu.b.b.a.b
def pd:=iu.b.b.b.a
def EJ:=iu.b.b.b.b.a
def qf:=iu.b.b.b.b.b
def wX:=Z9.a
def Nr:=Z9.b
abbrev wS (f:Us):Ni:=λa0=>(some (a0 !=a0))
abbrev BP (f:Us):Nj:=λa0 a1=>((Gt f a0).bind λy1=>((Gt f a1).bind λy2=>(bif y1 then(bif y2 then(some 0)else(some (-1)))else(bif y2 then(some 1)else(bif decide (a0<a1)then(some (-1))else(bif decide (a0>a1)then(some 1)else(some 0)))))))
abbrev qq (f:Us):Gk:=λa0=>(some (!a0==a0))
abbrev BS (f:Us):Nk:=λa0 a1=>((wQ f a0).bind λy1=>((wQ f a1).bind λy2=>(bif y1 then(bif y2 then(some 0)else(some (-1)))else(bif y2 then(some 1)else(bif Op.bytesLess a0 a1 then(some (-1))else(bif !(Op.bytesLess a0 a1||a0==a1)then(some 1)else(some 0)))))))
abbrev rq (f:Us):VA:=λa0 a1 s1=>(bif decide (s1<(↑(aG a0).length:Int))then((aq a0 s1).bind λx3=>(bif decide (s1>=(↑(aG a1).length:Int))then(some 1)else((aq a1 s1).bind λx6=>((Gn f x3 x6).bind λy8=>(bif y8 !=0 then(some y8)else(pK f a0 a1 (IntKind.i64.wrap (s1+1))))))))else(bif decide ((↑(aG a0).length:Int)<(↑(aG a1).length:Int))then(some (-1))else(some 0)))
abbrev wW (f:Us):Gj:=λa0 a1=>(pK f a0 a1 0)
abbrev rp (f:Us):VB:=λa0 s1=>(bif decide (s1<(↑(dS IntKind.i64 a0).length:Int))then((aq a0 s1).bind λx3=>(bif x3 !=0 then(some x3)else(Ff f a0 (IntKind.i64.wrap (s1+1)))))else(some 0))
abbrev wV (f:Us):Nl:=λa0=>(Ff f a0 0)
abbrev wT (f:Us):Nn:=λa0=>(some (a0 !=a0))
abbrev BR (f:Us):Gm:=λa0 a1=>((Gv f a0).bind λy1=>((Gv f a1).bind λy2=>(bif y1 then(bif y2 then(some 0)else(some (-1)))else(bif y2 then(some 1)else(bif decide (a0<a1)then(some (-1))else(bif decide (a0>a1)then(some 1)else(some 0)))))))
abbrev BT (f:Us):No:=λa0 a1=>((wR f a0.Process a1.Process).bind λy1=>((BO f a0.N a1.N).bind λy2=>((wU f ([y1,y2])).bind λy3=>(some y3))))
abbrev qI (f:Us):QM:=λa0 a1 s1=>(bif decide (s1<(↑(aj.rows a0).length:Int))then((aq a0 s1).bind λx3=>(bif decide (s1>=(↑(aj.rows a1).length:Int))then(some 1)else((aq a1 s1).bind λx6=>((Gp f x3 x6).bind λy8=>(bif y8 !=0 then(some y8)else(o9 f a0 a1 (IntKind.i64.wrap (s1+1))))))))else(bif decide ((↑(aj.rows a0).length:Int)<(↑(aj.rows a1).length:Int))then(some (-1))else(some 0)))
abbrev tU (f:Us):I3:=λa0 a1=>(o9 f a0 a1 0)
abbrev BU (f:Us):Gi:=λa0 a1=>((Nr f a0.Name a1.Name).bind λy1=>((EG f a0.a8 a1.a8).bind λy2=>((wU f ([y1,y2])).bind λy3=>(some y3))))
abbrev qJ (f:Us):QN:=λa0 a1 s1=>(bif decide (s1<(↑(az.rows a0).length:Int))then((aq a0 s1).bind λx3=>(bif decide (s1>=(↑(az.rows a1).length:Int))then(some 1)else((aq a1 s1).bind λx6=>((wO f x3 x6).bind λy8=>(bif y8 !=0 then(some y8)else(pc f a0 a1 (IntKind.i64.wrap (s1+1))))))))else(bif decide ((↑(az.rows a0).length:Int)<(↑(az.rows a1).length:Int))then(some (-1))else(some 0)))
abbrev tV (f:Us):I4:=λa0 a1=>(pc f a0 a1 0)
abbrev BW (f:Us):Gh:=λa0 a1=>((BO f a0.N a1.N).bind λy1=>((wP f a0.Names a1.Names).bind λy2=>((wU f ([y1,y2])).bind λy3=>(bif y3 !=0 then(some y3)else((EJ f a0.ak a1.ak).bind λy5=>(bif y5 !=0 then(some y5)else((EI f a0.Entries a1.Entries).bind λy7=>(some y7))))))))
abbrev qK (f:Us):QO:=λa0 a1 s1=>(bif decide (s1<(↑(ah.rows a0).length:Int))then((aq a0 s1).bind λx3=>(bif decide (s1>=(↑(ah.rows a1).length:Int))then(some 1)else((aq a1 s1).bind λx6=>((sD f x3 x6).bind λy8=>(bif y8 !=0 then(some y8)else(pd f a0 a1 (IntKind.i64.wrap (s1+1))))))))else(bif decide ((↑(ah.rows a0).length:Int)<(↑(ah.rows a1).length:Int))then(some (-1))else(some 0)))
abbrev tW (f:Us):I5:=λa0 a1=>(pd f a0 a1 0)
abbrev vM (f:Us):FO:=λa0=>(bif decide ((([]:List (List UInt8))++(a0:List (List UInt8))).length<=274877906944)then(some ([]++a0))else none)
abbrev BX (f:Us):Np:=λa0 a1=>((sD f ({N:=0,Names:=[],ak:=[],Entries:=[a0]:ah}) ({N:=0,Names:=[],ak:=[],Entries:=[a1]:ah})).bind λy1=>(some y1))
def G3 (f:Us):G4:=((((wS f,BP f),(qq f,(BS f,rq f))),((wW f,rp f),(wV f,(wT f,BR f)))),(((BT f,qI f),(tU f,(BU f,qJ f))),((tV f,BW f),(qK f,(tW f,vM f)))))
def PB (f:Us):G5:=(BX f,BN)
def Qu (f:Us):Us:=(G3 f,PB f)
def Gu:Nat->Us
 |0=>PF.bot
 |n+1=>Qu (Gu n)
def Pu:Us:=PF.lm Gu
theorem Xu0 {f:Nat->Us} {p} (h:PF.R f p):PF.R (λn=>G3 (f n)) (G3 p):=by unfold G3 wW wV tU tV tW;exact zP h
theorem Xu1 {f:Nat->Us} {p} (h:PF.R f p):PF.R (λn=>PB (f n)) (PB p):=zP h
set_option maxHeartbeats 0 in
theorem Xu:PF.Fix Gu (Qu):=PF.fix (Φ:=λn=>Qu) (λf p h=>(PF.pair (Xu0 h) (Xu1 h))) rfl λ_=>rfl
theorem ahd:PF.R (λn=>qf (Gu n)) (qf Pu):=PF.K.k _ Xu.1
theorem akj:PF.R (λn=>wX (Gu n)) (wX Pu):=PF.K.k _ Xu.1
theorem Du {β:Type} [PF β] (π:PF.K Us β):π Pu=π (Qu Pu):=congrArg π.f Xu.2
theorem X6 (a0):Gt Pu a0=wS Pu a0:=cI (Du _) _
theorem ajZ (a0 a1):BO Pu a0 a1=BP Pu a0 a1:=bq (Du _) _ _
theorem F3 (a0):wQ Pu a0=qq Pu a0:=cI (Du _) _
theorem aj1 (a0 a1):Gn Pu a0 a1=BS Pu a0 a1:=bq (Du _) _ _
theorem Jz (a0 a1 s1):pK Pu a0 a1 s1=rq Pu a0 a1 s1:=cF (Du _) _ _ _
theorem aj5 (a0 a1):wP Pu a0 a1=wW Pu a0 a1:=bq (Du _) _ _
theorem Jy (a0 s1):Ff Pu a0 s1=rp Pu a0 s1:=bq (Du _) _ _
theorem aj2 (a0):wU Pu a0=wV Pu a0:=cI (Du _) _
theorem X7 (a0):Gv Pu a0=wT Pu a0:=cI (Du _) _
theorem aj0 (a0 a1):wR Pu a0 a1=BR Pu a0 a1:=bq (Du _) _ _
theorem aj3 (a0 a1):Gp Pu a0 a1=BT Pu a0 a1:=bq (Du _) _ _
theorem HP (a0 a1 s1):o9 Pu a0 a1 s1=qI Pu a0 a1 s1:=cF (Du _) _ _ _
theorem aec (a0 a1):EG Pu a0 a1=tU Pu a0 a1:=bq (Du _) _ _
theorem aj4 (a0 a1):wO Pu a0 a1=BU Pu a0 a1:=bq (Du _) _ _
theorem HQ (a0 a1 s1):pc Pu a0 a1 s1=qJ Pu a0 a1 s1:=cF (Du _) _ _ _
theorem aee (a0 a1):EI Pu a0 a1=tV Pu a0 a1:=bq (Du _) _ _
theorem aj6 (a0 a1):sD Pu a0 a1=BW Pu a0 a1:=bq (Du _) _ _
theorem HR (a0 a1 s1):pd Pu a0 a1 s1=qK Pu a0 a1 s1:=cF (Du _) _ _ _
theorem aef (a0 a1):EJ Pu a0 a1=tW Pu a0 a1:=bq (Du _) _ _
theorem Xr (a0):qf Pu a0=vM Pu a0:=cI (Du _) _
theorem aj7 (a0 a1):wX Pu a0 a1=BX Pu a0 a1:=bq (Du _) _ _
theorem aha:Nr Pu=BN:=Du _
def X8 (p:Ni):Prop:=∀a0 r,p a0=some r->Pure env.toCx 245 [(.v (.int .i64 a0))] (.ret (.v (.bool r)))
def X9 (p:Nj):Prop:=∀a0 a1 r,p a0 a1=some r->Pure env.toCx 195 [(.v (.int .i64 a0)),(.v (.int .i64 a1))] (.ret (.v (.int .i64 r)))
def Nb (p:Gk):Prop:=∀a0 r,p a0=some r->Pure env.toCx 247 [(.v (.string ⟨⟨a0⟩⟩))] (.ret (.v (.bool r)))
def X' (p:Nk):Prop:=∀a0 a1 r,p a0 a1=some r->Pure env.toCx 246 [(.v (.string ⟨⟨a0⟩⟩)),(.v (.string ⟨⟨a1⟩⟩))] (.ret (.v (.int .i64 r)))
def Nc (p:Gj):Prop:=∀a0 a1 r,p a0 a1=some r->Pure env.toCx 196 [(.sl 1 (aG a0)),(.sl 1 (aG a1))] (.ret (.v (.int .i64 r)))
def Ya (p:Nl):Prop:=∀a0 r,p a0=some r->Pure env.toCx 194 [(.sl 1 (dS .i64 a0))] (.ret (.v (.int .i64 r)))
def Yb (p:Nn):Prop:=∀a0 r,p a0=some r->Pure env.toCx 283 [(.v (.int .i64 a0))] (.ret (.v (.bool r)))
def Nd (p:Gm):Prop:=∀a0 a1 r,p a0 a1=some r->Pure env.toCx 264 [(.v (.int .i64 a0)),(.v (.int .i64 a1))] (.ret (.v (.int .i64 r)))
def Yc (p:No):Prop:=∀a0 a1 r,p a0 a1=some r->Pure env.toCx 229 [(.agg (aj.cs a0)),(.agg (aj.cs a1))] (.ret (.v (.int .i64 r)))
def Ti (p:I3):Prop:=∀a0 a1 r,p a0 a1=some r->Pure env.toCx 228 [(.sl 2 (aj.rows a0)),(.sl 2 (aj.rows a1)),(.v (.func (.func 229) #[] #[]))] (.ret (.v (.int .i64 r)))
def Ng (p:Gi):Prop:=∀a0 a1 r,p a0 a1=some r->Pure env.toCx 173 [(.agg (az.cs a0)),(.agg (az.cs a1))] (.ret (.v (.int .i64 r)))
def Tj (p:I4):Prop:=∀a0 a1 r,p a0 a1=some r->Pure env.toCx 198 [(.sl 2 (az.rows a0)),(.sl 2 (az.rows a1)),(.v (.func (.func 173) #[] #[]))] (.ret (.v (.int .i64 r)))
def Nh (p:Gh):Prop:=∀a0 a1 r,p a0 a1=some r->Pure env.toCx 141 [(.agg (ah.cs a0)),(.agg (ah.cs a1))] (.ret (.v (.int .i64 r)))
def Tl (p:I5):Prop:=∀a0 a1 r,p a0 a1=some r->Pure env.toCx 197 [(.sl 4 (ah.rows a0)),(.sl 4 (ah.rows a1)),(.v (.func (.func 141) #[] #[]))] (.ret (.v (.int .i64 r)))
def FP (p:FO):Prop:=∀a0 r,p a0=some r->kB env 129 [(.sl 1 (aG a0))] 9 1 (aG r)
def Na (p:Np):Prop:=∀a0 a1 r,p a0 a1=some r->Pure env.toCx 244 [(.agg (az.cs a0)),(.agg (az.cs a1))] (.ret (.v (.int .i64 r)))
structure Ku (n:Nat):Prop where
 akl:X8 (Gt (Gu n))
 Yd:X9 (BO (Gu n))
 BZ:Nb (wQ (Gu n))
 akm:X' (Gn (Gu n))
 Gs:Nc (wP (Gu n))
 Nf:Ya (wU (Gu n))
 akn:Yb (Gv (Gu n))
 Gq:Nd (wR (Gu n))
 ako:Yc (Gp (Gu n))
 aej:Ti (EG (Gu n))
 Gr:Ng (wO (Gu n))
 ael:Tj (EI (Gu n))
 B0:Nh (sD (Gu n))
 aek:Tl (EJ (Gu n))
 FQ:FP (qf (Gu n))
 akk:Na (wX (Gu n))
 BY:Nq (Nr (Gu n))
def Ou (n:Nat):Prop:=∀m,m<=n->Ku m
theorem Ou.a {N m:Nat} (h:Ou N) (hm:m<=N:=by omega):Ku m:=h m hm
end Go.Proofs.YtnocmolegijmkaaGreat
end

section
set_option maxRecDepth 100000
noncomputable section
namespace Go.Proofs.YtnocmolegijmkaaGreat
open Go Go.Bw Go.Proofs.Tryz
theorem aj8 {n} (o:Ou n):X8 (wS (Gu n)):=by
 intro a0 r g;rw[wS]at g;refine yw func245 ntmps245 ?_;cases g;exact zl
theorem aj9 {n} (o:Ou n):X9 (BP (Gu n)):=by
 intro a0 a1 r g;rw[BP]at g;refine yw func195 ntmps195 ?_
 iterate 2 (refine yc g (o.a.akl _) λy g=>?_)
 refine aA g ?_ ?_<;>intro _ g;exact dM g
 iterate 2 (refine aQ g λ_ g=>?_)
 exact dM g
theorem aj' {n} (o:Ou n):Nb (qq (Gu n)):=by
 intro a0 r g;rw[qq]at g;refine yw func247 ntmps247 ?_;cases g;exact zl
theorem aka {n} (o:Ou n):X' (BS (Gu n)):=by
 intro a0 a1 r g;rw[BS]at g;refine yw func246 ntmps246 ?_
 iterate 2 (refine yc g (o.a.BZ _) λy g=>?_)
 refine aA g ?_ ?_<;>intro _ g;exact dM g
 iterate 2 (refine aQ g λ_ g=>?_)
 exact dM g
theorem akb {n} (o:Ou n):Nc (wW (Gu n)):=by
 intro a0 a1 r g;rw[wW]at g;refine yw func196 ntmps196 ?_;refine yk<|yL (S:=Int) (G:=λm s=>pK (Gu m) a0 a1 s) (s0:=0) 0 [0,1,4,9,10] [11] (λs=>[(11,.d (.v (.int .i64 s)))]) (λs=>[]) g ?_;rintro n s1 _ g;change rq (Gu n) a0 a1 s1=_ at g;rw[rq]at g;refine yz ?_
 refine aA g ?_ ?_<;>intro _ g;refine yX g dF λx _ _ g=>?_;refine aQ g λ_ g=>?_;refine yX g dF λx _ _ g=>?_;refine yc g (o.a.akm _ _) λy g=>?_;refine aQ g λ_ g=>?_;exact yk (yN _ n ⟨by omega,g⟩);exact dM g
theorem akc {n} (o:Ou n):Ya (wV (Gu n)):=by
 intro a0 r g;rw[wV]at g;refine yw func194 ntmps194 ?_;refine yk<|yL (S:=Int) (G:=λm s=>Ff (Gu m) a0 s) (s0:=0) 0 [2,3,6,7] [8] (λs=>[(8,.d (.v (.int .i64 s)))]) (λs=>[]) g ?_;rintro n s1 _ g;change rp (Gu n) a0 s1=_ at g;rw[rp]at g;refine yz ?_
 refine bp g λ_ g=>?_;refine yX g D4 λx _ _ g=>?_;refine aQ g λ_ g=>?_;exact yk (yN _ n ⟨by omega,g⟩)
theorem akd {n} (o:Ou n):Yb (wT (Gu n)):=by
 intro a0 r g;rw[wT]at g;refine yw func283 ntmps283 ?_;cases g;exact zl
theorem ake {n} (o:Ou n):Nd (BR (Gu n)):=by
 intro a0 a1 r g;rw[BR]at g;refine yw func264 ntmps264 ?_
 iterate 2 (refine yc g (o.a.akn _) λy g=>?_)
 refine aA g ?_ ?_<;>intro _ g;exact dM g
 iterate 2 (refine aQ g λ_ g=>?_)
 exact dM g
theorem akf {n} (o:Ou n):Yc (BT (Gu n)):=by
 intro a0 a1 r g;rw[BT]at g;refine yw func229 ntmps229 ?_;refine yo [0,1,2,3,4,5,6,7,8,9,10,11,12] [] [] ?_;obtain⟨y,z,g⟩:=bx g (o.a.Gq _ _);refine yl (yC z) ?_;obtain⟨y,z,g⟩:=bx g (o.a.Yd _ _);refine yl (yC z) ?_;obtain⟨y,z,g⟩:=bx g (o.a.Nf _);refine yl (yC z) ?_;cases g;exact zl
theorem aeg {n} (o:Ou n):Ti (tU (Gu n)):=by
 intro a0 a1 r g;rw[tU]at g;refine yw func228 ntmps228 ?_;refine yk<|yL (S:=Int) (G:=λm s=>o9 (Gu m) a0 a1 s) (s0:=0) 0 [0,1,2,6,11,12] [13] (λs=>[(13,.d (.v (.int .i64 s)))]) (λs=>[]) g ?_;rintro n s1 _ g;change qI (Gu n) a0 a1 s1=_ at g;rw[qI]at g;refine yz ?_
 refine aA g ?_ ?_<;>intro _ g;refine yX g aj.aE λx _ _ g=>?_;refine aQ g λ_ g=>?_;refine yX g aj.aE λx _ _ g=>?_;refine yc g (o.a.ako _ _) λy g=>?_;refine aQ g λ_ g=>?_;exact yk (yN _ n ⟨by omega,g⟩);exact dM g
theorem akg {n} (o:Ou n):Ng (BU (Gu n)):=by
 intro a0 a1 r g;rw[BU]at g;refine yw func173 ntmps173 ?_;refine yo [0,1,2,3,4,5,6,7,8,9,10,11,12] [] [] ?_;obtain⟨y,z,g⟩:=bx g (o.a.BY _ _);refine yl (yC z) ?_;obtain⟨y,z,g⟩:=bx g (o.a.aej _ _);refine yl (yC z) ?_;obtain⟨y,z,g⟩:=bx g (o.a.Nf _);refine yl (yC z) ?_;cases g;exact zl
theorem aeh {n} (o:Ou n):Tj (tV (Gu n)):=by
 intro a0 a1 r g;rw[tV]at g;refine yw func198 ntmps198 ?_;refine yk<|yL (S:=Int) (G:=λm s=>pc (Gu m) a0 a1 s) (s0:=0) 0 [0,1,2,6,11,12] [13] (λs=>[(13,.d (.v (.int .i64 s)))]) (λs=>[]) g ?_;rintro n s1 _ g;change qJ (Gu n) a0 a1 s1=_ at g;rw[qJ]at g;refine yz ?_
 refine aA g ?_ ?_<;>intro _ g;refine yX g az.aE λx _ _ g=>?_;refine aQ g λ_ g=>?_;refine yX g az.aE λx _ _ g=>?_;refine yc g (o.a.Gr _ _) λy g=>?_;refine aQ g λ_ g=>?_;exact yk (yN _ n ⟨by omega,g⟩);exact dM g
theorem akh {n} (o:Ou n):Nh (BW (Gu n)):=by
 intro a0 a1 r g;rw[BW]at g;refine yw func141 ntmps141 ?_;refine yo [0,1,2,3,4,5,6,7,8,9,10,11,12] [] [] ?_;obtain⟨y,z,g⟩:=bx g (o.a.Yd _ _);refine yl (yC z) ?_;obtain⟨y,z,g⟩:=bx g (o.a.Gs _ _);refine yl (yC z) ?_;obtain⟨y,z,g⟩:=bx g (o.a.Nf _);refine yl (yC z) ?_;refine aQ g λ_ g=>?_;refine yc g (o.a.aek _ _) λy g=>?_;refine aQ g λ_ g=>?_;refine yc g (o.a.ael _ _) λy g=>?_;cases g;exact zl
theorem aei {n} (o:Ou n):Tl (tW (Gu n)):=by
 intro a0 a1 r g;rw[tW]at g;refine yw func197 ntmps197 ?_;refine yk<|yL (S:=Int) (G:=λm s=>pd (Gu m) a0 a1 s) (s0:=0) 0 [0,1,2,6,11,12] [13] (λs=>[(13,.d (.v (.int .i64 s)))]) (λs=>[]) g ?_;rintro n s1 _ g;change qK (Gu n) a0 a1 s1=_ at g;rw[qK]at g;refine yz ?_
 refine aA g ?_ ?_<;>intro _ g;refine yX g ah.aE λx _ _ g=>?_;refine aQ g λ_ g=>?_;refine yX g ah.aE λx _ _ g=>?_;refine yc g (o.a.B0 _ _) λy g=>?_;refine aQ g λ_ g=>?_;exact yk (yN _ n ⟨by omega,g⟩);exact dM g
theorem ahb {n} (o:Ou n):FP (vM (Gu n)):=by
 intro a0 r g;rw[vM]at g;refine kB.walk (E:=env) func129 rfl zk (rs:=_) rfl ntmps129 rfl (yz ?_);refine Ok.stuck aU<|au.jg 3 rfl ?_ ?_
 intro cap k;replace g:(some [])=some r:=(by have l:a0=[]:=DA.1 (by have k:=congrArg List.length k;simpa only[bH,lG]using k);subst l;simpa using g);refine yz ?_;refine yv (bA.toP (bA.lY (et:=9) rfl zk rfl rfl)) ?_;refine Ok.fin aU ?_;obtain rfl:=oZ g;exact RD.Is rfl rfl (by simp only[iQ]);intro ad n0 cap;refine yz ?_;refine yv (bA.toP (bA.lY (et:=9) rfl zk rfl rfl)) ?_;obtain⟨k,g⟩:=bL g;refine yk<|DO.r9 (rows2:=(aG a0)) rfl rfl zg rfl (cq.refl _) rfl rfl (HU _) rfl rfl rfl (zo k) (yz ?_)
 refine Ok.fin aU ?_;obtain rfl:=oZ g;exact RD.J3 rfl rfl rfl rfl zi
theorem aki {n} (o:Ou n):Na (BX (Gu n)):=by
 intro a0 a1 r g;rw[BX]at g;refine yw func244 ntmps244 ?_;refine yc g (o.a.B0 _ _) λy g=>?_;cases g;exact zl
end Go.Proofs.YtnocmolegijmkaaGreat
end

section
set_option maxRecDepth 100000
noncomputable section
namespace Go.Proofs.YtnocmolegijmkaaGreat
open Go Go.Bw
theorem hu:∀n,Ku n:=by
 intro n
 induction n using Nat.strongRecOn with|_ n ih=>?_
 rcases n with _|n
 ·constructor<;>(repeat intro _)<;>contradiction
 ·have h:Ou n:=λm hm=>ih m (by omega);exact⟨aj8 h,aj9 h,aj' h,aka h,akb h,akc h,akd h,ake h,akf h,aeg h,akg h,aeh h,akh h,aei h,ahb h,aki h,BY⟩
theorem ahc:FP (qf Pu):=λa0 r h=>by
 obtain⟨n,hn⟩:=PF.ex (PF.ap ahd a0) h;exact(hu n).FQ a0 _ hn
theorem ajY:Na (wX Pu):=λa0 a1 r h=>by
 obtain⟨n,hn⟩:=PF.ex (PF.ap (PF.ap akj a0) a1) h;exact(hu n).akk a0 a1 _ hn
