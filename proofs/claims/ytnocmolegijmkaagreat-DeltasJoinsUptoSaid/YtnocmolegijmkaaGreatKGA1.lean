/- Printed by a program: what functions answer, and that they do. -/
import Derived.Test.YtnocmolegijmkaaGreatKVc
set_option linter.all false
section
set_option maxRecDepth 100000
noncomputable section
namespace Go.Proofs.YtnocmolegijmkaaGreat
open Go Go.Bw
abbrev MQ:=Int->Option Bool
abbrev MR:=Int->Int->Option Int
abbrev Gz:=List UInt8->Option Bool
abbrev MS:=List UInt8->List UInt8->Option Int
abbrev Ux:=List (List UInt8)->List (List UInt8)->Int->Option Int
abbrev Gy:=List (List UInt8)->List (List UInt8)->Option Int
abbrev Uy:=List Int->Int->Option Int
abbrev MT:=List Int->Option Int
abbrev MU:=Int->Option Bool
abbrev GA:=Int->Int->Option Int
abbrev MV:=ah->ah->Option Int
abbrev Pz:=List ah->List ah->Int->Option Int
abbrev Jm:=List ah->List ah->Option Int
abbrev Gx:=az->az->Option Int
abbrev PA:=List az->List az->Int->Option Int
abbrev Jo:=List az->List az->Option Int
abbrev Gw:=af->af->Option Int
abbrev PB:=List af->List af->Int->Option Int
abbrev Jp:=List af->List af->Option Int
abbrev F3:=List (List UInt8)->Option (List (List UInt8))
abbrev MW:=az->az->Option Int
def He:=((((MQ×MR)×(Gz×(MS×Ux)))×((Gy×Uy)×(MT×(MU×GA))))×(((MV×Pz)×(Jm×(Gx×PA)))×((Jo×Gw)×(PB×(Jp×F3)))))
def Hf:=(MW×Gv)
instance:PF He:=by delta He;exact @PF.prod _ _ (@PF.prod _ _ inferInstance inferInstance) (@PF.prod _ _ inferInstance inferInstance)
instance:PF Hf:=by delta Hf;infer_instance
abbrev Us:=(He×Hf)
def iJ:=(PF.i (D:=Us)).a
def Y7:=(PF.i (D:=Us)).b
def GH:=iJ.a.a.a.a
def B':=iJ.a.a.a.b
def xg:=iJ.a.a.b.a
def GB:=iJ.a.a.b.b.a
def qb:=iJ.a.a.b.b.b
def xf:=iJ.a.b.a.a
def Ft:=iJ.a.b.a.b
def xk:=iJ.a.b.b.a
def GI:=iJ.a.b.b.b.a
def xh:=iJ.a.b.b.b.b
def GC:=iJ.b.a.a.a
def pH:=iJ.b.a.a.b
def EO:=iJ.b.a.b.a
def xe:=iJ.b.a.b.b.a
def pI:=iJ.b.a.b.b.b
def ES:=iJ.b.b.a.a
def sZ:=iJ.b.b.a.b
def pJ:=iJ.b.b.b.a
def ET:=iJ.b.b.b.b.a
def qE:=iJ.b.b.b.b.b
def xn:=Y7.a
def MY:=Y7.b
abbrev xi (f:Us):MQ:=λa0=>(some (a0 !=a0))
abbrev Ca (f:Us):MR:=λa0 a1=>((GH f a0).bind λy1=>((GH f a1).bind λy2=>(bif y1 then(bif y2 then(some 0)else(some (-1)))else(bif y2 then(some 1)else(bif decide (a0<a1)then(some (-1))else(bif decide (a0>a1)then(some 1)else(some 0)))))))
abbrev qO (f:Us):Gz:=λa0=>(some (!a0==a0))
abbrev Cc (f:Us):MS:=λa0 a1=>((xg f a0).bind λy1=>((xg f a1).bind λy2=>(bif y1 then(bif y2 then(some 0)else(some (-1)))else(bif y2 then(some 1)else(bif Op.bytesLess a0 a1 then(some (-1))else(bif !(Op.bytesLess a0 a1||a0==a1)then(some 1)else(some 0)))))))
abbrev rT (f:Us):Ux:=λa0 a1 s1=>(bif decide (s1<(↑(aG a0).length:Int))then((aj a0 s1).bind λx3=>(bif decide (s1>=(↑(aG a1).length:Int))then(some 1)else((aj a1 s1).bind λx6=>((GB f x3 x6).bind λy8=>(bif y8 !=0 then(some y8)else(qb f a0 a1 (IntKind.i64.wrap (s1+1))))))))else(bif decide ((↑(aG a0).length:Int)<(↑(aG a1).length:Int))then(some (-1))else(some 0)))
abbrev xm (f:Us):Gy:=λa0 a1=>(qb f a0 a1 0)
abbrev rS (f:Us):Uy:=λa0 s1=>(bif decide (s1<(↑(dX IntKind.i64 a0).length:Int))then((aj a0 s1).bind λx3=>(bif x3 !=0 then(some x3)else(Ft f a0 (IntKind.i64.wrap (s1+1)))))else(some 0))
abbrev xl (f:Us):MT:=λa0=>(Ft f a0 0)
abbrev xj (f:Us):MU:=λa0=>(some (a0 !=a0))
abbrev Cb (f:Us):GA:=λa0 a1=>((GI f a0).bind λy1=>((GI f a1).bind λy2=>(bif y1 then(bif y2 then(some 0)else(some (-1)))else(bif y2 then(some 1)else(bif decide (a0<a1)then(some (-1))else(bif decide (a0>a1)then(some 1)else(some 0)))))))
abbrev Cd (f:Us):MV:=λa0 a1=>((xh f a0.Process a1.Process).bind λy1=>((B' f a0.N a1.N).bind λy2=>((xk f ([y1,y2])).bind λy3=>(some y3))))
abbrev rf (f:Us):Pz:=λa0 a1 s1=>(bif decide (s1<(↑(ah.rows a0).length:Int))then((aj a0 s1).bind λx3=>(bif decide (s1>=(↑(ah.rows a1).length:Int))then(some 1)else((aj a1 s1).bind λx6=>((GC f x3 x6).bind λy8=>(bif y8 !=0 then(some y8)else(pH f a0 a1 (IntKind.i64.wrap (s1+1))))))))else(bif decide ((↑(ah.rows a0).length:Int)<(↑(ah.rows a1).length:Int))then(some (-1))else(some 0)))
abbrev uA (f:Us):Jm:=λa0 a1=>(pH f a0 a1 0)
abbrev Ce (f:Us):Gx:=λa0 a1=>((MY f a0.Name a1.Name).bind λy1=>((EO f a0.a8 a1.a8).bind λy2=>((xk f ([y1,y2])).bind λy3=>(some y3))))
abbrev rh (f:Us):PA:=λa0 a1 s1=>(bif decide (s1<(↑(az.rows a0).length:Int))then((aj a0 s1).bind λx3=>(bif decide (s1>=(↑(az.rows a1).length:Int))then(some 1)else((aj a1 s1).bind λx6=>((xe f x3 x6).bind λy8=>(bif y8 !=0 then(some y8)else(pI f a0 a1 (IntKind.i64.wrap (s1+1))))))))else(bif decide ((↑(az.rows a0).length:Int)<(↑(az.rows a1).length:Int))then(some (-1))else(some 0)))
abbrev uB (f:Us):Jo:=λa0 a1=>(pI f a0 a1 0)
abbrev Cf (f:Us):Gw:=λa0 a1=>((B' f a0.N a1.N).bind λy1=>((xf f a0.Names a1.Names).bind λy2=>((xk f ([y1,y2])).bind λy3=>(bif y3 !=0 then(some y3)else((ET f a0.ai a1.ai).bind λy5=>(bif y5 !=0 then(some y5)else((ES f a0.Entries a1.Entries).bind λy7=>(some y7))))))))
abbrev ri (f:Us):PB:=λa0 a1 s1=>(bif decide (s1<(↑(af.rows a0).length:Int))then((aj a0 s1).bind λx3=>(bif decide (s1>=(↑(af.rows a1).length:Int))then(some 1)else((aj a1 s1).bind λx6=>((sZ f x3 x6).bind λy8=>(bif y8 !=0 then(some y8)else(pJ f a0 a1 (IntKind.i64.wrap (s1+1))))))))else(bif decide ((↑(af.rows a0).length:Int)<(↑(af.rows a1).length:Int))then(some (-1))else(some 0)))
abbrev uC (f:Us):Jp:=λa0 a1=>(pJ f a0 a1 0)
abbrev wu (f:Us):F3:=λa0=>(bif decide ((([]:List (List UInt8))++(a0:List (List UInt8))).length<=274877906944)then(some ([]++a0))else none)
abbrev Cg (f:Us):MW:=λa0 a1=>((sZ f ({N:=0,Names:=[],ai:=[],Entries:=[a0]:af}) ({N:=0,Names:=[],ai:=[],Entries:=[a1]:af})).bind λy1=>(some y1))
def Hd (f:Us):He:=((((xi f,Ca f),(qO f,(Cc f,rT f))),((xm f,rS f),(xl f,(xj f,Cb f)))),(((Cd f,rf f),(uA f,(Ce f,rh f))),((uB f,Cf f),(ri f,(uC f,wu f)))))
def Ot (f:Us):Hf:=(Cg f,B7)
def Qu (f:Us):Us:=(Hd f,Ot f)
def Gu:Nat->Us
 |0=>PF.bot
 |n+1=>Qu (Gu n)
def Pu:Us:=PF.lm Gu
theorem Xu0 {f:Nat->Us} {p} (h:PF.R f p):PF.R (λn=>Hd (f n)) (Hd p):=by unfold Hd xm xl uA uB uC;exact zP h
theorem Xu1 {f:Nat->Us} {p} (h:PF.R f p):PF.R (λn=>Ot (f n)) (Ot p):=zP h
set_option maxHeartbeats 0 in
theorem Xu:PF.Fix Gu (Qu):=PF.fix (Φ:=λn=>Qu) (λf p h=>(PF.pair (Xu0 h) (Xu1 h))) rfl λ_=>rfl
theorem ag4:PF.R (λn=>qE (Gu n)) (qE Pu):=PF.K.k _ Xu.1
theorem akg:PF.R (λn=>xn (Gu n)) (xn Pu):=PF.K.k _ Xu.1
theorem Du {β:Type} [PF β] (π:PF.K Us β):π Pu=π (Qu Pu):=congrArg π.f Xu.2
theorem WV (a0):GH Pu a0=xi Pu a0:=cQ (Du _) _
theorem ajW (a0 a1):B' Pu a0 a1=Ca Pu a0 a1:=bB (Du _) _ _
theorem Gg (a0):xg Pu a0=qO Pu a0:=cQ (Du _) _
theorem ajY (a0 a1):GB Pu a0 a1=Cc Pu a0 a1:=bB (Du _) _ _
theorem JZ (a0 a1 s1):qb Pu a0 a1 s1=rT Pu a0 a1 s1:=cK (Du _) _ _ _
theorem aj2 (a0 a1):xf Pu a0 a1=xm Pu a0 a1:=bB (Du _) _ _
theorem JY (a0 s1):Ft Pu a0 s1=rS Pu a0 s1:=bB (Du _) _ _
theorem ajZ (a0):xk Pu a0=xl Pu a0:=cQ (Du _) _
theorem WW (a0):GI Pu a0=xj Pu a0:=cQ (Du _) _
theorem ajX (a0 a1):xh Pu a0 a1=Cb Pu a0 a1:=bB (Du _) _ _
theorem aj0 (a0 a1):GC Pu a0 a1=Cd Pu a0 a1:=bB (Du _) _ _
theorem Ia (a0 a1 s1):pH Pu a0 a1 s1=rf Pu a0 a1 s1:=cK (Du _) _ _ _
theorem ad5 (a0 a1):EO Pu a0 a1=uA Pu a0 a1:=bB (Du _) _ _
theorem aj1 (a0 a1):xe Pu a0 a1=Ce Pu a0 a1:=bB (Du _) _ _
theorem Ib (a0 a1 s1):pI Pu a0 a1 s1=rh Pu a0 a1 s1:=cK (Du _) _ _ _
theorem ad7 (a0 a1):ES Pu a0 a1=uB Pu a0 a1:=bB (Du _) _ _
theorem aj3 (a0 a1):sZ Pu a0 a1=Cf Pu a0 a1:=bB (Du _) _ _
theorem Ic (a0 a1 s1):pJ Pu a0 a1 s1=ri Pu a0 a1 s1:=cK (Du _) _ _ _
theorem ad8 (a0 a1):ET Pu a0 a1=uC Pu a0 a1:=bB (Du _) _ _
theorem Wd (a0):qE Pu a0=wu Pu a0:=cQ (Du _) _
theorem aj4 (a0 a1):xn Pu a0 a1=Cg Pu a0 a1:=bB (Du _) _ _
theorem ag1:MY Pu=B7:=Du _
def WX (p:MQ):Prop:=∀a0 r,p a0=some r->Pure env.toCx 245 [(.v (.int .i64 a0))] (.ret (.v (.bool r)))
def WY (p:MR):Prop:=∀a0 a1 r,p a0 a1=some r->Pure env.toCx 195 [(.v (.int .i64 a0)),(.v (.int .i64 a1))] (.ret (.v (.int .i64 r)))
def MK (p:Gz):Prop:=∀a0 r,p a0=some r->Pure env.toCx 247 [(.v (.string ⟨⟨a0⟩⟩))] (.ret (.v (.bool r)))
def WZ (p:MS):Prop:=∀a0 a1 r,p a0 a1=some r->Pure env.toCx 246 [(.v (.string ⟨⟨a0⟩⟩)),(.v (.string ⟨⟨a1⟩⟩))] (.ret (.v (.int .i64 r)))
def ML (p:Gy):Prop:=∀a0 a1 r,p a0 a1=some r->Pure env.toCx 196 [(.sl 1 (aG a0)),(.sl 1 (aG a1))] (.ret (.v (.int .i64 r)))
def W0 (p:MT):Prop:=∀a0 r,p a0=some r->Pure env.toCx 194 [(.sl 1 (dX .i64 a0))] (.ret (.v (.int .i64 r)))
def W1 (p:MU):Prop:=∀a0 r,p a0=some r->Pure env.toCx 283 [(.v (.int .i64 a0))] (.ret (.v (.bool r)))
def MM (p:GA):Prop:=∀a0 a1 r,p a0 a1=some r->Pure env.toCx 264 [(.v (.int .i64 a0)),(.v (.int .i64 a1))] (.ret (.v (.int .i64 r)))
def W2 (p:MV):Prop:=∀a0 a1 r,p a0 a1=some r->Pure env.toCx 229 [(.agg (ah.cs a0)),(.agg (ah.cs a1))] (.ret (.v (.int .i64 r)))
def R3 (p:Jm):Prop:=∀a0 a1 r,p a0 a1=some r->Pure env.toCx 228 [(.sl 2 (ah.rows a0)),(.sl 2 (ah.rows a1)),(.v (.func (.func 229) #[] #[]))] (.ret (.v (.int .i64 r)))
def MO (p:Gx):Prop:=∀a0 a1 r,p a0 a1=some r->Pure env.toCx 173 [(.agg (az.cs a0)),(.agg (az.cs a1))] (.ret (.v (.int .i64 r)))
def R4 (p:Jo):Prop:=∀a0 a1 r,p a0 a1=some r->Pure env.toCx 198 [(.sl 2 (az.rows a0)),(.sl 2 (az.rows a1)),(.v (.func (.func 173) #[] #[]))] (.ret (.v (.int .i64 r)))
def MP (p:Gw):Prop:=∀a0 a1 r,p a0 a1=some r->Pure env.toCx 141 [(.agg (af.cs a0)),(.agg (af.cs a1))] (.ret (.v (.int .i64 r)))
def R5 (p:Jp):Prop:=∀a0 a1 r,p a0 a1=some r->Pure env.toCx 197 [(.sl 4 (af.rows a0)),(.sl 4 (af.rows a1)),(.v (.func (.func 141) #[] #[]))] (.ret (.v (.int .i64 r)))
def F4 (p:F3):Prop:=∀a0 r,p a0=some r->kX env 129 [(.sl 1 (aG a0))] 9 1 (aG r)
def MJ (p:MW):Prop:=∀a0 a1 r,p a0 a1=some r->Pure env.toCx 244 [(.agg (az.cs a0)),(.agg (az.cs a1))] (.ret (.v (.int .i64 r)))
structure Ku (n:Nat):Prop where
 aki:WX (GH (Gu n))
 W3:WY (B' (Gu n))
 Ci:MK (xg (Gu n))
 akj:WZ (GB (Gu n))
 GG:ML (xf (Gu n))
 MN:W0 (xk (Gu n))
 akk:W1 (GI (Gu n))
 GD:MM (xh (Gu n))
 akl:W2 (GC (Gu n))
 aeb:R3 (EO (Gu n))
 GF:MO (xe (Gu n))
 aed:R4 (ES (Gu n))
 Cj:MP (sZ (Gu n))
 aec:R5 (ET (Gu n))
 F5:F4 (qE (Gu n))
 akh:MJ (xn (Gu n))
 Ch:MX (MY (Gu n))
def Ou (n:Nat):Prop:=∀m,m<=n->Ku m
theorem Ou.a {N m:Nat} (h:Ou N) (hm:m<=N:=by omega):Ku m:=h m hm
end Go.Proofs.YtnocmolegijmkaaGreat
end

section
set_option maxRecDepth 100000
noncomputable section
namespace Go.Proofs.YtnocmolegijmkaaGreat
open Go Go.Bw Go.Proofs.Tryz
theorem aj5 {n} (o:Ou n):WX (xi (Gu n)):=by
 intro a0 r g;rw[xi]at g;refine yw func245 ntmps245 ?_;cases g;exact zl
theorem aj6 {n} (o:Ou n):WY (Ca (Gu n)):=by
 intro a0 a1 r g;rw[Ca]at g;refine yw func195 ntmps195 ?_
 iterate 2 (refine yc g (o.a.aki _) λy g=>?_)
 refine aA g ?_ ?_<;>intro _ g;exact dO g
 iterate 2 (refine aR g λ_ g=>?_)
 exact dO g
theorem aj7 {n} (o:Ou n):MK (qO (Gu n)):=by
 intro a0 r g;rw[qO]at g;refine yw func247 ntmps247 ?_;cases g;exact zl
theorem aj8 {n} (o:Ou n):WZ (Cc (Gu n)):=by
 intro a0 a1 r g;rw[Cc]at g;refine yw func246 ntmps246 ?_
 iterate 2 (refine yc g (o.a.Ci _) λy g=>?_)
 refine aA g ?_ ?_<;>intro _ g;exact dO g
 iterate 2 (refine aR g λ_ g=>?_)
 exact dO g
theorem aj9 {n} (o:Ou n):ML (xm (Gu n)):=by
 intro a0 a1 r g;rw[xm]at g;refine yw func196 ntmps196 ?_;refine yk<|yL (S:=Int) (G:=λm s=>qb (Gu m) a0 a1 s) (s0:=0) 0 [0,1,4,9,10] [11] (λs=>[(11,.d (.v (.int .i64 s)))]) (λs=>[]) g ?_;rintro n s1 _ g;change rT (Gu n) a0 a1 s1=_ at g;rw[rT]at g;refine yz ?_
 refine aA g ?_ ?_<;>intro _ g;refine yX g dJ λx _ _ g=>?_;refine aR g λ_ g=>?_;refine yX g dJ λx _ _ g=>?_;refine yc g (o.a.akj _ _) λy g=>?_;refine aR g λ_ g=>?_;exact yk (yN _ n ⟨by omega,g⟩);exact dO g
theorem aj' {n} (o:Ou n):W0 (xl (Gu n)):=by
 intro a0 r g;rw[xl]at g;refine yw func194 ntmps194 ?_;refine yk<|yL (S:=Int) (G:=λm s=>Ft (Gu m) a0 s) (s0:=0) 0 [2,3,6,7] [8] (λs=>[(8,.d (.v (.int .i64 s)))]) (λs=>[]) g ?_;rintro n s1 _ g;change rS (Gu n) a0 s1=_ at g;rw[rS]at g;refine yz ?_
 refine bw g λ_ g=>?_;refine yX g Ec λx _ _ g=>?_;refine aR g λ_ g=>?_;exact yk (yN _ n ⟨by omega,g⟩)
theorem aka {n} (o:Ou n):W1 (xj (Gu n)):=by
 intro a0 r g;rw[xj]at g;refine yw func283 ntmps283 ?_;cases g;exact zl
theorem akb {n} (o:Ou n):MM (Cb (Gu n)):=by
 intro a0 a1 r g;rw[Cb]at g;refine yw func264 ntmps264 ?_
 iterate 2 (refine yc g (o.a.akk _) λy g=>?_)
 refine aA g ?_ ?_<;>intro _ g;exact dO g
 iterate 2 (refine aR g λ_ g=>?_)
 exact dO g
theorem akc {n} (o:Ou n):W2 (Cd (Gu n)):=by
 intro a0 a1 r g;rw[Cd]at g;refine yw func229 ntmps229 ?_;refine yo [0,1,2,3,4,5,6,7,8,9,10,11,12] [] [] ?_;obtain⟨y,z,g⟩:=bz g (o.a.GD _ _);refine yl (yC z) ?_;obtain⟨y,z,g⟩:=bz g (o.a.W3 _ _);refine yl (yC z) ?_;obtain⟨y,z,g⟩:=bz g (o.a.MN _);refine yl (yC z) ?_;cases g;exact zl
theorem ad9 {n} (o:Ou n):R3 (uA (Gu n)):=by
 intro a0 a1 r g;rw[uA]at g;refine yw func228 ntmps228 ?_;refine yk<|yL (S:=Int) (G:=λm s=>pH (Gu m) a0 a1 s) (s0:=0) 0 [0,1,2,6,11,12] [13] (λs=>[(13,.d (.v (.int .i64 s)))]) (λs=>[]) g ?_;rintro n s1 _ g;change rf (Gu n) a0 a1 s1=_ at g;rw[rf]at g;refine yz ?_
 refine aA g ?_ ?_<;>intro _ g;refine yX g ah.aF λx _ _ g=>?_;refine aR g λ_ g=>?_;refine yX g ah.aF λx _ _ g=>?_;refine yc g (o.a.akl _ _) λy g=>?_;refine aR g λ_ g=>?_;exact yk (yN _ n ⟨by omega,g⟩);exact dO g
theorem akd {n} (o:Ou n):MO (Ce (Gu n)):=by
 intro a0 a1 r g;rw[Ce]at g;refine yw func173 ntmps173 ?_;refine yo [0,1,2,3,4,5,6,7,8,9,10,11,12] [] [] ?_;obtain⟨y,z,g⟩:=bz g (o.a.Ch _ _);refine yl (yC z) ?_;obtain⟨y,z,g⟩:=bz g (o.a.aeb _ _);refine yl (yC z) ?_;obtain⟨y,z,g⟩:=bz g (o.a.MN _);refine yl (yC z) ?_;cases g;exact zl
theorem ad' {n} (o:Ou n):R4 (uB (Gu n)):=by
 intro a0 a1 r g;rw[uB]at g;refine yw func198 ntmps198 ?_;refine yk<|yL (S:=Int) (G:=λm s=>pI (Gu m) a0 a1 s) (s0:=0) 0 [0,1,2,6,11,12] [13] (λs=>[(13,.d (.v (.int .i64 s)))]) (λs=>[]) g ?_;rintro n s1 _ g;change rh (Gu n) a0 a1 s1=_ at g;rw[rh]at g;refine yz ?_
 refine aA g ?_ ?_<;>intro _ g;refine yX g az.aF λx _ _ g=>?_;refine aR g λ_ g=>?_;refine yX g az.aF λx _ _ g=>?_;refine yc g (o.a.GF _ _) λy g=>?_;refine aR g λ_ g=>?_;exact yk (yN _ n ⟨by omega,g⟩);exact dO g
theorem ake {n} (o:Ou n):MP (Cf (Gu n)):=by
 intro a0 a1 r g;rw[Cf]at g;refine yw func141 ntmps141 ?_;refine yo [0,1,2,3,4,5,6,7,8,9,10,11,12] [] [] ?_;obtain⟨y,z,g⟩:=bz g (o.a.W3 _ _);refine yl (yC z) ?_;obtain⟨y,z,g⟩:=bz g (o.a.GG _ _);refine yl (yC z) ?_;obtain⟨y,z,g⟩:=bz g (o.a.MN _);refine yl (yC z) ?_;refine aR g λ_ g=>?_;refine yc g (o.a.aec _ _) λy g=>?_;refine aR g λ_ g=>?_;refine yc g (o.a.aed _ _) λy g=>?_;cases g;exact zl
theorem aea {n} (o:Ou n):R5 (uC (Gu n)):=by
 intro a0 a1 r g;rw[uC]at g;refine yw func197 ntmps197 ?_;refine yk<|yL (S:=Int) (G:=λm s=>pJ (Gu m) a0 a1 s) (s0:=0) 0 [0,1,2,6,11,12] [13] (λs=>[(13,.d (.v (.int .i64 s)))]) (λs=>[]) g ?_;rintro n s1 _ g;change ri (Gu n) a0 a1 s1=_ at g;rw[ri]at g;refine yz ?_
 refine aA g ?_ ?_<;>intro _ g;refine yX g af.aF λx _ _ g=>?_;refine aR g λ_ g=>?_;refine yX g af.aF λx _ _ g=>?_;refine yc g (o.a.Cj _ _) λy g=>?_;refine aR g λ_ g=>?_;exact yk (yN _ n ⟨by omega,g⟩);exact dO g
theorem ag2 {n} (o:Ou n):F4 (wu (Gu n)):=by
 intro a0 r g;rw[wu]at g;refine kX.walk (E:=env) func129 rfl zk (rs:=_) rfl ntmps129 rfl (yz ?_);refine Ok.stuck aW<|ao.jA 3 rfl ?_ ?_
 intro cap k;replace g:(some [])=some r:=(by have l:a0=[]:=DM.1 (by have k:=congrArg List.length k;simpa only[bN,l4]using k);subst l;simpa using g);refine yz ?_;refine yv (bE.toP (bE.mo (et:=9) rfl zk rfl rfl)) ?_;refine Ok.fin aW ?_;obtain rfl:=pC g;exact RD.IN rfl rfl (by simp only[je]);intro ad n0 cap;refine yz ?_;refine yv (bE.toP (bE.mo (et:=9) rfl zk rfl rfl)) ?_;obtain⟨k,g⟩:=bR g;refine yk<|DO.sJ (rows2:=(aG a0)) rfl rfl zg rfl (cz.refl _) rfl rfl (Ig _) rfl rfl rfl (zo k) (yz ?_)
 refine Ok.fin aW ?_;obtain rfl:=pC g;exact RD.Kp rfl rfl rfl rfl zi
theorem akf {n} (o:Ou n):MJ (Cg (Gu n)):=by
 intro a0 a1 r g;rw[Cg]at g;refine yw func244 ntmps244 ?_;refine yc g (o.a.Cj _ _) λy g=>?_;cases g;exact zl
end Go.Proofs.YtnocmolegijmkaaGreat
end

section
set_option maxRecDepth 100000
noncomputable section
namespace Go.Proofs.YtnocmolegijmkaaGreat
open Go Go.Bw
theorem hu:∀n,Ku n:=by
 intro n
 induction n using Nat.strongRecOn with|_ n ih=>?_
 rcases n with _|n
 ·constructor<;>(repeat intro _)<;>contradiction
 ·have h:Ou n:=λm hm=>ih m (by omega);exact⟨aj5 h,aj6 h,aj7 h,aj8 h,aj9 h,aj' h,aka h,akb h,akc h,ad9 h,akd h,ad' h,ake h,aea h,ag2 h,akf h,Ch⟩
theorem ag3:F4 (qE Pu):=λa0 r h=>by
 obtain⟨n,hn⟩:=PF.ex (PF.ap ag4 a0) h;exact(hu n).F5 a0 _ hn
theorem ajV:MJ (xn Pu):=λa0 a1 r h=>by
 obtain⟨n,hn⟩:=PF.ex (PF.ap (PF.ap akg a0) a1) h;exact(hu n).akh a0 a1 _ hn
