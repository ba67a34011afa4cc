/- The awake of the laws of this seat as a contract: it answers true. -/
import Derived.Test.YtnocmolegijmkaaGreatKFc
set_option linter.all false
section
namespace Go.Proofs.YtnocmolegijmkaaGreat
open Go Go.Bw
theorem Rg:Bw.Pure env.toCx 7 [] (.ret (.v (.bool true))):=Se
abbrev T7:Type:=Option Bool
def P7:T7:=some true
def C7 (p:T7):Prop:=∀r,p=some r->Bw.Pure env.toCx 7 [] (.ret (.v (.bool r)))
theorem c7:C7 P7:=by intro r h;cases h;exact Rg
theorem Sf:P7=some true:=rfl
end Go.Proofs.YtnocmolegijmkaaGreat
end

section
set_option maxRecDepth 100000
noncomputable section
namespace Go.Proofs.YtnocmolegijmkaaGreat
open Go Go.Bw
abbrev T4:=ai->bA->Option Bool
def yM:=((T4×(T7×yO))×((yR×yS)×(T8×T9)))
instance:PF yM:=by delta yM;infer_instance
abbrev Fs:=yM
def pI:=(PF.i (D:=Fs))
def f4:=pI.a.a
def f7:=pI.a.b.a
def f11:=pI.a.b.b
def f12:=pI.b.a.a
def f13:=pI.b.a.b
def f8:=pI.b.b.a
def f9:=pI.b.b.b
abbrev B4 (f:Fs):T4:=λa0 a1=>((f7 f).bind λy1=>(bif !y1 then(some false)else((f8 f a1 b6.z ([])).bind λy3=>(bif !y3 then(some true)else(bif a1.Result !=0 then(some true)else((f12 f a0 a1).bind λy6=>(bif !y6 then(some true)else((f9 f a0 a1).bind λy8=>(bif y8.snd !=0 then(some false)else((f12 f a0 y8.fst).bind λy10=>(bif !y10 then(some false)else((f13 f y8.fst.Body).bind λy12=>((f13 f a1.Body).bind λy13=>(bif decide (y12>y13)then(some false)else((f9 f a0 y8.fst).bind λy15=>(bif y15.snd==0 then((f11 f y15.fst y8.fst).bind λy17=>(some y17))else(some false)))))))))))))))))
def EH (x:Us) (f:Fs):yM:=((B4 f,(P7,pG x)),((l7 x,pH x),(u8 x,u9 x)))
def Qf (x:Us) (f:Fs):Fs:=EH x f
def Gf:Nat->Fs
 |0=>PF.bot
 |n+1=>Qf (Gu n) (Gf n)
def Pf:Fs:=PF.lm Gf
theorem Wi {f:Nat->Fs} {p} (h:PF.R f p):PF.R (λn=>EH (Gu n) (f n)) (EH Pu p):=(PF.pair (PF.pair (zM h) (PF.pair zC (PF.K.k _ Xu.1))) (PF.pair (PF.pair (PF.K.k _ Xu.1) (PF.K.k _ Xu.1)) (PF.pair (PF.K.k _ Xu.1) (PF.K.k _ Xu.1))))
set_option maxHeartbeats 0 in
theorem Xf:PF.Fix Gf (Qf Pu):=PF.fix (Φ:=λn=>Qf (Gu n)) (λf p h=>(Wi h)) rfl λ_=>rfl
theorem l4:PF.R (λn=>f4 (Gf n)) (f4 Pf):=PF.K.k _ Xf.1
theorem Df {β:Type} [PF β] (π:PF.K Fs β):π Pf=π (Qf Pu Pf):=congrArg π.f Xf.2
theorem e4 (a0 a1):f4 Pf a0 a1=B4 Pf a0 a1:=cf (Df _) _ _
theorem x7:f7 Pf=P7:=Df _
theorem Wj:f11 Pf=pG Pu:=Df _
theorem LX:f12 Pf=l7 Pu:=Df _
theorem Wk:f13 Pf=pH Pu:=Df _
theorem x8:f8 Pf=u8 Pu:=Df _
theorem x9:f9 Pf=u9 Pu:=Df _
def C4 (p:T4):Prop:=∀a0 a1 r,p a0 a1=some r->Pure env.toCx 4 [(.agg (ai.cs a0)),(.agg (bA.cs a1))] (.ret (.v (.bool r)))
structure Kf (n:Nat):Prop where
 c4:C4 (f4 (Gf n))
 c7:C7 (f7 (Gf n))
 EC:ED (f11 (Gf n))
 rR:EF (f12 (Gf n))
 uY:EG (f13 (Gf n))
 c8:C8 (f8 (Gf n))
 c9:C9 (f9 (Gf n))
def Of (n:Nat):Prop:=∀m,m<=n->Kf m
theorem Of.a {N m:Nat} (h:Of N) (hm:m<=N:=by omega):Kf m:=h m hm
/-plexus.plexuslaw23.DeltasValid-/
theorem w4 {n} (o:Of n):C4 (B4 (Gf n)):=by
 intro a0 a1 r g;rw[B4]at g;refine yw Tryz.func4 Tryz.ntmps4 ?_;refine yc g o.a.c7 λy1 g=>?_;refine aZ g λ_ g=>?_;refine yc g (o.a.c8 _ _ _) λy3 g=>?_
 iterate 2 (refine aZ g λ_ g=>?_)
 refine yc g (o.a.rR _ _) λy6 g=>?_;refine aZ g λ_ g=>?_;refine yc g (o.a.c9 _ _) λy8 g=>?_;refine yo [0,1,2,3,4,5,6,7,8,9,10,11,12,13,14,15,16] [] [] ?_;refine aZ g λ_ g=>?_;obtain⟨y10,ey10,g⟩:=cq g (o.a.rR _ _);refine yl (yC ey10) ?_;refine aZ g λ_ g=>?_;obtain⟨y12,ey12,g⟩:=cq g (o.a.uY _);refine yl (yC ey12) ?_;obtain⟨y13,ey13,g⟩:=cq g (o.a.uY _);refine yl (yC ey13) ?_;refine aZ g λ_ g=>?_;refine yc g (o.a.c9 _ _) λy15 g=>?_;refine bJ g λ_ g=>?_;refine yc g (o.a.EC _ _) λy17 g=>?_;cases g;exact zl
theorem hf:∀n,Kf n:=by
 intro n
 induction n using Nat.strongRecOn with|_ n ih=>?_
 rcases n with _|n
 ·constructor<;>(repeat intro _)<;>contradiction
 ·have h:Of n:=λm hm=>ih m (by omega);exact⟨w4 h,c7,(hu n).EC,(hu n).rR,(hu n).uY,(hu n).c8,(hu n).c9⟩
theorem p4:C4 (f4 Pf):=λa0 a1 r h=>by
 obtain⟨n,hn⟩:=PF.ex (PF.ap (PF.ap l4 a0) a1) h;exact(hf n).c4 a0 a1 _ hn
