/- The awake of the laws of this seat as a contract: it answers true. -/
import Derived.Test.YtnocmolegijmkaaGreatKFc
set_option linter.all false
section
namespace Go.Proofs.YtnocmolegijmkaaGreat
open Go Go.Bw
theorem Xv:Bw.Pure env.toCx 7 [] (.ret (.v (.bool true))):=Yj
abbrev T7:Type:=Option Bool
def P7:T7:=some true
def C7 (p:T7):Prop:=∀r,p=some r->Bw.Pure env.toCx 7 [] (.ret (.v (.bool r)))
theorem c7:C7 P7:=by intro r h;cases h;exact Xv
theorem Yk:P7=some true:=rfl
end Go.Proofs.YtnocmolegijmkaaGreat
end

section
set_option maxRecDepth 100000
noncomputable section
namespace Go.Proofs.YtnocmolegijmkaaGreat
open Go Go.Bw
abbrev T3:=ah->bD->Option Bool
def CL:=((T3×(T7×CM))×(CO×(T8×T9)))
instance:PF CL:=by delta CL;infer_instance
abbrev Fs:=CL
def vd:=(PF.i (D:=Fs))
def f3:=vd.a.a
def f7:=vd.a.b.a
def f10:=vd.a.b.b
def f11:=vd.b.a
def f8:=vd.b.b.a
def f9:=vd.b.b.b
abbrev B3 (f:Fs):T3:=λa0 a1=>((f7 f).bind λy1=>(bif !y1 then(some false)else((f8 f a1 cq.z ([])).bind λy3=>(bif !y3 then(some true)else((f9 f a0 a1).bind λy5=>((f10 f a0 a1).bind λy6=>(bif y5.snd==y6.snd then((f11 f y5.fst y6.fst).bind λy8=>(some y8))else(some false))))))))
def IQ (x:Us) (f:Fs):CL:=((B3 f,(P7,yZ x)),(qg x,(u8 x,u9 x)))
def Qf (x:Us) (f:Fs):Fs:=IQ x f
def Gf:Nat->Fs
 |0=>PF.bot
 |n+1=>Qf (Gu n) (Gf n)
def Pf:Fs:=PF.lm Gf
theorem Xf0 {f:Nat->Fs} {p} (h:PF.R f p):PF.R (λn=>IQ (Gu n) (f n)) (IQ Pu p):=(PF.pair (PF.pair (zM h) (PF.pair zC (PF.K.k _ Xu.1))) (PF.pair (PF.K.k _ Xu.1) (PF.pair (PF.K.k _ Xu.1) (PF.K.k _ Xu.1))))
set_option maxHeartbeats 0 in
theorem Xf:PF.Fix Gf (Qf Pu):=PF.fix (Φ:=λn=>Qf (Gu n)) (λf p h=>(Xf0 h)) rfl λ_=>rfl
theorem l3:PF.R (λn=>f3 (Gf n)) (f3 Pf):=PF.K.k _ Xf.1
theorem Df {β:Type} [PF β] (π:PF.K Fs β):π Pf=π (Qf Pu Pf):=congrArg π.f Xf.2
theorem e3 (a0 a1):f3 Pf a0 a1=B3 Pf a0 a1:=b6 (Df _) _ _
theorem x7:f7 Pf=P7:=Df _
theorem x10:f10 Pf=yZ Pu:=Df _
theorem x11:f11 Pf=qg Pu:=Df _
theorem x8:f8 Pf=u8 Pu:=Df _
theorem x9:f9 Pf=u9 Pu:=Df _
def C3 (p:T3):Prop:=∀a0 a1 r,p a0 a1=some r->Pure env.toCx 3 [(.agg (ah.cs a0)),(.agg (bD.cs a1))] (.ret (.v (.bool r)))
structure Kf (n:Nat):Prop where
 c3:C3 (f3 (Gf n))
 c7:C7 (f7 (Gf n))
 IL:IN (f10 (Gf n))
 IM:IP (f11 (Gf n))
 c8:C8 (f8 (Gf n))
 c9:C9 (f9 (Gf n))
def Of (n:Nat):Prop:=∀m,m<=n->Kf m
theorem Of.a {N m:Nat} (h:Of N) (hm:m<=N:=by omega):Kf m:=h m hm
/-plexus.plexuslaw23.DeltasDerives-/
theorem w3 {n} (o:Of n):C3 (B3 (Gf n)):=by
 intro a0 a1 r g;rw[B3]at g;refine yw Tryz.func3 Tryz.ntmps3 ?_;refine yc g o.a.c7 λy1 g=>?_;refine aQ g λ_ g=>?_;refine yc g (o.a.c8 _ _ _) λy3 g=>?_;refine aQ g λ_ g=>?_;refine yc g (o.a.c9 _ _) λy5 g=>?_;refine yc g (o.a.IL _ _) λy6 g=>?_;refine bH g λ_ g=>?_;refine yc g (o.a.IM _ _) λy8 g=>?_;cases g;exact zl
theorem hf:∀n,Kf n:=by
 intro n
 induction n using Nat.strongRecOn with|_ n ih=>?_
 rcases n with _|n
 ·constructor<;>(repeat intro _)<;>contradiction
 ·have h:Of n:=λm hm=>ih m (by omega);exact⟨w3 h,c7,(hu n).IL,(hu n).IM,(hu n).c8,(hu n).c9⟩
theorem p3:C3 (f3 Pf):=λa0 a1 r h=>by
 obtain⟨n,hn⟩:=PF.ex (PF.ap (PF.ap l3 a0) a1) h;exact(hf n).c3 a0 a1 _ hn
