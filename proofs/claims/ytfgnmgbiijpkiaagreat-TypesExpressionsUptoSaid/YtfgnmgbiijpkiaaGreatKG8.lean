/- Printed by a program: what functions answer, and that they do. -/
import Derived.Test.YtfgnmgbiijpkiaaGreatKG3
import Derived.Test.YtfgnmgbiijpkiaaGreatKG6
import Derived.Test.YtfgnmgbiijpkiaaGreatKG7
set_option linter.all false
section
set_option maxRecDepth 100000
noncomputable section
namespace Go.Proofs.YtfgnmgbiijpkiaaGreat
open Go Go.Bw Go.Proofs.Tryz
/-plexus.plexusref18.Expression-/
theorem U8 {n} (o:Of n):LO (tZ (Gf n)):=by
 intro a0 a1 a2 a3 r g;rw[tZ]at g;refine yw func19 ntmps19 ?_;refine yc g (o.a.fR _ _ _) λy1 g=>?_;cases g;exact zl
/-plexus.plexuslaw18.TypesExpressions-/
theorem w4 {n} (o:Of n):C4 (B4 (Gf n)):=by
 intro a0 a1 a2 a3 r g;rw[B4]at g;refine yw func4 ntmps4 ?_;refine aq g (λ_ g=>?_) λ_ g=>?_;refine yc g o.a.c9 λy2 g=>?_;cases g;exact zl;refine yc g (o.a.Vb _) λy3 g=>?_;refine aq g (λ_ g=>?_) λ_ g=>?_;refine yc g o.a.c9 λy5 g=>?_;cases g;exact zl;refine yc g (o.a.LR _) λy6 g=>?_;refine aq g (λ_ g=>?_) λ_ g=>?_;refine yc g o.a.c9 λy8 g=>?_;cases g;exact zl;refine yc g (o.a.Vd _) λy9 g=>?_;refine aq g (λ_ g=>?_) λ_ g=>?_;refine yc g o.a.c9 λy11 g=>?_;cases g;exact zl;refine yc g (o.a.CW _) λy12 g=>?_;refine aq g (λ_ g=>?_) λ_ g=>?_;refine yc g o.a.c9 λy14 g=>?_;cases g;exact zl;refine yc g (o.a.Va _ _ _ _) λy15 g=>?_;refine yc g (o.a.Vf _ _ _ _) λy16 g=>?_;refine yc g o.a.c9 λy17 g=>?_;refine bU g λ_ g=>?_;refine yv (aR.toP (aR.VG rfl rfl rfl zk Tryz.underlying28 rfl)) ?_;refine bU g λ_ g=>?_;refine yc g (o.a.LV _ _) λy20 g=>?_;cases g;exact zl
end Go.Proofs.YtfgnmgbiijpkiaaGreat
end

section
set_option maxRecDepth 100000
noncomputable section
namespace Go.Proofs.YtfgnmgbiijpkiaaGreat
open Go Go.Bw
theorem hf:∀n,Kf n:=by
 intro n
 induction n using Nat.strongRecOn with|_ n ih=>?_
 rcases n with _|n
 ·constructor<;>(repeat intro _)<;>contradiction
 ·have h:Of n:=λm hm=>ih m (by omega);exact⟨RK h,RL h,NG h,UK h,RM h,UL h,RN h,RO h,RS h,RT h,RU h,RV h,QT h,QU h,UM h,RW h,RX h,RY h,Om h,RZ h,Oo h,UN h,UO h,UP h,R1 h,R2 h,R3 h,R4 h,R5 h,R6 h,R7 h,R8 h,UQ h,UR h,US h,UT h,R9 h,Sa h,Sb h,Sc h,Sd h,Se h,UU h,UW h,UX h,UY h,UZ h,U0 h,U1 h,U2 h,U3 h,U4 h,U5 h,Sf h,Si h,U6 h,U7 h,Sj h,Sk h,Sm h,Sn h,Sp h,U8 h,w4 h,c9,(hu n).CW⟩
theorem p4:C4 (f4 Pf):=λa0 a1 a2 a3 r h=>by
 obtain⟨n,hn⟩:=PF.ex (PF.ap (PF.ap (PF.ap (PF.ap l4 a0) a1) a2) a3) h;exact(hf n).c4 a0 a1 a2 a3 _ hn
