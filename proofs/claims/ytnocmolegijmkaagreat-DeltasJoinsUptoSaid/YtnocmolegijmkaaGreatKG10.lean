/- Printed by a program: what functions answer, and that they do. -/
import Derived.Test.YtnocmolegijmkaaGreatKG6
import Derived.Test.YtnocmolegijmkaaGreatKG7
import Derived.Test.YtnocmolegijmkaaGreatKG8
import Derived.Test.YtnocmolegijmkaaGreatKG9
set_option linter.all false
section
set_option maxRecDepth 100000
noncomputable section
namespace Go.Proofs.YtnocmolegijmkaaGreat
open Go Go.Bw Go.Proofs.Tryz
section
variable {n:Nat} (o:Of n)
include o
theorem w40:ZW (Cz (Gf n)):=by
 intro a0 a1 a2 r g;rw[Cz]at g;refine yw func40 ntmps40 ?_;refine aR g λ_ g=>?_;refine yc g (o.a.tp _ _) λy g=>?_;refine yc g (o.a.c85 _) λy g=>?_;cases g;exact zl
theorem w15:ZX (Dm (Gf n)):=by
 intro a0 a1 a2 a3 r g;rw[Dm]at g;refine yw func15 ntmps15 ?_;refine yc g (o.a.c39 _ _ _ _) λy g=>?_;refine aR g λ_ g=>?_;refine yc g (o.a.c9 _ _) λy g=>?_;refine yc g (o.a.c40 _ _ _) λy g=>?_;cases g;exact zl
theorem w41:ZY (Dn (Gf n)):=by
 intro a0 a1 a2 a3 a4 r g;rw[Dn]at g;refine yw func41 ntmps41 ?_;refine yc g (o.a.Hr _ _) λy g=>?_;refine aR g λ_ g=>?_;refine yv (bE.toP (bE.af5 rfl zk rfl rfl)) ?_;refine aR g λ_ g=>?_;refine yc g (o.a.Ds _ _) λy g=>?_;refine aR g λ_ g=>?_;refine yc g (o.a.Ox _ _) λy g=>?_;cases g;exact zl
theorem w16:ZZ (Dp (Gf n)):=by
 intro a0 a1 a2 a3 r g;rw[Dp]at g;refine yw func16 ntmps16 ?_;refine yc g (o.a.c41 _ _ _ _ _) λy g=>?_;refine aR g λ_ g=>?_;refine yc g (o.a.c40 _ _ _) λy g=>?_;cases g;exact zl
theorem w18:Z0 (CA (Gf n)):=by
 intro a0 a1 a2 r g;rw[CA]at g;refine yw func18 ntmps18 ?_;refine yc g (o.a.Hu _ _ _) λy g=>?_;exact dO g
theorem w87:Z1 (Nr (Gf n)):=by
 intro a0 r g;rw[Nr]at g;refine yw func87 ntmps87 ?_;exact dO g
theorem w88:Z2 (CB (Gf n)):=by
 intro a0 a1 r g;rw[CB]at g;refine yw func88 ntmps88 ?_;refine aR g λ_ g=>?_;refine yc g (o.a.Dv _) λy g=>?_;cases g;exact zl
theorem amS:YM (wM (Gf n)):=by
 intro a0 a1 r g;rw[wM]at g;refine yw func136 ntmps136 ?_;refine yk<|yL (S:=Int) (G:=λm s=>rF (Gf m) a0 a1 s) (s0:=0) 0 [0,1,4] [5] (λs=>[(5,dI s)]) (λs=>[]) g ?_;rintro n s1 _ g;change uF (Gf n) a0 a1 s1=_ at g;rw[uF]at g;refine yz ?_
 iterate 2 (apply aA g<;>intro _ g)
 iterate 2 (refine yo [0,1,2,3,4,5,6,7,8,9,10] [] [] ?_;(iterate 2 (refine yY g ah.aF λx _ _ g=>?_));apply aA g<;>intro _ g;refine yo [0,1,2,3,4,5,6,7,8,9,10,11,12] [] [] ?_;(iterate 2 (refine yY g ah.aF λx _ _ g=>?_));obtain⟨y,z,g⟩:=bz g (o.a.Dv _);refine yl (yC z) ?_;cases g;exact zl)
 exact aZ _ n g
 iterate 2 (refine yc g (o.a.nB _ _) λy g=>?_;cases g;exact zl)
theorem w89:Z3 (CC (Gf n)):=by
 intro a0 a1 r g;rw[CC]at g;refine yw func89 ntmps89 ?_;apply aA g<;>intro _ g;refine yc g (o.a.Dv _) λy g=>?_;cases g;exact zl;refine yc g (o.a.anI _ _) λy g=>?_;cases g;exact zl
set_option maxHeartbeats 0 in
theorem w42:Z4 (CD (Gf n)):=by
 intro a0 a1 r g;rw[CD]at g;refine yw func42 ntmps42 ?_;apply aA g<;>intro _ g;refine yc g (o.a.Dv _) λy g=>?_;cases g;exact zl;refine yk<|yL (S:=Int×Int) (G:=λm s=>rV (Gf m) a0 a1 s.1 s.2) (s0:=(0,0)) 2 [2,3] [4,5] (λs=>[(4,dI s.1),(5,dI s.2)]) (λs=>[]) g ?_;rintro n ⟨s3,s4⟩ _ g;change vB (Gf n) a0 a1 s3 s4=_ at g;rw[vB]at g;refine yz ?_
 iterate 2 (apply aA g<;>intro _ g)
 refine yo [0,1,2,3,4,5,6,7,8,9,10] [] [] ?_
 iterate 2 (refine yY g dJ λx _ _ g=>?_)
 apply aA g<;>intro _ g;refine yo [0,1,2,3,4,5,6,7,8,9,10,11,12] [] [] ?_
 iterate 2 (refine yY g dJ λx _ _ g=>?_)
 obtain⟨y,z,g⟩:=bz g (o.a.Dv _);refine yl (yC z) ?_;cases g;exact zl;exact aZ (_,_) n g;apply aA g<;>intro _ g;refine yc g (o.a.nB _ _) λy g=>?_;cases g;exact zl;refine yk<|yL (S:=Int×Int) (G:=λm s=>Kh (Gf m) a0 a1 s.1 s.2) (s0:=(s3,0)) 2 [2,3,5] [4,6] (λs=>[(4,dI s.1),(6,dI s.2)]) (λs=>[]) g ?_;rintro n ⟨s19,s20⟩ _ g;change Kg (Gf n) a0 a1 s19 s20=_ at g;rw[Kg]at g;refine yz ?_
 iterate 2 (apply aA g<;>intro _ g)
 refine yo [0,1,2,3,4,5,6,7,8,9,10,11] [] [] ?_
 iterate 2 (refine yY g af.aF λx _ _ g=>?_)
 obtain⟨y,z,g⟩:=bz g (o.a.Oy _ _);refine yl (yC z) ?_;refine aR g λ_ g=>?_;exact aZ (_,_) n g;apply aA g<;>intro _ g;refine yc g (o.a.nB _ _) λy g=>?_;cases g;exact zl;refine yk<|yL (S:=Int) (G:=λm s=>Kc (Gf m) a0 a1 s) (s0:=0) 2 [2,3,4,5,6] [8] (λs=>[(8,dI s)]) (λs=>[]) g ?_;rintro n s31 _ g;change Kb (Gf n) a0 a1 s31=_ at g;rw[Kb]at g;refine yz ?_
 iterate 2 (apply aA g<;>intro _ g)
 refine yo [0,1,2,3,4,5,6,7,8,9,10,11] [] [] ?_
 iterate 2 (refine yY g az.aF λx _ _ g=>?_)
 obtain⟨y,z,g⟩:=bz g (o.a.Hv _ _);refine yl (yC z) ?_;refine aR g λ_ g=>?_;exact aZ _ n g
 iterate 2 (refine yc g (o.a.nB _ _) λy g=>?_;cases g;exact zl)
 apply aA g<;>intro _ g;refine yc g (o.a.nB _ _) λy g=>?_;cases g;exact zl;refine yk<|yL (S:=Int) (G:=λm s=>Ke (Gf m) a0 a1 s) (s0:=0) 2 [2,3,4,5,6] [8] (λs=>[(8,dI s)]) (λs=>[]) g ?_;rintro n s44 _ g;change Kd (Gf n) a0 a1 s44=_ at g;rw[Kd]at g;refine yz ?_
 iterate 2 (apply aA g<;>intro _ g)
 refine yo [0,1,2,3,4,5,6,7,8,9,10,11] [] [] ?_
 iterate 2 (refine yY g az.aF λx _ _ g=>?_)
 obtain⟨y,z,g⟩:=bz g (o.a.Hv _ _);refine yl (yC z) ?_;refine aR g λ_ g=>?_;exact aZ _ n g
 iterate 2 (refine yc g (o.a.nB _ _) λy g=>?_;cases g;exact zl)
 apply aA g<;>intro _ g;refine yc g (o.a.nB _ _) λy g=>?_;cases g;exact zl;refine yk<|yL (S:=Int×Int) (G:=λm s=>qk (Gf m) a0 a1 s.1 s.2) (s0:=(s3,0)) 2 [2,3,5] [4,6] (λs=>[(4,dI s.1),(6,dI s.2)]) (λs=>[]) g ?_;rintro n ⟨s57,s58⟩ _ g;change vA (Gf n) a0 a1 s57 s58=_ at g;rw[vA]at g;refine yz ?_
 iterate 2 (apply aA g<;>intro _ g)
 refine yo [0,1,2,3,4,5,6,7,8,9,10,11] [] [] ?_
 iterate 2 (refine yY g af.aF λx _ _ g=>?_)
 obtain⟨y,z,g⟩:=bz g (o.a.Oy _ _);refine yl (yC z) ?_;refine aR g λ_ g=>?_;exact aZ (_,_) n g;apply aA g<;>intro _ g;refine yc g (o.a.nB _ _) λy g=>?_;cases g;exact zl;refine yk<|yL (S:=Int) (G:=λm s=>Kj (Gf m) a0 a1 s) (s0:=0) 2 [2,3,4,5,6] [8] (λs=>[(8,dI s)]) (λs=>[]) g ?_;rintro n s69 _ g;change Ki (Gf n) a0 a1 s69=_ at g;rw[Ki]at g;refine yz ?_
 iterate 2 (apply aA g<;>intro _ g)
 refine yo [0,1,2,3,4,5,6,7,8,9,10,11] [] [] ?_
 iterate 2 (refine yY g az.aF λx _ _ g=>?_)
 obtain⟨y,z,g⟩:=bz g (o.a.Hv _ _);refine yl (yC z) ?_;refine aR g λ_ g=>?_;exact aZ _ n g
 iterate 2 (refine yc g (o.a.nB _ _) λy g=>?_;cases g;exact zl)
 apply aA g<;>intro _ g;refine yc g (o.a.nB _ _) λy g=>?_;cases g;exact zl;refine yk<|yL (S:=Int) (G:=λm s=>qh (Gf m) a0 a1 s) (s0:=0) 2 [2,3,4,5,6] [8] (λs=>[(8,dI s)]) (λs=>[]) g ?_;rintro n s82 _ g;change vz (Gf n) a0 a1 s82=_ at g;rw[vz]at g;refine yz ?_
 iterate 2 (apply aA g<;>intro _ g)
 refine yo [0,1,2,3,4,5,6,7,8,9,10,11] [] [] ?_
 iterate 2 (refine yY g az.aF λx _ _ g=>?_)
 obtain⟨y,z,g⟩:=bz g (o.a.Hv _ _);refine yl (yC z) ?_;refine aR g λ_ g=>?_;exact aZ _ n g
 iterate 2 (refine yc g (o.a.nB _ _) λy g=>?_;cases g;exact zl)
theorem w17:Z5 (CF (Gf n)):=by
 intro a0 a1 r g;rw[CF]at g;refine yw func17 ntmps17 ?_;refine yc g (o.a.Oy _ _) λy g=>?_;cases g;exact zl
theorem w5:C5 (B5 (Gf n)):=by
 intro a0 a1 a2 a3 r g;rw[B5]at g;refine yw func5 ntmps5 ?_;refine yc g o.a.c7 λy g=>?_;refine aR g λ_ g=>?_;refine yc g (o.a.c14 _ _ _ _) λy g=>?_;refine aR g λ_ g=>?_;refine yc g (o.a.c15 _ _ _ _) λy g=>?_;refine yc g (o.a.c16 _ _ _ _) λy g=>?_;refine yo [0,1,2,3,4,5,6,7,8,9,10,11,12,13,14,15,16,17,18,19,20,21,22,23] [] [] ?_
 iterate 2 (refine bw g λ_ g=>?_)
 iterate 2 (obtain⟨y,z,g⟩:=bz g (o.a.c18 _ _ _);refine yl (yC z) ?_)
 obtain⟨y,z,g⟩:=bz g (o.a.c17 _ _);refine yl (yC z) ?_;refine bw g λ_ g=>?_;obtain⟨y,z,g⟩:=bz g (o.a.c19 _ _ _);refine yl (yC z) ?_;cases g;exact zl
end
end Go.Proofs.YtnocmolegijmkaaGreat
end

section
set_option maxRecDepth 100000
noncomputable section
namespace Go.Proofs.YtnocmolegijmkaaGreat
open Go Go.Bw
theorem hf:∀n,Kf n:=by
 intro n
 induction n using Nat.strongRecOn with|_ n ih=>?_
 rcases n with _|n
 ·constructor<;>(repeat intro _)<;>contradiction
 ·have h:Of n:=λm hm=>ih m (by omega);exact⟨w48 h,w23 h,w49 h,w24 h,w8 h,alg h,alh h,ali h,alj h,w68 h,w93 h,alk h,alm h,aln h,w92 h,alo h,alp h,alq h,alr h,als h,w67 h,w31 h,w70 h,aem h,afD h,w32 h,w71 h,w72 h,w73 h,w33 h,w79 h,w80 h,w35 h,alu h,acZ h,alv h,alw h,alx h,aly h,alz h,alA h,alC h,aie h,aif h,alD h,alE h,alF h,alG h,aen h,alH h,aeo h,w81 h,w78 h,alI h,alJ h,alK h,alM h,alN h,alO h,alQ h,alR h,alS h,w34 h,w36 h,agu h,w12 h,alT h,alU h,alV h,alW h,alX h,aep h,alY h,alZ h,al0 h,al1 h,w94 h,w83 h,w37 h,al2 h,aeq h,aer h,w84 h,w38 h,w14 h,w39 h,w25 h,w50 h,agv h,w51 h,w53 h,w27 h,w26 h,w9 h,al3 h,al4 h,al5 h,al6 h,al7 h,al8 h,al9 h,w91 h,w44 h,al' h,ama h,ac0 h,ac1 h,w95 h,w45 h,w19 h,amb h,amc h,amd h,ame h,amf h,amg h,amh h,ami h,amj h,amk h,aes h,aml h,amm h,amn h,amo h,ac2 h,ac3 h,amp h,amq h,amr h,ams h,w90 h,w43 h,amt h,amu h,amv h,ac4 h,amw h,amx h,amy h,amz h,aet h,amA h,amB h,amC h,amD h,amE h,amF h,amG h,amH h,amI h,amJ h,amK h,w86 h,amL h,amM h,amN h,amO h,amP h,amQ h,amR h,w85 h,w40 h,w15 h,w41 h,w16 h,w18 h,w87 h,w88 h,amS h,w89 h,w42 h,w17 h,w5 h,Ch,xo,MZ,Jl,c7,(hu n).F5,(hu n).Cj,(hu n).GF,(hu n).GG,(hu n).Ci,(hu n).GD⟩
theorem p5:C5 (f5 Pf):=λa0 a1 a2 a3 r h=>by
 obtain⟨n,hn⟩:=PF.ex (PF.ap (PF.ap (PF.ap (PF.ap l5 a0) a1) a2) a3) h;exact(hf n).c5 a0 a1 a2 a3 _ hn
