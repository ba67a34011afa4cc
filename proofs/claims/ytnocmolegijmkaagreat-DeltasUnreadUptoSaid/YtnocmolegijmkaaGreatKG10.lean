/- Printed by a program: what functions answer, and that they do. -/
import Derived.Test.YtnocmolegijmkaaGreatKG6
import Derived.Test.YtnocmolegijmkaaGreatKG7
import Derived.Test.YtnocmolegijmkaaGreatKG8
import Derived.Test.YtnocmolegijmkaaGreatKG9
set_option linter.all false
section
set_option maxRecDepth 100000
noncomputable section
namespace Go.Proofs.YtnocmolegijmkaaGreat
open Go Go.Bw Go.Proofs.Tryz
/-(plexus.eval.frame).constructor$1-/
theorem amK {n} (o:Of n):ZO (vY (Gf n)):=by
 intro a0 a1 a2 r g;rw[vY]at g;refine yw func182 ntmps182 ?_;refine yo [0,1,2,3,4,5,6] [(7,.one)] [] ?_;refine yY g ab.aE λx _ _ g=>?_;obtain⟨y,z,g⟩:=bx g (o.a.sM _ _);refine yl (yC z) ?_;cases g;exact zl
/-(plexus.eval.frame).set-/
theorem amL {n} (o:Of n):ZP (wi (Gf n)):=by
 intro a0 a1 r g;rw[wi]at g;refine yw func183 ntmps183 ?_;refine Ok.stuck aU ?_;refine au.kv 6 9 1 3 rfl rfl ?_;refine yL (S:=(List (List UInt8))×Int) (G:=λm s=>nk (Gf m) a0 a1 s.1 s.2) (s0:=([],0)) 4 [2,4,5,14,15] [6,16] (λs=>[(6,.os 3 (aG s.1).length),(16,.d (.v (.int .i64 s.2)))]) (λs=>[(3,.row 9 1 (aG s.1))]) g ?_;rintro n ⟨s1,s2⟩ _ g;change uf (Gf n) a0 a1 s1 s2=_ at g;rw[uf]at g;refine yz ?_;refine aA g ?_ ?_<;>intro _ g;refine yX g ab.aE λx _ _ g=>?_;refine yc g (o.a.sM _ _) λy g=>?_;refine aA g ?_ ?_<;>intro _ g;obtain⟨k,g⟩:=bL g;refine yk<|DO.dQ rfl rfl zg rfl rfl zg rfl rfl rfl rfl rfl rfl (zo k) (yz ?_)
 iterate 2 (obtain⟨k,g⟩:=bL g;refine yk<|DO.r9 (rows2:=(aG y.d.Names)) rfl rfl zg rfl (cq.refl _) rfl rfl (HU _) rfl rfl rfl (zo k) (yz ?_);exact yk (yN (_,_) n ⟨by omega,g⟩))
 refine yk<|au.cO (t:=38) rfl rfl (gG rfl aU) (yz ?_)
 refine yc g (o.a.anm _ _) λy g=>?_;refine yc g (o.a.wY _) λy g=>?_;refine bp g λ_ g=>?_;refine yc g (o.a.ZU _ _ _) λy g=>?_;cases g;exact zl
/-(plexus.eval.frame).observer-/
theorem amM {n} (o:Of n):ZQ (sw (Gf n)):=by
 intro a0 a1 r g;rw[sw]at g;refine yw func135 ntmps135 ?_;refine yo [0,1,2,3,4,5,6] [(7,.one)] [] ?_;refine yY g ab.aE λx _ _ g=>?_;obtain⟨y,z,g⟩:=bx g (o.a.sM _ _);refine yl (yC z) ?_;refine aA g ?_ ?_<;>intro _ g;refine yc g (o.a.anv _) λy g=>?_;refine yc g (o.a.Cj _) λy g=>?_;cases g;exact zl;refine aA g ?_ ?_<;>intro _ g;refine yc g (o.a.anw _) λy g=>?_
 iterate 2 (refine yc g (o.a.Cj _) λy g=>?_;cases g;exact zl;refine aA g ?_ ?_<;>intro _ g)
 refine yc g (o.a.lx _) λy g=>?_;cases g;exact zl;refine aA g ?_ ?_<;>intro _ g;refine yc g (o.a.w4 _) λy g=>?_;refine yc g (o.a.Ox _) λy g=>?_;cases g;exact zl;refine aA g ?_ ?_<;>intro _ g;refine yX g ab.aE λx _ _ g=>?_;refine aA g ?_ ?_<;>intro _ g;refine yc g (o.a.ZY _) λy g=>?_;refine yc g (o.a.Ox _) λy g=>?_;cases g;exact zl;refine yc g (o.a.w4 _) λy g=>?_;refine yc g (o.a.Ox _) λy g=>?_;cases g;exact zl;refine aA g ?_ ?_<;>intro _ g;refine yc g (o.a.lx _) λy g=>?_;cases g;exact zl;refine yc g (o.a.ZY _) λy g=>?_;refine yc g (o.a.lx _) λy g=>?_;cases g;exact zl
theorem w85 {n} (o:Of n):C85 (CH (Gf n)):=by
 intro a0 r g;rw[CH]at g;refine yw func85 ntmps85 ?_;refine yo [0,1,2,3,4,5,6] [(7,.one)] [] ?_;obtain⟨y,z,g⟩:=bx g (o.a.w4 _);refine yl (yC z) ?_;refine Ok.stuck aU ?_;refine au.gH 2 2 40 4 3 rfl rfl rfl ?_;refine yL (S:=Int×(List ah)) (G:=λm s=>rD (Gf m) a0 y s.1 s.2) (s0:=(0,[])) 4 [1,2,3,15,16] [17] (λs=>[(17,.d (.v (.int .i64 s.1)))]) (λs=>[(3,.row 40 4 (ah.rows s.2)),(2,.box [.d (.v (.int .i64 a0.N)),.d (.sl 1 (aG y)),.os 3 (ah.rows s.2).length,.d (.v (.slice none 0 0))])]) g ?_;rintro n ⟨s2,s5⟩ _ g;change vg (Gf n) a0 y s2 s5=_ at g;rw[vg]at g;refine yz ?_;refine aA g ?_ ?_<;>intro _ g;refine yX g ah.aE λx _ _ g=>?_;refine yo [0,1,2,3,4] (tk [16,18,22]) [] ?_;obtain⟨v,z,g⟩:=bx g (o.a.c85 _);refine yl (yC z) ?_;obtain⟨k,g⟩:=bL g;refine yk<|au.eG (rows2:=(ah.rows ([v]))) aI.nil rfl rfl rfl rfl rfl zg rfl zi rfl rfl (ah.cv _) rfl rfl (zo k) (yz ?_)
 exact yk (yN (_,_) n ⟨by omega,g⟩);refine Ok.stuck aU ?_;refine au.gH 2 3 126 2 4 rfl rfl rfl ?_;refine yL (S:=Int×(List ah)×(List az)) (G:=λm s=>pW (Gf m) a0 y s.1 s.2.1 s.2.2) (s0:=(0,s5,[])) 5 [1,2,3,15,16,17,30,31] [32] (λs=>[(32,.d (.v (.int .i64 s.1)))]) (λs=>[(3,.row 40 4 (ah.rows s.2.1)),(4,.row 126 2 (az.rows s.2.2)),(2,.box [.d (.v (.int .i64 a0.N)),.d (.sl 1 (aG y)),.os 3 (ah.rows s.2.1).length,.os 4 (az.rows s.2.2).length])]) g ?_;rintro n ⟨s12,s15,s16⟩ _ g;change vd (Gf n) a0 y s12 s15 s16=_ at g;rw[vd]at g;refine yz ?_;refine bp g λ_ g=>?_;refine yX g az.aE λx _ _ g=>?_;refine yo [0,1,2,3,4,5,6,7,8] (tk [28,30,34]) [] ?_;obtain⟨y,z,g⟩:=bx g (o.a.ZV _);refine yl (yC z) ?_;obtain⟨k,g⟩:=bL g;refine yk<|au.eG (rows2:=(az.rows ([{a8:=y,Name:=x.Name:az}]))) aI.nil rfl rfl rfl rfl rfl zg rfl zi rfl rfl (az.cv _) rfl rfl (zo k) (yz ?_)
 exact yk (yN (_,_,_) n ⟨by omega,g⟩)
theorem w40 {n} (o:Of n):C40 (sK (Gf n)):=by
 intro a0 a1 a2 r g;rw[sK]at g;refine yw func40 ntmps40 ?_;refine aQ g λ_ g=>?_;refine yc g (o.a.sM _ _) λy g=>?_;refine yc g (o.a.c85 _) λy g=>?_;cases g;exact zl
theorem w15 {n} (o:Of n):C15 (Cp (Gf n)):=by
 intro a0 a1 a2 a3 r g;rw[Cp]at g;refine yw func15 ntmps15 ?_;refine yc g (o.a.c39 _ _ _ _) λy g=>?_;refine aQ g λ_ g=>?_;refine yc g (o.a.c9 _ _) λy g=>?_;refine yc g (o.a.c40 _ _ _) λy g=>?_;cases g;exact zl
theorem w41 {n} (o:Of n):C41 (Cs (Gf n)):=by
 intro a0 a1 a2 a3 a4 r g;rw[Cs]at g;refine yw func41 ntmps41 ?_;refine yc g (o.a.G7 _ _) λy g=>?_;refine aQ g λ_ g=>?_;refine yv (bA.toP (bA.aga rfl zk rfl rfl)) ?_;refine aQ g λ_ g=>?_;refine yc g (o.a.Dg _ _) λy g=>?_;refine aQ g λ_ g=>?_;refine yc g (o.a.PG _ _) λy g=>?_;cases g;exact zl
theorem w16 {n} (o:Of n):C16 (Cr (Gf n)):=by
 intro a0 a1 a2 a3 r g;rw[Cr]at g;refine yw func16 ntmps16 ?_;refine yc g (o.a.c41 _ _ _ _ _) λy g=>?_;refine aQ g λ_ g=>?_;refine yc g (o.a.c40 _ _ _) λy g=>?_;cases g;exact zl
theorem w87 {n} (o:Of n):C87 (OH (Gf n)):=by
 intro a0 r g;rw[OH]at g;refine yw func87 ntmps87 ?_;exact dM g
theorem w88 {n} (o:Of n):C88 (Cu (Gf n)):=by
 intro a0 a1 r g;rw[Cu]at g;refine yw func88 ntmps88 ?_;refine aQ g λ_ g=>?_;refine yc g (o.a.Di _) λy g=>?_;cases g;exact zl
theorem amN {n} (o:Of n):ZR (we (Gf n)):=by
 intro a0 a1 r g;rw[we]at g;refine yw func136 ntmps136 ?_;refine yk<|yL (S:=Int) (G:=λm s=>qZ (Gf m) a0 a1 s) (s0:=0) 0 [0,1,4] [5] (λs=>[(5,.d (.v (.int .i64 s)))]) (λs=>[]) g ?_;rintro n s1 _ g;change tZ (Gf n) a0 a1 s1=_ at g;rw[tZ]at g;refine yz ?_
 iterate 2 (refine aA g ?_ ?_<;>intro _ g)
 iterate 2 (refine yo [0,1,2,3,4,5,6,7,8,9,10] [] [] ?_;(iterate 2 (refine yY g aj.aE λx _ _ g=>?_));refine aA g ?_ ?_<;>intro _ g;refine yo [0,1,2,3,4,5,6,7,8,9,10,11,12] [] [] ?_;(iterate 2 (refine yY g aj.aE λx _ _ g=>?_));obtain⟨y,z,g⟩:=bx g (o.a.Di _);refine yl (yC z) ?_;cases g;exact zl)
 exact yk (yN _ n ⟨by omega,g⟩)
 iterate 2 (refine yc g (o.a.mS _ _) λy g=>?_;cases g;exact zl)
theorem w89 {n} (o:Of n):C89 (Cv (Gf n)):=by
 intro a0 a1 r g;rw[Cv]at g;refine yw func89 ntmps89 ?_;refine aA g ?_ ?_<;>intro _ g;refine yc g (o.a.Di _) λy g=>?_;cases g;exact zl;refine yc g (o.a.anD _ _) λy g=>?_;cases g;exact zl
set_option maxHeartbeats 0 in
theorem w42 {n} (o:Of n):C42 (Cw (Gf n)):=by
 intro a0 a1 r g;rw[Cw]at g;refine yw func42 ntmps42 ?_;refine aA g ?_ ?_<;>intro _ g;refine yc g (o.a.Di _) λy g=>?_;cases g;exact zl;refine yk<|yL (S:=Int×Int) (G:=λm s=>ry (Gf m) a0 a1 s.1 s.2) (s0:=(0,0)) 2 [2,3] [4,5] (λs=>[(4,.d (.v (.int .i64 s.1))),(5,.d (.v (.int .i64 s.2)))]) (λs=>[]) g ?_;rintro n ⟨s3,s4⟩ _ g;change u7 (Gf n) a0 a1 s3 s4=_ at g;rw[u7]at g;refine yz ?_
 iterate 2 (refine aA g ?_ ?_<;>intro _ g)
 refine yo [0,1,2,3,4,5,6,7,8,9,10] [] [] ?_
 iterate 2 (refine yY g dF λx _ _ g=>?_)
 refine aA g ?_ ?_<;>intro _ g;refine yo [0,1,2,3,4,5,6,7,8,9,10,11,12] [] [] ?_
 iterate 2 (refine yY g dF λx _ _ g=>?_)
 obtain⟨y,z,g⟩:=bx g (o.a.Di _);refine yl (yC z) ?_;cases g;exact zl;exact yk (yN (_,_) n ⟨by omega,g⟩);refine aA g ?_ ?_<;>intro _ g;refine yc g (o.a.mS _ _) λy g=>?_;cases g;exact zl;refine yk<|yL (S:=Int×Int) (G:=λm s=>JT (Gf m) a0 a1 s.1 s.2) (s0:=(s3,0)) 2 [2,3,5] [4,6] (λs=>[(4,.d (.v (.int .i64 s.1))),(6,.d (.v (.int .i64 s.2)))]) (λs=>[]) g ?_;rintro n ⟨s19,s20⟩ _ g;change JS (Gf n) a0 a1 s19 s20=_ at g;rw[JS]at g;refine yz ?_
 iterate 2 (refine aA g ?_ ?_<;>intro _ g)
 refine yo [0,1,2,3,4,5,6,7,8,9,10,11] [] [] ?_
 iterate 2 (refine yY g ah.aE λx _ _ g=>?_)
 obtain⟨y,z,g⟩:=bx g (o.a.PI _ _);refine yl (yC z) ?_;refine aQ g λ_ g=>?_;exact yk (yN (_,_) n ⟨by omega,g⟩);refine aA g ?_ ?_<;>intro _ g;refine yc g (o.a.mS _ _) λy g=>?_;cases g;exact zl;refine yk<|yL (S:=Int) (G:=λm s=>JP (Gf m) a0 a1 s) (s0:=0) 2 [2,3,4,5,6] [8] (λs=>[(8,.d (.v (.int .i64 s)))]) (λs=>[]) g ?_;rintro n s31 _ g;change JO (Gf n) a0 a1 s31=_ at g;rw[JO]at g;refine yz ?_
 iterate 2 (refine aA g ?_ ?_<;>intro _ g)
 refine yo [0,1,2,3,4,5,6,7,8,9,10,11] [] [] ?_
 iterate 2 (refine yY g az.aE λx _ _ g=>?_)
 obtain⟨y,z,g⟩:=bx g (o.a.G' _ _);refine yl (yC z) ?_;refine aQ g λ_ g=>?_;exact yk (yN _ n ⟨by omega,g⟩)
 iterate 2 (refine yc g (o.a.mS _ _) λy g=>?_;cases g;exact zl)
 refine aA g ?_ ?_<;>intro _ g;refine yc g (o.a.mS _ _) λy g=>?_;cases g;exact zl;refine yk<|yL (S:=Int) (G:=λm s=>JR (Gf m) a0 a1 s) (s0:=0) 2 [2,3,4,5,6] [8] (λs=>[(8,.d (.v (.int .i64 s)))]) (λs=>[]) g ?_;rintro n s44 _ g;change JQ (Gf n) a0 a1 s44=_ at g;rw[JQ]at g;refine yz ?_
 iterate 2 (refine aA g ?_ ?_<;>intro _ g)
 refine yo [0,1,2,3,4,5,6,7,8,9,10,11] [] [] ?_
 iterate 2 (refine yY g az.aE λx _ _ g=>?_)
 obtain⟨y,z,g⟩:=bx g (o.a.G' _ _);refine yl (yC z) ?_;refine aQ g λ_ g=>?_;exact yk (yN _ n ⟨by omega,g⟩)
 iterate 2 (refine yc g (o.a.mS _ _) λy g=>?_;cases g;exact zl)
 refine aA g ?_ ?_<;>intro _ g;refine yc g (o.a.mS _ _) λy g=>?_;cases g;exact zl;refine yk<|yL (S:=Int×Int) (G:=λm s=>pT (Gf m) a0 a1 s.1 s.2) (s0:=(s3,0)) 2 [2,3,5] [4,6] (λs=>[(4,.d (.v (.int .i64 s.1))),(6,.d (.v (.int .i64 s.2)))]) (λs=>[]) g ?_;rintro n ⟨s57,s58⟩ _ g;change u6 (Gf n) a0 a1 s57 s58=_ at g;rw[u6]at g;refine yz ?_
 iterate 2 (refine aA g ?_ ?_<;>intro _ g)
 refine yo [0,1,2,3,4,5,6,7,8,9,10,11] [] [] ?_
 iterate 2 (refine yY g ah.aE λx _ _ g=>?_)
 obtain⟨y,z,g⟩:=bx g (o.a.PI _ _);refine yl (yC z) ?_;refine aQ g λ_ g=>?_;exact yk (yN (_,_) n ⟨by omega,g⟩);refine aA g ?_ ?_<;>intro _ g;refine yc g (o.a.mS _ _) λy g=>?_;cases g;exact zl;refine yk<|yL (S:=Int) (G:=λm s=>JV (Gf m) a0 a1 s) (s0:=0) 2 [2,3,4,5,6] [8] (λs=>[(8,.d (.v (.int .i64 s)))]) (λs=>[]) g ?_;rintro n s69 _ g;change JU (Gf n) a0 a1 s69=_ at g;rw[JU]at g;refine yz ?_
 iterate 2 (refine aA g ?_ ?_<;>intro _ g)
 refine yo [0,1,2,3,4,5,6,7,8,9,10,11] [] [] ?_
 iterate 2 (refine yY g az.aE λx _ _ g=>?_)
 obtain⟨y,z,g⟩:=bx g (o.a.G' _ _);refine yl (yC z) ?_;refine aQ g λ_ g=>?_;exact yk (yN _ n ⟨by omega,g⟩)
 iterate 2 (refine yc g (o.a.mS _ _) λy g=>?_;cases g;exact zl)
 refine aA g ?_ ?_<;>intro _ g;refine yc g (o.a.mS _ _) λy g=>?_;cases g;exact zl;refine yk<|yL (S:=Int) (G:=λm s=>pS (Gf m) a0 a1 s) (s0:=0) 2 [2,3,4,5,6] [8] (λs=>[(8,.d (.v (.int .i64 s)))]) (λs=>[]) g ?_;rintro n s82 _ g;change u5 (Gf n) a0 a1 s82=_ at g;rw[u5]at g;refine yz ?_
 iterate 2 (refine aA g ?_ ?_<;>intro _ g)
 refine yo [0,1,2,3,4,5,6,7,8,9,10,11] [] [] ?_
 iterate 2 (refine yY g az.aE λx _ _ g=>?_)
 obtain⟨y,z,g⟩:=bx g (o.a.G' _ _);refine yl (yC z) ?_;refine aQ g λ_ g=>?_;exact yk (yN _ n ⟨by omega,g⟩)
 iterate 2 (refine yc g (o.a.mS _ _) λy g=>?_;cases g;exact zl)
theorem w17 {n} (o:Of n):C17 (Cy (Gf n)):=by
 intro a0 a1 r g;rw[Cy]at g;refine yw func17 ntmps17 ?_;refine yc g (o.a.PI _ _) λy g=>?_;cases g;exact zl
theorem w6 {n} (o:Of n):C6 (B6 (Gf n)):=by
 intro a0 a1 a2 a3 r g;rw[B6]at g;refine yw func6 ntmps6 ?_;refine yc g o.a.c7 λy g=>?_;refine aQ g λ_ g=>?_;refine yc g (o.a.c14 _ _ _ _) λy g=>?_;refine aQ g λ_ g=>?_;refine yc g (o.a.c20 _) λy g=>?_;refine aQ g λ_ g=>?_;refine yc g (o.a.c15 _ _ _ _) λy g=>?_;refine yc g (o.a.c16 _ _ _ _) λy g=>?_
 iterate 2 (refine bp g λ_ g=>?_)
 refine yc g (o.a.c17 _ _) λy g=>?_;cases g;exact zl
end Go.Proofs.YtnocmolegijmkaaGreat
end

section
set_option maxRecDepth 100000
noncomputable section
namespace Go.Proofs.YtnocmolegijmkaaGreat
open Go Go.Bw
theorem hf:∀n,Kf n:=by
 intro n
 induction n using Nat.strongRecOn with|_ n ih=>?_
 rcases n with _|n
 ·constructor<;>(repeat intro _)<;>contradiction
 ·have h:Of n:=λm hm=>ih m (by omega);exact⟨w48 h,w23 h,w49 h,w24 h,w8 h,alb h,alc h,ald h,ale h,w68 h,w93 h,alf h,alg h,alh h,w92 h,ali h,alj h,alk h,alm h,aln h,w67 h,w31 h,w70 h,aeu h,afJ h,w32 h,w71 h,w72 h,w73 h,w33 h,w79 h,w80 h,w35 h,alo h,ac3 h,alp h,alq h,alr h,als h,alu h,alv h,alw h,aij h,aik h,alx h,aly h,alz h,alA h,aev h,alC h,aew h,w81 h,w78 h,alD h,alE h,alF h,alG h,alH h,alI h,alJ h,alK h,alM h,w34 h,w36 h,agD h,w12 h,alN h,alO h,alQ h,alR h,alS h,aex h,alT h,alU h,alV h,alW h,w94 h,w83 h,w37 h,alX h,aey h,aez h,w84 h,w38 h,w14 h,w20 h,agE h,agF h,w39 h,w25 h,w50 h,agG h,w51 h,w53 h,w27 h,w26 h,w9 h,alY h,alZ h,al0 h,al1 h,al2 h,al3 h,al4 h,w91 h,w44 h,al5 h,al6 h,ac4 h,ac5 h,w95 h,w45 h,w19 h,al7 h,al8 h,al9 h,al' h,ama h,amb h,amc h,amd h,ame h,amf h,aeA h,amg h,amh h,ami h,amj h,ac6 h,ac7 h,amk h,aml h,amm h,amn h,w90 h,w43 h,amo h,amp h,amq h,ac8 h,amr h,ams h,amt h,amu h,aeB h,amv h,amw h,amx h,amy h,amz h,amA h,amB h,amC h,amD h,amE h,amF h,w86 h,amG h,amH h,amI h,amJ h,amK h,amL h,amM h,w85 h,w40 h,w15 h,w41 h,w16 h,w87 h,w88 h,amN h,w89 h,w42 h,w17 h,w6 h,BY,wY,Ns,I2,c7,(hu n).FQ,(hu n).B0,(hu n).Gr,(hu n).Gs,(hu n).BZ,(hu n).Gq⟩
theorem p6:C6 (f6 Pf):=λa0 a1 a2 a3 r h=>by
 obtain⟨n,hn⟩:=PF.ex (PF.ap (PF.ap (PF.ap (PF.ap l6 a0) a1) a2) a3) h;exact(hf n).c6 a0 a1 a2 a3 _ hn
