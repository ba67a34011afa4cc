/- Printed by a program: what functions answer, and that they do. -/
import Derived.Test.YtmbalfjhlngncaaGreatKG6
set_option linter.all false
set_option maxRecDepth 100000
noncomputable section
namespace Go.Proofs.YtmbalfjhlngncaaGreat
open Go Go.Bw Go.Proofs.Tryz
/-plexus.plexuslaw19.of-/
theorem w70 {n} (o:Of n):Xp (LN (Gf n)):=by
 intro a0 r g;rw[LN]at g;refine yw func70 ntmps70 ?_;cases g;exact zl
/-plexus.plexuslaw19.example-/
theorem w33 {n} (o:Of n):Xq (LO (Gf n)):=by
 intro r g;rw[LO]at g;refine yw func33 ntmps33 ?_;refine yc g (o.a.og _) λy1 g=>?_;refine yo [0,1,2,3,4,5,6] [(7,.one)] [] ?_;obtain⟨y2,ey2,g⟩:=a8 g (o.a.og _);refine yl (yC ey2) ?_;refine yo [0,1,2,3,4,5,6,7,8,9,10,11,12,13] [(14,.one)] [] ?_;obtain⟨y3,ey3,g⟩:=a8 g (o.a.og _);refine yl (yC ey3) ?_;obtain⟨y4,ey4,g⟩:=a8 g (o.a.og _);refine yl (yC ey4) ?_;obtain⟨y5,ey5,g⟩:=a8 g (o.a.og _);refine yl (yC ey5) ?_;refine yo [0,1,2,3,4,5,6,7,8,9,10] [(11,.one)] [] ?_;obtain⟨y6,ey6,g⟩:=a8 g (o.a.og _);refine yl (yC ey6) ?_;refine yo [0,1,2,3,4,5,6,7,8,9,10] [(11,.one)] [] ?_;obtain⟨y7,ey7,g⟩:=a8 g (o.a.og _);refine yl (yC ey7) ?_;obtain⟨y8,ey8,g⟩:=a8 g (o.a.og _);refine yl (yC ey8) ?_;refine yo [0,1,2,3,4,5,6,7,8] [(9,.one)] [] ?_;obtain⟨y9,ey9,g⟩:=a8 g (o.a.og _);refine yl (yC ey9) ?_;refine yo [] (tk [0,3,6,9,13,16,19,22]) [] ?_
 iterate 7 (refine yt zp ?_)
 cases g;exact yj
/-plexus.plexuslaw19.named-/
theorem w34 {n} (o:Of n):Xr (LP (Gf n)):=by
 intro a0 r g;rw[LP]at g;refine yw func34 ntmps34 ?_;cases g;exact yj
/-plexus.lattice.when-/
theorem ahD {n} (o:Of n):U9 (AG (Gf n)):=by
 intro a0 a1 r g;rw[AG]at g;refine yw func226 ntmps226 ?_;exact cO g
/-plexus.lattice.shape-/
set_option maxHeartbeats 0 in
theorem ahE {n} (o:Of n):U' (vi (Gf n)):=by
 intro a0 r g;rw[vi]at g;refine yw func168 ntmps168 ?_;refine ay g (λh1 g=>?_) λ_ g=>?_;refine ay g (λ_ g=>?_) λ_ g=>?_
 iterate 2 (refine yF h1 ?_)
 refine yc g (o.a.cn _ _) λy3 g=>?_;cases g;exact zl;refine ay g (λ_ g=>?_) λ_ g=>?_
 iterate 2 (refine yF h1 ?_)
 refine yc g (o.a.cn _ _) λy5 g=>?_;cases g;exact zl;refine ay g (λ_ g=>?_) λ_ g=>?_
 iterate 2 (refine yF h1 ?_)
 refine yc g (o.a.cn _ _) λy7 g=>?_;cases g;exact zl;refine ay g (λ_ g=>?_) λ_ g=>?_
 iterate 2 (refine yF h1 ?_)
 refine yc g (o.a.cn _ _) λy9 g=>?_;cases g;exact zl
 iterate 2 (refine yF h1 ?_)
 refine ay g (λ_ g=>?_) λ_ g=>?_;refine yc g (o.a.cn _ _) λy11 g=>?_;cases g;exact zl;refine yc g (o.a.cn _ _) λy12 g=>?_;cases g;exact zl;refine ay g (λh13 g=>?_) λ_ g=>?_;refine ay g (λ_ g=>?_) λ_ g=>?_
 iterate 2 (refine yF h13 ?_)
 refine yc g (o.a.cn _ _) λy15 g=>?_;cases g;exact zl;refine ay g (λ_ g=>?_) λ_ g=>?_
 iterate 2 (refine yF h13 ?_)
 refine yc g (o.a.cn _ _) λy17 g=>?_;cases g;exact zl;refine ay g (λ_ g=>?_) λ_ g=>?_
 iterate 2 (refine yF h13 ?_)
 refine yc g (o.a.cn _ _) λy19 g=>?_;cases g;exact zl;refine ay g (λ_ g=>?_) λ_ g=>?_
 iterate 2 (refine yF h13 ?_)
 refine yc g (o.a.cn _ _) λy21 g=>?_;cases g;exact zl
 iterate 2 (refine yF h13 ?_)
 refine ay g (λ_ g=>?_) λ_ g=>?_;refine yc g (o.a.cn _ _) λy23 g=>?_;cases g;exact zl;refine yc g (o.a.cn _ _) λy24 g=>?_;cases g;exact zl;refine ay g (λh25 g=>?_) λ_ g=>?_;refine ay g (λ_ g=>?_) λ_ g=>?_
 iterate 2 (refine yF h25 ?_)
 refine yc g (o.a.cn _ _) λy27 g=>?_;cases g;exact zl;refine ay g (λ_ g=>?_) λ_ g=>?_
 iterate 2 (refine yF h25 ?_)
 refine yc g (o.a.cn _ _) λy29 g=>?_;cases g;exact zl;refine ay g (λ_ g=>?_) λ_ g=>?_
 iterate 2 (refine yF h25 ?_)
 refine yc g (o.a.cn _ _) λy31 g=>?_;cases g;exact zl
 iterate 2 (refine yF h25 ?_)
 refine yc g (o.a.cn _ _) λy32 g=>?_;cases g;exact zl;refine ay g (λh33 g=>?_) λ_ g=>?_;refine ay g (λ_ g=>?_) λ_ g=>?_
 iterate 2 (refine yF h33 ?_)
 refine yc g (o.a.cn _ _) λy35 g=>?_;cases g;exact zl;refine ay g (λ_ g=>?_) λ_ g=>?_
 iterate 2 (refine yF h33 ?_)
 refine yc g (o.a.cn _ _) λy37 g=>?_;cases g;exact zl;refine ay g (λ_ g=>?_) λ_ g=>?_
 iterate 2 (refine yF h33 ?_)
 refine yc g (o.a.cn _ _) λy39 g=>?_;cases g;exact zl
 iterate 2 (refine yF h33 ?_)
 refine yc g (o.a.cn _ _) λy40 g=>?_;cases g;exact zl;refine ay g (λh41 g=>?_) λ_ g=>?_;refine ay g (λ_ g=>?_) λ_ g=>?_
 iterate 2 (refine yF h41 ?_)
 refine yc g (o.a.cn _ _) λy43 g=>?_;cases g;exact zl;refine ay g (λ_ g=>?_) λ_ g=>?_
 iterate 2 (refine yF h41 ?_)
 refine yc g (o.a.cn _ _) λy45 g=>?_;cases g;exact zl;refine ay g (λ_ g=>?_) λ_ g=>?_
 iterate 2 (refine yF h41 ?_)
 refine yc g (o.a.cn _ _) λy47 g=>?_;cases g;exact zl
 iterate 2 (refine yF h41 ?_)
 refine ay g (λ_ g=>?_) λ_ g=>?_;refine yc g (o.a.cn _ _) λy49 g=>?_;cases g;exact zl;refine yc g (o.a.cn _ _) λy50 g=>?_;cases g;exact zl;refine ay g (λh51 g=>?_) λ_ g=>?_;refine ay g (λ_ g=>?_) λ_ g=>?_
 iterate 2 (refine yF h51 ?_)
 refine yc g (o.a.cn _ _) λy53 g=>?_;cases g;exact zl;refine ay g (λ_ g=>?_) λ_ g=>?_
 iterate 2 (refine yF h51 ?_)
 refine yc g (o.a.cn _ _) λy55 g=>?_;cases g;exact zl;refine ay g (λ_ g=>?_) λ_ g=>?_
 iterate 2 (refine yF h51 ?_)
 refine yc g (o.a.cn _ _) λy57 g=>?_;cases g;exact zl
 iterate 2 (refine yF h51 ?_)
 refine ay g (λ_ g=>?_) λ_ g=>?_;refine yc g (o.a.cn _ _) λy59 g=>?_;cases g;exact zl;refine yc g (o.a.cn _ _) λy60 g=>?_;cases g;exact zl;refine ay g (λh61 g=>?_) λ_ g=>?_;refine ay g (λ_ g=>?_) λ_ g=>?_
 iterate 2 (refine yF h61 ?_)
 refine yc g (o.a.cn _ _) λy63 g=>?_;cases g;exact zl;refine ay g (λ_ g=>?_) λ_ g=>?_
 iterate 2 (refine yF h61 ?_)
 refine yc g (o.a.cn _ _) λy65 g=>?_;cases g;exact zl;refine ay g (λ_ g=>?_) λ_ g=>?_
 iterate 2 (refine yF h61 ?_)
 refine yc g (o.a.cn _ _) λy67 g=>?_;cases g;exact zl
 iterate 2 (refine yF h61 ?_)
 refine ay g (λ_ g=>?_) λ_ g=>?_;refine yc g (o.a.cn _ _) λy69 g=>?_;cases g;exact zl;refine yc g (o.a.cn _ _) λy70 g=>?_;cases g;exact zl;refine ay g (λh71 g=>?_) λ_ g=>?_;refine ay g (λ_ g=>?_) λ_ g=>?_
 iterate 2 (refine yF h71 ?_)
 refine yc g (o.a.cn _ _) λy73 g=>?_;cases g;exact zl;refine ay g (λ_ g=>?_) λ_ g=>?_
 iterate 2 (refine yF h71 ?_)
 refine yc g (o.a.cn _ _) λy75 g=>?_;cases g;exact zl;refine ay g (λ_ g=>?_) λ_ g=>?_
 iterate 2 (refine yF h71 ?_)
 refine yc g (o.a.cn _ _) λy77 g=>?_;cases g;exact zl;refine ay g (λ_ g=>?_) λ_ g=>?_
 iterate 2 (refine yF h71 ?_)
 refine yc g (o.a.cn _ _) λy79 g=>?_;cases g;exact zl
 iterate 2 (refine yF h71 ?_)
 refine ay g (λ_ g=>?_) λ_ g=>?_;refine yc g (o.a.cn _ _) λy81 g=>?_;cases g;exact zl;refine yc g (o.a.cn _ _) λy82 g=>?_;cases g;exact zl;refine ay g (λh83 g=>?_) λh83 g=>?_;refine yo [0,1,2,3,4] [] [] ?_;refine ay g (λ_ g=>?_) λ_ g=>?_;refine Ok.iQ h83 ?_;conv=>(arg 3;whnf)
 refine yc g (o.a.cn _ _) λy85 g=>?_;cases g;exact zl;refine ay g (λ_ g=>?_) λ_ g=>?_;refine Ok.iQ h83 ?_;conv=>(arg 3;whnf)
 refine yc g (o.a.cn _ _) λy87 g=>?_;cases g;exact zl;refine ay g (λ_ g=>?_) λ_ g=>?_;refine Ok.iQ h83 ?_;conv=>(arg 3;whnf)
 refine yc g (o.a.cn _ _) λy89 g=>?_;cases g;exact zl;refine Ok.iQ h83 ?_;conv=>(arg 3;whnf)
 refine ay g (λ_ g=>?_) λ_ g=>?_;refine yc g (o.a.cn _ _) λy91 g=>?_;cases g;exact zl;refine yc g (o.a.cn _ _) λy92 g=>?_;cases g;exact zl;refine bc g λh93 g=>?_;refine ay g (λ_ g=>?_) λ_ g=>?_;refine Ok.jI h83 ?_;conv=>(arg 3;whnf)
 refine Ok.iQ h93 ?_;conv=>(arg 3;whnf)
 refine yc g (o.a.cn _ _) λy95 g=>?_;cases g;exact zl;refine ay g (λ_ g=>?_) λ_ g=>?_;refine Ok.jI h83 ?_;conv=>(arg 3;whnf)
 refine Ok.iQ h93 ?_;conv=>(arg 3;whnf)
 refine yc g (o.a.cn _ _) λy97 g=>?_;cases g;exact zl;refine Ok.jI h83 ?_;conv=>(arg 3;whnf)
 refine Ok.iQ h93 ?_;conv=>(arg 3;whnf)
 refine ay g (λ_ g=>?_) λ_ g=>?_;refine yc g (o.a.cn _ _) λy99 g=>?_;cases g;exact zl;refine yc g (o.a.cn _ _) λy100 g=>?_;cases g;exact zl
/-plexus.lattice.limits-/
theorem ahF {n} (o:Of n):Va (AH (Gf n)):=by
 intro a0 r g;rw[AH]at g;refine yw func170 ntmps170 ?_
 iterate 2 (refine ay g (λ_ g=>?_) λ_ g=>?_)
 refine yc g (o.a.cn _ _) λy3 g=>?_;cases g;exact zl;refine yc g (o.a.cn _ _) λy4 g=>?_;cases g;exact zl
 iterate 2 (refine ay g (λ_ g=>?_) λ_ g=>?_)
 refine yc g (o.a.cn _ _) λy7 g=>?_;cases g;exact zl;refine yc g (o.a.cn _ _) λy8 g=>?_;cases g;exact zl;refine ay g (λ_ g=>?_) λ_ g=>?_;refine yc g (o.a.cn _ _) λy10 g=>?_;cases g;exact zl;refine yc g (o.a.cn _ _) λy11 g=>?_;cases g;exact zl
/-plexus.names.wordByte-/
theorem ahG {n} (o:Of n):Vb (AI (Gf n)):=by
 intro a0 r g;rw[AI]at g;refine yw func174 ntmps174 ?_;refine ay g (λ_ g=>?_) λ_ g=>?_;refine aM g λ_ g=>?_;refine bc g λ_ g=>?_;exact cO g;refine bc g λ_ g=>?_;exact cO g
/-plexus.names.Valid-/
theorem ahH {n} (o:Of n):Vc (AJ (Gf n)):=by
 intro a0 r g;rw[AJ]at g;refine yw func101 ntmps101 ?_
 iterate 2 (refine aM g λ_ g=>?_)
 obtain⟨x3,ex3,j4h,g⟩:=b3 g;refine yv (bp.toP (bp.HW ((0:Int).toNat) rfl rfl rfl rfl j4h ex3)) ?_;refine aM g λ_ g=>?_;obtain⟨x6,ex6,j7h,g⟩:=b3 g;refine yv (bp.toP (bp.HW ((0:Int).toNat) rfl rfl rfl rfl j7h ex6)) ?_;refine aM g λ_ g=>?_;refine yk<|yL (S:=Int) (G:=λm s=>xC (Gf m) a0 s) (s0:=0) 0 [0,2,23] [24] (λs=>[(24,.d (.v (.int .i64 s)))]) (λs=>[]) g ?_;rintro n s9 _ g;change tR (Gf n) a0 s9=_ at g;rw[tR]at g;refine yz ?_
 refine bc g λ_ g=>?_;obtain⟨x11,ex11,j12h,g⟩:=b3 g;refine yv (bp.toP (bp.HW ((s9:Int).toNat) rfl rfl rfl rfl j12h ex11)) ?_;refine yc g (o.a.ajm _) λy13 g=>?_;refine aM g λ_ g=>?_;exact yk (yN _ n ⟨by omega,g⟩)
/-slices.Index[[]string,string]-/
theorem ahI {n} (o:Of n):Vd (vl (Gf n)):=by
 intro a0 a1 r g;rw[vl]at g;refine yw func145 ntmps145 ?_;refine yk<|yL (S:=Int) (G:=λm s=>Dk (Gf m) a0 a1 s) (s0:=0) 0 [0,1,4,7] [8] (λs=>[(8,.d (.v (.int .i64 s)))]) (λs=>[]) g ?_;rintro n s1 _ g;change tT (Gf n) a0 a1 s1=_ at g;rw[tT]at g;refine yz ?_
 refine bc g λ_ g=>?_;refine yX g cL λx3 _ _ g=>?_;refine aM g λ_ g=>?_;exact yk (yN _ n ⟨by omega,g⟩)
/-slices.Contains[[]string,string]-/
theorem ahJ {n} (o:Of n):Ve (AK (Gf n)):=by
 intro a0 a1 r g;rw[AK]at g;refine yw func205 ntmps205 ?_;refine yc g (o.a.rE _ _) λy1 g=>?_;cases g;exact zl
/-plexus.names.Sorted-/
theorem ahK {n} (o:Of n):Vf (vh (Gf n)):=by
 intro a0 r g;rw[vh]at g;refine yw func122 ntmps122 ?_;refine yk<|yL (S:=Int) (G:=λm s=>xB (Gf m) a0 s) (s0:=1) 0 [0,2] [3] (λs=>[(3,.d (.v (.int .i64 s)))]) (λs=>[]) g ?_;rintro n s1 _ g;change qF (Gf n) a0 s1=_ at g;rw[qF]at g;refine yz ?_
 refine bc g λ_ g=>?_;refine yo [0,1,2,3,4,5,6,7,8,9] [] [] ?_;refine yY g cL λx3 _ _ g=>?_;refine yY g cL λx5 _ _ g=>?_;refine aM g λ_ g=>?_;exact yk (yN _ n ⟨by omega,g⟩)
/-plexus.names.Has-/
theorem ahL {n} (o:Of n):Vg (AL (Gf n)):=by
 intro a0 a1 r g;rw[AL]at g;refine yw func143 ntmps143 ?_;refine yc g (o.a.Lg _ _) λy1 g=>?_;cases g;exact zl
/-plexus.names.Subset-/
theorem ahM {n} (o:Of n):Vh (vm (Gf n)):=by
 intro a0 a1 r g;rw[vm]at g;refine yw func182 ntmps182 ?_;refine yk<|yL (S:=Int) (G:=λm s=>qG (Gf m) a0 a1 s) (s0:=0) 0 [1,4,7,8] [9] (λs=>[(9,.d (.v (.int .i64 s)))]) (λs=>[]) g ?_;rintro n s1 _ g;change tU (Gf n) a0 a1 s1=_ at g;rw[tU]at g;refine yz ?_
 refine bc g λ_ g=>?_;refine yX g cL λx3 _ _ g=>?_;refine yc g (o.a.vC _ _) λy5 g=>?_;refine aM g λ_ g=>?_;exact yk (yN _ n ⟨by omega,g⟩)
/-plexus.lattice.spelling-/
theorem ahN {n} (o:Of n):Vi (rv (Gf n)):=by
 intro a0 r g;rw[rv]at g;refine yw func171 ntmps171 ?_;refine yk<|yL (S:=Int×Int) (G:=λm s=>lM (Gf m) a0 s.1 s.2) (s0:=(0,0)) 1 [1,8,9] [2,10] (λs=>[(2,.d (.v (.int .i64 s.1))),(10,.d (.v (.int .i64 s.2)))]) (λs=>[]) g ?_;rintro n ⟨s1,s2⟩ _ g;change oS (Gf n) a0 s1 s2=_ at g;rw[oS]at g;refine yz ?_
 refine ay g (λ_ g=>?_) λ_ g=>?_;refine yX g cL λx4 _ _ g=>?_;refine yc g (o.a.l4 _) λy6 g=>?_;refine aM g λ_ g=>?_;refine ay g (λ_ g=>?_) λ_ g=>?_;obtain⟨x9,ex9,g⟩:=ck g;refine yv (yQ e9 ex9) ?_;refine yc g (o.a.Lg _ _) λy11 g=>?_;refine aM g λ_ g=>?_
 iterate 2 (exact yk (yN (_,_) n ⟨by omega,g⟩))
 refine ay g (λ_ g=>?_) λ_ g=>?_;refine yc g (o.a.nQ _) λy14 g=>?_;refine aM g λ_ g=>?_;refine yk<|yL (S:=Int) (G:=λm s=>Dl (Gf m) a0 s) (s0:=0) 1 [1,2,8,9,10,42,43] [44] (λs=>[(44,.d (.v (.int .i64 s)))]) (λs=>[]) g ?_;rintro n s16 _ g;change Dm (Gf n) a0 s16=_ at g;rw[Dm]at g;refine yz ?_
 refine bc g λ_ g=>?_;refine yX g aU.aA λx18 _ _ g=>?_;refine aM g λ_ g=>?_;refine yc g (o.a.nQ _) λy21 g=>?_;refine aM g λ_ g=>?_;refine yc g (o.a.A5 _ _) λy23 g=>?_;refine aM g λ_ g=>?_;refine yc g (o.a.vC _ _) λy25 g=>?_;refine aM g λ_ g=>?_;exact yk (yN _ n ⟨by omega,g⟩);refine yk<|yL (S:=Int) (G:=λm s=>Dn (Gf m) a0 s) (s0:=0) 1 [1,2,8,9,10,42,43] [44] (λs=>[(44,.d (.v (.int .i64 s)))]) (λs=>[]) g ?_;rintro n s27 _ g;change Dp (Gf n) a0 s27=_ at g;rw[Dp]at g;refine yz ?_
 refine bc g λ_ g=>?_;refine yX g aU.aA λx29 _ _ g=>?_;refine aM g λ_ g=>?_;refine yc g (o.a.nQ _) λy32 g=>?_;refine aM g λ_ g=>?_;refine yc g (o.a.A5 _ _) λy34 g=>?_;refine aM g λ_ g=>?_;refine yc g (o.a.vC _ _) λy36 g=>?_;refine aM g λ_ g=>?_;exact yk (yN _ n ⟨by omega,g⟩)
/-plexus.lattice.ranges-/
theorem ahO {n} (o:Of n):Vj (vj (Gf n)):=by
 intro a0 r g;rw[vj]at g;refine yw func172 ntmps172 ?_;refine ay g (λ_ g=>?_) λ_ g=>?_;refine yc g (o.a.cn _ _) λy2 g=>?_;cases g;exact zl;refine ay g (λ_ g=>?_) λ_ g=>?_;refine yc g (o.a.cn _ _) λy4 g=>?_;cases g;exact zl;refine ay g (λ_ g=>?_) λ_ g=>?_;refine yc g (o.a.cn _ _) λy6 g=>?_;cases g;exact zl;refine ay g (λ_ g=>?_) λ_ g=>?_;refine yc g (o.a.cn _ _) λy8 g=>?_;cases g;exact zl;refine yc g (o.a.cn _ _) λy9 g=>?_;cases g;exact zl
/-plexus.lattice.Chain-/
theorem ahP {n} (o:Of n):Vk (ry (Gf n)):=by
 intro a0 r g;rw[ry]at g;refine yw func227 ntmps227 ?_
 iterate 3 (refine aM g λ_ g=>?_)
 iterate 2 (refine bc g λ_ g=>?_)
 refine yX g ah.aA λx6 _ _ g=>?_;refine yc g (o.a.Lh _) λy8 g=>?_;refine bc g λ_ g=>?_;refine yX g ah.aA λx10 _ _ g=>?_;refine yc g (o.a.Lh _) λy12 g=>?_;cases g;exact zl
/-plexus.lattice.chains-/
theorem ahQ {n} (o:Of n):Vl (vk (Gf n)):=by
 intro a0 r g;rw[vk]at g;refine yw func173 ntmps173 ?_;refine ay g (λ_ g=>?_) λ_ g=>?_;refine yX g ah.aA λx2 _ _ g=>?_;refine yc g (o.a.Lh _) λy4 g=>?_;refine yc g (o.a.cn _ _) λy5 g=>?_;cases g;exact zl;refine yc g (o.a.cn _ _) λy6 g=>?_;cases g;exact zl
/-cmp.Or[plexus.api.Errno]-/
theorem ahR {n} (o:Of n):Vm (rz (Gf n)):=by
 intro a0 r g;rw[rz]at g;refine yw func169 ntmps169 ?_;refine yk<|yL (S:=Int) (G:=λm s=>mG (Gf m) a0 s) (s0:=0) 0 [2,3,6,7] [8] (λs=>[(8,.d (.v (.int .i64 s)))]) (λs=>[]) g ?_;rintro n s1 _ g;change oU (Gf n) a0 s1=_ at g;rw[oU]at g;refine yz ?_
 refine bc g λ_ g=>?_;refine yX g Cm λx3 _ _ g=>?_;refine aM g λ_ g=>?_;exact yk (yN _ n ⟨by omega,g⟩)
/-(*plexus.lattice.checker).visit-/
theorem ahS {n} (o:Of n):Vn (vg (Gf n)):=by
 intro a0 a1 a2 r g;rw[vg]at g;refine iS.walk (E:=env) func100 rfl zk (rs:=_) rfl ntmps100 rfl (yz ?_)
 iterate 2 (refine aM g λ_ g=>?_)
 refine yc g (o.a.ajn _) λy3 g=>?_;refine aM g λ_ g=>?_;refine yo [0,1,2,3,4,5,6,7,8,9,10] [] [] ?_;obtain⟨y5,ey5,g⟩:=a8 g (o.a.ajo _);refine yl (yC ey5) ?_;obtain⟨y6,ey6,g⟩:=a8 g (o.a.ajp _);refine yl (yC ey6) ?_;obtain⟨y7,ey7,g⟩:=a8 g (o.a.ajq _);refine yl (yC ey7) ?_;obtain⟨y8,ey8,g⟩:=a8 g (o.a.ajr _);refine yl (yC ey8) ?_;obtain⟨y9,ey9,g⟩:=a8 g (o.a.ajs _);refine yl (yC ey9) ?_;refine aM g λ_ g=>?_;refine yk<|yL (S:=Int×dy) (G:=λm s=>mF (Gf m) a1 a2 s.1 s.2) (s0:=(0,{nodes:=IntKind.i64.wrap (a0.nodes+1):dy})) 2 [0,2,6,47,48] [49] (λs=>[(49,.d (.v (.int .i64 s.1)))]) (λs=>[(0,.box ((dy.cs s.2).map .d))]) g ?_;rintro n ⟨s11,s12⟩ _ g;change oT (Gf n) a1 a2 s11 s12=_ at g;rw[oT]at g;refine yz ?_
 refine bc g λ_ g=>?_;refine yX g ah.aA λx14 _ _ g=>?_;obtain⟨y16,ey16,g⟩:=a8 g (o.a.Vo _ _ _);refine yk<|ak.kX 0 ey16 rfl rfl (by first|rfl|(simp only[gW];rfl)) rfl (nK.box rfl zi) rfl (yz ?_)
 refine aM g λ_ g=>?_;exact yk (yN (_,_) n ⟨by omega,g⟩)
/-plexus.lattice.Check-/
theorem w58 {n} (o:Of n):Xs (vM (Gf n)):=by
 intro a0 r g;rw[vM]at g;refine yw func58 ntmps58 ?_;obtain⟨y1,ey1,g⟩:=a8 g (o.a.Vo _ _ _);refine yk<|ak.kX 1 ey1 rfl rfl (by first|rfl|(simp only[gW];rfl)) rfl (nK.box rfl zi) rfl (yz ?_)
 cases g;exact zl
/-plexus.types.formed$1-/
theorem ahT {n} (o:Of n):Vp (AB (Gf n)):=by
 intro a0 a1 r g;rw[AB]at g;refine yw func103 ntmps103 ?_;cases g;exact zl
/-slices.IndexFunc[[]plexus.api.Param,plexus.api.Param]-/
theorem abb {n} (o:Of n):Pb (sI (Gf n)):=by
 intro a0 a1 r g;rw[sI]at g;refine yw func175 ntmps175 ?_;refine yk<|yL (S:=Int) (G:=λm s=>B3 (Gf m) a0 a1 s) (s0:=0) 0 [0,1,4,7] [8] (λs=>[(8,.d (.v (.int .i64 s)))]) (λs=>[]) g ?_;rintro n s1 _ g;change rX (Gf n) a0 a1 s1=_ at g;rw[rX]at g;refine yz ?_
 refine bc g λ_ g=>?_;refine yX g TParam.aA λx3 _ _ g=>?_;refine yc g (o.a.ajt _ _) λy5 g=>?_;refine aM g λ_ g=>?_;exact yk (yN _ n ⟨by omega,g⟩)
/-slices.ContainsFunc[[]plexus.api.Param,plexus.api.Param]-/
theorem abc {n} (o:Of n):Pc (wR (Gf n)):=by
 intro a0 a1 r g;rw[wR]at g;refine yw func102 ntmps102 ?_;refine yc g (o.a.abj _ _) λy1 g=>?_;cases g;exact zl
/-plexus.types.formed-/
theorem w59 {n} (o:Of n):Xt (Bv (Gf n)):=by
 intro a0 r g;rw[Bv]at g;refine yw func59 ntmps59 ?_;refine yc g (o.a.l4 _) λy1 g=>?_;refine aM g λ_ g=>?_;refine yc g (o.a.l4 _) λy3 g=>?_
 iterate 4 (refine aM g λ_ g=>?_)
 refine yk<|yL (S:=Int) (G:=λm s=>qS (Gf m) a0 s) (s0:=0) 1 [1,2,32,33] [34] (λs=>[(34,.d (.v (.int .i64 s)))]) (λs=>[]) g ?_;rintro n s8 _ g;change uz (Gf n) a0 s8=_ at g;rw[uz]at g;refine yz ?_
 refine bc g λ_ g=>?_;refine yX g TParam.aA λx10 _ _ g=>?_;refine yc g (o.a.l4 _) λy12 g=>?_
 iterate 3 (refine aM g λ_ g=>?_)
 obtain⟨x16,ex16,g⟩:=ck g;refine yv (yQ TParam.bh ex16) ?_;refine yc g (o.a.abk _ _) λy18 g=>?_;refine aM g λ_ g=>?_;exact yk (yN _ n ⟨by omega,g⟩)
/-plexus.types.leaf-/
theorem ahU {n} (o:Of n):Vq (Av (Gf n)):=by
 intro a0 a1 r g;rw[Av]at g;refine yw func104 ntmps104 ?_;refine aM g λ_ g=>?_;refine ay g (λh2 g=>?_) λ_ g=>?_
 iterate 2 (refine ay g (λ_ g=>?_) λ_ g=>?_)
 refine yo [] (tk [0,3,6,10,12,16]) [] ?_
 iterate 4 (refine yt zp ?_)
 cases g;exact yj
 iterate 4 (refine yF h2 ?_)
 cases g;exact yj
 iterate 4 (refine yF h2 ?_)
 cases g;exact yj;refine ay g (λh5 g=>?_) λh5 g=>?_;refine aM g λ_ g=>?_;refine Ok.iQ h5 ?_;conv=>(arg 3;whnf)
 refine aM g λ_ g=>?_
 iterate 2 (refine yF h5 ?_)
 cases g;exact yj;refine Ok.jI h5 ?_;conv=>(arg 3;whnf)
 refine ay g (λh8 g=>?_) λ_ g=>?_;refine yc g (o.a.l4 _) λy9 g=>?_;refine ay g (λ_ g=>?_) λ_ g=>?_;refine yo [] (tk [0,3,6,10,12,16]) [] ?_
 iterate 4 (refine yt zp ?_)
 cases g;exact yj;refine yF h8 ?_;cases g;exact yj
 iterate 3 (refine bc g λ_ g=>?_)
 refine yo [] (tk [0,3,6,9,12,15,18,22,24,28]) [] ?_;obtain⟨x14,ex14,j15h,g⟩:=b3 g;refine yu zp (yi j15h (TParam.aA ex14)) ?_
 iterate 6 (refine yt zp ?_)
 cases g;exact yj
/-plexus.types.operators-/
theorem ahV {n} (o:Of n):Vr (Aw (Gf n)):=by
 intro a0 r g;rw[Aw]at g;refine yw func105 ntmps105 ?_
 iterate 15 (refine aM g λ_ g=>?_)
 exact cO g
/-plexus.types.calls-/
theorem ahW {n} (o:Of n):Vs (Ax (Gf n)):=by
 intro a0 r g;rw[Ax]at g;refine yw func106 ntmps106 ?_
 iterate 16 (refine aM g λ_ g=>?_)
 exact cO g
/-plexus.types.bare-/
theorem w60 {n} (o:Of n):Xv (Bs (Gf n)):=by
 intro a0 a1 r g;rw[Bs]at g;refine yw func60 ntmps60 ?_;refine yc g (o.a.aju _ _) λy1 g=>?_;refine aM g λ_ g=>?_;refine Ok.stuck aV ?_;refine ak.gK 3 4 83 5 4 rfl rfl rfl ?_;refine yL (S:=Bool×Int×(List az)) (G:=λm s=>qR (Gf m) a0 a1 s.1 s.2.1 s.2.2) (s0:=(false,0,[])) 5 [0,3,4,8,30,31] [5,32] (λs=>[(5,.d (.v (.bool s.1))),(32,.d (.v (.int .i64 s.2.1)))]) (λs=>[(4,.row 83 5 (az.rows s.2.2)),(3,.box [.d (.v (.int .i64 0)),.d (.v (.string ⟨⟨([])⟩⟩)),.d (.v (.int .i64 0)),.d (.v (.int .i64 a1.At)),.os 4 (az.rows s.2.2).length])]) g ?_;rintro n ⟨s3,s4,s9⟩ _ g;change uy (Gf n) a0 a1 s3 s4 s9=_ at g;rw[uy]at g;refine yz ?_;refine ay g (λ_ g=>?_) λ_ g=>?_;refine yX g ae.aA λx11 _ _ g=>?_;refine yc g (o.a.Xw _ _) λy13 g=>?_;refine aM g λ_ g=>?_;refine yo [0,1,2,3,4] (tk [16,18,24,23,28]) [] ?_;obtain⟨h15,g⟩:=bE g;refine yk<|ak.dY (rows2:=(az.rows ([az.z]))) aE.nil rfl rfl rfl rfl rfl zg rfl zi rfl rfl (az.cm _) rfl rfl (zo h15) (yz ?_)
 obtain⟨x16,ex16,j17h,g⟩:=b3 g;refine yU zp (yr j17h ex16) ?_;refine yt (dT j17h ex16) ?_;refine jz ((↑(az.rows s9).length:Int).toNat) 0 (az.aA ex16) j17h ex16 ?_;exact yk (yN (_,_,_) n ⟨by omega,g⟩);refine yc g (o.a.ajv _) λy18 g=>?_;refine ay g (λ_ g=>?_) λ_ g=>?_;refine aM g λ_ g=>?_;refine bc g λ_ g=>?_;refine yX g ae.aA λx22 _ _ g=>?_
 iterate 2 (refine aM g λ_ g=>?_)
 refine yX g cL λx26 _ _ g=>?_;cases g;exact zl;refine yc g (o.a.ajw _) λy28 g=>?_;refine ay g (λ_ g=>?_) λ_ g=>?_;refine yk<|ak.inl (rs:=_) rfl func107 rfl zk rfl ntmps107 rfl rfl (yz ?_)
 refine aM g λ_ g=>?_;refine Ok.stuck aV ?_;refine ak.kQ 3 83 5 5 rfl rfl ?_;refine yL (S:=(List az)×Int) (G:=λm s=>ph (Gf m) a1 s9 y28 s.1 s.2) (s0:=([],0)) 6 [0,2,5,8] [3,4] (λs=>[(3,.os 5 (az.rows s.1).length),(4,.d (.v (.int .i64 s.2)))]) (λs=>[(5,.row 83 5 (az.rows s.1))]) g ?_;rintro n ⟨s31,s32⟩ _ g;change uw (Gf n) a1 s9 y28 s31 s32=_ at g;rw[uw]at g;refine yz ?_;refine bc g λ_ g=>?_;refine yo [0,1,2,3,4,5,6,7,8,9,10,11,12,13,14,15,16,17,18] (tk [58,60]) [] ?_;obtain⟨x34,ex34,j35h,g⟩:=b3 g;refine yl (yr j35h ex34) ?_;refine yl (ym s32.toNat 0 (az.aA ex34)) ?_;obtain⟨x36,ex36,j37h,g⟩:=b3 g;refine yl (yr j37h ex36) ?_;refine yl (ym ((IntKind.i64.wrap (s32+1)).toNat) 0 (az.aA ex36)) ?_;obtain⟨h38,g⟩:=bE g;refine yk<|ak.dY (rows2:=(az.rows ([{Kind:=52,Text:=[],N:=0,At:=0,Kids:=[x34,x36]:az}]))) aE.nil rfl rfl rfl rfl rfl zg rfl zi rfl rfl (az.cm _) rfl rfl (zo h38) (yz ?_)
 exact yk (yN (_,_) n ⟨by omega,g⟩);refine ay g (λ_ g=>?_) λ_ g=>?_;refine yk<|ak.inl (rs:=_) rfl func108 rfl zk rfl ntmps108 rfl rfl (yz ?_)
 refine aM g λ_ g=>?_;refine Ok.stuck aV ?_;refine ak.kQ 6 83 5 6 rfl rfl ?_;refine yL (S:=(List az)×Int) (G:=λm s=>lS (Gf m) a1 s9 y28 s.1 s.2) (s0:=([],0)) 7 [0,3,4,5,17,24,25] [6,26] (λs=>[(6,.os 6 (az.rows s.1).length),(26,.d (.v (.int .i64 s.2)))]) (λs=>[(6,.row 83 5 (az.rows s.1))]) g ?_;rintro n ⟨s41,s42⟩ _ g;change ux (Gf n) a1 s9 y28 s41 s42=_ at g;rw[ux]at g;refine yz ?_;refine bc g λ_ g=>?_;obtain⟨x44,ex44,j45h,g⟩:=b3 g;refine yv (yr j45h ex44) ?_;refine yv (ym s42.toNat 0 (az.aA ex44)) ?_;refine yo [0,1,2,3,4,5,6,7,8,9,10,11] [] [] ?_;refine ay g (λ_ g=>?_) λ_ g=>?_;refine yo [0,1,2,3,4,5,6,7,8] (tk [28,30]) [] ?_;refine yY g cL λx47 _ _ g=>?_;obtain⟨h49,g⟩:=bE g;refine yk<|ak.dY (rows2:=(az.rows ([{Kind:=52,Text:=x47,N:=0,At:=0,Kids:=[x44]:az}]))) aE.nil rfl rfl rfl rfl rfl zg rfl zi rfl rfl (az.cm _) rfl rfl (zo h49) (yz ?_)
 exact yk (yN (_,_) n ⟨by omega,g⟩);refine ay g (λ_ g=>?_) λ_ g=>?_;refine yo [0,1,2,3,4,5,6,7,8] (tk [28,30]) [] ?_;refine yY g cL λx51 _ _ g=>?_;obtain⟨h53,g⟩:=bE g;refine yk<|ak.dY (rows2:=(az.rows ([{Kind:=52,Text:=x51,N:=0,At:=0,Kids:=[x44]:az}]))) aE.nil rfl rfl rfl rfl rfl zg rfl zi rfl rfl (az.cm _) rfl rfl (zo h53) (yz ?_)
 iterate 2 (exact yk (yN (_,_) n ⟨by omega,g⟩))
 refine yo [] (tk [0,3,6,9,13,15]) [] ?_
 iterate 6 (refine yt zp ?_)
 cases g;exact zl
/-plexus.types.of-/
theorem ahX {n} (o:Of n):Vt (Es (Gf n)):=by
 intro a0 r g;rw[Es]at g;refine yw func112 ntmps112 ?_;cases g;exact zl
/-plexus.types.sort-/
theorem ahY {n} (o:Of n):Vu (Et (Gf n)):=by
 intro a0 r g;rw[Et]at g;refine yw func113 ntmps113 ?_;cases g;exact yj
/-plexus.types.want-/
theorem w62 {n} (o:Of n):Xx (Bu (Gf n)):=by
 intro a0 a1 r g;rw[Bu]at g;refine yw func62 ntmps62 ?_;refine ay g (λ_ g=>?_) λ_ g=>?_;refine yc g (o.a.jb _) λy2 g=>?_;cases g;exact zl;refine yc g (o.a.fj _) λy3 g=>?_;cases g;exact zl
/-(*plexus.types.elaborator).any$1-/
theorem ahZ {n} (o:Of n):Vv (Ar (Gf n)):=by
 intro a0 a1 r g;rw[Ar]at g;refine yw func228 ntmps228 ?_;cases g;exact zl
/-slices.IndexFunc[[]plexus.api.Param,plexus.api.Param]-/
theorem abd {n} (o:Of n):Pd (sH (Gf n)):=by
 intro a0 a1 r g;rw[sH]at g;refine yw func175 ntmps175 ?_;refine yk<|yL (S:=Int) (G:=λm s=>B4 (Gf m) a0 a1 s) (s0:=0) 0 [0,1,4,7] [8] (λs=>[(8,.d (.v (.int .i64 s)))]) (λs=>[]) g ?_;rintro n s1 _ g;change rW (Gf n) a0 a1 s1=_ at g;rw[rW]at g;refine yz ?_
 refine bc g λ_ g=>?_;refine yX g TParam.aA λx3 _ _ g=>?_;refine yc g (o.a.ajx _ _) λy5 g=>?_;refine aM g λ_ g=>?_;exact yk (yN _ n ⟨by omega,g⟩)
/-plexus.types.fail-/
theorem ah0 {n} (o:Of n):Vw (Ap (Gf n)):=by
 intro a0 a1 r g;rw[Ap]at g;refine yw func180 ntmps180 ?_;refine Ok.fin aV ?_;obtain rfl:=pS g;exact RD.xV rfl aV rfl zi
/-plexus.types.none-/
theorem ah1 {n} (o:Of n):Vx (AA (Gf n)):=by
 intro a0 r g;rw[AA]at g;refine yw func179 ntmps179 ?_;exact cO g
/-plexus.types.arguments-/
theorem ah2 {n} (o:Of n):Vy (AM (Gf n)):=by
 intro a0 r g;rw[AM]at g;refine yw func279 ntmps279 ?_
 iterate 4 (refine aM g λ_ g=>?_)
 exact cO g
/-slices.Index[[]int,int]-/
theorem ah3 {n} (o:Of n):Vz (vd (Gf n)):=by
 intro a0 a1 r g;rw[vd]at g;refine yw func315 ntmps315 ?_;refine yk<|yL (S:=Int) (G:=λm s=>Dq (Gf m) a0 a1 s) (s0:=0) 0 [0,1,4,7] [8] (λs=>[(8,.d (.v (.int .i64 s)))]) (λs=>[]) g ?_;rintro n s1 _ g;change tO (Gf n) a0 a1 s1=_ at g;rw[tO]at g;refine yz ?_
 refine bc g λ_ g=>?_;refine yX g Cm λx3 _ _ g=>?_;refine aM g λ_ g=>?_;exact yk (yN _ n ⟨by omega,g⟩)
/-slices.Contains[[]int,int]-/
theorem ah4 {n} (o:Of n):VA (Aq (Gf n)):=by
 intro a0 a1 r g;rw[Aq]at g;refine yw func281 ntmps281 ?_;refine yc g (o.a.ajy _ _) λy1 g=>?_;cases g;exact zl
/-(*plexus.types.elaborator).call$1-/
theorem ah5 {n} (o:Of n):VB (AN (Gf n)):=by
 intro a0 a1 a2 r g;rw[AN]at g;refine yw func280 ntmps280 ?_;refine ay g (λ_ g=>?_) λ_ g=>?_;exact yP g (o.a.fy _ _);refine yc g (o.a.Li _ _) λy3 g=>?_;refine ay g (λ_ g=>?_) λ_ g=>?_;exact yP g (o.a.fy _ _);refine Ok.fin aV ?_;obtain rfl:=pS g;exact RD.qX rfl rfl aV rfl (bV.refl _)
/-slices.Clone[[]string,string]-/
theorem w51 {n} (o:Of n):Xy (Bt (Gf n)):=by
 intro a0 r g;rw[Bt]at g;refine yw func51 ntmps51 ?_;refine Ok.stuck aV<|ak.iU 3 rfl ?_ ?_
 intro cap h1;replace g:(some ([]))=some r:=(by have h0:a0=[]:=FJ.1 (by have h1:=congrArg List.length h1;simpa only[bD,lA]using h1);subst h0;simpa using g);refine yz ?_;refine yv (bp.toP (bp.mS (et:=9) rfl zk rfl rfl)) ?_;cases g;exact yj;intro ad n0 cap;refine yz ?_;refine yv (bp.toP (bp.mS (et:=9) rfl zk rfl rfl)) ?_;obtain⟨h2,g⟩:=bE g;refine yk<|DO.pw (rows2:=(aB a0)) rfl rfl zg rfl (bV.refl _) rfl rfl (Cd _) rfl rfl rfl (zo h2) (yz ?_)
 cases g;exact zl
/-slices.Clone[[]plexus.api.Rule,plexus.api.Rule]-/
theorem ae' {n} (o:Of n):Ux (yA (Gf n)):=by
 intro a0 r g;rw[yA]at g;refine jM.walk (E:=env) func232 rfl zk (rs:=_) rfl ntmps232 rfl (yz ?_);refine Ok.stuck aV<|ak.iU 3 rfl ?_ ?_
 intro cap h1;replace g:(some [])=some r:=(by have h0:a0=[]:=FJ.1 (by have h1:=congrArg List.length h1;simpa only[aU.aI,lA]using h1);subst h0;simpa using g);refine yz ?_;refine yv (bp.toP (bp.mS (et:=167) rfl zk rfl rfl)) ?_;refine Ok.fin aV ?_;obtain rfl:=pS g;exact RD.GO rfl rfl (by simp only[gW]);intro ad n0 cap;refine yz ?_;refine yv (bp.toP (bp.mS (et:=167) rfl zk rfl rfl)) ?_;obtain⟨h2,g⟩:=bE g;refine yk<|DO.pw (rows2:=(aU.rows a0)) rfl rfl zg rfl (bV.refl _) rfl rfl (aU.cm _) rfl rfl rfl (zo h2) (yz ?_)
 refine Ok.fin aV ?_;obtain rfl:=pS g;exact RD.Io rfl rfl rfl rfl zi
/-slices.Clone[[]plexus.api.aL,plexus.api.aL]-/
theorem afa {n} (o:Of n):Uy (yy (Gf n)):=by
 intro a0 r g;rw[yy]at g;refine jM.walk (E:=env) func233 rfl zk (rs:=_) rfl ntmps233 rfl (yz ?_);refine Ok.stuck aV<|ak.iU 3 rfl ?_ ?_
 intro cap h1;replace g:(some [])=some r:=(by have h0:a0=[]:=FJ.1 (by have h1:=congrArg List.length h1;simpa only[ah.aI,lA]using h1);subst h0;simpa using g);refine yz ?_;refine yv (bp.toP (bp.mS (et:=26) rfl zk rfl rfl)) ?_;refine Ok.fin aV ?_;obtain rfl:=pS g;exact RD.GO rfl rfl (by simp only[gW]);intro ad n0 cap;refine yz ?_;refine yv (bp.toP (bp.mS (et:=26) rfl zk rfl rfl)) ?_;obtain⟨h2,g⟩:=bE g;refine yk<|DO.pw (rows2:=(ah.rows a0)) rfl rfl zg rfl (bV.refl _) rfl rfl (ah.cm _) rfl rfl rfl (zo h2) (yz ?_)
 refine Ok.fin aV ?_;obtain rfl:=pS g;exact RD.Io rfl rfl rfl rfl zi
/-plexus.types.copied-/
theorem ah6 {n} (o:Of n):VC (Ay (Gf n)):=by
 intro a0 r g;rw[Ay]at g;refine yw func178 ntmps178 ?_;refine yc g (o.a.rN _) λy1 g=>?_;obtain⟨y2,ey2,g⟩:=a8 g (o.a.afb _);refine yk<|ak.Im ey2 rfl rfl (by first|rfl|(simp only[gW];rfl)) rfl (yz ?_)
 refine yk<|yL (S:=Int×(List aU)) (G:=λm s=>xA (Gf m) a0 y1 y2 s.1 s.2) (s0:=(0,y2)) 3 [1,2,15] [16] (λs=>[(16,.d (.v (.int .i64 s.1)))]) (λs=>[(2,.row 167 2 (aU.rows s.2)),(0,.box [.d (.v (.int .i64 a0.Kind)),.d (.v (.int .i64 a0.Lo)),.d (.v (.int .i64 a0.Hi)),.d (.sl 1 (aB y1)),.d (.sl 6 (ah.rows a0.aj)),.os 2 (aU.rows s.2).length])]) g ?_;rintro n ⟨s3,s9⟩ _ g;change tQ (Gf n) a0 y1 y2 s3 s9=_ at g;rw[tQ]at g;refine yz ?_
 refine ay g (λ_ g=>?_) λ_ g=>?_;refine yo [] (tk [0,3,6,9,12,15,18,21,24,28,30,33,37]) [] ?_
 iterate 4 (refine yt zp ?_)
 obtain⟨x11,ex11,j12h,g⟩:=b3 g;refine yU zp (yr j12h ex11) ?_;refine yt (dT j12h ex11) ?_;refine yU (dT j12h ex11) (ym s3.toNat 0 (aU.aA ex11)) ?_;refine yd g (o.a.rN _) (by repeat(first|exact aE.nil|refine aE.cons rfl (bd.dK (cl:=false) rfl aV) ?_|refine aE.skip rfl ?_|refine aE.cons rfl (yr j12h ex11) ?_|refine aE.cons rfl (ym s3.toNat 0 (aU.aA ex11)) ?_|refine aE.cons rfl (ep (cl:=false) rfl aV) ?_)) λy13 g=>?_;obtain⟨x14,ex14,j15h,g⟩:=b3 g;refine yU (by repeat(first|exact aE.nil|refine aE.cons rfl (bd.dK (cl:=false) rfl aV) ?_|refine aE.skip rfl ?_|refine aE.cons rfl (yr j12h ex11) ?_|refine aE.cons rfl (ym s3.toNat 0 (aU.aA ex11)) ?_|refine aE.cons rfl (ep (cl:=false) rfl aV) ?_)) (yr j15h ex14) ?_;refine yt (by repeat(first|exact aE.nil|refine aE.cons rfl (bd.dK (cl:=false) rfl aV) ?_|refine aE.skip rfl ?_|refine aE.cons rfl (yr j12h ex11) ?_|refine aE.cons rfl (ym s3.toNat 0 (aU.aA ex11)) ?_|refine aE.cons rfl (yr j15h ex14) ?_|refine aE.cons rfl (ep (cl:=false) rfl aV) ?_)) ?_;refine yk<|ak.Ce s3.toNat 0 (by repeat(first|exact aE.nil|refine aE.cons rfl (bd.dK (cl:=false) rfl aV) ?_|refine aE.skip rfl ?_|refine aE.cons rfl (yr j12h ex11) ?_|refine aE.cons rfl (ym s3.toNat 0 (aU.aA ex11)) ?_|refine aE.cons rfl (yr j15h ex14) ?_|refine aE.cons rfl (ep (cl:=false) rfl aV) ?_)) (by rfl) (by rfl) (by rfl) (by rfl) (by rfl) (by rfl) (by rfl) (by rfl) zg (by rfl) (yg (aU.aA ex14)) (by rfl) (by rfl) (by rfl) (by rfl) (yz ?_)
 refine yt (by repeat(first|exact aE.nil|refine aE.cons rfl (bd.dK (cl:=false) rfl aV) ?_|refine aE.skip rfl ?_|refine aE.cons rfl (yr j12h ex11) ?_|refine aE.cons rfl (ym s3.toNat 0 (aU.aA ex11)) ?_|refine aE.cons rfl (yr j15h ex14) ?_|refine aE.cons rfl (ep (cl:=false) rfl aV) ?_)) ?_;exact yk (yN (_,_) n ⟨by omega,g⟩);obtain⟨y16,ey16,g⟩:=a8 g (o.a.afc _);refine yk<|ak.Im ey16 rfl rfl (by first|rfl|(simp only[gW];rfl)) rfl (yz ?_)
 refine yk<|yL (S:=Int×(List ah)×(List aU)) (G:=λm s=>xz (Gf m) a0 y1 y16 s.1 s.2.1 s.2.2) (s0:=(0,y16,s9)) 4 [1,2,15,16,38] [39] (λs=>[(39,.d (.v (.int .i64 s.1)))]) (λs=>[(3,.row 26 6 (ah.rows s.2.1)),(2,.row 167 2 (aU.rows s.2.2)),(0,.box [.d (.v (.int .i64 a0.Kind)),.d (.v (.int .i64 a0.Lo)),.d (.v (.int .i64 a0.Hi)),.d (.sl 1 (aB y1)),.os 3 (ah.rows s.2.1).length,.os 2 (aU.rows s.2.2).length])]) g ?_;rintro n ⟨s17,s22,s23⟩ _ g;change tP (Gf n) a0 y1 y16 s17 s22 s23=_ at g;rw[tP]at g;refine yz ?_
 refine bc g λ_ g=>?_;refine yo [0,1,2,3,4,5,6,7,8,9] [(10,.one)] [] ?_;obtain⟨x25,ex25,j26h,g⟩:=b3 g;refine yl (yr j26h ex25) ?_;refine yl (ym s17.toNat 0 (ah.aA ex25)) ?_;obtain⟨y27,ey27,g⟩:=a8 g (o.a.Lj _);refine yl (yC ey27) ?_;obtain⟨x28,ex28,j29h,g⟩:=b3 g;refine yl (yr j29h ex28) ?_;refine yk<|ak.Ce s17.toNat 0 aE.nil (by rfl) (by rfl) (by rfl) (by rfl) (by rfl) (by rfl) (by rfl) (by rfl) zg (by rfl) (yg (ah.aA ex28)) (by rfl) (by rfl) (by rfl) (by rfl) (yz ?_)
 exact yk (yN (_,_,_) n ⟨by omega,g⟩)
/-plexus.types.open-/
theorem ah7 {n} (o:Of n):VD (Au (Gf n)):=by
 intro a0 r g;rw[Au]at g;refine yw func317 ntmps317 ?_;refine aM g λ_ g=>?_;refine ay g (λ_ g=>?_) λ_ g=>?_
 iterate 6 (refine aM g λ_ g=>?_)
 exact cO g;refine ay g (λ_ g=>?_) λ_ g=>?_;refine yX g az.aA λx11 _ _ g=>?_;refine yc g (o.a.vD _) λy13 g=>?_;refine bc g λ_ g=>?_;refine yX g az.aA λx15 _ _ g=>?_;refine yc g (o.a.vD _) λy17 g=>?_;cases g;exact zl;refine bc g λ_ g=>?_;refine yX g az.aA λx19 _ _ g=>?_;refine yc g (o.a.vD _) λy21 g=>?_;refine bc g λ_ g=>?_;refine yX g az.aA λx23 _ _ g=>?_;refine yc g (o.a.vD _) λy25 g=>?_;cases g;exact zl
/-slices.Equal[[]string,string]-/
theorem ah8 {n} (o:Of n):VG (Eu (Gf n)):=by
 intro a0 a1 r g;rw[Eu]at g;refine yw func234 ntmps234 ?_;refine aM g λ_ g=>?_;refine yk<|yL (S:=Int) (G:=λm s=>Dr (Gf m) a0 a1 s) (s0:=0) 0 [0,1,4,12] [13] (λs=>[(13,.d (.v (.int .i64 s)))]) (λs=>[]) g ?_;rintro n s2 _ g;change Ds (Gf n) a0 a1 s2=_ at g;rw[Ds]at g;refine yz ?_
 refine bc g λ_ g=>?_;refine yo [0,1,2,3,4,5,6,7,8] [] [] ?_;refine yY g cL λx4 _ _ g=>?_;refine yY g cL λx6 _ _ g=>?_;refine aM g λ_ g=>?_;exact yk (yN _ n ⟨by omega,g⟩)
/-plexus.lattice.sameRule-/
theorem ah9 {n} (o:Of n):VH (AD (Gf n)):=by
 intro a0 a1 r g;rw[AD]at g;refine yw func236 ntmps236 ?_;refine bc g λ_ g=>?_;refine yc g (o.a.VI _ _) λy2 g=>?_;cases g;exact zl
/-slices.EqualFunc[[]plexus.api.Rule,[]plexus.api.Rule,plexus.api.Rule,plexus.api.Rule]-/
theorem acD {n} (o:Of n):Qh (xh (Gf n)):=by
 intro a0 a1 r g;rw[xh]at g;refine yw func235 ntmps235 ?_;refine aM g λ_ g=>?_;refine yk<|yL (S:=Int) (G:=λm s=>r8 (Gf m) a0 a1 s) (s0:=0) 0 [1,2,6,15,16] [17] (λs=>[(17,.d (.v (.int .i64 s)))]) (λs=>[]) g ?_;rintro n s2 _ g;change r9 (Gf n) a0 a1 s2=_ at g;rw[r9]at g;refine yz ?_
 refine bc g λ_ g=>?_;refine yX g aU.aA λx4 _ _ g=>?_;refine yX g aU.aA λx6 _ _ g=>?_;refine yc g (o.a.ajz _ _) λy8 g=>?_;refine aM g λ_ g=>?_;exact yk (yN _ n ⟨by omega,g⟩)
/-plexus.lattice.Equal-/
theorem ah' {n} (o:Of n):VJ (AF (Gf n)):=by
 intro a0 a1 r g;rw[AF]at g;refine yw func181 ntmps181 ?_
 iterate 3 (refine bc g λ_ g=>?_)
 refine yc g (o.a.VI _ _) λy4 g=>?_;refine bc g λ_ g=>?_;refine yc g (o.a.acK _ _) λy6 g=>?_;refine bc g λ_ g=>?_;refine yc g (o.a.acL _ _) λy8 g=>?_;cases g;exact zl
/-slices.EqualFunc[[]plexus.api.aL,[]plexus.api.aL,plexus.api.aL,plexus.api.aL]-/
theorem acE {n} (o:Of n):Qi (xi (Gf n)):=by
 intro a0 a1 r g;rw[xi]at g;refine yw func237 ntmps237 ?_;refine aM g λ_ g=>?_;refine yk<|yL (S:=Int) (G:=λm s=>sc (Gf m) a0 a1 s) (s0:=0) 0 [1,2,6,15,16] [17] (λs=>[(17,.d (.v (.int .i64 s)))]) (λs=>[]) g ?_;rintro n s2 _ g;change sd (Gf n) a0 a1 s2=_ at g;rw[sd]at g;refine yz ?_
 refine bc g λ_ g=>?_;refine yX g ah.aA λx4 _ _ g=>?_;refine yX g ah.aA λx6 _ _ g=>?_;refine yc g (o.a.VK _ _) λy8 g=>?_;refine aM g λ_ g=>?_;exact yk (yN _ n ⟨by omega,g⟩)
/-plexus.types.Same-/
theorem aia {n} (o:Of n):VL (Az (Gf n)):=by
 intro a0 a1 r g;rw[Az]at g;refine yw func114 ntmps114 ?_;refine bc g λ_ g=>?_;refine yc g (o.a.VK _ _) λy2 g=>?_;cases g;exact zl
/-(*plexus.types.elaborator).expr-/
theorem aib {n} (o:Of n):VM (Ah (Gf n)):=by
 intro a0 a1 a2 r g;rw[Ah]at g;refine yw func111 ntmps111 ?_;refine yp g (o.a.ajA _ _ _) λy1 g=>?_;refine yc g (o.a.Lj _) λy2 g=>?_;refine yc g (o.a.ET _) λy3 g=>?_;refine bc g λ_ g=>?_;refine yc g (o.a.VN _ _) λy5 g=>?_;refine bc g λ_ g=>?_;exact yP g (o.a.fy _ _)
/-(*plexus.types.elaborator).any-/
theorem aic {n} (o:Of n):VO (AO (Gf n)):=by
 intro a0 a1 a2 r g;rw[AO]at g;refine yw func177 ntmps177 ?_;refine yc g (o.a.fj _) λy1 g=>?_;refine yc g (o.a.fj _) λy2 g=>?_;refine yc g (o.a.fj _) λy3 g=>?_
 iterate 4 (refine aM g λ_ g=>?_)
 refine ay g (λ_ g=>?_) λ_ g=>?_;refine yc g (o.a.abl _ _) λy9 g=>?_;refine ay g (λ_ g=>?_) λ_ g=>?_;exact yP g (o.a.fy _ _);refine yX g TParam.aA λx12 _ _ g=>?_;refine yc g (o.a.fj _) λy14 g=>?_;cases g;exact yj;refine ay g (λ_ g=>?_) λ_ g=>?_;refine yc g (o.a.jb _) λy16 g=>?_;cases g;exact yj
 iterate 2 (refine ay g (λ_ g=>?_) λ_ g=>?_)
 exact yP g (o.a.fy _ _);refine yc g (o.a.ET _) λy20 g=>?_;refine bc g λ_ g=>?_;exact yP g (o.a.fy _ _);refine ay g (λ_ g=>?_) λ_ g=>?_;refine yp g (o.a.pH _ _ _ _ _ _) λy24 g=>?_;cases g;exact zl;refine ay g (λ_ g=>?_) λ_ g=>?_;refine yp g (o.a.pH _ _ _ _ _ _) λy26 g=>?_;cases g;exact zl;refine ay g (λ_ g=>?_) λ_ g=>?_;refine yo [] (tk [0,3,6,9,12,15,18,22,24,27,31]) [] ?_
 iterate 3 (refine yt zp ?_)
 obtain⟨x28,ex28,j29h,g⟩:=b3 g;refine yu zp (yi j29h (az.aA ex28)) ?_
 iterate 2 (refine yt zp ?_)
 refine yq g (o.a.cV _ _ _) zp λy30 g=>?_
 iterate 3 (refine yt zp ?_)
 cases g;exact yj;refine ay g (λ_ g=>?_) λ_ g=>?_;refine yp g (o.a.pH _ _ _ _ _ _) λy32 g=>?_;cases g;exact zl;refine ay g (λ_ g=>?_) λ_ g=>?_;refine yp g (o.a.pH _ _ _ _ _ _) λy34 g=>?_;cases g;exact zl;refine ay g (λ_ g=>?_) λ_ g=>?_;refine yo [0,1,2,3,4] (tk [16,19]) [] ?_;obtain⟨y36,ey36,g⟩:=a8 g (o.a.fj _);refine yl (yC ey36) ?_;refine yq g (o.a.pH _ _ _ _ _ _) zp λy37 g=>?_;cases g;exact zl;refine ay g (λ_ g=>?_) λ_ g=>?_;refine yp g (o.a.pH _ _ _ _ _ _) λy39 g=>?_;cases g;exact zl;refine ay g (λ_ g=>?_) λ_ g=>?_;refine yp g (o.a.pH _ _ _ _ _ _) λy41 g=>?_;cases g;exact zl;refine ay g (λ_ g=>?_) λ_ g=>?_;refine yp g (o.a.ajB _ _ _) λy43 g=>?_;cases g;exact zl;refine yp g (o.a.ajC _ _ _) λy44 g=>?_;cases g;exact zl
/-(*plexus.types.elaborator).pair-/
theorem aid {n} (o:Of n):VP (Ai (Gf n)):=by
 intro a0 a1 a2 a3 a4 a5 r g;rw[Ai]at g;refine yw func229 ntmps229 ?_;refine yo [] (tk [0,3,6,9,12,15,19,25]) [7] ?_;obtain⟨x1,ex1,j2h,g⟩:=b3 g;refine yu zp (yi j2h (az.aA ex1)) ?_
 iterate 2 (refine yt zp ?_)
 refine yq g (o.a.cV _ _ _) zp λy3 g=>?_;refine yt zp ?_;refine yo [] (tk [0,3,6,9,12,15,19,25]) [7] ?_;obtain⟨x4,ex4,j5h,g⟩:=b3 g;refine yu zp (yi j5h (az.aA ex4)) ?_
 iterate 2 (refine yt zp ?_)
 refine yq g (o.a.cV _ _ _) zp λy6 g=>?_;refine yt zp ?_;cases g;exact yj
/-(*plexus.types.elaborator).call-/
set_option maxHeartbeats 0 in
theorem aie {n} (o:Of n):VQ (AS (Gf n)):=by
 intro a0 a1 a2 r g;rw[AS]at g;refine yw func230 ntmps230 ?_;refine yc g (o.a.ajD _) λy1 g=>?_
 iterate 2 (refine ay g (λ_ g=>?_) λ_ g=>?_)
 exact yP g (o.a.fy _ _);refine ay g (λ_ g=>?_) λ_ g=>?_;refine yf g (o.a.jW _ _ _) λy6 g=>?_;refine yo [0,1,2,3,4,5] [(6,.one)] [] ?_;refine yY g az.aA λx7 _ _ g=>?_;obtain⟨y9,ey9,g⟩:=a8 g (o.a.fj _);refine yl (yC ey9) ?_;refine yk<|ak.fN (rs:=_) rfl (λ_=>aE.nil) rfl rfl rfl rfl func282 rfl zk rfl ntmps282 rfl rfl (yz ?_)
 refine yo [] (tk [0,3,6,9,12,18,21,16,25,27,33,32,37]) [] ?_
 iterate 5 (refine yt zp ?_)
 refine yq g (o.a.cV _ _ _) zp λy10 g=>?_;obtain⟨h11,g⟩:=bE g;refine yk<|ak.mB 9 zp rfl rfl rfl rfl rfl rfl rfl rfl rfl rfl rfl rfl rfl (zo h11) (yz ?_)
 obtain⟨x12,ex12,j13h,g⟩:=b3 g;refine yU zp (yr j13h ex12) ?_;refine yt (dT j13h ex12) ?_;refine jz (Int.toNat 0) 0 (ae.aA ex12) j13h ex12 ?_;cases g;exact yj;refine ay g (λ_ g=>?_) λ_ g=>?_;refine yf g (o.a.jW _ _ _) λy15 g=>?_;refine yo [0,1,2,3,4,5] [(6,.one)] [] ?_;refine yY g az.aA λx16 _ _ g=>?_;obtain⟨y18,ey18,g⟩:=a8 g (o.a.fj _);refine yl (yC ey18) ?_;refine yk<|ak.fN (rs:=_) rfl (λ_=>aE.nil) rfl rfl rfl rfl func282 rfl zk rfl ntmps282 rfl rfl (yz ?_)
 refine yo [] (tk [0,3,6,9,12,18,21,16,25,27,33,32,37]) [] ?_
 iterate 5 (refine yt zp ?_)
 refine yq g (o.a.cV _ _ _) zp λy19 g=>?_;obtain⟨h20,g⟩:=bE g;refine yk<|ak.mB 9 zp rfl rfl rfl rfl rfl rfl rfl rfl rfl rfl rfl rfl rfl (zo h20) (yz ?_)
 obtain⟨x21,ex21,j22h,g⟩:=b3 g;refine yU zp (yr j22h ex21) ?_;refine yt (dT j22h ex21) ?_;refine jz (Int.toNat 0) 0 (ae.aA ex21) j22h ex21 ?_;cases g;exact yj;refine ay g (λ_ g=>?_) λ_ g=>?_;refine yf g (o.a.jW _ _ _) λy24 g=>?_;refine Ok.stuck aV ?_;refine ak.gK 5 11 32 12 7 rfl rfl rfl ?_;refine yL (S:=Int×(List ae)) (G:=λm s=>DD (Gf m) a0 a1 a2 s.1 s.2) (s0:=(0,[])) 8 [6,10,11,76,77] [78] (λs=>[(78,.d (.v (.int .i64 s.1)))]) (λs=>[(7,.row 32 12 (ae.rows s.2)),(5,.box [.d (.v (.int .i64 23)),.d (.v (.int .i64 a2.aX)),.d (.v (.int .i64 a2.aL.Kind)),.d (.v (.int .i64 a2.aL.Lo)),.d (.v (.int .i64 a2.aL.Hi)),.d (.sl 1 (aB a2.aL.Names)),.d (.sl 6 (ah.rows a2.aL.aj)),.d (.sl 2 (aU.rows a2.aL.bl)),.d (.v (.int .i64 0)),.d (.v (.string ⟨⟨([])⟩⟩)),.d (.v (.int .i64 0)),.os 7 (ae.rows s.2).length])]) g ?_;rintro n ⟨s25,s37⟩ _ g;change HO (Gf n) a0 a1 a2 s25 s37=_ at g;rw[HO]at g;refine yz ?_;refine bc g λ_ g=>?_;refine yX g az.aA λx39 _ _ g=>?_;refine yk<|ak.inl (rs:=_) rfl func282 rfl zk rfl ntmps282 rfl rfl (yz ?_)
 refine yo [] (tk [0,3,6,9,12,18,21,16,25,27,33,32,37]) [] ?_
 iterate 5 (refine yt zp ?_)
 refine yq g (o.a.cV _ _ _) zp λy41 g=>?_;obtain⟨h42,g⟩:=bE g;refine yk<|ak.dY (rows2:=(ae.rows ([ae.z]))) zp rfl rfl rfl rfl rfl zg rfl zi rfl rfl (ae.cm _) rfl rfl (zo h42) (yz ?_)
 obtain⟨x43,ex43,j44h,g⟩:=b3 g;refine yU zp (yr j44h ex43) ?_;refine yt (dT j44h ex43) ?_;refine jz ((↑(ae.rows s37).length:Int).toNat) 0 (ae.aA ex43) j44h ex43 ?_;obtain⟨x45,ex45,j46h,g⟩:=b3 g;refine yv (yr j46h ex45) ?_;refine yv (ym ((IntKind.i64.wrap ((↑(ae.rows s37++ae.rows [ae.z]).length:Int)-1)).toNat) 1 (ae.aA ex45)) ?_
 iterate 2 (refine ay g (λ_ g=>?_) λ_ g=>?_)
 exact yP g (o.a.fy _ _)
 iterate 2 (exact yk (yN (_,_) n ⟨by omega,g⟩))
 refine ay g (λ_ g=>?_) λ_ g=>?_;refine yf g (o.a.jW _ _ _) λy51 g=>?_;refine Ok.stuck aV ?_;refine ak.gK 5 11 32 12 7 rfl rfl rfl ?_;refine yL (S:=Int×(List ae)) (G:=λm s=>HR (Gf m) a0 a1 a2 s.1 s.2) (s0:=(0,[])) 8 [6,9,10,11,114,115] [116] (λs=>[(116,.d (.v (.int .i64 s.1)))]) (λs=>[(7,.row 32 12 (ae.rows s.2)),(5,.box [.d (.v (.int .i64 24)),.d (.v (.int .i64 a2.aX)),.d (.v (.int .i64 a2.aL.Kind)),.d (.v (.int .i64 a2.aL.Lo)),.d (.v (.int .i64 a2.aL.Hi)),.d (.sl 1 (aB a2.aL.Names)),.d (.sl 6 (ah.rows a2.aL.aj)),.d (.sl 2 (aU.rows a2.aL.bl)),.d (.v (.int .i64 0)),.d (.v (.string ⟨⟨([])⟩⟩)),.d (.v (.int .i64 0)),.os 7 (ae.rows s.2).length])]) g ?_;rintro n ⟨s52,s64⟩ _ g;change HP (Gf n) a0 a1 a2 s52 s64=_ at g;rw[HP]at g;refine yz ?_;refine bc g λ_ g=>?_;refine yX g az.aA λx66 _ _ g=>?_;refine yo [0,1,2,3,4,5] [(6,.one)] [] ?_;refine yY g az.aA λx68 _ _ g=>?_;obtain⟨y70,ey70,g⟩:=a8 g (o.a.fj _);refine yl (yC ey70) ?_;refine yk<|ak.fN (rs:=_) rfl (λ_=>aE.nil) rfl rfl rfl rfl func282 rfl zk rfl ntmps282 rfl rfl (yz ?_)
 refine yo [] (tk [0,3,6,9,12,18,21,16,25,27,33,32,37]) [] ?_
 iterate 5 (refine yt zp ?_)
 refine yq g (o.a.cV _ _ _) zp λy71 g=>?_;obtain⟨h72,g⟩:=bE g;refine yk<|ak.dY (rows2:=(ae.rows ([ae.z]))) zp rfl rfl rfl rfl rfl zg rfl zi rfl rfl (ae.cm _) rfl rfl (zo h72) (yz ?_)
 obtain⟨x73,ex73,j74h,g⟩:=b3 g;refine yU zp (yr j74h ex73) ?_;refine yt (dT j74h ex73) ?_;refine jz ((↑(ae.rows s64).length:Int).toNat) 0 (ae.aA ex73) j74h ex73 ?_;refine yo [0,1,2,3,4,5,6,7,8,9] [(10,.one)] [] ?_;refine yY g az.aA λx75 _ _ g=>?_;refine yY g ah.aA λx77 _ _ g=>?_;obtain⟨y79,ey79,g⟩:=a8 g (o.a.jb _);refine yl (yC ey79) ?_;refine yk<|ak.fN (rs:=_) rfl (λ_=>aE.nil) rfl rfl rfl rfl func282 rfl zk rfl ntmps282 rfl rfl (yz ?_)
 refine yo [] (tk [0,3,6,9,12,18,21,16,25,27,33,32,37]) [] ?_
 iterate 5 (refine yt (dT j74h ex73) ?_)
 refine yq g (o.a.cV _ _ _) (dT j74h ex73) λy80 g=>?_;obtain⟨h81,g⟩:=bE g;refine yk<|ak.dY (rows2:=(ae.rows ([ae.z]))) (by repeat(first|exact aE.nil|refine aE.cons rfl (bd.dK (cl:=false) rfl aV) ?_|refine aE.skip rfl ?_|refine aE.cons rfl (yr j74h ex73) ?_|refine aE.cons rfl (ep (cl:=false) rfl aV) ?_)) rfl rfl rfl rfl rfl zg rfl zi rfl rfl (ae.cm _) rfl rfl (zo h81) (yz ?_)
 obtain⟨x82,ex82,j83h,g⟩:=b3 g;refine yU zp (yr j83h ex82) ?_;refine yt (kG j74h ex73 j83h ex82) ?_;refine vO ((↑(ae.rows s64++ae.rows [ae.z]).length:Int).toNat) 0 (ae.aA ex82) j74h ex73 j83h ex82 ?_;exact yk (yN (_,_) n ⟨by omega,g⟩);refine ay g (λ_ g=>?_) λ_ g=>?_;refine yf g (o.a.jW _ _ _) λy85 g=>?_;refine yp g (o.a.VR _ _ _) λy86 g=>?_;cases g;exact zl;refine ay g (λ_ g=>?_) λ_ g=>?_;refine yf g (o.a.jW _ _ _) λy88 g=>?_;refine yo [0,1,2,3,4,5,6,7,8,9] [(10,.one)] [] ?_;refine yY g az.aA λx89 _ _ g=>?_;refine yY g ah.aA λx91 _ _ g=>?_;obtain⟨y93,ey93,g⟩:=a8 g (o.a.jb _);refine yl (yC ey93) ?_;refine yk<|ak.fN (rs:=_) rfl (λ_=>aE.nil) rfl rfl rfl rfl func282 rfl zk rfl ntmps282 rfl rfl (yz ?_)
 refine yo [] (tk [0,3,6,9,12,18,21,16,25,27,33,32,37]) [] ?_
 iterate 5 (refine yt zp ?_)
 refine yq g (o.a.cV _ _ _) zp λy94 g=>?_;obtain⟨h95,g⟩:=bE g;refine yk<|ak.mB 9 zp rfl rfl rfl rfl rfl rfl rfl rfl rfl rfl rfl rfl rfl (zo h95) (yz ?_)
 obtain⟨x96,ex96,j97h,g⟩:=b3 g;refine yU zp (yr j97h ex96) ?_;refine yt (dT j97h ex96) ?_;refine jz (Int.toNat 0) 0 (ae.aA ex96) j97h ex96 ?_;refine yo [0,1,2,3,4,5,6,7,8,9] [(10,.one)] [] ?_;refine yY g az.aA λx98 _ _ g=>?_;refine yY g ah.aA λx100 _ _ g=>?_;obtain⟨y102,ey102,g⟩:=a8 g (o.a.jb _);refine yl (yC ey102) ?_;refine yk<|ak.fN (rs:=_) rfl (λ_=>aE.nil) rfl rfl rfl rfl func282 rfl zk rfl ntmps282 rfl rfl (yz ?_)
 refine yo [] (tk [0,3,6,9,12,18,21,16,25,27,33,32,37]) [] ?_
 iterate 5 (refine yt (dT j97h ex96) ?_)
 refine yq g (o.a.cV _ _ _) (dT j97h ex96) λy103 g=>?_;obtain⟨h104,g⟩:=bE g;refine yk<|ak.dY (rows2:=(ae.rows ([ae.z]))) (by repeat(first|exact aE.nil|refine aE.cons rfl (bd.dK (cl:=false) rfl aV) ?_|refine aE.skip rfl ?_|refine aE.cons rfl (yr j97h ex96) ?_|refine aE.cons rfl (ep (cl:=false) rfl aV) ?_)) rfl rfl rfl rfl rfl zg rfl zi rfl rfl (ae.cm _) rfl rfl (zo h104) (yz ?_)
 obtain⟨x105,ex105,j106h,g⟩:=b3 g;refine yU zp (yr j106h ex105) ?_;refine yt (kG j97h ex96 j106h ex105) ?_;refine vO (Int.toNat 1) 0 (ae.aA ex105) j97h ex96 j106h ex105 ?_;cases g;exact yj;refine ay g (λ_ g=>?_) λ_ g=>?_;refine yf g (o.a.jW _ _ _) λy108 g=>?_;refine yo [0,1,2,3,4,5] [(6,.one)] [] ?_;refine yY g az.aA λx109 _ _ g=>?_;obtain⟨y111,ey111,g⟩:=a8 g (o.a.fj _);refine yl (yC ey111) ?_;refine yk<|ak.fN (rs:=_) rfl (λ_=>aE.nil) rfl rfl rfl rfl func282 rfl zk rfl ntmps282 rfl rfl (yz ?_)
 refine yo [] (tk [0,3,6,9,12,18,21,16,25,27,33,32,37]) [] ?_
 iterate 5 (refine yt zp ?_)
 refine yq g (o.a.cV _ _ _) zp λy112 g=>?_;obtain⟨h113,g⟩:=bE g;refine yk<|ak.mB 9 zp rfl rfl rfl rfl rfl rfl rfl rfl rfl rfl rfl rfl rfl (zo h113) (yz ?_)
 obtain⟨x114,ex114,j115h,g⟩:=b3 g;refine yU zp (yr j115h ex114) ?_;refine yt (dT j115h ex114) ?_;refine jz (Int.toNat 0) 0 (ae.aA ex114) j115h ex114 ?_;cases g;exact yj;refine ay g (λ_ g=>?_) λ_ g=>?_;refine yc g (o.a.jb _) λy117 g=>?_;refine yo [0,1,2,3,4,5,6] [(7,.one)] [] ?_;refine yY g az.aA λx118 _ _ g=>?_;refine yk<|ak.fN (rs:=_) rfl (λ_=>aE.nil) rfl rfl rfl rfl func282 rfl zk rfl ntmps282 rfl rfl (yz ?_)
 refine yo [] (tk [0,3,6,9,12,18,21,16,25,27,33,32,37]) [] ?_
 iterate 5 (refine yt zp ?_)
 refine yq g (o.a.cV _ _ _) zp λy120 g=>?_;obtain⟨h121,g⟩:=bE g;refine yk<|ak.mB 8 zp rfl rfl rfl rfl rfl rfl rfl rfl rfl rfl rfl rfl rfl (zo h121) (yz ?_)
 obtain⟨x122,ex122,j123h,g⟩:=b3 g;refine yU zp (yr j123h ex122) ?_;refine yt (dT j123h ex122) ?_;refine jz (Int.toNat 0) 0 (ae.aA ex122) j123h ex122 ?_;refine yo [0,1,2,3,4,5] [(6,.one)] [] ?_;refine yY g az.aA λx124 _ _ g=>?_;obtain⟨y126,ey126,g⟩:=a8 g (o.a.fj _);refine yl (yC ey126) ?_;refine yk<|ak.fN (rs:=_) rfl (λ_=>aE.nil) rfl rfl rfl rfl func282 rfl zk rfl ntmps282 rfl rfl (yz ?_)
 refine yo [] (tk [0,3,6,9,12,18,21,16,25,27,33,32,37]) [] ?_
 iterate 5 (refine yt (dT j123h ex122) ?_)
 refine yq g (o.a.cV _ _ _) (dT j123h ex122) λy127 g=>?_;obtain⟨h128,g⟩:=bE g;refine yk<|ak.dY (rows2:=(ae.rows ([ae.z]))) (by repeat(first|exact aE.nil|refine aE.cons rfl (bd.dK (cl:=false) rfl aV) ?_|refine aE.skip rfl ?_|refine aE.cons rfl (yr j123h ex122) ?_|refine aE.cons rfl (ep (cl:=false) rfl aV) ?_)) rfl rfl rfl rfl rfl zg rfl zi rfl rfl (ae.cm _) rfl rfl (zo h128) (yz ?_)
 obtain⟨x129,ex129,j130h,g⟩:=b3 g;refine yU zp (yr j130h ex129) ?_;refine yt (kG j123h ex122 j130h ex129) ?_;refine vO (Int.toNat 1) 0 (ae.aA ex129) j123h ex122 j130h ex129 ?_;refine yo [0,1,2,3,4,5] [(6,.one)] [] ?_;refine yY g az.aA λx131 _ _ g=>?_;obtain⟨y133,ey133,g⟩:=a8 g (o.a.fj _);refine yl (yC ey133) ?_;refine yk<|ak.fN (rs:=_) rfl (λ_=>aE.nil) rfl rfl rfl rfl func282 rfl zk rfl ntmps282 rfl rfl (yz ?_)
 refine yo [] (tk [0,3,6,9,12,18,21,16,25,27,33,32,37]) [] ?_
 iterate 5 (refine yt (kG j123h ex122 j130h ex129) ?_)
 refine yq g (o.a.cV _ _ _) (kG j123h ex122 j130h ex129) λy134 g=>?_;obtain⟨h135,g⟩:=bE g;refine yk<|ak.dY (rows2:=(ae.rows ([ae.z]))) (by repeat(first|exact aE.nil|refine aE.cons rfl (bd.dK (cl:=false) rfl aV) ?_|refine aE.skip rfl ?_|refine aE.cons rfl (yr j123h ex122) ?_|refine aE.cons rfl (yr j130h ex129) ?_|refine aE.cons rfl (ep (cl:=false) rfl aV) ?_)) rfl rfl rfl rfl rfl zg rfl zi rfl rfl (ae.cm _) rfl rfl (zo h135) (yz ?_)
 obtain⟨x136,ex136,j137h,g⟩:=b3 g;refine yU zp (yr j137h ex136) ?_;refine yt (Xo j123h ex122 j130h ex129 j137h ex136) ?_;refine yk<|ak.CH (Int.toNat 2) 0 (by repeat(first|exact aE.nil|refine aE.cons rfl (bd.dK (cl:=false) rfl aV) ?_|refine aE.skip rfl ?_|refine aE.cons rfl (yr j123h ex122) ?_|refine aE.cons rfl (yr j130h ex129) ?_|refine aE.cons rfl (yr j137h ex136) ?_|refine aE.cons rfl (ep (cl:=false) rfl aV) ?_)) (by rfl) (by rfl) (by rfl) (by rfl) (by rfl) (by rfl) (by rfl) (by rfl) (by rfl) (by rfl) (yg (ae.aA ex136)) (by rfl) (by rfl) (by rfl) (by rfl) (by rfl) (by rfl) (by rfl) (by rfl) (by rfl) (by rfl) (by rfl) (by rfl) (by rfl) (by rfl) (by rfl) (by repeat(first|exact aE.nil|refine aE.cons rfl (bd.dK (cl:=false) rfl aV) ?_|refine aE.skip rfl ?_|refine aE.cons rfl (yr j123h ex122) ?_|refine aE.cons rfl (yr j130h ex129) ?_|refine aE.cons rfl (yr j137h ex136) ?_|refine aE.cons rfl (ep (cl:=false) rfl aV) ?_)) (by repeat(first|exact aE.nil|refine aE.cons rfl (bd.dK (cl:=false) rfl aV) ?_|refine aE.skip rfl ?_|refine aE.cons rfl (yr j123h ex122) ?_|refine aE.cons rfl (yr j130h ex129) ?_|refine aE.cons rfl (yr j137h ex136) ?_|refine aE.cons rfl (ep (cl:=false) rfl aV) ?_)) (yz ?_)
 cases g;exact yj;refine yp g (o.a.VS _ _) λy138 g=>?_;cases g;exact zl;refine ay g (λ_ g=>?_) λ_ g=>?_;refine yf g (o.a.jW _ _ _) λy140 g=>?_;refine yo [0,1,2,3,4,5] [(6,.one)] [] ?_;refine yY g az.aA λx141 _ _ g=>?_;obtain⟨y143,ey143,g⟩:=a8 g (o.a.fj _);refine yl (yC ey143) ?_;refine yk<|ak.fN (rs:=_) rfl (λ_=>aE.nil) rfl rfl rfl rfl func282 rfl zk rfl ntmps282 rfl rfl (yz ?_)
 refine yo [] (tk [0,3,6,9,12,18,21,16,25,27,33,32,37]) [] ?_
 iterate 5 (refine yt zp ?_)
 refine yq g (o.a.cV _ _ _) zp λy144 g=>?_;obtain⟨h145,g⟩:=bE g;refine yk<|ak.mB 9 zp rfl rfl rfl rfl rfl rfl rfl rfl rfl rfl rfl rfl rfl (zo h145) (yz ?_)
 obtain⟨x146,ex146,j147h,g⟩:=b3 g;refine yU zp (yr j147h ex146) ?_;refine yt (dT j147h ex146) ?_;refine jz (Int.toNat 0) 0 (ae.aA ex146) j147h ex146 ?_;cases g;exact yj;refine ay g (λ_ g=>?_) λ_ g=>?_;refine yf g (o.a.jW _ _ _) λy149 g=>?_;refine yo [0,1,2,3,4,5] [(6,.one)] [] ?_;refine yY g az.aA λx150 _ _ g=>?_;obtain⟨y152,ey152,g⟩:=a8 g (o.a.fj _);refine yl (yC ey152) ?_;refine yk<|ak.fN (rs:=_) rfl (λ_=>aE.nil) rfl rfl rfl rfl func282 rfl zk rfl ntmps282 rfl rfl (yz ?_)
 refine yo [] (tk [0,3,6,9,12,18,21,16,25,27,33,32,37]) [] ?_
 iterate 5 (refine yt zp ?_)
 refine yq g (o.a.cV _ _ _) zp λy153 g=>?_;obtain⟨h154,g⟩:=bE g;refine yk<|ak.mB 9 zp rfl rfl rfl rfl rfl rfl rfl rfl rfl rfl rfl rfl rfl (zo h154) (yz ?_)
 obtain⟨x155,ex155,j156h,g⟩:=b3 g;refine yU zp (yr j156h ex155) ?_;refine yt (dT j156h ex155) ?_;refine jz (Int.toNat 0) 0 (ae.aA ex155) j156h ex155 ?_;cases g;exact yj;refine ay g (λ_ g=>?_) λ_ g=>?_;refine yf g (o.a.jW _ _ _) λy158 g=>?_;refine Ok.stuck aV ?_;refine ak.gK 5 11 32 12 7 rfl rfl rfl ?_;refine yL (S:=Int×(List ae)) (G:=λm s=>mH (Gf m) a0 a1 a2 s.1 s.2) (s0:=(0,[])) 8 [6,10,11,76,77] [78] (λs=>[(78,.d (.v (.int .i64 s.1)))]) (λs=>[(7,.row 32 12 (ae.rows s.2)),(5,.box [.d (.v (.int .i64 23)),.d (.v (.int .i64 a2.aX)),.d (.v (.int .i64 a2.aL.Kind)),.d (.v (.int .i64 a2.aL.Lo)),.d (.v (.int .i64 a2.aL.Hi)),.d (.sl 1 (aB a2.aL.Names)),.d (.sl 6 (ah.rows a2.aL.aj)),.d (.sl 2 (aU.rows a2.aL.bl)),.d (.v (.int .i64 0)),.d (.v (.string ⟨⟨([])⟩⟩)),.d (.v (.int .i64 0)),.os 7 (ae.rows s.2).length])]) g ?_;rintro n ⟨s159,s171⟩ _ g;change tW (Gf n) a0 a1 a2 s159 s171=_ at g;rw[tW]at g;refine yz ?_;refine bc g λ_ g=>?_;refine yX g az.aA λx173 _ _ g=>?_;refine yk<|ak.inl (rs:=_) rfl func282 rfl zk rfl ntmps282 rfl rfl (yz ?_)
 refine yo [] (tk [0,3,6,9,12,18,21,16,25,27,33,32,37]) [] ?_
 iterate 5 (refine yt zp ?_)
 refine yq g (o.a.cV _ _ _) zp λy175 g=>?_;obtain⟨h176,g⟩:=bE g;refine yk<|ak.dY (rows2:=(ae.rows ([ae.z]))) zp rfl rfl rfl rfl rfl zg rfl zi rfl rfl (ae.cm _) rfl rfl (zo h176) (yz ?_)
 obtain⟨x177,ex177,j178h,g⟩:=b3 g;refine yU zp (yr j178h ex177) ?_;refine yt (dT j178h ex177) ?_;refine jz ((↑(ae.rows s171).length:Int).toNat) 0 (ae.aA ex177) j178h ex177 ?_;obtain⟨x179,ex179,j180h,g⟩:=b3 g;refine yv (yr j180h ex179) ?_;refine yv (ym ((IntKind.i64.wrap ((↑(ae.rows s171++ae.rows [ae.z]).length:Int)-1)).toNat) 1 (ae.aA ex179)) ?_
 iterate 2 (refine ay g (λ_ g=>?_) λ_ g=>?_)
 exact yP g (o.a.fy _ _)
 iterate 2 (exact yk (yN (_,_) n ⟨by omega,g⟩))
 refine ay g (λ_ g=>?_) λ_ g=>?_;refine yf g (o.a.jW _ _ _) λy185 g=>?_;refine Ok.stuck aV ?_;refine ak.gK 5 11 32 12 7 rfl rfl rfl ?_;refine yL (S:=Int×(List ae)) (G:=λm s=>oV (Gf m) a0 a1 a2 s.1 s.2) (s0:=(0,[])) 8 [6,9,10,11,114,115] [116] (λs=>[(116,.d (.v (.int .i64 s.1)))]) (λs=>[(7,.row 32 12 (ae.rows s.2)),(5,.box [.d (.v (.int .i64 24)),.d (.v (.int .i64 a2.aX)),.d (.v (.int .i64 a2.aL.Kind)),.d (.v (.int .i64 a2.aL.Lo)),.d (.v (.int .i64 a2.aL.Hi)),.d (.sl 1 (aB a2.aL.Names)),.d (.sl 6 (ah.rows a2.aL.aj)),.d (.sl 2 (aU.rows a2.aL.bl)),.d (.v (.int .i64 0)),.d (.v (.string ⟨⟨([])⟩⟩)),.d (.v (.int .i64 0)),.os 7 (ae.rows s.2).length])]) g ?_;rintro n ⟨s186,s198⟩ _ g;change tX (Gf n) a0 a1 a2 s186 s198=_ at g;rw[tX]at g;refine yz ?_;refine bc g λ_ g=>?_;refine yX g az.aA λx200 _ _ g=>?_;refine yo [0,1,2,3,4,5] [(6,.one)] [] ?_;refine yY g az.aA λx202 _ _ g=>?_;obtain⟨y204,ey204,g⟩:=a8 g (o.a.fj _);refine yl (yC ey204) ?_;refine yk<|ak.fN (rs:=_) rfl (λ_=>aE.nil) rfl rfl rfl rfl func282 rfl zk rfl ntmps282 rfl rfl (yz ?_)
 refine yo [] (tk [0,3,6,9,12,18,21,16,25,27,33,32,37]) [] ?_
 iterate 5 (refine yt zp ?_)
 refine yq g (o.a.cV _ _ _) zp λy205 g=>?_;obtain⟨h206,g⟩:=bE g;refine yk<|ak.dY (rows2:=(ae.rows ([ae.z]))) zp rfl rfl rfl rfl rfl zg rfl zi rfl rfl (ae.cm _) rfl rfl (zo h206) (yz ?_)
 obtain⟨x207,ex207,j208h,g⟩:=b3 g;refine yU zp (yr j208h ex207) ?_;refine yt (dT j208h ex207) ?_;refine jz ((↑(ae.rows s198).length:Int).toNat) 0 (ae.aA ex207) j208h ex207 ?_;refine yo [0,1,2,3,4,5,6,7,8,9] [(10,.one)] [] ?_;refine yY g az.aA λx209 _ _ g=>?_;refine yY g ah.aA λx211 _ _ g=>?_;obtain⟨y213,ey213,g⟩:=a8 g (o.a.jb _);refine yl (yC ey213) ?_;refine yk<|ak.fN (rs:=_) rfl (λ_=>aE.nil) rfl rfl rfl rfl func282 rfl zk rfl ntmps282 rfl rfl (yz ?_)
 refine yo [] (tk [0,3,6,9,12,18,21,16,25,27,33,32,37]) [] ?_
 iterate 5 (refine yt (dT j208h ex207) ?_)
 refine yq g (o.a.cV _ _ _) (dT j208h ex207) λy214 g=>?_;obtain⟨h215,g⟩:=bE g;refine yk<|ak.dY (rows2:=(ae.rows ([ae.z]))) (by repeat(first|exact aE.nil|refine aE.cons rfl (bd.dK (cl:=false) rfl aV) ?_|refine aE.skip rfl ?_|refine aE.cons rfl (yr j208h ex207) ?_|refine aE.cons rfl (ep (cl:=false) rfl aV) ?_)) rfl rfl rfl rfl rfl zg rfl zi rfl rfl (ae.cm _) rfl rfl (zo h215) (yz ?_)
 obtain⟨x216,ex216,j217h,g⟩:=b3 g;refine yU zp (yr j217h ex216) ?_;refine yt (kG j208h ex207 j217h ex216) ?_;refine vO ((↑(ae.rows s198++ae.rows [ae.z]).length:Int).toNat) 0 (ae.aA ex216) j208h ex207 j217h ex216 ?_;exact yk (yN (_,_) n ⟨by omega,g⟩);refine ay g (λ_ g=>?_) λ_ g=>?_;refine yf g (o.a.jW _ _ _) λy219 g=>?_;refine yp g (o.a.VR _ _ _) λy220 g=>?_;cases g;exact zl;refine ay g (λ_ g=>?_) λ_ g=>?_;refine yf g (o.a.jW _ _ _) λy222 g=>?_;refine yo [0,1,2,3,4,5,6,7,8,9] [(10,.one)] [] ?_;refine yY g az.aA λx223 _ _ g=>?_;refine yY g ah.aA λx225 _ _ g=>?_;obtain⟨y227,ey227,g⟩:=a8 g (o.a.jb _);refine yl (yC ey227) ?_;refine yk<|ak.fN (rs:=_) rfl (λ_=>aE.nil) rfl rfl rfl rfl func282 rfl zk rfl ntmps282 rfl rfl (yz ?_)
 refine yo [] (tk [0,3,6,9,12,18,21,16,25,27,33,32,37]) [] ?_
 iterate 5 (refine yt zp ?_)
 refine yq g (o.a.cV _ _ _) zp λy228 g=>?_;obtain⟨h229,g⟩:=bE g;refine yk<|ak.mB 9 zp rfl rfl rfl rfl rfl rfl rfl rfl rfl rfl rfl rfl rfl (zo h229) (yz ?_)
 obtain⟨x230,ex230,j231h,g⟩:=b3 g;refine yU zp (yr j231h ex230) ?_;refine yt (dT j231h ex230) ?_;refine jz (Int.toNat 0) 0 (ae.aA ex230) j231h ex230 ?_;refine yo [0,1,2,3,4,5,6,7,8,9] [(10,.one)] [] ?_;refine yY g az.aA λx232 _ _ g=>?_;refine yY g ah.aA λx234 _ _ g=>?_;obtain⟨y236,ey236,g⟩:=a8 g (o.a.jb _);refine yl (yC ey236) ?_;refine yk<|ak.fN (rs:=_) rfl (λ_=>aE.nil) rfl rfl rfl rfl func282 rfl zk rfl ntmps282 rfl rfl (yz ?_)
 refine yo [] (tk [0,3,6,9,12,18,21,16,25,27,33,32,37]) [] ?_
 iterate 5 (refine yt (dT j231h ex230) ?_)
 refine yq g (o.a.cV _ _ _) (dT j231h ex230) λy237 g=>?_;obtain⟨h238,g⟩:=bE g;refine yk<|ak.dY (rows2:=(ae.rows ([ae.z]))) (by repeat(first|exact aE.nil|refine aE.cons rfl (bd.dK (cl:=false) rfl aV) ?_|refine aE.skip rfl ?_|refine aE.cons rfl (yr j231h ex230) ?_|refine aE.cons rfl (ep (cl:=false) rfl aV) ?_)) rfl rfl rfl rfl rfl zg rfl zi rfl rfl (ae.cm _) rfl rfl (zo h238) (yz ?_)
 obtain⟨UU,ex239,j240h,g⟩:=b3 g;refine yU zp (yr j240h ex239) ?_;refine yt (kG j231h ex230 j240h ex239) ?_;refine vO (Int.toNat 1) 0 (ae.aA ex239) j231h ex230 j240h ex239 ?_;cases g;exact yj;refine ay g (λ_ g=>?_) λ_ g=>?_;refine yf g (o.a.jW _ _ _) λy242 g=>?_;refine yo [0,1,2,3,4,5] [(6,.one)] [] ?_;refine yY g az.aA λx243 _ _ g=>?_;obtain⟨y245,ey245,g⟩:=a8 g (o.a.fj _);refine yl (yC ey245) ?_;refine yk<|ak.fN (rs:=_) rfl (λ_=>aE.nil) rfl rfl rfl rfl func282 rfl zk rfl ntmps282 rfl rfl (yz ?_)
 refine yo [] (tk [0,3,6,9,12,18,21,16,25,27,33,32,37]) [] ?_
 iterate 5 (refine yt zp ?_)
 refine yq g (o.a.cV _ _ _) zp λy246 g=>?_;obtain⟨h247,g⟩:=bE g;refine yk<|ak.mB 9 zp rfl rfl rfl rfl rfl rfl rfl rfl rfl rfl rfl rfl rfl (zo h247) (yz ?_)
 obtain⟨x248,ex248,j249h,g⟩:=b3 g;refine yU zp (yr j249h ex248) ?_;refine yt (dT j249h ex248) ?_;refine jz (Int.toNat 0) 0 (ae.aA ex248) j249h ex248 ?_;cases g;exact yj;refine ay g (λ_ g=>?_) λ_ g=>?_;refine yc g (o.a.jb _) λy251 g=>?_;refine yo [0,1,2,3,4,5,6] [(7,.one)] [] ?_;refine yY g az.aA λx252 _ _ g=>?_;refine yk<|ak.fN (rs:=_) rfl (λ_=>aE.nil) rfl rfl rfl rfl func282 rfl zk rfl ntmps282 rfl rfl (yz ?_)
 refine yo [] (tk [0,3,6,9,12,18,21,16,25,27,33,32,37]) [] ?_
 iterate 5 (refine yt zp ?_)
 refine yq g (o.a.cV _ _ _) zp λy254 g=>?_;obtain⟨h255,g⟩:=bE g;refine yk<|ak.mB 8 zp rfl rfl rfl rfl rfl rfl rfl rfl rfl rfl rfl rfl rfl (zo h255) (yz ?_)
 obtain⟨x256,ex256,j257h,g⟩:=b3 g;refine yU zp (yr j257h ex256) ?_;refine yt (dT j257h ex256) ?_;refine jz (Int.toNat 0) 0 (ae.aA ex256) j257h ex256 ?_;refine yo [0,1,2,3,4,5] [(6,.one)] [] ?_;refine yY g az.aA λx258 _ _ g=>?_;obtain⟨y260,ey260,g⟩:=a8 g (o.a.fj _);refine yl (yC ey260) ?_;refine yk<|ak.fN (rs:=_) rfl (λ_=>aE.nil) rfl rfl rfl rfl func282 rfl zk rfl ntmps282 rfl rfl (yz ?_)
 refine yo [] (tk [0,3,6,9,12,18,21,16,25,27,33,32,37]) [] ?_
 iterate 5 (refine yt (dT j257h ex256) ?_)
 refine yq g (o.a.cV _ _ _) (dT j257h ex256) λy261 g=>?_;obtain⟨h262,g⟩:=bE g;refine yk<|ak.dY (rows2:=(ae.rows ([ae.z]))) (by repeat(first|exact aE.nil|refine aE.cons rfl (bd.dK (cl:=false) rfl aV) ?_|refine aE.skip rfl ?_|refine aE.cons rfl (yr j257h ex256) ?_|refine aE.cons rfl (ep (cl:=false) rfl aV) ?_)) rfl rfl rfl rfl rfl zg rfl zi rfl rfl (ae.cm _) rfl rfl (zo h262) (yz ?_)
 obtain⟨x263,ex263,j264h,g⟩:=b3 g;refine yU zp (yr j264h ex263) ?_;refine yt (kG j257h ex256 j264h ex263) ?_;refine vO (Int.toNat 1) 0 (ae.aA ex263) j257h ex256 j264h ex263 ?_;refine yo [0,1,2,3,4,5] [(6,.one)] [] ?_;refine yY g az.aA λx265 _ _ g=>?_;obtain⟨y267,ey267,g⟩:=a8 g (o.a.fj _);refine yl (yC ey267) ?_;refine yk<|ak.fN (rs:=_) rfl (λ_=>aE.nil) rfl rfl rfl rfl func282 rfl zk rfl ntmps282 rfl rfl (yz ?_)
 refine yo [] (tk [0,3,6,9,12,18,21,16,25,27,33,32,37]) [] ?_
 iterate 5 (refine yt (kG j257h ex256 j264h ex263) ?_)
 refine yq g (o.a.cV _ _ _) (kG j257h ex256 j264h ex263) λy268 g=>?_;obtain⟨h269,g⟩:=bE g;refine yk<|ak.dY (rows2:=(ae.rows ([ae.z]))) (by repeat(first|exact aE.nil|refine aE.cons rfl (bd.dK (cl:=false) rfl aV) ?_|refine aE.skip rfl ?_|refine aE.cons rfl (yr j257h ex256) ?_|refine aE.cons rfl (yr j264h ex263) ?_|refine aE.cons rfl (ep (cl:=false) rfl aV) ?_)) rfl rfl rfl rfl rfl zg rfl zi rfl rfl (ae.cm _) rfl rfl (zo h269) (yz ?_)
 obtain⟨x270,ex270,j271h,g⟩:=b3 g;refine yU zp (yr j271h ex270) ?_;refine yt (Xo j257h ex256 j264h ex263 j271h ex270) ?_;refine yk<|ak.CH (Int.toNat 2) 0 (by repeat(first|exact aE.nil|refine aE.cons rfl (bd.dK (cl:=false) rfl aV) ?_|refine aE.skip rfl ?_|refine aE.cons rfl (yr j257h ex256) ?_|refine aE.cons rfl (yr j264h ex263) ?_|refine aE.cons rfl (yr j271h ex270) ?_|refine aE.cons rfl (ep (cl:=false) rfl aV) ?_)) (by rfl) (by rfl) (by rfl) (by rfl) (by rfl) (by rfl) (by rfl) (by rfl) (by rfl) (by rfl) (yg (ae.aA ex270)) (by rfl) (by rfl) (by rfl) (by rfl) (by rfl) (by rfl) (by rfl) (by rfl) (by rfl) (by rfl) (by rfl) (by rfl) (by rfl) (by rfl) (by rfl) (by repeat(first|exact aE.nil|refine aE.cons rfl (bd.dK (cl:=false) rfl aV) ?_|refine aE.skip rfl ?_|refine aE.cons rfl (yr j257h ex256) ?_|refine aE.cons rfl (yr j264h ex263) ?_|refine aE.cons rfl (yr j271h ex270) ?_|refine aE.cons rfl (ep (cl:=false) rfl aV) ?_)) (by repeat(first|exact aE.nil|refine aE.cons rfl (bd.dK (cl:=false) rfl aV) ?_|refine aE.skip rfl ?_|refine aE.cons rfl (yr j257h ex256) ?_|refine aE.cons rfl (yr j264h ex263) ?_|refine aE.cons rfl (yr j271h ex270) ?_|refine aE.cons rfl (ep (cl:=false) rfl aV) ?_)) (yz ?_)
 cases g;exact yj;refine yp g (o.a.VS _ _) λy272 g=>?_;cases g;exact zl
