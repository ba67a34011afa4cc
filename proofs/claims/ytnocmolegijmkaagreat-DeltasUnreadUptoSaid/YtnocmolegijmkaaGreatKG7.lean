/- Printed by a program: what functions answer, and that they do. -/
import Derived.Test.YtnocmolegijmkaaGreatKG6
set_option linter.all false
set_option maxRecDepth 100000
noncomputable section
namespace Go.Proofs.YtnocmolegijmkaaGreat
open Go Go.Bw Go.Proofs.Tryz
theorem w48 {n} (o:Of n):C48 (CA (Gf n)):=by
 intro a0 a1 r g;rw[CA]at g;refine yw func48 ntmps48 ?_
 iterate 2 (refine aQ g λ_ g=>?_)
 refine yk<|yL (S:=Int×Int) (G:=λm s=>rA (Gf m) a0 s.1 s.2) (s0:=(IntKind.i64.wrap (a1-1),0)) 1 [2,4] [1,5] (λs=>[(1,.d (.v (.int .i64 s.1))),(5,.d (.v (.int .i64 s.2)))]) (λs=>[]) g ?_;rintro n ⟨s3,s4⟩ _ g;change va (Gf n) a0 s3 s4=_ at g;rw[va]at g;refine yz ?_
 iterate 2 (refine bp g λ_ g=>?_)
 refine yX g ab.aE λx _ _ g=>?_;refine yc g (o.a.c48 _ _) λy g=>?_;exact yk (yN (_,_) n ⟨by omega,g⟩)
theorem w23 {n} (o:Of n):C23 (CB (Gf n)):=by
 intro a0 a1 r g;rw[CB]at g;refine yw func23 ntmps23 ?_;refine yc g (o.a.c48 _ _) λy g=>?_;cases g;exact zl
theorem w49 {n} (o:Of n):C49 (CC (Gf n)):=by
 intro a0 a1 r g;rw[CC]at g;refine yw func49 ntmps49 ?_
 iterate 2 (refine aQ g λ_ g=>?_)
 refine yk<|yL (S:=Int×Int×Int) (G:=λm s=>rB (Gf m) a0 s.1 s.2.1 s.2.2) (s0:=(IntKind.i64.wrap (a1-IntKind.i64.wrap (1+(↑(aG a0.Names).length:Int))),0,0)) 1 [2] [1,4,5] (λs=>[(1,.d (.v (.int .i64 s.1))),(4,.d (.v (.int .i64 s.2.1))),(5,.d (.v (.int .i64 s.2.2)))]) (λs=>[]) g ?_;rintro n ⟨s3,s4,s5⟩ _ g;change vc (Gf n) a0 s3 s4 s5=_ at g;rw[vc]at g;refine yz ?_
 refine aA g ?_ ?_<;>intro _ g
 iterate 2 (refine aQ g λ_ g=>?_;refine yX g az.aE λx _ _ g=>?_)
 exact yk (yN (_,_,_) n ⟨by omega,g⟩);refine yk<|yL (S:=Int×Int) (G:=λm s=>pU (Gf m) a0 s.1 s.2) (s0:=(s3,0)) 1 [2,4,5] [1,6] (λs=>[(1,.d (.v (.int .i64 s.1))),(6,.d (.v (.int .i64 s.2)))]) (λs=>[]) g ?_;rintro n ⟨s13,s14⟩ _ g;change vb (Gf n) a0 s13 s14=_ at g;rw[vb]at g;refine yz ?_
 refine bp g λ_ g=>?_;refine yX g ah.aE λx _ _ g=>?_;refine yc g (o.a.c49 _ _) λy g=>?_;refine aQ g λ_ g=>?_;exact yk (yN (_,_) n ⟨by omega,g⟩)
theorem w24 {n} (o:Of n):C24 (CD (Gf n)):=by
 intro a0 a1 r g;rw[CD]at g;refine yw func24 ntmps24 ?_;refine yc g (o.a.c49 _ _) λy g=>?_;cases g;exact zl
theorem w8 {n} (o:Of n):C8 (B8 (Gf n)):=by
 intro a0 a1 a2 r g;rw[B8]at g;refine yw func8 ntmps8 ?_;refine yc g (o.a.c23 _ _) λy g=>?_;refine aQ g λ_ g=>?_;refine yc g (o.a.c24 _ _) λy g=>?_
 iterate 3 (refine aQ g λ_ g=>?_)
 refine yk<|yL (S:=Int) (G:=λm s=>rW (Gf m) a2 s) (s0:=0) 2 [2,6] [7] (λs=>[(7,.d (.v (.int .i64 s)))]) (λs=>[]) g ?_;rintro n s7 _ g;change vJ (Gf n) a2 s7=_ at g;rw[vJ]at g;refine yz ?_
 refine bp g λ_ g=>?_;refine yX g br.aE λx _ _ g=>?_;refine aQ g λ_ g=>?_;exact yk (yN _ n ⟨by omega,g⟩)
theorem alb {n} (o:Of n):Yg (BD (Gf n)):=by
 intro a0 a1 r g;rw[BD]at g;refine yw func160 ntmps160 ?_;exact dM g
set_option maxHeartbeats 0 in
theorem alc {n} (o:Of n):Yh (wL (Gf n)):=by
 intro a0 r g;rw[wL]at g;refine yw func107 ntmps107 ?_
 iterate 2 (refine aA g (λk g=>?_) λ_ g=>?_;(iterate 4 (refine aA g ?_ ?_<;>intro _ g;(iterate 2 (refine yF k ?_));refine yc g (o.a.jo _ _) λy g=>?_;cases g;exact zl));(iterate 2 (refine yF k ?_));refine aA g ?_ ?_<;>intro _ g;(iterate 2 (refine yc g (o.a.jo _ _) λy g=>?_;cases g;exact zl)))
 iterate 2 (refine aA g (λk g=>?_) λ_ g=>?_;(iterate 3 (refine aA g ?_ ?_<;>intro _ g;(iterate 2 (refine yF k ?_));refine yc g (o.a.jo _ _) λy g=>?_;cases g;exact zl));(iterate 2 (refine yF k ?_));refine yc g (o.a.jo _ _) λy g=>?_;cases g;exact zl)
 iterate 3 (refine aA g (λk g=>?_) λ_ g=>?_;(iterate 3 (refine aA g ?_ ?_<;>intro _ g;(iterate 2 (refine yF k ?_));refine yc g (o.a.jo _ _) λy g=>?_;cases g;exact zl));(iterate 2 (refine yF k ?_));refine aA g ?_ ?_<;>intro _ g;(iterate 2 (refine yc g (o.a.jo _ _) λy g=>?_;cases g;exact zl)))
 refine aA g (λk g=>?_) λ_ g=>?_
 iterate 4 (refine aA g ?_ ?_<;>intro _ g;(iterate 2 (refine yF k ?_));refine yc g (o.a.jo _ _) λy g=>?_;cases g;exact zl)
 iterate 2 (refine yF k ?_)
 refine aA g ?_ ?_<;>intro _ g
 iterate 2 (refine yc g (o.a.jo _ _) λy g=>?_;cases g;exact zl)
 refine aA g (λk g=>?_) λk g=>?_;refine yo [0,1,2,3,4] [] [] ?_
 iterate 3 (refine aA g ?_ ?_<;>intro _ g;(refine Ok.kZ k ?_;conv=>(arg 3;whnf));refine yc g (o.a.jo _ _) λy g=>?_;cases g;exact zl)
 refine Ok.kZ k ?_;conv=>(arg 3;whnf)
 refine aA g ?_ ?_<;>intro _ g
 iterate 2 (refine yc g (o.a.jo _ _) λy g=>?_;cases g;exact zl)
 refine bp g λl g=>?_
 iterate 2 (refine aA g ?_ ?_<;>intro _ g;(refine Ok.la k ?_;conv=>(arg 3;whnf));(refine Ok.kZ l ?_;conv=>(arg 3;whnf));refine yc g (o.a.jo _ _) λy g=>?_;cases g;exact zl)
 refine Ok.la k ?_;conv=>(arg 3;whnf)
 refine Ok.kZ l ?_;conv=>(arg 3;whnf)
 refine aA g ?_ ?_<;>intro _ g
 iterate 2 (refine yc g (o.a.jo _ _) λy g=>?_;cases g;exact zl)
theorem ald {n} (o:Of n):Yi (BE (Gf n)):=by
 intro a0 r g;rw[BE]at g;refine yw func109 ntmps109 ?_
 iterate 2 ((iterate 2 (refine aA g ?_ ?_<;>intro _ g));(iterate 2 (refine yc g (o.a.jo _ _) λy g=>?_;cases g;exact zl)))
 refine aA g ?_ ?_<;>intro _ g
 iterate 2 (refine yc g (o.a.jo _ _) λy g=>?_;cases g;exact zl)
theorem ale {n} (o:Of n):Yj (BF (Gf n)):=by
 intro a0 r g;rw[BF]at g;refine yw func113 ntmps113 ?_;refine aA g ?_ ?_<;>intro _ g;refine aQ g λ_ g=>?_
 iterate 2 (refine bp g λ_ g=>?_;exact dM g)
theorem w68 {n} (o:Of n):C68 (C2 (Gf n)):=by
 intro a0 r g;rw[C2]at g;refine yw func68 ntmps68 ?_
 iterate 2 (refine aQ g λ_ g=>?_)
 iterate 2 (obtain⟨x,w,j,g⟩:=cE g;refine yv (bA.toP (bA.VM ((0:Int).toNat) rfl rfl rfl rfl j w)) ?_;refine aQ g λ_ g=>?_)
 refine yk<|yL (S:=Int) (G:=λm s=>Aa (Gf m) a0 s) (s0:=0) 0 [0,2,23] [24] (λs=>[(24,.d (.v (.int .i64 s)))]) (λs=>[]) g ?_;rintro n s9 _ g;change vq (Gf n) a0 s9=_ at g;rw[vq]at g;refine yz ?_
 refine bp g λ_ g=>?_;obtain⟨x,w,j,g⟩:=cE g;refine yv (bA.toP (bA.VM ((s9:Int).toNat) rfl rfl rfl rfl j w)) ?_;refine yc g (o.a.amO _) λy g=>?_;refine aQ g λ_ g=>?_;exact yk (yN _ n ⟨by omega,g⟩)
theorem w93 {n} (o:Of n):C93 (xi (Gf n)):=by
 intro a0 a1 r g;rw[xi]at g;refine yw func93 ntmps93 ?_;refine yk<|yL (S:=Int) (G:=λm s=>Fv (Gf m) a0 a1 s) (s0:=0) 0 [0,1,4,7] [8] (λs=>[(8,.d (.v (.int .i64 s)))]) (λs=>[]) g ?_;rintro n s1 _ g;change vt (Gf n) a0 a1 s1=_ at g;rw[vt]at g;refine yz ?_
 refine bp g λ_ g=>?_;refine yX g dF λx _ _ g=>?_;refine aQ g λ_ g=>?_;exact yk (yN _ n ⟨by omega,g⟩)
theorem alf {n} (o:Of n):Yk (BG (Gf n)):=by
 intro a0 a1 r g;rw[BG]at g;refine yw func148 ntmps148 ?_;refine yc g (o.a.xm _ _) λy g=>?_;cases g;exact zl
theorem alg {n} (o:Of n):Yl (wK (Gf n)):=by
 intro a0 r g;rw[wK]at g;refine yw func126 ntmps126 ?_;refine yk<|yL (S:=Int) (G:=λm s=>zH (Gf m) a0 s) (s0:=1) 0 [0,2] [3] (λs=>[(3,.d (.v (.int .i64 s)))]) (λs=>[]) g ?_;rintro n s1 _ g;change rn (Gf n) a0 s1=_ at g;rw[rn]at g;refine yz ?_
 refine bp g λ_ g=>?_;refine yo [0,1,2,3,4,5,6,7,8,9] [] [] ?_
 iterate 2 (refine yY g dF λx _ _ g=>?_)
 refine aQ g λ_ g=>?_;exact yk (yN _ n ⟨by omega,g⟩)
theorem alh {n} (o:Of n):Ym (BH (Gf n)):=by
 intro a0 a1 r g;rw[BH]at g;refine yw func140 ntmps140 ?_;refine yc g (o.a.Oe _ _) λy g=>?_;cases g;exact zl
theorem w92 {n} (o:Of n):C92 (xj (Gf n)):=by
 intro a0 a1 r g;rw[xj]at g;refine yw func92 ntmps92 ?_;refine yk<|yL (S:=Int) (G:=λm s=>rM (Gf m) a0 a1 s) (s0:=0) 0 [1,4,7,8] [9] (λs=>[(9,.d (.v (.int .i64 s)))]) (λs=>[]) g ?_;rintro n s1 _ g;change vw (Gf n) a0 a1 s1=_ at g;rw[vw]at g;refine yz ?_
 refine bp g λ_ g=>?_;refine yX g dF λx _ _ g=>?_;refine yc g (o.a.wZ _ _) λy g=>?_;refine aQ g λ_ g=>?_;exact yk (yN _ n ⟨by omega,g⟩)
theorem ali {n} (o:Of n):Yn (sy (Gf n)):=by
 intro a0 r g;rw[sy]at g;refine yw func110 ntmps110 ?_;refine yk<|yL (S:=Int×Int) (G:=λm s=>mu (Gf m) a0 s.1 s.2) (s0:=(0,0)) 1 [1,8,9] [2,10] (λs=>[(2,.d (.v (.int .i64 s.1))),(10,.d (.v (.int .i64 s.2)))]) (λs=>[]) g ?_;rintro n ⟨s1,s2⟩ _ g;change pH (Gf n) a0 s1 s2=_ at g;rw[pH]at g;refine yz ?_
 refine aA g ?_ ?_<;>intro _ g;refine yX g dF λx _ _ g=>?_;refine yc g (o.a.nT _) λy g=>?_;refine aQ g λ_ g=>?_;refine aA g ?_ ?_<;>intro _ g;obtain⟨x,w,g⟩:=cy g;refine yv (yQ gu w) ?_;refine yc g (o.a.Oe _ _) λy g=>?_;refine aQ g λ_ g=>?_
 iterate 2 (exact yk (yN (_,_) n ⟨by omega,g⟩))
 refine aA g ?_ ?_<;>intro _ g;refine yc g (o.a.oM _) λy g=>?_;refine aQ g λ_ g=>?_;refine yk<|yL (S:=Int) (G:=λm s=>E1 (Gf m) a0 s) (s0:=0) 1 [1,2,8,9,10,42,43] [44] (λs=>[(44,.d (.v (.int .i64 s)))]) (λs=>[]) g ?_;rintro n s16 _ g;change E2 (Gf n) a0 s16=_ at g;rw[E2]at g;refine yz ?_
 refine bp g λ_ g=>?_;refine yX g aV.aE λx _ _ g=>?_;refine aQ g λ_ g=>?_;refine yc g (o.a.oM _) λy g=>?_;refine aQ g λ_ g=>?_;refine yc g (o.a.G6 _ _) λy g=>?_;refine aQ g λ_ g=>?_;refine yc g (o.a.wZ _ _) λy g=>?_;refine aQ g λ_ g=>?_;exact yk (yN _ n ⟨by omega,g⟩);refine yk<|yL (S:=Int) (G:=λm s=>E3 (Gf m) a0 s) (s0:=0) 1 [1,2,8,9,10,42,43] [44] (λs=>[(44,.d (.v (.int .i64 s)))]) (λs=>[]) g ?_;rintro n s27 _ g;change E4 (Gf n) a0 s27=_ at g;rw[E4]at g;refine yz ?_
 refine bp g λ_ g=>?_;refine yX g aV.aE λx _ _ g=>?_;refine aQ g λ_ g=>?_;refine yc g (o.a.oM _) λy g=>?_;refine aQ g λ_ g=>?_;refine yc g (o.a.G6 _ _) λy g=>?_;refine aQ g λ_ g=>?_;refine yc g (o.a.wZ _ _) λy g=>?_;refine aQ g λ_ g=>?_;exact yk (yN _ n ⟨by omega,g⟩)
theorem alj {n} (o:Of n):Yo (wM (Gf n)):=by
 intro a0 r g;rw[wM]at g;refine yw func111 ntmps111 ?_
 iterate 4 (refine aA g ?_ ?_<;>intro _ g;refine yc g (o.a.jo _ _) λy g=>?_;cases g;exact zl)
 refine yc g (o.a.jo _ _) λy g=>?_;cases g;exact zl
theorem alk {n} (o:Of n):Yp (sA (Gf n)):=by
 intro a0 r g;rw[sA]at g;refine yw func161 ntmps161 ?_
 iterate 3 (refine aQ g λ_ g=>?_)
 iterate 2 (refine bp g λ_ g=>?_)
 refine yX g ai.aE λx _ _ g=>?_;refine yc g (o.a.Og _) λy g=>?_;refine bp g λ_ g=>?_;refine yX g ai.aE λx _ _ g=>?_;refine yc g (o.a.Og _) λy g=>?_;cases g;exact zl
theorem alm {n} (o:Of n):Yq (wN (Gf n)):=by
 intro a0 r g;rw[wN]at g;refine yw func112 ntmps112 ?_;refine aA g ?_ ?_<;>intro _ g;refine yX g ai.aE λx _ _ g=>?_;refine yc g (o.a.Og _) λy g=>?_
 iterate 2 (refine yc g (o.a.jo _ _) λy g=>?_;cases g;exact zl)
theorem aln {n} (o:Of n):Yr (sB (Gf n)):=by
 intro a0 r g;rw[sB]at g;refine yw func108 ntmps108 ?_;refine yk<|yL (S:=Int) (G:=λm s=>ny (Gf m) a0 s) (s0:=0) 0 [2,3,6,7] [8] (λs=>[(8,.d (.v (.int .i64 s)))]) (λs=>[]) g ?_;rintro n s1 _ g;change pI (Gf n) a0 s1=_ at g;rw[pI]at g;refine yz ?_
 refine bp g λ_ g=>?_;refine yX g D4 λx _ _ g=>?_;refine aQ g λ_ g=>?_;exact yk (yN _ n ⟨by omega,g⟩)
/-(*plexus.lattice.checker).visit-/
theorem w67 {n} (o:Of n):C67 (xg (Gf n)):=by
 intro a0 a1 a2 r g;rw[xg]at g;refine jW.walk (E:=env) func67 rfl zk (rs:=_) rfl ntmps67 rfl (yz ?_)
 iterate 2 (refine aQ g λ_ g=>?_)
 refine yc g (o.a.amP _) λy g=>?_;refine aQ g λ_ g=>?_;refine yo [0,1,2,3,4,5,6,7,8,9,10] [] [] ?_;obtain⟨y,z,g⟩:=bx g (o.a.amQ _);refine yl (yC z) ?_;obtain⟨y,z,g⟩:=bx g (o.a.amR _);refine yl (yC z) ?_;obtain⟨y,z,g⟩:=bx g (o.a.amS _);refine yl (yC z) ?_;obtain⟨y,z,g⟩:=bx g (o.a.amT _);refine yl (yC z) ?_;obtain⟨y,z,g⟩:=bx g (o.a.amU _);refine yl (yC z) ?_;refine aQ g λ_ g=>?_;refine yk<|yL (S:=Int×dO) (G:=λm s=>nE (Gf m) a1 a2 s.1 s.2) (s0:=(0,{nodes:=IntKind.i64.wrap (a0.nodes+1):dO})) 2 [0,2,6,47,48] [49] (λs=>[(49,.d (.v (.int .i64 s.1)))]) (λs=>[(0,.box ((dO.cs s.2).map .d))]) g ?_;rintro n ⟨s11,s12⟩ _ g;change p4 (Gf n) a1 a2 s11 s12=_ at g;rw[p4]at g;refine yz ?_
 refine bp g λ_ g=>?_;refine yX g ai.aE λx _ _ g=>?_;obtain⟨y,z,g⟩:=bx g (o.a.c67 _ _ _);refine yk<|au.mF 0 z rfl rfl (by first|rfl|(simp only[iQ];rfl)) rfl (oF.box rfl zi) rfl (yz ?_)
 refine aQ g λ_ g=>?_;exact yk (yN (_,_) n ⟨by omega,g⟩)
theorem w31 {n} (o:Of n):C31 (xh (Gf n)):=by
 intro a0 r g;rw[xh]at g;refine yw func31 ntmps31 ?_;obtain⟨y,z,g⟩:=bx g (o.a.c67 _ _ _);refine yk<|au.mF 1 z rfl rfl (by first|rfl|(simp only[iQ];rfl)) rfl (oF.box rfl zi) rfl (yz ?_)
 cases g;exact zl
theorem w70 {n} (o:Of n):C70 (C0 (Gf n)):=by
 intro a0 a1 r g;rw[C0]at g;refine yw func70 ntmps70 ?_;cases g;exact zl
theorem aeu {n} (o:Of n):Tq (tT (Gf n)):=by
 intro a0 a1 r g;rw[tT]at g;refine yw func114 ntmps114 ?_;refine yk<|yL (S:=Int) (G:=λm s=>DM (Gf m) a0 a1 s) (s0:=0) 0 [0,1,4,7] [8] (λs=>[(8,.d (.v (.int .i64 s)))]) (λs=>[]) g ?_;rintro n s1 _ g;change sZ (Gf n) a0 a1 s1=_ at g;rw[sZ]at g;refine yz ?_
 refine bp g λ_ g=>?_;refine yX g TParam.aE λx _ _ g=>?_;refine yc g (o.a.c70 _ _) λy g=>?_;refine aQ g λ_ g=>?_;exact yk (yN _ n ⟨by omega,g⟩)
theorem afJ {n} (o:Of n):VG (zG (Gf n)):=by
 intro a0 a1 r g;rw[zG]at g;refine yw func69 ntmps69 ?_;refine yc g (o.a.aeC _ _) λy g=>?_;cases g;exact zl
theorem w32 {n} (o:Of n):C32 (C1 (Gf n)):=by
 intro a0 r g;rw[C1]at g;refine yw func32 ntmps32 ?_
 iterate 2 (refine yc g (o.a.nT _) λy g=>?_;refine aQ g λ_ g=>?_)
 iterate 3 (refine aQ g λ_ g=>?_)
 refine yk<|yL (S:=Int) (G:=λm s=>rL (Gf m) a0 s) (s0:=0) 1 [1,2,32,33] [34] (λs=>[(34,.d (.v (.int .i64 s)))]) (λs=>[]) g ?_;rintro n s8 _ g;change vp (Gf n) a0 s8=_ at g;rw[vp]at g;refine yz ?_
 refine bp g λ_ g=>?_;refine yX g TParam.aE λx _ _ g=>?_;refine yc g (o.a.nT _) λy g=>?_
 iterate 3 (refine aQ g λ_ g=>?_)
 obtain⟨x,w,g⟩:=cy g;refine yv (yQ TParam.bg w) ?_;refine yc g (o.a.afK _ _) λy g=>?_;refine aQ g λ_ g=>?_;exact yk (yN _ n ⟨by omega,g⟩)
theorem w71 {n} (o:Of n):C71 (CT (Gf n)):=by
 intro a0 a1 r g;rw[CT]at g;refine yw func71 ntmps71 ?_;refine aQ g λ_ g=>?_;refine aA g (λk g=>?_) λ_ g=>?_
 iterate 2 (refine aA g ?_ ?_<;>intro _ g)
 refine yo [] (tk [0,3,6,10,12,16]) [] ?_
 iterate 4 (refine yt zp ?_)
 iterate 2 (cases g;exact yj;(iterate 4 (refine yF k ?_)))
 cases g;exact yj;refine aA g (λk g=>?_) λk g=>?_;refine aQ g λ_ g=>?_;refine Ok.kZ k ?_;conv=>(arg 3;whnf)
 refine aQ g λ_ g=>?_
 iterate 2 (refine yF k ?_)
 cases g;exact yj;refine Ok.la k ?_;conv=>(arg 3;whnf)
 refine aA g (λk g=>?_) λ_ g=>?_;refine yc g (o.a.nT _) λy g=>?_;refine aA g ?_ ?_<;>intro _ g;refine yo [] (tk [0,3,6,10,12,16]) [] ?_
 iterate 4 (refine yt zp ?_)
 cases g;exact yj;refine yF k ?_;cases g;exact yj
 iterate 3 (refine bp g λ_ g=>?_)
 refine yo [] (tk [0,3,6,9,12,15,18,22,24,28]) [] ?_;obtain⟨x,w,j,g⟩:=cE g;refine yu zp (yi j (TParam.aE w)) ?_
 iterate 6 (refine yt zp ?_)
 cases g;exact yj
theorem w72 {n} (o:Of n):C72 (CU (Gf n)):=by
 intro a0 r g;rw[CU]at g;refine yw func72 ntmps72 ?_
 iterate 15 (refine aQ g λ_ g=>?_)
 exact dM g
theorem w73 {n} (o:Of n):C73 (CW (Gf n)):=by
 intro a0 r g;rw[CW]at g;refine yw func73 ntmps73 ?_
 iterate 16 (refine aQ g λ_ g=>?_)
 exact dM g
theorem w33 {n} (o:Of n):C33 (CX (Gf n)):=by
 intro a0 a1 r g;rw[CX]at g;refine yw func33 ntmps33 ?_;refine yc g (o.a.c71 _ _) λy g=>?_;refine aQ g λ_ g=>?_;refine Ok.stuck aU ?_;refine au.gH 3 4 71 5 4 rfl rfl rfl ?_;refine yL (S:=Bool×Int×(List aH)) (G:=λm s=>rK (Gf m) a0 a1 s.1 s.2.1 s.2.2) (s0:=(false,0,[])) 5 [0,3,4,8,30,31] [5,32] (λs=>[(5,.d (.v (.bool s.1))),(32,.d (.v (.int .i64 s.2.1)))]) (λs=>[(4,.row 71 5 (aH.rows s.2.2)),(3,.box [.d (.v (.int .i64 0)),.d (.v (.string ⟨⟨([])⟩⟩)),.d (.v (.int .i64 0)),.d (.v (.int .i64 a1.At)),.os 4 (aH.rows s.2.2).length])]) g ?_;rintro n ⟨s3,s4,s9⟩ _ g;change vo (Gf n) a0 a1 s3 s4 s9=_ at g;rw[vo]at g;refine yz ?_;refine aA g ?_ ?_<;>intro _ g;refine yX g ab.aE λx _ _ g=>?_;refine yc g (o.a.c33 _ _) λy g=>?_;refine aQ g λ_ g=>?_;refine yo [0,1,2,3,4] (tk [16,18,24,23,28]) [] ?_;obtain⟨k,g⟩:=bL g;refine yk<|au.eG (rows2:=(aH.rows ([aH.z]))) aI.nil rfl rfl rfl rfl rfl zg rfl zi rfl rfl (aH.cv _) rfl rfl (zo k) (yz ?_)
 obtain⟨x,w,j,g⟩:=cE g;refine yU zp (yr j w) ?_;refine yt (eF j w) ?_;refine lC ((↑(aH.rows s9).length:Int).toNat) 0 (aH.aE w) j w ?_;exact yk (yN (_,_,_) n ⟨by omega,g⟩);refine yc g (o.a.c72 _) λy g=>?_;refine aA g ?_ ?_<;>intro _ g;refine aQ g λ_ g=>?_;refine bp g λ_ g=>?_;refine yX g ab.aE λx _ _ g=>?_
 iterate 2 (refine aQ g λ_ g=>?_)
 refine yX g dF λx _ _ g=>?_;cases g;exact zl;refine yc g (o.a.c73 _) λy g=>?_;refine aA g ?_ ?_<;>intro _ g;refine yk<|au.inl (rs:=_) rfl func74 rfl zk rfl ntmps74 rfl rfl (yz ?_)
 refine aQ g λ_ g=>?_;refine Ok.stuck aU ?_;refine au.kv 3 71 5 5 rfl rfl ?_;refine yL (S:=(List aH)×Int) (G:=λm s=>pZ (Gf m) a1 s9 y s.1 s.2) (s0:=([],0)) 6 [0,2,5,8] [3,4] (λs=>[(3,.os 5 (aH.rows s.1).length),(4,.d (.v (.int .i64 s.2)))]) (λs=>[(5,.row 71 5 (aH.rows s.1))]) g ?_;rintro n ⟨s31,s32⟩ _ g;change vm (Gf n) a1 s9 y s31 s32=_ at g;rw[vm]at g;refine yz ?_;refine bp g λ_ g=>?_;refine yo [0,1,2,3,4,5,6,7,8,9,10,11,12,13,14,15,16,17,18] (tk [58,60]) [] ?_;obtain⟨x,w,j,g⟩:=cE g;refine yl (yr j w) ?_;refine yl (ym s32.toNat 0 (aH.aE w)) ?_;obtain⟨t,w,j,g⟩:=cE g;refine yl (yr j w) ?_;refine yl (ym ((IntKind.i64.wrap (s32+1)).toNat) 0 (aH.aE w)) ?_;obtain⟨k,g⟩:=bL g;refine yk<|au.eG (rows2:=(aH.rows ([{Kind:=52,Text:=[],N:=0,At:=0,Kids:=[x,t]:aH}]))) aI.nil rfl rfl rfl rfl rfl zg rfl zi rfl rfl (aH.cv _) rfl rfl (zo k) (yz ?_)
 exact yk (yN (_,_) n ⟨by omega,g⟩);refine aA g ?_ ?_<;>intro _ g;refine yk<|au.inl (rs:=_) rfl func75 rfl zk rfl ntmps75 rfl rfl (yz ?_)
 refine aQ g λ_ g=>?_;refine Ok.stuck aU ?_;refine au.kv 6 71 5 6 rfl rfl ?_;refine yL (S:=(List aH)×Int) (G:=λm s=>mB (Gf m) a1 s9 y s.1 s.2) (s0:=([],0)) 7 [0,3,4,5,17,24,25] [6,26] (λs=>[(6,.os 6 (aH.rows s.1).length),(26,.d (.v (.int .i64 s.2)))]) (λs=>[(6,.row 71 5 (aH.rows s.1))]) g ?_;rintro n ⟨s41,s42⟩ _ g;change vn (Gf n) a1 s9 y s41 s42=_ at g;rw[vn]at g;refine yz ?_;refine bp g λ_ g=>?_;obtain⟨x,w,j,g⟩:=cE g;refine yv (yr j w) ?_;refine yv (ym s42.toNat 0 (aH.aE w)) ?_;refine yo [0,1,2,3,4,5,6,7,8,9,10,11] [] [] ?_
 iterate 2 (refine aA g ?_ ?_<;>intro _ g;refine yo [0,1,2,3,4,5,6,7,8] (tk [28,30]) [] ?_;refine yY g dF λt _ _ g=>?_;obtain⟨k,g⟩:=bL g;refine yk<|au.eG (rows2:=(aH.rows ([{Kind:=52,Text:=t,N:=0,At:=0,Kids:=[x]:aH}]))) aI.nil rfl rfl rfl rfl rfl zg rfl zi rfl rfl (aH.cv _) rfl rfl (zo k) (yz ?_);exact yk (yN (_,_) n ⟨by omega,g⟩))
 exact yk (yN (_,_) n ⟨by omega,g⟩);refine yo [] (tk [0,3,6,9,13,15]) [] ?_
 iterate 6 (refine yt zp ?_)
 cases g;exact zl
theorem w79 {n} (o:Of n):C79 (GP (Gf n)):=by
 intro a0 r g;rw[GP]at g;refine yw func79 ntmps79 ?_;cases g;exact zl
theorem w80 {n} (o:Of n):C80 (GQ (Gf n)):=by
 intro a0 r g;rw[GQ]at g;refine yw func80 ntmps80 ?_;cases g;exact yj
theorem w35 {n} (o:Of n):C35 (CZ (Gf n)):=by
 intro a0 a1 r g;rw[CZ]at g;refine yw func35 ntmps35 ?_;refine aA g ?_ ?_<;>intro _ g;refine yc g (o.a.kh _) λy g=>?_;cases g;exact zl;refine yc g (o.a.jw _) λy g=>?_;cases g;exact zl
/-(*plexus.types.elaborator).any$1-/
theorem alo {n} (o:Of n):Ys (Bu (Gf n)):=by
 intro a0 a1 r g;rw[Bu]at g;refine yw func162 ntmps162 ?_;cases g;exact zl
theorem ac3 {n} (o:Of n):Sf (tE (Gf n)):=by
 intro a0 a1 r g;rw[tE]at g;refine yw func114 ntmps114 ?_;refine yk<|yL (S:=Int) (G:=λm s=>DH (Gf m) a0 a1 s) (s0:=0) 0 [0,1,4,7] [8] (λs=>[(8,.d (.v (.int .i64 s)))]) (λs=>[]) g ?_;rintro n s1 _ g;change sU (Gf n) a0 a1 s1=_ at g;rw[sU]at g;refine yz ?_
 refine bp g λ_ g=>?_;refine yX g TParam.aE λx _ _ g=>?_;refine yc g (o.a.amV _ _) λy g=>?_;refine aQ g λ_ g=>?_;exact yk (yN _ n ⟨by omega,g⟩)
theorem alp {n} (o:Of n):Yt (Bs (Gf n)):=by
 intro a0 a1 r g;rw[Bs]at g;refine yw func119 ntmps119 ?_;refine Ok.fin aU ?_;obtain rfl:=oZ g;exact RD.Af rfl aU rfl zi
theorem alq {n} (o:Of n):Yu (BA (Gf n)):=by
 intro a0 r g;rw[BA]at g;refine yw func118 ntmps118 ?_;exact dM g
theorem alr {n} (o:Of n):Yv (BI (Gf n)):=by
 intro a0 r g;rw[BI]at g;refine yw func219 ntmps219 ?_
 iterate 4 (refine aQ g λ_ g=>?_)
 exact dM g
theorem als {n} (o:Of n):Yw (wJ (Gf n)):=by
 intro a0 a1 r g;rw[wJ]at g;refine yw func260 ntmps260 ?_;refine yk<|yL (S:=Int) (G:=λm s=>E5 (Gf m) a0 a1 s) (s0:=0) 0 [0,1,4,7] [8] (λs=>[(8,.d (.v (.int .i64 s)))]) (λs=>[]) g ?_;rintro n s1 _ g;change uP (Gf n) a0 a1 s1=_ at g;rw[uP]at g;refine yz ?_
 refine bp g λ_ g=>?_;refine yX g D4 λx _ _ g=>?_;refine aQ g λ_ g=>?_;exact yk (yN _ n ⟨by omega,g⟩)
theorem alu {n} (o:Of n):Yx (Bt (Gf n)):=by
 intro a0 a1 r g;rw[Bt]at g;refine yw func221 ntmps221 ?_;refine yc g (o.a.amW _ _) λy g=>?_;cases g;exact zl
/-(*plexus.types.elaborator).call$1-/
theorem alv {n} (o:Of n):Yy (BJ (Gf n)):=by
 intro a0 a1 a2 r g;rw[BJ]at g;refine yw func220 ntmps220 ?_;refine aA g ?_ ?_<;>intro _ g;exact yP g (o.a.gB _ _);refine yc g (o.a.Oh _ _) λy g=>?_;refine aA g ?_ ?_<;>intro _ g;exact yP g (o.a.gB _ _);refine Ok.fin aU ?_;obtain rfl:=oZ g;exact RD.rS rfl rfl aU rfl (cq.refl _)
theorem alw {n} (o:Of n):Yz (By (Gf n)):=by
 intro a0 r g;rw[By]at g;refine yw func129 ntmps129 ?_;refine Ok.stuck aU<|au.jg 3 rfl ?_ ?_
 intro cap k;replace g:(some ([]))=some r:=(by have l:a0=[]:=DA.1 (by have k:=congrArg List.length k;simpa only[bH,lG]using k);subst l;simpa using g);refine yz ?_;refine yv (bA.toP (bA.lY (et:=9) rfl zk rfl rfl)) ?_;cases g;exact yj;intro ad n0 cap;refine yz ?_;refine yv (bA.toP (bA.lY (et:=9) rfl zk rfl rfl)) ?_;obtain⟨k,g⟩:=bL g;refine yk<|DO.r9 (rows2:=(aG a0)) rfl rfl zg rfl (cq.refl _) rfl rfl (HU _) rfl rfl rfl (zo k) (yz ?_)
 cases g;exact zl
theorem aij {n} (o:Of n):XH (Ar (Gf n)):=by
 intro a0 r g;rw[Ar]at g;refine kB.walk (E:=env) func166 rfl zk (rs:=_) rfl ntmps166 rfl (yz ?_);refine Ok.stuck aU<|au.jg 3 rfl ?_ ?_
 intro cap k;replace g:(some [])=some r:=(by have l:a0=[]:=DA.1 (by have k:=congrArg List.length k;simpa only[aV.aF,lG]using k);subst l;simpa using g);refine yz ?_;refine yv (bA.toP (bA.lY (et:=181) rfl zk rfl rfl)) ?_;refine Ok.fin aU ?_;obtain rfl:=oZ g;exact RD.Is rfl rfl (by simp only[iQ]);intro ad n0 cap;refine yz ?_;refine yv (bA.toP (bA.lY (et:=181) rfl zk rfl rfl)) ?_;obtain⟨k,g⟩:=bL g;refine yk<|DO.r9 (rows2:=(aV.rows a0)) rfl rfl zg rfl (cq.refl _) rfl rfl (aV.cv _) rfl rfl rfl (zo k) (yz ?_)
 refine Ok.fin aU ?_;obtain rfl:=oZ g;exact RD.J3 rfl rfl rfl rfl zi
theorem aik {n} (o:Of n):XI (Aq (Gf n)):=by
 intro a0 r g;rw[Aq]at g;refine kB.walk (E:=env) func167 rfl zk (rs:=_) rfl ntmps167 rfl (yz ?_);refine Ok.stuck aU<|au.jg 3 rfl ?_ ?_
 intro cap k;replace g:(some [])=some r:=(by have l:a0=[]:=DA.1 (by have k:=congrArg List.length k;simpa only[ai.aF,lG]using k);subst l;simpa using g);refine yz ?_;refine yv (bA.toP (bA.lY (et:=26) rfl zk rfl rfl)) ?_;refine Ok.fin aU ?_;obtain rfl:=oZ g;exact RD.Is rfl rfl (by simp only[iQ]);intro ad n0 cap;refine yz ?_;refine yv (bA.toP (bA.lY (et:=26) rfl zk rfl rfl)) ?_;obtain⟨k,g⟩:=bL g;refine yk<|DO.r9 (rows2:=(ai.rows a0)) rfl rfl zg rfl (cq.refl _) rfl rfl (ai.cv _) rfl rfl rfl (zo k) (yz ?_)
 refine Ok.fin aU ?_;obtain rfl:=oZ g;exact RD.J3 rfl rfl rfl rfl zi
theorem alx {n} (o:Of n):YA (Bz (Gf n)):=by
 intro a0 r g;rw[Bz]at g;refine yw func117 ntmps117 ?_;refine yc g (o.a.w4 _) λy g=>?_;obtain⟨v,z,g⟩:=bx g (o.a.ail _);refine yk<|au.J2 z rfl rfl (by first|rfl|(simp only[iQ];rfl)) rfl (yz ?_)
 refine yk<|yL (S:=Int×(List aV)) (G:=λm s=>zE (Gf m) a0 y v s.1 s.2) (s0:=(0,v)) 3 [1,2,15] [16] (λs=>[(16,.d (.v (.int .i64 s.1)))]) (λs=>[(2,.row 181 2 (aV.rows s.2)),(0,.box [.d (.v (.int .i64 a0.Kind)),.d (.v (.int .i64 a0.Lo)),.d (.v (.int .i64 a0.Hi)),.d (.sl 1 (aG y)),.d (.sl 6 (ai.rows a0.ak)),.os 2 (aV.rows s.2).length])]) g ?_;rintro n ⟨s3,s9⟩ _ g;change uR (Gf n) a0 y v s3 s9=_ at g;rw[uR]at g;refine yz ?_
 refine aA g ?_ ?_<;>intro _ g;refine yo [] (tk [0,3,6,9,12,15,18,21,24,28,30,33,37]) [] ?_
 iterate 4 (refine yt zp ?_)
 obtain⟨x,w,j,g⟩:=cE g;refine yU zp (yr j w) ?_;refine yt (eF j w) ?_;refine yU (eF j w) (ym s3.toNat 0 (aV.aE w)) ?_;refine yd g (o.a.w4 _) (by repeat(first|exact aI.nil|refine aI.cons rfl (bh.eb (cl:=false) rfl aU) ?_|refine aI.skip rfl ?_|refine aI.cons rfl (yr j w) ?_|refine aI.cons rfl (ym s3.toNat 0 (aV.aE w)) ?_|refine aI.cons rfl (eS (cl:=false) rfl aU) ?_)) λv g=>?_;obtain⟨x,q,j1h,g⟩:=cE g;refine yU (by repeat(first|exact aI.nil|refine aI.cons rfl (bh.eb (cl:=false) rfl aU) ?_|refine aI.skip rfl ?_|refine aI.cons rfl (yr j w) ?_|refine aI.cons rfl (ym s3.toNat 0 (aV.aE w)) ?_|refine aI.cons rfl (eS (cl:=false) rfl aU) ?_)) (yr j1h q) ?_;refine yt (by repeat(first|exact aI.nil|refine aI.cons rfl (bh.eb (cl:=false) rfl aU) ?_|refine aI.skip rfl ?_|refine aI.cons rfl (yr j w) ?_|refine aI.cons rfl (ym s3.toNat 0 (aV.aE w)) ?_|refine aI.cons rfl (yr j1h q) ?_|refine aI.cons rfl (eS (cl:=false) rfl aU) ?_)) ?_;refine yk<|au.DT s3.toNat 0 (by repeat(first|exact aI.nil|refine aI.cons rfl (bh.eb (cl:=false) rfl aU) ?_|refine aI.skip rfl ?_|refine aI.cons rfl (yr j w) ?_|refine aI.cons rfl (ym s3.toNat 0 (aV.aE w)) ?_|refine aI.cons rfl (yr j1h q) ?_|refine aI.cons rfl (eS (cl:=false) rfl aU) ?_)) (by rfl) (by rfl) (by rfl) (by rfl) (by rfl) (by rfl) (by rfl) (by rfl) zg (by rfl) (yg (aV.aE q)) (by rfl) (by rfl) (by rfl) (by rfl) (yz ?_)
 refine yt (by repeat(first|exact aI.nil|refine aI.cons rfl (bh.eb (cl:=false) rfl aU) ?_|refine aI.skip rfl ?_|refine aI.cons rfl (yr j w) ?_|refine aI.cons rfl (ym s3.toNat 0 (aV.aE w)) ?_|refine aI.cons rfl (yr j1h q) ?_|refine aI.cons rfl (eS (cl:=false) rfl aU) ?_)) ?_;exact yk (yN (_,_) n ⟨by omega,g⟩);obtain⟨v,z,g⟩:=bx g (o.a.aim _);refine yk<|au.J2 z rfl rfl (by first|rfl|(simp only[iQ];rfl)) rfl (yz ?_)
 refine yk<|yL (S:=Int×(List ai)×(List aV)) (G:=λm s=>zB (Gf m) a0 y v s.1 s.2.1 s.2.2) (s0:=(0,v,s9)) 4 [1,2,15,16,38] [39] (λs=>[(39,.d (.v (.int .i64 s.1)))]) (λs=>[(3,.row 26 6 (ai.rows s.2.1)),(2,.row 181 2 (aV.rows s.2.2)),(0,.box [.d (.v (.int .i64 a0.Kind)),.d (.v (.int .i64 a0.Lo)),.d (.v (.int .i64 a0.Hi)),.d (.sl 1 (aG y)),.os 3 (ai.rows s.2.1).length,.os 2 (aV.rows s.2.2).length])]) g ?_;rintro n ⟨s17,s22,s23⟩ _ g;change uQ (Gf n) a0 y v s17 s22 s23=_ at g;rw[uQ]at g;refine yz ?_
 refine bp g λ_ g=>?_;refine yo [0,1,2,3,4,5,6,7,8,9] [(10,.one)] [] ?_;obtain⟨x,w,j,g⟩:=cE g;refine yl (yr j w) ?_;refine yl (ym s17.toNat 0 (ai.aE w)) ?_;obtain⟨y,z,g⟩:=bx g (o.a.Oi _);refine yl (yC z) ?_;obtain⟨x,w,j,g⟩:=cE g;refine yl (yr j w) ?_;refine yk<|au.DT s17.toNat 0 aI.nil (by rfl) (by rfl) (by rfl) (by rfl) (by rfl) (by rfl) (by rfl) (by rfl) zg (by rfl) (yg (ai.aE w)) (by rfl) (by rfl) (by rfl) (by rfl) (yz ?_)
 exact yk (yN (_,_,_) n ⟨by omega,g⟩)
theorem aly {n} (o:Of n):YB (Bx (Gf n)):=by
 intro a0 r g;rw[Bx]at g;refine yw func262 ntmps262 ?_;refine aQ g λ_ g=>?_;refine aA g ?_ ?_<;>intro _ g
 iterate 6 (refine aQ g λ_ g=>?_)
 exact dM g;refine aA g ?_ ?_<;>intro _ g;refine yX g aH.aE λx _ _ g=>?_;refine yc g (o.a.Gw _) λy g=>?_;refine bp g λ_ g=>?_;refine yX g aH.aE λx _ _ g=>?_;refine yc g (o.a.Gw _) λy g=>?_;cases g;exact zl
 iterate 2 (refine bp g λ_ g=>?_;refine yX g aH.aE λx _ _ g=>?_;refine yc g (o.a.Gw _) λy g=>?_)
 cases g;exact zl
theorem alz {n} (o:Of n):YC (F' (Gf n)):=by
 intro a0 a1 r g;rw[F']at g;refine yw func168 ntmps168 ?_;refine aQ g λ_ g=>?_;refine yk<|yL (S:=Int) (G:=λm s=>E6 (Gf m) a0 a1 s) (s0:=0) 0 [0,1,4,12] [13] (λs=>[(13,.d (.v (.int .i64 s)))]) (λs=>[]) g ?_;rintro n s2 _ g;change E7 (Gf n) a0 a1 s2=_ at g;rw[E7]at g;refine yz ?_
 refine bp g λ_ g=>?_;refine yo [0,1,2,3,4,5,6,7,8] [] [] ?_
 iterate 2 (refine yY g dF λx _ _ g=>?_)
 refine aQ g λ_ g=>?_;exact yk (yN _ n ⟨by omega,g⟩)
theorem alA {n} (o:Of n):YD (BB (Gf n)):=by
 intro a0 a1 r g;rw[BB]at g;refine yw func170 ntmps170 ?_;refine bp g λ_ g=>?_;refine yc g (o.a.YE _ _) λy g=>?_;cases g;exact zl
theorem aev {n} (o:Of n):Ts (yS (Gf n)):=by
 intro a0 a1 r g;rw[yS]at g;refine yw func169 ntmps169 ?_;refine aQ g λ_ g=>?_;refine yk<|yL (S:=Int) (G:=λm s=>ta (Gf m) a0 a1 s) (s0:=0) 0 [1,2,6,15,16] [17] (λs=>[(17,.d (.v (.int .i64 s)))]) (λs=>[]) g ?_;rintro n s2 _ g;change tc (Gf n) a0 a1 s2=_ at g;rw[tc]at g;refine yz ?_
 refine bp g λ_ g=>?_
 iterate 2 (refine yX g aV.aE λx _ _ g=>?_)
 refine yc g (o.a.amX _ _) λy g=>?_;refine aQ g λ_ g=>?_;exact yk (yN _ n ⟨by omega,g⟩)
theorem alC {n} (o:Of n):YF (BC (Gf n)):=by
 intro a0 a1 r g;rw[BC]at g;refine yw func120 ntmps120 ?_
 iterate 3 (refine bp g λ_ g=>?_)
 refine yc g (o.a.YE _ _) λy g=>?_;refine bp g λ_ g=>?_;refine yc g (o.a.aeD _ _) λy g=>?_;refine bp g λ_ g=>?_;refine yc g (o.a.aeE _ _) λy g=>?_;cases g;exact zl
theorem aew {n} (o:Of n):Tt (yV (Gf n)):=by
 intro a0 a1 r g;rw[yV]at g;refine yw func171 ntmps171 ?_;refine aQ g λ_ g=>?_;refine yk<|yL (S:=Int) (G:=λm s=>te (Gf m) a0 a1 s) (s0:=0) 0 [1,2,6,15,16] [17] (λs=>[(17,.d (.v (.int .i64 s)))]) (λs=>[]) g ?_;rintro n s2 _ g;change tf (Gf n) a0 a1 s2=_ at g;rw[tf]at g;refine yz ?_
 refine bp g λ_ g=>?_
 iterate 2 (refine yX g ai.aE λx _ _ g=>?_)
 refine yc g (o.a.YG _ _) λy g=>?_;refine aQ g λ_ g=>?_;exact yk (yN _ n ⟨by omega,g⟩)
theorem w81 {n} (o:Of n):C81 (CY (Gf n)):=by
 intro a0 a1 r g;rw[CY]at g;refine yw func81 ntmps81 ?_;refine bp g λ_ g=>?_;refine yc g (o.a.YG _ _) λy g=>?_;cases g;exact zl
/-(*plexus.types.elaborator).expr-/
theorem w78 {n} (o:Of n):C78 (CS (Gf n)):=by
 intro a0 a1 a2 r g;rw[CS]at g;refine yw func78 ntmps78 ?_;refine yp g (o.a.amY _ _ _) λy g=>?_;refine yc g (o.a.Oi _) λy g=>?_;refine yc g (o.a.Gx _) λy g=>?_;refine bp g λ_ g=>?_;refine yc g (o.a.PD _ _) λy g=>?_;refine bp g λ_ g=>?_;exact yP g (o.a.gB _ _)
/-(*plexus.types.elaborator).any-/
theorem alD {n} (o:Of n):YH (BK (Gf n)):=by
 intro a0 a1 a2 r g;rw[BK]at g;refine yw func116 ntmps116 ?_
 iterate 3 (refine yc g (o.a.jw _) λy g=>?_)
 iterate 4 (refine aQ g λ_ g=>?_)
 refine aA g ?_ ?_<;>intro _ g;refine yc g (o.a.ac9 _ _) λy g=>?_;refine aA g ?_ ?_<;>intro _ g;exact yP g (o.a.gB _ _);refine yX g TParam.aE λx _ _ g=>?_;refine yc g (o.a.jw _) λy g=>?_;cases g;exact yj;refine aA g ?_ ?_<;>intro _ g;refine yc g (o.a.kh _) λy g=>?_;cases g;exact yj
 iterate 2 (refine aA g ?_ ?_<;>intro _ g)
 exact yP g (o.a.gB _ _);refine yc g (o.a.Gx _) λy g=>?_;refine bp g λ_ g=>?_;exact yP g (o.a.gB _ _)
 iterate 2 (refine aA g ?_ ?_<;>intro _ g;refine yp g (o.a.Ch _ _ _ _ _ _) λy g=>?_;cases g;exact zl)
 refine aA g ?_ ?_<;>intro _ g;refine yo [] (tk [0,3,6,9,12,15,18,22,24,27,31]) [] ?_
 iterate 3 (refine yt zp ?_)
 obtain⟨x,w,j,g⟩:=cE g;refine yu zp (yi j (aH.aE w)) ?_
 iterate 2 (refine yt zp ?_)
 refine yq g (o.a.dY _ _ _) zp λy g=>?_
 iterate 3 (refine yt zp ?_)
 cases g;exact yj
 iterate 2 (refine aA g ?_ ?_<;>intro _ g;refine yp g (o.a.Ch _ _ _ _ _ _) λy g=>?_;cases g;exact zl)
 refine aA g ?_ ?_<;>intro _ g;refine yo [0,1,2,3,4] (tk [16,19]) [] ?_;obtain⟨y,z,g⟩:=bx g (o.a.jw _);refine yl (yC z) ?_;refine yq g (o.a.Ch _ _ _ _ _ _) zp λy g=>?_
 iterate 2 (cases g;exact zl;refine aA g ?_ ?_<;>intro _ g;refine yp g (o.a.Ch _ _ _ _ _ _) λy g=>?_)
 cases g;exact zl;refine aA g ?_ ?_<;>intro _ g;refine yp g (o.a.amZ _ _ _) λy g=>?_;cases g;exact zl;refine yp g (o.a.am0 _ _ _) λy g=>?_;cases g;exact zl
/-(*plexus.types.elaborator).pair-/
theorem alE {n} (o:Of n):YI (Bm (Gf n)):=by
 intro a0 a1 a2 a3 a4 a5 r g;rw[Bm]at g;refine yw func163 ntmps163 ?_
 iterate 2 (refine yo [] (tk [0,3,6,9,12,15,19,25]) [7] ?_;obtain⟨x,w,j,g⟩:=cE g;refine yu zp (yi j (aH.aE w)) ?_;(iterate 2 (refine yt zp ?_));refine yq g (o.a.dY _ _ _) zp λy g=>?_;refine yt zp ?_)
 cases g;exact yj
/-(*plexus.types.elaborator).call-/
set_option maxHeartbeats 0 in
theorem alF {n} (o:Of n):YJ (BL (Gf n)):=by
 intro a0 a1 a2 r g;rw[BL]at g;refine yw func164 ntmps164 ?_;refine yc g (o.a.am1 _) λy g=>?_
 iterate 2 (refine aA g ?_ ?_<;>intro _ g)
 exact yP g (o.a.gB _ _)
 iterate 2 (refine aA g ?_ ?_<;>intro _ g;refine yf g (o.a.l5 _ _ _) λy g=>?_;refine yo [0,1,2,3,4,5] [(6,.one)] [] ?_;refine yY g aH.aE λx _ _ g=>?_;obtain⟨y,z,g⟩:=bx g (o.a.jw _);refine yl (yC z) ?_;refine yk<|au.gK (rs:=_) rfl (λ_=>aI.nil) rfl rfl rfl rfl func222 rfl zk rfl ntmps222 rfl rfl (yz ?_);refine yo [] (tk [0,3,6,9,12,18,21,16,25,27,33,32,37]) [] ?_;(iterate 5 (refine yt zp ?_));refine yq g (o.a.dY _ _ _) zp λy g=>?_;obtain⟨k,g⟩:=bL g;refine yk<|au.pr 9 zp rfl rfl rfl rfl rfl rfl rfl rfl rfl rfl rfl rfl rfl (zo k) (yz ?_);obtain⟨x,w,j,g⟩:=cE g;refine yU zp (yr j w) ?_;refine yt (eF j w) ?_;refine lC (Int.toNat 0) 0 (ab.aE w) j w ?_;cases g;exact yj)
 refine aA g ?_ ?_<;>intro _ g;refine yf g (o.a.l5 _ _ _) λy g=>?_;refine Ok.stuck aU ?_;refine au.gH 5 11 32 12 7 rfl rfl rfl ?_;refine yL (S:=Int×(List ab)) (G:=λm s=>Fc (Gf m) a0 a1 a2 s.1 s.2) (s0:=(0,[])) 8 [6,10,11,76,77] [78] (λs=>[(78,.d (.v (.int .i64 s.1)))]) (λs=>[(7,.row 32 12 (ab.rows s.2)),(5,.box [.d (.v (.int .i64 23)),.d (.v (.int .i64 a2.a6)),.d (.v (.int .i64 a2.aJ.Kind)),.d (.v (.int .i64 a2.aJ.Lo)),.d (.v (.int .i64 a2.aJ.Hi)),.d (.sl 1 (aG a2.aJ.Names)),.d (.sl 6 (ai.rows a2.aJ.ak)),.d (.sl 2 (aV.rows a2.aJ.bI)),.d (.v (.int .i64 0)),.d (.v (.string ⟨⟨([])⟩⟩)),.d (.v (.int .i64 0)),.os 7 (ab.rows s.2).length])]) g ?_;rintro n ⟨s25,s37⟩ _ g;change Ju (Gf n) a0 a1 a2 s25 s37=_ at g;rw[Ju]at g;refine yz ?_;refine bp g λ_ g=>?_;refine yX g aH.aE λx _ _ g=>?_;refine yk<|au.inl (rs:=_) rfl func222 rfl zk rfl ntmps222 rfl rfl (yz ?_)
 refine yo [] (tk [0,3,6,9,12,18,21,16,25,27,33,32,37]) [] ?_
 iterate 5 (refine yt zp ?_)
 refine yq g (o.a.dY _ _ _) zp λy g=>?_;obtain⟨k,g⟩:=bL g;refine yk<|au.eG (rows2:=(ab.rows ([ab.z]))) zp rfl rfl rfl rfl rfl zg rfl zi rfl rfl (ab.cv _) rfl rfl (zo k) (yz ?_)
 obtain⟨x,w,j,g⟩:=cE g;refine yU zp (yr j w) ?_;refine yt (eF j w) ?_;refine lC ((↑(ab.rows s37).length:Int).toNat) 0 (ab.aE w) j w ?_;obtain⟨x,w,j,g⟩:=cE g;refine yv (yr j w) ?_;refine yv (ym ((IntKind.i64.wrap ((↑(ab.rows s37++ab.rows [ab.z]).length:Int)-1)).toNat) 1 (ab.aE w)) ?_
 iterate 2 (refine aA g ?_ ?_<;>intro _ g)
 exact yP g (o.a.gB _ _)
 iterate 2 (exact yk (yN (_,_) n ⟨by omega,g⟩))
 refine aA g ?_ ?_<;>intro _ g;refine yf g (o.a.l5 _ _ _) λy g=>?_;refine Ok.stuck aU ?_;refine au.gH 5 11 32 12 7 rfl rfl rfl ?_;refine yL (S:=Int×(List ab)) (G:=λm s=>Jx (Gf m) a0 a1 a2 s.1 s.2) (s0:=(0,[])) 8 [6,9,10,11,114,115] [116] (λs=>[(116,.d (.v (.int .i64 s.1)))]) (λs=>[(7,.row 32 12 (ab.rows s.2)),(5,.box [.d (.v (.int .i64 24)),.d (.v (.int .i64 a2.a6)),.d (.v (.int .i64 a2.aJ.Kind)),.d (.v (.int .i64 a2.aJ.Lo)),.d (.v (.int .i64 a2.aJ.Hi)),.d (.sl 1 (aG a2.aJ.Names)),.d (.sl 6 (ai.rows a2.aJ.ak)),.d (.sl 2 (aV.rows a2.aJ.bI)),.d (.v (.int .i64 0)),.d (.v (.string ⟨⟨([])⟩⟩)),.d (.v (.int .i64 0)),.os 7 (ab.rows s.2).length])]) g ?_;rintro n ⟨s52,s64⟩ _ g;change Jv (Gf n) a0 a1 a2 s52 s64=_ at g;rw[Jv]at g;refine yz ?_;refine bp g λ_ g=>?_;refine yX g aH.aE λx _ _ g=>?_;refine yo [0,1,2,3,4,5] [(6,.one)] [] ?_;refine yY g aH.aE λx _ _ g=>?_;obtain⟨y,z,g⟩:=bx g (o.a.jw _);refine yl (yC z) ?_;refine yk<|au.gK (rs:=_) rfl (λ_=>aI.nil) rfl rfl rfl rfl func222 rfl zk rfl ntmps222 rfl rfl (yz ?_)
 refine yo [] (tk [0,3,6,9,12,18,21,16,25,27,33,32,37]) [] ?_
 iterate 5 (refine yt zp ?_)
 refine yq g (o.a.dY _ _ _) zp λy g=>?_;obtain⟨k,g⟩:=bL g;refine yk<|au.eG (rows2:=(ab.rows ([ab.z]))) zp rfl rfl rfl rfl rfl zg rfl zi rfl rfl (ab.cv _) rfl rfl (zo k) (yz ?_)
 obtain⟨x,w,j,g⟩:=cE g;refine yU zp (yr j w) ?_;refine yt (eF j w) ?_;refine lC ((↑(ab.rows s64).length:Int).toNat) 0 (ab.aE w) j w ?_;refine yo [0,1,2,3,4,5,6,7,8,9] [(10,.one)] [] ?_;refine yY g aH.aE λx _ _ g=>?_;refine yY g ai.aE λx _ _ g=>?_;obtain⟨y,z,g⟩:=bx g (o.a.kh _);refine yl (yC z) ?_;refine yk<|au.gK (rs:=_) rfl (λ_=>aI.nil) rfl rfl rfl rfl func222 rfl zk rfl ntmps222 rfl rfl (yz ?_)
 refine yo [] (tk [0,3,6,9,12,18,21,16,25,27,33,32,37]) [] ?_
 iterate 5 (refine yt (eF j w) ?_)
 refine yq g (o.a.dY _ _ _) (eF j w) λy g=>?_;obtain⟨k,g⟩:=bL g;refine yk<|au.eG (rows2:=(ab.rows ([ab.z]))) (by repeat(first|exact aI.nil|refine aI.cons rfl (bh.eb (cl:=false) rfl aU) ?_|refine aI.skip rfl ?_|refine aI.cons rfl (yr j w) ?_|refine aI.cons rfl (eS (cl:=false) rfl aU) ?_)) rfl rfl rfl rfl rfl zg rfl zi rfl rfl (ab.cv _) rfl rfl (zo k) (yz ?_)
 obtain⟨x,q,j1h,g⟩:=cE g;refine yU zp (yr j1h q) ?_;refine yt (lB j w j1h q) ?_;refine xl ((↑(ab.rows s64++ab.rows [ab.z]).length:Int).toNat) 0 (ab.aE q) j w j1h q ?_;exact yk (yN (_,_) n ⟨by omega,g⟩);refine aA g ?_ ?_<;>intro _ g;refine yf g (o.a.l5 _ _ _) λy g=>?_;refine yp g (o.a.YK _ _ _) λy g=>?_;cases g;exact zl;refine aA g ?_ ?_<;>intro _ g;refine yf g (o.a.l5 _ _ _) λy g=>?_;refine yo [0,1,2,3,4,5,6,7,8,9] [(10,.one)] [] ?_;refine yY g aH.aE λx _ _ g=>?_;refine yY g ai.aE λx _ _ g=>?_;obtain⟨y,z,g⟩:=bx g (o.a.kh _);refine yl (yC z) ?_;refine yk<|au.gK (rs:=_) rfl (λ_=>aI.nil) rfl rfl rfl rfl func222 rfl zk rfl ntmps222 rfl rfl (yz ?_)
 refine yo [] (tk [0,3,6,9,12,18,21,16,25,27,33,32,37]) [] ?_
 iterate 5 (refine yt zp ?_)
 refine yq g (o.a.dY _ _ _) zp λy g=>?_;obtain⟨k,g⟩:=bL g;refine yk<|au.pr 9 zp rfl rfl rfl rfl rfl rfl rfl rfl rfl rfl rfl rfl rfl (zo k) (yz ?_)
 obtain⟨x,w,j,g⟩:=cE g;refine yU zp (yr j w) ?_;refine yt (eF j w) ?_;refine lC (Int.toNat 0) 0 (ab.aE w) j w ?_;refine yo [0,1,2,3,4,5,6,7,8,9] [(10,.one)] [] ?_;refine yY g aH.aE λx _ _ g=>?_;refine yY g ai.aE λx _ _ g=>?_;obtain⟨y,z,g⟩:=bx g (o.a.kh _);refine yl (yC z) ?_;refine yk<|au.gK (rs:=_) rfl (λ_=>aI.nil) rfl rfl rfl rfl func222 rfl zk rfl ntmps222 rfl rfl (yz ?_)
 refine yo [] (tk [0,3,6,9,12,18,21,16,25,27,33,32,37]) [] ?_
 iterate 5 (refine yt (eF j w) ?_)
 refine yq g (o.a.dY _ _ _) (eF j w) λy g=>?_;obtain⟨k,g⟩:=bL g;refine yk<|au.eG (rows2:=(ab.rows ([ab.z]))) (by repeat(first|exact aI.nil|refine aI.cons rfl (bh.eb (cl:=false) rfl aU) ?_|refine aI.skip rfl ?_|refine aI.cons rfl (yr j w) ?_|refine aI.cons rfl (eS (cl:=false) rfl aU) ?_)) rfl rfl rfl rfl rfl zg rfl zi rfl rfl (ab.cv _) rfl rfl (zo k) (yz ?_)
 obtain⟨x,q,j1h,g⟩:=cE g;refine yU zp (yr j1h q) ?_;refine yt (lB j w j1h q) ?_;refine xl (Int.toNat 1) 0 (ab.aE q) j w j1h q ?_;cases g;exact yj;refine aA g ?_ ?_<;>intro _ g;refine yf g (o.a.l5 _ _ _) λy g=>?_;refine yo [0,1,2,3,4,5] [(6,.one)] [] ?_;refine yY g aH.aE λx _ _ g=>?_;obtain⟨y,z,g⟩:=bx g (o.a.jw _);refine yl (yC z) ?_;refine yk<|au.gK (rs:=_) rfl (λ_=>aI.nil) rfl rfl rfl rfl func222 rfl zk rfl ntmps222 rfl rfl (yz ?_)
 refine yo [] (tk [0,3,6,9,12,18,21,16,25,27,33,32,37]) [] ?_
 iterate 5 (refine yt zp ?_)
 refine yq g (o.a.dY _ _ _) zp λy g=>?_;obtain⟨k,g⟩:=bL g;refine yk<|au.pr 9 zp rfl rfl rfl rfl rfl rfl rfl rfl rfl rfl rfl rfl rfl (zo k) (yz ?_)
 obtain⟨x,w,j,g⟩:=cE g;refine yU zp (yr j w) ?_;refine yt (eF j w) ?_;refine lC (Int.toNat 0) 0 (ab.aE w) j w ?_;cases g;exact yj;refine aA g ?_ ?_<;>intro _ g;refine yc g (o.a.kh _) λy g=>?_;refine yo [0,1,2,3,4,5,6] [(7,.one)] [] ?_;refine yY g aH.aE λx _ _ g=>?_;refine yk<|au.gK (rs:=_) rfl (λ_=>aI.nil) rfl rfl rfl rfl func222 rfl zk rfl ntmps222 rfl rfl (yz ?_)
 refine yo [] (tk [0,3,6,9,12,18,21,16,25,27,33,32,37]) [] ?_
 iterate 5 (refine yt zp ?_)
 refine yq g (o.a.dY _ _ _) zp λy g=>?_;obtain⟨k,g⟩:=bL g;refine yk<|au.pr 8 zp rfl rfl rfl rfl rfl rfl rfl rfl rfl rfl rfl rfl rfl (zo k) (yz ?_)
 obtain⟨x,w,j,g⟩:=cE g;refine yU zp (yr j w) ?_;refine yt (eF j w) ?_;refine lC (Int.toNat 0) 0 (ab.aE w) j w ?_;refine yo [0,1,2,3,4,5] [(6,.one)] [] ?_;refine yY g aH.aE λx _ _ g=>?_;obtain⟨y,z,g⟩:=bx g (o.a.jw _);refine yl (yC z) ?_;refine yk<|au.gK (rs:=_) rfl (λ_=>aI.nil) rfl rfl rfl rfl func222 rfl zk rfl ntmps222 rfl rfl (yz ?_)
 refine yo [] (tk [0,3,6,9,12,18,21,16,25,27,33,32,37]) [] ?_
 iterate 5 (refine yt (eF j w) ?_)
 refine yq g (o.a.dY _ _ _) (eF j w) λy g=>?_;obtain⟨k,g⟩:=bL g;refine yk<|au.eG (rows2:=(ab.rows ([ab.z]))) (by repeat(first|exact aI.nil|refine aI.cons rfl (bh.eb (cl:=false) rfl aU) ?_|refine aI.skip rfl ?_|refine aI.cons rfl (yr j w) ?_|refine aI.cons rfl (eS (cl:=false) rfl aU) ?_)) rfl rfl rfl rfl rfl zg rfl zi rfl rfl (ab.cv _) rfl rfl (zo k) (yz ?_)
 obtain⟨x,q,j1h,g⟩:=cE g;refine yU zp (yr j1h q) ?_;refine yt (lB j w j1h q) ?_;refine xl (Int.toNat 1) 0 (ab.aE q) j w j1h q ?_;refine yo [0,1,2,3,4,5] [(6,.one)] [] ?_;refine yY g aH.aE λx _ _ g=>?_;obtain⟨y,z,g⟩:=bx g (o.a.jw _);refine yl (yC z) ?_;refine yk<|au.gK (rs:=_) rfl (λ_=>aI.nil) rfl rfl rfl rfl func222 rfl zk rfl ntmps222 rfl rfl (yz ?_)
 refine yo [] (tk [0,3,6,9,12,18,21,16,25,27,33,32,37]) [] ?_
 iterate 5 (refine yt (lB j w j1h q) ?_)
 refine yq g (o.a.dY _ _ _) (lB j w j1h q) λy g=>?_;obtain⟨k,g⟩:=bL g;refine yk<|au.eG (rows2:=(ab.rows ([ab.z]))) (by repeat(first|exact aI.nil|refine aI.cons rfl (bh.eb (cl:=false) rfl aU) ?_|refine aI.skip rfl ?_|refine aI.cons rfl (yr j w) ?_|refine aI.cons rfl (yr j1h q) ?_|refine aI.cons rfl (eS (cl:=false) rfl aU) ?_)) rfl rfl rfl rfl rfl zg rfl zi rfl rfl (ab.cv _) rfl rfl (zo k) (yz ?_)
 obtain⟨x,ex2,j2h,g⟩:=cE g;refine yU zp (yr j2h ex2) ?_;refine yt (Z' j w j1h q j2h ex2) ?_;refine yk<|au.El (Int.toNat 2) 0 (by repeat(first|exact aI.nil|refine aI.cons rfl (bh.eb (cl:=false) rfl aU) ?_|refine aI.skip rfl ?_|refine aI.cons rfl (yr j w) ?_|refine aI.cons rfl (yr j1h q) ?_|refine aI.cons rfl (yr j2h ex2) ?_|refine aI.cons rfl (eS (cl:=false) rfl aU) ?_)) (by rfl) (by rfl) (by rfl) (by rfl) (by rfl) (by rfl) (by rfl) (by rfl) (by rfl) (by rfl) (yg (ab.aE ex2)) (by rfl) (by rfl) (by rfl) (by rfl) (by rfl) (by rfl) (by rfl) (by rfl) (by rfl) (by rfl) (by rfl) (by rfl) (by rfl) (by rfl) (by rfl) (by repeat(first|exact aI.nil|refine aI.cons rfl (bh.eb (cl:=false) rfl aU) ?_|refine aI.skip rfl ?_|refine aI.cons rfl (yr j w) ?_|refine aI.cons rfl (yr j1h q) ?_|refine aI.cons rfl (yr j2h ex2) ?_|refine aI.cons rfl (eS (cl:=false) rfl aU) ?_)) (by repeat(first|exact aI.nil|refine aI.cons rfl (bh.eb (cl:=false) rfl aU) ?_|refine aI.skip rfl ?_|refine aI.cons rfl (yr j w) ?_|refine aI.cons rfl (yr j1h q) ?_|refine aI.cons rfl (yr j2h ex2) ?_|refine aI.cons rfl (eS (cl:=false) rfl aU) ?_)) (yz ?_)
 cases g;exact yj;refine yp g (o.a.YL _ _) λy g=>?_;cases g;exact zl
 iterate 2 (refine aA g ?_ ?_<;>intro _ g;refine yf g (o.a.l5 _ _ _) λy g=>?_;refine yo [0,1,2,3,4,5] [(6,.one)] [] ?_;refine yY g aH.aE λx _ _ g=>?_;obtain⟨y,z,g⟩:=bx g (o.a.jw _);refine yl (yC z) ?_;refine yk<|au.gK (rs:=_) rfl (λ_=>aI.nil) rfl rfl rfl rfl func222 rfl zk rfl ntmps222 rfl rfl (yz ?_);refine yo [] (tk [0,3,6,9,12,18,21,16,25,27,33,32,37]) [] ?_;(iterate 5 (refine yt zp ?_));refine yq g (o.a.dY _ _ _) zp λy g=>?_;obtain⟨k,g⟩:=bL g;refine yk<|au.pr 9 zp rfl rfl rfl rfl rfl rfl rfl rfl rfl rfl rfl rfl rfl (zo k) (yz ?_);obtain⟨x,w,j,g⟩:=cE g;refine yU zp (yr j w) ?_;refine yt (eF j w) ?_;refine lC (Int.toNat 0) 0 (ab.aE w) j w ?_;cases g;exact yj)
 refine aA g ?_ ?_<;>intro _ g;refine yf g (o.a.l5 _ _ _) λy g=>?_;refine Ok.stuck aU ?_;refine au.gH 5 11 32 12 7 rfl rfl rfl ?_;refine yL (S:=Int×(List ab)) (G:=λm s=>nz (Gf m) a0 a1 a2 s.1 s.2) (s0:=(0,[])) 8 [6,10,11,76,77] [78] (λs=>[(78,.d (.v (.int .i64 s.1)))]) (λs=>[(7,.row 32 12 (ab.rows s.2)),(5,.box [.d (.v (.int .i64 23)),.d (.v (.int .i64 a2.a6)),.d (.v (.int .i64 a2.aJ.Kind)),.d (.v (.int .i64 a2.aJ.Lo)),.d (.v (.int .i64 a2.aJ.Hi)),.d (.sl 1 (aG a2.aJ.Names)),.d (.sl 6 (ai.rows a2.aJ.ak)),.d (.sl 2 (aV.rows a2.aJ.bI)),.d (.v (.int .i64 0)),.d (.v (.string ⟨⟨([])⟩⟩)),.d (.v (.int .i64 0)),.os 7 (ab.rows s.2).length])]) g ?_;rintro n ⟨s159,s171⟩ _ g;change uS (Gf n) a0 a1 a2 s159 s171=_ at g;rw[uS]at g;refine yz ?_;refine bp g λ_ g=>?_;refine yX g aH.aE λx _ _ g=>?_;refine yk<|au.inl (rs:=_) rfl func222 rfl zk rfl ntmps222 rfl rfl (yz ?_)
 refine yo [] (tk [0,3,6,9,12,18,21,16,25,27,33,32,37]) [] ?_
 iterate 5 (refine yt zp ?_)
 refine yq g (o.a.dY _ _ _) zp λy g=>?_;obtain⟨k,g⟩:=bL g;refine yk<|au.eG (rows2:=(ab.rows ([ab.z]))) zp rfl rfl rfl rfl rfl zg rfl zi rfl rfl (ab.cv _) rfl rfl (zo k) (yz ?_)
 obtain⟨x,w,j,g⟩:=cE g;refine yU zp (yr j w) ?_;refine yt (eF j w) ?_;refine lC ((↑(ab.rows s171).length:Int).toNat) 0 (ab.aE w) j w ?_;obtain⟨x,w,j,g⟩:=cE g;refine yv (yr j w) ?_;refine yv (ym ((IntKind.i64.wrap ((↑(ab.rows s171++ab.rows [ab.z]).length:Int)-1)).toNat) 1 (ab.aE w)) ?_
 iterate 2 (refine aA g ?_ ?_<;>intro _ g)
 exact yP g (o.a.gB _ _)
 iterate 2 (exact yk (yN (_,_) n ⟨by omega,g⟩))
 refine aA g ?_ ?_<;>intro _ g;refine yf g (o.a.l5 _ _ _) λy g=>?_;refine Ok.stuck aU ?_;refine au.gH 5 11 32 12 7 rfl rfl rfl ?_;refine yL (S:=Int×(List ab)) (G:=λm s=>pJ (Gf m) a0 a1 a2 s.1 s.2) (s0:=(0,[])) 8 [6,9,10,11,114,115] [116] (λs=>[(116,.d (.v (.int .i64 s.1)))]) (λs=>[(7,.row 32 12 (ab.rows s.2)),(5,.box [.d (.v (.int .i64 24)),.d (.v (.int .i64 a2.a6)),.d (.v (.int .i64 a2.aJ.Kind)),.d (.v (.int .i64 a2.aJ.Lo)),.d (.v (.int .i64 a2.aJ.Hi)),.d (.sl 1 (aG a2.aJ.Names)),.d (.sl 6 (ai.rows a2.aJ.ak)),.d (.sl 2 (aV.rows a2.aJ.bI)),.d (.v (.int .i64 0)),.d (.v (.string ⟨⟨([])⟩⟩)),.d (.v (.int .i64 0)),.os 7 (ab.rows s.2).length])]) g ?_;rintro n ⟨s186,s198⟩ _ g;change uT (Gf n) a0 a1 a2 s186 s198=_ at g;rw[uT]at g;refine yz ?_;refine bp g λ_ g=>?_;refine yX g aH.aE λx _ _ g=>?_;refine yo [0,1,2,3,4,5] [(6,.one)] [] ?_;refine yY g aH.aE λx _ _ g=>?_;obtain⟨y,z,g⟩:=bx g (o.a.jw _);refine yl (yC z) ?_;refine yk<|au.gK (rs:=_) rfl (λ_=>aI.nil) rfl rfl rfl rfl func222 rfl zk rfl ntmps222 rfl rfl (yz ?_)
 refine yo [] (tk [0,3,6,9,12,18,21,16,25,27,33,32,37]) [] ?_
 iterate 5 (refine yt zp ?_)
 refine yq g (o.a.dY _ _ _) zp λy g=>?_;obtain⟨k,g⟩:=bL g;refine yk<|au.eG (rows2:=(ab.rows ([ab.z]))) zp rfl rfl rfl rfl rfl zg rfl zi rfl rfl (ab.cv _) rfl rfl (zo k) (yz ?_)
 obtain⟨x,w,j,g⟩:=cE g;refine yU zp (yr j w) ?_;refine yt (eF j w) ?_;refine lC ((↑(ab.rows s198).length:Int).toNat) 0 (ab.aE w) j w ?_;refine yo [0,1,2,3,4,5,6,7,8,9] [(10,.one)] [] ?_;refine yY g aH.aE λx _ _ g=>?_;refine yY g ai.aE λx _ _ g=>?_;obtain⟨y,z,g⟩:=bx g (o.a.kh _);refine yl (yC z) ?_;refine yk<|au.gK (rs:=_) rfl (λ_=>aI.nil) rfl rfl rfl rfl func222 rfl zk rfl ntmps222 rfl rfl (yz ?_)
 refine yo [] (tk [0,3,6,9,12,18,21,16,25,27,33,32,37]) [] ?_
 iterate 5 (refine yt (eF j w) ?_)
 refine yq g (o.a.dY _ _ _) (eF j w) λy g=>?_;obtain⟨k,g⟩:=bL g;refine yk<|au.eG (rows2:=(ab.rows ([ab.z]))) (by repeat(first|exact aI.nil|refine aI.cons rfl (bh.eb (cl:=false) rfl aU) ?_|refine aI.skip rfl ?_|refine aI.cons rfl (yr j w) ?_|refine aI.cons rfl (eS (cl:=false) rfl aU) ?_)) rfl rfl rfl rfl rfl zg rfl zi rfl rfl (ab.cv _) rfl rfl (zo k) (yz ?_)
 obtain⟨x,q,j1h,g⟩:=cE g;refine yU zp (yr j1h q) ?_;refine yt (lB j w j1h q) ?_;refine xl ((↑(ab.rows s198++ab.rows [ab.z]).length:Int).toNat) 0 (ab.aE q) j w j1h q ?_;exact yk (yN (_,_) n ⟨by omega,g⟩);refine aA g ?_ ?_<;>intro _ g;refine yf g (o.a.l5 _ _ _) λy g=>?_;refine yp g (o.a.YK _ _ _) λy g=>?_;cases g;exact zl;refine aA g ?_ ?_<;>intro _ g;refine yf g (o.a.l5 _ _ _) λy g=>?_;refine yo [0,1,2,3,4,5,6,7,8,9] [(10,.one)] [] ?_;refine yY g aH.aE λx _ _ g=>?_;refine yY g ai.aE λx _ _ g=>?_;obtain⟨y,z,g⟩:=bx g (o.a.kh _);refine yl (yC z) ?_;refine yk<|au.gK (rs:=_) rfl (λ_=>aI.nil) rfl rfl rfl rfl func222 rfl zk rfl ntmps222 rfl rfl (yz ?_)
 refine yo [] (tk [0,3,6,9,12,18,21,16,25,27,33,32,37]) [] ?_
 iterate 5 (refine yt zp ?_)
 refine yq g (o.a.dY _ _ _) zp λy g=>?_;obtain⟨k,g⟩:=bL g;refine yk<|au.pr 9 zp rfl rfl rfl rfl rfl rfl rfl rfl rfl rfl rfl rfl rfl (zo k) (yz ?_)
 obtain⟨x,w,j,g⟩:=cE g;refine yU zp (yr j w) ?_;refine yt (eF j w) ?_;refine lC (Int.toNat 0) 0 (ab.aE w) j w ?_;refine yo [0,1,2,3,4,5,6,7,8,9] [(10,.one)] [] ?_;refine yY g aH.aE λx _ _ g=>?_;refine yY g ai.aE λx _ _ g=>?_;obtain⟨y,z,g⟩:=bx g (o.a.kh _);refine yl (yC z) ?_;refine yk<|au.gK (rs:=_) rfl (λ_=>aI.nil) rfl rfl rfl rfl func222 rfl zk rfl ntmps222 rfl rfl (yz ?_)
 refine yo [] (tk [0,3,6,9,12,18,21,16,25,27,33,32,37]) [] ?_
 iterate 5 (refine yt (eF j w) ?_)
 refine yq g (o.a.dY _ _ _) (eF j w) λy g=>?_;obtain⟨k,g⟩:=bL g;refine yk<|au.eG (rows2:=(ab.rows ([ab.z]))) (by repeat(first|exact aI.nil|refine aI.cons rfl (bh.eb (cl:=false) rfl aU) ?_|refine aI.skip rfl ?_|refine aI.cons rfl (yr j w) ?_|refine aI.cons rfl (eS (cl:=false) rfl aU) ?_)) rfl rfl rfl rfl rfl zg rfl zi rfl rfl (ab.cv _) rfl rfl (zo k) (yz ?_)
 obtain⟨x,q,j1h,g⟩:=cE g;refine yU zp (yr j1h q) ?_;refine yt (lB j w j1h q) ?_;refine xl (Int.toNat 1) 0 (ab.aE q) j w j1h q ?_;cases g;exact yj;refine aA g ?_ ?_<;>intro _ g;refine yf g (o.a.l5 _ _ _) λy g=>?_;refine yo [0,1,2,3,4,5] [(6,.one)] [] ?_;refine yY g aH.aE λx _ _ g=>?_;obtain⟨y,z,g⟩:=bx g (o.a.jw _);refine yl (yC z) ?_;refine yk<|au.gK (rs:=_) rfl (λ_=>aI.nil) rfl rfl rfl rfl func222 rfl zk rfl ntmps222 rfl rfl (yz ?_)
 refine yo [] (tk [0,3,6,9,12,18,21,16,25,27,33,32,37]) [] ?_
 iterate 5 (refine yt zp ?_)
 refine yq g (o.a.dY _ _ _) zp λy g=>?_;obtain⟨k,g⟩:=bL g;refine yk<|au.pr 9 zp rfl rfl rfl rfl rfl rfl rfl rfl rfl rfl rfl rfl rfl (zo k) (yz ?_)
 obtain⟨x,w,j,g⟩:=cE g;refine yU zp (yr j w) ?_;refine yt (eF j w) ?_;refine lC (Int.toNat 0) 0 (ab.aE w) j w ?_;cases g;exact yj;refine aA g ?_ ?_<;>intro _ g;refine yc g (o.a.kh _) λy g=>?_;refine yo [0,1,2,3,4,5,6] [(7,.one)] [] ?_;refine yY g aH.aE λx _ _ g=>?_;refine yk<|au.gK (rs:=_) rfl (λ_=>aI.nil) rfl rfl rfl rfl func222 rfl zk rfl ntmps222 rfl rfl (yz ?_)
 refine yo [] (tk [0,3,6,9,12,18,21,16,25,27,33,32,37]) [] ?_
 iterate 5 (refine yt zp ?_)
 refine yq g (o.a.dY _ _ _) zp λy g=>?_;obtain⟨k,g⟩:=bL g;refine yk<|au.pr 8 zp rfl rfl rfl rfl rfl rfl rfl rfl rfl rfl rfl rfl rfl (zo k) (yz ?_)
 obtain⟨x,w,j,g⟩:=cE g;refine yU zp (yr j w) ?_;refine yt (eF j w) ?_;refine lC (Int.toNat 0) 0 (ab.aE w) j w ?_;refine yo [0,1,2,3,4,5] [(6,.one)] [] ?_;refine yY g aH.aE λx _ _ g=>?_;obtain⟨y,z,g⟩:=bx g (o.a.jw _);refine yl (yC z) ?_;refine yk<|au.gK (rs:=_) rfl (λ_=>aI.nil) rfl rfl rfl rfl func222 rfl zk rfl ntmps222 rfl rfl (yz ?_)
 refine yo [] (tk [0,3,6,9,12,18,21,16,25,27,33,32,37]) [] ?_
 iterate 5 (refine yt (eF j w) ?_)
 refine yq g (o.a.dY _ _ _) (eF j w) λy g=>?_;obtain⟨k,g⟩:=bL g;refine yk<|au.eG (rows2:=(ab.rows ([ab.z]))) (by repeat(first|exact aI.nil|refine aI.cons rfl (bh.eb (cl:=false) rfl aU) ?_|refine aI.skip rfl ?_|refine aI.cons rfl (yr j w) ?_|refine aI.cons rfl (eS (cl:=false) rfl aU) ?_)) rfl rfl rfl rfl rfl zg rfl zi rfl rfl (ab.cv _) rfl rfl (zo k) (yz ?_)
 obtain⟨x,q,j1h,g⟩:=cE g;refine yU zp (yr j1h q) ?_;refine yt (lB j w j1h q) ?_;refine xl (Int.toNat 1) 0 (ab.aE q) j w j1h q ?_;refine yo [0,1,2,3,4,5] [(6,.one)] [] ?_;refine yY g aH.aE λx _ _ g=>?_;obtain⟨y,z,g⟩:=bx g (o.a.jw _);refine yl (yC z) ?_;refine yk<|au.gK (rs:=_) rfl (λ_=>aI.nil) rfl rfl rfl rfl func222 rfl zk rfl ntmps222 rfl rfl (yz ?_)
 refine yo [] (tk [0,3,6,9,12,18,21,16,25,27,33,32,37]) [] ?_
 iterate 5 (refine yt (lB j w j1h q) ?_)
 refine yq g (o.a.dY _ _ _) (lB j w j1h q) λy g=>?_;obtain⟨k,g⟩:=bL g;refine yk<|au.eG (rows2:=(ab.rows ([ab.z]))) (by repeat(first|exact aI.nil|refine aI.cons rfl (bh.eb (cl:=false) rfl aU) ?_|refine aI.skip rfl ?_|refine aI.cons rfl (yr j w) ?_|refine aI.cons rfl (yr j1h q) ?_|refine aI.cons rfl (eS (cl:=false) rfl aU) ?_)) rfl rfl rfl rfl rfl zg rfl zi rfl rfl (ab.cv _) rfl rfl (zo k) (yz ?_)
 obtain⟨x,ex2,j2h,g⟩:=cE g;refine yU zp (yr j2h ex2) ?_;refine yt (Z' j w j1h q j2h ex2) ?_;refine yk<|au.El (Int.toNat 2) 0 (by repeat(first|exact aI.nil|refine aI.cons rfl (bh.eb (cl:=false) rfl aU) ?_|refine aI.skip rfl ?_|refine aI.cons rfl (yr j w) ?_|refine aI.cons rfl (yr j1h q) ?_|refine aI.cons rfl (yr j2h ex2) ?_|refine aI.cons rfl (eS (cl:=false) rfl aU) ?_)) (by rfl) (by rfl) (by rfl) (by rfl) (by rfl) (by rfl) (by rfl) (by rfl) (by rfl) (by rfl) (yg (ab.aE ex2)) (by rfl) (by rfl) (by rfl) (by rfl) (by rfl) (by rfl) (by rfl) (by rfl) (by rfl) (by rfl) (by rfl) (by rfl) (by rfl) (by rfl) (by rfl) (by repeat(first|exact aI.nil|refine aI.cons rfl (bh.eb (cl:=false) rfl aU) ?_|refine aI.skip rfl ?_|refine aI.cons rfl (yr j w) ?_|refine aI.cons rfl (yr j1h q) ?_|refine aI.cons rfl (yr j2h ex2) ?_|refine aI.cons rfl (eS (cl:=false) rfl aU) ?_)) (by repeat(first|exact aI.nil|refine aI.cons rfl (bh.eb (cl:=false) rfl aU) ?_|refine aI.skip rfl ?_|refine aI.cons rfl (yr j w) ?_|refine aI.cons rfl (yr j1h q) ?_|refine aI.cons rfl (yr j2h ex2) ?_|refine aI.cons rfl (eS (cl:=false) rfl aU) ?_)) (yz ?_)
 cases g;exact yj;refine yp g (o.a.YL _ _) λy g=>?_;cases g;exact zl
