/- Printed by a program: what functions answer, and that they do. -/
import Derived.Test.YthlcjaanmbjcaaaGreatKG5
set_option linter.all false
set_option maxRecDepth 100000
noncomputable section
namespace Go.Proofs.YthlcjaanmbjcaaaGreat
open Go Go.Bw Go.Proofs.Tryz
/-plexus.plexuslaw21.state-/
theorem QF {n} (o:Of n):Iu (ux (Gf n)):=by
 intro a0 r g;rw[ux]at g;refine yw func11 ntmps11 ?_;cases g;exact yj
/-plexus.plexuslaw21.update-/
theorem QG {n} (o:Of n):Iv (uy (Gf n)):=by
 intro a0 r g;rw[uy]at g;refine yw func10 ntmps10 ?_;cases g;exact yj
/-plexus.lattice.when-/
theorem O6 {n} (o:Of n):Hv (qq (Gf n)):=by
 intro a0 a1 r g;rw[qq]at g;refine yw func115 ntmps115 ?_;exact eU g
/-plexus.lattice.shape-/
set_option maxHeartbeats 0 in
theorem QH {n} (o:Of n):Iw (rk (Gf n)):=by
 intro a0 r g;rw[rk]at g;refine yw func92 ntmps92 ?_;refine ay g (λh1 g=>?_) λ_ g=>?_;refine ay g (λ_ g=>?_) λ_ g=>?_
 iterate 2 (refine yF h1 ?_)
 refine yc g (o.a.bB _ _) λy3 g=>?_;cases g;exact zl;refine ay g (λ_ g=>?_) λ_ g=>?_
 iterate 2 (refine yF h1 ?_)
 refine yc g (o.a.bB _ _) λy5 g=>?_;cases g;exact zl;refine ay g (λ_ g=>?_) λ_ g=>?_
 iterate 2 (refine yF h1 ?_)
 refine yc g (o.a.bB _ _) λy7 g=>?_;cases g;exact zl;refine ay g (λ_ g=>?_) λ_ g=>?_
 iterate 2 (refine yF h1 ?_)
 refine yc g (o.a.bB _ _) λy9 g=>?_;cases g;exact zl
 iterate 2 (refine yF h1 ?_)
 refine ay g (λ_ g=>?_) λ_ g=>?_;refine yc g (o.a.bB _ _) λy11 g=>?_;cases g;exact zl;refine yc g (o.a.bB _ _) λy12 g=>?_;cases g;exact zl;refine ay g (λh13 g=>?_) λ_ g=>?_;refine ay g (λ_ g=>?_) λ_ g=>?_
 iterate 2 (refine yF h13 ?_)
 refine yc g (o.a.bB _ _) λy15 g=>?_;cases g;exact zl;refine ay g (λ_ g=>?_) λ_ g=>?_
 iterate 2 (refine yF h13 ?_)
 refine yc g (o.a.bB _ _) λy17 g=>?_;cases g;exact zl;refine ay g (λ_ g=>?_) λ_ g=>?_
 iterate 2 (refine yF h13 ?_)
 refine yc g (o.a.bB _ _) λy19 g=>?_;cases g;exact zl;refine ay g (λ_ g=>?_) λ_ g=>?_
 iterate 2 (refine yF h13 ?_)
 refine yc g (o.a.bB _ _) λy21 g=>?_;cases g;exact zl
 iterate 2 (refine yF h13 ?_)
 refine ay g (λ_ g=>?_) λ_ g=>?_;refine yc g (o.a.bB _ _) λy23 g=>?_;cases g;exact zl;refine yc g (o.a.bB _ _) λy24 g=>?_;cases g;exact zl;refine ay g (λh25 g=>?_) λ_ g=>?_;refine ay g (λ_ g=>?_) λ_ g=>?_
 iterate 2 (refine yF h25 ?_)
 refine yc g (o.a.bB _ _) λy27 g=>?_;cases g;exact zl;refine ay g (λ_ g=>?_) λ_ g=>?_
 iterate 2 (refine yF h25 ?_)
 refine yc g (o.a.bB _ _) λy29 g=>?_;cases g;exact zl;refine ay g (λ_ g=>?_) λ_ g=>?_
 iterate 2 (refine yF h25 ?_)
 refine yc g (o.a.bB _ _) λy31 g=>?_;cases g;exact zl
 iterate 2 (refine yF h25 ?_)
 refine yc g (o.a.bB _ _) λy32 g=>?_;cases g;exact zl;refine ay g (λh33 g=>?_) λ_ g=>?_;refine ay g (λ_ g=>?_) λ_ g=>?_
 iterate 2 (refine yF h33 ?_)
 refine yc g (o.a.bB _ _) λy35 g=>?_;cases g;exact zl;refine ay g (λ_ g=>?_) λ_ g=>?_
 iterate 2 (refine yF h33 ?_)
 refine yc g (o.a.bB _ _) λy37 g=>?_;cases g;exact zl;refine ay g (λ_ g=>?_) λ_ g=>?_
 iterate 2 (refine yF h33 ?_)
 refine yc g (o.a.bB _ _) λy39 g=>?_;cases g;exact zl
 iterate 2 (refine yF h33 ?_)
 refine yc g (o.a.bB _ _) λy40 g=>?_;cases g;exact zl;refine ay g (λh41 g=>?_) λ_ g=>?_;refine ay g (λ_ g=>?_) λ_ g=>?_
 iterate 2 (refine yF h41 ?_)
 refine yc g (o.a.bB _ _) λy43 g=>?_;cases g;exact zl;refine ay g (λ_ g=>?_) λ_ g=>?_
 iterate 2 (refine yF h41 ?_)
 refine yc g (o.a.bB _ _) λy45 g=>?_;cases g;exact zl;refine ay g (λ_ g=>?_) λ_ g=>?_
 iterate 2 (refine yF h41 ?_)
 refine yc g (o.a.bB _ _) λy47 g=>?_;cases g;exact zl
 iterate 2 (refine yF h41 ?_)
 refine ay g (λ_ g=>?_) λ_ g=>?_;refine yc g (o.a.bB _ _) λy49 g=>?_;cases g;exact zl;refine yc g (o.a.bB _ _) λy50 g=>?_;cases g;exact zl;refine ay g (λh51 g=>?_) λ_ g=>?_;refine ay g (λ_ g=>?_) λ_ g=>?_
 iterate 2 (refine yF h51 ?_)
 refine yc g (o.a.bB _ _) λy53 g=>?_;cases g;exact zl;refine ay g (λ_ g=>?_) λ_ g=>?_
 iterate 2 (refine yF h51 ?_)
 refine yc g (o.a.bB _ _) λy55 g=>?_;cases g;exact zl;refine ay g (λ_ g=>?_) λ_ g=>?_
 iterate 2 (refine yF h51 ?_)
 refine yc g (o.a.bB _ _) λy57 g=>?_;cases g;exact zl
 iterate 2 (refine yF h51 ?_)
 refine ay g (λ_ g=>?_) λ_ g=>?_;refine yc g (o.a.bB _ _) λy59 g=>?_;cases g;exact zl;refine yc g (o.a.bB _ _) λy60 g=>?_;cases g;exact zl;refine ay g (λh61 g=>?_) λ_ g=>?_;refine ay g (λ_ g=>?_) λ_ g=>?_
 iterate 2 (refine yF h61 ?_)
 refine yc g (o.a.bB _ _) λy63 g=>?_;cases g;exact zl;refine ay g (λ_ g=>?_) λ_ g=>?_
 iterate 2 (refine yF h61 ?_)
 refine yc g (o.a.bB _ _) λy65 g=>?_;cases g;exact zl;refine ay g (λ_ g=>?_) λ_ g=>?_
 iterate 2 (refine yF h61 ?_)
 refine yc g (o.a.bB _ _) λy67 g=>?_;cases g;exact zl
 iterate 2 (refine yF h61 ?_)
 refine ay g (λ_ g=>?_) λ_ g=>?_;refine yc g (o.a.bB _ _) λy69 g=>?_;cases g;exact zl;refine yc g (o.a.bB _ _) λy70 g=>?_;cases g;exact zl;refine ay g (λh71 g=>?_) λ_ g=>?_;refine ay g (λ_ g=>?_) λ_ g=>?_
 iterate 2 (refine yF h71 ?_)
 refine yc g (o.a.bB _ _) λy73 g=>?_;cases g;exact zl;refine ay g (λ_ g=>?_) λ_ g=>?_
 iterate 2 (refine yF h71 ?_)
 refine yc g (o.a.bB _ _) λy75 g=>?_;cases g;exact zl;refine ay g (λ_ g=>?_) λ_ g=>?_
 iterate 2 (refine yF h71 ?_)
 refine yc g (o.a.bB _ _) λy77 g=>?_;cases g;exact zl;refine ay g (λ_ g=>?_) λ_ g=>?_
 iterate 2 (refine yF h71 ?_)
 refine yc g (o.a.bB _ _) λy79 g=>?_;cases g;exact zl
 iterate 2 (refine yF h71 ?_)
 refine ay g (λ_ g=>?_) λ_ g=>?_;refine yc g (o.a.bB _ _) λy81 g=>?_;cases g;exact zl;refine yc g (o.a.bB _ _) λy82 g=>?_;cases g;exact zl;refine ay g (λh83 g=>?_) λh83 g=>?_;refine yo [0,1,2,3,4] [] [] ?_;refine ay g (λ_ g=>?_) λ_ g=>?_;refine Ok.fL h83 ?_;conv=>(arg 3;whnf)
 refine yc g (o.a.bB _ _) λy85 g=>?_;cases g;exact zl;refine ay g (λ_ g=>?_) λ_ g=>?_;refine Ok.fL h83 ?_;conv=>(arg 3;whnf)
 refine yc g (o.a.bB _ _) λy87 g=>?_;cases g;exact zl;refine ay g (λ_ g=>?_) λ_ g=>?_;refine Ok.fL h83 ?_;conv=>(arg 3;whnf)
 refine yc g (o.a.bB _ _) λy89 g=>?_;cases g;exact zl;refine Ok.fL h83 ?_;conv=>(arg 3;whnf)
 refine ay g (λ_ g=>?_) λ_ g=>?_;refine yc g (o.a.bB _ _) λy91 g=>?_;cases g;exact zl;refine yc g (o.a.bB _ _) λy92 g=>?_;cases g;exact zl;refine bc g λh93 g=>?_;refine ay g (λ_ g=>?_) λ_ g=>?_;refine Ok.fM h83 ?_;conv=>(arg 3;whnf)
 refine Ok.fL h93 ?_;conv=>(arg 3;whnf)
 refine yc g (o.a.bB _ _) λy95 g=>?_;cases g;exact zl;refine ay g (λ_ g=>?_) λ_ g=>?_;refine Ok.fM h83 ?_;conv=>(arg 3;whnf)
 refine Ok.fL h93 ?_;conv=>(arg 3;whnf)
 refine yc g (o.a.bB _ _) λy97 g=>?_;cases g;exact zl;refine Ok.fM h83 ?_;conv=>(arg 3;whnf)
 refine Ok.fL h93 ?_;conv=>(arg 3;whnf)
 refine ay g (λ_ g=>?_) λ_ g=>?_;refine yc g (o.a.bB _ _) λy99 g=>?_;cases g;exact zl;refine yc g (o.a.bB _ _) λy100 g=>?_;cases g;exact zl
/-plexus.lattice.limits-/
theorem QI {n} (o:Of n):Ix (rl (Gf n)):=by
 intro a0 r g;rw[rl]at g;refine yw func94 ntmps94 ?_
 iterate 2 (refine ay g (λ_ g=>?_) λ_ g=>?_)
 refine yc g (o.a.bB _ _) λy3 g=>?_;cases g;exact zl;refine yc g (o.a.bB _ _) λy4 g=>?_;cases g;exact zl
 iterate 2 (refine ay g (λ_ g=>?_) λ_ g=>?_)
 refine yc g (o.a.bB _ _) λy7 g=>?_;cases g;exact zl;refine yc g (o.a.bB _ _) λy8 g=>?_;cases g;exact zl;refine ay g (λ_ g=>?_) λ_ g=>?_;refine yc g (o.a.bB _ _) λy10 g=>?_;cases g;exact zl;refine yc g (o.a.bB _ _) λy11 g=>?_;cases g;exact zl
/-plexus.names.wordByte-/
theorem QJ {n} (o:Of n):Iy (rp (Gf n)):=by
 intro a0 r g;rw[rp]at g;refine yw func98 ntmps98 ?_;refine ay g (λ_ g=>?_) λ_ g=>?_;refine aJ g λ_ g=>?_;refine bc g λ_ g=>?_;exact eU g;refine bc g λ_ g=>?_;exact eU g
/-plexus.names.Valid-/
theorem QK {n} (o:Of n):Iz (rq (Gf n)):=by
 intro a0 r g;rw[rq]at g;refine yw func63 ntmps63 ?_
 iterate 2 (refine aJ g λ_ g=>?_)
 obtain⟨x3,ex3,j4h,g⟩:=bu g;refine yv (aV.toP (aV.fN ((0:Int).toNat) rfl rfl rfl rfl j4h ex3)) ?_;refine aJ g λ_ g=>?_;obtain⟨x6,ex6,j7h,g⟩:=bu g;refine yv (aV.toP (aV.fN ((0:Int).toNat) rfl rfl rfl rfl j7h ex6)) ?_;refine aJ g λ_ g=>?_;refine yk<|yL (S:=Int) (G:=λm s=>pX (Gf m) a0 s) (s0:=0) 0 [0,2,23] [24] (λs=>[(24,.d (.v (.int .i64 s)))]) (λs=>[]) g ?_;rintro n s9 _ g;change nS (Gf n) a0 s9=_ at g;rw[nS]at g;refine yz ?_
 refine bc g λ_ g=>?_;obtain⟨x11,ex11,j12h,g⟩:=bu g;refine yv (aV.toP (aV.fN ((s9:Int).toNat) rfl rfl rfl rfl j12h ex11)) ?_;refine yc g (o.a.RG _) λy13 g=>?_;refine aJ g λ_ g=>?_;exact yk (yN _ n ⟨by omega,g⟩)
/-slices.Index[[]string,string]-/
theorem O7 {n} (o:Of n):Hw (oz (Gf n)):=by
 intro a0 a1 r g;rw[oz]at g;refine yw func129 ntmps129 ?_;refine yk<|yL (S:=Int) (G:=λm s=>sV (Gf m) a0 a1 s) (s0:=0) 0 [0,1,4,7] [8] (λs=>[(8,.d (.v (.int .i64 s)))]) (λs=>[]) g ?_;rintro n s1 _ g;change ni (Gf n) a0 a1 s1=_ at g;rw[ni]at g;refine yz ?_
 refine bc g λ_ g=>?_;refine yX g ff λx3 _ _ g=>?_;refine aJ g λ_ g=>?_;exact yk (yN _ n ⟨by omega,g⟩)
/-slices.Contains[[]string,string]-/
theorem O8 {n} (o:Of n):Hx (qu (Gf n)):=by
 intro a0 a1 r g;rw[qu]at g;refine yw func116 ntmps116 ?_;refine yc g (o.a.zJ _ _) λy1 g=>?_;cases g;exact zl
/-plexus.names.Sorted-/
theorem O9 {n} (o:Of n):Hy (oy (Gf n)):=by
 intro a0 r g;rw[oy]at g;refine yw func117 ntmps117 ?_;refine yk<|yL (S:=Int) (G:=λm s=>pH (Gf m) a0 s) (s0:=1) 0 [0,2] [3] (λs=>[(3,.d (.v (.int .i64 s)))]) (λs=>[]) g ?_;rintro n s1 _ g;change lQ (Gf n) a0 s1=_ at g;rw[lQ]at g;refine yz ?_
 refine bc g λ_ g=>?_;refine yo [0,1,2,3,4,5,6,7,8,9] [] [] ?_;refine yY g ff λx3 _ _ g=>?_;refine yY g ff λx5 _ _ g=>?_;refine aJ g λ_ g=>?_;exact yk (yN _ n ⟨by omega,g⟩)
/-plexus.names.Has-/
theorem O' {n} (o:Of n):Hz (qv (Gf n)):=by
 intro a0 a1 r g;rw[qv]at g;refine yw func119 ntmps119 ?_;refine yc g (o.a.HA _ _) λy1 g=>?_;cases g;exact zl
/-plexus.names.Subset-/
theorem Pa {n} (o:Of n):HB (oA (Gf n)):=by
 intro a0 a1 r g;rw[oA]at g;refine yw func118 ntmps118 ?_;refine yk<|yL (S:=Int) (G:=λm s=>lR (Gf m) a0 a1 s) (s0:=0) 0 [1,4,7,8] [9] (λs=>[(9,.d (.v (.int .i64 s)))]) (λs=>[]) g ?_;rintro n s1 _ g;change nj (Gf n) a0 a1 s1=_ at g;rw[nj]at g;refine yz ?_
 refine bc g λ_ g=>?_;refine yX g ff λx3 _ _ g=>?_;refine yc g (o.a.zK _ _) λy5 g=>?_;refine aJ g λ_ g=>?_;exact yk (yN _ n ⟨by omega,g⟩)
/-plexus.lattice.spelling-/
theorem QL {n} (o:Of n):IA (oS (Gf n)):=by
 intro a0 r g;rw[oS]at g;refine yw func95 ntmps95 ?_;refine yk<|yL (S:=Int×Int) (G:=λm s=>kY (Gf m) a0 s.1 s.2) (s0:=(0,0)) 1 [1,8,9] [2,10] (λs=>[(2,.d (.v (.int .i64 s.1))),(10,.d (.v (.int .i64 s.2)))]) (λs=>[]) g ?_;rintro n ⟨s1,s2⟩ _ g;change nP (Gf n) a0 s1 s2=_ at g;rw[nP]at g;refine yz ?_
 refine ay g (λ_ g=>?_) λ_ g=>?_;refine yX g ff λx4 _ _ g=>?_;refine yc g (o.a.rD _) λy6 g=>?_;refine aJ g λ_ g=>?_;refine ay g (λ_ g=>?_) λ_ g=>?_;obtain⟨x9,ex9,g⟩:=fm g;refine yv (yQ DY ex9) ?_;refine yc g (o.a.HA _ _) λy11 g=>?_;refine aJ g λ_ g=>?_
 iterate 2 (exact yk (yN (_,_) n ⟨by omega,g⟩))
 refine ay g (λ_ g=>?_) λ_ g=>?_;refine yc g (o.a.zN _) λy14 g=>?_;refine aJ g λ_ g=>?_;refine yk<|yL (S:=Int) (G:=λm s=>tr (Gf m) a0 s) (s0:=0) 1 [1,2,8,9,10,42,43] [44] (λs=>[(44,.d (.v (.int .i64 s)))]) (λs=>[]) g ?_;rintro n s16 _ g;change tu (Gf n) a0 s16=_ at g;rw[tu]at g;refine yz ?_
 refine bc g λ_ g=>?_;refine yX g aK.aE λx18 _ _ g=>?_;refine aJ g λ_ g=>?_;refine yc g (o.a.zN _) λy21 g=>?_;refine aJ g λ_ g=>?_;refine yc g (o.a.HC _ _) λy23 g=>?_;refine aJ g λ_ g=>?_;refine yc g (o.a.zK _ _) λy25 g=>?_;refine aJ g λ_ g=>?_;exact yk (yN _ n ⟨by omega,g⟩);refine yk<|yL (S:=Int) (G:=λm s=>tv (Gf m) a0 s) (s0:=0) 1 [1,2,8,9,10,42,43] [44] (λs=>[(44,.d (.v (.int .i64 s)))]) (λs=>[]) g ?_;rintro n s27 _ g;change tw (Gf n) a0 s27=_ at g;rw[tw]at g;refine yz ?_
 refine bc g λ_ g=>?_;refine yX g aK.aE λx29 _ _ g=>?_;refine aJ g λ_ g=>?_;refine yc g (o.a.zN _) λy32 g=>?_;refine aJ g λ_ g=>?_;refine yc g (o.a.HC _ _) λy34 g=>?_;refine aJ g λ_ g=>?_;refine yc g (o.a.zK _ _) λy36 g=>?_;refine aJ g λ_ g=>?_;exact yk (yN _ n ⟨by omega,g⟩)
/-plexus.lattice.ranges-/
theorem QM {n} (o:Of n):IB (rm (Gf n)):=by
 intro a0 r g;rw[rm]at g;refine yw func96 ntmps96 ?_;refine ay g (λ_ g=>?_) λ_ g=>?_;refine yc g (o.a.bB _ _) λy2 g=>?_;cases g;exact zl;refine ay g (λ_ g=>?_) λ_ g=>?_;refine yc g (o.a.bB _ _) λy4 g=>?_;cases g;exact zl;refine ay g (λ_ g=>?_) λ_ g=>?_;refine yc g (o.a.bB _ _) λy6 g=>?_;cases g;exact zl;refine ay g (λ_ g=>?_) λ_ g=>?_;refine yc g (o.a.bB _ _) λy8 g=>?_;cases g;exact zl;refine yc g (o.a.bB _ _) λy9 g=>?_;cases g;exact zl
/-plexus.lattice.Chain-/
theorem Pb {n} (o:Of n):HD (qt (Gf n)):=by
 intro a0 r g;rw[qt]at g;refine yw func120 ntmps120 ?_
 iterate 3 (refine aJ g λ_ g=>?_)
 iterate 2 (refine bc g λ_ g=>?_)
 refine yX g af.aE λx6 _ _ g=>?_;refine yc g (o.a.zO _) λy8 g=>?_;refine bc g λ_ g=>?_;refine yX g af.aE λx10 _ _ g=>?_;refine yc g (o.a.zO _) λy12 g=>?_;cases g;exact zl
/-plexus.lattice.chains-/
theorem QN {n} (o:Of n):IC (rn (Gf n)):=by
 intro a0 r g;rw[rn]at g;refine yw func97 ntmps97 ?_;refine ay g (λ_ g=>?_) λ_ g=>?_;refine yX g af.aE λx2 _ _ g=>?_;refine yc g (o.a.zO _) λy4 g=>?_;refine yc g (o.a.bB _ _) λy5 g=>?_;cases g;exact zl;refine yc g (o.a.bB _ _) λy6 g=>?_;cases g;exact zl
/-cmp.Or[plexus.api.Errno]-/
theorem QO {n} (o:Of n):ID (oT (Gf n)):=by
 intro a0 r g;rw[oT]at g;refine yw func93 ntmps93 ?_;refine yk<|yL (S:=Int) (G:=λm s=>l7 (Gf m) a0 s) (s0:=0) 0 [2,3,6,7] [8] (λs=>[(8,.d (.v (.int .i64 s)))]) (λs=>[]) g ?_;rintro n s1 _ g;change nR (Gf n) a0 s1=_ at g;rw[nR]at g;refine yz ?_
 refine bc g λ_ g=>?_;refine yX g jl λx3 _ _ g=>?_;refine aJ g λ_ g=>?_;exact yk (yN _ n ⟨by omega,g⟩)
/-(*plexus.lattice.checker).visit-/
theorem QP {n} (o:Of n):IE (rh (Gf n)):=by
 intro a0 a1 a2 r g;rw[rh]at g;refine eP.walk (E:=env) func62 rfl zk (rs:=_) rfl ntmps62 rfl (yz ?_)
 iterate 2 (refine aJ g λ_ g=>?_)
 refine yc g (o.a.RH _) λy3 g=>?_;refine aJ g λ_ g=>?_;refine yo [0,1,2,3,4,5,6,7,8,9,10] [] [] ?_;obtain⟨y5,ey5,g⟩:=aH g (o.a.RI _);refine yl (yC ey5) ?_;obtain⟨y6,ey6,g⟩:=aH g (o.a.RJ _);refine yl (yC ey6) ?_;obtain⟨y7,ey7,g⟩:=aH g (o.a.RK _);refine yl (yC ey7) ?_;obtain⟨y8,ey8,g⟩:=aH g (o.a.RL _);refine yl (yC ey8) ?_;obtain⟨y9,ey9,g⟩:=aH g (o.a.RM _);refine yl (yC ey9) ?_;refine aJ g λ_ g=>?_;refine yk<|yL (S:=Int×cC) (G:=λm s=>l6 (Gf m) a1 a2 s.1 s.2) (s0:=(0,{nodes:=IntKind.i64.wrap (a0.nodes+1):cC})) 2 [0,2,6,47,48] [49] (λs=>[(49,.d (.v (.int .i64 s.1)))]) (λs=>[(0,.box ((cC.cs s.2).map .d))]) g ?_;rintro n ⟨s11,s12⟩ _ g;change nQ (Gf n) a1 a2 s11 s12=_ at g;rw[nQ]at g;refine yz ?_
 refine bc g λ_ g=>?_;refine yX g af.aE λx14 _ _ g=>?_;obtain⟨y16,ey16,g⟩:=aH g (o.a.IF _ _ _);refine yk<|ai.g7 0 ey16 rfl rfl (by first|rfl|(simp only[cp];rfl)) rfl (cJ.box rfl zi) rfl (yz ?_)
 refine aJ g λ_ g=>?_;exact yk (yN (_,_) n ⟨by omega,g⟩)
/-plexus.lattice.Check-/
theorem QQ {n} (o:Of n):IG (rj (Gf n)):=by
 intro a0 r g;rw[rj]at g;refine yw func45 ntmps45 ?_;obtain⟨y1,ey1,g⟩:=aH g (o.a.IF _ _ _);refine yk<|ai.g7 1 ey1 rfl rfl (by first|rfl|(simp only[cp];rfl)) rfl (cJ.box rfl zi) rfl (yz ?_)
 cases g;exact zl
/-plexus.types.formed$1-/
theorem QR {n} (o:Of n):IH (rv (Gf n)):=by
 intro a0 a1 r g;rw[rv]at g;refine yw func65 ntmps65 ?_;cases g;exact zl
/-slices.IndexFunc[[]plexus.api.Param,plexus.api.Param]-/
theorem MY {n} (o:Of n):Fg (nk (Gf n)):=by
 intro a0 a1 r g;rw[nk]at g;refine yw func99 ntmps99 ?_;refine yk<|yL (S:=Int) (G:=λm s=>sf (Gf m) a0 a1 s) (s0:=0) 0 [0,1,4,7] [8] (λs=>[(8,.d (.v (.int .i64 s)))]) (λs=>[]) g ?_;rintro n s1 _ g;change mW (Gf n) a0 a1 s1=_ at g;rw[mW]at g;refine yz ?_
 refine bc g λ_ g=>?_;refine yX g TParam.aE λx3 _ _ g=>?_;refine yc g (o.a.RN _ _) λy5 g=>?_;refine aJ g λ_ g=>?_;exact yk (yN _ n ⟨by omega,g⟩)
/-slices.ContainsFunc[[]plexus.api.Param,plexus.api.Param]-/
theorem MZ {n} (o:Of n):Fh (pI (Gf n)):=by
 intro a0 a1 r g;rw[pI]at g;refine yw func64 ntmps64 ?_;refine yc g (o.a.M3 _ _) λy1 g=>?_;cases g;exact zl
/-plexus.types.formed-/
theorem QS {n} (o:Of n):II (mE (Gf n)):=by
 intro a0 r g;rw[mE]at g;refine yw func46 ntmps46 ?_;refine yc g (o.a.rD _) λy1 g=>?_;refine aJ g λ_ g=>?_;refine yc g (o.a.rD _) λy3 g=>?_
 iterate 4 (refine aJ g λ_ g=>?_)
 refine yk<|yL (S:=Int) (G:=λm s=>iL (Gf m) a0 s) (s0:=0) 1 [1,2,32,33] [34] (λs=>[(34,.d (.v (.int .i64 s)))]) (λs=>[]) g ?_;rintro n s8 _ g;change jx (Gf n) a0 s8=_ at g;rw[jx]at g;refine yz ?_
 refine bc g λ_ g=>?_;refine yX g TParam.aE λx10 _ _ g=>?_;refine yc g (o.a.rD _) λy12 g=>?_
 iterate 3 (refine aJ g λ_ g=>?_)
 obtain⟨x16,ex16,g⟩:=fm g;refine yv (yQ TParam.bR ex16) ?_;refine yc g (o.a.M4 _ _) λy18 g=>?_;refine aJ g λ_ g=>?_;exact yk (yN _ n ⟨by omega,g⟩)
/-plexus.types.leaf-/
theorem QT {n} (o:Of n):IJ (oU (Gf n)):=by
 intro a0 a1 r g;rw[oU]at g;refine yw func66 ntmps66 ?_;refine aJ g λ_ g=>?_;refine ay g (λh2 g=>?_) λ_ g=>?_
 iterate 2 (refine ay g (λ_ g=>?_) λ_ g=>?_)
 refine yo [] (tk [0,3,6,10,12,16]) [] ?_
 iterate 4 (refine yt zp ?_)
 cases g;exact yj
 iterate 4 (refine yF h2 ?_)
 cases g;exact yj
 iterate 4 (refine yF h2 ?_)
 cases g;exact yj;refine ay g (λh5 g=>?_) λh5 g=>?_;refine aJ g λ_ g=>?_;refine Ok.fL h5 ?_;conv=>(arg 3;whnf)
 refine aJ g λ_ g=>?_
 iterate 2 (refine yF h5 ?_)
 cases g;exact yj;refine Ok.fM h5 ?_;conv=>(arg 3;whnf)
 refine ay g (λh8 g=>?_) λ_ g=>?_;refine yc g (o.a.rD _) λy9 g=>?_;refine ay g (λ_ g=>?_) λ_ g=>?_;refine yo [] (tk [0,3,6,10,12,16]) [] ?_
 iterate 4 (refine yt zp ?_)
 cases g;exact yj;refine yF h8 ?_;cases g;exact yj
 iterate 3 (refine bc g λ_ g=>?_)
 refine yo [] (tk [0,3,6,9,12,15,18,22,24,28]) [] ?_;obtain⟨x14,ex14,j15h,g⟩:=bu g;refine yu zp (yi j15h (TParam.aE ex14)) ?_
 iterate 6 (refine yt zp ?_)
 cases g;exact yj
/-plexus.types.operators-/
theorem QU {n} (o:Of n):IK (oV (Gf n)):=by
 intro a0 r g;rw[oV]at g;refine yw func67 ntmps67 ?_
 iterate 15 (refine aJ g λ_ g=>?_)
 exact eU g
/-plexus.types.calls-/
theorem QV {n} (o:Of n):IL (ry (Gf n)):=by
 intro a0 r g;rw[ry]at g;refine yw func68 ntmps68 ?_
 iterate 16 (refine aJ g λ_ g=>?_)
 exact eU g
/-plexus.types.bare-/
theorem QW {n} (o:Of n):IM (oW (Gf n)):=by
 intro a0 a1 r g;rw[oW]at g;refine yw func47 ntmps47 ?_;refine yc g (o.a.RO _ _) λy1 g=>?_;refine aJ g λ_ g=>?_;refine Ok.stuck aI ?_;refine ai.lN 3 4 83 5 4 rfl rfl rfl ?_;refine yL (S:=Bool×Int×(List aj)) (G:=λm s=>iN (Gf m) a0 a1 s.1 s.2.1 s.2.2) (s0:=(false,0,[])) 5 [0,3,4,8,30,31] [5,32] (λs=>[(5,.d (.v (.bool s.1))),(32,.d (.v (.int .i64 s.2.1)))]) (λs=>[(4,.row 83 5 (aj.rows s.2.2)),(3,.box [.d (.v (.int .i64 0)),.d (.v (.string ⟨⟨([])⟩⟩)),.d (.v (.int .i64 0)),.d (.v (.int .i64 a1.At)),.os 4 (aj.rows s.2.2).length])]) g ?_;rintro n ⟨s3,s4,s9⟩ _ g;change jS (Gf n) a0 a1 s3 s4 s9=_ at g;rw[jS]at g;refine yz ?_;refine ay g (λ_ g=>?_) λ_ g=>?_;refine yX g ab.aE λx11 _ _ g=>?_;refine yc g (o.a.IN _ _) λy13 g=>?_;refine aJ g λ_ g=>?_;refine yo [0,1,2,3,4] (tk [16,18,24,23,28]) [] ?_;obtain⟨h15,g⟩:=cx g;refine yk<|ai.fC (rows2:=(aj.rows ([aj.z]))) ak.nil rfl rfl rfl rfl rfl zg rfl zi rfl rfl (aj.dU _) rfl rfl (zo h15) (yz ?_)
 obtain⟨x16,ex16,j17h,g⟩:=bu g;refine yU zp (yr j17h ex16) ?_;refine yt (cP j17h ex16) ?_;refine fX ((↑(aj.rows s9).length:Int).toNat) 0 (aj.aE ex16) j17h ex16 ?_;exact yk (yN (_,_,_) n ⟨by omega,g⟩);refine yc g (o.a.RR _) λy18 g=>?_;refine ay g (λ_ g=>?_) λ_ g=>?_;refine aJ g λ_ g=>?_;refine bc g λ_ g=>?_;refine yX g ab.aE λx22 _ _ g=>?_
 iterate 2 (refine aJ g λ_ g=>?_)
 refine yX g ff λx26 _ _ g=>?_;cases g;exact zl;refine yc g (o.a.RS _) λy28 g=>?_;refine ay g (λ_ g=>?_) λ_ g=>?_;refine yk<|ai.inl (rs:=_) rfl func69 rfl zk rfl ntmps69 rfl rfl (yz ?_)
 refine aJ g λ_ g=>?_;refine Ok.stuck aI ?_;refine ai.Eu 3 83 5 5 rfl rfl ?_;refine yL (S:=(List aj)×Int) (G:=λm s=>kZ (Gf m) a1 s9 y28 s.1 s.2) (s0:=([],0)) 6 [0,2,5,8] [3,4] (λs=>[(3,.os 5 (aj.rows s.1).length),(4,.d (.v (.int .i64 s.2)))]) (λs=>[(5,.row 83 5 (aj.rows s.1))]) g ?_;rintro n ⟨s31,s32⟩ _ g;change nU (Gf n) a1 s9 y28 s31 s32=_ at g;rw[nU]at g;refine yz ?_;refine bc g λ_ g=>?_;refine yo [0,1,2,3,4,5,6,7,8,9,10,11,12,13,14,15,16,17,18] (tk [58,60]) [] ?_;obtain⟨x34,ex34,j35h,g⟩:=bu g;refine yl (yr j35h ex34) ?_;refine yl (ym s32.toNat 0 (aj.aE ex34)) ?_;obtain⟨x36,ex36,j37h,g⟩:=bu g;refine yl (yr j37h ex36) ?_;refine yl (ym ((IntKind.i64.wrap (s32+1)).toNat) 0 (aj.aE ex36)) ?_;obtain⟨h38,g⟩:=cx g;refine yk<|ai.fC (rows2:=(aj.rows ([{Kind:=52,Text:=[],N:=0,At:=0,Kids:=[x34,x36]:aj}]))) ak.nil rfl rfl rfl rfl rfl zg rfl zi rfl rfl (aj.dU _) rfl rfl (zo h38) (yz ?_)
 exact yk (yN (_,_) n ⟨by omega,g⟩);refine ay g (λ_ g=>?_) λ_ g=>?_;refine yk<|ai.inl (rs:=_) rfl func70 rfl zk rfl ntmps70 rfl rfl (yz ?_)
 refine aJ g λ_ g=>?_;refine Ok.stuck aI ?_;refine ai.Eu 6 83 5 6 rfl rfl ?_;refine yL (S:=(List aj)×Int) (G:=λm s=>iM (Gf m) a1 s9 y28 s.1 s.2) (s0:=([],0)) 7 [0,3,4,5,17,24,25] [6,26] (λs=>[(6,.os 6 (aj.rows s.1).length),(26,.d (.v (.int .i64 s.2)))]) (λs=>[(6,.row 83 5 (aj.rows s.1))]) g ?_;rintro n ⟨s41,s42⟩ _ g;change nV (Gf n) a1 s9 y28 s41 s42=_ at g;rw[nV]at g;refine yz ?_;refine bc g λ_ g=>?_;obtain⟨x44,ex44,j45h,g⟩:=bu g;refine yv (yr j45h ex44) ?_;refine yv (ym s42.toNat 0 (aj.aE ex44)) ?_;refine yo [0,1,2,3,4,5,6,7,8,9,10,11] [] [] ?_;refine ay g (λ_ g=>?_) λ_ g=>?_;refine yo [0,1,2,3,4,5,6,7,8] (tk [28,30]) [] ?_;refine yY g ff λx47 _ _ g=>?_;obtain⟨h49,g⟩:=cx g;refine yk<|ai.fC (rows2:=(aj.rows ([{Kind:=52,Text:=x47,N:=0,At:=0,Kids:=[x44]:aj}]))) ak.nil rfl rfl rfl rfl rfl zg rfl zi rfl rfl (aj.dU _) rfl rfl (zo h49) (yz ?_)
 exact yk (yN (_,_) n ⟨by omega,g⟩);refine ay g (λ_ g=>?_) λ_ g=>?_;refine yo [0,1,2,3,4,5,6,7,8] (tk [28,30]) [] ?_;refine yY g ff λx51 _ _ g=>?_;obtain⟨h53,g⟩:=cx g;refine yk<|ai.fC (rows2:=(aj.rows ([{Kind:=52,Text:=x51,N:=0,At:=0,Kids:=[x44]:aj}]))) ak.nil rfl rfl rfl rfl rfl zg rfl zi rfl rfl (aj.dU _) rfl rfl (zo h53) (yz ?_)
 iterate 2 (exact yk (yN (_,_) n ⟨by omega,g⟩))
 refine yo [] (tk [0,3,6,9,13,15]) [] ?_
 iterate 6 (refine yt zp ?_)
 cases g;exact zl
/-plexus.types.of-/
theorem QX {n} (o:Of n):IP (uz (Gf n)):=by
 intro a0 r g;rw[uz]at g;refine yw func74 ntmps74 ?_;cases g;exact zl
/-plexus.types.sort-/
theorem QY {n} (o:Of n):IQ (uA (Gf n)):=by
 intro a0 r g;rw[uA]at g;refine yw func75 ntmps75 ?_;cases g;exact yj
/-plexus.types.want-/
theorem QZ {n} (o:Of n):IS (rz (Gf n)):=by
 intro a0 a1 r g;rw[rz]at g;refine yw func49 ntmps49 ?_;refine ay g (λ_ g=>?_) λ_ g=>?_;refine yc g (o.a.fG _) λy2 g=>?_;cases g;exact zl;refine yc g (o.a.dT _) λy3 g=>?_;cases g;exact zl
/-(*plexus.types.elaborator).any$1-/
theorem Pc {n} (o:Of n):HE (qw (Gf n)):=by
 intro a0 a1 r g;rw[qw]at g;refine yw func121 ntmps121 ?_;cases g;exact zl
/-slices.IndexFunc[[]plexus.api.Param,plexus.api.Param]-/
theorem L9 {n} (o:Of n):Ep (nc (Gf n)):=by
 intro a0 a1 r g;rw[nc]at g;refine yw func99 ntmps99 ?_;refine yk<|yL (S:=Int) (G:=λm s=>r8 (Gf m) a0 a1 s) (s0:=0) 0 [0,1,4,7] [8] (λs=>[(8,.d (.v (.int .i64 s)))]) (λs=>[]) g ?_;rintro n s1 _ g;change mM (Gf n) a0 a1 s1=_ at g;rw[mM]at g;refine yz ?_
 refine bc g λ_ g=>?_;refine yX g TParam.aE λx3 _ _ g=>?_;refine yc g (o.a.PA _ _) λy5 g=>?_;refine aJ g λ_ g=>?_;exact yk (yN _ n ⟨by omega,g⟩)
/-plexus.types.fail-/
theorem Pd {n} (o:Of n):HF (qx (Gf n)):=by
 intro a0 a1 r g;rw[qx]at g;refine yw func104 ntmps104 ?_;refine Ok.fin aI ?_;obtain rfl:=cQ g;exact RD.p7 rfl aI rfl zi
/-plexus.types.none-/
theorem Pe {n} (o:Of n):HG (qy (Gf n)):=by
 intro a0 r g;rw[qy]at g;refine yw func103 ntmps103 ?_;exact eU g
/-plexus.types.arguments-/
theorem Pg {n} (o:Of n):HH (qz (Gf n)):=by
 intro a0 r g;rw[qz]at g;refine yw func130 ntmps130 ?_
 iterate 4 (refine aJ g λ_ g=>?_)
 exact eU g
/-slices.Index[[]int,int]-/
theorem Ph {n} (o:Of n):HI (oB (Gf n)):=by
 intro a0 a1 r g;rw[oB]at g;refine yw func138 ntmps138 ?_;refine yk<|yL (S:=Int) (G:=λm s=>sY (Gf m) a0 a1 s) (s0:=0) 0 [0,1,4,7] [8] (λs=>[(8,.d (.v (.int .i64 s)))]) (λs=>[]) g ?_;rintro n s1 _ g;change nn (Gf n) a0 a1 s1=_ at g;rw[nn]at g;refine yz ?_
 refine bc g λ_ g=>?_;refine yX g jl λx3 _ _ g=>?_;refine aJ g λ_ g=>?_;exact yk (yN _ n ⟨by omega,g⟩)
/-slices.Contains[[]int,int]-/
theorem Pj {n} (o:Of n):HJ (qA (Gf n)):=by
 intro a0 a1 r g;rw[qA]at g;refine yw func132 ntmps132 ?_;refine yc g (o.a.PB _ _) λy1 g=>?_;cases g;exact zl
/-(*plexus.types.elaborator).call$1-/
theorem Pk {n} (o:Of n):HK (qB (Gf n)):=by
 intro a0 a1 a2 r g;rw[qB]at g;refine yw func131 ntmps131 ?_;refine ay g (λ_ g=>?_) λ_ g=>?_;exact yP g (o.a.dX _ _);refine yc g (o.a.zQ _ _) λy3 g=>?_;refine ay g (λ_ g=>?_) λ_ g=>?_;exact yP g (o.a.dX _ _);refine Ok.fin aI ?_;obtain rfl:=cQ g;exact RD.mb rfl rfl aI rfl (bw.refl _)
/-slices.Clone[[]string,string]-/
theorem Pl {n} (o:Of n):HL (qC (Gf n)):=by
 intro a0 r g;rw[qC]at g;refine yw func125 ntmps125 ?_;refine Ok.stuck aI<|ai.nY 3 rfl ?_ ?_
 intro cap h1;replace g:(some ([]))=some r:=(by have h0:a0=[]:=BV.1 (by have h1:=congrArg List.length h1;simpa only[cX,kD]using h1);subst h0;simpa using g);refine yz ?_;refine yv (aV.toP (aV.lg (et:=9) rfl zk rfl rfl)) ?_;cases g;exact yj;intro ad n0 cap;refine yz ?_;refine yv (aV.toP (aV.lg (et:=9) rfl zk rfl rfl)) ?_;obtain⟨h2,g⟩:=cx g;refine yk<|DO.qm (rows2:=(aW a0)) rfl rfl zg rfl (bw.refl _) rfl rfl (KG _) rfl rfl rfl (zo h2) (yz ?_)
 cases g;exact zl
/-slices.Clone[[]plexus.api.Rule,plexus.api.Rule]-/
theorem Oq {n} (o:Of n):G4 (qe (Gf n)):=by
 intro a0 r g;rw[qe]at g;refine iQ.walk (E:=env) func126 rfl zk (rs:=_) rfl ntmps126 rfl (yz ?_);refine Ok.stuck aI<|ai.nY 3 rfl ?_ ?_
 intro cap h1;replace g:(some [])=some r:=(by have h0:a0=[]:=BV.1 (by have h1:=congrArg List.length h1;simpa only[aK.a8,kD]using h1);subst h0;simpa using g);refine yz ?_;refine yv (aV.toP (aV.lg (et:=137) rfl zk rfl rfl)) ?_;refine Ok.fin aI ?_;obtain rfl:=cQ g;exact RD.vR rfl rfl (by simp only[cp]);intro ad n0 cap;refine yz ?_;refine yv (aV.toP (aV.lg (et:=137) rfl zk rfl rfl)) ?_;obtain⟨h2,g⟩:=cx g;refine yk<|DO.qm (rows2:=(aK.rows a0)) rfl rfl zg rfl (bw.refl _) rfl rfl (aK.dU _) rfl rfl rfl (zo h2) (yz ?_)
 refine Ok.fin aI ?_;obtain rfl:=cQ g;exact RD.xC rfl rfl rfl rfl zi
/-slices.Clone[[]plexus.api.aF,plexus.api.aF]-/
theorem Ot {n} (o:Of n):G5 (qf (Gf n)):=by
 intro a0 r g;rw[qf]at g;refine iQ.walk (E:=env) func127 rfl zk (rs:=_) rfl ntmps127 rfl (yz ?_);refine Ok.stuck aI<|ai.nY 3 rfl ?_ ?_
 intro cap h1;replace g:(some [])=some r:=(by have h0:a0=[]:=BV.1 (by have h1:=congrArg List.length h1;simpa only[af.a8,kD]using h1);subst h0;simpa using g);refine yz ?_;refine yv (aV.toP (aV.lg (et:=26) rfl zk rfl rfl)) ?_;refine Ok.fin aI ?_;obtain rfl:=cQ g;exact RD.vR rfl rfl (by simp only[cp]);intro ad n0 cap;refine yz ?_;refine yv (aV.toP (aV.lg (et:=26) rfl zk rfl rfl)) ?_;obtain⟨h2,g⟩:=cx g;refine yk<|DO.qm (rows2:=(af.rows a0)) rfl rfl zg rfl (bw.refl _) rfl rfl (af.dU _) rfl rfl rfl (zo h2) (yz ?_)
 refine Ok.fin aI ?_;obtain rfl:=cQ g;exact RD.xC rfl rfl rfl rfl zi
/-plexus.types.copied-/
theorem Pm {n} (o:Of n):HM (qD (Gf n)):=by
 intro a0 r g;rw[qD]at g;refine yw func102 ntmps102 ?_;refine yc g (o.a.HN _) λy1 g=>?_;obtain⟨y2,ey2,g⟩:=aH g (o.a.Ou _);refine yk<|ai.xB ey2 rfl rfl (by first|rfl|(simp only[cp];rfl)) rfl (yz ?_)
 refine yk<|yL (S:=Int×(List aK)) (G:=λm s=>pK (Gf m) a0 y1 y2 s.1 s.2) (s0:=(0,y2)) 3 [1,2,15] [16] (λs=>[(16,.d (.v (.int .i64 s.1)))]) (λs=>[(2,.row 137 2 (aK.rows s.2)),(0,.box [.d (.v (.int .i64 a0.Kind)),.d (.v (.int .i64 a0.Lo)),.d (.v (.int .i64 a0.Hi)),.d (.sl 1 (aW y1)),.d (.sl 6 (af.rows a0.az)),.os 2 (aK.rows s.2).length])]) g ?_;rintro n ⟨s3,s9⟩ _ g;change nq (Gf n) a0 y1 y2 s3 s9=_ at g;rw[nq]at g;refine yz ?_
 refine ay g (λ_ g=>?_) λ_ g=>?_;refine yo [] (tk [0,3,6,9,12,15,18,21,24,28,30,33,37]) [] ?_
 iterate 4 (refine yt zp ?_)
 obtain⟨x11,ex11,j12h,g⟩:=bu g;refine yU zp (yr j12h ex11) ?_;refine yt (cP j12h ex11) ?_;refine yU (cP j12h ex11) (ym s3.toNat 0 (aK.aE ex11)) ?_;refine yd g (o.a.HN _) (by repeat(first|exact ak.nil|refine ak.cons rfl (aN.cK (cl:=false) rfl aI) ?_|refine ak.skip rfl ?_|refine ak.cons rfl (yr j12h ex11) ?_|refine ak.cons rfl (ym s3.toNat 0 (aK.aE ex11)) ?_|refine ak.cons rfl (dk (cl:=false) rfl aI) ?_)) λy13 g=>?_;obtain⟨x14,ex14,j15h,g⟩:=bu g;refine yU (by repeat(first|exact ak.nil|refine ak.cons rfl (aN.cK (cl:=false) rfl aI) ?_|refine ak.skip rfl ?_|refine ak.cons rfl (yr j12h ex11) ?_|refine ak.cons rfl (ym s3.toNat 0 (aK.aE ex11)) ?_|refine ak.cons rfl (dk (cl:=false) rfl aI) ?_)) (yr j15h ex14) ?_;refine yt (by repeat(first|exact ak.nil|refine ak.cons rfl (aN.cK (cl:=false) rfl aI) ?_|refine ak.skip rfl ?_|refine ak.cons rfl (yr j12h ex11) ?_|refine ak.cons rfl (ym s3.toNat 0 (aK.aE ex11)) ?_|refine ak.cons rfl (yr j15h ex14) ?_|refine ak.cons rfl (dk (cl:=false) rfl aI) ?_)) ?_;refine yk<|ai.r9 s3.toNat 0 (by repeat(first|exact ak.nil|refine ak.cons rfl (aN.cK (cl:=false) rfl aI) ?_|refine ak.skip rfl ?_|refine ak.cons rfl (yr j12h ex11) ?_|refine ak.cons rfl (ym s3.toNat 0 (aK.aE ex11)) ?_|refine ak.cons rfl (yr j15h ex14) ?_|refine ak.cons rfl (dk (cl:=false) rfl aI) ?_)) (by rfl) (by rfl) (by rfl) (by rfl) (by rfl) (by rfl) (by rfl) (by rfl) zg (by rfl) (yg (aK.aE ex14)) (by rfl) (by rfl) (by rfl) (by rfl) (yz ?_)
 refine yt (by repeat(first|exact ak.nil|refine ak.cons rfl (aN.cK (cl:=false) rfl aI) ?_|refine ak.skip rfl ?_|refine ak.cons rfl (yr j12h ex11) ?_|refine ak.cons rfl (ym s3.toNat 0 (aK.aE ex11)) ?_|refine ak.cons rfl (yr j15h ex14) ?_|refine ak.cons rfl (dk (cl:=false) rfl aI) ?_)) ?_;exact yk (yN (_,_) n ⟨by omega,g⟩);obtain⟨y16,ey16,g⟩:=aH g (o.a.Ov _);refine yk<|ai.xB ey16 rfl rfl (by first|rfl|(simp only[cp];rfl)) rfl (yz ?_)
 refine yk<|yL (S:=Int×(List af)×(List aK)) (G:=λm s=>pJ (Gf m) a0 y1 y16 s.1 s.2.1 s.2.2) (s0:=(0,y16,s9)) 4 [1,2,15,16,38] [39] (λs=>[(39,.d (.v (.int .i64 s.1)))]) (λs=>[(3,.row 26 6 (af.rows s.2.1)),(2,.row 137 2 (aK.rows s.2.2)),(0,.box [.d (.v (.int .i64 a0.Kind)),.d (.v (.int .i64 a0.Lo)),.d (.v (.int .i64 a0.Hi)),.d (.sl 1 (aW y1)),.os 3 (af.rows s.2.1).length,.os 2 (aK.rows s.2.2).length])]) g ?_;rintro n ⟨s17,s22,s23⟩ _ g;change np (Gf n) a0 y1 y16 s17 s22 s23=_ at g;rw[np]at g;refine yz ?_
 refine bc g λ_ g=>?_;refine yo [0,1,2,3,4,5,6,7,8,9] [(10,.one)] [] ?_;obtain⟨x25,ex25,j26h,g⟩:=bu g;refine yl (yr j26h ex25) ?_;refine yl (ym s17.toNat 0 (af.aE ex25)) ?_;obtain⟨y27,ey27,g⟩:=aH g (o.a.zT _);refine yl (yC ey27) ?_;obtain⟨x28,ex28,j29h,g⟩:=bu g;refine yl (yr j29h ex28) ?_;refine yk<|ai.r9 s17.toNat 0 ak.nil (by rfl) (by rfl) (by rfl) (by rfl) (by rfl) (by rfl) (by rfl) (by rfl) zg (by rfl) (yg (af.aE ex28)) (by rfl) (by rfl) (by rfl) (by rfl) (yz ?_)
 exact yk (yN (_,_,_) n ⟨by omega,g⟩)
/-plexus.types.open-/
theorem Pn {n} (o:Of n):HO (qE (Gf n)):=by
 intro a0 r g;rw[qE]at g;refine yw func140 ntmps140 ?_;refine aJ g λ_ g=>?_;refine ay g (λ_ g=>?_) λ_ g=>?_
 iterate 6 (refine aJ g λ_ g=>?_)
 exact eU g;refine ay g (λ_ g=>?_) λ_ g=>?_;refine yX g aj.aE λx11 _ _ g=>?_;refine yc g (o.a.oF _) λy13 g=>?_;refine bc g λ_ g=>?_;refine yX g aj.aE λx15 _ _ g=>?_;refine yc g (o.a.oF _) λy17 g=>?_;cases g;exact zl;refine bc g λ_ g=>?_;refine yX g aj.aE λx19 _ _ g=>?_;refine yc g (o.a.oF _) λy21 g=>?_;refine bc g λ_ g=>?_;refine yX g aj.aE λx23 _ _ g=>?_;refine yc g (o.a.oF _) λy25 g=>?_;cases g;exact zl
/-slices.Equal[[]string,string]-/
theorem Po {n} (o:Of n):HP (ub (Gf n)):=by
 intro a0 a1 r g;rw[ub]at g;refine yw func105 ntmps105 ?_;refine aJ g λ_ g=>?_;refine yk<|yL (S:=Int) (G:=λm s=>sZ (Gf m) a0 a1 s) (s0:=0) 0 [0,1,4,12] [13] (λs=>[(13,.d (.v (.int .i64 s)))]) (λs=>[]) g ?_;rintro n s2 _ g;change s6 (Gf n) a0 a1 s2=_ at g;rw[s6]at g;refine yz ?_
 refine bc g λ_ g=>?_;refine yo [0,1,2,3,4,5,6,7,8] [] [] ?_;refine yY g ff λx4 _ _ g=>?_;refine yY g ff λx6 _ _ g=>?_;refine aJ g λ_ g=>?_;exact yk (yN _ n ⟨by omega,g⟩)
/-plexus.lattice.sameRule-/
theorem Pp {n} (o:Of n):HQ (qF (Gf n)):=by
 intro a0 a1 r g;rw[qF]at g;refine yw func107 ntmps107 ?_;refine bc g λ_ g=>?_;refine yc g (o.a.HR _ _) λy2 g=>?_;cases g;exact zl
/-slices.EqualFunc[[]plexus.api.Rule,[]plexus.api.Rule,plexus.api.Rule,plexus.api.Rule]-/
theorem Ma {n} (o:Of n):Er (pC (Gf n)):=by
 intro a0 a1 r g;rw[pC]at g;refine yw func106 ntmps106 ?_;refine aJ g λ_ g=>?_;refine yk<|yL (S:=Int) (G:=λm s=>mN (Gf m) a0 a1 s) (s0:=0) 0 [1,2,6,15,16] [17] (λs=>[(17,.d (.v (.int .i64 s)))]) (λs=>[]) g ?_;rintro n s2 _ g;change mO (Gf n) a0 a1 s2=_ at g;rw[mO]at g;refine yz ?_
 refine bc g λ_ g=>?_;refine yX g aK.aE λx4 _ _ g=>?_;refine yX g aK.aE λx6 _ _ g=>?_;refine yc g (o.a.PC _ _) λy8 g=>?_;refine aJ g λ_ g=>?_;exact yk (yN _ n ⟨by omega,g⟩)
/-plexus.lattice.Equal-/
theorem Q0 {n} (o:Of n):IT (rA (Gf n)):=by
 intro a0 a1 r g;rw[rA]at g;refine yw func77 ntmps77 ?_
 iterate 3 (refine bc g λ_ g=>?_)
 refine yc g (o.a.HR _ _) λy4 g=>?_;refine bc g λ_ g=>?_;refine yc g (o.a.Mb _ _) λy6 g=>?_;refine bc g λ_ g=>?_;refine yc g (o.a.M5 _ _) λy8 g=>?_;cases g;exact zl
/-slices.EqualFunc[[]plexus.api.aF,[]plexus.api.aF,plexus.api.aF,plexus.api.aF]-/
theorem M0 {n} (o:Of n):Fi (pL (Gf n)):=by
 intro a0 a1 r g;rw[pL]at g;refine yw func108 ntmps108 ?_;refine aJ g λ_ g=>?_;refine yk<|yL (S:=Int) (G:=λm s=>mX (Gf m) a0 a1 s) (s0:=0) 0 [1,2,6,15,16] [17] (λs=>[(17,.d (.v (.int .i64 s)))]) (λs=>[]) g ?_;rintro n s2 _ g;change mY (Gf n) a0 a1 s2=_ at g;rw[mY]at g;refine yz ?_
 refine bc g λ_ g=>?_;refine yX g af.aE λx4 _ _ g=>?_;refine yX g af.aE λx6 _ _ g=>?_;refine yc g (o.a.IU _ _) λy8 g=>?_;refine aJ g λ_ g=>?_;exact yk (yN _ n ⟨by omega,g⟩)
/-plexus.types.Same-/
theorem Q1 {n} (o:Of n):IV (rB (Gf n)):=by
 intro a0 a1 r g;rw[rB]at g;refine yw func55 ntmps55 ?_;refine bc g λ_ g=>?_;refine yc g (o.a.IU _ _) λy2 g=>?_;cases g;exact zl
/-(*plexus.types.elaborator).expr-/
theorem Q2 {n} (o:Of n):IW (oX (Gf n)):=by
 intro a0 a1 a2 r g;rw[oX]at g;refine yw func73 ntmps73 ?_;refine yp g (o.a.PD _ _ _) λy1 g=>?_;refine yc g (o.a.zT _) λy2 g=>?_;refine yc g (o.a.uc _) λy3 g=>?_;refine bc g λ_ g=>?_;refine yc g (o.a.uK _ _) λy5 g=>?_;refine bc g λ_ g=>?_;exact yP g (o.a.dX _ _)
/-(*plexus.types.elaborator).any-/
theorem Pq {n} (o:Of n):HT (oC (Gf n)):=by
 intro a0 a1 a2 r g;rw[oC]at g;refine yw func101 ntmps101 ?_;refine yc g (o.a.dT _) λy1 g=>?_;refine yc g (o.a.dT _) λy2 g=>?_;refine yc g (o.a.dT _) λy3 g=>?_
 iterate 4 (refine aJ g λ_ g=>?_)
 refine ay g (λ_ g=>?_) λ_ g=>?_;refine yc g (o.a.Mc _ _) λy9 g=>?_;refine ay g (λ_ g=>?_) λ_ g=>?_;exact yP g (o.a.dX _ _);refine yX g TParam.aE λx12 _ _ g=>?_;refine yc g (o.a.dT _) λy14 g=>?_;cases g;exact yj;refine ay g (λ_ g=>?_) λ_ g=>?_;refine yc g (o.a.fG _) λy16 g=>?_;cases g;exact yj
 iterate 2 (refine ay g (λ_ g=>?_) λ_ g=>?_)
 exact yP g (o.a.dX _ _);refine yc g (o.a.uc _) λy20 g=>?_;refine bc g λ_ g=>?_;exact yP g (o.a.dX _ _);refine ay g (λ_ g=>?_) λ_ g=>?_;refine yp g (o.a.lk _ _ _ _ _ _) λy24 g=>?_;cases g;exact zl;refine ay g (λ_ g=>?_) λ_ g=>?_;refine yp g (o.a.lk _ _ _ _ _ _) λy26 g=>?_;cases g;exact zl;refine ay g (λ_ g=>?_) λ_ g=>?_;refine yo [] (tk [0,3,6,9,12,15,18,22,24,27,31]) [] ?_
 iterate 3 (refine yt zp ?_)
 obtain⟨x28,ex28,j29h,g⟩:=bu g;refine yu zp (yi j29h (aj.aE ex28)) ?_
 iterate 2 (refine yt zp ?_)
 refine yq g (o.a.cd _ _ _) zp λy30 g=>?_
 iterate 3 (refine yt zp ?_)
 cases g;exact yj;refine ay g (λ_ g=>?_) λ_ g=>?_;refine yp g (o.a.lk _ _ _ _ _ _) λy32 g=>?_;cases g;exact zl;refine ay g (λ_ g=>?_) λ_ g=>?_;refine yp g (o.a.lk _ _ _ _ _ _) λy34 g=>?_;cases g;exact zl;refine ay g (λ_ g=>?_) λ_ g=>?_;refine yo [0,1,2,3,4] (tk [16,19]) [] ?_;obtain⟨y36,ey36,g⟩:=aH g (o.a.dT _);refine yl (yC ey36) ?_;refine yq g (o.a.lk _ _ _ _ _ _) zp λy37 g=>?_;cases g;exact zl;refine ay g (λ_ g=>?_) λ_ g=>?_;refine yp g (o.a.lk _ _ _ _ _ _) λy39 g=>?_;cases g;exact zl;refine ay g (λ_ g=>?_) λ_ g=>?_;refine yp g (o.a.lk _ _ _ _ _ _) λy41 g=>?_;cases g;exact zl;refine ay g (λ_ g=>?_) λ_ g=>?_;refine yp g (o.a.PE _ _ _) λy43 g=>?_;cases g;exact zl;refine yp g (o.a.PG _ _ _) λy44 g=>?_;cases g;exact zl
/-(*plexus.types.elaborator).pair-/
theorem Pr {n} (o:Of n):HU (oD (Gf n)):=by
 intro a0 a1 a2 a3 a4 a5 r g;rw[oD]at g;refine yw func122 ntmps122 ?_;refine yo [] (tk [0,3,6,9,12,15,19,25]) [7] ?_;obtain⟨x1,ex1,j2h,g⟩:=bu g;refine yu zp (yi j2h (aj.aE ex1)) ?_
 iterate 2 (refine yt zp ?_)
 refine yq g (o.a.cd _ _ _) zp λy3 g=>?_;refine yt zp ?_;refine yo [] (tk [0,3,6,9,12,15,19,25]) [7] ?_;obtain⟨x4,ex4,j5h,g⟩:=bu g;refine yu zp (yi j5h (aj.aE ex4)) ?_
 iterate 2 (refine yt zp ?_)
 refine yq g (o.a.cd _ _ _) zp λy6 g=>?_;refine yt zp ?_;cases g;exact yj
/-(*plexus.types.elaborator).call-/
set_option maxHeartbeats 0 in
theorem Ps {n} (o:Of n):HV (qG (Gf n)):=by
 intro a0 a1 a2 r g;rw[qG]at g;refine yw func123 ntmps123 ?_;refine yc g (o.a.PH _) λy1 g=>?_
 iterate 2 (refine ay g (λ_ g=>?_) λ_ g=>?_)
 exact yP g (o.a.dX _ _);refine ay g (λ_ g=>?_) λ_ g=>?_;refine yf g (o.a.gv _ _ _) λy6 g=>?_;refine yo [0,1,2,3,4,5] [(6,.one)] [] ?_;refine yY g aj.aE λx7 _ _ g=>?_;obtain⟨y9,ey9,g⟩:=aH g (o.a.dT _);refine yl (yC ey9) ?_;refine yk<|ai.eh (rs:=_) rfl (λ_=>ak.nil) rfl rfl rfl rfl func133 rfl zk rfl ntmps133 rfl rfl (yz ?_)
 refine yo [] (tk [0,3,6,9,12,18,21,16,25,27,33,32,37]) [] ?_
 iterate 5 (refine yt zp ?_)
 refine yq g (o.a.cd _ _ _) zp λy10 g=>?_;obtain⟨h11,g⟩:=cx g;refine yk<|ai.jt 9 zp rfl rfl rfl rfl rfl rfl rfl rfl rfl rfl rfl rfl rfl (zo h11) (yz ?_)
 obtain⟨x12,ex12,j13h,g⟩:=bu g;refine yU zp (yr j13h ex12) ?_;refine yt (cP j13h ex12) ?_;refine fX (Int.toNat 0) 0 (ab.aE ex12) j13h ex12 ?_;cases g;exact yj;refine ay g (λ_ g=>?_) λ_ g=>?_;refine yf g (o.a.gv _ _ _) λy15 g=>?_;refine yo [0,1,2,3,4,5] [(6,.one)] [] ?_;refine yY g aj.aE λx16 _ _ g=>?_;obtain⟨y18,ey18,g⟩:=aH g (o.a.dT _);refine yl (yC ey18) ?_;refine yk<|ai.eh (rs:=_) rfl (λ_=>ak.nil) rfl rfl rfl rfl func133 rfl zk rfl ntmps133 rfl rfl (yz ?_)
 refine yo [] (tk [0,3,6,9,12,18,21,16,25,27,33,32,37]) [] ?_
 iterate 5 (refine yt zp ?_)
 refine yq g (o.a.cd _ _ _) zp λy19 g=>?_;obtain⟨h20,g⟩:=cx g;refine yk<|ai.jt 9 zp rfl rfl rfl rfl rfl rfl rfl rfl rfl rfl rfl rfl rfl (zo h20) (yz ?_)
 obtain⟨x21,ex21,j22h,g⟩:=bu g;refine yU zp (yr j22h ex21) ?_;refine yt (cP j22h ex21) ?_;refine fX (Int.toNat 0) 0 (ab.aE ex21) j22h ex21 ?_;cases g;exact yj;refine ay g (λ_ g=>?_) λ_ g=>?_;refine yf g (o.a.gv _ _ _) λy24 g=>?_;refine Ok.stuck aI ?_;refine ai.lN 5 11 32 12 7 rfl rfl rfl ?_;refine yL (S:=Int×(List ab)) (G:=λm s=>ta (Gf m) a0 a1 a2 s.1 s.2) (s0:=(0,[])) 8 [6,10,11,76,77] [78] (λs=>[(78,.d (.v (.int .i64 s.1)))]) (λs=>[(7,.row 32 12 (ab.rows s.2)),(5,.box [.d (.v (.int .i64 23)),.d (.v (.int .i64 a2.aS)),.d (.v (.int .i64 a2.aF.Kind)),.d (.v (.int .i64 a2.aF.Lo)),.d (.v (.int .i64 a2.aF.Hi)),.d (.sl 1 (aW a2.aF.Names)),.d (.sl 6 (af.rows a2.aF.az)),.d (.sl 2 (aK.rows a2.aF.a6)),.d (.v (.int .i64 0)),.d (.v (.string ⟨⟨([])⟩⟩)),.d (.v (.int .i64 0)),.os 7 (ab.rows s.2).length])]) g ?_;rintro n ⟨s25,s37⟩ _ g;change wR (Gf n) a0 a1 a2 s25 s37=_ at g;rw[wR]at g;refine yz ?_;refine bc g λ_ g=>?_;refine yX g aj.aE λx39 _ _ g=>?_;refine yk<|ai.inl (rs:=_) rfl func133 rfl zk rfl ntmps133 rfl rfl (yz ?_)
 refine yo [] (tk [0,3,6,9,12,18,21,16,25,27,33,32,37]) [] ?_
 iterate 5 (refine yt zp ?_)
 refine yq g (o.a.cd _ _ _) zp λy41 g=>?_;obtain⟨h42,g⟩:=cx g;refine yk<|ai.fC (rows2:=(ab.rows ([ab.z]))) zp rfl rfl rfl rfl rfl zg rfl zi rfl rfl (ab.dU _) rfl rfl (zo h42) (yz ?_)
 obtain⟨x43,ex43,j44h,g⟩:=bu g;refine yU zp (yr j44h ex43) ?_;refine yt (cP j44h ex43) ?_;refine fX ((↑(ab.rows s37).length:Int).toNat) 0 (ab.aE ex43) j44h ex43 ?_;obtain⟨x45,ex45,j46h,g⟩:=bu g;refine yv (yr j46h ex45) ?_;refine yv (ym ((IntKind.i64.wrap ((↑(ab.rows s37++ab.rows [ab.z]).length:Int)-1)).toNat) 1 (ab.aE ex45)) ?_
 iterate 2 (refine ay g (λ_ g=>?_) λ_ g=>?_)
 exact yP g (o.a.dX _ _)
 iterate 2 (exact yk (yN (_,_) n ⟨by omega,g⟩))
 refine ay g (λ_ g=>?_) λ_ g=>?_;refine yf g (o.a.gv _ _ _) λy51 g=>?_;refine Ok.stuck aI ?_;refine ai.lN 5 11 32 12 7 rfl rfl rfl ?_;refine yL (S:=Int×(List ab)) (G:=λm s=>wW (Gf m) a0 a1 a2 s.1 s.2) (s0:=(0,[])) 8 [6,9,10,11,114,115] [116] (λs=>[(116,.d (.v (.int .i64 s.1)))]) (λs=>[(7,.row 32 12 (ab.rows s.2)),(5,.box [.d (.v (.int .i64 24)),.d (.v (.int .i64 a2.aS)),.d (.v (.int .i64 a2.aF.Kind)),.d (.v (.int .i64 a2.aF.Lo)),.d (.v (.int .i64 a2.aF.Hi)),.d (.sl 1 (aW a2.aF.Names)),.d (.sl 6 (af.rows a2.aF.az)),.d (.sl 2 (aK.rows a2.aF.a6)),.d (.v (.int .i64 0)),.d (.v (.string ⟨⟨([])⟩⟩)),.d (.v (.int .i64 0)),.os 7 (ab.rows s.2).length])]) g ?_;rintro n ⟨s52,s64⟩ _ g;change wS (Gf n) a0 a1 a2 s52 s64=_ at g;rw[wS]at g;refine yz ?_;refine bc g λ_ g=>?_;refine yX g aj.aE λx66 _ _ g=>?_;refine yo [0,1,2,3,4,5] [(6,.one)] [] ?_;refine yY g aj.aE λx68 _ _ g=>?_;obtain⟨y70,ey70,g⟩:=aH g (o.a.dT _);refine yl (yC ey70) ?_;refine yk<|ai.eh (rs:=_) rfl (λ_=>ak.nil) rfl rfl rfl rfl func133 rfl zk rfl ntmps133 rfl rfl (yz ?_)
 refine yo [] (tk [0,3,6,9,12,18,21,16,25,27,33,32,37]) [] ?_
 iterate 5 (refine yt zp ?_)
 refine yq g (o.a.cd _ _ _) zp λy71 g=>?_;obtain⟨h72,g⟩:=cx g;refine yk<|ai.fC (rows2:=(ab.rows ([ab.z]))) zp rfl rfl rfl rfl rfl zg rfl zi rfl rfl (ab.dU _) rfl rfl (zo h72) (yz ?_)
 obtain⟨x73,ex73,j74h,g⟩:=bu g;refine yU zp (yr j74h ex73) ?_;refine yt (cP j74h ex73) ?_;refine fX ((↑(ab.rows s64).length:Int).toNat) 0 (ab.aE ex73) j74h ex73 ?_;refine yo [0,1,2,3,4,5,6,7,8,9] [(10,.one)] [] ?_;refine yY g aj.aE λx75 _ _ g=>?_;refine yY g af.aE λx77 _ _ g=>?_;obtain⟨y79,ey79,g⟩:=aH g (o.a.fG _);refine yl (yC ey79) ?_;refine yk<|ai.eh (rs:=_) rfl (λ_=>ak.nil) rfl rfl rfl rfl func133 rfl zk rfl ntmps133 rfl rfl (yz ?_)
 refine yo [] (tk [0,3,6,9,12,18,21,16,25,27,33,32,37]) [] ?_
 iterate 5 (refine yt (cP j74h ex73) ?_)
 refine yq g (o.a.cd _ _ _) (cP j74h ex73) λy80 g=>?_;obtain⟨h81,g⟩:=cx g;refine yk<|ai.fC (rows2:=(ab.rows ([ab.z]))) (by repeat(first|exact ak.nil|refine ak.cons rfl (aN.cK (cl:=false) rfl aI) ?_|refine ak.skip rfl ?_|refine ak.cons rfl (yr j74h ex73) ?_|refine ak.cons rfl (dk (cl:=false) rfl aI) ?_)) rfl rfl rfl rfl rfl zg rfl zi rfl rfl (ab.dU _) rfl rfl (zo h81) (yz ?_)
 obtain⟨x82,ex82,j83h,g⟩:=bu g;refine yU zp (yr j83h ex82) ?_;refine yt (gR j74h ex73 j83h ex82) ?_;refine oY ((↑(ab.rows s64++ab.rows [ab.z]).length:Int).toNat) 0 (ab.aE ex82) j74h ex73 j83h ex82 ?_;exact yk (yN (_,_) n ⟨by omega,g⟩);refine ay g (λ_ g=>?_) λ_ g=>?_;refine yf g (o.a.gv _ _ _) λy85 g=>?_;refine yp g (o.a.HW _ _ _) λy86 g=>?_;cases g;exact zl;refine ay g (λ_ g=>?_) λ_ g=>?_;refine yf g (o.a.gv _ _ _) λy88 g=>?_;refine yo [0,1,2,3,4,5,6,7,8,9] [(10,.one)] [] ?_;refine yY g aj.aE λx89 _ _ g=>?_;refine yY g af.aE λx91 _ _ g=>?_;obtain⟨y93,ey93,g⟩:=aH g (o.a.fG _);refine yl (yC ey93) ?_;refine yk<|ai.eh (rs:=_) rfl (λ_=>ak.nil) rfl rfl rfl rfl func133 rfl zk rfl ntmps133 rfl rfl (yz ?_)
 refine yo [] (tk [0,3,6,9,12,18,21,16,25,27,33,32,37]) [] ?_
 iterate 5 (refine yt zp ?_)
 refine yq g (o.a.cd _ _ _) zp λy94 g=>?_;obtain⟨h95,g⟩:=cx g;refine yk<|ai.jt 9 zp rfl rfl rfl rfl rfl rfl rfl rfl rfl rfl rfl rfl rfl (zo h95) (yz ?_)
 obtain⟨x96,ex96,j97h,g⟩:=bu g;refine yU zp (yr j97h ex96) ?_;refine yt (cP j97h ex96) ?_;refine fX (Int.toNat 0) 0 (ab.aE ex96) j97h ex96 ?_;refine yo [0,1,2,3,4,5,6,7,8,9] [(10,.one)] [] ?_;refine yY g aj.aE λx98 _ _ g=>?_;refine yY g af.aE λx100 _ _ g=>?_;obtain⟨y102,ey102,g⟩:=aH g (o.a.fG _);refine yl (yC ey102) ?_;refine yk<|ai.eh (rs:=_) rfl (λ_=>ak.nil) rfl rfl rfl rfl func133 rfl zk rfl ntmps133 rfl rfl (yz ?_)
 refine yo [] (tk [0,3,6,9,12,18,21,16,25,27,33,32,37]) [] ?_
 iterate 5 (refine yt (cP j97h ex96) ?_)
 refine yq g (o.a.cd _ _ _) (cP j97h ex96) λy103 g=>?_;obtain⟨h104,g⟩:=cx g;refine yk<|ai.fC (rows2:=(ab.rows ([ab.z]))) (by repeat(first|exact ak.nil|refine ak.cons rfl (aN.cK (cl:=false) rfl aI) ?_|refine ak.skip rfl ?_|refine ak.cons rfl (yr j97h ex96) ?_|refine ak.cons rfl (dk (cl:=false) rfl aI) ?_)) rfl rfl rfl rfl rfl zg rfl zi rfl rfl (ab.dU _) rfl rfl (zo h104) (yz ?_)
 obtain⟨x105,ex105,j106h,g⟩:=bu g;refine yU zp (yr j106h ex105) ?_;refine yt (gR j97h ex96 j106h ex105) ?_;refine oY (Int.toNat 1) 0 (ab.aE ex105) j97h ex96 j106h ex105 ?_;cases g;exact yj;refine ay g (λ_ g=>?_) λ_ g=>?_;refine yf g (o.a.gv _ _ _) λy108 g=>?_;refine yo [0,1,2,3,4,5] [(6,.one)] [] ?_;refine yY g aj.aE λx109 _ _ g=>?_;obtain⟨y111,ey111,g⟩:=aH g (o.a.dT _);refine yl (yC ey111) ?_;refine yk<|ai.eh (rs:=_) rfl (λ_=>ak.nil) rfl rfl rfl rfl func133 rfl zk rfl ntmps133 rfl rfl (yz ?_)
 refine yo [] (tk [0,3,6,9,12,18,21,16,25,27,33,32,37]) [] ?_
 iterate 5 (refine yt zp ?_)
 refine yq g (o.a.cd _ _ _) zp λy112 g=>?_;obtain⟨h113,g⟩:=cx g;refine yk<|ai.jt 9 zp rfl rfl rfl rfl rfl rfl rfl rfl rfl rfl rfl rfl rfl (zo h113) (yz ?_)
 obtain⟨x114,ex114,j115h,g⟩:=bu g;refine yU zp (yr j115h ex114) ?_;refine yt (cP j115h ex114) ?_;refine fX (Int.toNat 0) 0 (ab.aE ex114) j115h ex114 ?_;cases g;exact yj;refine ay g (λ_ g=>?_) λ_ g=>?_;refine yc g (o.a.fG _) λy117 g=>?_;refine yo [0,1,2,3,4,5,6] [(7,.one)] [] ?_;refine yY g aj.aE λx118 _ _ g=>?_;refine yk<|ai.eh (rs:=_) rfl (λ_=>ak.nil) rfl rfl rfl rfl func133 rfl zk rfl ntmps133 rfl rfl (yz ?_)
 refine yo [] (tk [0,3,6,9,12,18,21,16,25,27,33,32,37]) [] ?_
 iterate 5 (refine yt zp ?_)
 refine yq g (o.a.cd _ _ _) zp λy120 g=>?_;obtain⟨h121,g⟩:=cx g;refine yk<|ai.jt 8 zp rfl rfl rfl rfl rfl rfl rfl rfl rfl rfl rfl rfl rfl (zo h121) (yz ?_)
 obtain⟨x122,ex122,j123h,g⟩:=bu g;refine yU zp (yr j123h ex122) ?_;refine yt (cP j123h ex122) ?_;refine fX (Int.toNat 0) 0 (ab.aE ex122) j123h ex122 ?_;refine yo [0,1,2,3,4,5] [(6,.one)] [] ?_;refine yY g aj.aE λx124 _ _ g=>?_;obtain⟨y126,ey126,g⟩:=aH g (o.a.dT _);refine yl (yC ey126) ?_;refine yk<|ai.eh (rs:=_) rfl (λ_=>ak.nil) rfl rfl rfl rfl func133 rfl zk rfl ntmps133 rfl rfl (yz ?_)
 refine yo [] (tk [0,3,6,9,12,18,21,16,25,27,33,32,37]) [] ?_
 iterate 5 (refine yt (cP j123h ex122) ?_)
 refine yq g (o.a.cd _ _ _) (cP j123h ex122) λy127 g=>?_;obtain⟨h128,g⟩:=cx g;refine yk<|ai.fC (rows2:=(ab.rows ([ab.z]))) (by repeat(first|exact ak.nil|refine ak.cons rfl (aN.cK (cl:=false) rfl aI) ?_|refine ak.skip rfl ?_|refine ak.cons rfl (yr j123h ex122) ?_|refine ak.cons rfl (dk (cl:=false) rfl aI) ?_)) rfl rfl rfl rfl rfl zg rfl zi rfl rfl (ab.dU _) rfl rfl (zo h128) (yz ?_)
 obtain⟨x129,ex129,j130h,g⟩:=bu g;refine yU zp (yr j130h ex129) ?_;refine yt (gR j123h ex122 j130h ex129) ?_;refine oY (Int.toNat 1) 0 (ab.aE ex129) j123h ex122 j130h ex129 ?_;refine yo [0,1,2,3,4,5] [(6,.one)] [] ?_;refine yY g aj.aE λx131 _ _ g=>?_;obtain⟨y133,ey133,g⟩:=aH g (o.a.dT _);refine yl (yC ey133) ?_;refine yk<|ai.eh (rs:=_) rfl (λ_=>ak.nil) rfl rfl rfl rfl func133 rfl zk rfl ntmps133 rfl rfl (yz ?_)
 refine yo [] (tk [0,3,6,9,12,18,21,16,25,27,33,32,37]) [] ?_
 iterate 5 (refine yt (gR j123h ex122 j130h ex129) ?_)
 refine yq g (o.a.cd _ _ _) (gR j123h ex122 j130h ex129) λy134 g=>?_;obtain⟨h135,g⟩:=cx g;refine yk<|ai.fC (rows2:=(ab.rows ([ab.z]))) (by repeat(first|exact ak.nil|refine ak.cons rfl (aN.cK (cl:=false) rfl aI) ?_|refine ak.skip rfl ?_|refine ak.cons rfl (yr j123h ex122) ?_|refine ak.cons rfl (yr j130h ex129) ?_|refine ak.cons rfl (dk (cl:=false) rfl aI) ?_)) rfl rfl rfl rfl rfl zg rfl zi rfl rfl (ab.dU _) rfl rfl (zo h135) (yz ?_)
 obtain⟨x136,ex136,j137h,g⟩:=bu g;refine yU zp (yr j137h ex136) ?_;refine yt (Ir j123h ex122 j130h ex129 j137h ex136) ?_;refine yk<|ai.sw (Int.toNat 2) 0 (by repeat(first|exact ak.nil|refine ak.cons rfl (aN.cK (cl:=false) rfl aI) ?_|refine ak.skip rfl ?_|refine ak.cons rfl (yr j123h ex122) ?_|refine ak.cons rfl (yr j130h ex129) ?_|refine ak.cons rfl (yr j137h ex136) ?_|refine ak.cons rfl (dk (cl:=false) rfl aI) ?_)) (by rfl) (by rfl) (by rfl) (by rfl) (by rfl) (by rfl) (by rfl) (by rfl) (by rfl) (by rfl) (yg (ab.aE ex136)) (by rfl) (by rfl) (by rfl) (by rfl) (by rfl) (by rfl) (by rfl) (by rfl) (by rfl) (by rfl) (by rfl) (by rfl) (by rfl) (by rfl) (by rfl) (by repeat(first|exact ak.nil|refine ak.cons rfl (aN.cK (cl:=false) rfl aI) ?_|refine ak.skip rfl ?_|refine ak.cons rfl (yr j123h ex122) ?_|refine ak.cons rfl (yr j130h ex129) ?_|refine ak.cons rfl (yr j137h ex136) ?_|refine ak.cons rfl (dk (cl:=false) rfl aI) ?_)) (by repeat(first|exact ak.nil|refine ak.cons rfl (aN.cK (cl:=false) rfl aI) ?_|refine ak.skip rfl ?_|refine ak.cons rfl (yr j123h ex122) ?_|refine ak.cons rfl (yr j130h ex129) ?_|refine ak.cons rfl (yr j137h ex136) ?_|refine ak.cons rfl (dk (cl:=false) rfl aI) ?_)) (yz ?_)
 cases g;exact yj;refine yp g (o.a.HX _ _) λy138 g=>?_;cases g;exact zl;refine ay g (λ_ g=>?_) λ_ g=>?_;refine yf g (o.a.gv _ _ _) λy140 g=>?_;refine yo [0,1,2,3,4,5] [(6,.one)] [] ?_;refine yY g aj.aE λx141 _ _ g=>?_;obtain⟨y143,ey143,g⟩:=aH g (o.a.dT _);refine yl (yC ey143) ?_;refine yk<|ai.eh (rs:=_) rfl (λ_=>ak.nil) rfl rfl rfl rfl func133 rfl zk rfl ntmps133 rfl rfl (yz ?_)
 refine yo [] (tk [0,3,6,9,12,18,21,16,25,27,33,32,37]) [] ?_
 iterate 5 (refine yt zp ?_)
 refine yq g (o.a.cd _ _ _) zp λy144 g=>?_;obtain⟨h145,g⟩:=cx g;refine yk<|ai.jt 9 zp rfl rfl rfl rfl rfl rfl rfl rfl rfl rfl rfl rfl rfl (zo h145) (yz ?_)
 obtain⟨x146,ex146,j147h,g⟩:=bu g;refine yU zp (yr j147h ex146) ?_;refine yt (cP j147h ex146) ?_;refine fX (Int.toNat 0) 0 (ab.aE ex146) j147h ex146 ?_;cases g;exact yj;refine ay g (λ_ g=>?_) λ_ g=>?_;refine yf g (o.a.gv _ _ _) λy149 g=>?_;refine yo [0,1,2,3,4,5] [(6,.one)] [] ?_;refine yY g aj.aE λx150 _ _ g=>?_;obtain⟨y152,ey152,g⟩:=aH g (o.a.dT _);refine yl (yC ey152) ?_;refine yk<|ai.eh (rs:=_) rfl (λ_=>ak.nil) rfl rfl rfl rfl func133 rfl zk rfl ntmps133 rfl rfl (yz ?_)
 refine yo [] (tk [0,3,6,9,12,18,21,16,25,27,33,32,37]) [] ?_
 iterate 5 (refine yt zp ?_)
 refine yq g (o.a.cd _ _ _) zp λy153 g=>?_;obtain⟨h154,g⟩:=cx g;refine yk<|ai.jt 9 zp rfl rfl rfl rfl rfl rfl rfl rfl rfl rfl rfl rfl rfl (zo h154) (yz ?_)
 obtain⟨x155,ex155,j156h,g⟩:=bu g;refine yU zp (yr j156h ex155) ?_;refine yt (cP j156h ex155) ?_;refine fX (Int.toNat 0) 0 (ab.aE ex155) j156h ex155 ?_;cases g;exact yj;refine ay g (λ_ g=>?_) λ_ g=>?_;refine yf g (o.a.gv _ _ _) λy158 g=>?_;refine Ok.stuck aI ?_;refine ai.lN 5 11 32 12 7 rfl rfl rfl ?_;refine yL (S:=Int×(List ab)) (G:=λm s=>ju (Gf m) a0 a1 a2 s.1 s.2) (s0:=(0,[])) 8 [6,10,11,76,77] [78] (λs=>[(78,.d (.v (.int .i64 s.1)))]) (λs=>[(7,.row 32 12 (ab.rows s.2)),(5,.box [.d (.v (.int .i64 23)),.d (.v (.int .i64 a2.aS)),.d (.v (.int .i64 a2.aF.Kind)),.d (.v (.int .i64 a2.aF.Lo)),.d (.v (.int .i64 a2.aF.Hi)),.d (.sl 1 (aW a2.aF.Names)),.d (.sl 6 (af.rows a2.aF.az)),.d (.sl 2 (aK.rows a2.aF.a6)),.d (.v (.int .i64 0)),.d (.v (.string ⟨⟨([])⟩⟩)),.d (.v (.int .i64 0)),.os 7 (ab.rows s.2).length])]) g ?_;rintro n ⟨s159,s171⟩ _ g;change nr (Gf n) a0 a1 a2 s159 s171=_ at g;rw[nr]at g;refine yz ?_;refine bc g λ_ g=>?_;refine yX g aj.aE λx173 _ _ g=>?_;refine yk<|ai.inl (rs:=_) rfl func133 rfl zk rfl ntmps133 rfl rfl (yz ?_)
 refine yo [] (tk [0,3,6,9,12,18,21,16,25,27,33,32,37]) [] ?_
 iterate 5 (refine yt zp ?_)
 refine yq g (o.a.cd _ _ _) zp λy175 g=>?_;obtain⟨h176,g⟩:=cx g;refine yk<|ai.fC (rows2:=(ab.rows ([ab.z]))) zp rfl rfl rfl rfl rfl zg rfl zi rfl rfl (ab.dU _) rfl rfl (zo h176) (yz ?_)
 obtain⟨x177,ex177,j178h,g⟩:=bu g;refine yU zp (yr j178h ex177) ?_;refine yt (cP j178h ex177) ?_;refine fX ((↑(ab.rows s171).length:Int).toNat) 0 (ab.aE ex177) j178h ex177 ?_;obtain⟨x179,ex179,j180h,g⟩:=bu g;refine yv (yr j180h ex179) ?_;refine yv (ym ((IntKind.i64.wrap ((↑(ab.rows s171++ab.rows [ab.z]).length:Int)-1)).toNat) 1 (ab.aE ex179)) ?_
 iterate 2 (refine ay g (λ_ g=>?_) λ_ g=>?_)
 exact yP g (o.a.dX _ _)
 iterate 2 (exact yk (yN (_,_) n ⟨by omega,g⟩))
 refine ay g (λ_ g=>?_) λ_ g=>?_;refine yf g (o.a.gv _ _ _) λy185 g=>?_;refine Ok.stuck aI ?_;refine ai.lN 5 11 32 12 7 rfl rfl rfl ?_;refine yL (S:=Int×(List ab)) (G:=λm s=>kP (Gf m) a0 a1 a2 s.1 s.2) (s0:=(0,[])) 8 [6,9,10,11,114,115] [116] (λs=>[(116,.d (.v (.int .i64 s.1)))]) (λs=>[(7,.row 32 12 (ab.rows s.2)),(5,.box [.d (.v (.int .i64 24)),.d (.v (.int .i64 a2.aS)),.d (.v (.int .i64 a2.aF.Kind)),.d (.v (.int .i64 a2.aF.Lo)),.d (.v (.int .i64 a2.aF.Hi)),.d (.sl 1 (aW a2.aF.Names)),.d (.sl 6 (af.rows a2.aF.az)),.d (.sl 2 (aK.rows a2.aF.a6)),.d (.v (.int .i64 0)),.d (.v (.string ⟨⟨([])⟩⟩)),.d (.v (.int .i64 0)),.os 7 (ab.rows s.2).length])]) g ?_;rintro n ⟨s186,s198⟩ _ g;change nw (Gf n) a0 a1 a2 s186 s198=_ at g;rw[nw]at g;refine yz ?_;refine bc g λ_ g=>?_;refine yX g aj.aE λx200 _ _ g=>?_;refine yo [0,1,2,3,4,5] [(6,.one)] [] ?_;refine yY g aj.aE λx202 _ _ g=>?_;obtain⟨y204,ey204,g⟩:=aH g (o.a.dT _);refine yl (yC ey204) ?_;refine yk<|ai.eh (rs:=_) rfl (λ_=>ak.nil) rfl rfl rfl rfl func133 rfl zk rfl ntmps133 rfl rfl (yz ?_)
 refine yo [] (tk [0,3,6,9,12,18,21,16,25,27,33,32,37]) [] ?_
 iterate 5 (refine yt zp ?_)
 refine yq g (o.a.cd _ _ _) zp λy205 g=>?_;obtain⟨h206,g⟩:=cx g;refine yk<|ai.fC (rows2:=(ab.rows ([ab.z]))) zp rfl rfl rfl rfl rfl zg rfl zi rfl rfl (ab.dU _) rfl rfl (zo h206) (yz ?_)
 obtain⟨x207,ex207,j208h,g⟩:=bu g;refine yU zp (yr j208h ex207) ?_;refine yt (cP j208h ex207) ?_;refine fX ((↑(ab.rows s198).length:Int).toNat) 0 (ab.aE ex207) j208h ex207 ?_;refine yo [0,1,2,3,4,5,6,7,8,9] [(10,.one)] [] ?_;refine yY g aj.aE λx209 _ _ g=>?_;refine yY g af.aE λx211 _ _ g=>?_;obtain⟨y213,ey213,g⟩:=aH g (o.a.fG _);refine yl (yC ey213) ?_;refine yk<|ai.eh (rs:=_) rfl (λ_=>ak.nil) rfl rfl rfl rfl func133 rfl zk rfl ntmps133 rfl rfl (yz ?_)
 refine yo [] (tk [0,3,6,9,12,18,21,16,25,27,33,32,37]) [] ?_
 iterate 5 (refine yt (cP j208h ex207) ?_)
 refine yq g (o.a.cd _ _ _) (cP j208h ex207) λy214 g=>?_;obtain⟨h215,g⟩:=cx g;refine yk<|ai.fC (rows2:=(ab.rows ([ab.z]))) (by repeat(first|exact ak.nil|refine ak.cons rfl (aN.cK (cl:=false) rfl aI) ?_|refine ak.skip rfl ?_|refine ak.cons rfl (yr j208h ex207) ?_|refine ak.cons rfl (dk (cl:=false) rfl aI) ?_)) rfl rfl rfl rfl rfl zg rfl zi rfl rfl (ab.dU _) rfl rfl (zo h215) (yz ?_)
 obtain⟨x216,ex216,j217h,g⟩:=bu g;refine yU zp (yr j217h ex216) ?_;refine yt (gR j208h ex207 j217h ex216) ?_;refine oY ((↑(ab.rows s198++ab.rows [ab.z]).length:Int).toNat) 0 (ab.aE ex216) j208h ex207 j217h ex216 ?_;exact yk (yN (_,_) n ⟨by omega,g⟩);refine ay g (λ_ g=>?_) λ_ g=>?_;refine yf g (o.a.gv _ _ _) λy219 g=>?_;refine yp g (o.a.HW _ _ _) λy220 g=>?_;cases g;exact zl;refine ay g (λ_ g=>?_) λ_ g=>?_;refine yf g (o.a.gv _ _ _) λy222 g=>?_;refine yo [0,1,2,3,4,5,6,7,8,9] [(10,.one)] [] ?_;refine yY g aj.aE λx223 _ _ g=>?_;refine yY g af.aE λx225 _ _ g=>?_;obtain⟨y227,ey227,g⟩:=aH g (o.a.fG _);refine yl (yC ey227) ?_;refine yk<|ai.eh (rs:=_) rfl (λ_=>ak.nil) rfl rfl rfl rfl func133 rfl zk rfl ntmps133 rfl rfl (yz ?_)
 refine yo [] (tk [0,3,6,9,12,18,21,16,25,27,33,32,37]) [] ?_
 iterate 5 (refine yt zp ?_)
 refine yq g (o.a.cd _ _ _) zp λy228 g=>?_;obtain⟨h229,g⟩:=cx g;refine yk<|ai.jt 9 zp rfl rfl rfl rfl rfl rfl rfl rfl rfl rfl rfl rfl rfl (zo h229) (yz ?_)
 obtain⟨x230,ex230,j231h,g⟩:=bu g;refine yU zp (yr j231h ex230) ?_;refine yt (cP j231h ex230) ?_;refine fX (Int.toNat 0) 0 (ab.aE ex230) j231h ex230 ?_;refine yo [0,1,2,3,4,5,6,7,8,9] [(10,.one)] [] ?_;refine yY g aj.aE λx232 _ _ g=>?_;refine yY g af.aE λx234 _ _ g=>?_;obtain⟨y236,ey236,g⟩:=aH g (o.a.fG _);refine yl (yC ey236) ?_;refine yk<|ai.eh (rs:=_) rfl (λ_=>ak.nil) rfl rfl rfl rfl func133 rfl zk rfl ntmps133 rfl rfl (yz ?_)
 refine yo [] (tk [0,3,6,9,12,18,21,16,25,27,33,32,37]) [] ?_
 iterate 5 (refine yt (cP j231h ex230) ?_)
 refine yq g (o.a.cd _ _ _) (cP j231h ex230) λy237 g=>?_;obtain⟨h238,g⟩:=cx g;refine yk<|ai.fC (rows2:=(ab.rows ([ab.z]))) (by repeat(first|exact ak.nil|refine ak.cons rfl (aN.cK (cl:=false) rfl aI) ?_|refine ak.skip rfl ?_|refine ak.cons rfl (yr j231h ex230) ?_|refine ak.cons rfl (dk (cl:=false) rfl aI) ?_)) rfl rfl rfl rfl rfl zg rfl zi rfl rfl (ab.dU _) rfl rfl (zo h238) (yz ?_)
 obtain⟨x239,ex239,j240h,g⟩:=bu g;refine yU zp (yr j240h ex239) ?_;refine yt (gR j231h ex230 j240h ex239) ?_;refine oY (Int.toNat 1) 0 (ab.aE ex239) j231h ex230 j240h ex239 ?_;cases g;exact yj;refine ay g (λ_ g=>?_) λ_ g=>?_;refine yf g (o.a.gv _ _ _) λy242 g=>?_;refine yo [0,1,2,3,4,5] [(6,.one)] [] ?_;refine yY g aj.aE λx243 _ _ g=>?_;obtain⟨y245,ey245,g⟩:=aH g (o.a.dT _);refine yl (yC ey245) ?_;refine yk<|ai.eh (rs:=_) rfl (λ_=>ak.nil) rfl rfl rfl rfl func133 rfl zk rfl ntmps133 rfl rfl (yz ?_)
 refine yo [] (tk [0,3,6,9,12,18,21,16,25,27,33,32,37]) [] ?_
 iterate 5 (refine yt zp ?_)
 refine yq g (o.a.cd _ _ _) zp λy246 g=>?_;obtain⟨h247,g⟩:=cx g;refine yk<|ai.jt 9 zp rfl rfl rfl rfl rfl rfl rfl rfl rfl rfl rfl rfl rfl (zo h247) (yz ?_)
 obtain⟨x248,ex248,j249h,g⟩:=bu g;refine yU zp (yr j249h ex248) ?_;refine yt (cP j249h ex248) ?_;refine fX (Int.toNat 0) 0 (ab.aE ex248) j249h ex248 ?_;cases g;exact yj;refine ay g (λ_ g=>?_) λ_ g=>?_;refine yc g (o.a.fG _) λy251 g=>?_;refine yo [0,1,2,3,4,5,6] [(7,.one)] [] ?_;refine yY g aj.aE λx252 _ _ g=>?_;refine yk<|ai.eh (rs:=_) rfl (λ_=>ak.nil) rfl rfl rfl rfl func133 rfl zk rfl ntmps133 rfl rfl (yz ?_)
 refine yo [] (tk [0,3,6,9,12,18,21,16,25,27,33,32,37]) [] ?_
 iterate 5 (refine yt zp ?_)
 refine yq g (o.a.cd _ _ _) zp λy254 g=>?_;obtain⟨h255,g⟩:=cx g;refine yk<|ai.jt 8 zp rfl rfl rfl rfl rfl rfl rfl rfl rfl rfl rfl rfl rfl (zo h255) (yz ?_)
 obtain⟨x256,ex256,j257h,g⟩:=bu g;refine yU zp (yr j257h ex256) ?_;refine yt (cP j257h ex256) ?_;refine fX (Int.toNat 0) 0 (ab.aE ex256) j257h ex256 ?_;refine yo [0,1,2,3,4,5] [(6,.one)] [] ?_;refine yY g aj.aE λx258 _ _ g=>?_;obtain⟨y260,ey260,g⟩:=aH g (o.a.dT _);refine yl (yC ey260) ?_;refine yk<|ai.eh (rs:=_) rfl (λ_=>ak.nil) rfl rfl rfl rfl func133 rfl zk rfl ntmps133 rfl rfl (yz ?_)
 refine yo [] (tk [0,3,6,9,12,18,21,16,25,27,33,32,37]) [] ?_
 iterate 5 (refine yt (cP j257h ex256) ?_)
 refine yq g (o.a.cd _ _ _) (cP j257h ex256) λy261 g=>?_;obtain⟨h262,g⟩:=cx g;refine yk<|ai.fC (rows2:=(ab.rows ([ab.z]))) (by repeat(first|exact ak.nil|refine ak.cons rfl (aN.cK (cl:=false) rfl aI) ?_|refine ak.skip rfl ?_|refine ak.cons rfl (yr j257h ex256) ?_|refine ak.cons rfl (dk (cl:=false) rfl aI) ?_)) rfl rfl rfl rfl rfl zg rfl zi rfl rfl (ab.dU _) rfl rfl (zo h262) (yz ?_)
 obtain⟨x263,ex263,j264h,g⟩:=bu g;refine yU zp (yr j264h ex263) ?_;refine yt (gR j257h ex256 j264h ex263) ?_;refine oY (Int.toNat 1) 0 (ab.aE ex263) j257h ex256 j264h ex263 ?_;refine yo [0,1,2,3,4,5] [(6,.one)] [] ?_;refine yY g aj.aE λx265 _ _ g=>?_;obtain⟨y267,ey267,g⟩:=aH g (o.a.dT _);refine yl (yC ey267) ?_;refine yk<|ai.eh (rs:=_) rfl (λ_=>ak.nil) rfl rfl rfl rfl func133 rfl zk rfl ntmps133 rfl rfl (yz ?_)
 refine yo [] (tk [0,3,6,9,12,18,21,16,25,27,33,32,37]) [] ?_
 iterate 5 (refine yt (gR j257h ex256 j264h ex263) ?_)
 refine yq g (o.a.cd _ _ _) (gR j257h ex256 j264h ex263) λy268 g=>?_;obtain⟨h269,g⟩:=cx g;refine yk<|ai.fC (rows2:=(ab.rows ([ab.z]))) (by repeat(first|exact ak.nil|refine ak.cons rfl (aN.cK (cl:=false) rfl aI) ?_|refine ak.skip rfl ?_|refine ak.cons rfl (yr j257h ex256) ?_|refine ak.cons rfl (yr j264h ex263) ?_|refine ak.cons rfl (dk (cl:=false) rfl aI) ?_)) rfl rfl rfl rfl rfl zg rfl zi rfl rfl (ab.dU _) rfl rfl (zo h269) (yz ?_)
 obtain⟨x270,ex270,j271h,g⟩:=bu g;refine yU zp (yr j271h ex270) ?_;refine yt (Ir j257h ex256 j264h ex263 j271h ex270) ?_;refine yk<|ai.sw (Int.toNat 2) 0 (by repeat(first|exact ak.nil|refine ak.cons rfl (aN.cK (cl:=false) rfl aI) ?_|refine ak.skip rfl ?_|refine ak.cons rfl (yr j257h ex256) ?_|refine ak.cons rfl (yr j264h ex263) ?_|refine ak.cons rfl (yr j271h ex270) ?_|refine ak.cons rfl (dk (cl:=false) rfl aI) ?_)) (by rfl) (by rfl) (by rfl) (by rfl) (by rfl) (by rfl) (by rfl) (by rfl) (by rfl) (by rfl) (yg (ab.aE ex270)) (by rfl) (by rfl) (by rfl) (by rfl) (by rfl) (by rfl) (by rfl) (by rfl) (by rfl) (by rfl) (by rfl) (by rfl) (by rfl) (by rfl) (by rfl) (by repeat(first|exact ak.nil|refine ak.cons rfl (aN.cK (cl:=false) rfl aI) ?_|refine ak.skip rfl ?_|refine ak.cons rfl (yr j257h ex256) ?_|refine ak.cons rfl (yr j264h ex263) ?_|refine ak.cons rfl (yr j271h ex270) ?_|refine ak.cons rfl (dk (cl:=false) rfl aI) ?_)) (by repeat(first|exact ak.nil|refine ak.cons rfl (aN.cK (cl:=false) rfl aI) ?_|refine ak.skip rfl ?_|refine ak.cons rfl (yr j257h ex256) ?_|refine ak.cons rfl (yr j264h ex263) ?_|refine ak.cons rfl (yr j271h ex270) ?_|refine ak.cons rfl (dk (cl:=false) rfl aI) ?_)) (yz ?_)
 cases g;exact yj;refine yp g (o.a.HX _ _) λy272 g=>?_;cases g;exact zl
