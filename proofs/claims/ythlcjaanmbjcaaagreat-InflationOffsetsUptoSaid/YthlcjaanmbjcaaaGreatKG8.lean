/- Printed by a program: what functions answer, and that they do. -/
import Derived.Test.YthlcjaanmbjcaaaGreatKG5
set_option linter.all false
set_option maxRecDepth 100000
noncomputable section
namespace Go.Proofs.YthlcjaanmbjcaaaGreat
open Go Go.Bw Go.Proofs.Tryz
/-plexus.plexuslaw21.InflationState-/
theorem w4 {n} (o:Of n):C4 (B4 (Gf n)):=by
 intro a0 a1 r g;rw[B4]at g;refine yw func4 ntmps4 ?_;refine yc g o.a.c6 λy1 g=>?_;refine aJ g λ_ g=>?_;refine yc g (o.a.c7 _ _) λy3 g=>?_;refine aJ g λ_ g=>?_;refine yc g (o.a.Jx _) λy5 g=>?_;refine yc g (o.a.uL _) λy6 g=>?_;refine yc g (o.a.uL _) λy7 g=>?_;refine yc g (o.a.c9 _ _) λy8 g=>?_;refine yc g (o.a.c9 _ _) λy9 g=>?_
 iterate 4 (refine aJ g λ_ g=>?_)
 refine yc g (o.a.c9 _ _) λy14 g=>?_;refine yc g (o.a.c9 _ _) λy15 g=>?_;refine aJ g λ_ g=>?_;exact eU g
/-plexus.plexusref19.az-/
theorem RC {n} (o:Of n):Ju (uw (Gf n)):=by
 intro a0 r g;rw[uw]at g;refine yw func12 ntmps12 ?_;refine yk<|yL (S:=(List ab)×Int) (G:=λm s=>xp (Gf m) a0 s.1 s.2) (s0:=([a0],0)) 2 [1,2] [3,4] (λs=>[(3,.os 1 (ab.rows s.1).length),(4,.d (.v (.int .i64 s.2)))]) (λs=>[(1,.row 32 12 (ab.rows s.1))]) g ?_;rintro n ⟨s1,s2⟩ _ g;change xo (Gf n) a0 s1 s2=_ at g;rw[xo]at g;refine yz ?_
 refine bc g λ_ g=>?_;refine yX g ab.aE λx4 _ _ g=>?_;refine yc g (o.a.JH _) λy6 g=>?_;obtain⟨h7,g⟩:=cx g;refine yk<|DO.qm (rows2:=(ab.rows y6)) rfl rfl zg rfl (bw.refl _) rfl rfl (ab.dU _) rfl rfl rfl (zo h7) (yz ?_)
 exact yk (yN (_,_) n ⟨by omega,g⟩)
/-plexus.plexuslaw21.found-/
theorem RE {n} (o:Of n):Jv (ru (Gf n)):=by
 intro a0 a1 a2 r g;rw[ru]at g;refine yw func14 ntmps14 ?_;refine yk<|yL (S:=Int) (G:=λm s=>tz (Gf m) a0 a1 a2 s) (s0:=0) 0 [0,1,2,6] [7] (λs=>[(7,.d (.v (.int .i64 s)))]) (λs=>[]) g ?_;rintro n s1 _ g;change xq (Gf n) a0 a1 a2 s1=_ at g;rw[xq]at g;refine yz ?_
 refine bc g λ_ g=>?_;refine yX g ab.aE λx3 _ _ g=>?_;refine ay g (λ_ g=>?_) λ_ g=>?_;refine aJ g λ_ g=>?_;refine yX g ab.aE λx7 _ _ g=>?_;refine aJ g λ_ g=>?_
 iterate 2 (exact yk (yN _ n ⟨by omega,g⟩))
/-plexus.eval.Reads-/
theorem RF {n} (o:Of n):Jw (AB (Gf n)):=by
 intro a0 r g;rw[AB]at g;refine yw func16 ntmps16 ?_;refine aJ g λ_ g=>?_;refine yc g (o.a.NS _) λy2 g=>?_;cases g;exact zl
/-slices.ContainsFunc[[]plexus.api.Expr,plexus.api.Expr]-/
theorem NP {n} (o:Of n):Gv (xr (Gf n)):=by
 intro a0 r g;rw[xr]at g;refine yw func26 ntmps26 ?_;refine yc g (o.a.NT _) λy1 g=>?_;cases g;exact zl
/-slices.IndexFunc[[]plexus.api.Expr,plexus.api.Expr]-/
theorem NQ {n} (o:Of n):Gw (tq (Gf n)):=by
 intro a0 r g;rw[tq]at g;refine yw func43 ntmps43 ?_;refine yk<|yL (S:=Int) (G:=λm s=>vP (Gf m) a0 s) (s0:=0) 0 [0,1,4,7] [8] (λs=>[(8,.d (.v (.int .i64 s)))]) (λs=>[]) g ?_;rintro n s1 _ g;change vO (Gf n) a0 s1=_ at g;rw[vO]at g;refine yz ?_
 refine bc g λ_ g=>?_;refine yX g ab.aE λx3 _ _ g=>?_;refine yc g (o.a.JI _) λy5 g=>?_;refine aJ g λ_ g=>?_;exact yk (yN _ n ⟨by omega,g⟩)
/-plexus.plexuslaw21.InflationOffsets-/
theorem w5 {n} (o:Of n):C5 (B5 (Gf n)):=by
 intro a0 a1 r g;rw[B5]at g;refine yw func5 ntmps5 ?_;refine yc g o.a.c6 λy1 g=>?_;refine aJ g λ_ g=>?_;refine yc g (o.a.c7 _ _) λy3 g=>?_;refine aJ g λ_ g=>?_;refine yc g (o.a.c9 _ _) λy5 g=>?_;refine aJ g λ_ g=>?_;refine yc g (o.a.JH _) λy7 g=>?_;refine ay g (λ_ g=>?_) λ_ g=>?_;refine yc g (o.a.Bu _ _) λy9 g=>?_;refine bc g λ_ g=>?_;refine yc g (o.a.BB _ _ _) λy11 g=>?_;cases g;exact zl;refine yc g (o.a.Bv _ _) λy12 g=>?_;refine aJ g λ_ g=>?_;refine ay g (λ_ g=>?_) λ_ g=>?_;refine yc g (o.a.JI _) λy15 g=>?_;refine aJ g λ_ g=>?_;refine yk<|yL (S:=Int) (G:=λm s=>tP (Gf m) y7 y12 s) (s0:=0) 2 [4,7,10] [12] (λs=>[(12,.d (.v (.int .i64 s)))]) (λs=>[]) g ?_;rintro n s17 _ g;change xR (Gf n) y7 y12 s17=_ at g;rw[xR]at g;refine yz ?_
 refine bc g λ_ g=>?_;refine yo [0,1,2,3,4,5,6,7,8,9,10,11,12,13,14,15,16,17,18,19,20,21,22] [] [] ?_;refine yY g jl λx19 _ _ g=>?_;obtain⟨y21,ey21,g⟩:=aH g (o.a.BB _ _ _);refine yl (yC ey21) ?_;refine aJ g λ_ g=>?_;refine ay g (λ_ g=>?_) λ_ g=>?_;refine yY g jl λx24 _ _ g=>?_;refine yY g jl λx26 _ _ g=>?_;refine aJ g λ_ g=>?_
 iterate 2 (exact yk (yN _ n ⟨by omega,g⟩))
 refine yk<|yL (S:=Int) (G:=λm s=>tQ (Gf m) y7 y12 s) (s0:=0) 2 [4,7,10] [12] (λs=>[(12,.d (.v (.int .i64 s)))]) (λs=>[]) g ?_;rintro n s29 _ g;change xS (Gf n) y7 y12 s29=_ at g;rw[xS]at g;refine yz ?_
 refine bc g λ_ g=>?_;refine yo [0,1,2,3,4,5,6,7,8,9,10,11,12,13,14,15,16,17,18,19,20,21,22] [] [] ?_;refine yY g jl λx31 _ _ g=>?_;obtain⟨y33,ey33,g⟩:=aH g (o.a.BB _ _ _);refine yl (yC ey33) ?_;refine aJ g λ_ g=>?_;refine ay g (λ_ g=>?_) λ_ g=>?_;refine yY g jl λx36 _ _ g=>?_;refine yY g jl λx38 _ _ g=>?_;refine aJ g λ_ g=>?_
 iterate 2 (exact yk (yN _ n ⟨by omega,g⟩))
