/- Printed by a program: what functions answer, and that they do. -/
import Derived.Test.YtfgnmgbiijpkiaaGreatKG3
set_option linter.all false
set_option maxRecDepth 100000
noncomputable section
namespace Go.Proofs.YtfgnmgbiijpkiaaGreat
open Go Go.Bw Go.Proofs.Tryz
/-(*plexus.types.elaborator).together-/
theorem R8 {n} (o:Of n):J6 (qH (Gf n)):=by
 intro a0 a1 a2 a3 a4 r g;rw[qH]at g;refine yw func203 ntmps203 ?_;refine yo [] (tk [0,3,13,16,18]) [2,3] ?_
 iterate 3 (refine yt zp ?_)
 refine yc g (o.a.qA _) λy1 g=>?_;refine aq g (λ_ g=>?_) λ_ g=>?_;refine yc g (o.a.qA _) λy3 g=>?_;refine aq g (λ_ g=>?_) λ_ g=>?_;exact yP g (o.a.eI _ _);refine yo [] (tk [0,3,7,10,12]) [] ?_
 iterate 3 (refine yt zp ?_)
 refine yp g (o.a.cL _ _ _) λy6 g=>?_
 iterate 2 (refine aq g (λ_ g=>?_) λ_ g=>?_)
 exact yP g (o.a.eI _ _);refine yp g (o.a.cL _ _ _) λy10 g=>?_;refine yo [] (tk [0,3,7,10]) [] ?_
 iterate 3 (refine yt zp ?_)
 cases g;exact zl;refine yp g (o.a.cL _ _ _) λy11 g=>?_;refine yo [] (tk [0,3,7,10]) [] ?_
 iterate 3 (refine yt zp ?_)
 cases g;exact zl;refine yp g (o.a.cL _ _ _) λy12 g=>?_
 iterate 2 (refine aq g (λ_ g=>?_) λ_ g=>?_)
 exact yP g (o.a.eI _ _);refine yp g (o.a.cL _ _ _) λy16 g=>?_;refine yo [] (tk [0,3,7,10]) [] ?_
 iterate 3 (refine yt zp ?_)
 cases g;exact zl;refine yp g (o.a.cL _ _ _) λy17 g=>?_;refine yo [] (tk [0,3,7,10]) [] ?_
 iterate 3 (refine yt zp ?_)
 cases g;exact zl
/-plexus.types.Expression-/
theorem UQ {n} (o:Of n):Lw (qZ (Gf n)):=by
 intro a0 a1 a2 a3 r g;rw[qZ]at g;refine yw func18 ntmps18 ?_;refine yk<|af.ct (rs:=_) E5 rfl rfl func47 rfl zk rfl ntmps47 rfl rfl (yz ?_)
 refine yk<|af.cH (t:=8) rfl rfl aT (yz ?_)
 rcases Oz g with⟨c3,c4,ey2,g⟩|⟨y2,ey2,g⟩
 replace ey2:=(o.a.cL _ _ _ _ ey2);refine yk<|af.OA ey2 rfl rfl aT (bP.refl _) (.inr rfl) rfl (yz ?_)
 refine zs g ?_ ?_<;>(clear g;intro h5 g);refine yo [] (tk [0,3,7,10]) [] ?_
 iterate 2 (refine yt zp ?_)
 cases g;exact yj;refine yo [] (tk [0,3,7,10]) [] ?_
 iterate 3 (refine yt zp ?_)
 cases g;exact yj;replace ey2:=(o.a.cL _ _ _ _ ey2);refine yv (yC ey2) ?_;refine yo [] (tk [0,3,7,10]) [] ?_
 iterate 3 (refine yt zp ?_)
 cases g;exact zl
/-plexus.plexuslaw18.fit-/
theorem UR {n} (o:Of n):Lx (qX (Gf n)):=by
 intro a0 r g;rw[qX]at g;refine yw func14 ntmps14 ?_;refine yk<|yL (S:=Bool×Int) (G:=λm s=>mq (Gf m) a0 s.1 s.2) (s0:=(false,0)) 0 [0] [2,3] (λs=>[(2,.d (.v (.bool s.1))),(3,.d (.v (.int .i64 s.2)))]) (λs=>[]) g ?_;rintro n ⟨s1,s2⟩ _ g;change p0 (Gf n) a0 s1 s2=_ at g;rw[p0]at g;refine yz ?_
 refine bU g λ_ g=>?_;refine yX g TParam.aM λx4 _ _ g=>?_;refine bp g λ_ g=>?_;refine yX g TParam.aM λx7 _ _ g=>?_
 iterate 2 (refine bp g λ_ g=>?_)
 refine yk<|yL (S:=Bool×Int) (G:=λm s=>sf (Gf m) a0 s1 s2 x4 x7 s.1 s.2) (s0:=(s1,0)) 0 [0,3] [2,4] (λs=>[(2,.d (.v (.bool s.1))),(4,.d (.v (.int .i64 s.2)))]) (λs=>[]) g ?_;rintro n ⟨s11,s12⟩ _ g;change pZ (Gf n) a0 s1 s2 x4 x7 s11 s12=_ at g;rw[pZ]at g;refine yz ?_
 refine aq g (λ_ g=>?_) λ_ g=>?_;refine yo [0,1,2,3,4,5,6,7,8,9,10] [] [] ?_;refine yY g TParam.aM λx14 _ _ g=>?_;refine yY g TParam.aM λx16 _ _ g=>?_;refine bp g λ_ g=>?_
 iterate 2 (exact yk (yN (_,_) n ⟨by omega,g⟩))
/-plexus.plexusref09.names-/
theorem US {n} (o:Of n):Ly (wM (Gf n)):=by
 intro a0 a1 r g;rw[wM]at g;refine yw func69 ntmps69 ?_;refine bp g λ_ g=>?_;refine yk<|yL (S:=Int) (G:=λm s=>vw (Gf m) a0 a1 s) (s0:=0) 0 [0,1,4] [5] (λs=>[(5,.d (.v (.int .i64 s)))]) (λs=>[]) g ?_;rintro n s2 _ g;change vx (Gf n) a0 a1 s2=_ at g;rw[vx]at g;refine yz ?_
 refine bU g λ_ g=>?_;refine yo [0,1,2,3,4,5,6,7,8] [] [] ?_;refine yY g eM λx4 _ _ g=>?_;refine yY g eM λx6 _ _ g=>?_;refine bp g λ_ g=>?_;exact yk (yN _ n ⟨by omega,g⟩)
/-plexus.plexusref09.Equal-/
theorem UT {n} (o:Of n):Lz (tR (Gf n)):=by
 intro a0 a1 r g;rw[tR]at g;refine yw func29 ntmps29 ?_
 iterate 3 (refine bp g λ_ g=>?_)
 refine yc g (o.a.LP _ _) λy4 g=>?_
 iterate 3 (refine bp g λ_ g=>?_)
 refine yk<|yL (S:=Bool×Int) (G:=λm s=>p5 (Gf m) a0 a1 s.1 s.2) (s0:=(false,0)) 2 [2,3] [4,5] (λs=>[(4,.d (.v (.bool s.1))),(5,.d (.v (.int .i64 s.2)))]) (λs=>[]) g ?_;rintro n ⟨s8,s9⟩ _ g;change p6 (Gf n) a0 a1 s8 s9=_ at g;rw[p6]at g;refine yz ?_
 refine aq g (λ_ g=>?_) λ_ g=>?_;refine yo [0,1,2,3,4,5,6,7,8,9,10,11,12,13,14,15,16,17,18,19,20,21,22,23,24,25,26,27,28] [] [] ?_;refine yY g aV.aM λx11 _ _ g=>?_;refine yY g aV.aM λx13 _ _ g=>?_;refine bp g λ_ g=>?_;refine yY g aV.aM λx16 _ _ g=>?_;refine yY g aV.aM λx18 _ _ g=>?_;obtain⟨y20,ey20,g⟩:=au g (o.a.LP _ _);refine yl (yC ey20) ?_;refine bp g λ_ g=>?_;exact yk (yN (_,_) n ⟨by omega,g⟩);refine yk<|yL (S:=Int) (G:=λm s=>nH (Gf m) a0 a1 s) (s0:=0) 2 [2,3,4,5] [6] (λs=>[(6,.d (.v (.int .i64 s)))]) (λs=>[]) g ?_;rintro n s22 _ g;change p3 (Gf n) a0 a1 s22=_ at g;rw[p3]at g;refine yz ?_
 refine bU g λ_ g=>?_;refine yo [0,1,2,3,4,5,6,7,8,9,10,11] [] [] ?_;refine yY g ai.aM λx24 _ _ g=>?_;refine yY g ai.aM λx26 _ _ g=>?_;obtain⟨y28,ey28,g⟩:=au g (o.a.wH _ _);refine yl (yC ey28) ?_;refine bp g λ_ g=>?_;exact yk (yN _ n ⟨by omega,g⟩)
/-plexus.plexusref09.shape-/
theorem R9 {n} (o:Of n):J7 (sS (Gf n)):=by
 intro a0 r g;rw[sS]at g;refine yw func153 ntmps153 ?_;refine aq g (λh1 g=>?_) λh1 g=>?_;refine yT h1 ?_;refine bp g λ_ g=>?_;refine yF h1 ?_;refine Ok.fY h1 ?_;conv=>(arg 3;whnf)
 exact eH g;refine aq g (λh4 g=>?_) λh4 g=>?_
 iterate 2 (refine bp g λ_ g=>?_)
 refine aq g (λh7 g=>?_) λh7 g=>?_;refine bp g λ_ g=>?_;refine aq g (λ_ g=>?_) λ_ g=>?_;exact eH g;refine Ok.fO h1 ?_;conv=>(arg 3;whnf)
 refine Ok.fO (nS h4) ?_;conv=>(arg 3;whnf)
 refine aq g (λ_ g=>?_) λ_ g=>?_;exact eH g
 iterate 3 (refine bp g λ_ g=>?_)
 refine aq g (λ_ g=>?_) λ_ g=>?_;exact eH g;refine aq g (λ_ g=>?_) λ_ g=>?_;exact eH g;refine Ok.fO (nS h7) ?_;conv=>(arg 3;whnf)
 cases g;exact zl;refine yF (kS h7) ?_;refine Ok.fO h1 ?_;conv=>(arg 3;whnf)
 refine Ok.fO (nS h4) ?_;conv=>(arg 3;whnf)
 iterate 6 (refine yF (kS h7) ?_)
 refine Ok.fY (kS h7) ?_;conv=>(arg 3;whnf)
 exact eH g;refine yT (kS h4) ?_;refine bp g λ_ g=>?_;refine yF (kS h4) ?_;refine Ok.fO h1 ?_;conv=>(arg 3;whnf)
 refine Ok.fY (kS h4) ?_;conv=>(arg 3;whnf)
 exact eH g
/-plexus.plexusref09.Name-/
theorem Sa {n} (o:Of n):J8 (sT (Gf n)):=by
 intro a0 r g;rw[sT]at g;refine yw func194 ntmps194 ?_
 iterate 2 (refine bp g λ_ g=>?_)
 obtain⟨x3,ex3,j4h,g⟩:=bo g;refine yv (aR.toP (aR.dQ ((0:Int).toNat) rfl rfl rfl rfl j4h ex3)) ?_;refine bp g λ_ g=>?_;obtain⟨x6,ex6,j7h,g⟩:=bo g;refine yv (aR.toP (aR.dQ ((0:Int).toNat) rfl rfl rfl rfl j7h ex6)) ?_;refine bp g λ_ g=>?_;refine yk<|yL (S:=Int) (G:=λm s=>jX (Gf m) a0 s) (s0:=0) 0 [0,2] [3] (λs=>[(3,.d (.v (.int .i64 s)))]) (λs=>[]) g ?_;rintro n s9 _ g;change py (Gf n) a0 s9=_ at g;rw[py]at g;refine yz ?_
 refine bU g λ_ g=>?_;obtain⟨x11,ex11,j12h,g⟩:=bo g;refine yv (aR.toP (aR.dQ ((s9:Int).toNat) rfl rfl rfl rfl j12h ex11)) ?_;refine aq g (λ_ g=>?_) λ_ g=>?_;obtain⟨x14,ex14,j15h,g⟩:=bo g;refine yv (aR.toP (aR.dQ ((s9:Int).toNat) rfl rfl rfl rfl j15h ex14)) ?_;refine aq g (λ_ g=>?_) λ_ g=>?_;obtain⟨wQ,ex17,j18h,g⟩:=bo g;refine yv (aR.toP (aR.dQ ((s9:Int).toNat) rfl rfl rfl rfl j18h ex17)) ?_;refine bp g λ_ g=>?_;exact yk (yN _ n ⟨by omega,g⟩);obtain⟨x20,ex20,j21h,g⟩:=bo g;refine yv (aR.toP (aR.dQ ((s9:Int).toNat) rfl rfl rfl rfl j21h ex20)) ?_;refine aq g (λ_ g=>?_) λ_ g=>?_;obtain⟨x23,ex23,j24h,g⟩:=bo g;refine yv (aR.toP (aR.dQ ((s9:Int).toNat) rfl rfl rfl rfl j24h ex23)) ?_;refine bp g λ_ g=>?_
 iterate 2 (exact yk (yN _ n ⟨by omega,g⟩))
 obtain⟨x26,ex26,j27h,g⟩:=bo g;refine yv (aR.toP (aR.dQ ((s9:Int).toNat) rfl rfl rfl rfl j27h ex26)) ?_;refine aq g (λ_ g=>?_) λ_ g=>?_;obtain⟨x29,ex29,j30h,g⟩:=bo g;refine yv (aR.toP (aR.dQ ((s9:Int).toNat) rfl rfl rfl rfl j30h ex29)) ?_;refine aq g (λ_ g=>?_) λ_ g=>?_;obtain⟨x32,ex32,j33h,g⟩:=bo g;refine yv (aR.toP (aR.dQ ((s9:Int).toNat) rfl rfl rfl rfl j33h ex32)) ?_;refine bp g λ_ g=>?_;exact yk (yN _ n ⟨by omega,g⟩);obtain⟨x35,ex35,j36h,g⟩:=bo g;refine yv (aR.toP (aR.dQ ((s9:Int).toNat) rfl rfl rfl rfl j36h ex35)) ?_;refine aq g (λ_ g=>?_) λ_ g=>?_;obtain⟨x38,ex38,j39h,g⟩:=bo g;refine yv (aR.toP (aR.dQ ((s9:Int).toNat) rfl rfl rfl rfl j39h ex38)) ?_;refine bp g λ_ g=>?_
 iterate 3 (exact yk (yN _ n ⟨by omega,g⟩))
/-plexus.plexusref09.In-/
theorem Sb {n} (o:Of n):J9 (qF (Gf n)):=by
 intro a0 a1 r g;rw[qF]at g;refine yw func195 ntmps195 ?_;refine yk<|yL (S:=Int) (G:=λm s=>ni (Gf m) a0 a1 s) (s0:=0) 0 [0,1,4] [5] (λs=>[(5,.d (.v (.int .i64 s)))]) (λs=>[]) g ?_;rintro n s1 _ g;change pz (Gf n) a0 a1 s1=_ at g;rw[pz]at g;refine yz ?_
 refine bU g λ_ g=>?_;refine yX g eM λx3 _ _ g=>?_;refine bp g λ_ g=>?_;exact yk (yN _ n ⟨by omega,g⟩)
/-plexus.plexusref09.Rising-/
theorem Sc {n} (o:Of n):J' (qG (Gf n)):=by
 intro a0 r g;rw[qG]at g;refine yw func196 ntmps196 ?_;refine yk<|yL (S:=Int) (G:=λm s=>mh (Gf m) a0 s) (s0:=0) 0 [0,2] [3] (λs=>[(3,.d (.v (.int .i64 s)))]) (λs=>[]) g ?_;rintro n s1 _ g;change pA (Gf n) a0 s1=_ at g;rw[pA]at g;refine yz ?_
 refine bU g λ_ g=>?_;refine yo [0,1,2,3,4,5,6,7,8,9,10,11,12,13,14,15,16,17,18,19,20,21] [] [] ?_;refine yY g eM λx3 _ _ g=>?_;obtain⟨y5,ey5,g⟩:=au g (o.a.Kk _);refine yl (yC ey5) ?_;refine bp g λ_ g=>?_;refine aq g (λ_ g=>?_) λ_ g=>?_;refine yY g eM λx8 _ _ g=>?_;refine yY g eM λx10 _ _ g=>?_;refine bp g λ_ g=>?_
 iterate 2 (exact yk (yN _ n ⟨by omega,g⟩))
/-plexus.plexusref09.named-/
theorem Sd {n} (o:Of n):Ka (sU (Gf n)):=by
 intro a0 r g;rw[sU]at g;refine yw func154 ntmps154 ?_;refine aq g (λ_ g=>?_) λ_ g=>?_;refine yk<|yL (S:=Int) (G:=λm s=>nj (Gf m) a0 s) (s0:=0) 1 [1,2] [3] (λs=>[(3,.d (.v (.int .i64 s)))]) (λs=>[]) g ?_;rintro n s2 _ g;change pB (Gf n) a0 s2=_ at g;rw[pB]at g;refine yz ?_
 refine bU g λ_ g=>?_;refine yo [0,1,2,3,4,5,6,7,8,9,10,11,12,13,14,15,16,17,18] [] [] ?_;refine yY g eM λx4 _ _ g=>?_;obtain⟨y6,ey6,g⟩:=au g (o.a.Kk _);refine yl (yC ey6) ?_;refine bp g λ_ g=>?_;obtain⟨x8,ex8,g⟩:=eQ g;refine yl (yQ NJ ex8) ?_;refine yY g eM λx10 _ _ g=>?_;obtain⟨y12,ey12,g⟩:=au g (o.a.BX _ _);refine yl (yC ey12) ?_;refine bp g λ_ g=>?_;exact yk (yN _ n ⟨by omega,g⟩);refine yc g (o.a.Kl _) λy14 g=>?_;refine bp g λ_ g=>?_;refine yk<|yL (S:=Bool×Int) (G:=λm s=>nn (Gf m) a0 y14 s.1 s.2) (s0:=(false,0)) 1 [1] [2,4] (λs=>[(2,.d (.v (.bool s.1))),(4,.d (.v (.int .i64 s.2)))]) (λs=>[]) g ?_;rintro n ⟨s16,s17⟩ _ g;change pD (Gf n) a0 y14 s16 s17=_ at g;rw[pD]at g;refine yz ?_
 refine bU g λ_ g=>?_;refine yX g aV.aM λx19 _ _ g=>?_;refine bp g λ_ g=>?_;refine yc g (o.a.Kl _) λy22 g=>?_;refine bp g λ_ g=>?_;refine yc g (o.a.BX _ _) λy24 g=>?_;refine bp g λ_ g=>?_;refine yk<|yL (S:=Bool×Int) (G:=λm s=>nk (Gf m) a0 y14 s16 s17 x19 y22 y24 s.1 s.2) (s0:=(s16,0)) 2 [1,4,5] [2,6] (λs=>[(2,.d (.v (.bool s.1))),(6,.d (.v (.int .i64 s.2)))]) (λs=>[]) g ?_;rintro n ⟨s26,s27⟩ _ g;change pC (Gf n) a0 y14 s16 s17 x19 y22 y24 s26 s27=_ at g;rw[pC]at g;refine yz ?_
 refine aq g (λ_ g=>?_) λ_ g=>?_;refine yo [0,1,2,3,4,5,6,7,8] [] [] ?_;refine yY g eM λx29 _ _ g=>?_;obtain⟨y31,ey31,g⟩:=au g (o.a.BX _ _);refine yl (yC ey31) ?_;refine bp g λ_ g=>?_
 iterate 2 (exact yk (yN (_,_) n ⟨by omega,g⟩))
/-plexus.plexusref09.Chain-/
theorem Se {n} (o:Of n):Kb (sV (Gf n)):=by
 intro a0 r g;rw[sV]at g;refine yw func155 ntmps155 ?_
 iterate 3 (refine bp g λ_ g=>?_)
 iterate 2 (refine bU g λ_ g=>?_)
 refine yX g ai.aM λx6 _ _ g=>?_;refine yc g (o.a.BZ _) λy8 g=>?_;refine bU g λ_ g=>?_;refine yX g ai.aM λx10 _ _ g=>?_;refine yc g (o.a.BZ _) λy12 g=>?_;cases g;exact zl
/-plexus.plexusref09.node-/
theorem UU {n} (o:Of n):LA (tT (Gf n)):=by
 intro a0 a1 a2 r g;rw[tT]at g;refine yw func90 ntmps90 ?_;refine aq g (λh1 g=>?_) λ_ g=>?_;refine yF h1 ?_
 iterate 2 (refine bp g λ_ g=>?_)
 refine yc g (o.a.BW _) λy4 g=>?_
 iterate 3 (refine bp g λ_ g=>?_)
 refine yc g (o.a.BY _) λy8 g=>?_
 iterate 4 (refine bp g λ_ g=>?_)
 refine yF h1 ?_;cases g;exact zl;refine aq g (λh13 g=>?_) λ_ g=>?_
 iterate 2 (refine bp g λ_ g=>?_)
 refine yc g (o.a.BW _) λy16 g=>?_
 iterate 3 (refine bp g λ_ g=>?_)
 refine yc g (o.a.BY _) λy20 g=>?_
 iterate 4 (refine bp g λ_ g=>?_)
 refine yF h13 ?_;cases g;exact zl
 iterate 2 (refine bp g λ_ g=>?_)
 refine yc g (o.a.BW _) λy27 g=>?_
 iterate 3 (refine bp g λ_ g=>?_)
 refine yc g (o.a.BY _) λy31 g=>?_
 iterate 4 (refine bp g λ_ g=>?_)
 refine bU g λ_ g=>?_;refine yX g ai.aM λx37 _ _ g=>?_;refine yc g (o.a.BZ _) λy39 g=>?_;exact eH g
/-plexus.plexusref09.walk-/
theorem UW {n} (o:Of n):LB (tU (Gf n)):=by
 intro a0 a1 a2 r g;rw[tU]at g;refine yw func46 ntmps46 ?_;refine yc g (o.a.Vc _ _ _) λy1 g=>?_;refine bp g λ_ g=>?_;refine yk<|yL (S:=Int×Int) (G:=λm s=>nI (Gf m) a0 a1 s.1 s.2) (s0:=(IntKind.i64.wrap (a2+1),0)) 1 [1,3,6,7] [9,10] (λs=>[(9,.d (.v (.int .i64 s.1))),(10,.d (.v (.int .i64 s.2)))]) (λs=>[]) g ?_;rintro n ⟨s3,s4⟩ _ g;change p7 (Gf n) a0 a1 s3 s4=_ at g;rw[p7]at g;refine yz ?_
 refine bU g λ_ g=>?_;refine yX g ai.aM λx6 _ _ g=>?_;refine yc g (o.a.LQ _ _ _) λy8 g=>?_;refine bp g λ_ g=>?_;exact yk (yN (_,_) n ⟨by omega,g⟩)
/-plexus.plexusref09.Check-/
theorem UX {n} (o:Of n):LC (tV (Gf n)):=by
 intro a0 r g;rw[tV]at g;refine yw func15 ntmps15 ?_;refine yc g (o.a.LQ _ _ _) λy1 g=>?_;cases g;exact zl
/-plexus.plexuslaw18.expected-/
theorem UY {n} (o:Of n):LD (tW (Gf n)):=by
 intro a0 r g;rw[tW]at g;refine yw func16 ntmps16 ?_;refine aq g (λ_ g=>?_) λ_ g=>?_
 iterate 2 (refine bU g λ_ g=>?_)
 refine yc g (o.a.wH _ _) λy4 g=>?_;cases g;exact zl;refine yc g (o.a.wH _ _) λy5 g=>?_;refine bp g λ_ g=>?_;refine yc g (o.a.LR _) λy7 g=>?_;cases g;exact zl
/-plexus.plexusref02.Has-/
theorem UZ {n} (o:Of n):LF (qY (Gf n)):=by
 intro a0 a1 r g;rw[qY]at g;refine yw func42 ntmps42 ?_;refine yk<|yL (S:=Int) (G:=λm s=>si (Gf m) a0 a1 s) (s0:=0) 0 [0,1,4] [5] (λs=>[(5,.d (.v (.int .i64 s)))]) (λs=>[]) g ?_;rintro n s1 _ g;change p8 (Gf n) a0 a1 s1=_ at g;rw[p8]at g;refine yz ?_
 refine bU g λ_ g=>?_;refine yX g eM λx3 _ _ g=>?_;refine bp g λ_ g=>?_;exact yk (yN _ n ⟨by omega,g⟩)
/-plexus.plexusref18.fault-/
theorem U0 {n} (o:Of n):LG (wN (Gf n)):=by
 intro a0 a1 r g;rw[wN]at g;refine yw func41 ntmps41 ?_;cases g;exact zl
/-plexus.plexusref18.Same-/
theorem U1 {n} (o:Of n):LH (tX (Gf n)):=by
 intro a0 a1 r g;rw[tX]at g;refine yw func50 ntmps50 ?_;refine bU g λ_ g=>?_;refine yc g (o.a.wH _ _) λy2 g=>?_;cases g;exact zl
/-plexus.plexusref18.Equal-/
theorem U2 {n} (o:Of n):LI (q0 (Gf n)):=by
 intro a0 a1 r g;rw[q0]at g;refine yw func20 ntmps20 ?_;refine bp g λ_ g=>?_;refine yc g (o.a.LU _ _) λy2 g=>?_
 iterate 5 (refine bp g λ_ g=>?_)
 refine yk<|yL (S:=Int) (G:=λm s=>p9 (Gf m) a0 a1 s) (s0:=0) 2 [2,3,4] [5] (λs=>[(5,.d (.v (.int .i64 s)))]) (λs=>[]) g ?_;rintro n s8 _ g;change nJ (Gf n) a0 a1 s8=_ at g;rw[nJ]at g;refine yz ?_
 refine bU g λ_ g=>?_;refine yo [0,1,2,3,4,5,6,7,8,9,10,11] [] [] ?_;refine yY g ab.aM λx10 _ _ g=>?_;refine yY g ab.aM λx12 _ _ g=>?_;obtain⟨y14,ey14,g⟩:=au g (o.a.LV _ _);refine yl (yC ey14) ?_;refine bp g λ_ g=>?_;exact yk (yN _ n ⟨by omega,g⟩)
/-plexus.plexusref18.sort-/
theorem U3 {n} (o:Of n):LJ (wO (Gf n)):=by
 intro a0 r g;rw[wO]at g;refine yw func88 ntmps88 ?_;cases g;exact yj
/-plexus.plexusref18.of-/
theorem U4 {n} (o:Of n):LK (wP (Gf n)):=by
 intro a0 r g;rw[wP]at g;refine yw func87 ntmps87 ?_;cases g;exact zl
/-plexus.plexusref18.none-/
theorem U5 {n} (o:Of n):LL (tY (Gf n)):=by
 intro a0 r g;rw[tY]at g;refine yw func95 ntmps95 ?_;exact eH g
/-plexus.plexusref18.open-/
theorem Sf {n} (o:Of n):Kc (iv (Gf n)):=by
 intro a0 r g;rw[iv]at g;refine yw func209 ntmps209 ?_;refine bp g λ_ g=>?_;refine aq g (λ_ g=>?_) λ_ g=>?_
 iterate 6 (refine bp g λ_ g=>?_)
 exact eH g;refine aq g (λ_ g=>?_) λ_ g=>?_;refine yX g ae.aM λx11 _ _ g=>?_;refine yc g (o.a.jz _) λy13 g=>?_;refine bU g λ_ g=>?_;refine yX g ae.aM λx15 _ _ g=>?_;refine yc g (o.a.jz _) λy17 g=>?_;cases g;exact zl;refine bU g λ_ g=>?_;refine yX g ae.aM λx19 _ _ g=>?_;refine yc g (o.a.jz _) λy21 g=>?_;refine bU g λ_ g=>?_;refine yX g ae.aM λx23 _ _ g=>?_;refine yc g (o.a.jz _) λy25 g=>?_;cases g;exact zl
/-plexus.plexusref18.count-/
theorem Si {n} (o:Of n):Kd (iX (Gf n)):=by
 intro a0 a1 r g;rw[iX]at g;refine yw func210 ntmps210 ?_
 iterate 4 (refine bp g λ_ g=>?_)
 exact eH g
/-(plexus.plexusref18.Scope).Make-/
theorem U6 {n} (o:Of n):LM (q7 (Gf n)):=by
 intro a0 a1 a2 r g;rw[q7]at g;refine yw func49 ntmps49 ?_;refine yc g (o.a.Ve _ _ _) λy1 g=>?_;refine aq g (λh2 g=>?_) λh2 g=>?_;refine yc g (o.a.Dp _) λy3 g=>?_;refine aq g (λ_ g=>?_) λ_ g=>?_;refine yc g (o.a.LU _ _) λy5 g=>?_;refine aq g (λ_ g=>?_) λ_ g=>?_;refine yc g (o.a.dm _ _) λy7 g=>?_;refine aq g (λ_ g=>?_) λ_ g=>?_;refine yo [] (tk [0,3,7,10]) [] ?_
 iterate 2 (refine yt zp ?_)
 cases g;exact yj;refine yo [] (tk [0,3,7,10]) [] ?_
 iterate 3 (refine yt zp ?_)
 cases g;exact zl;refine Ok.fO (s6 h2) ?_;conv=>(arg 3;whnf)
 refine yo [] (tk [0,3,7,10]) [] ?_
 iterate 3 (refine yt zp ?_)
 cases g;exact zl;refine Ok.fO (s6 h2) ?_;conv=>(arg 3;whnf)
 refine yo [] (tk [0,3,7,10]) [] ?_
 iterate 3 (refine yt zp ?_)
 cases g;exact zl;refine Ok.fY (v7 h2) ?_;conv=>(arg 3;whnf)
 refine yo [] (tk [0,3,7,10]) [] ?_
 iterate 2 (refine yt zp ?_)
 cases g;exact yj
/-(plexus.plexusref18.Scope).make-/
set_option maxHeartbeats 0 in
theorem U7 {n} (o:Of n):LN (q8 (Gf n)):=by
 intro a0 a1 a2 r g;rw[q8]at g;refine yw func94 ntmps94 ?_;refine yc g (o.a.eX _) λy1 g=>?_;refine yc g (o.a.eX _) λy2 g=>?_;refine yc g (o.a.dm _ _) λy3 g=>?_;refine aq g (λ_ g=>?_) λ_ g=>?_;refine yo [] (tk [0,3,6,9,12,16,19]) [] ?_
 iterate 6 (refine yt zp ?_)
 cases g;exact yj;refine aq g (λ_ g=>?_) λ_ g=>?_;refine yo [] (tk [0,3,6,10,13]) [] ?_
 iterate 4 (refine yt zp ?_)
 cases g;exact yj;refine aq g (λ_ g=>?_) λ_ g=>?_;refine yo [] (tk [0,3,6,10,13]) [] ?_
 iterate 4 (refine yt zp ?_)
 cases g;exact yj;refine aq g (λ_ g=>?_) λ_ g=>?_;refine yo [] (tk [0,3,6,9,12,16,19]) [] ?_;obtain⟨y8,ey8,g⟩:=au g (o.a.eX _);refine yu zp (aR.call ey8 rfl rfl) ?_
 iterate 4 (refine yt zp ?_)
 cases g;exact yj;refine aq g (λ_ g=>?_) λ_ g=>?_;refine yk<|yL (S:=Int) (G:=λm s=>nK (Gf m) a0 a1 s) (s0:=0) 10 [3,4,6,7,10,11] [13] (λs=>[(13,.d (.v (.int .i64 s)))]) (λs=>[]) g ?_;rintro n s10 _ g;change nL (Gf n) a0 a1 s10=_ at g;rw[nL]at g;refine yz ?_
 refine aq g (λ_ g=>?_) λ_ g=>?_;refine yo [0,1,2,3,4,5,6,7,8] [] [] ?_;refine yY g TParam.aM λx12 _ _ g=>?_;refine aq g (λ_ g=>?_) λ_ g=>?_;refine yo [] (tk [0,3,6,9,12,15,18,21,24,27,31,34]) [] ?_;refine yt zp ?_;obtain⟨x15,ex15,j16h,g⟩:=bo g;refine yu zp (yi j16h (TParam.aM ex15)) ?_
 iterate 2 (refine yt zp ?_)
 obtain⟨y17,ey17,g⟩:=au g (o.a.eX _);refine yu zp (aR.call ey17 rfl rfl) ?_
 iterate 5 (refine yt zp ?_)
 cases g;exact yj;exact yk (yN _ n ⟨by omega,g⟩);refine yo [0,1,2,3] (tk [13,16]) [] ?_;obtain⟨y18,ey18,g⟩:=au g (o.a.dm _ _);refine yl (yC ey18) ?_;cases g;exact yj;refine aq g (λ_ g=>?_) λ_ g=>?_;refine yo [] (tk [0,3,6,9,12,16,19]) [] ?_;obtain⟨y20,ey20,g⟩:=au g (o.a.jD _);refine yu zp (aR.call ey20 rfl rfl) ?_
 iterate 4 (refine yt zp ?_)
 cases g;exact yj
 iterate 2 (refine aq g (λ_ g=>?_) λ_ g=>?_)
 refine yo [] (tk [0,3,7,10]) [] ?_
 iterate 3 (refine yt zp ?_)
 cases g;exact yj;refine yo [] (tk [0,3,6,10,13]) [] ?_
 iterate 4 (refine yt zp ?_)
 cases g;exact yj;refine aq g (λ_ g=>?_) λ_ g=>?_;refine yo [] (tk [0,3,6,9,12,15,18,21,24,27,37,40]) [10,11] ?_
 iterate 2 (refine yt zp ?_)
 obtain⟨x24,ex24,j25h,g⟩:=bo g;refine yu zp (yi j25h (ae.aM ex24)) ?_
 iterate 2 (refine yt zp ?_)
 obtain⟨y26,ey26,g⟩:=au g (o.a.fR _ _ _);refine yu zp (aR.call ey26 rfl rfl) ?_
 iterate 4 (refine yt zp ?_)
 refine aq g (λ_ g=>?_) λ_ g=>?_;refine yo [] (tk [0,3,7,10]) [] ?_
 iterate 3 (refine yt zp ?_)
 cases g;exact yj;refine yc g (o.a.Dp _) λy28 g=>?_;refine aq g (λ_ g=>?_) λ_ g=>?_;refine yo [0,1,2,3,4,5,6,7,8,9,10,11,12,13,14,15] [(16,.one)] [] ?_;refine yY g ae.aM λx30 _ _ g=>?_;refine yY g ae.aM λx32 _ _ g=>?_;obtain⟨y34,ey34,g⟩:=au g (o.a.B0 _ _ _ _ _);refine yl (yC ey34) ?_;refine aq g (λ_ g=>?_) λ_ g=>?_;refine yo [] (tk [0,3,7,10]) [] ?_
 iterate 3 (refine yt zp ?_)
 cases g;exact yj;refine yo [] (tk [0,3,6,9,12,18,27,16,22,24,31,34]) [] ?_;obtain⟨x36,ex36,j37h,g⟩:=bo g;refine yu zp (yi j37h (ab.aM ex36)) ?_
 iterate 3 (refine yt zp ?_)
 obtain⟨h38,g⟩:=bG g;refine yk<|af.di (rows2:=(ab.rows y34.fst)) zp rfl rfl rfl rfl rfl zg rfl (bQ.refl _) rfl rfl (ab.bS _) rfl rfl (zo h38) (yz ?_)
 iterate 3 (refine yt zp ?_)
 cases g;exact yj;refine yo [0,1,2,3,4,5,6,7,8,9,10,11] [(12,.one)] [] ?_;obtain⟨x39,ex39,g⟩:=eQ g;refine yl (yQ ae.bL ex39) ?_;obtain⟨y41,ey41,g⟩:=au g (o.a.fQ _ _ _);refine yl (yC ey41) ?_;refine aq g (λ_ g=>?_) λ_ g=>?_;refine yo [] (tk [0,3,7,10]) [] ?_
 iterate 3 (refine yt zp ?_)
 cases g;exact yj;refine yo [] (tk [0,3,6,9,12,18,27,16,22,24,31,34]) [] ?_;obtain⟨x43,ex43,j44h,g⟩:=bo g;refine yu zp (yi j44h (ab.aM ex43)) ?_
 iterate 3 (refine yt zp ?_)
 obtain⟨h45,g⟩:=bG g;refine yk<|af.di (rows2:=(ab.rows y41.fst)) zp rfl rfl rfl rfl rfl zg rfl (bQ.refl _) rfl rfl (ab.bS _) rfl rfl (zo h45) (yz ?_)
 iterate 3 (refine yt zp ?_)
 cases g;exact yj;refine aq g (λ_ g=>?_) λ_ g=>?_;refine yk<|af.cH (t:=178) rfl rfl (dX rfl aT) (yz ?_)
 refine yc g (o.a.fQ _ _ _) λy48 g=>?_;refine yo [] (tk [0,3,7,9,13]) [] ?_
 iterate 4 (refine yt zp ?_)
 refine yo [] (tk [0,3,7,10]) [] ?_
 iterate 3 (refine yt zp ?_)
 cases g;exact zl;refine aq g (λ_ g=>?_) λ_ g=>?_;refine yk<|af.cH (t:=194) rfl rfl (dX rfl aT) (yz ?_)
 refine yc g (o.a.fQ _ _ _) λy51 g=>?_;refine yo [] (tk [0,3,7,9,13]) [] ?_
 iterate 4 (refine yt zp ?_)
 refine yo [] (tk [0,3,7,10]) [] ?_
 iterate 3 (refine yt zp ?_)
 cases g;exact zl;refine aq g (λ_ g=>?_) λ_ g=>?_;refine yk<|af.cH (t:=209) rfl rfl (dX rfl aT) (yz ?_)
 refine yc g (o.a.fQ _ _ _) λy54 g=>?_;refine yo [] (tk [0,3,7,9,13]) [] ?_
 iterate 4 (refine yt zp ?_)
 refine yo [] (tk [0,3,7,10]) [] ?_
 iterate 3 (refine yt zp ?_)
 cases g;exact zl;refine aq g (λ_ g=>?_) λ_ g=>?_;refine yk<|af.cH (t:=225) rfl rfl (dX rfl aT) (yz ?_)
 refine yc g (o.a.fQ _ _ _) λy57 g=>?_;refine yo [] (tk [0,3,7,9,13]) [] ?_
 iterate 4 (refine yt zp ?_)
 refine yo [] (tk [0,3,7,10]) [] ?_
 iterate 3 (refine yt zp ?_)
 cases g;exact zl;refine aq g (λ_ g=>?_) λ_ g=>?_;refine yk<|af.cH (t:=241) rfl rfl (dX rfl aT) (yz ?_)
 refine yc g (o.a.fQ _ _ _) λy60 g=>?_;refine yo [] (tk [0,3,7,9,13]) [] ?_
 iterate 4 (refine yt zp ?_)
 refine yo [] (tk [0,3,7,10]) [] ?_
 iterate 3 (refine yt zp ?_)
 cases g;exact zl;refine aq g (λ_ g=>?_) λ_ g=>?_;refine yk<|af.cH (t:=257) rfl rfl (dX rfl aT) (yz ?_)
 refine yc g (o.a.fQ _ _ _) λy63 g=>?_;refine yo [] (tk [0,3,7,9,13]) [] ?_
 iterate 4 (refine yt zp ?_)
 refine yo [] (tk [0,3,7,10]) [] ?_
 iterate 3 (refine yt zp ?_)
 cases g;exact zl;refine aq g (λ_ g=>?_) λ_ g=>?_;refine yk<|af.cH (t:=273) rfl rfl (dX rfl aT) (yz ?_)
 refine yc g (o.a.fQ _ _ _) λy66 g=>?_;refine yo [] (tk [0,3,7,9,13]) [] ?_
 iterate 4 (refine yt zp ?_)
 refine yo [] (tk [0,3,7,10]) [] ?_
 iterate 3 (refine yt zp ?_)
 cases g;exact zl;refine aq g (λ_ g=>?_) λ_ g=>?_;refine yo [0,1,2,3,4,5,6,7] (tk [24,27,30,34,37]) [] ?_;obtain⟨y68,ey68,g⟩:=au g (o.a.eX _);refine yl (yC ey68) ?_;obtain⟨y69,ey69,g⟩:=au g (o.a.eX _);refine yl (yC ey69) ?_;obtain⟨y70,ey70,g⟩:=au g (o.a.fQ _ _ _);refine yl (yC ey70) ?_;refine yo [] (tk [0,3,7,9,13]) [] ?_
 iterate 4 (refine yt zp ?_)
 refine yo [] (tk [0,3,7,10]) [] ?_
 iterate 3 (refine yt zp ?_)
 cases g;exact zl;refine aq g (λ_ g=>?_) λ_ g=>?_;refine yo [] (tk [0,3,6,9,12,15,18,21,24,27,37,40]) [10,11] ?_
 iterate 2 (refine yt zp ?_)
 obtain⟨x72,ex72,j73h,g⟩:=bo g;refine yu zp (yi j73h (ae.aM ex72)) ?_
 iterate 2 (refine yt zp ?_)
 obtain⟨y74,ey74,g⟩:=au g (o.a.fR _ _ _);refine yu zp (aR.sG ey74 rfl rfl zi) ?_
 iterate 4 (refine yt zp ?_)
 refine aq g (λ_ g=>?_) λ_ g=>?_;refine yo [] (tk [0,3,7,10]) [] ?_
 iterate 3 (refine yt zp ?_)
 cases g;exact yj;refine aq g (λ_ g=>?_) λ_ g=>?_;refine yo [0,1,2,3,4,5,6] (tk [22,25]) [] ?_;refine yY g ae.aM λx77 _ _ g=>?_;obtain⟨y79,ey79,g⟩:=au g (o.a.dm _ _);refine yl (yC ey79) ?_;cases g;exact yj;refine yo [] (tk [0,3,6,9,12,15,18,21,24,27,30,40,43]) [11,12] ?_
 iterate 2 (refine yt zp ?_)
 obtain⟨x80,ex80,j81h,g⟩:=bo g;refine yu zp (yi j81h (ae.aM ex80)) ?_
 iterate 3 (refine yt zp ?_)
 obtain⟨y82,ey82,g⟩:=au g (o.a.fR _ _ _);refine yu zp (aR.call ey82 rfl rfl) ?_
 iterate 4 (refine yt zp ?_)
 refine yo [] (tk [0,3,6,9,12,15,19,22]) [] ?_
 iterate 7 (refine yt zp ?_)
 cases g;exact yj;refine aq g (λ_ g=>?_) λ_ g=>?_;refine yo [0,1,2,3,4,5,6,7,8,9,10,11,12] (tk [39,42,45,49,52]) [] ?_;refine yY g ae.aM λx84 _ _ g=>?_;refine yY g ae.aM λx86 _ _ g=>?_;obtain⟨y88,ey88,g⟩:=au g (o.a.B0 _ _ _ _ _);refine yl (yC ey88) ?_;refine yo [] (tk [0,3,7,9,13]) [] ?_
 iterate 4 (refine yt zp ?_)
 refine yo [] (tk [0,3,7,10]) [] ?_
 iterate 3 (refine yt zp ?_)
 cases g;exact zl;refine aq g (λ_ g=>?_) λ_ g=>?_;refine yc g (o.a.Dp _) λy90 g=>?_;refine aq g (λ_ g=>?_) λ_ g=>?_;refine yo [0,1,2,3,4,5,6,7,8,9,10,11,12] (tk [39,42,45,49,52]) [] ?_;refine yY g ae.aM λx92 _ _ g=>?_;refine yY g ae.aM λx94 _ _ g=>?_;obtain⟨y96,ey96,g⟩:=au g (o.a.B0 _ _ _ _ _);refine yl (yC ey96) ?_;refine aq g (λ_ g=>?_) λ_ g=>?_;refine yo [0,1] (tk [6,9,12,15,19,21,25]) [] ?_;obtain⟨x98,ex98,j99h,g⟩:=bo g;refine yu zp (yi j99h (ab.aM ex98)) ?_;refine yo [] (tk [0,3,7,10]) [] ?_
 iterate 3 (refine yt zp ?_)
 cases g;exact zl;refine yo [] (tk [0,3,7,10]) [] ?_
 iterate 3 (refine yt zp ?_)
 cases g;exact yj;refine aq g (λ_ g=>?_) λ_ g=>?_;refine yo [] (tk [0,3,7,10]) [] ?_
 iterate 3 (refine yt zp ?_)
 cases g;exact yj;refine yk<|af.cH (t:=394) rfl rfl (dX rfl aT) (yz ?_)
 refine yc g (o.a.fQ _ _ _) λy102 g=>?_;refine aq g (λ_ g=>?_) λ_ g=>?_;refine yo [0,1] (tk [6,9,12,15,19,21,25]) [] ?_;obtain⟨x104,ex104,j105h,g⟩:=bo g;refine yu zp (yi j105h (ab.aM ex104)) ?_;refine yo [] (tk [0,3,7,10]) [] ?_
 iterate 3 (refine yt zp ?_)
 cases g;exact zl;refine yo [] (tk [0,3,7,10]) [] ?_
 iterate 3 (refine yt zp ?_)
 cases g;exact yj;refine aq g (λ_ g=>?_) λ_ g=>?_;refine yk<|af.cH (t:=416) rfl rfl (dX rfl aT) (yz ?_)
 refine yc g (o.a.fQ _ _ _) λy108 g=>?_;refine aq g (λ_ g=>?_) λ_ g=>?_;refine yo [] (tk [0,3,7,10]) [] ?_
 iterate 3 (refine yt zp ?_)
 cases g;exact yj;refine yX g ab.aM λx110 _ _ g=>?_;refine aq g (λ_ g=>?_) λ_ g=>?_;refine yo [] (tk [0,3,7,10]) [] ?_
 iterate 3 (refine yt zp ?_)
 cases g;exact yj;refine yk<|yL (S:=Int) (G:=λm s=>lC (Gf m) a1 y108 x110 s) (s0:=0) 12 [4,6,7,10,11,21] [22] (λs=>[(22,.d (.v (.int .i64 s)))]) (λs=>[]) g ?_;rintro n s113 _ g;change qa (Gf n) a1 y108 x110 s113=_ at g;rw[qa]at g;refine yz ?_
 refine aq g (λ_ g=>?_) λ_ g=>?_;refine yo [0,1,2,3,4,5,6,7] [] [] ?_;refine yY g eM λx115 _ _ g=>?_;refine aq g (λ_ g=>?_) λ_ g=>?_;refine yo [] (tk [0,3,6,9,12,15,18,21,24,27,30,34,37]) [] ?_;refine yt zp ?_;obtain⟨x118,ex118,j119h,g⟩:=bo g;refine yu zp (yi j119h (ai.aM ex118)) ?_;refine yt zp ?_;obtain⟨y120,ey120,g⟩:=au g (o.a.jD _);refine yu zp (aR.call ey120 rfl rfl) ?_
 iterate 7 (refine yt zp ?_)
 cases g;exact zl;exact yk (yN _ n ⟨by omega,g⟩);refine yo [0,1,2,3] (tk [13,16]) [] ?_;obtain⟨y121,ey121,g⟩:=au g (o.a.dm _ _);refine yl (yC ey121) ?_;cases g;exact yj;refine aq g (λ_ g=>?_) λ_ g=>?_;refine yo [] (tk [0,3,6,9,12,15,18,21,24,27,37,40]) [10,11] ?_
 iterate 2 (refine yt zp ?_)
 obtain⟨x123,ex123,j124h,g⟩:=bo g;refine yu zp (yi j124h (ae.aM ex123)) ?_
 iterate 2 (refine yt zp ?_)
 obtain⟨y125,ey125,g⟩:=au g (o.a.fR _ _ _);refine yu zp (aR.sG ey125 rfl rfl zi) ?_
 iterate 4 (refine yt zp ?_)
 refine aq g (λ_ g=>?_) λ_ g=>?_;refine yo [] (tk [0,3,7,10]) [] ?_
 iterate 3 (refine yt zp ?_)
 cases g;exact yj;refine aq g (λ_ g=>?_) λ_ g=>?_;refine yo [] (tk [0,3,7,10]) [] ?_
 iterate 3 (refine yt zp ?_)
 cases g;exact yj;refine yo [] (tk [0,3,6,9,12,15,18,21,24,27,37,40]) [10,11] ?_
 iterate 2 (refine yt zp ?_)
 obtain⟨x128,ex128,j129h,g⟩:=bo g;refine yu zp (yi j129h (ae.aM ex128)) ?_;refine yt zp ?_;obtain⟨y130,ey130,g⟩:=au g (o.a.eX _);refine yu zp (aR.call ey130 rfl rfl) ?_;obtain⟨y131,ey131,g⟩:=au g (o.a.fR _ _ _);refine yu zp (aR.call ey131 rfl rfl) ?_
 iterate 4 (refine yt zp ?_)
 refine yo [] (tk [0,3,6,9,12,15,18,21,24,27,30,33,37,40]) [] ?_;obtain⟨x132,ex132,j133h,g⟩:=bo g;refine yu zp (yi j133h (ai.aM ex132)) ?_;refine yt zp ?_;obtain⟨y134,ey134,g⟩:=au g (o.a.jD _);refine yu zp (aR.call ey134 rfl rfl) ?_
 iterate 7 (refine yt zp ?_)
 cases g;exact yj;refine aq g (λ_ g=>?_) λ_ g=>?_;refine yc g (o.a.Sy _ _ _) λy136 g=>?_;cases g;exact zl;refine yo [] (tk [0,3,7,10]) [] ?_
 iterate 3 (refine yt zp ?_)
 cases g;exact yj
/-(plexus.plexusref18.Scope).together-/
theorem Sj {n} (o:Of n):Ke (sW (Gf n)):=by
 intro a0 a1 a2 a3 a4 r g;rw[sW]at g;refine yw func162 ntmps162 ?_;refine yo [] (tk [0,3,13,16]) [2,3] ?_
 iterate 3 (refine yt zp ?_)
 refine yc g (o.a.jz _) λy1 g=>?_;refine aq g (λ_ g=>?_) λ_ g=>?_;refine yo [] (tk [0,3,7,10]) [] ?_
 iterate 3 (refine yt zp ?_)
 refine yc g (o.a.jz _) λy3 g=>?_;refine aq g (λ_ g=>?_) λ_ g=>?_;refine yc g (o.a.dm _ _) λy5 g=>?_;cases g;exact yj;refine yc g (o.a.fR _ _ _) λy6 g=>?_;refine aq g (λ_ g=>?_) λ_ g=>?_;refine yo [0,1] [(2,.one)] [] ?_;cases g;exact yj
 iterate 2 (refine aq g (λ_ g=>?_) λ_ g=>?_)
 refine yc g (o.a.dm _ _) λy10 g=>?_;cases g;exact yj;refine yc g (o.a.fR _ _ _) λy11 g=>?_;refine aq g (λ_ g=>?_) λ_ g=>?_;refine yo [0,1] [(2,.one)] [] ?_;cases g;exact yj;refine yc g (o.a.jz _) λy13 g=>?_;refine aq g (λ_ g=>?_) λ_ g=>?_;refine yo [0,1,2,3,4] [(5,.one)] [] ?_;cases g;exact yj;refine yo [0,1,2,3,4] [(5,.one)] [] ?_;cases g;exact yj;refine yc g (o.a.fR _ _ _) λy15 g=>?_;refine aq g (λ_ g=>?_) λ_ g=>?_;refine yo [0,1] [(2,.one)] [] ?_;cases g;exact yj;refine yc g (o.a.jz _) λy17 g=>?_;refine aq g (λ_ g=>?_) λ_ g=>?_;refine yo [0,1,2,3,4] [(5,.one)] [] ?_;cases g;exact yj;refine yo [0,1,2,3,4] [(5,.one)] [] ?_;cases g;exact yj;refine yc g (o.a.jz _) λy19 g=>?_;refine aq g (λ_ g=>?_) λ_ g=>?_;refine yc g (o.a.dm _ _) λy21 g=>?_;cases g;exact yj;refine yc g (o.a.fR _ _ _) λy22 g=>?_;refine aq g (λ_ g=>?_) λ_ g=>?_;refine yo [0,1] [(2,.one)] [] ?_;cases g;exact yj
 iterate 2 (refine aq g (λ_ g=>?_) λ_ g=>?_)
 refine yc g (o.a.dm _ _) λy26 g=>?_;cases g;exact yj;refine yc g (o.a.fR _ _ _) λy27 g=>?_;refine aq g (λ_ g=>?_) λ_ g=>?_;refine yo [0,1] [(2,.one)] [] ?_;cases g;exact yj;refine yc g (o.a.jz _) λy29 g=>?_;refine aq g (λ_ g=>?_) λ_ g=>?_;refine yo [0,1,2,3,4] [(5,.one)] [] ?_;cases g;exact yj;refine yo [0,1,2,3,4] [(5,.one)] [] ?_;cases g;exact yj;refine yc g (o.a.fR _ _ _) λy31 g=>?_;refine aq g (λ_ g=>?_) λ_ g=>?_;refine yo [0,1] [(2,.one)] [] ?_;cases g;exact yj;refine yc g (o.a.jz _) λy33 g=>?_;refine aq g (λ_ g=>?_) λ_ g=>?_;refine yo [0,1,2,3,4] [(5,.one)] [] ?_;cases g;exact yj;refine yo [0,1,2,3,4] [(5,.one)] [] ?_;cases g;exact yj
/-(plexus.plexusref18.Scope).list-/
theorem Sk {n} (o:Of n):Kg (mF (Gf n)):=by
 intro a0 a1 a2 r g;rw[mF]at g;refine yw func163 ntmps163 ?_;refine Ok.stuck aT ?_;refine af.kM 6 52 12 3 rfl rfl ?_;refine yL (S:=(List ab)×(List ab)×Int) (G:=λm s=>iP (Gf m) a0 a1 a2 s.1 s.2.1 s.2.2) (s0:=([],[],0)) 4 [1,2,3,7] [6,8,9] (λs=>[(6,.os 3 (ab.rows s.1).length),(8,.os 2 (ab.rows s.2.1).length),(9,.d (.v (.int .i64 s.2.2)))]) (λs=>[(3,.row 52 12 (ab.rows s.1)),(2,.row 52 12 (ab.rows s.2.1))]) g ?_;rintro n ⟨s1,s2,s3⟩ _ g;change pE (Gf n) a0 a1 a2 s1 s2 s3=_ at g;rw[pE]at g;refine yz ?_;refine bU g λ_ g=>?_;refine yo [] (tk [0,3,6,9,12,15,18,21,24,27,30,33,36,46,49]) [13,14] ?_
 iterate 2 (refine yt zp ?_)
 obtain⟨x5,ex5,j6h,g⟩:=bo g;refine yu zp (yi j6h (ae.aM ex5)) ?_
 iterate 3 (refine yt zp ?_)
 obtain⟨x7,ex7,j8h,g⟩:=bo g;refine yu zp (yi j8h (az.aM ex7)) ?_;refine yt zp ?_;obtain⟨y9,ey9,g⟩:=au g (o.a.fR _ _ _);refine yu zp (aR.call ey9 rfl rfl) ?_
 iterate 4 (refine yt zp ?_)
 refine aq g (λ_ g=>?_) λ_ g=>?_;refine yo [0,1] [(2,.one)] [] ?_;cases g;exact yj;refine yk<|af.dP 6 (rows':=ab.rows ([y9.fst])) rfl zi (yz ?_)
 obtain⟨h11,g⟩:=bG g;refine yk<|DO.dL rfl rfl zg rfl rfl zg rfl rfl (ab.bS _) rfl rfl rfl (zo h11) (yz ?_)
 exact yk (yN (_,_,_) n ⟨by omega,g⟩)
/-(plexus.plexusref18.Scope).call-/
theorem Sm {n} (o:Of n):Kh (iY (Gf n)):=by
 intro a0 a1 a2 r g;rw[iY]at g;refine yw func164 ntmps164 ?_;refine yc g (o.a.Sx _ _) λy1 g=>?_;refine aq g (λ_ g=>?_) λ_ g=>?_;refine yc g (o.a.dm _ _) λy3 g=>?_;cases g;exact yj;refine yc g (o.a.jz _) λy4 g=>?_;refine aq g (λ_ g=>?_) λ_ g=>?_;refine yc g (o.a.Sz _ _ _) λy6 g=>?_;cases g;exact zl;refine aq g (λ_ g=>?_) λ_ g=>?_;refine yc g (o.a.jD _) λy8 g=>?_;refine yo [0,1,2,3,4,5,6,7,8,9,10,11,12] [(13,.one)] [] ?_;obtain⟨y9,ey9,g⟩:=au g (o.a.eX _);refine yl (yC ey9) ?_;obtain⟨y10,ey10,g⟩:=au g (o.a.eX _);refine yl (yC ey10) ?_;obtain⟨y11,ey11,g⟩:=au g (o.a.fQ _ _ _);refine yl (yC ey11) ?_;refine yo [] (tk [0,3,6,9,13,16]) [] ?_
 iterate 5 (refine yt zp ?_)
 cases g;exact zl;refine yc g (o.a.SA _ _) λy12 g=>?_;cases g;exact zl
/-(plexus.plexusref18.Scope).construct-/
set_option maxHeartbeats 0 in
theorem Sn {n} (o:Of n):Ki (kn (Gf n)):=by
 intro a0 a1 a2 r g;rw[kn]at g;refine yw func211 ntmps211 ?_;refine aq g (λ_ g=>?_) λ_ g=>?_;refine yo [0,1,2,3,4] [] [] ?_;refine aq g (λ_ g=>?_) λ_ g=>?_;refine yo [0,1,2,3] (tk [13,16]) [] ?_;obtain⟨y3,ey3,g⟩:=au g (o.a.dm _ _);refine yl (yC ey3) ?_;cases g;exact yj;refine yo [0,1,2,3,4,5,6] (tk [21,24,27,31,34]) [] ?_;obtain⟨y4,ey4,g⟩:=au g (o.a.eX _);refine yl (yC ey4) ?_;obtain⟨y5,ey5,g⟩:=au g (o.a.fQ _ _ _);refine yl (yC ey5) ?_;refine yo [] (tk [0,3,7,10]) [] ?_
 iterate 3 (refine yt zp ?_)
 cases g;exact zl;refine aq g (λ_ g=>?_) λ_ g=>?_;refine yo [0,1,2,3,4,5,6,7,8,9] [] [] ?_;refine aq g (λ_ g=>?_) λ_ g=>?_;refine yo [0,1,2,3,4,5,6] (tk [21,24,27,31,34]) [] ?_;obtain⟨y8,ey8,g⟩:=au g (o.a.eX _);refine yl (yC ey8) ?_;obtain⟨y9,ey9,g⟩:=au g (o.a.fQ _ _ _);refine yl (yC ey9) ?_;refine yo [] (tk [0,3,7,10]) [] ?_
 iterate 3 (refine yt zp ?_)
 cases g;exact zl;refine aq g (λ_ g=>?_) λ_ g=>?_;refine yo [0,1,2,3] (tk [13,16]) [] ?_;obtain⟨y11,ey11,g⟩:=au g (o.a.dm _ _);refine yl (yC ey11) ?_;cases g;exact yj;refine yo [0,1,2,3,4,5,6] (tk [21,24,27,31,34]) [] ?_;obtain⟨y12,ey12,g⟩:=au g (o.a.eX _);refine yl (yC ey12) ?_;obtain⟨y13,ey13,g⟩:=au g (o.a.fQ _ _ _);refine yl (yC ey13) ?_;refine yo [] (tk [0,3,7,10]) [] ?_
 iterate 3 (refine yt zp ?_)
 cases g;exact zl;refine aq g (λ_ g=>?_) λ_ g=>?_;refine yo [0,1,2,3,4,5,6,7,8,9] [] [] ?_;refine aq g (λ_ g=>?_) λ_ g=>?_;refine Ok.stuck aT ?_;refine af.fW 6 11 52 12 8 rfl rfl rfl ?_;refine yL (S:=Int×(List ab)×aK) (G:=λm s=>jj (Gf m) a0 a1 a2 s.1 s.2.1 s.2.2) (s0:=(0,[],aK.z)) 9 [3,4,6,7,9,10] [13] (λs=>[(13,.d (.v (.int .i64 s.1)))]) (λs=>[(8,.row 52 12 (ab.rows s.2.1)),(7,.box ((aK.cs s.2.2).map .d)),(6,.box [.d (.v (.int .i64 23)),.d (.v (.int .i64 a2.aS)),.d (.v (.int .i64 a2.aj.Kind)),.d (.v (.int .i64 a2.aj.Lo)),.d (.v (.int .i64 a2.aj.Hi)),.d (.sl 1 (bn a2.aj.Names)),.d (.sl 6 (ai.rows a2.aj.aB)),.d (.sl 2 (aV.rows a2.aj.bw)),.d (.v (.int .i64 0)),.d (.v (.string ⟨⟨([])⟩⟩)),.d (.v (.int .i64 0)),.os 8 (ab.rows s.2.1).length])]) g ?_;rintro n ⟨s16,s28,s29⟩ _ g;change np (Gf n) a0 a1 a2 s16 s28 s29=_ at g;rw[np]at g;refine yz ?_
 iterate 2 (refine aq g (λ_ g=>?_) λ_ g=>?_)
 refine yo [] (tk [0,3,6,9,12,15,18,21,24,27,30,40,43]) [11,12] ?_
 iterate 3 (refine yt zp ?_)
 obtain⟨x32,ex32,j33h,g⟩:=bo g;refine yu zp (yi j33h (ae.aM ex32)) ?_
 iterate 2 (refine yt zp ?_)
 obtain⟨y34,ey34,g⟩:=au g (o.a.fR _ _ _);refine yu zp (aR.sG ey34 rfl rfl zi) ?_
 iterate 4 (refine yt zp ?_)
 iterate 3 (refine aq g (λ_ g=>?_) λ_ g=>?_)
 refine yX g ae.aM λx38 _ _ g=>?_;refine yc g (o.a.dm _ _) λy40 g=>?_;refine yo [] (tk [0,3,6,9,15,13,18,22,25]) [] ?_
 iterate 3 (refine yt zp ?_)
 obtain⟨h41,g⟩:=bG g;refine yk<|af.di (rows2:=(ab.rows ([y34.fst]))) zp rfl rfl rfl rfl rfl zg rfl zi rfl rfl (ab.bS _) rfl rfl (zo h41) (yz ?_)
 iterate 3 (refine yt zp ?_)
 exact yk (yN (_,_,_) n ⟨by omega,g⟩);refine yo [] (tk [0,3,6,9,15,13,18,22,25]) [] ?_
 iterate 3 (refine yt zp ?_)
 obtain⟨h42,g⟩:=bG g;refine yk<|af.di (rows2:=(ab.rows ([y34.fst]))) zp rfl rfl rfl rfl rfl zg rfl zi rfl rfl (ab.bS _) rfl rfl (zo h42) (yz ?_)
 iterate 3 (refine yt zp ?_)
 exact yk (yN (_,_,_) n ⟨by omega,g⟩);refine yo [] (tk [0,3,6,9,15,13,18,22,25]) [] ?_
 iterate 3 (refine yt zp ?_)
 obtain⟨h43,g⟩:=bG g;refine yk<|af.di (rows2:=(ab.rows ([y34.fst]))) zp rfl rfl rfl rfl rfl zg rfl zi rfl rfl (ab.bS _) rfl rfl (zo h43) (yz ?_)
 iterate 3 (refine yt zp ?_)
 exact yk (yN (_,_,_) n ⟨by omega,g⟩);refine yo [] (tk [0,3,6,9,15,13,18,22,25]) [] ?_
 iterate 3 (refine yt zp ?_)
 obtain⟨h44,g⟩:=bG g;refine yk<|af.di (rows2:=(ab.rows ([y34.fst]))) zp rfl rfl rfl rfl rfl zg rfl zi rfl rfl (ab.bS _) rfl rfl (zo h44) (yz ?_)
 iterate 3 (refine yt zp ?_)
 exact yk (yN (_,_,_) n ⟨by omega,g⟩);refine yo [] (tk [0,3,7,10]) [] ?_
 iterate 3 (refine yt zp ?_)
 cases g;exact zl;refine yo [] (tk [0,3,7,10]) [] ?_
 iterate 3 (refine yt zp ?_)
 cases g;exact zl;refine aq g (λ_ g=>?_) λ_ g=>?_;refine yo [0,1,2,3] (tk [13,16]) [] ?_;obtain⟨y46,ey46,g⟩:=au g (o.a.dm _ _);refine yl (yC ey46) ?_;cases g;exact yj;refine Ok.stuck aT ?_;refine af.fW 6 11 52 12 8 rfl rfl rfl ?_;refine yL (S:=Int×(List ab)×aK) (G:=λm s=>jk (Gf m) a0 a1 a2 s.1 s.2.1 s.2.2) (s0:=(0,[],aK.z)) 9 [3,4,6,7,9,10] [13] (λs=>[(13,.d (.v (.int .i64 s.1)))]) (λs=>[(8,.row 52 12 (ab.rows s.2.1)),(7,.box ((aK.cs s.2.2).map .d)),(6,.box [.d (.v (.int .i64 23)),.d (.v (.int .i64 a2.aS)),.d (.v (.int .i64 a2.aj.Kind)),.d (.v (.int .i64 a2.aj.Lo)),.d (.v (.int .i64 a2.aj.Hi)),.d (.sl 1 (bn a2.aj.Names)),.d (.sl 6 (ai.rows a2.aj.aB)),.d (.sl 2 (aV.rows a2.aj.bw)),.d (.v (.int .i64 0)),.d (.v (.string ⟨⟨([])⟩⟩)),.d (.v (.int .i64 0)),.os 8 (ab.rows s.2.1).length])]) g ?_;rintro n ⟨s47,s59,s60⟩ _ g;change nq (Gf n) a0 a1 a2 s47 s59 s60=_ at g;rw[nq]at g;refine yz ?_
 iterate 2 (refine aq g (λ_ g=>?_) λ_ g=>?_)
 refine yo [] (tk [0,3,6,9,12,15,18,21,24,27,30,40,43]) [11,12] ?_
 iterate 3 (refine yt zp ?_)
 obtain⟨x63,ex63,j64h,g⟩:=bo g;refine yu zp (yi j64h (ae.aM ex63)) ?_
 iterate 2 (refine yt zp ?_)
 obtain⟨y65,ey65,g⟩:=au g (o.a.fR _ _ _);refine yu zp (aR.sG ey65 rfl rfl zi) ?_
 iterate 4 (refine yt zp ?_)
 iterate 3 (refine aq g (λ_ g=>?_) λ_ g=>?_)
 refine yX g ae.aM λx69 _ _ g=>?_;refine yc g (o.a.dm _ _) λy71 g=>?_;refine yo [] (tk [0,3,6,9,15,13,18,22,25]) [] ?_
 iterate 3 (refine yt zp ?_)
 obtain⟨h72,g⟩:=bG g;refine yk<|af.di (rows2:=(ab.rows ([y65.fst]))) zp rfl rfl rfl rfl rfl zg rfl zi rfl rfl (ab.bS _) rfl rfl (zo h72) (yz ?_)
 iterate 3 (refine yt zp ?_)
 exact yk (yN (_,_,_) n ⟨by omega,g⟩);refine yo [] (tk [0,3,6,9,15,13,18,22,25]) [] ?_
 iterate 3 (refine yt zp ?_)
 obtain⟨h73,g⟩:=bG g;refine yk<|af.di (rows2:=(ab.rows ([y65.fst]))) zp rfl rfl rfl rfl rfl zg rfl zi rfl rfl (ab.bS _) rfl rfl (zo h73) (yz ?_)
 iterate 3 (refine yt zp ?_)
 exact yk (yN (_,_,_) n ⟨by omega,g⟩);refine yo [] (tk [0,3,6,9,15,13,18,22,25]) [] ?_
 iterate 3 (refine yt zp ?_)
 obtain⟨h74,g⟩:=bG g;refine yk<|af.di (rows2:=(ab.rows ([y65.fst]))) zp rfl rfl rfl rfl rfl zg rfl zi rfl rfl (ab.bS _) rfl rfl (zo h74) (yz ?_)
 iterate 3 (refine yt zp ?_)
 exact yk (yN (_,_,_) n ⟨by omega,g⟩);refine yo [] (tk [0,3,6,9,15,13,18,22,25]) [] ?_
 iterate 3 (refine yt zp ?_)
 obtain⟨h75,g⟩:=bG g;refine yk<|af.di (rows2:=(ab.rows ([y65.fst]))) zp rfl rfl rfl rfl rfl zg rfl zi rfl rfl (ab.bS _) rfl rfl (zo h75) (yz ?_)
 iterate 3 (refine yt zp ?_)
 exact yk (yN (_,_,_) n ⟨by omega,g⟩);refine yo [] (tk [0,3,7,10]) [] ?_
 iterate 3 (refine yt zp ?_)
 cases g;exact zl;refine yo [] (tk [0,3,7,10]) [] ?_
 iterate 3 (refine yt zp ?_)
 cases g;exact zl;refine aq g (λ_ g=>?_) λ_ g=>?_;refine yo [0,1,2,3,4] [] [] ?_;refine aq g (λ_ g=>?_) λ_ g=>?_;refine yo [0,1,2,3] (tk [13,16]) [] ?_;obtain⟨y78,ey78,g⟩:=au g (o.a.dm _ _);refine yl (yC ey78) ?_;cases g;exact yj;refine Ok.stuck aT ?_;refine af.fW 6 11 52 12 8 rfl rfl rfl ?_;refine yL (S:=Int×(List ab)×aK) (G:=λm s=>nr (Gf m) a0 a1 a2 s.1 s.2.1 s.2.2) (s0:=(0,[],aK.z)) 9 [3,4,6,7,8,9,10] [16] (λs=>[(16,.d (.v (.int .i64 s.1)))]) (λs=>[(8,.row 52 12 (ab.rows s.2.1)),(7,.box ((aK.cs s.2.2).map .d)),(6,.box [.d (.v (.int .i64 24)),.d (.v (.int .i64 a2.aS)),.d (.v (.int .i64 a2.aj.Kind)),.d (.v (.int .i64 a2.aj.Lo)),.d (.v (.int .i64 a2.aj.Hi)),.d (.sl 1 (bn a2.aj.Names)),.d (.sl 6 (ai.rows a2.aj.aB)),.d (.sl 2 (aV.rows a2.aj.bw)),.d (.v (.int .i64 0)),.d (.v (.string ⟨⟨([])⟩⟩)),.d (.v (.int .i64 0)),.os 8 (ab.rows s.2.1).length])]) g ?_;rintro n ⟨s79,s91,s92⟩ _ g;change nw (Gf n) a0 a1 a2 s79 s91 s92=_ at g;rw[nw]at g;refine yz ?_
 iterate 2 (refine aq g (λ_ g=>?_) λ_ g=>?_)
 refine yo [0,1,2,3,4,5,6,7,8,9,10,11,12,13,14,15,16,17,18,19] [(20,.one)] [] ?_;refine yY g ae.aM λx95 _ _ g=>?_;obtain⟨y97,ey97,g⟩:=au g (o.a.eX _);refine yl (yC ey97) ?_;refine yY g ai.aM λx98 _ _ g=>?_;obtain⟨y100,ey100,g⟩:=au g (o.a.jD _);refine yl (yC ey100) ?_;obtain⟨y101,ey101,g⟩:=au g (o.a.fQ _ _ _);refine yl (yC ey101) ?_;refine yo [] (tk [0,3,6,12,10,15,19,22]) [] ?_
 iterate 2 (refine yt zp ?_)
 obtain⟨h102,g⟩:=bG g;refine yk<|af.di (rows2:=(ab.rows y101.fst)) zp rfl rfl rfl rfl rfl zg rfl (bQ.refl _) rfl rfl (ab.bS _) rfl rfl (zo h102) (yz ?_)
 iterate 3 (refine yt zp ?_)
 exact yk (yN (_,_,_) n ⟨by omega,g⟩);refine yo [] (tk [0,3,7,10]) [] ?_
 iterate 3 (refine yt zp ?_)
 cases g;exact zl;refine yo [] (tk [0,3,7,10]) [] ?_
 iterate 3 (refine yt zp ?_)
 cases g;exact zl;refine aq g (λ_ g=>?_) λ_ g=>?_;refine yo [0,1,2,3,4] [] [] ?_;refine aq g (λ_ g=>?_) λ_ g=>?_;refine yo [0,1,2,3] (tk [13,16]) [] ?_;obtain⟨y105,ey105,g⟩:=au g (o.a.dm _ _);refine yl (yC ey105) ?_;cases g;exact yj;refine Ok.stuck aT ?_;refine af.fW 6 11 52 12 9 rfl rfl rfl ?_;refine yL (S:=Int×(List ab)) (G:=λm s=>nz (Gf m) a0 a1 a2 s.1 s.2) (s0:=(0,[])) 10 [3,4,6,7,8,9,10,19] [20] (λs=>[(20,.d (.v (.int .i64 s.1)))]) (λs=>[(9,.row 52 12 (ab.rows s.2)),(6,.box [.d (.v (.int .i64 25)),.d (.v (.int .i64 a2.aS)),.d (.v (.int .i64 a2.aj.Kind)),.d (.v (.int .i64 a2.aj.Lo)),.d (.v (.int .i64 a2.aj.Hi)),.d (.sl 1 (bn a2.aj.Names)),.d (.sl 6 (ai.rows a2.aj.aB)),.d (.sl 2 (aV.rows a2.aj.bw)),.d (.v (.int .i64 0)),.d (.v (.string ⟨⟨([])⟩⟩)),.d (.v (.int .i64 0)),.os 9 (ab.rows s.2).length])]) g ?_;rintro n ⟨s106,s118⟩ _ g;change pG (Gf n) a0 a1 a2 s106 s118=_ at g;rw[pG]at g;refine yz ?_;refine aq g (λ_ g=>?_) λ_ g=>?_;refine yo [0,1,2,3,4,5,6,7,8,9,10,11] (tk [37,39,43]) [] ?_;refine yY g ai.aM λx120 _ _ g=>?_;obtain⟨y122,ey122,g⟩:=au g (o.a.jD _);refine yl (yC ey122) ?_;obtain⟨h123,g⟩:=bG g;refine yk<|af.di (rows2:=(ab.rows ([{Op:=6,ak:=y122,N:=0,Text:=[],At:=a1.At,Kids:=[]:ab}]))) aD.nil rfl rfl rfl rfl rfl zg rfl zi rfl rfl (ab.bS _) rfl rfl (zo h123) (yz ?_)
 exact yk (yN (_,_) n ⟨by omega,g⟩);refine yk<|yL (S:=(List (List UInt8))×Int×(List ab)×aK) (G:=λm s=>kK (Gf m) a0 a1 a2 s106 s118 s.1 s.2.1 s.2.2.1 s.2.2.2) (s0:=([],0,s118,aK.z)) 10 [3,4,6,7,8,9,10,20] [19,21] (λs=>[(19,.os 8 (bn s.1).length),(21,.d (.v (.int .i64 s.2.1)))]) (λs=>[(8,.row 9 1 (bn s.1)),(9,.row 52 12 (ab.rows s.2.2.1)),(7,.box ((aK.cs s.2.2.2).map .d)),(6,.box [.d (.v (.int .i64 25)),.d (.v (.int .i64 a2.aS)),.d (.v (.int .i64 a2.aj.Kind)),.d (.v (.int .i64 a2.aj.Lo)),.d (.v (.int .i64 a2.aj.Hi)),.d (.sl 1 (bn a2.aj.Names)),.d (.sl 6 (ai.rows a2.aj.aB)),.d (.sl 2 (aV.rows a2.aj.bw)),.d (.v (.int .i64 0)),.d (.v (.string ⟨⟨([])⟩⟩)),.d (.v (.int .i64 0)),.os 9 (ab.rows s.2.2.1).length])]) g ?_;rintro n ⟨s124,s125,s137,s138⟩ _ g;change ny (Gf n) a0 a1 a2 s106 s118 s124 s125 s137 s138=_ at g;rw[ny]at g;refine yz ?_
 iterate 2 (refine aq g (λ_ g=>?_) λ_ g=>?_)
 refine yk<|yL (S:=Int) (G:=λm s=>mi (Gf m) a0 a1 a2 s106 s118 s124 s125 s137 s138 s) (s0:=0) 10 [3,4,6,7,8,9,10,19,20,21] [22] (λs=>[(22,.d (.v (.int .i64 s)))]) (λs=>[]) g ?_;rintro n s141 _ g;change pF (Gf n) a0 a1 a2 s106 s118 s124 s125 s137 s138 s141=_ at g;rw[pF]at g;refine yz ?_
 refine yo [0,1,2,3,4,5,6,7,8,9,10,11,12,13,14,15,16,17,18] [] [] ?_;refine aq g (λ_ g=>?_) λ_ g=>?_;refine yY g eM λx143 _ _ g=>?_;refine yY g ae.aM λx145 _ _ g=>?_;refine aq g (λ_ g=>?_) λ_ g=>?_;exact yk (yN _ n ⟨by omega,g⟩);refine aq g (λ_ g=>?_) λ_ g=>?_;refine yo [0,1,2,3,4,5,6,7] (tk [25,28]) [] ?_;refine yY g ae.aM λx149 _ _ g=>?_;obtain⟨y151,ey151,g⟩:=au g (o.a.dm _ _);refine yl (yC ey151) ?_;cases g;exact zl;refine yX g ae.aM λx152 _ _ g=>?_;refine yc g (o.a.LS _ _) λy154 g=>?_;refine aq g (λ_ g=>?_) λ_ g=>?_;refine yo [0,1,2,3,4,5,6,7] (tk [25,28]) [] ?_;refine yY g ae.aM λx156 _ _ g=>?_;obtain⟨y158,ey158,g⟩:=au g (o.a.dm _ _);refine yl (yC ey158) ?_;cases g;exact zl;refine yX g ae.aM λx159 _ _ g=>?_;obtain⟨h161,g⟩:=bG g;refine yk<|DO.dL rfl rfl zg rfl rfl zg rfl rfl rfl rfl rfl rfl (zo h161) (yz ?_)
 refine yo [] (tk [0,3,6,9,12,15,18,21,24,27,30,33,36,39,42,45,48,51,54,57,60,63,66,70,73]) [] ?_
 iterate 5 (refine yt zp ?_)
 obtain⟨x162,ex162,j163h,g⟩:=bo g;refine yu zp (yi j163h (ae.aM ex162)) ?_
 iterate 2 (refine yt zp ?_)
 obtain⟨x164,ex164,j165h,g⟩:=bo g;refine yu zp (yi j165h (ae.aM ex164)) ?_
 iterate 4 (refine yt zp ?_)
 obtain⟨x166,ex166,j167h,g⟩:=bo g;refine yu zp (yi j167h (ai.aM ex166)) ?_;refine yt zp ?_;obtain⟨y168,ey168,g⟩:=au g (o.a.jD _);refine yu zp (aR.call ey168 rfl rfl) ?_;obtain⟨y169,ey169,g⟩:=au g (o.a.fR _ _ _);refine yu zp (aR.call ey169 rfl rfl) ?_
 iterate 3 (refine yt zp ?_)
 obtain⟨x170,ex170,j171h,g⟩:=bo g;refine yU zp (yr j171h ex170) ?_;refine yk<|af.oX s141.toNat 0 (by repeat(first|exact aD.nil|refine aD.cons rfl (a8.dk (cl:=false) rfl aT) ?_|refine aD.skip rfl ?_|refine aD.cons rfl (yr j171h ex170) ?_|refine aD.cons rfl (dK (cl:=false) rfl aT) ?_)) (by rfl) (by rfl) (by rfl) (by rfl) (by rfl) (by rfl) (by rfl) (by rfl) zg (by rfl) (yg (ab.aM ex170)) (by rfl) (by rfl) (by rfl) (by rfl) (yz ?_)
 exact yk (yN (_,_,_,_) n ⟨by omega,g⟩);refine aq g (λ_ g=>?_) λ_ g=>?_;refine yo [0,1,2,3,4,5,6,7] (tk [25,28]) [] ?_;refine yY g ae.aM λx173 _ _ g=>?_;obtain⟨y175,ey175,g⟩:=au g (o.a.dm _ _);refine yl (yC ey175) ?_;cases g;exact zl;refine yX g ae.aM λx176 _ _ g=>?_;refine yc g (o.a.LS _ _) λy178 g=>?_;refine aq g (λ_ g=>?_) λ_ g=>?_;refine yo [0,1,2,3,4,5,6,7] (tk [25,28]) [] ?_;refine yY g ae.aM λx180 _ _ g=>?_;obtain⟨y182,ey182,g⟩:=au g (o.a.dm _ _);refine yl (yC ey182) ?_;cases g;exact zl;refine yX g ae.aM λx183 _ _ g=>?_;obtain⟨h185,g⟩:=bG g;refine yk<|DO.dL rfl rfl zg rfl rfl zg rfl rfl rfl rfl rfl rfl (zo h185) (yz ?_)
 refine yo [] (tk [0,3,6,9,12,15,18,21,24,27,30,33,36,39,42,45,48,51,54,57,60,63,66,70,73]) [] ?_
 iterate 5 (refine yt zp ?_)
 obtain⟨x186,ex186,j187h,g⟩:=bo g;refine yu zp (yi j187h (ae.aM ex186)) ?_
 iterate 2 (refine yt zp ?_)
 obtain⟨x188,ex188,j189h,g⟩:=bo g;refine yu zp (yi j189h (ae.aM ex188)) ?_
 iterate 4 (refine yt zp ?_)
 obtain⟨x190,ex190,j191h,g⟩:=bo g;refine yu zp (yi j191h (ai.aM ex190)) ?_;refine yt zp ?_;obtain⟨y192,ey192,g⟩:=au g (o.a.jD _);refine yu zp (aR.call ey192 rfl rfl) ?_;obtain⟨y193,ey193,g⟩:=au g (o.a.fR _ _ _);refine yu zp (aR.call ey193 rfl rfl) ?_
 iterate 3 (refine yt zp ?_)
 obtain⟨x194,ex194,j195h,g⟩:=bo g;refine yU zp (yr j195h ex194) ?_;refine yk<|af.oX s141.toNat 0 (by repeat(first|exact aD.nil|refine aD.cons rfl (a8.dk (cl:=false) rfl aT) ?_|refine aD.skip rfl ?_|refine aD.cons rfl (yr j195h ex194) ?_|refine aD.cons rfl (dK (cl:=false) rfl aT) ?_)) (by rfl) (by rfl) (by rfl) (by rfl) (by rfl) (by rfl) (by rfl) (by rfl) zg (by rfl) (yg (ab.aM ex194)) (by rfl) (by rfl) (by rfl) (by rfl) (yz ?_)
 exact yk (yN (_,_,_,_) n ⟨by omega,g⟩);refine yo [] (tk [0,3,7,10]) [] ?_
 iterate 3 (refine yt zp ?_)
 cases g;exact zl;refine yo [] (tk [0,3,7,10]) [] ?_
 iterate 3 (refine yt zp ?_)
 cases g;exact zl;refine aq g (λ_ g=>?_) λ_ g=>?_;refine yo [0,1,2,3,4] [] [] ?_;refine aq g (λ_ g=>?_) λ_ g=>?_;refine yo [0,1,2,3] (tk [13,16]) [] ?_;obtain⟨y198,ey198,g⟩:=au g (o.a.dm _ _);refine yl (yC ey198) ?_;cases g;exact yj;refine yo [0,1,2,3,4,5,6,7,8,9,10,11,12,13,14,15] (tk [48,51,54,58,61]) [] ?_;refine yY g ai.aM λx199 _ _ g=>?_;obtain⟨y201,ey201,g⟩:=au g (o.a.jD _);refine yl (yC ey201) ?_;refine yY g ai.aM λx202 _ _ g=>?_;obtain⟨y204,ey204,g⟩:=au g (o.a.jD _);refine yl (yC ey204) ?_;obtain⟨y205,ey205,g⟩:=au g (o.a.fQ _ _ _);refine yl (yC ey205) ?_;refine yo [] (tk [0,3,7,10]) [] ?_
 iterate 3 (refine yt zp ?_)
 cases g;exact zl;refine aq g (λ_ g=>?_) λ_ g=>?_;refine yo [0,1,2,3,4] [] [] ?_;refine aq g (λ_ g=>?_) λ_ g=>?_;refine yo [0,1,2,3] (tk [13,16]) [] ?_;obtain⟨y208,ey208,g⟩:=au g (o.a.dm _ _);refine yl (yC ey208) ?_;cases g;exact yj;refine yo [0,1,2,3,4,5,6] (tk [21,24,27,31,34]) [] ?_;obtain⟨y209,ey209,g⟩:=au g (o.a.eX _);refine yl (yC ey209) ?_;obtain⟨y210,ey210,g⟩:=au g (o.a.fQ _ _ _);refine yl (yC ey210) ?_;refine yo [] (tk [0,3,7,10]) [] ?_
 iterate 3 (refine yt zp ?_)
 cases g;exact zl;refine yo [0,1,2,3] (tk [13,16]) [] ?_;obtain⟨y211,ey211,g⟩:=au g (o.a.dm _ _);refine yl (yC ey211) ?_;cases g;exact yj
/-(plexus.plexusref18.Scope).observe-/
set_option maxHeartbeats 0 in
theorem Sp {n} (o:Of n):Kj (sX (Gf n)):=by
 intro a0 a1 r g;rw[sX]at g;refine yw func212 ntmps212 ?_;refine yo [] (tk [0,3,6,9,12,15,18,21,24,27,37,40]) [10,11] ?_
 iterate 2 (refine yt zp ?_)
 obtain⟨x1,ex1,j2h,g⟩:=bo g;refine yu zp (yi j2h (ae.aM ex1)) ?_
 iterate 2 (refine yt zp ?_)
 obtain⟨y3,ey3,g⟩:=au g (o.a.fR _ _ _);refine yu zp (aR.sG ey3 rfl rfl zi) ?_
 iterate 4 (refine yt zp ?_)
 refine aq g (λ_ g=>?_) λ_ g=>?_;refine yo [] (tk [0,3,7,10]) [] ?_
 iterate 2 (refine yt zp ?_)
 cases g;exact yj;refine aq g (λ_ g=>?_) λ_ g=>?_;refine yc g (o.a.eX _) λy6 g=>?_;refine aq g (λ_ g=>?_) λ_ g=>?_;refine yo [] (tk [0,3,7,10]) [] ?_
 iterate 3 (refine yt zp ?_)
 cases g;exact yj;refine aq g (λ_ g=>?_) λ_ g=>?_;refine yo [] (tk [0,3,7,10]) [] ?_
 iterate 3 (refine yt zp ?_)
 cases g;exact yj;refine aq g (λ_ g=>?_) λ_ g=>?_;refine yo [] (tk [0,3,7,10]) [] ?_
 iterate 3 (refine yt zp ?_)
 cases g;exact yj;refine aq g (λ_ g=>?_) λ_ g=>?_;refine yo [] (tk [0,3,7,10]) [] ?_
 iterate 3 (refine yt zp ?_)
 cases g;exact yj;refine aq g (λ_ g=>?_) λ_ g=>?_;refine yc g (o.a.dm _ _) λy12 g=>?_;cases g;exact yj;refine yo [] (tk [0,3,7,10]) [] ?_
 iterate 3 (refine yt zp ?_)
 cases g;exact yj;refine aq g (λ_ g=>?_) λ_ g=>?_;refine yc g (o.a.eX _) λy14 g=>?_;refine aq g (λ_ g=>?_) λ_ g=>?_;refine yX g ai.aM λx16 _ _ g=>?_;refine aq g (λ_ g=>?_) λ_ g=>?_;refine yo [] (tk [0,3,7,10]) [] ?_
 iterate 3 (refine yt zp ?_)
 cases g;exact yj;refine yX g ai.aM λx19 _ _ g=>?_;refine aq g (λ_ g=>?_) λ_ g=>?_;refine yc g (o.a.dm _ _) λy22 g=>?_;cases g;exact yj;refine yo [] (tk [0,3,7,10]) [] ?_
 iterate 3 (refine yt zp ?_)
 cases g;exact yj;refine yc g (o.a.dm _ _) λy23 g=>?_;cases g;exact yj;refine aq g (λ_ g=>?_) λ_ g=>?_;refine yc g (o.a.eX _) λy25 g=>?_;refine aq g (λ_ g=>?_) λ_ g=>?_;refine yo [] (tk [0,3,7,10]) [] ?_
 iterate 3 (refine yt zp ?_)
 cases g;exact yj;refine aq g (λ_ g=>?_) λ_ g=>?_;refine yc g (o.a.dm _ _) λy28 g=>?_;cases g;exact yj;refine yo [] (tk [0,3,7,10]) [] ?_
 iterate 3 (refine yt zp ?_)
 cases g;exact yj;refine aq g (λ_ g=>?_) λ_ g=>?_;refine yc g (o.a.eX _) λy30 g=>?_;refine aq g (λ_ g=>?_) λ_ g=>?_;refine yc g (o.a.dm _ _) λy32 g=>?_;cases g;exact yj;refine yo [] (tk [0,3,7,10]) [] ?_
 iterate 3 (refine yt zp ?_)
 cases g;exact yj;refine aq g (λ_ g=>?_) λ_ g=>?_;refine yc g (o.a.eX _) λy34 g=>?_;refine aq g (λ_ g=>?_) λ_ g=>?_;refine yo [] (tk [0,3,7,10]) [] ?_
 iterate 3 (refine yt zp ?_)
 cases g;exact yj;refine aq g (λ_ g=>?_) λ_ g=>?_;refine yo [] (tk [0,3,7,10]) [] ?_
 iterate 3 (refine yt zp ?_)
 cases g;exact yj;refine aq g (λ_ g=>?_) λ_ g=>?_;refine yc g (o.a.dm _ _) λy38 g=>?_;cases g;exact yj;refine yo [] (tk [0,3,7,10]) [] ?_
 iterate 3 (refine yt zp ?_)
 cases g;exact yj;refine aq g (λ_ g=>?_) λ_ g=>?_;refine yc g (o.a.eX _) λy40 g=>?_;refine aq g (λ_ g=>?_) λ_ g=>?_;refine yo [] (tk [0,3,7,10]) [] ?_
 iterate 3 (refine yt zp ?_)
 cases g;exact yj;refine aq g (λ_ g=>?_) λ_ g=>?_;refine yc g (o.a.dm _ _) λy43 g=>?_;cases g;exact yj;refine yo [] (tk [0,3,7,10]) [] ?_
 iterate 3 (refine yt zp ?_)
 cases g;exact yj;refine aq g (λ_ g=>?_) λ_ g=>?_;refine yc g (o.a.eX _) λy45 g=>?_;refine aq g (λ_ g=>?_) λ_ g=>?_;refine yo [] (tk [0,3,7,10]) [] ?_
 iterate 3 (refine yt zp ?_)
 cases g;exact yj;refine aq g (λ_ g=>?_) λ_ g=>?_;refine yc g (o.a.dm _ _) λy48 g=>?_;cases g;exact yj;refine yo [] (tk [0,3,7,10]) [] ?_
 iterate 3 (refine yt zp ?_)
 cases g;exact yj;refine aq g (λ_ g=>?_) λ_ g=>?_;refine aq g (λh50 g=>?_) λh50 g=>?_;refine yX g ai.aM λx51 _ _ g=>?_;refine yc g (o.a.jD _) λy53 g=>?_;refine Ok.fO (s6 h50) ?_;conv=>(arg 3;whnf)
 refine yo [] (tk [0,3,7,10]) [] ?_
 iterate 3 (refine yt zp ?_)
 cases g;exact yj;refine Ok.fY (v7 h50) ?_;conv=>(arg 3;whnf)
 refine yc g (o.a.dm _ _) λy54 g=>?_;cases g;exact yj;refine aq g (λ_ g=>?_) λ_ g=>?_;refine aq g (λh56 g=>?_) λh56 g=>?_;refine yX g ai.aM λx57 _ _ g=>?_;refine yc g (o.a.jD _) λy59 g=>?_;refine Ok.fO (s6 h56) ?_;conv=>(arg 3;whnf)
 refine yo [] (tk [0,3,7,10]) [] ?_
 iterate 3 (refine yt zp ?_)
 cases g;exact yj;refine Ok.fY (v7 h56) ?_;conv=>(arg 3;whnf)
 refine yc g (o.a.dm _ _) λy60 g=>?_;cases g;exact yj;refine yc g (o.a.dm _ _) λy61 g=>?_;cases g;exact yj
