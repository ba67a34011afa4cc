/- Printed by a program: what functions answer, and that they do. -/
import Derived.Test.YtfgnmgbiijpkiaaGreatKG4
set_option linter.all false
section
set_option maxRecDepth 100000
noncomputable section
namespace Go.Proofs.YtfgnmgbiijpkiaaGreat
open Go Go.Bw Go.Proofs.Tryz
/-plexus.plexusref09.shape-/
theorem abj {n} (o:Of n):Q6 (uD (Gf n)):=by
 intro a0 r g;rw[uD]at g;refine yw func153 ntmps153 ?_;refine ao g (λh1 g=>?_) λh1 g=>?_;refine yT h1 ?_;refine aK g λ_ g=>?_;refine yF h1 ?_;refine Ok.eH h1 ?_;conv=>(arg 3;whnf)
 exact dV g;refine ao g (λh4 g=>?_) λh4 g=>?_
 iterate 2 (refine aK g λ_ g=>?_)
 refine ao g (λh7 g=>?_) λh7 g=>?_;refine aK g λ_ g=>?_;refine ao g (λ_ g=>?_) λ_ g=>?_;exact dV g;refine Ok.fm h1 ?_;conv=>(arg 3;whnf)
 refine Ok.fm (ra h4) ?_;conv=>(arg 3;whnf)
 refine ao g (λ_ g=>?_) λ_ g=>?_;exact dV g
 iterate 3 (refine aK g λ_ g=>?_)
 refine ao g (λ_ g=>?_) λ_ g=>?_;exact dV g;refine ao g (λ_ g=>?_) λ_ g=>?_;exact dV g;refine Ok.fm (ra h7) ?_;conv=>(arg 3;whnf)
 cases g;exact zl;refine yF (nc h7) ?_;refine Ok.fm h1 ?_;conv=>(arg 3;whnf)
 refine Ok.fm (ra h4) ?_;conv=>(arg 3;whnf)
 iterate 6 (refine yF (nc h7) ?_)
 refine Ok.eH (nc h7) ?_;conv=>(arg 3;whnf)
 exact dV g;refine yT (nc h4) ?_;refine aK g λ_ g=>?_;refine yF (nc h4) ?_;refine Ok.fm h1 ?_;conv=>(arg 3;whnf)
 refine Ok.eH (nc h4) ?_;conv=>(arg 3;whnf)
 exact dV g
/-plexus.plexusref09.Name-/
theorem abk {n} (o:Of n):Q7 (wU (Gf n)):=by
 intro a0 r g;rw[wU]at g;refine yw func194 ntmps194 ?_
 iterate 2 (refine aK g λ_ g=>?_)
 obtain⟨x3,ex3,j4h,g⟩:=a8 g;refine yv (aQ.toP (aQ.dI ((0:Int).toNat) rfl rfl rfl rfl j4h ex3)) ?_;refine aK g λ_ g=>?_;obtain⟨x6,ex6,j7h,g⟩:=a8 g;refine yv (aQ.toP (aQ.dI ((0:Int).toNat) rfl rfl rfl rfl j7h ex6)) ?_;refine aK g λ_ g=>?_;refine yk<|yL (S:=Int) (G:=λm s=>lR (Gf m) a0 s) (s0:=0) 0 [0,2] [3] (λs=>[(3,.d (.v (.int .i64 s)))]) (λs=>[]) g ?_;rintro n s9 _ g;change sS (Gf n) a0 s9=_ at g;rw[sS]at g;refine yz ?_
 refine br g λ_ g=>?_;obtain⟨x11,ex11,j12h,g⟩:=a8 g;refine yv (aQ.toP (aQ.dI ((s9:Int).toNat) rfl rfl rfl rfl j12h ex11)) ?_;refine ao g (λ_ g=>?_) λ_ g=>?_;obtain⟨x14,ex14,j15h,g⟩:=a8 g;refine yv (aQ.toP (aQ.dI ((s9:Int).toNat) rfl rfl rfl rfl j15h ex14)) ?_;refine ao g (λ_ g=>?_) λ_ g=>?_;obtain⟨x17,ex17,j18h,g⟩:=a8 g;refine yv (aQ.toP (aQ.dI ((s9:Int).toNat) rfl rfl rfl rfl j18h ex17)) ?_;refine aK g λ_ g=>?_;exact yk (yN _ n ⟨by omega,g⟩);obtain⟨x20,ex20,j21h,g⟩:=a8 g;refine yv (aQ.toP (aQ.dI ((s9:Int).toNat) rfl rfl rfl rfl j21h ex20)) ?_;refine ao g (λ_ g=>?_) λ_ g=>?_;obtain⟨x23,ex23,j24h,g⟩:=a8 g;refine yv (aQ.toP (aQ.dI ((s9:Int).toNat) rfl rfl rfl rfl j24h ex23)) ?_;refine aK g λ_ g=>?_
 iterate 2 (exact yk (yN _ n ⟨by omega,g⟩))
 obtain⟨wx,ex26,j27h,g⟩:=a8 g;refine yv (aQ.toP (aQ.dI ((s9:Int).toNat) rfl rfl rfl rfl j27h ex26)) ?_;refine ao g (λ_ g=>?_) λ_ g=>?_;obtain⟨x29,ex29,j30h,g⟩:=a8 g;refine yv (aQ.toP (aQ.dI ((s9:Int).toNat) rfl rfl rfl rfl j30h ex29)) ?_;refine ao g (λ_ g=>?_) λ_ g=>?_;obtain⟨x32,ex32,j33h,g⟩:=a8 g;refine yv (aQ.toP (aQ.dI ((s9:Int).toNat) rfl rfl rfl rfl j33h ex32)) ?_;refine aK g λ_ g=>?_;exact yk (yN _ n ⟨by omega,g⟩);obtain⟨x35,ex35,j36h,g⟩:=a8 g;refine yv (aQ.toP (aQ.dI ((s9:Int).toNat) rfl rfl rfl rfl j36h ex35)) ?_;refine ao g (λ_ g=>?_) λ_ g=>?_;obtain⟨x38,ex38,j39h,g⟩:=a8 g;refine yv (aQ.toP (aQ.dI ((s9:Int).toNat) rfl rfl rfl rfl j39h ex38)) ?_;refine aK g λ_ g=>?_
 iterate 3 (exact yk (yN _ n ⟨by omega,g⟩))
/-plexus.plexusref09.In-/
theorem abl {n} (o:Of n):Q8 (uB (Gf n)):=by
 intro a0 a1 r g;rw[uB]at g;refine yw func195 ntmps195 ?_;refine yk<|yL (S:=Int) (G:=λm s=>qA (Gf m) a0 a1 s) (s0:=0) 0 [0,1,4] [5] (λs=>[(5,.d (.v (.int .i64 s)))]) (λs=>[]) g ?_;rintro n s1 _ g;change sT (Gf n) a0 a1 s1=_ at g;rw[sT]at g;refine yz ?_
 refine br g λ_ g=>?_;refine yX g dQ λx3 _ _ g=>?_;refine aK g λ_ g=>?_;exact yk (yN _ n ⟨by omega,g⟩)
/-plexus.plexusref09.Rising-/
theorem abm {n} (o:Of n):Q9 (ru (Gf n)):=by
 intro a0 r g;rw[ru]at g;refine yw func196 ntmps196 ?_;refine yk<|yL (S:=Int) (G:=λm s=>lS (Gf m) a0 s) (s0:=0) 0 [0,2] [3] (λs=>[(3,.d (.v (.int .i64 s)))]) (λs=>[]) g ?_;rintro n s1 _ g;change pf (Gf n) a0 s1=_ at g;rw[pf]at g;refine yz ?_
 refine br g λ_ g=>?_;refine yo [0,1,2,3,4,5,6,7,8,9,10,11,12,13,14,15,16,17,18,19,20,21] [] [] ?_;refine yY g dQ λx3 _ _ g=>?_;obtain⟨y5,ey5,g⟩:=ay g (o.a.Ro _);refine yl (yC ey5) ?_;refine aK g λ_ g=>?_;refine ao g (λ_ g=>?_) λ_ g=>?_;refine yY g dQ λx8 _ _ g=>?_;refine yY g dQ λx10 _ _ g=>?_;refine aK g λ_ g=>?_
 iterate 2 (exact yk (yN _ n ⟨by omega,g⟩))
/-plexus.plexusref09.named-/
theorem abn {n} (o:Of n):Ra (uE (Gf n)):=by
 intro a0 r g;rw[uE]at g;refine yw func154 ntmps154 ?_;refine ao g (λ_ g=>?_) λ_ g=>?_;refine yk<|yL (S:=Int) (G:=λm s=>mO (Gf m) a0 s) (s0:=0) 1 [1,2] [3] (λs=>[(3,.d (.v (.int .i64 s)))]) (λs=>[]) g ?_;rintro n s2 _ g;change pg (Gf n) a0 s2=_ at g;rw[pg]at g;refine yz ?_
 refine br g λ_ g=>?_;refine yo [0,1,2,3,4,5,6,7,8,9,10,11,12,13,14,15,16,17,18] [] [] ?_;refine yY g dQ λx4 _ _ g=>?_;obtain⟨y6,ey6,g⟩:=ay g (o.a.Ro _);refine yl (yC ey6) ?_;refine aK g λ_ g=>?_;obtain⟨x8,ex8,g⟩:=fb g;refine yl (yQ KP ex8) ?_;refine yY g dQ λx10 _ _ g=>?_;obtain⟨y12,ey12,g⟩:=ay g (o.a.GD _ _);refine yl (yC ey12) ?_;refine aK g λ_ g=>?_;exact yk (yN _ n ⟨by omega,g⟩);refine yc g (o.a.Rp _) λy14 g=>?_;refine aK g λ_ g=>?_;refine yk<|yL (S:=Bool×Int) (G:=λm s=>mQ (Gf m) a0 y14 s.1 s.2) (s0:=(false,0)) 1 [1] [2,4] (λs=>[(2,.d (.v (.bool s.1))),(4,.d (.v (.int .i64 s.2)))]) (λs=>[]) g ?_;rintro n ⟨s16,s17⟩ _ g;change pj (Gf n) a0 y14 s16 s17=_ at g;rw[pj]at g;refine yz ?_
 refine br g λ_ g=>?_;refine yX g aU.aF λx19 _ _ g=>?_;refine aK g λ_ g=>?_;refine yc g (o.a.Rp _) λy22 g=>?_;refine aK g λ_ g=>?_;refine yc g (o.a.GD _ _) λy24 g=>?_;refine aK g λ_ g=>?_;refine yk<|yL (S:=Bool×Int) (G:=λm s=>mP (Gf m) a0 y14 s16 s17 x19 y22 y24 s.1 s.2) (s0:=(s16,0)) 2 [1,4,5] [2,6] (λs=>[(2,.d (.v (.bool s.1))),(6,.d (.v (.int .i64 s.2)))]) (λs=>[]) g ?_;rintro n ⟨s26,s27⟩ _ g;change ph (Gf n) a0 y14 s16 s17 x19 y22 y24 s26 s27=_ at g;rw[ph]at g;refine yz ?_
 refine ao g (λ_ g=>?_) λ_ g=>?_;refine yo [0,1,2,3,4,5,6,7,8] [] [] ?_;refine yY g dQ λx29 _ _ g=>?_;obtain⟨y31,ey31,g⟩:=ay g (o.a.GD _ _);refine yl (yC ey31) ?_;refine aK g λ_ g=>?_
 iterate 2 (exact yk (yN (_,_) n ⟨by omega,g⟩))
/-plexus.plexusref09.Chain-/
theorem abo {n} (o:Of n):Rb (rA (Gf n)):=by
 intro a0 r g;rw[rA]at g;refine yw func155 ntmps155 ?_
 iterate 3 (refine aK g λ_ g=>?_)
 iterate 2 (refine br g λ_ g=>?_)
 refine yX g ah.aF λx6 _ _ g=>?_;refine yc g (o.a.GG _) λy8 g=>?_;refine br g λ_ g=>?_;refine yX g ah.aF λx10 _ _ g=>?_;refine yc g (o.a.GG _) λy12 g=>?_;cases g;exact zl
/-plexus.plexusref09.node-/
theorem w90 {n} (o:Of n):S7 (uU (Gf n)):=by
 intro a0 a1 a2 r g;rw[uU]at g;refine yw func90 ntmps90 ?_;refine ao g (λh1 g=>?_) λ_ g=>?_;refine yF h1 ?_
 iterate 2 (refine aK g λ_ g=>?_)
 refine yc g (o.a.GC _) λy4 g=>?_
 iterate 3 (refine aK g λ_ g=>?_)
 refine yc g (o.a.GF _) λy8 g=>?_
 iterate 4 (refine aK g λ_ g=>?_)
 refine yF h1 ?_;cases g;exact zl;refine ao g (λh13 g=>?_) λ_ g=>?_
 iterate 2 (refine aK g λ_ g=>?_)
 refine yc g (o.a.GC _) λy16 g=>?_
 iterate 3 (refine aK g λ_ g=>?_)
 refine yc g (o.a.GF _) λy20 g=>?_
 iterate 4 (refine aK g λ_ g=>?_)
 refine yF h13 ?_;cases g;exact zl
 iterate 2 (refine aK g λ_ g=>?_)
 refine yc g (o.a.GC _) λy27 g=>?_
 iterate 3 (refine aK g λ_ g=>?_)
 refine yc g (o.a.GF _) λy31 g=>?_
 iterate 4 (refine aK g λ_ g=>?_)
 refine br g λ_ g=>?_;refine yX g ah.aF λx37 _ _ g=>?_;refine yc g (o.a.GG _) λy39 g=>?_;exact dV g
/-plexus.plexusref09.walk-/
theorem w46 {n} (o:Of n):S8 (uV (Gf n)):=by
 intro a0 a1 a2 r g;rw[uV]at g;refine yw func46 ntmps46 ?_;refine yc g (o.a.c90 _ _ _) λy1 g=>?_;refine aK g λ_ g=>?_;refine yk<|yL (S:=Int×Int) (G:=λm s=>mW (Gf m) a0 a1 s.1 s.2) (s0:=(IntKind.i64.wrap (a2+1),0)) 1 [1,3,6,7] [9,10] (λs=>[(9,.d (.v (.int .i64 s.1))),(10,.d (.v (.int .i64 s.2)))]) (λs=>[]) g ?_;rintro n ⟨s3,s4⟩ _ g;change pD (Gf n) a0 a1 s3 s4=_ at g;rw[pD]at g;refine yz ?_
 refine br g λ_ g=>?_;refine yX g ah.aF λx6 _ _ g=>?_;refine yc g (o.a.Tx _ _ _) λy8 g=>?_;refine aK g λ_ g=>?_;exact yk (yN (_,_) n ⟨by omega,g⟩)
/-plexus.plexusref09.Check-/
theorem w15 {n} (o:Of n):S9 (uW (Gf n)):=by
 intro a0 r g;rw[uW]at g;refine yw func15 ntmps15 ?_;refine yc g (o.a.Tx _ _ _) λy1 g=>?_;cases g;exact zl
/-plexus.plexusref18.aj-/
theorem w28 {n} (o:Of n):C28 (wq (Gf n)):=by
 intro a0 a1 r g;rw[wq]at g;refine yw func28 ntmps28 ?_;refine yc g (o.a.c68 _ _) λy1 g=>?_;refine ao g (λ_ g=>?_) λ_ g=>?_;refine yo [] (tk [0,3,7,10]) [] ?_
 iterate 2 (refine yt zp ?_)
 cases g;exact yj;refine yc g (o.a.IT _) λy3 g=>?_;refine ao g (λ_ g=>?_) λ_ g=>?_;refine yc g (o.a.dv _ _) λy5 g=>?_;cases g;exact yj;refine yo [] (tk [0,3,7,10]) [] ?_
 iterate 3 (refine yt zp ?_)
 cases g;exact zl
/-plexus.plexusref09.names-/
theorem w69 {n} (o:Of n):Tf (BH (Gf n)):=by
 intro a0 a1 r g;rw[BH]at g;refine yw func69 ntmps69 ?_;refine aK g λ_ g=>?_;refine yk<|yL (S:=Int) (G:=λm s=>AD (Gf m) a0 a1 s) (s0:=0) 0 [0,1,4] [5] (λs=>[(5,.d (.v (.int .i64 s)))]) (λs=>[]) g ?_;rintro n s2 _ g;change AF (Gf n) a0 a1 s2=_ at g;rw[AF]at g;refine yz ?_
 refine br g λ_ g=>?_;refine yo [0,1,2,3,4,5,6,7,8] [] [] ?_;refine yY g dQ λx4 _ _ g=>?_;refine yY g dQ λx6 _ _ g=>?_;refine aK g λ_ g=>?_;exact yk (yN _ n ⟨by omega,g⟩)
/-plexus.plexusref09.Equal-/
theorem w29 {n} (o:Of n):Tg (xm (Gf n)):=by
 intro a0 a1 r g;rw[xm]at g;refine yw func29 ntmps29 ?_
 iterate 3 (refine aK g λ_ g=>?_)
 refine yc g (o.a.Ty _ _) λy4 g=>?_
 iterate 3 (refine aK g λ_ g=>?_)
 refine yk<|yL (S:=Bool×Int) (G:=λm s=>tB (Gf m) a0 a1 s.1 s.2) (s0:=(false,0)) 2 [2,3] [4,5] (λs=>[(4,.d (.v (.bool s.1))),(5,.d (.v (.int .i64 s.2)))]) (λs=>[]) g ?_;rintro n ⟨s8,s9⟩ _ g;change tC (Gf n) a0 a1 s8 s9=_ at g;rw[tC]at g;refine yz ?_
 refine ao g (λ_ g=>?_) λ_ g=>?_;refine yo [0,1,2,3,4,5,6,7,8,9,10,11,12,13,14,15,16,17,18,19,20,21,22,23,24,25,26,27,28] [] [] ?_;refine yY g aU.aF λx11 _ _ g=>?_;refine yY g aU.aF λx13 _ _ g=>?_;refine aK g λ_ g=>?_;refine yY g aU.aF λx16 _ _ g=>?_;refine yY g aU.aF λx18 _ _ g=>?_;obtain⟨y20,ey20,g⟩:=ay g (o.a.Ty _ _);refine yl (yC ey20) ?_;refine aK g λ_ g=>?_;exact yk (yN (_,_) n ⟨by omega,g⟩);refine yk<|yL (S:=Int) (G:=λm s=>qO (Gf m) a0 a1 s) (s0:=0) 2 [2,3,4,5] [6] (λs=>[(6,.d (.v (.int .i64 s)))]) (λs=>[]) g ?_;rintro n s22 _ g;change tA (Gf n) a0 a1 s22=_ at g;rw[tA]at g;refine yz ?_
 refine br g λ_ g=>?_;refine yo [0,1,2,3,4,5,6,7,8,9,10,11] [] [] ?_;refine yY g ah.aF λx24 _ _ g=>?_;refine yY g ah.aF λwx _ _ g=>?_;obtain⟨y28,ey28,g⟩:=ay g (o.a.Tz _ _);refine yl (yC ey28) ?_;refine aK g λ_ g=>?_;exact yk (yN _ n ⟨by omega,g⟩)
/-plexus.plexuslaw18.TypesLattices-/
theorem w7qq {n} (o:Of n):C7qq (B7qq (Gf n)):=by
 intro a0 a1 a2 r g;rw[B7qq]at g;refine yw func7 ntmps7 ?_;refine ao g (λ_ g=>?_) λ_ g=>?_;refine yc g o.a.c9 λy2 g=>?_;cases g;exact zl;refine ao g (λ_ g=>?_) λ_ g=>?_;refine yc g o.a.c9 λy4 g=>?_;cases g;exact zl;refine yc g (o.a.IT _) λy5 g=>?_;refine ao g (λ_ g=>?_) λ_ g=>?_;refine yc g o.a.c9 λy7 g=>?_;cases g;exact zl;refine yc g (o.a.c26 _) λy8 g=>?_;refine ao g (λ_ g=>?_) λ_ g=>?_;refine yc g o.a.c9 λy10 g=>?_;cases g;exact zl;refine yk<|ak.cH (t:=42) rfl rfl (eo rfl aW) (yz ?_)
 refine yc g (o.a.c27 _ _) λy12 g=>?_;refine yc g (o.a.c28 _ _) λy13 g=>?_;refine yc g o.a.c9 λy14 g=>?_;refine br g λ_ g=>?_;refine yv (aQ.toP (aQ.eqS rfl rfl rfl zk Tryz.underlying28 rfl)) ?_;refine br g λ_ g=>?_;refine yc g (o.a.Tz _ _) λy17 g=>?_;refine br g λ_ g=>?_;refine aK g λ_ g=>?_;refine yc g (o.a.IT _) λy20 g=>?_;cases g;exact zl
end Go.Proofs.YtfgnmgbiijpkiaaGreat
end

section
set_option maxRecDepth 100000
noncomputable section
namespace Go.Proofs.YtfgnmgbiijpkiaaGreat
open Go Go.Bw
theorem hf:∀n,Kf n:=by
 intro n
 induction n using Nat.strongRecOn with|_ n ih=>?_
 rcases n with _|n
 ·constructor<;>(repeat intro _)<;>contradiction
 ·have h:Of n:=λm hm=>ih m (by omega);exact⟨agC h,afU h,aaN h,aaO h,w81 h,w80 h,agD h,agE h,afV h,agF h,aaK h,aaL h,aaM h,w98 h,w53 h,aaP h,aaQ h,aaR h,aaS h,aaT h,aaU h,aaV h,w99 h,w54 h,w67 h,aa7 h,ZR h,ZS h,w66 h,w27 h,w41 h,w42 h,agG h,agH h,w68 h,abj h,abk h,abl h,abm h,abn h,abo h,w90 h,w46 h,w15 h,w28 h,w69 h,w29 h,w7qq h,H4,c9,(hu n).c26⟩
theorem p7qq:C7qq (f7 Pf):=λa0 a1 a2 r h=>by
 obtain⟨n,hn⟩:=PF.ex (PF.ap (PF.ap (PF.ap l7qq a0) a1) a2) h;exact(hf n).c7qq a0 a1 a2 _ hn
