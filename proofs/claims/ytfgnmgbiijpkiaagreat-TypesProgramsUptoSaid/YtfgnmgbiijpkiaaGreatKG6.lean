/- Printed by a program: what functions answer, and that they do. -/
import Derived.Test.YtfgnmgbiijpkiaaGreatKG3
set_option linter.all false
set_option maxRecDepth 100000
noncomputable section
namespace Go.Proofs.YtfgnmgbiijpkiaaGreat
open Go Go.Bw Go.Proofs.Tryz
theorem w98 {n} (o:Of n):SH (xa (Gf n)):=by
 intro a0 r g;rw[xa]at g;refine yw func98 ntmps98 ?_;refine ao g ?_ ?_<;>intro _ g;refine aK g λ_ g=>?_
 iterate 2 (refine br g λ_ g=>?_;exact dV g)
theorem w53 {n} (o:Of n):SI (xb (Gf n)):=by
 intro a0 r g;rw[xb]at g;refine yw func53 ntmps53 ?_
 iterate 2 (refine aK g λ_ g=>?_)
 iterate 2 (obtain⟨x,w,j,g⟩:=a8 g;refine yv (aQ.toP (aQ.dI ((0:Int).toNat) rfl rfl rfl rfl j w)) ?_;refine aK g λ_ g=>?_)
 refine yk<|yL (S:=Int) (G:=λm s=>vT (Gf m) a0 s) (s0:=0) 0 [0,2,23] [24] (λs=>[(24,.d (.v (.int .i64 s)))]) (λs=>[]) g ?_;rintro n s9 _ g;change th (Gf n) a0 s9=_ at g;rw[th]at g;refine yz ?_
 refine br g λ_ g=>?_;obtain⟨x,w,j,g⟩:=a8 g;refine yv (aQ.toP (aQ.dI ((s9:Int).toNat) rfl rfl rfl rfl j w)) ?_;refine yc g (o.a.c98 _) λy g=>?_;refine aK g λ_ g=>?_;exact yk (yN _ n ⟨by omega,g⟩)
theorem aaK {n} (o:Of n):Qm (wJ (Gf n)):=by
 intro a0 a1 r g;rw[wJ]at g;refine yw func213 ntmps213 ?_;exact dV g
set_option maxHeartbeats 0 in
theorem aaL {n} (o:Of n):Qo (uo (Gf n)):=by
 intro a0 r g;rw[uo]at g;refine yw func166 ntmps166 ?_
 iterate 2 (refine ao g (λk g=>?_) λ_ g=>?_;(iterate 4 (refine ao g ?_ ?_<;>intro _ g;(iterate 2 (refine yF k ?_));refine yc g (o.a.b8 _ _) λy g=>?_;cases g;exact zl));(iterate 2 (refine yF k ?_));refine ao g ?_ ?_<;>intro _ g;(iterate 2 (refine yc g (o.a.b8 _ _) λy g=>?_;cases g;exact zl)))
 iterate 2 (refine ao g (λk g=>?_) λ_ g=>?_;(iterate 3 (refine ao g ?_ ?_<;>intro _ g;(iterate 2 (refine yF k ?_));refine yc g (o.a.b8 _ _) λy g=>?_;cases g;exact zl));(iterate 2 (refine yF k ?_));refine yc g (o.a.b8 _ _) λy g=>?_;cases g;exact zl)
 iterate 3 (refine ao g (λk g=>?_) λ_ g=>?_;(iterate 3 (refine ao g ?_ ?_<;>intro _ g;(iterate 2 (refine yF k ?_));refine yc g (o.a.b8 _ _) λy g=>?_;cases g;exact zl));(iterate 2 (refine yF k ?_));refine ao g ?_ ?_<;>intro _ g;(iterate 2 (refine yc g (o.a.b8 _ _) λy g=>?_;cases g;exact zl)))
 refine ao g (λk g=>?_) λ_ g=>?_
 iterate 4 (refine ao g ?_ ?_<;>intro _ g;(iterate 2 (refine yF k ?_));refine yc g (o.a.b8 _ _) λy g=>?_;cases g;exact zl)
 iterate 2 (refine yF k ?_)
 refine ao g ?_ ?_<;>intro _ g
 iterate 2 (refine yc g (o.a.b8 _ _) λy g=>?_;cases g;exact zl)
 refine ao g (λk g=>?_) λk g=>?_;refine yo [0,1,2,3,4] [] [] ?_
 iterate 3 (refine ao g ?_ ?_<;>intro _ g;(refine Ok.eH k ?_;conv=>(arg 3;whnf));refine yc g (o.a.b8 _ _) λy g=>?_;cases g;exact zl)
 refine Ok.eH k ?_;conv=>(arg 3;whnf)
 refine ao g ?_ ?_<;>intro _ g
 iterate 2 (refine yc g (o.a.b8 _ _) λy g=>?_;cases g;exact zl)
 refine br g λl g=>?_
 iterate 2 (refine ao g ?_ ?_<;>intro _ g;(refine Ok.fm k ?_;conv=>(arg 3;whnf));(refine Ok.eH l ?_;conv=>(arg 3;whnf));refine yc g (o.a.b8 _ _) λy g=>?_;cases g;exact zl)
 refine Ok.fm k ?_;conv=>(arg 3;whnf)
 refine Ok.eH l ?_;conv=>(arg 3;whnf)
 refine ao g ?_ ?_<;>intro _ g
 iterate 2 (refine yc g (o.a.b8 _ _) λy g=>?_;cases g;exact zl)
theorem aaM {n} (o:Of n):Qq (wK (Gf n)):=by
 intro a0 r g;rw[wK]at g;refine yw func168 ntmps168 ?_
 iterate 2 ((iterate 2 (refine ao g ?_ ?_<;>intro _ g));(iterate 2 (refine yc g (o.a.b8 _ _) λy g=>?_;cases g;exact zl)))
 refine ao g ?_ ?_<;>intro _ g
 iterate 2 (refine yc g (o.a.b8 _ _) λy g=>?_;cases g;exact zl)
theorem aaN {n} (o:Of n):Qr (uq (Gf n)):=by
 intro a0 a1 r g;rw[uq]at g;refine yw func185 ntmps185 ?_;refine yk<|yL (S:=Int) (G:=λm s=>zQ (Gf m) a0 a1 s) (s0:=0) 0 [0,1,4,7] [8] (λs=>[(8,.d (.v (.int .i64 s)))]) (λs=>[]) g ?_;rintro n s1 _ g;change sL (Gf n) a0 a1 s1=_ at g;rw[sL]at g;refine yz ?_
 refine br g λ_ g=>?_;refine yX g dQ λx _ _ g=>?_;refine aK g λ_ g=>?_;exact yk (yN _ n ⟨by omega,g⟩)
theorem aaO {n} (o:Of n):Qs (wL (Gf n)):=by
 intro a0 a1 r g;rw[wL]at g;refine yw func131 ntmps131 ?_;refine yc g (o.a.Fw _ _) λy g=>?_;cases g;exact zl
theorem aaP {n} (o:Of n):Qt (uv (Gf n)):=by
 intro a0 r g;rw[uv]at g;refine yw func214 ntmps214 ?_;refine yk<|yL (S:=Int) (G:=λm s=>vC (Gf m) a0 s) (s0:=1) 0 [0,2] [3] (λs=>[(3,.d (.v (.int .i64 s)))]) (λs=>[]) g ?_;rintro n s1 _ g;change qy (Gf n) a0 s1=_ at g;rw[qy]at g;refine yz ?_
 refine br g λ_ g=>?_;refine yo [0,1,2,3,4,5,6,7,8,9] [] [] ?_
 iterate 2 (refine yY g dQ λx _ _ g=>?_)
 refine aK g λ_ g=>?_;exact yk (yN _ n ⟨by omega,g⟩)
theorem w81 {n} (o:Of n):SJ (xc (Gf n)):=by
 intro a0 a1 r g;rw[xc]at g;refine yw func81 ntmps81 ?_;refine yc g (o.a.Qv _ _) λy g=>?_;cases g;exact zl
theorem aaQ {n} (o:Of n):Qw (uw (Gf n)):=by
 intro a0 a1 r g;rw[uw]at g;refine yw func215 ntmps215 ?_;refine yk<|yL (S:=Int) (G:=λm s=>qz (Gf m) a0 a1 s) (s0:=0) 0 [1,4,7,8] [9] (λs=>[(9,.d (.v (.int .i64 s)))]) (λs=>[]) g ?_;rintro n s1 _ g;change sM (Gf n) a0 a1 s1=_ at g;rw[sM]at g;refine yz ?_
 refine br g λ_ g=>?_;refine yX g dQ λx _ _ g=>?_;refine yc g (o.a.H5 _ _) λy g=>?_;refine aK g λ_ g=>?_;exact yk (yN _ n ⟨by omega,g⟩)
theorem aaR {n} (o:Of n):Qx (rj (Gf n)):=by
 intro a0 r g;rw[rj]at g;refine yw func169 ntmps169 ?_;refine yk<|yL (S:=Int×Int) (G:=λm s=>lO (Gf m) a0 s.1 s.2) (s0:=(0,0)) 1 [1,8,9] [2,10] (λs=>[(2,.d (.v (.int .i64 s.1))),(10,.d (.v (.int .i64 s.2)))]) (λs=>[]) g ?_;rintro n ⟨s1,s2⟩ _ g;change pc (Gf n) a0 s1 s2=_ at g;rw[pc]at g;refine yz ?_
 refine ao g ?_ ?_<;>intro _ g;refine yX g dQ λx _ _ g=>?_;refine yc g (o.a.uK _) λy g=>?_;refine aK g λ_ g=>?_;refine ao g ?_ ?_<;>intro _ g;obtain⟨x,w,g⟩:=fb g;refine yv (yQ KP w) ?_;refine yc g (o.a.Qv _ _) λy g=>?_;refine aK g λ_ g=>?_
 iterate 2 (exact yk (yN (_,_) n ⟨by omega,g⟩))
 refine ao g ?_ ?_<;>intro _ g;refine yc g (o.a.Fx _) λy g=>?_;refine aK g λ_ g=>?_;refine yk<|yL (S:=Int) (G:=λm s=>zT (Gf m) a0 s) (s0:=0) 1 [1,2,8,9,10,42,43] [44] (λs=>[(44,.d (.v (.int .i64 s)))]) (λs=>[]) g ?_;rintro n s16 _ g;change zU (Gf n) a0 s16=_ at g;rw[zU]at g;refine yz ?_
 refine br g λ_ g=>?_;refine yX g aU.aF λx _ _ g=>?_;refine aK g λ_ g=>?_;refine yc g (o.a.Fx _) λy g=>?_;refine aK g λ_ g=>?_;refine yc g (o.a.Qy _ _) λy g=>?_;refine aK g λ_ g=>?_;refine yc g (o.a.H5 _ _) λy g=>?_;refine aK g λ_ g=>?_;exact yk (yN _ n ⟨by omega,g⟩);refine yk<|yL (S:=Int) (G:=λm s=>zV (Gf m) a0 s) (s0:=0) 1 [1,2,8,9,10,42,43] [44] (λs=>[(44,.d (.v (.int .i64 s)))]) (λs=>[]) g ?_;rintro n s27 _ g;change zW (Gf n) a0 s27=_ at g;rw[zW]at g;refine yz ?_
 refine br g λ_ g=>?_;refine yX g aU.aF λx _ _ g=>?_;refine aK g λ_ g=>?_;refine yc g (o.a.Fx _) λy g=>?_;refine aK g λ_ g=>?_;refine yc g (o.a.Qy _ _) λy g=>?_;refine aK g λ_ g=>?_;refine yc g (o.a.H5 _ _) λy g=>?_;refine aK g λ_ g=>?_;exact yk (yN _ n ⟨by omega,g⟩)
theorem aaS {n} (o:Of n):Qz (ux (Gf n)):=by
 intro a0 r g;rw[ux]at g;refine yw func170 ntmps170 ?_
 iterate 4 (refine ao g ?_ ?_<;>intro _ g;refine yc g (o.a.b8 _ _) λy g=>?_;cases g;exact zl)
 refine yc g (o.a.b8 _ _) λy g=>?_;cases g;exact zl
theorem aaT {n} (o:Of n):QA (rk (Gf n)):=by
 intro a0 r g;rw[rk]at g;refine yw func216 ntmps216 ?_
 iterate 3 (refine aK g λ_ g=>?_)
 iterate 2 (refine br g λ_ g=>?_)
 refine yX g ah.aF λx _ _ g=>?_;refine yc g (o.a.Fy _) λy g=>?_;refine br g λ_ g=>?_;refine yX g ah.aF λx _ _ g=>?_;refine yc g (o.a.Fy _) λy g=>?_;cases g;exact zl
theorem aaU {n} (o:Of n):QB (uy (Gf n)):=by
 intro a0 r g;rw[uy]at g;refine yw func171 ntmps171 ?_;refine ao g ?_ ?_<;>intro _ g;refine yX g ah.aF λx _ _ g=>?_;refine yc g (o.a.Fy _) λy g=>?_
 iterate 2 (refine yc g (o.a.b8 _ _) λy g=>?_;cases g;exact zl)
theorem aaV {n} (o:Of n):QC (rm (Gf n)):=by
 intro a0 r g;rw[rm]at g;refine yw func167 ntmps167 ?_;refine yk<|yL (S:=Int) (G:=λm s=>mK (Gf m) a0 s) (s0:=0) 0 [2,3,6,7] [8] (λs=>[(8,.d (.v (.int .i64 s)))]) (λs=>[]) g ?_;rintro n s1 _ g;change pd (Gf n) a0 s1=_ at g;rw[pd]at g;refine yz ?_
 refine br g λ_ g=>?_;refine yX g KQ λx _ _ g=>?_;refine aK g λ_ g=>?_;exact yk (yN _ n ⟨by omega,g⟩)
/-(*plexus.lattice.checker).visit-/
theorem w99 {n} (o:Of n):SK (uL (Gf n)):=by
 intro a0 a1 a2 r g;rw[uL]at g;refine dk.walk (E:=env) func99 rfl zk (rs:=_) rfl ntmps99 rfl (yz ?_)
 iterate 2 (refine aK g λ_ g=>?_)
 refine yc g (o.a.abB _) λy g=>?_;refine aK g λ_ g=>?_;refine yo [0,1,2,3,4,5,6,7,8,9,10] [] [] ?_;obtain⟨y,z,g⟩:=ay g (o.a.abC _);refine yl (yC z) ?_;obtain⟨y,z,g⟩:=ay g (o.a.abD _);refine yl (yC z) ?_;obtain⟨y,z,g⟩:=ay g (o.a.abE _);refine yl (yC z) ?_;obtain⟨y,z,g⟩:=ay g (o.a.abF _);refine yl (yC z) ?_;obtain⟨y,z,g⟩:=ay g (o.a.abG _);refine yl (yC z) ?_;refine aK g λ_ g=>?_;refine yk<|yL (S:=Int×dp) (G:=λm s=>mT (Gf m) a1 a2 s.1 s.2) (s0:=(0,{nodes:=IntKind.i64.wrap (a0.nodes+1):dp})) 2 [0,2,6,47,48] [49] (λs=>[(49,.d (.v (.int .i64 s.1)))]) (λs=>[(0,.box ((dp.cs s.2).map .d))]) g ?_;rintro n ⟨s11,s12⟩ _ g;change py (Gf n) a1 a2 s11 s12=_ at g;rw[py]at g;refine yz ?_
 refine br g λ_ g=>?_;refine yX g ah.aF λx _ _ g=>?_;obtain⟨y,z,g⟩:=ay g (o.a.SL _ _ _);refine yk<|ak.ib 0 z rfl rfl (by first|rfl|(simp only[fE];rfl)) rfl (dc.box rfl zi) rfl (yz ?_)
 refine aK g λ_ g=>?_;exact yk (yN (_,_) n ⟨by omega,g⟩)
theorem w54 {n} (o:Of n):SM (uM (Gf n)):=by
 intro a0 r g;rw[uM]at g;refine yw func54 ntmps54 ?_;obtain⟨y,z,g⟩:=ay g (o.a.SL _ _ _);refine yk<|ak.ib 1 z rfl rfl (by first|rfl|(simp only[fE];rfl)) rfl (dc.box rfl zi) rfl (yz ?_)
 cases g;exact zl
theorem w56 {n} (o:Of n):SN (xd (Gf n)):=by
 intro a0 a1 r g;rw[xd]at g;refine yw func56 ntmps56 ?_;cases g;exact zl
theorem XS {n} (o:Of n):Mj (sN (Gf n)):=by
 intro a0 a1 r g;rw[sN]at g;refine yw func55 ntmps55 ?_;refine yk<|yL (S:=Int) (G:=λm s=>yy (Gf m) a0 a1 s) (s0:=0) 0 [0,1,4,7] [8] (λs=>[(8,.d (.v (.int .i64 s)))]) (λs=>[]) g ?_;rintro n s1 _ g;change sj (Gf n) a0 a1 s1=_ at g;rw[sj]at g;refine yz ?_
 refine br g λ_ g=>?_;refine yX g bt.aF λx _ _ g=>?_;refine yc g (o.a.c56 _ _) λy g=>?_;refine aK g λ_ g=>?_;exact yk (yN _ n ⟨by omega,g⟩)
theorem aaW {n} (o:Of n):QD (wM (Gf n)):=by
 intro a0 a1 r g;rw[wM]at g;refine yw func106 ntmps106 ?_;cases g;exact zl
theorem V2 {n} (o:Of n):KR (sx (Gf n)):=by
 intro a0 a1 r g;rw[sx]at g;refine yw func156 ntmps156 ?_;refine yk<|yL (S:=Int) (G:=λm s=>xT (Gf m) a0 a1 s) (s0:=0) 0 [0,1,4,7] [8] (λs=>[(8,.d (.v (.int .i64 s)))]) (λs=>[]) g ?_;rintro n s1 _ g;change r8 (Gf n) a0 a1 s1=_ at g;rw[r8]at g;refine yz ?_
 refine br g λ_ g=>?_;refine yX g TParam.aF λx _ _ g=>?_;refine yc g (o.a.abH _ _) λy g=>?_;refine aK g λ_ g=>?_;exact yk (yN _ n ⟨by omega,g⟩)
theorem V3 {n} (o:Of n):KS (vi (Gf n)):=by
 intro a0 a1 r g;rw[vi]at g;refine yw func105 ntmps105 ?_;refine yc g (o.a.V5 _ _) λy g=>?_;cases g;exact zl
theorem w61 {n} (o:Of n):SO (uN (Gf n)):=by
 intro a0 r g;rw[uN]at g;refine yw func61 ntmps61 ?_
 iterate 2 (refine yc g (o.a.uK _) λy g=>?_;refine aK g λ_ g=>?_)
 iterate 3 (refine aK g λ_ g=>?_)
 refine yk<|yL (S:=Int) (G:=λm s=>mU (Gf m) a0 s) (s0:=0) 1 [1,2,32,33] [34] (λs=>[(34,.d (.v (.int .i64 s)))]) (λs=>[]) g ?_;rintro n s8 _ g;change pz (Gf n) a0 s8=_ at g;rw[pz]at g;refine yz ?_
 refine br g λ_ g=>?_;refine yX g TParam.aF λx _ _ g=>?_;refine yc g (o.a.uK _) λy g=>?_
 iterate 3 (refine aK g λ_ g=>?_)
 obtain⟨x,w,g⟩:=fb g;refine yv (yQ TParam.bS w) ?_;refine yc g (o.a.V6 _ _) λy g=>?_;refine aK g λ_ g=>?_;exact yk (yN _ n ⟨by omega,g⟩)
theorem aaX {n} (o:Of n):QE (ma (Gf n)):=by
 intro a0 a1 r g;rw[ma]at g;refine yw func107 ntmps107 ?_;refine aK g λ_ g=>?_;refine ao g (λk g=>?_) λ_ g=>?_
 iterate 2 (refine ao g ?_ ?_<;>intro _ g)
 refine yo [] (tk [0,3,6,10,12,16]) [] ?_
 iterate 4 (refine yt zp ?_)
 iterate 2 (cases g;exact yj;(iterate 4 (refine yF k ?_)))
 cases g;exact yj;refine ao g (λk g=>?_) λk g=>?_;refine aK g λ_ g=>?_;refine Ok.eH k ?_;conv=>(arg 3;whnf)
 refine aK g λ_ g=>?_
 iterate 2 (refine yF k ?_)
 cases g;exact yj;refine Ok.fm k ?_;conv=>(arg 3;whnf)
 refine ao g (λk g=>?_) λ_ g=>?_;refine yc g (o.a.uK _) λy g=>?_;refine ao g ?_ ?_<;>intro _ g;refine yo [] (tk [0,3,6,10,12,16]) [] ?_
 iterate 4 (refine yt zp ?_)
 cases g;exact yj;refine yF k ?_;cases g;exact yj
 iterate 3 (refine br g λ_ g=>?_)
 refine yo [] (tk [0,3,6,9,12,15,18,22,24,28]) [] ?_;obtain⟨x,w,j,g⟩:=a8 g;refine yu zp (yi j (TParam.aF w)) ?_
 iterate 6 (refine yt zp ?_)
 cases g;exact yj
theorem aaY {n} (o:Of n):QF (jb (Gf n)):=by
 intro a0 r g;rw[jb]at g;refine yw func108 ntmps108 ?_
 iterate 15 (refine aK g λ_ g=>?_)
 exact dV g
theorem aaZ {n} (o:Of n):QG (od (Gf n)):=by
 intro a0 r g;rw[od]at g;refine yw func109 ntmps109 ?_
 iterate 16 (refine aK g λ_ g=>?_)
 exact dV g
theorem w62 {n} (o:Of n):SP (rR (Gf n)):=by
 intro a0 a1 r g;rw[rR]at g;refine yw func62 ntmps62 ?_;refine yc g (o.a.abI _ _) λy g=>?_;refine aK g λ_ g=>?_;refine Ok.stuck aW ?_;refine ak.fP 3 4 25 5 4 rfl rfl rfl ?_;refine yL (S:=Bool×Int×(List ab)) (G:=λm s=>gX (Gf m) a0 a1 s.1 s.2.1 s.2.2) (s0:=(false,0,[])) 5 [0,3,4,8,30,31] [5,32] (λs=>[(5,.d (.v (.bool s.1))),(32,.d (.v (.int .i64 s.2.1)))]) (λs=>[(4,.row 25 5 (ab.rows s.2.2)),(3,.box [.d (.v (.int .i64 0)),.d (.v (.string ⟨⟨([])⟩⟩)),.d (.v (.int .i64 0)),.d (.v (.int .i64 a1.At)),.os 4 (ab.rows s.2.2).length])]) g ?_;rintro n ⟨s3,s4,s9⟩ _ g;change pA (Gf n) a0 a1 s3 s4 s9=_ at g;rw[pA]at g;refine yz ?_;refine ao g ?_ ?_<;>intro _ g;refine yX g ae.aF λx _ _ g=>?_;refine yc g (o.a.SQ _ _) λy g=>?_;refine aK g λ_ g=>?_;refine yo [0,1,2,3,4] (tk [16,18,24,23,28]) [] ?_;obtain⟨k,g⟩:=bz g;refine yk<|ak.cR (rows2:=(ab.rows ([ab.z]))) aG.nil rfl rfl rfl rfl rfl zg rfl zi rfl rfl (ab.bU _) rfl rfl (zo k) (yz ?_)
 obtain⟨x,w,j,g⟩:=a8 g;refine yU zp (yr j w) ?_;refine yt (dG j w) ?_;refine jl ((↑(ab.rows s9).length:Int).toNat) 0 (ab.aF w) j w ?_;exact yk (yN (_,_,_) n ⟨by omega,g⟩);refine yc g (o.a.abJ _) λy g=>?_;refine ao g ?_ ?_<;>intro _ g;refine aK g λ_ g=>?_;refine br g λ_ g=>?_;refine yX g ae.aF λx _ _ g=>?_
 iterate 2 (refine aK g λ_ g=>?_)
 refine yX g dQ λx _ _ g=>?_;cases g;exact zl;refine yc g (o.a.abK _) λy g=>?_;refine ao g ?_ ?_<;>intro _ g;refine yk<|ak.inl (rs:=_) rfl func110 rfl zk rfl ntmps110 rfl rfl (yz ?_)
 refine aK g λ_ g=>?_;refine Ok.stuck aW ?_;refine ak.km 3 25 5 5 rfl rfl ?_;refine yL (S:=(List ab)×Int) (G:=λm s=>kr (Gf m) a1 s9 y s.1 s.2) (s0:=([],0)) 6 [0,2,5,8] [3,4] (λs=>[(3,.os 5 (ab.rows s.1).length),(4,.d (.v (.int .i64 s.2)))]) (λs=>[(5,.row 25 5 (ab.rows s.1))]) g ?_;rintro n ⟨s31,s32⟩ _ g;change pB (Gf n) a1 s9 y s31 s32=_ at g;rw[pB]at g;refine yz ?_;refine br g λ_ g=>?_;refine yo [0,1,2,3,4,5,6,7,8,9,10,11,12,13,14,15,16,17,18] (tk [58,60]) [] ?_;obtain⟨x,w,j,g⟩:=a8 g;refine yl (yr j w) ?_;refine yl (ym s32.toNat 0 (ab.aF w)) ?_;obtain⟨t,w,j,g⟩:=a8 g;refine yl (yr j w) ?_;refine yl (ym ((IntKind.i64.wrap (s32+1)).toNat) 0 (ab.aF w)) ?_;obtain⟨k,g⟩:=bz g;refine yk<|ak.cR (rows2:=(ab.rows ([{Kind:=52,Text:=[],N:=0,At:=0,Kids:=[x,t]:ab}]))) aG.nil rfl rfl rfl rfl rfl zg rfl zi rfl rfl (ab.bU _) rfl rfl (zo k) (yz ?_)
 exact yk (yN (_,_) n ⟨by omega,g⟩);refine ao g ?_ ?_<;>intro _ g;refine yk<|ak.inl (rs:=_) rfl func111 rfl zk rfl ntmps111 rfl rfl (yz ?_)
 refine aK g λ_ g=>?_;refine Ok.stuck aW ?_;refine ak.km 6 25 5 6 rfl rfl ?_;refine yL (S:=(List ab)×Int) (G:=λm s=>iU (Gf m) a1 s9 y s.1 s.2) (s0:=([],0)) 7 [0,3,4,5,17,24,25] [6,26] (λs=>[(6,.os 6 (ab.rows s.1).length),(26,.d (.v (.int .i64 s.2)))]) (λs=>[(6,.row 25 5 (ab.rows s.1))]) g ?_;rintro n ⟨s41,s42⟩ _ g;change pC (Gf n) a1 s9 y s41 s42=_ at g;rw[pC]at g;refine yz ?_;refine br g λ_ g=>?_;obtain⟨x,w,j,g⟩:=a8 g;refine yv (yr j w) ?_;refine yv (ym s42.toNat 0 (ab.aF w)) ?_;refine yo [0,1,2,3,4,5,6,7,8,9,10,11] [] [] ?_
 iterate 2 (refine ao g ?_ ?_<;>intro _ g;refine yo [0,1,2,3,4,5,6,7,8] (tk [28,30]) [] ?_;refine yY g dQ λt _ _ g=>?_;obtain⟨k,g⟩:=bz g;refine yk<|ak.cR (rows2:=(ab.rows ([{Kind:=52,Text:=t,N:=0,At:=0,Kids:=[x]:ab}]))) aG.nil rfl rfl rfl rfl rfl zg rfl zi rfl rfl (ab.bU _) rfl rfl (zo k) (yz ?_);exact yk (yN (_,_) n ⟨by omega,g⟩))
 exact yk (yN (_,_) n ⟨by omega,g⟩);refine yo [] (tk [0,3,6,9,13,15]) [] ?_
 iterate 6 (refine yt zp ?_)
 cases g;exact zl
theorem aa0 {n} (o:Of n):QH (A8 (Gf n)):=by
 intro a0 r g;rw[A8]at g;refine yw func112 ntmps112 ?_;cases g;exact zl
theorem aa1 {n} (o:Of n):QI (A9 (Gf n)):=by
 intro a0 r g;rw[A9]at g;refine yw func113 ntmps113 ?_;cases g;exact yj
theorem w63 {n} (o:Of n):SR (xe (Gf n)):=by
 intro a0 a1 r g;rw[xe]at g;refine yw func63 ntmps63 ?_;refine ao g ?_ ?_<;>intro _ g;refine yc g (o.a.iH _) λy g=>?_;cases g;exact zl;refine yc g (o.a.fe _) λy g=>?_;cases g;exact zl
/-(*plexus.types.elaborator).any$1-/
theorem aa2 {n} (o:Of n):QJ (wN (Gf n)):=by
 intro a0 a1 r g;rw[wN]at g;refine yw func157 ntmps157 ?_;cases g;exact zl
theorem V4 {n} (o:Of n):KT (sy (Gf n)):=by
 intro a0 a1 r g;rw[sy]at g;refine yw func156 ntmps156 ?_;refine yk<|yL (S:=Int) (G:=λm s=>xU (Gf m) a0 a1 s) (s0:=0) 0 [0,1,4,7] [8] (λs=>[(8,.d (.v (.int .i64 s)))]) (λs=>[]) g ?_;rintro n s1 _ g;change r9 (Gf n) a0 a1 s1=_ at g;rw[r9]at g;refine yz ?_
 refine br g λ_ g=>?_;refine yX g TParam.aF λx _ _ g=>?_;refine yc g (o.a.abL _ _) λy g=>?_;refine aK g λ_ g=>?_;exact yk (yN _ n ⟨by omega,g⟩)
theorem w80 {n} (o:Of n):SU (iL (Gf n)):=by
 intro a0 a1 r g;rw[iL]at g;refine yw func80 ntmps80 ?_;refine Ok.fin aW ?_;obtain rfl:=jm g;exact RD.wm rfl aW rfl zi
theorem w92 {n} (o:Of n):SV (xf (Gf n)):=by
 intro a0 r g;rw[xf]at g;refine yw func92 ntmps92 ?_;exact dV g
theorem aa3 {n} (o:Of n):QK (dL (Gf n)):=by
 intro a0 r g;rw[dL]at g;refine yw func197 ntmps197 ?_
 iterate 4 (refine aK g λ_ g=>?_)
 exact dV g
theorem aa4 {n} (o:Of n):QL (uz (Gf n)):=by
 intro a0 a1 r g;rw[uz]at g;refine yw func236 ntmps236 ?_;refine yk<|yL (S:=Int) (G:=λm s=>zX (Gf m) a0 a1 s) (s0:=0) 0 [0,1,4,7] [8] (λs=>[(8,.d (.v (.int .i64 s)))]) (λs=>[]) g ?_;rintro n s1 _ g;change sO (Gf n) a0 a1 s1=_ at g;rw[sO]at g;refine yz ?_
 refine br g λ_ g=>?_;refine yX g KQ λx _ _ g=>?_;refine aK g λ_ g=>?_;exact yk (yN _ n ⟨by omega,g⟩)
theorem aa5 {n} (o:Of n):QM (wO (Gf n)):=by
 intro a0 a1 r g;rw[wO]at g;refine yw func199 ntmps199 ?_;refine yc g (o.a.abM _ _) λy g=>?_;cases g;exact zl
/-(*plexus.types.elaborator).call$1-/
theorem aa6 {n} (o:Of n):QN (rn (Gf n)):=by
 intro a0 a1 a2 r g;rw[rn]at g;refine yw func198 ntmps198 ?_;refine ao g ?_ ?_<;>intro _ g;exact yP g (o.a.fv _ _);refine yc g (o.a.Fz _ _) λy g=>?_;refine ao g ?_ ?_<;>intro _ g;exact yP g (o.a.fv _ _);refine Ok.fin aW ?_;obtain rfl:=jm g;exact RD.q0 rfl rfl aW rfl (b4.refl _)
theorem aa7 {n} (o:Of n):QO (wP (Gf n)):=by
 intro a0 r g;rw[wP]at g;refine yw func100 ntmps100 ?_;refine Ok.stuck aW<|ak.ua 3 rfl ?_ ?_
 intro cap k;replace g:(some ([]))=some r:=(by have l:a0=[]:=Jv.1 (by have k:=congrArg List.length k;simpa only[cj,oP]using k);subst l;simpa using g);refine yz ?_;refine yv (aQ.toP (aQ.pQ (et:=9) rfl zk rfl rfl)) ?_;cases g;exact yj;intro ad n0 cap;refine yz ?_;refine yv (aQ.toP (aQ.pQ (et:=9) rfl zk rfl rfl)) ?_;obtain⟨k,g⟩:=bz g;refine yk<|DO.Ba (rows2:=(aN a0)) rfl rfl zg rfl (b4.refl _) rfl rfl (Kk _) rfl rfl rfl (zo k) (yz ?_)
 cases g;exact zl
theorem ZR {n} (o:Of n):PJ (wo (Gf n)):=by
 intro a0 r g;rw[wo]at g;refine jE.walk (E:=env) func115 rfl zk (rs:=_) rfl ntmps115 rfl (yz ?_);refine Ok.stuck aW<|ak.ua 3 rfl ?_ ?_
 intro cap k;replace g:(some [])=some r:=(by have l:a0=[]:=Jv.1 (by have k:=congrArg List.length k;simpa only[aU.aD,oP]using k);subst l;simpa using g);refine yz ?_;refine yv (aQ.toP (aQ.pQ (et:=119) rfl zk rfl rfl)) ?_;refine Ok.fin aW ?_;obtain rfl:=jm g;exact RD.Da rfl rfl (by simp only[fE]);intro ad n0 cap;refine yz ?_;refine yv (aQ.toP (aQ.pQ (et:=119) rfl zk rfl rfl)) ?_;obtain⟨k,g⟩:=bz g;refine yk<|DO.Ba (rows2:=(aU.rows a0)) rfl rfl zg rfl (b4.refl _) rfl rfl (aU.bU _) rfl rfl rfl (zo k) (yz ?_)
 refine Ok.fin aW ?_;obtain rfl:=jm g;exact RD.E8 rfl rfl rfl rfl zi
theorem ZS {n} (o:Of n):PK (wu (Gf n)):=by
 intro a0 r g;rw[wu]at g;refine jE.walk (E:=env) func116 rfl zk (rs:=_) rfl ntmps116 rfl (yz ?_);refine Ok.stuck aW<|ak.ua 3 rfl ?_ ?_
 intro cap k;replace g:(some [])=some r:=(by have l:a0=[]:=Jv.1 (by have k:=congrArg List.length k;simpa only[ah.aD,oP]using k);subst l;simpa using g);refine yz ?_;refine yv (aQ.toP (aQ.pQ (et:=43) rfl zk rfl rfl)) ?_;refine Ok.fin aW ?_;obtain rfl:=jm g;exact RD.Da rfl rfl (by simp only[fE]);intro ad n0 cap;refine yz ?_;refine yv (aQ.toP (aQ.pQ (et:=43) rfl zk rfl rfl)) ?_;obtain⟨k,g⟩:=bz g;refine yk<|DO.Ba (rows2:=(ah.rows a0)) rfl rfl zg rfl (b4.refl _) rfl rfl (ah.bU _) rfl rfl rfl (zo k) (yz ?_)
 refine Ok.fin aW ?_;obtain rfl:=jm g;exact RD.E8 rfl rfl rfl rfl zi
theorem w66 {n} (o:Of n):SX (xg (Gf n)):=by
 intro a0 r g;rw[xg]at g;refine yw func66 ntmps66 ?_;refine yc g (o.a.QP _) λy g=>?_;obtain⟨v,z,g⟩:=ay g (o.a.ZT _);refine yk<|ak.PL z rfl rfl (by first|rfl|(simp only[fE];rfl)) rfl (yz ?_)
 refine yk<|yL (S:=Int×(List aU)) (G:=λm s=>vU (Gf m) a0 y v s.1 s.2) (s0:=(0,v)) 3 [1,2,15] [16] (λs=>[(16,.d (.v (.int .i64 s.1)))]) (λs=>[(2,.row 119 2 (aU.rows s.2)),(0,.box [.d (.v (.int .i64 a0.Kind)),.d (.v (.int .i64 a0.Lo)),.d (.v (.int .i64 a0.Hi)),.d (.sl 1 (aN y)),.d (.sl 6 (ah.rows a0.ax)),.os 2 (aU.rows s.2).length])]) g ?_;rintro n ⟨s3,s9⟩ _ g;change tj (Gf n) a0 y v s3 s9=_ at g;rw[tj]at g;refine yz ?_
 refine ao g ?_ ?_<;>intro _ g;refine yo [] (tk [0,3,6,9,12,15,18,21,24,28,30,33,37]) [] ?_
 iterate 4 (refine yt zp ?_)
 obtain⟨x,w,j,g⟩:=a8 g;refine yU zp (yr j w) ?_;refine yt (dG j w) ?_;refine yU (dG j w) (ym s3.toNat 0 (aU.aF w)) ?_;refine yd g (o.a.QP _) (by repeat(first|exact aG.nil|refine aG.cons rfl (bg.du (cl:=false) rfl aW) ?_|refine aG.skip rfl ?_|refine aG.cons rfl (yr j w) ?_|refine aG.cons rfl (ym s3.toNat 0 (aU.aF w)) ?_|refine aG.cons rfl (dX (cl:=false) rfl aW) ?_)) λv g=>?_;obtain⟨x,q,j1h,g⟩:=a8 g;refine yU (by repeat(first|exact aG.nil|refine aG.cons rfl (bg.du (cl:=false) rfl aW) ?_|refine aG.skip rfl ?_|refine aG.cons rfl (yr j w) ?_|refine aG.cons rfl (ym s3.toNat 0 (aU.aF w)) ?_|refine aG.cons rfl (dX (cl:=false) rfl aW) ?_)) (yr j1h q) ?_;refine yt (by repeat(first|exact aG.nil|refine aG.cons rfl (bg.du (cl:=false) rfl aW) ?_|refine aG.skip rfl ?_|refine aG.cons rfl (yr j w) ?_|refine aG.cons rfl (ym s3.toNat 0 (aU.aF w)) ?_|refine aG.cons rfl (yr j1h q) ?_|refine aG.cons rfl (dX (cl:=false) rfl aW) ?_)) ?_;refine yk<|ak.qg s3.toNat 0 (by repeat(first|exact aG.nil|refine aG.cons rfl (bg.du (cl:=false) rfl aW) ?_|refine aG.skip rfl ?_|refine aG.cons rfl (yr j w) ?_|refine aG.cons rfl (ym s3.toNat 0 (aU.aF w)) ?_|refine aG.cons rfl (yr j1h q) ?_|refine aG.cons rfl (dX (cl:=false) rfl aW) ?_)) (by rfl) (by rfl) (by rfl) (by rfl) (by rfl) (by rfl) (by rfl) (by rfl) zg (by rfl) (yg (aU.aF q)) (by rfl) (by rfl) (by rfl) (by rfl) (yz ?_)
 refine yt (by repeat(first|exact aG.nil|refine aG.cons rfl (bg.du (cl:=false) rfl aW) ?_|refine aG.skip rfl ?_|refine aG.cons rfl (yr j w) ?_|refine aG.cons rfl (ym s3.toNat 0 (aU.aF w)) ?_|refine aG.cons rfl (yr j1h q) ?_|refine aG.cons rfl (dX (cl:=false) rfl aW) ?_)) ?_;exact yk (yN (_,_) n ⟨by omega,g⟩);obtain⟨v,z,g⟩:=ay g (o.a.ZU _);refine yk<|ak.PL z rfl rfl (by first|rfl|(simp only[fE];rfl)) rfl (yz ?_)
 refine yk<|yL (S:=Int×(List ah)×(List aU)) (G:=λm s=>vV (Gf m) a0 y v s.1 s.2.1 s.2.2) (s0:=(0,v,s9)) 4 [1,2,15,16,38] [39] (λs=>[(39,.d (.v (.int .i64 s.1)))]) (λs=>[(3,.row 43 6 (ah.rows s.2.1)),(2,.row 119 2 (aU.rows s.2.2)),(0,.box [.d (.v (.int .i64 a0.Kind)),.d (.v (.int .i64 a0.Lo)),.d (.v (.int .i64 a0.Hi)),.d (.sl 1 (aN y)),.os 3 (ah.rows s.2.1).length,.os 2 (aU.rows s.2.2).length])]) g ?_;rintro n ⟨s17,s22,s23⟩ _ g;change tm (Gf n) a0 y v s17 s22 s23=_ at g;rw[tm]at g;refine yz ?_
 refine br g λ_ g=>?_;refine yo [0,1,2,3,4,5,6,7,8,9] [(10,.one)] [] ?_;obtain⟨x,w,j,g⟩:=a8 g;refine yl (yr j w) ?_;refine yl (ym s17.toNat 0 (ah.aF w)) ?_;obtain⟨y,z,g⟩:=ay g (o.a.H6 _);refine yl (yC z) ?_;obtain⟨x,w,j,g⟩:=a8 g;refine yl (yr j w) ?_;refine yk<|ak.qg s17.toNat 0 aG.nil (by rfl) (by rfl) (by rfl) (by rfl) (by rfl) (by rfl) (by rfl) (by rfl) zg (by rfl) (yg (ah.aF w)) (by rfl) (by rfl) (by rfl) (by rfl) (yz ?_)
 exact yk (yN (_,_,_) n ⟨by omega,g⟩)
theorem aa8 {n} (o:Of n):QQ (rp (Gf n)):=by
 intro a0 r g;rw[rp]at g;refine yw func238 ntmps238 ?_;refine aK g λ_ g=>?_;refine ao g ?_ ?_<;>intro _ g
 iterate 6 (refine aK g λ_ g=>?_)
 exact dV g;refine ao g ?_ ?_<;>intro _ g;refine yX g ab.aF λx _ _ g=>?_;refine yc g (o.a.uA _) λy g=>?_;refine br g λ_ g=>?_;refine yX g ab.aF λx _ _ g=>?_;refine yc g (o.a.uA _) λy g=>?_;cases g;exact zl
 iterate 2 (refine br g λ_ g=>?_;refine yX g ab.aF λx _ _ g=>?_;refine yc g (o.a.uA _) λy g=>?_)
 cases g;exact zl
theorem aa9 {n} (o:Of n):QR (Bb (Gf n)):=by
 intro a0 a1 r g;rw[Bb]at g;refine yw func205 ntmps205 ?_;refine aK g λ_ g=>?_;refine yk<|yL (S:=Int) (G:=λm s=>zY (Gf m) a0 a1 s) (s0:=0) 0 [0,1,4,12] [13] (λs=>[(13,.d (.v (.int .i64 s)))]) (λs=>[]) g ?_;rintro n s2 _ g;change zZ (Gf n) a0 a1 s2=_ at g;rw[zZ]at g;refine yz ?_
 refine br g λ_ g=>?_;refine yo [0,1,2,3,4,5,6,7,8] [] [] ?_
 iterate 2 (refine yY g dQ λx _ _ g=>?_)
 refine aK g λ_ g=>?_;exact yk (yN _ n ⟨by omega,g⟩)
theorem aa' {n} (o:Of n):QS (wQ (Gf n)):=by
 intro a0 a1 r g;rw[wQ]at g;refine yw func207 ntmps207 ?_;refine br g λ_ g=>?_;refine yc g (o.a.QT _ _) λy g=>?_;cases g;exact zl
theorem W0 {n} (o:Of n):LF (vo (Gf n)):=by
 intro a0 a1 r g;rw[vo]at g;refine yw func206 ntmps206 ?_;refine aK g λ_ g=>?_;refine yk<|yL (S:=Int) (G:=λm s=>sb (Gf m) a0 a1 s) (s0:=0) 0 [1,2,6,15,16] [17] (λs=>[(17,.d (.v (.int .i64 s)))]) (λs=>[]) g ?_;rintro n s2 _ g;change sd (Gf n) a0 a1 s2=_ at g;rw[sd]at g;refine yz ?_
 refine br g λ_ g=>?_
 iterate 2 (refine yX g aU.aF λx _ _ g=>?_)
 refine yc g (o.a.abN _ _) λy g=>?_;refine aK g λ_ g=>?_;exact yk (yN _ n ⟨by omega,g⟩)
theorem aba {n} (o:Of n):QU (wR (Gf n)):=by
 intro a0 a1 r g;rw[wR]at g;refine yw func161 ntmps161 ?_
 iterate 3 (refine br g λ_ g=>?_)
 refine yc g (o.a.QT _ _) λy g=>?_;refine br g λ_ g=>?_;refine yc g (o.a.W2 _ _) λy g=>?_;refine br g λ_ g=>?_;refine yc g (o.a.W3 _ _) λy g=>?_;cases g;exact zl
theorem W1 {n} (o:Of n):LG (vp (Gf n)):=by
 intro a0 a1 r g;rw[vp]at g;refine yw func208 ntmps208 ?_;refine aK g λ_ g=>?_;refine yk<|yL (S:=Int) (G:=λm s=>se (Gf m) a0 a1 s) (s0:=0) 0 [1,2,6,15,16] [17] (λs=>[(17,.d (.v (.int .i64 s)))]) (λs=>[]) g ?_;rintro n s2 _ g;change sf (Gf n) a0 a1 s2=_ at g;rw[sf]at g;refine yz ?_
 refine br g λ_ g=>?_
 iterate 2 (refine yX g ah.aF λx _ _ g=>?_)
 refine yc g (o.a.QV _ _) λy g=>?_;refine aK g λ_ g=>?_;exact yk (yN _ n ⟨by omega,g⟩)
theorem w93 {n} (o:Of n):SY (xh (Gf n)):=by
 intro a0 a1 r g;rw[xh]at g;refine yw func93 ntmps93 ?_;refine br g λ_ g=>?_;refine yc g (o.a.QV _ _) λy g=>?_;cases g;exact zl
/-(*plexus.types.elaborator).expr-/
theorem w48 {n} (o:Of n):SZ (rS (Gf n)):=by
 intro a0 a1 a2 r g;rw[rS]at g;refine yw func48 ntmps48 ?_;refine yp g (o.a.c91 _ _ _) λy g=>?_;refine yc g (o.a.H6 _) λy g=>?_;refine yc g (o.a.Bv _) λy g=>?_;refine br g λ_ g=>?_;refine yc g (o.a.S0 _ _) λy g=>?_;refine br g λ_ g=>?_;exact yP g (o.a.fv _ _)
/-(*plexus.types.elaborator).any-/
theorem w91 {n} (o:Of n):S1 (dN (Gf n)):=by
 intro a0 a1 a2 r g;rw[dN]at g;refine yw func91 ntmps91 ?_
 iterate 3 (refine yc g (o.a.fe _) λy g=>?_)
 iterate 4 (refine aK g λ_ g=>?_)
 refine ao g ?_ ?_<;>intro _ g;refine yc g (o.a.V7 _ _) λy g=>?_;refine ao g ?_ ?_<;>intro _ g;exact yP g (o.a.fv _ _);refine yX g TParam.aF λx _ _ g=>?_;refine yc g (o.a.fe _) λy g=>?_;cases g;exact yj;refine ao g ?_ ?_<;>intro _ g;refine yc g (o.a.iH _) λy g=>?_;cases g;exact yj
 iterate 2 (refine ao g ?_ ?_<;>intro _ g)
 exact yP g (o.a.fv _ _);refine yc g (o.a.Bv _) λy g=>?_;refine br g λ_ g=>?_;exact yP g (o.a.fv _ _)
 iterate 2 (refine ao g ?_ ?_<;>intro _ g;refine yp g (o.a.pR _ _ _ _ _ _) λy g=>?_;cases g;exact zl)
 refine ao g ?_ ?_<;>intro _ g;refine yo [] (tk [0,3,6,9,12,15,18,22,24,27,31]) [] ?_
 iterate 3 (refine yt zp ?_)
 obtain⟨x,w,j,g⟩:=a8 g;refine yu zp (yi j (ab.aF w)) ?_
 iterate 2 (refine yt zp ?_)
 refine yq g (o.a.cN _ _ _) zp λy g=>?_
 iterate 3 (refine yt zp ?_)
 cases g;exact yj
 iterate 2 (refine ao g ?_ ?_<;>intro _ g;refine yp g (o.a.pR _ _ _ _ _ _) λy g=>?_;cases g;exact zl)
 refine ao g ?_ ?_<;>intro _ g;refine yo [0,1,2,3,4] (tk [16,19]) [] ?_;obtain⟨y,z,g⟩:=ay g (o.a.fe _);refine yl (yC z) ?_;refine yq g (o.a.pR _ _ _ _ _ _) zp λy g=>?_
 iterate 2 (cases g;exact zl;refine ao g ?_ ?_<;>intro _ g;refine yp g (o.a.pR _ _ _ _ _ _) λy g=>?_)
 cases g;exact zl;refine ao g ?_ ?_<;>intro _ g;refine yp g (o.a.abO _ _ _) λy g=>?_;cases g;exact zl;refine yp g (o.a.abP _ _ _) λy g=>?_;cases g;exact zl
/-(*plexus.types.elaborator).pair-/
theorem abb {n} (o:Of n):QW (rq (Gf n)):=by
 intro a0 a1 a2 a3 a4 a5 r g;rw[rq]at g;refine yw func158 ntmps158 ?_
 iterate 2 (refine yo [] (tk [0,3,6,9,12,15,19,25]) [7] ?_;obtain⟨x,w,j,g⟩:=a8 g;refine yu zp (yi j (ab.aF w)) ?_;(iterate 2 (refine yt zp ?_));refine yq g (o.a.cN _ _ _) zp λy g=>?_;refine yt zp ?_)
 cases g;exact yj
/-(*plexus.types.elaborator).call-/
set_option maxHeartbeats 0 in
theorem abc {n} (o:Of n):QX (dM (Gf n)):=by
 intro a0 a1 a2 r g;rw[dM]at g;refine yw func159 ntmps159 ?_;refine yc g (o.a.abQ _) λy g=>?_
 iterate 2 (refine ao g ?_ ?_<;>intro _ g)
 exact yP g (o.a.fv _ _)
 iterate 2 (refine ao g ?_ ?_<;>intro _ g;refine yf g (o.a.jI _ _ _) λy g=>?_;refine yo [0,1,2,3,4,5] [(6,.one)] [] ?_;refine yY g ab.aF λx _ _ g=>?_;obtain⟨y,z,g⟩:=ay g (o.a.fe _);refine yl (yC z) ?_;refine yk<|ak.fH (rs:=_) rfl (λ_=>aG.nil) rfl rfl rfl rfl func200 rfl zk rfl ntmps200 rfl rfl (yz ?_);refine yo [] (tk [0,3,6,9,12,18,21,16,25,27,33,32,37]) [] ?_;(iterate 5 (refine yt zp ?_));refine yq g (o.a.cN _ _ _) zp λy g=>?_;obtain⟨k,g⟩:=bz g;refine yk<|ak.lP 9 zp rfl rfl rfl rfl rfl rfl rfl rfl rfl rfl rfl rfl rfl (zo k) (yz ?_);obtain⟨x,w,j,g⟩:=a8 g;refine yU zp (yr j w) ?_;refine yt (dG j w) ?_;refine jl (Int.toNat 0) 0 (ae.aF w) j w ?_;cases g;exact yj)
 refine ao g ?_ ?_<;>intro _ g;refine yf g (o.a.jI _ _ _) λy g=>?_;refine Ok.stuck aW ?_;refine ak.fP 5 11 52 12 7 rfl rfl rfl ?_;refine yL (S:=Int×(List ae)) (G:=λm s=>z6 (Gf m) a0 a1 a2 s.1 s.2) (s0:=(0,[])) 8 [6,10,11,76,77] [78] (λs=>[(78,.d (.v (.int .i64 s.1)))]) (λs=>[(7,.row 52 12 (ae.rows s.2)),(5,.box [.d (.v (.int .i64 23)),.d (.v (.int .i64 a2.aP)),.d (.v (.int .i64 a2.aj.Kind)),.d (.v (.int .i64 a2.aj.Lo)),.d (.v (.int .i64 a2.aj.Hi)),.d (.sl 1 (aN a2.aj.Names)),.d (.sl 6 (ah.rows a2.aj.ax)),.d (.sl 2 (aU.rows a2.aj.aZ)),.d (.v (.int .i64 0)),.d (.v (.string ⟨⟨([])⟩⟩)),.d (.v (.int .i64 0)),.os 7 (ae.rows s.2).length])]) g ?_;rintro n ⟨s25,s37⟩ _ g;change Dx (Gf n) a0 a1 a2 s25 s37=_ at g;rw[Dx]at g;refine yz ?_;refine br g λ_ g=>?_;refine yX g ab.aF λx _ _ g=>?_;refine yk<|ak.inl (rs:=_) rfl func200 rfl zk rfl ntmps200 rfl rfl (yz ?_)
 refine yo [] (tk [0,3,6,9,12,18,21,16,25,27,33,32,37]) [] ?_
 iterate 5 (refine yt zp ?_)
 refine yq g (o.a.cN _ _ _) zp λy g=>?_;obtain⟨k,g⟩:=bz g;refine yk<|ak.cR (rows2:=(ae.rows ([ae.z]))) zp rfl rfl rfl rfl rfl zg rfl zi rfl rfl (ae.bU _) rfl rfl (zo k) (yz ?_)
 obtain⟨x,w,j,g⟩:=a8 g;refine yU zp (yr j w) ?_;refine yt (dG j w) ?_;refine jl ((↑(ae.rows s37).length:Int).toNat) 0 (ae.aF w) j w ?_;obtain⟨x,w,j,g⟩:=a8 g;refine yv (yr j w) ?_;refine yv (ym ((IntKind.i64.wrap ((↑(ae.rows s37++ae.rows [ae.z]).length:Int)-1)).toNat) 1 (ae.aF w)) ?_
 iterate 2 (refine ao g ?_ ?_<;>intro _ g)
 exact yP g (o.a.fv _ _)
 iterate 2 (exact yk (yN (_,_) n ⟨by omega,g⟩))
 refine ao g ?_ ?_<;>intro _ g;refine yf g (o.a.jI _ _ _) λy g=>?_;refine Ok.stuck aW ?_;refine ak.fP 5 11 52 12 7 rfl rfl rfl ?_;refine yL (S:=Int×(List ae)) (G:=λm s=>Dy (Gf m) a0 a1 a2 s.1 s.2) (s0:=(0,[])) 8 [6,9,10,11,114,115] [116] (λs=>[(116,.d (.v (.int .i64 s.1)))]) (λs=>[(7,.row 52 12 (ae.rows s.2)),(5,.box [.d (.v (.int .i64 24)),.d (.v (.int .i64 a2.aP)),.d (.v (.int .i64 a2.aj.Kind)),.d (.v (.int .i64 a2.aj.Lo)),.d (.v (.int .i64 a2.aj.Hi)),.d (.sl 1 (aN a2.aj.Names)),.d (.sl 6 (ah.rows a2.aj.ax)),.d (.sl 2 (aU.rows a2.aj.aZ)),.d (.v (.int .i64 0)),.d (.v (.string ⟨⟨([])⟩⟩)),.d (.v (.int .i64 0)),.os 7 (ae.rows s.2).length])]) g ?_;rintro n ⟨s52,s64⟩ _ g;change Dz (Gf n) a0 a1 a2 s52 s64=_ at g;rw[Dz]at g;refine yz ?_;refine br g λ_ g=>?_;refine yX g ab.aF λx _ _ g=>?_;refine yo [0,1,2,3,4,5] [(6,.one)] [] ?_;refine yY g ab.aF λx _ _ g=>?_;obtain⟨y,z,g⟩:=ay g (o.a.fe _);refine yl (yC z) ?_;refine yk<|ak.fH (rs:=_) rfl (λ_=>aG.nil) rfl rfl rfl rfl func200 rfl zk rfl ntmps200 rfl rfl (yz ?_)
 refine yo [] (tk [0,3,6,9,12,18,21,16,25,27,33,32,37]) [] ?_
 iterate 5 (refine yt zp ?_)
 refine yq g (o.a.cN _ _ _) zp λy g=>?_;obtain⟨k,g⟩:=bz g;refine yk<|ak.cR (rows2:=(ae.rows ([ae.z]))) zp rfl rfl rfl rfl rfl zg rfl zi rfl rfl (ae.bU _) rfl rfl (zo k) (yz ?_)
 obtain⟨x,w,j,g⟩:=a8 g;refine yU zp (yr j w) ?_;refine yt (dG j w) ?_;refine jl ((↑(ae.rows s64).length:Int).toNat) 0 (ae.aF w) j w ?_;refine yo [0,1,2,3,4,5,6,7,8,9] [(10,.one)] [] ?_;refine yY g ab.aF λx _ _ g=>?_;refine yY g ah.aF λx _ _ g=>?_;obtain⟨y,z,g⟩:=ay g (o.a.iH _);refine yl (yC z) ?_;refine yk<|ak.fH (rs:=_) rfl (λ_=>aG.nil) rfl rfl rfl rfl func200 rfl zk rfl ntmps200 rfl rfl (yz ?_)
 refine yo [] (tk [0,3,6,9,12,18,21,16,25,27,33,32,37]) [] ?_
 iterate 5 (refine yt (dG j w) ?_)
 refine yq g (o.a.cN _ _ _) (dG j w) λy g=>?_;obtain⟨k,g⟩:=bz g;refine yk<|ak.cR (rows2:=(ae.rows ([ae.z]))) (by repeat(first|exact aG.nil|refine aG.cons rfl (bg.du (cl:=false) rfl aW) ?_|refine aG.skip rfl ?_|refine aG.cons rfl (yr j w) ?_|refine aG.cons rfl (dX (cl:=false) rfl aW) ?_)) rfl rfl rfl rfl rfl zg rfl zi rfl rfl (ae.bU _) rfl rfl (zo k) (yz ?_)
 obtain⟨x,q,j1h,g⟩:=a8 g;refine yU zp (yr j1h q) ?_;refine yt (kK j w j1h q) ?_;refine uO ((↑(ae.rows s64++ae.rows [ae.z]).length:Int).toNat) 0 (ae.aF q) j w j1h q ?_;exact yk (yN (_,_) n ⟨by omega,g⟩);refine ao g ?_ ?_<;>intro _ g;refine yf g (o.a.jI _ _ _) λy g=>?_;refine yp g (o.a.QY _ _ _) λy g=>?_;cases g;exact zl;refine ao g ?_ ?_<;>intro _ g;refine yf g (o.a.jI _ _ _) λy g=>?_;refine yo [0,1,2,3,4,5,6,7,8,9] [(10,.one)] [] ?_;refine yY g ab.aF λx _ _ g=>?_;refine yY g ah.aF λx _ _ g=>?_;obtain⟨y,z,g⟩:=ay g (o.a.iH _);refine yl (yC z) ?_;refine yk<|ak.fH (rs:=_) rfl (λ_=>aG.nil) rfl rfl rfl rfl func200 rfl zk rfl ntmps200 rfl rfl (yz ?_)
 refine yo [] (tk [0,3,6,9,12,18,21,16,25,27,33,32,37]) [] ?_
 iterate 5 (refine yt zp ?_)
 refine yq g (o.a.cN _ _ _) zp λy g=>?_;obtain⟨k,g⟩:=bz g;refine yk<|ak.lP 9 zp rfl rfl rfl rfl rfl rfl rfl rfl rfl rfl rfl rfl rfl (zo k) (yz ?_)
 obtain⟨x,w,j,g⟩:=a8 g;refine yU zp (yr j w) ?_;refine yt (dG j w) ?_;refine jl (Int.toNat 0) 0 (ae.aF w) j w ?_;refine yo [0,1,2,3,4,5,6,7,8,9] [(10,.one)] [] ?_;refine yY g ab.aF λx _ _ g=>?_;refine yY g ah.aF λx _ _ g=>?_;obtain⟨y,z,g⟩:=ay g (o.a.iH _);refine yl (yC z) ?_;refine yk<|ak.fH (rs:=_) rfl (λ_=>aG.nil) rfl rfl rfl rfl func200 rfl zk rfl ntmps200 rfl rfl (yz ?_)
 refine yo [] (tk [0,3,6,9,12,18,21,16,25,27,33,32,37]) [] ?_
 iterate 5 (refine yt (dG j w) ?_)
 refine yq g (o.a.cN _ _ _) (dG j w) λy g=>?_;obtain⟨k,g⟩:=bz g;refine yk<|ak.cR (rows2:=(ae.rows ([ae.z]))) (by repeat(first|exact aG.nil|refine aG.cons rfl (bg.du (cl:=false) rfl aW) ?_|refine aG.skip rfl ?_|refine aG.cons rfl (yr j w) ?_|refine aG.cons rfl (dX (cl:=false) rfl aW) ?_)) rfl rfl rfl rfl rfl zg rfl zi rfl rfl (ae.bU _) rfl rfl (zo k) (yz ?_)
 obtain⟨x,q,j1h,g⟩:=a8 g;refine yU zp (yr j1h q) ?_;refine yt (kK j w j1h q) ?_;refine uO (Int.toNat 1) 0 (ae.aF q) j w j1h q ?_;cases g;exact yj;refine ao g ?_ ?_<;>intro _ g;refine yf g (o.a.jI _ _ _) λy g=>?_;refine yo [0,1,2,3,4,5] [(6,.one)] [] ?_;refine yY g ab.aF λx _ _ g=>?_;obtain⟨y,z,g⟩:=ay g (o.a.fe _);refine yl (yC z) ?_;refine yk<|ak.fH (rs:=_) rfl (λ_=>aG.nil) rfl rfl rfl rfl func200 rfl zk rfl ntmps200 rfl rfl (yz ?_)
 refine yo [] (tk [0,3,6,9,12,18,21,16,25,27,33,32,37]) [] ?_
 iterate 5 (refine yt zp ?_)
 refine yq g (o.a.cN _ _ _) zp λy g=>?_;obtain⟨k,g⟩:=bz g;refine yk<|ak.lP 9 zp rfl rfl rfl rfl rfl rfl rfl rfl rfl rfl rfl rfl rfl (zo k) (yz ?_)
 obtain⟨x,w,j,g⟩:=a8 g;refine yU zp (yr j w) ?_;refine yt (dG j w) ?_;refine jl (Int.toNat 0) 0 (ae.aF w) j w ?_;cases g;exact yj;refine ao g ?_ ?_<;>intro _ g;refine yc g (o.a.iH _) λy g=>?_;refine yo [0,1,2,3,4,5,6] [(7,.one)] [] ?_;refine yY g ab.aF λx _ _ g=>?_;refine yk<|ak.fH (rs:=_) rfl (λ_=>aG.nil) rfl rfl rfl rfl func200 rfl zk rfl ntmps200 rfl rfl (yz ?_)
 refine yo [] (tk [0,3,6,9,12,18,21,16,25,27,33,32,37]) [] ?_
 iterate 5 (refine yt zp ?_)
 refine yq g (o.a.cN _ _ _) zp λy g=>?_;obtain⟨k,g⟩:=bz g;refine yk<|ak.lP 8 zp rfl rfl rfl rfl rfl rfl rfl rfl rfl rfl rfl rfl rfl (zo k) (yz ?_)
 obtain⟨x,w,j,g⟩:=a8 g;refine yU zp (yr j w) ?_;refine yt (dG j w) ?_;refine jl (Int.toNat 0) 0 (ae.aF w) j w ?_;refine yo [0,1,2,3,4,5] [(6,.one)] [] ?_;refine yY g ab.aF λx _ _ g=>?_;obtain⟨y,z,g⟩:=ay g (o.a.fe _);refine yl (yC z) ?_;refine yk<|ak.fH (rs:=_) rfl (λ_=>aG.nil) rfl rfl rfl rfl func200 rfl zk rfl ntmps200 rfl rfl (yz ?_)
 refine yo [] (tk [0,3,6,9,12,18,21,16,25,27,33,32,37]) [] ?_
 iterate 5 (refine yt (dG j w) ?_)
 refine yq g (o.a.cN _ _ _) (dG j w) λy g=>?_;obtain⟨k,g⟩:=bz g;refine yk<|ak.cR (rows2:=(ae.rows ([ae.z]))) (by repeat(first|exact aG.nil|refine aG.cons rfl (bg.du (cl:=false) rfl aW) ?_|refine aG.skip rfl ?_|refine aG.cons rfl (yr j w) ?_|refine aG.cons rfl (dX (cl:=false) rfl aW) ?_)) rfl rfl rfl rfl rfl zg rfl zi rfl rfl (ae.bU _) rfl rfl (zo k) (yz ?_)
 obtain⟨x,q,j1h,g⟩:=a8 g;refine yU zp (yr j1h q) ?_;refine yt (kK j w j1h q) ?_;refine uO (Int.toNat 1) 0 (ae.aF q) j w j1h q ?_;refine yo [0,1,2,3,4,5] [(6,.one)] [] ?_;refine yY g ab.aF λx _ _ g=>?_;obtain⟨y,z,g⟩:=ay g (o.a.fe _);refine yl (yC z) ?_;refine yk<|ak.fH (rs:=_) rfl (λ_=>aG.nil) rfl rfl rfl rfl func200 rfl zk rfl ntmps200 rfl rfl (yz ?_)
 refine yo [] (tk [0,3,6,9,12,18,21,16,25,27,33,32,37]) [] ?_
 iterate 5 (refine yt (kK j w j1h q) ?_)
 refine yq g (o.a.cN _ _ _) (kK j w j1h q) λy g=>?_;obtain⟨k,g⟩:=bz g;refine yk<|ak.cR (rows2:=(ae.rows ([ae.z]))) (by repeat(first|exact aG.nil|refine aG.cons rfl (bg.du (cl:=false) rfl aW) ?_|refine aG.skip rfl ?_|refine aG.cons rfl (yr j w) ?_|refine aG.cons rfl (yr j1h q) ?_|refine aG.cons rfl (dX (cl:=false) rfl aW) ?_)) rfl rfl rfl rfl rfl zg rfl zi rfl rfl (ae.bU _) rfl rfl (zo k) (yz ?_)
 obtain⟨x,ex2,j2h,g⟩:=a8 g;refine yU zp (yr j2h ex2) ?_;refine yt (S2 j w j1h q j2h ex2) ?_;refine yk<|ak.zm (Int.toNat 2) 0 (by repeat(first|exact aG.nil|refine aG.cons rfl (bg.du (cl:=false) rfl aW) ?_|refine aG.skip rfl ?_|refine aG.cons rfl (yr j w) ?_|refine aG.cons rfl (yr j1h q) ?_|refine aG.cons rfl (yr j2h ex2) ?_|refine aG.cons rfl (dX (cl:=false) rfl aW) ?_)) (by rfl) (by rfl) (by rfl) (by rfl) (by rfl) (by rfl) (by rfl) (by rfl) (by rfl) (by rfl) (yg (ae.aF ex2)) (by rfl) (by rfl) (by rfl) (by rfl) (by rfl) (by rfl) (by rfl) (by rfl) (by rfl) (by rfl) (by rfl) (by rfl) (by rfl) (by rfl) (by rfl) (by repeat(first|exact aG.nil|refine aG.cons rfl (bg.du (cl:=false) rfl aW) ?_|refine aG.skip rfl ?_|refine aG.cons rfl (yr j w) ?_|refine aG.cons rfl (yr j1h q) ?_|refine aG.cons rfl (yr j2h ex2) ?_|refine aG.cons rfl (dX (cl:=false) rfl aW) ?_)) (by repeat(first|exact aG.nil|refine aG.cons rfl (bg.du (cl:=false) rfl aW) ?_|refine aG.skip rfl ?_|refine aG.cons rfl (yr j w) ?_|refine aG.cons rfl (yr j1h q) ?_|refine aG.cons rfl (yr j2h ex2) ?_|refine aG.cons rfl (dX (cl:=false) rfl aW) ?_)) (yz ?_)
 cases g;exact yj;refine yp g (o.a.QZ _ _) λy g=>?_;cases g;exact zl
 iterate 2 (refine ao g ?_ ?_<;>intro _ g;refine yf g (o.a.jI _ _ _) λy g=>?_;refine yo [0,1,2,3,4,5] [(6,.one)] [] ?_;refine yY g ab.aF λx _ _ g=>?_;obtain⟨y,z,g⟩:=ay g (o.a.fe _);refine yl (yC z) ?_;refine yk<|ak.fH (rs:=_) rfl (λ_=>aG.nil) rfl rfl rfl rfl func200 rfl zk rfl ntmps200 rfl rfl (yz ?_);refine yo [] (tk [0,3,6,9,12,18,21,16,25,27,33,32,37]) [] ?_;(iterate 5 (refine yt zp ?_));refine yq g (o.a.cN _ _ _) zp λy g=>?_;obtain⟨k,g⟩:=bz g;refine yk<|ak.lP 9 zp rfl rfl rfl rfl rfl rfl rfl rfl rfl rfl rfl rfl rfl (zo k) (yz ?_);obtain⟨x,w,j,g⟩:=a8 g;refine yU zp (yr j w) ?_;refine yt (dG j w) ?_;refine jl (Int.toNat 0) 0 (ae.aF w) j w ?_;cases g;exact yj)
 refine ao g ?_ ?_<;>intro _ g;refine yf g (o.a.jI _ _ _) λy g=>?_;refine Ok.stuck aW ?_;refine ak.fP 5 11 52 12 7 rfl rfl rfl ?_;refine yL (S:=Int×(List ae)) (G:=λm s=>gz (Gf m) a0 a1 a2 s.1 s.2) (s0:=(0,[])) 8 [6,10,11,76,77] [78] (λs=>[(78,.d (.v (.int .i64 s.1)))]) (λs=>[(7,.row 52 12 (ae.rows s.2)),(5,.box [.d (.v (.int .i64 23)),.d (.v (.int .i64 a2.aP)),.d (.v (.int .i64 a2.aj.Kind)),.d (.v (.int .i64 a2.aj.Lo)),.d (.v (.int .i64 a2.aj.Hi)),.d (.sl 1 (aN a2.aj.Names)),.d (.sl 6 (ah.rows a2.aj.ax)),.d (.sl 2 (aU.rows a2.aj.aZ)),.d (.v (.int .i64 0)),.d (.v (.string ⟨⟨([])⟩⟩)),.d (.v (.int .i64 0)),.os 7 (ae.rows s.2).length])]) g ?_;rintro n ⟨s159,s171⟩ _ g;change kT (Gf n) a0 a1 a2 s159 s171=_ at g;rw[kT]at g;refine yz ?_;refine br g λ_ g=>?_;refine yX g ab.aF λx _ _ g=>?_;refine yk<|ak.inl (rs:=_) rfl func200 rfl zk rfl ntmps200 rfl rfl (yz ?_)
 refine yo [] (tk [0,3,6,9,12,18,21,16,25,27,33,32,37]) [] ?_
 iterate 5 (refine yt zp ?_)
 refine yq g (o.a.cN _ _ _) zp λy g=>?_;obtain⟨k,g⟩:=bz g;refine yk<|ak.cR (rows2:=(ae.rows ([ae.z]))) zp rfl rfl rfl rfl rfl zg rfl zi rfl rfl (ae.bU _) rfl rfl (zo k) (yz ?_)
 obtain⟨x,w,j,g⟩:=a8 g;refine yU zp (yr j w) ?_;refine yt (dG j w) ?_;refine jl ((↑(ae.rows s171).length:Int).toNat) 0 (ae.aF w) j w ?_;obtain⟨x,w,j,g⟩:=a8 g;refine yv (yr j w) ?_;refine yv (ym ((IntKind.i64.wrap ((↑(ae.rows s171++ae.rows [ae.z]).length:Int)-1)).toNat) 1 (ae.aF w)) ?_
 iterate 2 (refine ao g ?_ ?_<;>intro _ g)
 exact yP g (o.a.fv _ _)
 iterate 2 (exact yk (yN (_,_) n ⟨by omega,g⟩))
 refine ao g ?_ ?_<;>intro _ g;refine yf g (o.a.jI _ _ _) λy g=>?_;refine Ok.stuck aW ?_;refine ak.fP 5 11 52 12 7 rfl rfl rfl ?_;refine yL (S:=Int×(List ae)) (G:=λm s=>jy (Gf m) a0 a1 a2 s.1 s.2) (s0:=(0,[])) 8 [6,9,10,11,114,115] [116] (λs=>[(116,.d (.v (.int .i64 s.1)))]) (λs=>[(7,.row 52 12 (ae.rows s.2)),(5,.box [.d (.v (.int .i64 24)),.d (.v (.int .i64 a2.aP)),.d (.v (.int .i64 a2.aj.Kind)),.d (.v (.int .i64 a2.aj.Lo)),.d (.v (.int .i64 a2.aj.Hi)),.d (.sl 1 (aN a2.aj.Names)),.d (.sl 6 (ah.rows a2.aj.ax)),.d (.sl 2 (aU.rows a2.aj.aZ)),.d (.v (.int .i64 0)),.d (.v (.string ⟨⟨([])⟩⟩)),.d (.v (.int .i64 0)),.os 7 (ae.rows s.2).length])]) g ?_;rintro n ⟨s186,s198⟩ _ g;change mL (Gf n) a0 a1 a2 s186 s198=_ at g;rw[mL]at g;refine yz ?_;refine br g λ_ g=>?_;refine yX g ab.aF λx _ _ g=>?_;refine yo [0,1,2,3,4,5] [(6,.one)] [] ?_;refine yY g ab.aF λx _ _ g=>?_;obtain⟨y,z,g⟩:=ay g (o.a.fe _);refine yl (yC z) ?_;refine yk<|ak.fH (rs:=_) rfl (λ_=>aG.nil) rfl rfl rfl rfl func200 rfl zk rfl ntmps200 rfl rfl (yz ?_)
 refine yo [] (tk [0,3,6,9,12,18,21,16,25,27,33,32,37]) [] ?_
 iterate 5 (refine yt zp ?_)
 refine yq g (o.a.cN _ _ _) zp λy g=>?_;obtain⟨k,g⟩:=bz g;refine yk<|ak.cR (rows2:=(ae.rows ([ae.z]))) zp rfl rfl rfl rfl rfl zg rfl zi rfl rfl (ae.bU _) rfl rfl (zo k) (yz ?_)
 obtain⟨x,w,j,g⟩:=a8 g;refine yU zp (yr j w) ?_;refine yt (dG j w) ?_;refine jl ((↑(ae.rows s198).length:Int).toNat) 0 (ae.aF w) j w ?_;refine yo [0,1,2,3,4,5,6,7,8,9] [(10,.one)] [] ?_;refine yY g ab.aF λx _ _ g=>?_;refine yY g ah.aF λx _ _ g=>?_;obtain⟨y,z,g⟩:=ay g (o.a.iH _);refine yl (yC z) ?_;refine yk<|ak.fH (rs:=_) rfl (λ_=>aG.nil) rfl rfl rfl rfl func200 rfl zk rfl ntmps200 rfl rfl (yz ?_)
 refine yo [] (tk [0,3,6,9,12,18,21,16,25,27,33,32,37]) [] ?_
 iterate 5 (refine yt (dG j w) ?_)
 refine yq g (o.a.cN _ _ _) (dG j w) λy g=>?_;obtain⟨k,g⟩:=bz g;refine yk<|ak.cR (rows2:=(ae.rows ([ae.z]))) (by repeat(first|exact aG.nil|refine aG.cons rfl (bg.du (cl:=false) rfl aW) ?_|refine aG.skip rfl ?_|refine aG.cons rfl (yr j w) ?_|refine aG.cons rfl (dX (cl:=false) rfl aW) ?_)) rfl rfl rfl rfl rfl zg rfl zi rfl rfl (ae.bU _) rfl rfl (zo k) (yz ?_)
 obtain⟨x,q,j1h,g⟩:=a8 g;refine yU zp (yr j1h q) ?_;refine yt (kK j w j1h q) ?_;refine uO ((↑(ae.rows s198++ae.rows [ae.z]).length:Int).toNat) 0 (ae.aF q) j w j1h q ?_;exact yk (yN (_,_) n ⟨by omega,g⟩);refine ao g ?_ ?_<;>intro _ g;refine yf g (o.a.jI _ _ _) λy g=>?_;refine yp g (o.a.QY _ _ _) λy g=>?_;cases g;exact zl;refine ao g ?_ ?_<;>intro _ g;refine yf g (o.a.jI _ _ _) λy g=>?_;refine yo [0,1,2,3,4,5,6,7,8,9] [(10,.one)] [] ?_;refine yY g ab.aF λx _ _ g=>?_;refine yY g ah.aF λx _ _ g=>?_;obtain⟨y,z,g⟩:=ay g (o.a.iH _);refine yl (yC z) ?_;refine yk<|ak.fH (rs:=_) rfl (λ_=>aG.nil) rfl rfl rfl rfl func200 rfl zk rfl ntmps200 rfl rfl (yz ?_)
 refine yo [] (tk [0,3,6,9,12,18,21,16,25,27,33,32,37]) [] ?_
 iterate 5 (refine yt zp ?_)
 refine yq g (o.a.cN _ _ _) zp λy g=>?_;obtain⟨k,g⟩:=bz g;refine yk<|ak.lP 9 zp rfl rfl rfl rfl rfl rfl rfl rfl rfl rfl rfl rfl rfl (zo k) (yz ?_)
 obtain⟨x,w,j,g⟩:=a8 g;refine yU zp (yr j w) ?_;refine yt (dG j w) ?_;refine jl (Int.toNat 0) 0 (ae.aF w) j w ?_;refine yo [0,1,2,3,4,5,6,7,8,9] [(10,.one)] [] ?_;refine yY g ab.aF λx _ _ g=>?_;refine yY g ah.aF λx _ _ g=>?_;obtain⟨y,z,g⟩:=ay g (o.a.iH _);refine yl (yC z) ?_;refine yk<|ak.fH (rs:=_) rfl (λ_=>aG.nil) rfl rfl rfl rfl func200 rfl zk rfl ntmps200 rfl rfl (yz ?_)
 refine yo [] (tk [0,3,6,9,12,18,21,16,25,27,33,32,37]) [] ?_
 iterate 5 (refine yt (dG j w) ?_)
 refine yq g (o.a.cN _ _ _) (dG j w) λy g=>?_;obtain⟨k,g⟩:=bz g;refine yk<|ak.cR (rows2:=(ae.rows ([ae.z]))) (by repeat(first|exact aG.nil|refine aG.cons rfl (bg.du (cl:=false) rfl aW) ?_|refine aG.skip rfl ?_|refine aG.cons rfl (yr j w) ?_|refine aG.cons rfl (dX (cl:=false) rfl aW) ?_)) rfl rfl rfl rfl rfl zg rfl zi rfl rfl (ae.bU _) rfl rfl (zo k) (yz ?_)
 obtain⟨x,q,j1h,g⟩:=a8 g;refine yU zp (yr j1h q) ?_;refine yt (kK j w j1h q) ?_;refine uO (Int.toNat 1) 0 (ae.aF q) j w j1h q ?_;cases g;exact yj;refine ao g ?_ ?_<;>intro _ g;refine yf g (o.a.jI _ _ _) λy g=>?_;refine yo [0,1,2,3,4,5] [(6,.one)] [] ?_;refine yY g ab.aF λx _ _ g=>?_;obtain⟨y,z,g⟩:=ay g (o.a.fe _);refine yl (yC z) ?_;refine yk<|ak.fH (rs:=_) rfl (λ_=>aG.nil) rfl rfl rfl rfl func200 rfl zk rfl ntmps200 rfl rfl (yz ?_)
 refine yo [] (tk [0,3,6,9,12,18,21,16,25,27,33,32,37]) [] ?_
 iterate 5 (refine yt zp ?_)
 refine yq g (o.a.cN _ _ _) zp λy g=>?_;obtain⟨k,g⟩:=bz g;refine yk<|ak.lP 9 zp rfl rfl rfl rfl rfl rfl rfl rfl rfl rfl rfl rfl rfl (zo k) (yz ?_)
 obtain⟨x,w,j,g⟩:=a8 g;refine yU zp (yr j w) ?_;refine yt (dG j w) ?_;refine jl (Int.toNat 0) 0 (ae.aF w) j w ?_;cases g;exact yj;refine ao g ?_ ?_<;>intro _ g;refine yc g (o.a.iH _) λy g=>?_;refine yo [0,1,2,3,4,5,6] [(7,.one)] [] ?_;refine yY g ab.aF λx _ _ g=>?_;refine yk<|ak.fH (rs:=_) rfl (λ_=>aG.nil) rfl rfl rfl rfl func200 rfl zk rfl ntmps200 rfl rfl (yz ?_)
 refine yo [] (tk [0,3,6,9,12,18,21,16,25,27,33,32,37]) [] ?_
 iterate 5 (refine yt zp ?_)
 refine yq g (o.a.cN _ _ _) zp λy g=>?_;obtain⟨k,g⟩:=bz g;refine yk<|ak.lP 8 zp rfl rfl rfl rfl rfl rfl rfl rfl rfl rfl rfl rfl rfl (zo k) (yz ?_)
 obtain⟨x,w,j,g⟩:=a8 g;refine yU zp (yr j w) ?_;refine yt (dG j w) ?_;refine jl (Int.toNat 0) 0 (ae.aF w) j w ?_;refine yo [0,1,2,3,4,5] [(6,.one)] [] ?_;refine yY g ab.aF λx _ _ g=>?_;obtain⟨y,z,g⟩:=ay g (o.a.fe _);refine yl (yC z) ?_;refine yk<|ak.fH (rs:=_) rfl (λ_=>aG.nil) rfl rfl rfl rfl func200 rfl zk rfl ntmps200 rfl rfl (yz ?_)
 refine yo [] (tk [0,3,6,9,12,18,21,16,25,27,33,32,37]) [] ?_
 iterate 5 (refine yt (dG j w) ?_)
 refine yq g (o.a.cN _ _ _) (dG j w) λy g=>?_;obtain⟨k,g⟩:=bz g;refine yk<|ak.cR (rows2:=(ae.rows ([ae.z]))) (by repeat(first|exact aG.nil|refine aG.cons rfl (bg.du (cl:=false) rfl aW) ?_|refine aG.skip rfl ?_|refine aG.cons rfl (yr j w) ?_|refine aG.cons rfl (dX (cl:=false) rfl aW) ?_)) rfl rfl rfl rfl rfl zg rfl zi rfl rfl (ae.bU _) rfl rfl (zo k) (yz ?_)
 obtain⟨x,q,j1h,g⟩:=a8 g;refine yU zp (yr j1h q) ?_;refine yt (kK j w j1h q) ?_;refine uO (Int.toNat 1) 0 (ae.aF q) j w j1h q ?_;refine yo [0,1,2,3,4,5] [(6,.one)] [] ?_;refine yY g ab.aF λx _ _ g=>?_;obtain⟨y,z,g⟩:=ay g (o.a.fe _);refine yl (yC z) ?_;refine yk<|ak.fH (rs:=_) rfl (λ_=>aG.nil) rfl rfl rfl rfl func200 rfl zk rfl ntmps200 rfl rfl (yz ?_)
 refine yo [] (tk [0,3,6,9,12,18,21,16,25,27,33,32,37]) [] ?_
 iterate 5 (refine yt (kK j w j1h q) ?_)
 refine yq g (o.a.cN _ _ _) (kK j w j1h q) λy g=>?_;obtain⟨k,g⟩:=bz g;refine yk<|ak.cR (rows2:=(ae.rows ([ae.z]))) (by repeat(first|exact aG.nil|refine aG.cons rfl (bg.du (cl:=false) rfl aW) ?_|refine aG.skip rfl ?_|refine aG.cons rfl (yr j w) ?_|refine aG.cons rfl (yr j1h q) ?_|refine aG.cons rfl (dX (cl:=false) rfl aW) ?_)) rfl rfl rfl rfl rfl zg rfl zi rfl rfl (ae.bU _) rfl rfl (zo k) (yz ?_)
 obtain⟨x,ex2,j2h,g⟩:=a8 g;refine yU zp (yr j2h ex2) ?_;refine yt (S2 j w j1h q j2h ex2) ?_;refine yk<|ak.zm (Int.toNat 2) 0 (by repeat(first|exact aG.nil|refine aG.cons rfl (bg.du (cl:=false) rfl aW) ?_|refine aG.skip rfl ?_|refine aG.cons rfl (yr j w) ?_|refine aG.cons rfl (yr j1h q) ?_|refine aG.cons rfl (yr j2h ex2) ?_|refine aG.cons rfl (dX (cl:=false) rfl aW) ?_)) (by rfl) (by rfl) (by rfl) (by rfl) (by rfl) (by rfl) (by rfl) (by rfl) (by rfl) (by rfl) (yg (ae.aF ex2)) (by rfl) (by rfl) (by rfl) (by rfl) (by rfl) (by rfl) (by rfl) (by rfl) (by rfl) (by rfl) (by rfl) (by rfl) (by rfl) (by rfl) (by rfl) (by repeat(first|exact aG.nil|refine aG.cons rfl (bg.du (cl:=false) rfl aW) ?_|refine aG.skip rfl ?_|refine aG.cons rfl (yr j w) ?_|refine aG.cons rfl (yr j1h q) ?_|refine aG.cons rfl (yr j2h ex2) ?_|refine aG.cons rfl (dX (cl:=false) rfl aW) ?_)) (by repeat(first|exact aG.nil|refine aG.cons rfl (bg.du (cl:=false) rfl aW) ?_|refine aG.skip rfl ?_|refine aG.cons rfl (yr j w) ?_|refine aG.cons rfl (yr j1h q) ?_|refine aG.cons rfl (yr j2h ex2) ?_|refine aG.cons rfl (dX (cl:=false) rfl aW) ?_)) (yz ?_)
 cases g;exact yj;refine yp g (o.a.QZ _ _) λy g=>?_;cases g;exact zl
