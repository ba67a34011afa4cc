/- Printed by a program: what functions answer, and that they do. -/
import Derived.Test.YtnocmolegijmkaaGreatKGA3
set_option linter.all false
set_option maxRecDepth 100000
noncomputable section
namespace Go.Proofs.YtnocmolegijmkaaGreat
open Go Go.Bw Go.Proofs.Tryz
theorem w48 {n} (o:Ou n):RC (zf (Gu n)):=by
 intro a0 a1 r g;rw[zf]at g;refine yw func48 ntmps48 ?_
 iterate 2 (refine aQ g λ_ g=>?_)
 refine yk<|yL (S:=Int×Int) (G:=λm s=>rf (Gu m) a0 s.1 s.2) (s0:=(IntKind.i64.wrap (a1-1),0)) 1 [2,4] [1,5] (λs=>[(1,.d (.v (.int .i64 s.1))),(5,.d (.v (.int .i64 s.2)))]) (λs=>[]) g ?_;rintro n ⟨s3,s4⟩ _ g;change tT (Gu n) a0 s3 s4=_ at g;rw[tT]at g;refine yz ?_
 iterate 2 (refine bH g λ_ g=>?_)
 refine yX g ab.aI λx _ _ g=>?_;refine yc g (o.a.RF _ _) λy g=>?_;exact yk (yN (_,_) n ⟨by omega,g⟩)
theorem w23 {n} (o:Ou n):RG (zh (Gu n)):=by
 intro a0 a1 r g;rw[zh]at g;refine yw func23 ntmps23 ?_;refine yc g (o.a.RF _ _) λy g=>?_;cases g;exact zl
theorem w49 {n} (o:Ou n):RH (zj (Gu n)):=by
 intro a0 a1 r g;rw[zj]at g;refine yw func49 ntmps49 ?_
 iterate 2 (refine aQ g λ_ g=>?_)
 refine yk<|yL (S:=Int×Int×Int) (G:=λm s=>xa (Gu m) a0 s.1 s.2.1 s.2.2) (s0:=(IntKind.i64.wrap (a1-IntKind.i64.wrap (1+(↑(aT a0.Names).length:Int))),0,0)) 1 [2] [1,4,5] (λs=>[(1,.d (.v (.int .i64 s.1))),(4,.d (.v (.int .i64 s.2.1))),(5,.d (.v (.int .i64 s.2.2)))]) (λs=>[]) g ?_;rintro n ⟨s3,s4,s5⟩ _ g;change xb (Gu n) a0 s3 s4 s5=_ at g;rw[xb]at g;refine yz ?_
 refine aD g ?_ ?_<;>intro _ g
 iterate 2 (refine aQ g λ_ g=>?_;refine yX g eC.aI λx _ _ g=>?_)
 exact yk (yN (_,_,_) n ⟨by omega,g⟩);refine yk<|yL (S:=Int×Int) (G:=λm s=>xc (Gu m) a0 s.1 s.2) (s0:=(s3,0)) 1 [2,4,5] [1,6] (λs=>[(1,.d (.v (.int .i64 s.1))),(6,.d (.v (.int .i64 s.2)))]) (λs=>[]) g ?_;rintro n ⟨s13,s14⟩ _ g;change xd (Gu n) a0 s13 s14=_ at g;rw[xd]at g;refine yz ?_
 refine bH g λ_ g=>?_;refine yX g cq.aI λx _ _ g=>?_;refine yc g (o.a.RI _ _) λy g=>?_;refine aQ g λ_ g=>?_;exact yk (yN (_,_) n ⟨by omega,g⟩)
theorem w24 {n} (o:Ou n):RJ (zm (Gu n)):=by
 intro a0 a1 r g;rw[zm]at g;refine yw func24 ntmps24 ?_;refine yc g (o.a.RI _ _) λy g=>?_;cases g;exact zl
theorem w8 {n} (o:Ou n):C8 (B8 (Gu n)):=by
 intro a0 a1 a2 r g;rw[B8]at g;refine yw func8 ntmps8 ?_;refine yc g (o.a.c23 _ _) λy g=>?_;refine aQ g λ_ g=>?_;refine yc g (o.a.c24 _ _) λy g=>?_
 iterate 3 (refine aQ g λ_ g=>?_)
 refine yk<|yL (S:=Int) (G:=λm s=>Cn (Gu m) a2 s) (s0:=0) 2 [2,6] [7] (λs=>[(7,.d (.v (.int .i64 s)))]) (λs=>[]) g ?_;rintro n s7 _ g;change xw (Gu n) a2 s7=_ at g;rw[xw]at g;refine yz ?_
 refine bH g λ_ g=>?_;refine yX g eh.aI λx _ _ g=>?_;refine aQ g λ_ g=>?_;exact yk (yN _ n ⟨by omega,g⟩)
theorem aat {n} (o:Ou n):P2 (xI (Gu n)):=by
 intro a0 a1 r g;rw[xI]at g;refine yw func160 ntmps160 ?_;exact fQ g
set_option maxHeartbeats 0 in
theorem aau {n} (o:Ou n):P3 (uR (Gu n)):=by
 intro a0 r g;rw[uR]at g;refine yw func107 ntmps107 ?_
 iterate 2 (refine aD g (λk g=>?_) λ_ g=>?_;(iterate 4 (refine aD g ?_ ?_<;>intro _ g;(iterate 2 (refine yF k ?_));refine yc g (o.a.iI _ _) λy g=>?_;cases g;exact zl));(iterate 2 (refine yF k ?_));refine aD g ?_ ?_<;>intro _ g;(iterate 2 (refine yc g (o.a.iI _ _) λy g=>?_;cases g;exact zl)))
 iterate 2 (refine aD g (λk g=>?_) λ_ g=>?_;(iterate 3 (refine aD g ?_ ?_<;>intro _ g;(iterate 2 (refine yF k ?_));refine yc g (o.a.iI _ _) λy g=>?_;cases g;exact zl));(iterate 2 (refine yF k ?_));refine yc g (o.a.iI _ _) λy g=>?_;cases g;exact zl)
 iterate 3 (refine aD g (λk g=>?_) λ_ g=>?_;(iterate 3 (refine aD g ?_ ?_<;>intro _ g;(iterate 2 (refine yF k ?_));refine yc g (o.a.iI _ _) λy g=>?_;cases g;exact zl));(iterate 2 (refine yF k ?_));refine aD g ?_ ?_<;>intro _ g;(iterate 2 (refine yc g (o.a.iI _ _) λy g=>?_;cases g;exact zl)))
 refine aD g (λk g=>?_) λ_ g=>?_
 iterate 4 (refine aD g ?_ ?_<;>intro _ g;(iterate 2 (refine yF k ?_));refine yc g (o.a.iI _ _) λy g=>?_;cases g;exact zl)
 iterate 2 (refine yF k ?_)
 refine aD g ?_ ?_<;>intro _ g
 iterate 2 (refine yc g (o.a.iI _ _) λy g=>?_;cases g;exact zl)
 refine aD g (λk g=>?_) λk g=>?_;refine yo [0,1,2,3,4] [] [] ?_
 iterate 3 (refine aD g ?_ ?_<;>intro _ g;(refine Ok.mg k ?_;conv=>(arg 3;whnf));refine yc g (o.a.iI _ _) λy g=>?_;cases g;exact zl)
 refine Ok.mg k ?_;conv=>(arg 3;whnf)
 refine aD g ?_ ?_<;>intro _ g
 iterate 2 (refine yc g (o.a.iI _ _) λy g=>?_;cases g;exact zl)
 refine bH g λl g=>?_
 iterate 2 (refine aD g ?_ ?_<;>intro _ g;(refine Ok.lz k ?_;conv=>(arg 3;whnf));(refine Ok.mg l ?_;conv=>(arg 3;whnf));refine yc g (o.a.iI _ _) λy g=>?_;cases g;exact zl)
 refine Ok.lz k ?_;conv=>(arg 3;whnf)
 refine Ok.mg l ?_;conv=>(arg 3;whnf)
 refine aD g ?_ ?_<;>intro _ g
 iterate 2 (refine yc g (o.a.iI _ _) λy g=>?_;cases g;exact zl)
theorem aav {n} (o:Ou n):P4 (xJ (Gu n)):=by
 intro a0 r g;rw[xJ]at g;refine yw func109 ntmps109 ?_
 iterate 2 ((iterate 2 (refine aD g ?_ ?_<;>intro _ g));(iterate 2 (refine yc g (o.a.iI _ _) λy g=>?_;cases g;exact zl)))
 refine aD g ?_ ?_<;>intro _ g
 iterate 2 (refine yc g (o.a.iI _ _) λy g=>?_;cases g;exact zl)
theorem aaw {n} (o:Ou n):P5 (xK (Gu n)):=by
 intro a0 r g;rw[xK]at g;refine yw func113 ntmps113 ?_;refine aD g ?_ ?_<;>intro _ g;refine aQ g λ_ g=>?_
 iterate 2 (refine bH g λ_ g=>?_;exact fQ g)
theorem w68 {n} (o:Ou n):RK (zr (Gu n)):=by
 intro a0 r g;rw[zr]at g;refine yw func68 ntmps68 ?_
 iterate 2 (refine aQ g λ_ g=>?_)
 iterate 2 (obtain⟨x,w,j,g⟩:=bB g;refine yv (bm.toP (bm.ou ((0:Int).toNat) rfl rfl rfl rfl j w)) ?_;refine aQ g λ_ g=>?_)
 refine yk<|yL (S:=Int) (G:=λm s=>xe (Gu m) a0 s) (s0:=0) 0 [0,2,23] [24] (λs=>[(24,.d (.v (.int .i64 s)))]) (λs=>[]) g ?_;rintro n s9 _ g;change tU (Gu n) a0 s9=_ at g;rw[tU]at g;refine yz ?_
 refine bH g λ_ g=>?_;obtain⟨x,w,j,g⟩:=bB g;refine yv (bm.toP (bm.ou ((s9:Int).toNat) rfl rfl rfl rfl j w)) ?_;refine yc g (o.a.abo _) λy g=>?_;refine aQ g λ_ g=>?_;exact yk (yN _ n ⟨by omega,g⟩)
theorem w93 {n} (o:Ou n):RL (vj (Gu n)):=by
 intro a0 a1 r g;rw[vj]at g;refine yw func93 ntmps93 ?_;refine yk<|yL (S:=Int) (G:=λm s=>BY (Gu m) a0 a1 s) (s0:=0) 0 [0,1,4,7] [8] (λs=>[(8,.d (.v (.int .i64 s)))]) (λs=>[]) g ?_;rintro n s1 _ g;change tV (Gu n) a0 a1 s1=_ at g;rw[tV]at g;refine yz ?_
 refine bH g λ_ g=>?_;refine yX g gB λx _ _ g=>?_;refine aQ g λ_ g=>?_;exact yk (yN _ n ⟨by omega,g⟩)
theorem aax {n} (o:Ou n):P6 (xL (Gu n)):=by
 intro a0 a1 r g;rw[xL]at g;refine yw func148 ntmps148 ?_;refine yc g (o.a.IV _ _) λy g=>?_;cases g;exact zl
theorem aay {n} (o:Ou n):P8 (uS (Gu n)):=by
 intro a0 r g;rw[uS]at g;refine yw func126 ntmps126 ?_;refine yk<|yL (S:=Int) (G:=λm s=>wL (Gu m) a0 s) (s0:=1) 0 [0,2] [3] (λs=>[(3,.d (.v (.int .i64 s)))]) (λs=>[]) g ?_;rintro n s1 _ g;change qQ (Gu n) a0 s1=_ at g;rw[qQ]at g;refine yz ?_
 refine bH g λ_ g=>?_;refine yo [0,1,2,3,4,5,6,7,8,9] [] [] ?_
 iterate 2 (refine yY g gB λx _ _ g=>?_)
 refine aQ g λ_ g=>?_;exact yk (yN _ n ⟨by omega,g⟩)
theorem aaz {n} (o:Ou n):P9 (xM (Gu n)):=by
 intro a0 a1 r g;rw[xM]at g;refine yw func140 ntmps140 ?_;refine yc g (o.a.Qa _ _) λy g=>?_;cases g;exact zl
theorem w92 {n} (o:Ou n):RM (vk (Gu n)):=by
 intro a0 a1 r g;rw[vk]at g;refine yw func92 ntmps92 ?_;refine yk<|yL (S:=Int) (G:=λm s=>rh (Gu m) a0 a1 s) (s0:=0) 0 [1,4,7,8] [9] (λs=>[(9,.d (.v (.int .i64 s)))]) (λs=>[]) g ?_;rintro n s1 _ g;change tW (Gu n) a0 a1 s1=_ at g;rw[tW]at g;refine yz ?_
 refine bH g λ_ g=>?_;refine yX g gB λx _ _ g=>?_;refine yc g (o.a.Hl _ _) λy g=>?_;refine aQ g λ_ g=>?_;exact yk (yN _ n ⟨by omega,g⟩)
theorem aaA {n} (o:Ou n):Qb (rS (Gu n)):=by
 intro a0 r g;rw[rS]at g;refine yw func110 ntmps110 ?_;refine yk<|yL (S:=Int×Int) (G:=λm s=>ma (Gu m) a0 s.1 s.2) (s0:=(0,0)) 1 [1,8,9] [2,10] (λs=>[(2,.d (.v (.int .i64 s.1))),(10,.d (.v (.int .i64 s.2)))]) (λs=>[]) g ?_;rintro n ⟨s1,s2⟩ _ g;change px (Gu n) a0 s1 s2=_ at g;rw[px]at g;refine yz ?_
 refine aD g ?_ ?_<;>intro _ g;refine yX g gB λx _ _ g=>?_;refine yc g (o.a.CW _) λy g=>?_;refine aQ g λ_ g=>?_;refine aD g ?_ ?_<;>intro _ g;obtain⟨x,w,g⟩:=iC g;refine yv (yQ Lv w) ?_;refine yc g (o.a.Qa _ _) λy g=>?_;refine aQ g λ_ g=>?_
 iterate 2 (exact yk (yN (_,_) n ⟨by omega,g⟩))
 refine aD g ?_ ?_<;>intro _ g;refine yc g (o.a.Hm _) λy g=>?_;refine aQ g λ_ g=>?_;refine yk<|yL (S:=Int) (G:=λm s=>Bt (Gu m) a0 s) (s0:=0) 1 [1,2,8,9,10,42,43] [44] (λs=>[(44,.d (.v (.int .i64 s)))]) (λs=>[]) g ?_;rintro n s16 _ g;change Bu (Gu n) a0 s16=_ at g;rw[Bu]at g;refine yz ?_
 refine bH g λ_ g=>?_;refine yX g aP.aI λx _ _ g=>?_;refine aQ g λ_ g=>?_;refine yc g (o.a.Hm _) λy g=>?_;refine aQ g λ_ g=>?_;refine yc g (o.a.RN _ _) λy g=>?_;refine aQ g λ_ g=>?_;refine yc g (o.a.Hl _ _) λy g=>?_;refine aQ g λ_ g=>?_;exact yk (yN _ n ⟨by omega,g⟩);refine yk<|yL (S:=Int) (G:=λm s=>Bv (Gu m) a0 s) (s0:=0) 1 [1,2,8,9,10,42,43] [44] (λs=>[(44,.d (.v (.int .i64 s)))]) (λs=>[]) g ?_;rintro n s27 _ g;change Bx (Gu n) a0 s27=_ at g;rw[Bx]at g;refine yz ?_
 refine bH g λ_ g=>?_;refine yX g aP.aI λx _ _ g=>?_;refine aQ g λ_ g=>?_;refine yc g (o.a.Hm _) λy g=>?_;refine aQ g λ_ g=>?_;refine yc g (o.a.RN _ _) λy g=>?_;refine aQ g λ_ g=>?_;refine yc g (o.a.Hl _ _) λy g=>?_;refine aQ g λ_ g=>?_;exact yk (yN _ n ⟨by omega,g⟩)
theorem aaB {n} (o:Ou n):Qc (uT (Gu n)):=by
 intro a0 r g;rw[uT]at g;refine yw func111 ntmps111 ?_
 iterate 4 (refine aD g ?_ ?_<;>intro _ g;refine yc g (o.a.iI _ _) λy g=>?_;cases g;exact zl)
 refine yc g (o.a.iI _ _) λy g=>?_;cases g;exact zl
theorem aaC {n} (o:Ou n):Qd (rT (Gu n)):=by
 intro a0 r g;rw[rT]at g;refine yw func161 ntmps161 ?_
 iterate 3 (refine aQ g λ_ g=>?_)
 iterate 2 (refine bH g λ_ g=>?_)
 refine yX g ah.aI λx _ _ g=>?_;refine yc g (o.a.Hn _) λy g=>?_;refine bH g λ_ g=>?_;refine yX g ah.aI λx _ _ g=>?_;refine yc g (o.a.Hn _) λy g=>?_;cases g;exact zl
theorem aaD {n} (o:Ou n):Qg (uU (Gu n)):=by
 intro a0 r g;rw[uU]at g;refine yw func112 ntmps112 ?_;refine aD g ?_ ?_<;>intro _ g;refine yX g ah.aI λx _ _ g=>?_;refine yc g (o.a.Hn _) λy g=>?_
 iterate 2 (refine yc g (o.a.iI _ _) λy g=>?_;cases g;exact zl)
theorem aaE {n} (o:Ou n):Qh (rU (Gu n)):=by
 intro a0 r g;rw[rU]at g;refine yw func108 ntmps108 ?_;refine yk<|yL (S:=Int) (G:=λm s=>na (Gu m) a0 s) (s0:=0) 0 [2,3,6,7] [8] (λs=>[(8,.d (.v (.int .i64 s)))]) (λs=>[]) g ?_;rintro n s1 _ g;change py (Gu n) a0 s1=_ at g;rw[py]at g;refine yz ?_
 refine bH g λ_ g=>?_;refine yX g K5 λx _ _ g=>?_;refine aQ g λ_ g=>?_;exact yk (yN _ n ⟨by omega,g⟩)
/-(*plexus.lattice.checker).visit-/
theorem w67 {n} (o:Ou n):RO (vl (Gu n)):=by
 intro a0 a1 a2 r g;rw[vl]at g;refine ry.walk (E:=env) func67 rfl zk (rs:=_) rfl ntmps67 rfl (yz ?_)
 iterate 2 (refine aQ g λ_ g=>?_)
 refine yc g (o.a.abp _) λy g=>?_;refine aQ g λ_ g=>?_;refine yo [0,1,2,3,4,5,6,7,8,9,10] [] [] ?_;obtain⟨y,z,g⟩:=bj g (o.a.abq _);refine yl (yC z) ?_;obtain⟨y,z,g⟩:=bj g (o.a.abr _);refine yl (yC z) ?_;obtain⟨y,z,g⟩:=bj g (o.a.abt _);refine yl (yC z) ?_;obtain⟨y,z,g⟩:=bj g (o.a.abu _);refine yl (yC z) ?_;obtain⟨y,z,g⟩:=bj g (o.a.abv _);refine yl (yC z) ?_;refine aQ g λ_ g=>?_;refine yk<|yL (S:=Int×dh) (G:=λm s=>ny (Gu m) a1 a2 s.1 s.2) (s0:=(0,{nodes:=IntKind.i64.wrap (a0.nodes+1):dh})) 2 [0,2,6,47,48] [49] (λs=>[(49,.d (.v (.int .i64 s.1)))]) (λs=>[(0,.box ((dh.cs s.2).map .d))]) g ?_;rintro n ⟨s11,s12⟩ _ g;change pL (Gu n) a1 a2 s11 s12=_ at g;rw[pL]at g;refine yz ?_
 refine bH g λ_ g=>?_;refine yX g ah.aI λx _ _ g=>?_;obtain⟨y,z,g⟩:=bj g (o.a.RS _ _ _);refine yk<|az.oy 0 z rfl rfl (by first|rfl|(simp only[iB];rfl)) rfl (rI.box rfl zi) rfl (yz ?_)
 refine aQ g λ_ g=>?_;exact yk (yN (_,_) n ⟨by omega,g⟩)
theorem w31 {n} (o:Ou n):RT (vm (Gu n)):=by
 intro a0 r g;rw[vm]at g;refine yw func31 ntmps31 ?_;obtain⟨y,z,g⟩:=bj g (o.a.RS _ _ _);refine yk<|az.oy 1 z rfl rfl (by first|rfl|(simp only[iB];rfl)) rfl (rI.box rfl zi) rfl (yz ?_)
 cases g;exact zl
theorem w70 {n} (o:Ou n):RU (zt (Gu n)):=by
 intro a0 a1 r g;rw[zt]at g;refine yw func70 ntmps70 ?_;cases g;exact zl
theorem VS {n} (o:Ou n):Mf (th (Gu n)):=by
 intro a0 a1 r g;rw[th]at g;refine yw func114 ntmps114 ?_;refine yk<|yL (S:=Int) (G:=λm s=>AA (Gu m) a0 a1 s) (s0:=0) 0 [0,1,4,7] [8] (λs=>[(8,.d (.v (.int .i64 s)))]) (λs=>[]) g ?_;rintro n s1 _ g;change sI (Gu n) a0 a1 s1=_ at g;rw[sI]at g;refine yz ?_
 refine bH g λ_ g=>?_;refine yX g TParam.aI λx _ _ g=>?_;refine yc g (o.a.c70 _ _) λy g=>?_;refine aQ g λ_ g=>?_;exact yk (yN _ n ⟨by omega,g⟩)
theorem WU {n} (o:Ou n):MS (wM (Gu n)):=by
 intro a0 a1 r g;rw[wM]at g;refine yw func69 ntmps69 ?_;refine yc g (o.a.VV _ _) λy g=>?_;cases g;exact zl
theorem w32 {n} (o:Ou n):RV (vn (Gu n)):=by
 intro a0 r g;rw[vn]at g;refine yw func32 ntmps32 ?_
 iterate 2 (refine yc g (o.a.CW _) λy g=>?_;refine aQ g λ_ g=>?_)
 iterate 3 (refine aQ g λ_ g=>?_)
 refine yk<|yL (S:=Int) (G:=λm s=>nz (Gu m) a0 s) (s0:=0) 1 [1,2,32,33] [34] (λs=>[(34,.d (.v (.int .i64 s)))]) (λs=>[]) g ?_;rintro n s8 _ g;change pM (Gu n) a0 s8=_ at g;rw[pM]at g;refine yz ?_
 refine bH g λ_ g=>?_;refine yX g TParam.aI λx _ _ g=>?_;refine yc g (o.a.CW _) λy g=>?_
 iterate 3 (refine aQ g λ_ g=>?_)
 obtain⟨x,w,g⟩:=iC g;refine yv (yQ TParam.bw w) ?_;refine yc g (o.a.WV _ _) λy g=>?_;refine aQ g λ_ g=>?_;exact yk (yN _ n ⟨by omega,g⟩)
theorem w71 {n} (o:Ou n):RW (mI (Gu n)):=by
 intro a0 a1 r g;rw[mI]at g;refine yw func71 ntmps71 ?_;refine aQ g λ_ g=>?_;refine aD g (λk g=>?_) λ_ g=>?_
 iterate 2 (refine aD g ?_ ?_<;>intro _ g)
 refine yo [] (tk [0,3,6,10,12,16]) [] ?_
 iterate 4 (refine yt zp ?_)
 iterate 2 (cases g;exact yj;(iterate 4 (refine yF k ?_)))
 cases g;exact yj;refine aD g (λk g=>?_) λk g=>?_;refine aQ g λ_ g=>?_;refine Ok.mg k ?_;conv=>(arg 3;whnf)
 refine aQ g λ_ g=>?_
 iterate 2 (refine yF k ?_)
 cases g;exact yj;refine Ok.lz k ?_;conv=>(arg 3;whnf)
 refine aD g (λk g=>?_) λ_ g=>?_;refine yc g (o.a.CW _) λy g=>?_;refine aD g ?_ ?_<;>intro _ g;refine yo [] (tk [0,3,6,10,12,16]) [] ?_
 iterate 4 (refine yt zp ?_)
 cases g;exact yj;refine yF k ?_;cases g;exact yj
 iterate 3 (refine bH g λ_ g=>?_)
 refine yo [] (tk [0,3,6,9,12,15,18,22,24,28]) [] ?_;obtain⟨x,w,j,g⟩:=bB g;refine yu zp (yi j (TParam.aI w)) ?_
 iterate 6 (refine yt zp ?_)
 cases g;exact yj
theorem w72 {n} (o:Ou n):RX (jF (Gu n)):=by
 intro a0 r g;rw[jF]at g;refine yw func72 ntmps72 ?_
 iterate 15 (refine aQ g λ_ g=>?_)
 exact fQ g
theorem w73 {n} (o:Ou n):RY (oR (Gu n)):=by
 intro a0 r g;rw[oR]at g;refine yw func73 ntmps73 ?_
 iterate 16 (refine aQ g λ_ g=>?_)
 exact fQ g
theorem w33 {n} (o:Ou n):RZ (su (Gu n)):=by
 intro a0 a1 r g;rw[su]at g;refine yw func33 ntmps33 ?_;refine yc g (o.a.c71 _ _) λy g=>?_;refine aQ g λ_ g=>?_;refine Ok.stuck aW ?_;refine az.jN 3 4 71 5 4 rfl rfl rfl ?_;refine yL (S:=Bool×Int×(List af)) (G:=λm s=>iA (Gu m) a0 a1 s.1 s.2.1 s.2.2) (s0:=(false,0,[])) 5 [0,3,4,8,30,31] [5,32] (λs=>[(5,.d (.v (.bool s.1))),(32,.d (.v (.int .i64 s.2.1)))]) (λs=>[(4,.row 71 5 (af.rows s.2.2)),(3,.box [.d (.v (.int .i64 0)),.d (.v (.string ⟨⟨([])⟩⟩)),.d (.v (.int .i64 0)),.d (.v (.int .i64 a1.At)),.os 4 (af.rows s.2.2).length])]) g ?_;rintro n ⟨s3,s4,s9⟩ _ g;change pN (Gu n) a0 a1 s3 s4 s9=_ at g;rw[pN]at g;refine yz ?_;refine aD g ?_ ?_<;>intro _ g;refine yX g ab.aI λx _ _ g=>?_;refine yc g (o.a.R1 _ _) λy g=>?_;refine aQ g λ_ g=>?_;refine yo [0,1,2,3,4] (tk [16,18,24,23,28]) [] ?_;obtain⟨k,g⟩:=cD g;refine yk<|az.eJ (rows2:=(af.rows ([af.z]))) aF.nil rfl rfl rfl rfl rfl zg rfl zi rfl rfl (af.de _) rfl rfl (zo k) (yz ?_)
 obtain⟨x,w,j,g⟩:=bB g;refine yU zp (yr j w) ?_;refine yt (dW j w) ?_;refine lb ((↑(af.rows s9).length:Int).toNat) 0 (af.aI w) j w ?_;exact yk (yN (_,_,_) n ⟨by omega,g⟩);refine yc g (o.a.c72 _) λy g=>?_;refine aD g ?_ ?_<;>intro _ g;refine aQ g λ_ g=>?_;refine bH g λ_ g=>?_;refine yX g ab.aI λx _ _ g=>?_
 iterate 2 (refine aQ g λ_ g=>?_)
 refine yX g gB λx _ _ g=>?_;cases g;exact zl;refine yc g (o.a.c73 _) λy g=>?_;refine aD g ?_ ?_<;>intro _ g;refine yk<|az.inl (rs:=_) rfl func74 rfl zk rfl ntmps74 rfl rfl (yz ?_)
 refine aQ g λ_ g=>?_;refine Ok.stuck aW ?_;refine az.qO 3 71 5 5 rfl rfl ?_;refine yL (S:=(List af)×Int) (G:=λm s=>kN (Gu m) a1 s9 y s.1 s.2) (s0:=([],0)) 6 [0,2,5,8] [3,4] (λs=>[(3,.os 5 (af.rows s.1).length),(4,.d (.v (.int .i64 s.2)))]) (λs=>[(5,.row 71 5 (af.rows s.1))]) g ?_;rintro n ⟨s31,s32⟩ _ g;change pO (Gu n) a1 s9 y s31 s32=_ at g;rw[pO]at g;refine yz ?_;refine bH g λ_ g=>?_;refine yo [0,1,2,3,4,5,6,7,8,9,10,11,12,13,14,15,16,17,18] (tk [58,60]) [] ?_;obtain⟨x,w,j,g⟩:=bB g;refine yl (yr j w) ?_;refine yl (ym s32.toNat 0 (af.aI w)) ?_;obtain⟨t,w,j,g⟩:=bB g;refine yl (yr j w) ?_;refine yl (ym ((IntKind.i64.wrap (s32+1)).toNat) 0 (af.aI w)) ?_;obtain⟨k,g⟩:=cD g;refine yk<|az.eJ (rows2:=(af.rows ([{Kind:=52,Text:=[],N:=0,At:=0,Kids:=[x,t]:af}]))) aF.nil rfl rfl rfl rfl rfl zg rfl zi rfl rfl (af.de _) rfl rfl (zo k) (yz ?_)
 exact yk (yN (_,_) n ⟨by omega,g⟩);refine aD g ?_ ?_<;>intro _ g;refine yk<|az.inl (rs:=_) rfl func75 rfl zk rfl ntmps75 rfl rfl (yz ?_)
 refine aQ g λ_ g=>?_;refine Ok.stuck aW ?_;refine az.qO 6 71 5 6 rfl rfl ?_;refine yL (S:=(List af)×Int) (G:=λm s=>jk (Gu m) a1 s9 y s.1 s.2) (s0:=([],0)) 7 [0,3,4,5,17,24,25] [6,26] (λs=>[(6,.os 6 (af.rows s.1).length),(26,.d (.v (.int .i64 s.2)))]) (λs=>[(6,.row 71 5 (af.rows s.1))]) g ?_;rintro n ⟨s41,s42⟩ _ g;change pP (Gu n) a1 s9 y s41 s42=_ at g;rw[pP]at g;refine yz ?_;refine bH g λ_ g=>?_;obtain⟨x,w,j,g⟩:=bB g;refine yv (yr j w) ?_;refine yv (ym s42.toNat 0 (af.aI w)) ?_;refine yo [0,1,2,3,4,5,6,7,8,9,10,11] [] [] ?_
 iterate 2 (refine aD g ?_ ?_<;>intro _ g;refine yo [0,1,2,3,4,5,6,7,8] (tk [28,30]) [] ?_;refine yY g gB λt _ _ g=>?_;obtain⟨k,g⟩:=cD g;refine yk<|az.eJ (rows2:=(af.rows ([{Kind:=52,Text:=t,N:=0,At:=0,Kids:=[x]:af}]))) aF.nil rfl rfl rfl rfl rfl zg rfl zi rfl rfl (af.de _) rfl rfl (zo k) (yz ?_);exact yk (yN (_,_) n ⟨by omega,g⟩))
 exact yk (yN (_,_) n ⟨by omega,g⟩);refine yo [] (tk [0,3,6,9,13,15]) [] ?_
 iterate 6 (refine yt zp ?_)
 cases g;exact zl
theorem w79 {n} (o:Ou n):R2 (CX (Gu n)):=by
 intro a0 r g;rw[CX]at g;refine yw func79 ntmps79 ?_;cases g;exact zl
theorem w80 {n} (o:Ou n):R3 (CY (Gu n)):=by
 intro a0 r g;rw[CY]at g;refine yw func80 ntmps80 ?_;cases g;exact yj
theorem w35 {n} (o:Ou n):R4 (zw (Gu n)):=by
 intro a0 a1 r g;rw[zw]at g;refine yw func35 ntmps35 ?_;refine aD g ?_ ?_<;>intro _ g;refine yc g (o.a.jG _) λy g=>?_;cases g;exact zl;refine yc g (o.a.iN _) λy g=>?_;cases g;exact zl
/-(*plexus.types.elaborator).any$1-/
theorem aaF {n} (o:Ou n):Qi (xN (Gu n)):=by
 intro a0 a1 r g;rw[xN]at g;refine yw func162 ntmps162 ?_;cases g;exact zl
theorem U7 {n} (o:Ou n):Lw (sW (Gu n)):=by
 intro a0 a1 r g;rw[sW]at g;refine yw func114 ntmps114 ?_;refine yk<|yL (S:=Int) (G:=λm s=>Aw (Gu m) a0 a1 s) (s0:=0) 0 [0,1,4,7] [8] (λs=>[(8,.d (.v (.int .i64 s)))]) (λs=>[]) g ?_;rintro n s1 _ g;change sH (Gu n) a0 a1 s1=_ at g;rw[sH]at g;refine yz ?_
 refine bH g λ_ g=>?_;refine yX g TParam.aI λx _ _ g=>?_;refine yc g (o.a.abw _ _) λy g=>?_;refine aQ g λ_ g=>?_;exact yk (yN _ n ⟨by omega,g⟩)
theorem aaG {n} (o:Ou n):Qj (iW (Gu n)):=by
 intro a0 a1 r g;rw[iW]at g;refine yw func119 ntmps119 ?_;refine Ok.fin aW ?_;obtain rfl:=vH g;exact RD.xo rfl aW rfl zi
theorem aaH {n} (o:Ou n):Qk (xO (Gu n)):=by
 intro a0 r g;rw[xO]at g;refine yw func118 ntmps118 ?_;exact fQ g
theorem aaI {n} (o:Ou n):Ql (dN (Gu n)):=by
 intro a0 r g;rw[dN]at g;refine yw func219 ntmps219 ?_
 iterate 4 (refine aQ g λ_ g=>?_)
 exact fQ g
theorem aaJ {n} (o:Ou n):Qm (uV (Gu n)):=by
 intro a0 a1 r g;rw[uV]at g;refine yw func260 ntmps260 ?_;refine yk<|yL (S:=Int) (G:=λm s=>By (Gu m) a0 a1 s) (s0:=0) 0 [0,1,4,7] [8] (λs=>[(8,.d (.v (.int .i64 s)))]) (λs=>[]) g ?_;rintro n s1 _ g;change tp (Gu n) a0 a1 s1=_ at g;rw[tp]at g;refine yz ?_
 refine bH g λ_ g=>?_;refine yX g K5 λx _ _ g=>?_;refine aQ g λ_ g=>?_;exact yk (yN _ n ⟨by omega,g⟩)
theorem aaK {n} (o:Ou n):Qo (xP (Gu n)):=by
 intro a0 a1 r g;rw[xP]at g;refine yw func221 ntmps221 ?_;refine yc g (o.a.abx _ _) λy g=>?_;cases g;exact zl
/-(*plexus.types.elaborator).call$1-/
theorem aaL {n} (o:Ou n):Qq (rV (Gu n)):=by
 intro a0 a1 a2 r g;rw[rV]at g;refine yw func220 ntmps220 ?_;refine aD g ?_ ?_<;>intro _ g;exact yP g (o.a.fO _ _);refine yc g (o.a.Ho _ _) λy g=>?_;refine aD g ?_ ?_<;>intro _ g;exact yP g (o.a.fO _ _);refine Ok.fin aW ?_;obtain rfl:=vH g;exact RD.rA rfl rfl aW rfl (bX.refl _)
theorem aaM {n} (o:Ou n):Qr (xQ (Gu n)):=by
 intro a0 r g;rw[xQ]at g;refine yw func129 ntmps129 ?_;refine Ok.stuck aW<|az.uA 3 rfl ?_ ?_
 intro cap k;replace g:(some ([]))=some r:=(by have l:a0=[]:=J5.1 (by have k:=congrArg List.length k;simpa only[cv,o9]using k);subst l;simpa using g);refine yz ?_;refine yv (bm.toP (bm.p0 (et:=9) rfl zk rfl rfl)) ?_;cases g;exact yj;intro ad n0 cap;refine yz ?_;refine yv (bm.toP (bm.p0 (et:=9) rfl zk rfl rfl)) ?_;obtain⟨k,g⟩:=cD g;refine yk<|DO.Cr (rows2:=(aT a0)) rfl rfl zg rfl (bX.refl _) rfl rfl (Ua _) rfl rfl rfl (zo k) (yz ?_)
 cases g;exact zl
theorem ZH {n} (o:Ou n):PG (xx (Gu n)):=by
 intro a0 r g;rw[xx]at g;refine oA.walk (E:=env) func166 rfl zk (rs:=_) rfl ntmps166 rfl (yz ?_);refine Ok.stuck aW<|az.uA 3 rfl ?_ ?_
 intro cap k;replace g:(some [])=some r:=(by have l:a0=[]:=J5.1 (by have k:=congrArg List.length k;simpa only[aP.aB,o9]using k);subst l;simpa using g);refine yz ?_;refine yv (bm.toP (bm.p0 (et:=181) rfl zk rfl rfl)) ?_;refine Ok.fin aW ?_;obtain rfl:=vH g;exact RD.LV rfl rfl (by simp only[iB]);intro ad n0 cap;refine yz ?_;refine yv (bm.toP (bm.p0 (et:=181) rfl zk rfl rfl)) ?_;obtain⟨k,g⟩:=cD g;refine yk<|DO.Cr (rows2:=(aP.rows a0)) rfl rfl zg rfl (bX.refl _) rfl rfl (aP.de _) rfl rfl rfl (zo k) (yz ?_)
 refine Ok.fin aW ?_;obtain rfl:=vH g;exact RD.Pn rfl rfl rfl rfl zi
theorem ZI {n} (o:Ou n):PH (xy (Gu n)):=by
 intro a0 r g;rw[xy]at g;refine oA.walk (E:=env) func167 rfl zk (rs:=_) rfl ntmps167 rfl (yz ?_);refine Ok.stuck aW<|az.uA 3 rfl ?_ ?_
 intro cap k;replace g:(some [])=some r:=(by have l:a0=[]:=J5.1 (by have k:=congrArg List.length k;simpa only[ah.aB,o9]using k);subst l;simpa using g);refine yz ?_;refine yv (bm.toP (bm.p0 (et:=26) rfl zk rfl rfl)) ?_;refine Ok.fin aW ?_;obtain rfl:=vH g;exact RD.LV rfl rfl (by simp only[iB]);intro ad n0 cap;refine yz ?_;refine yv (bm.toP (bm.p0 (et:=26) rfl zk rfl rfl)) ?_;obtain⟨k,g⟩:=cD g;refine yk<|DO.Cr (rows2:=(ah.rows a0)) rfl rfl zg rfl (bX.refl _) rfl rfl (ah.de _) rfl rfl rfl (zo k) (yz ?_)
 refine Ok.fin aW ?_;obtain rfl:=vH g;exact RD.Pn rfl rfl rfl rfl zi
theorem aaN {n} (o:Ou n):Qs (xR (Gu n)):=by
 intro a0 r g;rw[xR]at g;refine yw func117 ntmps117 ?_;refine yc g (o.a.Qt _) λy g=>?_;obtain⟨v,z,g⟩:=bj g (o.a.ZJ _);refine yk<|az.Pm z rfl rfl (by first|rfl|(simp only[iB];rfl)) rfl (yz ?_)
 refine yk<|yL (S:=Int×(List aP)) (G:=λm s=>wN (Gu m) a0 y v s.1 s.2) (s0:=(0,v)) 3 [1,2,15] [16] (λs=>[(16,.d (.v (.int .i64 s.1)))]) (λs=>[(2,.row 181 2 (aP.rows s.2)),(0,.box [.d (.v (.int .i64 a0.Kind)),.d (.v (.int .i64 a0.Lo)),.d (.v (.int .i64 a0.Hi)),.d (.sl 1 (aT y)),.d (.sl 6 (ah.rows a0.aw)),.os 2 (aP.rows s.2).length])]) g ?_;rintro n ⟨s3,s9⟩ _ g;change tq (Gu n) a0 y v s3 s9=_ at g;rw[tq]at g;refine yz ?_
 refine aD g ?_ ?_<;>intro _ g;refine yo [] (tk [0,3,6,9,12,15,18,21,24,28,30,33,37]) [] ?_
 iterate 4 (refine yt zp ?_)
 obtain⟨x,w,j,g⟩:=bB g;refine yU zp (yr j w) ?_;refine yt (dW j w) ?_;refine yU (dW j w) (ym s3.toNat 0 (aP.aI w)) ?_;refine yd g (o.a.Qt _) (by repeat(first|exact aF.nil|refine aF.cons rfl (ba.dt (cl:=false) rfl aW) ?_|refine aF.skip rfl ?_|refine aF.cons rfl (yr j w) ?_|refine aF.cons rfl (ym s3.toNat 0 (aP.aI w)) ?_|refine aF.cons rfl (dZ (cl:=false) rfl aW) ?_)) λv g=>?_;obtain⟨x,q,j1h,g⟩:=bB g;refine yU (by repeat(first|exact aF.nil|refine aF.cons rfl (ba.dt (cl:=false) rfl aW) ?_|refine aF.skip rfl ?_|refine aF.cons rfl (yr j w) ?_|refine aF.cons rfl (ym s3.toNat 0 (aP.aI w)) ?_|refine aF.cons rfl (dZ (cl:=false) rfl aW) ?_)) (yr j1h q) ?_;refine yt (by repeat(first|exact aF.nil|refine aF.cons rfl (ba.dt (cl:=false) rfl aW) ?_|refine aF.skip rfl ?_|refine aF.cons rfl (yr j w) ?_|refine aF.cons rfl (ym s3.toNat 0 (aP.aI w)) ?_|refine aF.cons rfl (yr j1h q) ?_|refine aF.cons rfl (dZ (cl:=false) rfl aW) ?_)) ?_;refine yk<|az.qA s3.toNat 0 (by repeat(first|exact aF.nil|refine aF.cons rfl (ba.dt (cl:=false) rfl aW) ?_|refine aF.skip rfl ?_|refine aF.cons rfl (yr j w) ?_|refine aF.cons rfl (ym s3.toNat 0 (aP.aI w)) ?_|refine aF.cons rfl (yr j1h q) ?_|refine aF.cons rfl (dZ (cl:=false) rfl aW) ?_)) (by rfl) (by rfl) (by rfl) (by rfl) (by rfl) (by rfl) (by rfl) (by rfl) zg (by rfl) (yg (aP.aI q)) (by rfl) (by rfl) (by rfl) (by rfl) (yz ?_)
 refine yt (by repeat(first|exact aF.nil|refine aF.cons rfl (ba.dt (cl:=false) rfl aW) ?_|refine aF.skip rfl ?_|refine aF.cons rfl (yr j w) ?_|refine aF.cons rfl (ym s3.toNat 0 (aP.aI w)) ?_|refine aF.cons rfl (yr j1h q) ?_|refine aF.cons rfl (dZ (cl:=false) rfl aW) ?_)) ?_;exact yk (yN (_,_) n ⟨by omega,g⟩);obtain⟨v,z,g⟩:=bj g (o.a.ZK _);refine yk<|az.Pm z rfl rfl (by first|rfl|(simp only[iB];rfl)) rfl (yz ?_)
 refine yk<|yL (S:=Int×(List ah)×(List aP)) (G:=λm s=>wO (Gu m) a0 y v s.1 s.2.1 s.2.2) (s0:=(0,v,s9)) 4 [1,2,15,16,38] [39] (λs=>[(39,.d (.v (.int .i64 s.1)))]) (λs=>[(3,.row 26 6 (ah.rows s.2.1)),(2,.row 181 2 (aP.rows s.2.2)),(0,.box [.d (.v (.int .i64 a0.Kind)),.d (.v (.int .i64 a0.Lo)),.d (.v (.int .i64 a0.Hi)),.d (.sl 1 (aT y)),.os 3 (ah.rows s.2.1).length,.os 2 (aP.rows s.2.2).length])]) g ?_;rintro n ⟨s17,s22,s23⟩ _ g;change tz (Gu n) a0 y v s17 s22 s23=_ at g;rw[tz]at g;refine yz ?_
 refine bH g λ_ g=>?_;refine yo [0,1,2,3,4,5,6,7,8,9] [(10,.one)] [] ?_;obtain⟨x,w,j,g⟩:=bB g;refine yl (yr j w) ?_;refine yl (ym s17.toNat 0 (ah.aI w)) ?_;obtain⟨y,z,g⟩:=bj g (o.a.Hq _);refine yl (yC z) ?_;obtain⟨x,w,j,g⟩:=bB g;refine yl (yr j w) ?_;refine yk<|az.qA s17.toNat 0 aF.nil (by rfl) (by rfl) (by rfl) (by rfl) (by rfl) (by rfl) (by rfl) (by rfl) zg (by rfl) (yg (ah.aI w)) (by rfl) (by rfl) (by rfl) (by rfl) (yz ?_)
 exact yk (yN (_,_,_) n ⟨by omega,g⟩)
theorem aaO {n} (o:Ou n):Qv (rW (Gu n)):=by
 intro a0 r g;rw[rW]at g;refine yw func262 ntmps262 ?_;refine aQ g λ_ g=>?_;refine aD g ?_ ?_<;>intro _ g
 iterate 6 (refine aQ g λ_ g=>?_)
 exact fQ g;refine aD g ?_ ?_<;>intro _ g;refine yX g af.aI λx _ _ g=>?_;refine yc g (o.a.Cz _) λy g=>?_;refine bH g λ_ g=>?_;refine yX g af.aI λx _ _ g=>?_;refine yc g (o.a.Cz _) λy g=>?_;cases g;exact zl
 iterate 2 (refine bH g λ_ g=>?_;refine yX g af.aI λx _ _ g=>?_;refine yc g (o.a.Cz _) λy g=>?_)
 cases g;exact zl
theorem aaP {n} (o:Ou n):Qw (CA (Gu n)):=by
 intro a0 a1 r g;rw[CA]at g;refine yw func168 ntmps168 ?_;refine aQ g λ_ g=>?_;refine yk<|yL (S:=Int) (G:=λm s=>Bz (Gu m) a0 a1 s) (s0:=0) 0 [0,1,4,12] [13] (λs=>[(13,.d (.v (.int .i64 s)))]) (λs=>[]) g ?_;rintro n s2 _ g;change BA (Gu n) a0 a1 s2=_ at g;rw[BA]at g;refine yz ?_
 refine bH g λ_ g=>?_;refine yo [0,1,2,3,4,5,6,7,8] [] [] ?_
 iterate 2 (refine yY g gB λx _ _ g=>?_)
 refine aQ g λ_ g=>?_;exact yk (yN _ n ⟨by omega,g⟩)
theorem aaQ {n} (o:Ou n):Qx (xS (Gu n)):=by
 intro a0 a1 r g;rw[xS]at g;refine yw func170 ntmps170 ?_;refine bH g λ_ g=>?_;refine yc g (o.a.Qy _ _) λy g=>?_;cases g;exact zl
theorem VT {n} (o:Ou n):Mg (wA (Gu n)):=by
 intro a0 a1 r g;rw[wA]at g;refine yw func169 ntmps169 ?_;refine aQ g λ_ g=>?_;refine yk<|yL (S:=Int) (G:=λm s=>sJ (Gu m) a0 a1 s) (s0:=0) 0 [1,2,6,15,16] [17] (λs=>[(17,.d (.v (.int .i64 s)))]) (λs=>[]) g ?_;rintro n s2 _ g;change sK (Gu n) a0 a1 s2=_ at g;rw[sK]at g;refine yz ?_
 refine bH g λ_ g=>?_
 iterate 2 (refine yX g aP.aI λx _ _ g=>?_)
 refine yc g (o.a.aby _ _) λy g=>?_;refine aQ g λ_ g=>?_;exact yk (yN _ n ⟨by omega,g⟩)
theorem aaR {n} (o:Ou n):Qz (xT (Gu n)):=by
 intro a0 a1 r g;rw[xT]at g;refine yw func120 ntmps120 ?_
 iterate 3 (refine bH g λ_ g=>?_)
 refine yc g (o.a.Qy _ _) λy g=>?_;refine bH g λ_ g=>?_;refine yc g (o.a.VW _ _) λy g=>?_;refine bH g λ_ g=>?_;refine yc g (o.a.VY _ _) λy g=>?_;cases g;exact zl
theorem VU {n} (o:Ou n):Mh (wB (Gu n)):=by
 intro a0 a1 r g;rw[wB]at g;refine yw func171 ntmps171 ?_;refine aQ g λ_ g=>?_;refine yk<|yL (S:=Int) (G:=λm s=>sL (Gu m) a0 a1 s) (s0:=0) 0 [1,2,6,15,16] [17] (λs=>[(17,.d (.v (.int .i64 s)))]) (λs=>[]) g ?_;rintro n s2 _ g;change sM (Gu n) a0 a1 s2=_ at g;rw[sM]at g;refine yz ?_
 refine bH g λ_ g=>?_
 iterate 2 (refine yX g ah.aI λx _ _ g=>?_)
 refine yc g (o.a.QA _ _) λy g=>?_;refine aQ g λ_ g=>?_;exact yk (yN _ n ⟨by omega,g⟩)
theorem w81 {n} (o:Ou n):R5 (zx (Gu n)):=by
 intro a0 a1 r g;rw[zx]at g;refine yw func81 ntmps81 ?_;refine bH g λ_ g=>?_;refine yc g (o.a.QA _ _) λy g=>?_;cases g;exact zl
/-(*plexus.types.elaborator).expr-/
theorem w78 {n} (o:Ou n):R6 (sv (Gu n)):=by
 intro a0 a1 a2 r g;rw[sv]at g;refine yw func78 ntmps78 ?_;refine yp g (o.a.abz _ _ _) λy g=>?_;refine yc g (o.a.Hq _) λy g=>?_;refine yc g (o.a.CB _) λy g=>?_;refine bH g λ_ g=>?_;refine yc g (o.a.IW _ _) λy g=>?_;refine bH g λ_ g=>?_;exact yP g (o.a.fO _ _)
/-(*plexus.types.elaborator).any-/
theorem aaS {n} (o:Ou n):QB (dO (Gu n)):=by
 intro a0 a1 a2 r g;rw[dO]at g;refine yw func116 ntmps116 ?_
 iterate 3 (refine yc g (o.a.iN _) λy g=>?_)
 iterate 4 (refine aQ g λ_ g=>?_)
 refine aD g ?_ ?_<;>intro _ g;refine yc g (o.a.U8 _ _) λy g=>?_;refine aD g ?_ ?_<;>intro _ g;exact yP g (o.a.fO _ _);refine yX g TParam.aI λx _ _ g=>?_;refine yc g (o.a.iN _) λy g=>?_;cases g;exact yj;refine aD g ?_ ?_<;>intro _ g;refine yc g (o.a.jG _) λy g=>?_;cases g;exact yj
 iterate 2 (refine aD g ?_ ?_<;>intro _ g)
 exact yP g (o.a.fO _ _);refine yc g (o.a.CB _) λy g=>?_;refine bH g λ_ g=>?_;exact yP g (o.a.fO _ _)
 iterate 2 (refine aD g ?_ ?_<;>intro _ g;refine yp g (o.a.xU _ _ _ _ _ _) λy g=>?_;cases g;exact zl)
 refine aD g ?_ ?_<;>intro _ g;refine yo [] (tk [0,3,6,9,12,15,18,22,24,27,31]) [] ?_
 iterate 3 (refine yt zp ?_)
 obtain⟨x,w,j,g⟩:=bB g;refine yu zp (yi j (af.aI w)) ?_
 iterate 2 (refine yt zp ?_)
 refine yq g (o.a.dA _ _ _) zp λy g=>?_
 iterate 3 (refine yt zp ?_)
 cases g;exact yj
 iterate 2 (refine aD g ?_ ?_<;>intro _ g;refine yp g (o.a.xU _ _ _ _ _ _) λy g=>?_;cases g;exact zl)
 refine aD g ?_ ?_<;>intro _ g;refine yo [0,1,2,3,4] (tk [16,19]) [] ?_;obtain⟨y,z,g⟩:=bj g (o.a.iN _);refine yl (yC z) ?_;refine yq g (o.a.xU _ _ _ _ _ _) zp λy g=>?_
 iterate 2 (cases g;exact zl;refine aD g ?_ ?_<;>intro _ g;refine yp g (o.a.xU _ _ _ _ _ _) λy g=>?_)
 cases g;exact zl;refine aD g ?_ ?_<;>intro _ g;refine yp g (o.a.abA _ _ _) λy g=>?_;cases g;exact zl;refine yp g (o.a.abB _ _ _) λy g=>?_;cases g;exact zl
/-(*plexus.types.elaborator).pair-/
theorem aaT {n} (o:Ou n):QC (rX (Gu n)):=by
 intro a0 a1 a2 a3 a4 a5 r g;rw[rX]at g;refine yw func163 ntmps163 ?_
 iterate 2 (refine yo [] (tk [0,3,6,9,12,15,19,25]) [7] ?_;obtain⟨x,w,j,g⟩:=bB g;refine yu zp (yi j (af.aI w)) ?_;(iterate 2 (refine yt zp ?_));refine yq g (o.a.dA _ _ _) zp λy g=>?_;refine yt zp ?_)
 cases g;exact yj
/-(*plexus.types.elaborator).call-/
set_option maxHeartbeats 0 in
theorem aaU {n} (o:Ou n):QD (dP (Gu n)):=by
 intro a0 a1 a2 r g;rw[dP]at g;refine yw func164 ntmps164 ?_;refine yc g (o.a.abC _) λy g=>?_
 iterate 2 (refine aD g ?_ ?_<;>intro _ g)
 exact yP g (o.a.fO _ _)
 iterate 2 (refine aD g ?_ ?_<;>intro _ g;refine yf g (o.a.lG _ _ _) λy g=>?_;refine yo [0,1,2,3,4,5] [(6,.one)] [] ?_;refine yY g af.aI λx _ _ g=>?_;obtain⟨y,z,g⟩:=bj g (o.a.iN _);refine yl (yC z) ?_;refine yk<|az.fV (rs:=_) rfl (λ_=>aF.nil) rfl rfl rfl rfl func222 rfl zk rfl ntmps222 rfl rfl (yz ?_);refine yo [] (tk [0,3,6,9,12,18,21,16,25,27,33,32,37]) [] ?_;(iterate 5 (refine yt zp ?_));refine yq g (o.a.dA _ _ _) zp λy g=>?_;obtain⟨k,g⟩:=cD g;refine yk<|az.pq 9 zp rfl rfl rfl rfl rfl rfl rfl rfl rfl rfl rfl rfl rfl (zo k) (yz ?_);obtain⟨x,w,j,g⟩:=bB g;refine yU zp (yr j w) ?_;refine yt (dW j w) ?_;refine lb (Int.toNat 0) 0 (ab.aI w) j w ?_;cases g;exact yj)
 refine aD g ?_ ?_<;>intro _ g;refine yf g (o.a.lG _ _ _) λy g=>?_;refine Ok.stuck aW ?_;refine az.jN 5 11 32 12 7 rfl rfl rfl ?_;refine yL (S:=Int×(List ab)) (G:=λm s=>BC (Gu m) a0 a1 a2 s.1 s.2) (s0:=(0,[])) 8 [6,10,11,76,77] [78] (λs=>[(78,.d (.v (.int .i64 s.1)))]) (λs=>[(7,.row 32 12 (ab.rows s.2)),(5,.box [.d (.v (.int .i64 23)),.d (.v (.int .i64 a2.aK)),.d (.v (.int .i64 a2.ai.Kind)),.d (.v (.int .i64 a2.ai.Lo)),.d (.v (.int .i64 a2.ai.Hi)),.d (.sl 1 (aT a2.ai.Names)),.d (.sl 6 (ah.rows a2.ai.aw)),.d (.sl 2 (aP.rows a2.ai.aX)),.d (.v (.int .i64 0)),.d (.v (.string ⟨⟨([])⟩⟩)),.d (.v (.int .i64 0)),.os 7 (ab.rows s.2).length])]) g ?_;rintro n ⟨s25,s37⟩ _ g;change E4 (Gu n) a0 a1 a2 s25 s37=_ at g;rw[E4]at g;refine yz ?_;refine bH g λ_ g=>?_;refine yX g af.aI λx _ _ g=>?_;refine yk<|az.inl (rs:=_) rfl func222 rfl zk rfl ntmps222 rfl rfl (yz ?_)
 refine yo [] (tk [0,3,6,9,12,18,21,16,25,27,33,32,37]) [] ?_
 iterate 5 (refine yt zp ?_)
 refine yq g (o.a.dA _ _ _) zp λy g=>?_;obtain⟨k,g⟩:=cD g;refine yk<|az.eJ (rows2:=(ab.rows ([ab.z]))) zp rfl rfl rfl rfl rfl zg rfl zi rfl rfl (ab.de _) rfl rfl (zo k) (yz ?_)
 obtain⟨x,w,j,g⟩:=bB g;refine yU zp (yr j w) ?_;refine yt (dW j w) ?_;refine lb ((↑(ab.rows s37).length:Int).toNat) 0 (ab.aI w) j w ?_;obtain⟨x,w,j,g⟩:=bB g;refine yv (yr j w) ?_;refine yv (ym ((IntKind.i64.wrap ((↑(ab.rows s37++ab.rows [ab.z]).length:Int)-1)).toNat) 1 (ab.aI w)) ?_
 iterate 2 (refine aD g ?_ ?_<;>intro _ g)
 exact yP g (o.a.fO _ _)
 iterate 2 (exact yk (yN (_,_) n ⟨by omega,g⟩))
 refine aD g ?_ ?_<;>intro _ g;refine yf g (o.a.lG _ _ _) λy g=>?_;refine Ok.stuck aW ?_;refine az.jN 5 11 32 12 7 rfl rfl rfl ?_;refine yL (S:=Int×(List ab)) (G:=λm s=>E5 (Gu m) a0 a1 a2 s.1 s.2) (s0:=(0,[])) 8 [6,9,10,11,114,115] [116] (λs=>[(116,.d (.v (.int .i64 s.1)))]) (λs=>[(7,.row 32 12 (ab.rows s.2)),(5,.box [.d (.v (.int .i64 24)),.d (.v (.int .i64 a2.aK)),.d (.v (.int .i64 a2.ai.Kind)),.d (.v (.int .i64 a2.ai.Lo)),.d (.v (.int .i64 a2.ai.Hi)),.d (.sl 1 (aT a2.ai.Names)),.d (.sl 6 (ah.rows a2.ai.aw)),.d (.sl 2 (aP.rows a2.ai.aX)),.d (.v (.int .i64 0)),.d (.v (.string ⟨⟨([])⟩⟩)),.d (.v (.int .i64 0)),.os 7 (ab.rows s.2).length])]) g ?_;rintro n ⟨s52,s64⟩ _ g;change E6 (Gu n) a0 a1 a2 s52 s64=_ at g;rw[E6]at g;refine yz ?_;refine bH g λ_ g=>?_;refine yX g af.aI λx _ _ g=>?_;refine yo [0,1,2,3,4,5] [(6,.one)] [] ?_;refine yY g af.aI λx _ _ g=>?_;obtain⟨y,z,g⟩:=bj g (o.a.iN _);refine yl (yC z) ?_;refine yk<|az.fV (rs:=_) rfl (λ_=>aF.nil) rfl rfl rfl rfl func222 rfl zk rfl ntmps222 rfl rfl (yz ?_)
 refine yo [] (tk [0,3,6,9,12,18,21,16,25,27,33,32,37]) [] ?_
 iterate 5 (refine yt zp ?_)
 refine yq g (o.a.dA _ _ _) zp λy g=>?_;obtain⟨k,g⟩:=cD g;refine yk<|az.eJ (rows2:=(ab.rows ([ab.z]))) zp rfl rfl rfl rfl rfl zg rfl zi rfl rfl (ab.de _) rfl rfl (zo k) (yz ?_)
 obtain⟨x,w,j,g⟩:=bB g;refine yU zp (yr j w) ?_;refine yt (dW j w) ?_;refine lb ((↑(ab.rows s64).length:Int).toNat) 0 (ab.aI w) j w ?_;refine yo [0,1,2,3,4,5,6,7,8,9] [(10,.one)] [] ?_;refine yY g af.aI λx _ _ g=>?_;refine yY g ah.aI λx _ _ g=>?_;obtain⟨y,z,g⟩:=bj g (o.a.jG _);refine yl (yC z) ?_;refine yk<|az.fV (rs:=_) rfl (λ_=>aF.nil) rfl rfl rfl rfl func222 rfl zk rfl ntmps222 rfl rfl (yz ?_)
 refine yo [] (tk [0,3,6,9,12,18,21,16,25,27,33,32,37]) [] ?_
 iterate 5 (refine yt (dW j w) ?_)
 refine yq g (o.a.dA _ _ _) (dW j w) λy g=>?_;obtain⟨k,g⟩:=cD g;refine yk<|az.eJ (rows2:=(ab.rows ([ab.z]))) (by repeat(first|exact aF.nil|refine aF.cons rfl (ba.dt (cl:=false) rfl aW) ?_|refine aF.skip rfl ?_|refine aF.cons rfl (yr j w) ?_|refine aF.cons rfl (dZ (cl:=false) rfl aW) ?_)) rfl rfl rfl rfl rfl zg rfl zi rfl rfl (ab.de _) rfl rfl (zo k) (yz ?_)
 obtain⟨x,q,j1h,g⟩:=bB g;refine yU zp (yr j1h q) ?_;refine yt (lg j w j1h q) ?_;refine vo ((↑(ab.rows s64++ab.rows [ab.z]).length:Int).toNat) 0 (ab.aI q) j w j1h q ?_;exact yk (yN (_,_) n ⟨by omega,g⟩);refine aD g ?_ ?_<;>intro _ g;refine yf g (o.a.lG _ _ _) λy g=>?_;refine yp g (o.a.QE _ _ _) λy g=>?_;cases g;exact zl;refine aD g ?_ ?_<;>intro _ g;refine yf g (o.a.lG _ _ _) λy g=>?_;refine yo [0,1,2,3,4,5,6,7,8,9] [(10,.one)] [] ?_;refine yY g af.aI λx _ _ g=>?_;refine yY g ah.aI λx _ _ g=>?_;obtain⟨y,z,g⟩:=bj g (o.a.jG _);refine yl (yC z) ?_;refine yk<|az.fV (rs:=_) rfl (λ_=>aF.nil) rfl rfl rfl rfl func222 rfl zk rfl ntmps222 rfl rfl (yz ?_)
 refine yo [] (tk [0,3,6,9,12,18,21,16,25,27,33,32,37]) [] ?_
 iterate 5 (refine yt zp ?_)
 refine yq g (o.a.dA _ _ _) zp λy g=>?_;obtain⟨k,g⟩:=cD g;refine yk<|az.pq 9 zp rfl rfl rfl rfl rfl rfl rfl rfl rfl rfl rfl rfl rfl (zo k) (yz ?_)
 obtain⟨x,w,j,g⟩:=bB g;refine yU zp (yr j w) ?_;refine yt (dW j w) ?_;refine lb (Int.toNat 0) 0 (ab.aI w) j w ?_;refine yo [0,1,2,3,4,5,6,7,8,9] [(10,.one)] [] ?_;refine yY g af.aI λx _ _ g=>?_;refine yY g ah.aI λx _ _ g=>?_;obtain⟨y,z,g⟩:=bj g (o.a.jG _);refine yl (yC z) ?_;refine yk<|az.fV (rs:=_) rfl (λ_=>aF.nil) rfl rfl rfl rfl func222 rfl zk rfl ntmps222 rfl rfl (yz ?_)
 refine yo [] (tk [0,3,6,9,12,18,21,16,25,27,33,32,37]) [] ?_
 iterate 5 (refine yt (dW j w) ?_)
 refine yq g (o.a.dA _ _ _) (dW j w) λy g=>?_;obtain⟨k,g⟩:=cD g;refine yk<|az.eJ (rows2:=(ab.rows ([ab.z]))) (by repeat(first|exact aF.nil|refine aF.cons rfl (ba.dt (cl:=false) rfl aW) ?_|refine aF.skip rfl ?_|refine aF.cons rfl (yr j w) ?_|refine aF.cons rfl (dZ (cl:=false) rfl aW) ?_)) rfl rfl rfl rfl rfl zg rfl zi rfl rfl (ab.de _) rfl rfl (zo k) (yz ?_)
 obtain⟨x,q,j1h,g⟩:=bB g;refine yU zp (yr j1h q) ?_;refine yt (lg j w j1h q) ?_;refine vo (Int.toNat 1) 0 (ab.aI q) j w j1h q ?_;cases g;exact yj;refine aD g ?_ ?_<;>intro _ g;refine yf g (o.a.lG _ _ _) λy g=>?_;refine yo [0,1,2,3,4,5] [(6,.one)] [] ?_;refine yY g af.aI λx _ _ g=>?_;obtain⟨y,z,g⟩:=bj g (o.a.iN _);refine yl (yC z) ?_;refine yk<|az.fV (rs:=_) rfl (λ_=>aF.nil) rfl rfl rfl rfl func222 rfl zk rfl ntmps222 rfl rfl (yz ?_)
 refine yo [] (tk [0,3,6,9,12,18,21,16,25,27,33,32,37]) [] ?_
 iterate 5 (refine yt zp ?_)
 refine yq g (o.a.dA _ _ _) zp λy g=>?_;obtain⟨k,g⟩:=cD g;refine yk<|az.pq 9 zp rfl rfl rfl rfl rfl rfl rfl rfl rfl rfl rfl rfl rfl (zo k) (yz ?_)
 obtain⟨x,w,j,g⟩:=bB g;refine yU zp (yr j w) ?_;refine yt (dW j w) ?_;refine lb (Int.toNat 0) 0 (ab.aI w) j w ?_;cases g;exact yj;refine aD g ?_ ?_<;>intro _ g;refine yc g (o.a.jG _) λy g=>?_;refine yo [0,1,2,3,4,5,6] [(7,.one)] [] ?_;refine yY g af.aI λx _ _ g=>?_;refine yk<|az.fV (rs:=_) rfl (λ_=>aF.nil) rfl rfl rfl rfl func222 rfl zk rfl ntmps222 rfl rfl (yz ?_)
 refine yo [] (tk [0,3,6,9,12,18,21,16,25,27,33,32,37]) [] ?_
 iterate 5 (refine yt zp ?_)
 refine yq g (o.a.dA _ _ _) zp λy g=>?_;obtain⟨k,g⟩:=cD g;refine yk<|az.pq 8 zp rfl rfl rfl rfl rfl rfl rfl rfl rfl rfl rfl rfl rfl (zo k) (yz ?_)
 obtain⟨x,w,j,g⟩:=bB g;refine yU zp (yr j w) ?_;refine yt (dW j w) ?_;refine lb (Int.toNat 0) 0 (ab.aI w) j w ?_;refine yo [0,1,2,3,4,5] [(6,.one)] [] ?_;refine yY g af.aI λx _ _ g=>?_;obtain⟨y,z,g⟩:=bj g (o.a.iN _);refine yl (yC z) ?_;refine yk<|az.fV (rs:=_) rfl (λ_=>aF.nil) rfl rfl rfl rfl func222 rfl zk rfl ntmps222 rfl rfl (yz ?_)
 refine yo [] (tk [0,3,6,9,12,18,21,16,25,27,33,32,37]) [] ?_
 iterate 5 (refine yt (dW j w) ?_)
 refine yq g (o.a.dA _ _ _) (dW j w) λy g=>?_;obtain⟨k,g⟩:=cD g;refine yk<|az.eJ (rows2:=(ab.rows ([ab.z]))) (by repeat(first|exact aF.nil|refine aF.cons rfl (ba.dt (cl:=false) rfl aW) ?_|refine aF.skip rfl ?_|refine aF.cons rfl (yr j w) ?_|refine aF.cons rfl (dZ (cl:=false) rfl aW) ?_)) rfl rfl rfl rfl rfl zg rfl zi rfl rfl (ab.de _) rfl rfl (zo k) (yz ?_)
 obtain⟨x,q,j1h,g⟩:=bB g;refine yU zp (yr j1h q) ?_;refine yt (lg j w j1h q) ?_;refine vo (Int.toNat 1) 0 (ab.aI q) j w j1h q ?_;refine yo [0,1,2,3,4,5] [(6,.one)] [] ?_;refine yY g af.aI λx _ _ g=>?_;obtain⟨y,z,g⟩:=bj g (o.a.iN _);refine yl (yC z) ?_;refine yk<|az.fV (rs:=_) rfl (λ_=>aF.nil) rfl rfl rfl rfl func222 rfl zk rfl ntmps222 rfl rfl (yz ?_)
 refine yo [] (tk [0,3,6,9,12,18,21,16,25,27,33,32,37]) [] ?_
 iterate 5 (refine yt (lg j w j1h q) ?_)
 refine yq g (o.a.dA _ _ _) (lg j w j1h q) λy g=>?_;obtain⟨k,g⟩:=cD g;refine yk<|az.eJ (rows2:=(ab.rows ([ab.z]))) (by repeat(first|exact aF.nil|refine aF.cons rfl (ba.dt (cl:=false) rfl aW) ?_|refine aF.skip rfl ?_|refine aF.cons rfl (yr j w) ?_|refine aF.cons rfl (yr j1h q) ?_|refine aF.cons rfl (dZ (cl:=false) rfl aW) ?_)) rfl rfl rfl rfl rfl zg rfl zi rfl rfl (ab.de _) rfl rfl (zo k) (yz ?_)
 obtain⟨x,ex2,j2h,g⟩:=bB g;refine yU zp (yr j2h ex2) ?_;refine yt (R7 j w j1h q j2h ex2) ?_;refine yk<|az.A3 (Int.toNat 2) 0 (by repeat(first|exact aF.nil|refine aF.cons rfl (ba.dt (cl:=false) rfl aW) ?_|refine aF.skip rfl ?_|refine aF.cons rfl (yr j w) ?_|refine aF.cons rfl (yr j1h q) ?_|refine aF.cons rfl (yr j2h ex2) ?_|refine aF.cons rfl (dZ (cl:=false) rfl aW) ?_)) (by rfl) (by rfl) (by rfl) (by rfl) (by rfl) (by rfl) (by rfl) (by rfl) (by rfl) (by rfl) (yg (ab.aI ex2)) (by rfl) (by rfl) (by rfl) (by rfl) (by rfl) (by rfl) (by rfl) (by rfl) (by rfl) (by rfl) (by rfl) (by rfl) (by rfl) (by rfl) (by rfl) (by repeat(first|exact aF.nil|refine aF.cons rfl (ba.dt (cl:=false) rfl aW) ?_|refine aF.skip rfl ?_|refine aF.cons rfl (yr j w) ?_|refine aF.cons rfl (yr j1h q) ?_|refine aF.cons rfl (yr j2h ex2) ?_|refine aF.cons rfl (dZ (cl:=false) rfl aW) ?_)) (by repeat(first|exact aF.nil|refine aF.cons rfl (ba.dt (cl:=false) rfl aW) ?_|refine aF.skip rfl ?_|refine aF.cons rfl (yr j w) ?_|refine aF.cons rfl (yr j1h q) ?_|refine aF.cons rfl (yr j2h ex2) ?_|refine aF.cons rfl (dZ (cl:=false) rfl aW) ?_)) (yz ?_)
 cases g;exact yj;refine yp g (o.a.QF _ _) λy g=>?_;cases g;exact zl
 iterate 2 (refine aD g ?_ ?_<;>intro _ g;refine yf g (o.a.lG _ _ _) λy g=>?_;refine yo [0,1,2,3,4,5] [(6,.one)] [] ?_;refine yY g af.aI λx _ _ g=>?_;obtain⟨y,z,g⟩:=bj g (o.a.iN _);refine yl (yC z) ?_;refine yk<|az.fV (rs:=_) rfl (λ_=>aF.nil) rfl rfl rfl rfl func222 rfl zk rfl ntmps222 rfl rfl (yz ?_);refine yo [] (tk [0,3,6,9,12,18,21,16,25,27,33,32,37]) [] ?_;(iterate 5 (refine yt zp ?_));refine yq g (o.a.dA _ _ _) zp λy g=>?_;obtain⟨k,g⟩:=cD g;refine yk<|az.pq 9 zp rfl rfl rfl rfl rfl rfl rfl rfl rfl rfl rfl rfl rfl (zo k) (yz ?_);obtain⟨x,w,j,g⟩:=bB g;refine yU zp (yr j w) ?_;refine yt (dW j w) ?_;refine lb (Int.toNat 0) 0 (ab.aI w) j w ?_;cases g;exact yj)
 refine aD g ?_ ?_<;>intro _ g;refine yf g (o.a.lG _ _ _) λy g=>?_;refine Ok.stuck aW ?_;refine az.jN 5 11 32 12 7 rfl rfl rfl ?_;refine yL (S:=Int×(List ab)) (G:=λm s=>gD (Gu m) a0 a1 a2 s.1 s.2) (s0:=(0,[])) 8 [6,10,11,76,77] [78] (λs=>[(78,.d (.v (.int .i64 s.1)))]) (λs=>[(7,.row 32 12 (ab.rows s.2)),(5,.box [.d (.v (.int .i64 23)),.d (.v (.int .i64 a2.aK)),.d (.v (.int .i64 a2.ai.Kind)),.d (.v (.int .i64 a2.ai.Lo)),.d (.v (.int .i64 a2.ai.Hi)),.d (.sl 1 (aT a2.ai.Names)),.d (.sl 6 (ah.rows a2.ai.aw)),.d (.sl 2 (aP.rows a2.ai.aX)),.d (.v (.int .i64 0)),.d (.v (.string ⟨⟨([])⟩⟩)),.d (.v (.int .i64 0)),.os 7 (ab.rows s.2).length])]) g ?_;rintro n ⟨s159,s171⟩ _ g;change lu (Gu n) a0 a1 a2 s159 s171=_ at g;rw[lu]at g;refine yz ?_;refine bH g λ_ g=>?_;refine yX g af.aI λx _ _ g=>?_;refine yk<|az.inl (rs:=_) rfl func222 rfl zk rfl ntmps222 rfl rfl (yz ?_)
 refine yo [] (tk [0,3,6,9,12,18,21,16,25,27,33,32,37]) [] ?_
 iterate 5 (refine yt zp ?_)
 refine yq g (o.a.dA _ _ _) zp λy g=>?_;obtain⟨k,g⟩:=cD g;refine yk<|az.eJ (rows2:=(ab.rows ([ab.z]))) zp rfl rfl rfl rfl rfl zg rfl zi rfl rfl (ab.de _) rfl rfl (zo k) (yz ?_)
 obtain⟨x,w,j,g⟩:=bB g;refine yU zp (yr j w) ?_;refine yt (dW j w) ?_;refine lb ((↑(ab.rows s171).length:Int).toNat) 0 (ab.aI w) j w ?_;obtain⟨x,w,j,g⟩:=bB g;refine yv (yr j w) ?_;refine yv (ym ((IntKind.i64.wrap ((↑(ab.rows s171++ab.rows [ab.z]).length:Int)-1)).toNat) 1 (ab.aI w)) ?_
 iterate 2 (refine aD g ?_ ?_<;>intro _ g)
 exact yP g (o.a.fO _ _)
 iterate 2 (exact yk (yN (_,_) n ⟨by omega,g⟩))
 refine aD g ?_ ?_<;>intro _ g;refine yf g (o.a.lG _ _ _) λy g=>?_;refine Ok.stuck aW ?_;refine az.jN 5 11 32 12 7 rfl rfl rfl ?_;refine yL (S:=Int×(List ab)) (G:=λm s=>jO (Gu m) a0 a1 a2 s.1 s.2) (s0:=(0,[])) 8 [6,9,10,11,114,115] [116] (λs=>[(116,.d (.v (.int .i64 s.1)))]) (λs=>[(7,.row 32 12 (ab.rows s.2)),(5,.box [.d (.v (.int .i64 24)),.d (.v (.int .i64 a2.aK)),.d (.v (.int .i64 a2.ai.Kind)),.d (.v (.int .i64 a2.ai.Lo)),.d (.v (.int .i64 a2.ai.Hi)),.d (.sl 1 (aT a2.ai.Names)),.d (.sl 6 (ah.rows a2.ai.aw)),.d (.sl 2 (aP.rows a2.ai.aX)),.d (.v (.int .i64 0)),.d (.v (.string ⟨⟨([])⟩⟩)),.d (.v (.int .i64 0)),.os 7 (ab.rows s.2).length])]) g ?_;rintro n ⟨s186,s198⟩ _ g;change nb (Gu n) a0 a1 a2 s186 s198=_ at g;rw[nb]at g;refine yz ?_;refine bH g λ_ g=>?_;refine yX g af.aI λx _ _ g=>?_;refine yo [0,1,2,3,4,5] [(6,.one)] [] ?_;refine yY g af.aI λx _ _ g=>?_;obtain⟨y,z,g⟩:=bj g (o.a.iN _);refine yl (yC z) ?_;refine yk<|az.fV (rs:=_) rfl (λ_=>aF.nil) rfl rfl rfl rfl func222 rfl zk rfl ntmps222 rfl rfl (yz ?_)
 refine yo [] (tk [0,3,6,9,12,18,21,16,25,27,33,32,37]) [] ?_
 iterate 5 (refine yt zp ?_)
 refine yq g (o.a.dA _ _ _) zp λy g=>?_;obtain⟨k,g⟩:=cD g;refine yk<|az.eJ (rows2:=(ab.rows ([ab.z]))) zp rfl rfl rfl rfl rfl zg rfl zi rfl rfl (ab.de _) rfl rfl (zo k) (yz ?_)
 obtain⟨x,w,j,g⟩:=bB g;refine yU zp (yr j w) ?_;refine yt (dW j w) ?_;refine lb ((↑(ab.rows s198).length:Int).toNat) 0 (ab.aI w) j w ?_;refine yo [0,1,2,3,4,5,6,7,8,9] [(10,.one)] [] ?_;refine yY g af.aI λx _ _ g=>?_;refine yY g ah.aI λx _ _ g=>?_;obtain⟨y,z,g⟩:=bj g (o.a.jG _);refine yl (yC z) ?_;refine yk<|az.fV (rs:=_) rfl (λ_=>aF.nil) rfl rfl rfl rfl func222 rfl zk rfl ntmps222 rfl rfl (yz ?_)
 refine yo [] (tk [0,3,6,9,12,18,21,16,25,27,33,32,37]) [] ?_
 iterate 5 (refine yt (dW j w) ?_)
 refine yq g (o.a.dA _ _ _) (dW j w) λy g=>?_;obtain⟨k,g⟩:=cD g;refine yk<|az.eJ (rows2:=(ab.rows ([ab.z]))) (by repeat(first|exact aF.nil|refine aF.cons rfl (ba.dt (cl:=false) rfl aW) ?_|refine aF.skip rfl ?_|refine aF.cons rfl (yr j w) ?_|refine aF.cons rfl (dZ (cl:=false) rfl aW) ?_)) rfl rfl rfl rfl rfl zg rfl zi rfl rfl (ab.de _) rfl rfl (zo k) (yz ?_)
 obtain⟨x,q,j1h,g⟩:=bB g;refine yU zp (yr j1h q) ?_;refine yt (lg j w j1h q) ?_;refine vo ((↑(ab.rows s198++ab.rows [ab.z]).length:Int).toNat) 0 (ab.aI q) j w j1h q ?_;exact yk (yN (_,_) n ⟨by omega,g⟩);refine aD g ?_ ?_<;>intro _ g;refine yf g (o.a.lG _ _ _) λy g=>?_;refine yp g (o.a.QE _ _ _) λy g=>?_;cases g;exact zl;refine aD g ?_ ?_<;>intro _ g;refine yf g (o.a.lG _ _ _) λy g=>?_;refine yo [0,1,2,3,4,5,6,7,8,9] [(10,.one)] [] ?_;refine yY g af.aI λx _ _ g=>?_;refine yY g ah.aI λx _ _ g=>?_;obtain⟨y,z,g⟩:=bj g (o.a.jG _);refine yl (yC z) ?_;refine yk<|az.fV (rs:=_) rfl (λ_=>aF.nil) rfl rfl rfl rfl func222 rfl zk rfl ntmps222 rfl rfl (yz ?_)
 refine yo [] (tk [0,3,6,9,12,18,21,16,25,27,33,32,37]) [] ?_
 iterate 5 (refine yt zp ?_)
 refine yq g (o.a.dA _ _ _) zp λy g=>?_;obtain⟨k,g⟩:=cD g;refine yk<|az.pq 9 zp rfl rfl rfl rfl rfl rfl rfl rfl rfl rfl rfl rfl rfl (zo k) (yz ?_)
 obtain⟨x,w,j,g⟩:=bB g;refine yU zp (yr j w) ?_;refine yt (dW j w) ?_;refine lb (Int.toNat 0) 0 (ab.aI w) j w ?_;refine yo [0,1,2,3,4,5,6,7,8,9] [(10,.one)] [] ?_;refine yY g af.aI λx _ _ g=>?_;refine yY g ah.aI λx _ _ g=>?_;obtain⟨y,z,g⟩:=bj g (o.a.jG _);refine yl (yC z) ?_;refine yk<|az.fV (rs:=_) rfl (λ_=>aF.nil) rfl rfl rfl rfl func222 rfl zk rfl ntmps222 rfl rfl (yz ?_)
 refine yo [] (tk [0,3,6,9,12,18,21,16,25,27,33,32,37]) [] ?_
 iterate 5 (refine yt (dW j w) ?_)
 refine yq g (o.a.dA _ _ _) (dW j w) λy g=>?_;obtain⟨k,g⟩:=cD g;refine yk<|az.eJ (rows2:=(ab.rows ([ab.z]))) (by repeat(first|exact aF.nil|refine aF.cons rfl (ba.dt (cl:=false) rfl aW) ?_|refine aF.skip rfl ?_|refine aF.cons rfl (yr j w) ?_|refine aF.cons rfl (dZ (cl:=false) rfl aW) ?_)) rfl rfl rfl rfl rfl zg rfl zi rfl rfl (ab.de _) rfl rfl (zo k) (yz ?_)
 obtain⟨x,q,j1h,g⟩:=bB g;refine yU zp (yr j1h q) ?_;refine yt (lg j w j1h q) ?_;refine vo (Int.toNat 1) 0 (ab.aI q) j w j1h q ?_;cases g;exact yj;refine aD g ?_ ?_<;>intro _ g;refine yf g (o.a.lG _ _ _) λy g=>?_;refine yo [0,1,2,3,4,5] [(6,.one)] [] ?_;refine yY g af.aI λx _ _ g=>?_;obtain⟨y,z,g⟩:=bj g (o.a.iN _);refine yl (yC z) ?_;refine yk<|az.fV (rs:=_) rfl (λ_=>aF.nil) rfl rfl rfl rfl func222 rfl zk rfl ntmps222 rfl rfl (yz ?_)
 refine yo [] (tk [0,3,6,9,12,18,21,16,25,27,33,32,37]) [] ?_
 iterate 5 (refine yt zp ?_)
 refine yq g (o.a.dA _ _ _) zp λy g=>?_;obtain⟨k,g⟩:=cD g;refine yk<|az.pq 9 zp rfl rfl rfl rfl rfl rfl rfl rfl rfl rfl rfl rfl rfl (zo k) (yz ?_)
 obtain⟨x,w,j,g⟩:=bB g;refine yU zp (yr j w) ?_;refine yt (dW j w) ?_;refine lb (Int.toNat 0) 0 (ab.aI w) j w ?_;cases g;exact yj;refine aD g ?_ ?_<;>intro _ g;refine yc g (o.a.jG _) λy g=>?_;refine yo [0,1,2,3,4,5,6] [(7,.one)] [] ?_;refine yY g af.aI λx _ _ g=>?_;refine yk<|az.fV (rs:=_) rfl (λ_=>aF.nil) rfl rfl rfl rfl func222 rfl zk rfl ntmps222 rfl rfl (yz ?_)
 refine yo [] (tk [0,3,6,9,12,18,21,16,25,27,33,32,37]) [] ?_
 iterate 5 (refine yt zp ?_)
 refine yq g (o.a.dA _ _ _) zp λy g=>?_;obtain⟨k,g⟩:=cD g;refine yk<|az.pq 8 zp rfl rfl rfl rfl rfl rfl rfl rfl rfl rfl rfl rfl rfl (zo k) (yz ?_)
 obtain⟨x,w,j,g⟩:=bB g;refine yU zp (yr j w) ?_;refine yt (dW j w) ?_;refine lb (Int.toNat 0) 0 (ab.aI w) j w ?_;refine yo [0,1,2,3,4,5] [(6,.one)] [] ?_;refine yY g af.aI λx _ _ g=>?_;obtain⟨y,z,g⟩:=bj g (o.a.iN _);refine yl (yC z) ?_;refine yk<|az.fV (rs:=_) rfl (λ_=>aF.nil) rfl rfl rfl rfl func222 rfl zk rfl ntmps222 rfl rfl (yz ?_)
 refine yo [] (tk [0,3,6,9,12,18,21,16,25,27,33,32,37]) [] ?_
 iterate 5 (refine yt (dW j w) ?_)
 refine yq g (o.a.dA _ _ _) (dW j w) λy g=>?_;obtain⟨k,g⟩:=cD g;refine yk<|az.eJ (rows2:=(ab.rows ([ab.z]))) (by repeat(first|exact aF.nil|refine aF.cons rfl (ba.dt (cl:=false) rfl aW) ?_|refine aF.skip rfl ?_|refine aF.cons rfl (yr j w) ?_|refine aF.cons rfl (dZ (cl:=false) rfl aW) ?_)) rfl rfl rfl rfl rfl zg rfl zi rfl rfl (ab.de _) rfl rfl (zo k) (yz ?_)
 obtain⟨x,q,j1h,g⟩:=bB g;refine yU zp (yr j1h q) ?_;refine yt (lg j w j1h q) ?_;refine vo (Int.toNat 1) 0 (ab.aI q) j w j1h q ?_;refine yo [0,1,2,3,4,5] [(6,.one)] [] ?_;refine yY g af.aI λx _ _ g=>?_;obtain⟨y,z,g⟩:=bj g (o.a.iN _);refine yl (yC z) ?_;refine yk<|az.fV (rs:=_) rfl (λ_=>aF.nil) rfl rfl rfl rfl func222 rfl zk rfl ntmps222 rfl rfl (yz ?_)
 refine yo [] (tk [0,3,6,9,12,18,21,16,25,27,33,32,37]) [] ?_
 iterate 5 (refine yt (lg j w j1h q) ?_)
 refine yq g (o.a.dA _ _ _) (lg j w j1h q) λy g=>?_;obtain⟨k,g⟩:=cD g;refine yk<|az.eJ (rows2:=(ab.rows ([ab.z]))) (by repeat(first|exact aF.nil|refine aF.cons rfl (ba.dt (cl:=false) rfl aW) ?_|refine aF.skip rfl ?_|refine aF.cons rfl (yr j w) ?_|refine aF.cons rfl (yr j1h q) ?_|refine aF.cons rfl (dZ (cl:=false) rfl aW) ?_)) rfl rfl rfl rfl rfl zg rfl zi rfl rfl (ab.de _) rfl rfl (zo k) (yz ?_)
 obtain⟨x,ex2,j2h,g⟩:=bB g;refine yU zp (yr j2h ex2) ?_;refine yt (R7 j w j1h q j2h ex2) ?_;refine yk<|az.A3 (Int.toNat 2) 0 (by repeat(first|exact aF.nil|refine aF.cons rfl (ba.dt (cl:=false) rfl aW) ?_|refine aF.skip rfl ?_|refine aF.cons rfl (yr j w) ?_|refine aF.cons rfl (yr j1h q) ?_|refine aF.cons rfl (yr j2h ex2) ?_|refine aF.cons rfl (dZ (cl:=false) rfl aW) ?_)) (by rfl) (by rfl) (by rfl) (by rfl) (by rfl) (by rfl) (by rfl) (by rfl) (by rfl) (by rfl) (yg (ab.aI ex2)) (by rfl) (by rfl) (by rfl) (by rfl) (by rfl) (by rfl) (by rfl) (by rfl) (by rfl) (by rfl) (by rfl) (by rfl) (by rfl) (by rfl) (by rfl) (by repeat(first|exact aF.nil|refine aF.cons rfl (ba.dt (cl:=false) rfl aW) ?_|refine aF.skip rfl ?_|refine aF.cons rfl (yr j w) ?_|refine aF.cons rfl (yr j1h q) ?_|refine aF.cons rfl (yr j2h ex2) ?_|refine aF.cons rfl (dZ (cl:=false) rfl aW) ?_)) (by repeat(first|exact aF.nil|refine aF.cons rfl (ba.dt (cl:=false) rfl aW) ?_|refine aF.skip rfl ?_|refine aF.cons rfl (yr j w) ?_|refine aF.cons rfl (yr j1h q) ?_|refine aF.cons rfl (yr j2h ex2) ?_|refine aF.cons rfl (dZ (cl:=false) rfl aW) ?_)) (yz ?_)
 cases g;exact yj;refine yp g (o.a.QF _ _) λy g=>?_;cases g;exact zl
