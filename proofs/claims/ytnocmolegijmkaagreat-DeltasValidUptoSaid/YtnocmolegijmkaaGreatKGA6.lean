/- Printed by a program: what functions answer, and that they do. -/
import Derived.Test.YtnocmolegijmkaaGreatKGA3
set_option linter.all false
set_option maxRecDepth 100000
noncomputable section
namespace Go.Proofs.YtnocmolegijmkaaGreat
open Go Go.Bw Go.Proofs.Tryz
theorem Wr {n} (o:Ou n):L4 (u2 (Gu n)):=by
 intro a0 a1 r g;rw[u2]at g;refine yw func48 ntmps48 ?_
 iterate 2 (refine aZ g λ_ g=>?_)
 refine yk<|yL (S:=Int×Int) (G:=λm s=>oM (Gu m) a0 s.1 s.2) (s0:=(IntKind.i64.wrap (a1-1),0)) 1 [2,4] [1,5] (λs=>[(1,.d (.v (.int .i64 s.1))),(5,.d (.v (.int .i64 s.2)))]) (λs=>[]) g ?_;rintro n ⟨s3,s4⟩ _ g;change qM (Gu n) a0 s3 s4=_ at g;rw[qM]at g;refine yz ?_
 iterate 2 (refine bJ g λ_ g=>?_)
 refine yX g ab.aM λx _ _ g=>?_;refine yc g (o.a.L5 _ _) λy g=>?_;exact yk (yN (_,_) n ⟨by omega,g⟩)
theorem Ws {n} (o:Ou n):L6 (u3 (Gu n)):=by
 intro a0 a1 r g;rw[u3]at g;refine yw func23 ntmps23 ?_;refine yc g (o.a.L5 _ _) λy g=>?_;cases g;exact zl
theorem Wt {n} (o:Ou n):L7 (u4 (Gu n)):=by
 intro a0 a1 r g;rw[u4]at g;refine yw func49 ntmps49 ?_
 iterate 2 (refine aZ g λ_ g=>?_)
 refine yk<|yL (S:=Int×Int×Int) (G:=λm s=>tI (Gu m) a0 s.1 s.2.1 s.2.2) (s0:=(IntKind.i64.wrap (a1-IntKind.i64.wrap (1+(↑(aW a0.Names).length:Int))),0,0)) 1 [2] [1,4,5] (λs=>[(1,.d (.v (.int .i64 s.1))),(4,.d (.v (.int .i64 s.2.1))),(5,.d (.v (.int .i64 s.2.2)))]) (λs=>[]) g ?_;rintro n ⟨s3,s4,s5⟩ _ g;change tJ (Gu n) a0 s3 s4 s5=_ at g;rw[tJ]at g;refine yz ?_
 refine aS g ?_ ?_<;>intro _ g
 iterate 2 (refine aZ g λ_ g=>?_;refine yX g dQ.aM λx _ _ g=>?_)
 exact yk (yN (_,_,_) n ⟨by omega,g⟩);refine yk<|yL (S:=Int×Int) (G:=λm s=>tK (Gu m) a0 s.1 s.2) (s0:=(s3,0)) 1 [2,4,5] [1,6] (λs=>[(1,.d (.v (.int .i64 s.1))),(6,.d (.v (.int .i64 s.2)))]) (λs=>[]) g ?_;rintro n ⟨s13,s14⟩ _ g;change tM (Gu n) a0 s13 s14=_ at g;rw[tM]at g;refine yz ?_
 refine bJ g λ_ g=>?_;refine yX g b6.aM λx _ _ g=>?_;refine yc g (o.a.L8 _ _) λy g=>?_;refine aZ g λ_ g=>?_;exact yk (yN (_,_) n ⟨by omega,g⟩)
theorem Wu {n} (o:Ou n):L9 (u5 (Gu n)):=by
 intro a0 a1 r g;rw[u5]at g;refine yw func24 ntmps24 ?_;refine yc g (o.a.L8 _ _) λy g=>?_;cases g;exact zl
theorem w8 {n} (o:Ou n):C8 (B8 (Gu n)):=by
 intro a0 a1 a2 r g;rw[B8]at g;refine yw func8 ntmps8 ?_;refine yc g (o.a.W3 _ _) λy g=>?_;refine aZ g λ_ g=>?_;refine yc g (o.a.W4 _ _) λy g=>?_
 iterate 3 (refine aZ g λ_ g=>?_)
 refine yk<|yL (S:=Int) (G:=λm s=>xT (Gu m) a2 s) (s0:=0) 2 [2,6] [7] (λs=>[(7,.d (.v (.int .i64 s)))]) (λs=>[]) g ?_;rintro n s7 _ g;change uc (Gu n) a2 s7=_ at g;rw[uc]at g;refine yz ?_
 refine bJ g λ_ g=>?_;refine yX g dF.aM λx _ _ g=>?_;refine aZ g λ_ g=>?_;exact yk (yN _ n ⟨by omega,g⟩)
theorem UG {n} (o:Ou n):KT (uv (Gu n)):=by
 intro a0 a1 r g;rw[uv]at g;refine yw func160 ntmps160 ?_;exact lh g
set_option maxHeartbeats 0 in
theorem UH {n} (o:Ou n):KU (rB (Gu n)):=by
 intro a0 r g;rw[rB]at g;refine yw func107 ntmps107 ?_
 iterate 2 (refine aS g (λk g=>?_) λ_ g=>?_;(iterate 4 (refine aS g ?_ ?_<;>intro _ g;(iterate 2 (refine yF k ?_));refine yc g (o.a.gF _ _) λy g=>?_;cases g;exact zl));(iterate 2 (refine yF k ?_));refine aS g ?_ ?_<;>intro _ g;(iterate 2 (refine yc g (o.a.gF _ _) λy g=>?_;cases g;exact zl)))
 iterate 2 (refine aS g (λk g=>?_) λ_ g=>?_;(iterate 3 (refine aS g ?_ ?_<;>intro _ g;(iterate 2 (refine yF k ?_));refine yc g (o.a.gF _ _) λy g=>?_;cases g;exact zl));(iterate 2 (refine yF k ?_));refine yc g (o.a.gF _ _) λy g=>?_;cases g;exact zl)
 iterate 3 (refine aS g (λk g=>?_) λ_ g=>?_;(iterate 3 (refine aS g ?_ ?_<;>intro _ g;(iterate 2 (refine yF k ?_));refine yc g (o.a.gF _ _) λy g=>?_;cases g;exact zl));(iterate 2 (refine yF k ?_));refine aS g ?_ ?_<;>intro _ g;(iterate 2 (refine yc g (o.a.gF _ _) λy g=>?_;cases g;exact zl)))
 refine aS g (λk g=>?_) λ_ g=>?_
 iterate 4 (refine aS g ?_ ?_<;>intro _ g;(iterate 2 (refine yF k ?_));refine yc g (o.a.gF _ _) λy g=>?_;cases g;exact zl)
 iterate 2 (refine yF k ?_)
 refine aS g ?_ ?_<;>intro _ g
 iterate 2 (refine yc g (o.a.gF _ _) λy g=>?_;cases g;exact zl)
 refine aS g (λk g=>?_) λk g=>?_;refine yo [0,1,2,3,4] [] [] ?_
 iterate 3 (refine aS g ?_ ?_<;>intro _ g;(refine Ok.tq k ?_;conv=>(arg 3;whnf));refine yc g (o.a.gF _ _) λy g=>?_;cases g;exact zl)
 refine Ok.tq k ?_;conv=>(arg 3;whnf)
 refine aS g ?_ ?_<;>intro _ g
 iterate 2 (refine yc g (o.a.gF _ _) λy g=>?_;cases g;exact zl)
 refine bJ g λl g=>?_
 iterate 2 (refine aS g ?_ ?_<;>intro _ g;(refine Ok.xo k ?_;conv=>(arg 3;whnf));(refine Ok.tq l ?_;conv=>(arg 3;whnf));refine yc g (o.a.gF _ _) λy g=>?_;cases g;exact zl)
 refine Ok.xo k ?_;conv=>(arg 3;whnf)
 refine Ok.tq l ?_;conv=>(arg 3;whnf)
 refine aS g ?_ ?_<;>intro _ g
 iterate 2 (refine yc g (o.a.gF _ _) λy g=>?_;cases g;exact zl)
theorem UI {n} (o:Ou n):KV (uw (Gu n)):=by
 intro a0 r g;rw[uw]at g;refine yw func109 ntmps109 ?_
 iterate 2 ((iterate 2 (refine aS g ?_ ?_<;>intro _ g));(iterate 2 (refine yc g (o.a.gF _ _) λy g=>?_;cases g;exact zl)))
 refine aS g ?_ ?_<;>intro _ g
 iterate 2 (refine yc g (o.a.gF _ _) λy g=>?_;cases g;exact zl)
theorem UJ {n} (o:Ou n):KW (ux (Gu n)):=by
 intro a0 r g;rw[ux]at g;refine yw func113 ntmps113 ?_;refine aS g ?_ ?_<;>intro _ g;refine aZ g λ_ g=>?_
 iterate 2 (refine bJ g λ_ g=>?_;exact lh g)
theorem Wv {n} (o:Ou n):L' (u6 (Gu n)):=by
 intro a0 r g;rw[u6]at g;refine yw func68 ntmps68 ?_
 iterate 2 (refine aZ g λ_ g=>?_)
 iterate 2 (obtain⟨x,w,j,g⟩:=bP g;refine yv (bG.toP (bG.xp ((0:Int).toNat) rfl rfl rfl rfl j w)) ?_;refine aZ g λ_ g=>?_)
 refine yk<|yL (S:=Int) (G:=λm s=>tN (Gu m) a0 s) (s0:=0) 0 [0,2,23] [24] (λs=>[(24,.d (.v (.int .i64 s)))]) (λs=>[]) g ?_;rintro n s9 _ g;change qN (Gu n) a0 s9=_ at g;rw[qN]at g;refine yz ?_
 refine bJ g λ_ g=>?_;obtain⟨x,w,j,g⟩:=bP g;refine yv (bG.toP (bG.xp ((s9:Int).toNat) rfl rfl rfl rfl j w)) ?_;refine yc g (o.a.Vj _) λy g=>?_;refine aZ g λ_ g=>?_;exact yk (yN _ n ⟨by omega,g⟩)
theorem Ww {n} (o:Ou n):Ma (rY (Gu n)):=by
 intro a0 a1 r g;rw[rY]at g;refine yw func93 ntmps93 ?_;refine yk<|yL (S:=Int) (G:=λm s=>xx (Gu m) a0 a1 s) (s0:=0) 0 [0,1,4,7] [8] (λs=>[(8,.d (.v (.int .i64 s)))]) (λs=>[]) g ?_;rintro n s1 _ g;change qO (Gu n) a0 a1 s1=_ at g;rw[qO]at g;refine yz ?_
 refine bJ g λ_ g=>?_;refine yX g lC λx _ _ g=>?_;refine aZ g λ_ g=>?_;exact yk (yN _ n ⟨by omega,g⟩)
theorem UK {n} (o:Ou n):KX (uy (Gu n)):=by
 intro a0 a1 r g;rw[uy]at g;refine yw func148 ntmps148 ?_;refine yc g (o.a.EL _ _) λy g=>?_;cases g;exact zl
theorem UL {n} (o:Ou n):KY (rC (Gu n)):=by
 intro a0 r g;rw[rC]at g;refine yw func126 ntmps126 ?_;refine yk<|yL (S:=Int) (G:=λm s=>tc (Gu m) a0 s) (s0:=1) 0 [0,2] [3] (λs=>[(3,.d (.v (.int .i64 s)))]) (λs=>[]) g ?_;rintro n s1 _ g;change oH (Gu n) a0 s1=_ at g;rw[oH]at g;refine yz ?_
 refine bJ g λ_ g=>?_;refine yo [0,1,2,3,4,5,6,7,8,9] [] [] ?_
 iterate 2 (refine yY g lC λx _ _ g=>?_)
 refine aZ g λ_ g=>?_;exact yk (yN _ n ⟨by omega,g⟩)
theorem UM {n} (o:Ou n):KZ (uz (Gu n)):=by
 intro a0 a1 r g;rw[uz]at g;refine yw func140 ntmps140 ?_;refine yc g (o.a.K0 _ _) λy g=>?_;cases g;exact zl
theorem Wx {n} (o:Ou n):Mb (rZ (Gu n)):=by
 intro a0 a1 r g;rw[rZ]at g;refine yw func92 ntmps92 ?_;refine yk<|yL (S:=Int) (G:=λm s=>oN (Gu m) a0 a1 s) (s0:=0) 0 [1,4,7,8] [9] (λs=>[(9,.d (.v (.int .i64 s)))]) (λs=>[]) g ?_;rintro n s1 _ g;change qP (Gu n) a0 a1 s1=_ at g;rw[qP]at g;refine yz ?_
 refine bJ g λ_ g=>?_;refine yX g lC λx _ _ g=>?_;refine yc g (o.a.DK _ _) λy g=>?_;refine aZ g λ_ g=>?_;exact yk (yN _ n ⟨by omega,g⟩)
theorem UN {n} (o:Ou n):K2 (pw (Gu n)):=by
 intro a0 r g;rw[pw]at g;refine yw func110 ntmps110 ?_;refine yk<|yL (S:=Int×Int) (G:=λm s=>kO (Gu m) a0 s.1 s.2) (s0:=(0,0)) 1 [1,8,9] [2,10] (λs=>[(2,.d (.v (.int .i64 s.1))),(10,.d (.v (.int .i64 s.2)))]) (λs=>[]) g ?_;rintro n ⟨s1,s2⟩ _ g;change ng (Gu n) a0 s1 s2=_ at g;rw[ng]at g;refine yz ?_
 refine aS g ?_ ?_<;>intro _ g;refine yX g lC λx _ _ g=>?_;refine yc g (o.a.zd _) λy g=>?_;refine aZ g λ_ g=>?_;refine aS g ?_ ?_<;>intro _ g;obtain⟨x,w,g⟩:=iw g;refine yv (yQ O0 w) ?_;refine yc g (o.a.K0 _ _) λy g=>?_;refine aZ g λ_ g=>?_
 iterate 2 (exact yk (yN (_,_) n ⟨by omega,g⟩))
 refine aS g ?_ ?_<;>intro _ g;refine yc g (o.a.DL _) λy g=>?_;refine aZ g λ_ g=>?_;refine yk<|yL (S:=Int) (G:=λm s=>wV (Gu m) a0 s) (s0:=0) 1 [1,2,8,9,10,42,43] [44] (λs=>[(44,.d (.v (.int .i64 s)))]) (λs=>[]) g ?_;rintro n s16 _ g;change wW (Gu n) a0 s16=_ at g;rw[wW]at g;refine yz ?_
 refine bJ g λ_ g=>?_;refine yX g aN.aM λx _ _ g=>?_;refine aZ g λ_ g=>?_;refine yc g (o.a.DL _) λy g=>?_;refine aZ g λ_ g=>?_;refine yc g (o.a.Mc _ _) λy g=>?_;refine aZ g λ_ g=>?_;refine yc g (o.a.DK _ _) λy g=>?_;refine aZ g λ_ g=>?_;exact yk (yN _ n ⟨by omega,g⟩);refine yk<|yL (S:=Int) (G:=λm s=>wX (Gu m) a0 s) (s0:=0) 1 [1,2,8,9,10,42,43] [44] (λs=>[(44,.d (.v (.int .i64 s)))]) (λs=>[]) g ?_;rintro n s27 _ g;change wY (Gu n) a0 s27=_ at g;rw[wY]at g;refine yz ?_
 refine bJ g λ_ g=>?_;refine yX g aN.aM λx _ _ g=>?_;refine aZ g λ_ g=>?_;refine yc g (o.a.DL _) λy g=>?_;refine aZ g λ_ g=>?_;refine yc g (o.a.Mc _ _) λy g=>?_;refine aZ g λ_ g=>?_;refine yc g (o.a.DK _ _) λy g=>?_;refine aZ g λ_ g=>?_;exact yk (yN _ n ⟨by omega,g⟩)
theorem UO {n} (o:Ou n):K3 (rD (Gu n)):=by
 intro a0 r g;rw[rD]at g;refine yw func111 ntmps111 ?_
 iterate 4 (refine aS g ?_ ?_<;>intro _ g;refine yc g (o.a.gF _ _) λy g=>?_;cases g;exact zl)
 refine yc g (o.a.gF _ _) λy g=>?_;cases g;exact zl
theorem UP {n} (o:Ou n):K4 (px (Gu n)):=by
 intro a0 r g;rw[px]at g;refine yw func161 ntmps161 ?_
 iterate 3 (refine aZ g λ_ g=>?_)
 iterate 2 (refine bJ g λ_ g=>?_)
 refine yX g ai.aM λx _ _ g=>?_;refine yc g (o.a.DM _) λy g=>?_;refine bJ g λ_ g=>?_;refine yX g ai.aM λx _ _ g=>?_;refine yc g (o.a.DM _) λy g=>?_;cases g;exact zl
theorem UQ {n} (o:Ou n):K5 (rE (Gu n)):=by
 intro a0 r g;rw[rE]at g;refine yw func112 ntmps112 ?_;refine aS g ?_ ?_<;>intro _ g;refine yX g ai.aM λx _ _ g=>?_;refine yc g (o.a.DM _) λy g=>?_
 iterate 2 (refine yc g (o.a.gF _ _) λy g=>?_;cases g;exact zl)
theorem UR {n} (o:Ou n):K6 (py (Gu n)):=by
 intro a0 r g;rw[py]at g;refine yw func108 ntmps108 ?_;refine yk<|yL (S:=Int) (G:=λm s=>lH (Gu m) a0 s) (s0:=0) 0 [2,3,6,7] [8] (λs=>[(8,.d (.v (.int .i64 s)))]) (λs=>[]) g ?_;rintro n s1 _ g;change nh (Gu n) a0 s1=_ at g;rw[nh]at g;refine yz ?_
 refine bJ g λ_ g=>?_;refine yX g GI λx _ _ g=>?_;refine aZ g λ_ g=>?_;exact yk (yN _ n ⟨by omega,g⟩)
/-(*plexus.lattice.checker).visit-/
theorem Wy {n} (o:Ou n):Md (r6 (Gu n)):=by
 intro a0 a1 a2 r g;rw[r6]at g;refine oU.walk (E:=env) func67 rfl zk (rs:=_) rfl ntmps67 rfl (yz ?_)
 iterate 2 (refine aZ g λ_ g=>?_)
 refine yc g (o.a.Vk _) λy g=>?_;refine aZ g λ_ g=>?_;refine yo [0,1,2,3,4,5,6,7,8,9,10] [] [] ?_;obtain⟨y,z,g⟩:=cq g (o.a.Vl _);refine yl (yC z) ?_;obtain⟨y,z,g⟩:=cq g (o.a.Vm _);refine yl (yC z) ?_;obtain⟨y,z,g⟩:=cq g (o.a.Vn _);refine yl (yC z) ?_;obtain⟨y,z,g⟩:=cq g (o.a.Vo _);refine yl (yC z) ?_;obtain⟨y,z,g⟩:=cq g (o.a.Vp _);refine yl (yC z) ?_;refine aZ g λ_ g=>?_;refine yk<|yL (S:=Int×cN) (G:=λm s=>lL (Gu m) a1 a2 s.1 s.2) (s0:=(0,{nodes:=IntKind.i64.wrap (a0.nodes+1):cN})) 2 [0,2,6,47,48] [49] (λs=>[(49,.d (.v (.int .i64 s.1)))]) (λs=>[(0,.box ((cN.cs s.2).map .d))]) g ?_;rintro n ⟨s11,s12⟩ _ g;change nB (Gu n) a1 a2 s11 s12=_ at g;rw[nB]at g;refine yz ?_
 refine bJ g λ_ g=>?_;refine yX g ai.aM λx _ _ g=>?_;obtain⟨y,z,g⟩:=cq g (o.a.Me _ _ _);refine yk<|ao.mv 0 z rfl rfl (by first|rfl|(simp only[gz];rfl)) rfl (pf.box rfl zi) rfl (yz ?_)
 refine aZ g λ_ g=>?_;exact yk (yN (_,_) n ⟨by omega,g⟩)
theorem Wz {n} (o:Ou n):Mf (r7 (Gu n)):=by
 intro a0 r g;rw[r7]at g;refine yw func31 ntmps31 ?_;obtain⟨y,z,g⟩:=cq g (o.a.Me _ _ _);refine yk<|ao.mv 1 z rfl rfl (by first|rfl|(simp only[gz];rfl)) rfl (pf.box rfl zi) rfl (yz ?_)
 cases g;exact zl
theorem WA {n} (o:Ou n):Mg (u7 (Gu n)):=by
 intro a0 a1 r g;rw[u7]at g;refine yw func70 ntmps70 ?_;cases g;exact zl
theorem PK {n} (o:Ou n):HL (qx (Gu n)):=by
 intro a0 a1 r g;rw[qx]at g;refine yw func114 ntmps114 ?_;refine yk<|yL (S:=Int) (G:=λm s=>vM (Gu m) a0 a1 s) (s0:=0) 0 [0,1,4,7] [8] (λs=>[(8,.d (.v (.int .i64 s)))]) (λs=>[]) g ?_;rintro n s1 _ g;change p5 (Gu n) a0 a1 s1=_ at g;rw[p5]at g;refine yz ?_
 refine bJ g λ_ g=>?_;refine yX g TParam.aM λx _ _ g=>?_;refine yc g (o.a.W5 _ _) λy g=>?_;refine aZ g λ_ g=>?_;exact yk (yN _ n ⟨by omega,g⟩)
theorem QG {n} (o:Ou n):Iu (te (Gu n)):=by
 intro a0 a1 r g;rw[te]at g;refine yw func69 ntmps69 ?_;refine yc g (o.a.PN _ _) λy g=>?_;cases g;exact zl
theorem WB {n} (o:Ou n):Mh (r8 (Gu n)):=by
 intro a0 r g;rw[r8]at g;refine yw func32 ntmps32 ?_
 iterate 2 (refine yc g (o.a.zd _) λy g=>?_;refine aZ g λ_ g=>?_)
 iterate 3 (refine aZ g λ_ g=>?_)
 refine yk<|yL (S:=Int) (G:=λm s=>lM (Gu m) a0 s) (s0:=0) 1 [1,2,32,33] [34] (λs=>[(34,.d (.v (.int .i64 s)))]) (λs=>[]) g ?_;rintro n s8 _ g;change nC (Gu n) a0 s8=_ at g;rw[nC]at g;refine yz ?_
 refine bJ g λ_ g=>?_;refine yX g TParam.aM λx _ _ g=>?_;refine yc g (o.a.zd _) λy g=>?_
 iterate 3 (refine aZ g λ_ g=>?_)
 obtain⟨x,w,g⟩:=iw g;refine yv (yQ TParam.bf w) ?_;refine yc g (o.a.QH _ _) λy g=>?_;refine aZ g λ_ g=>?_;exact yk (yN _ n ⟨by omega,g⟩)
theorem WC {n} (o:Ou n):Mi (lj (Gu n)):=by
 intro a0 a1 r g;rw[lj]at g;refine yw func71 ntmps71 ?_;refine aZ g λ_ g=>?_;refine aS g (λk g=>?_) λ_ g=>?_
 iterate 2 (refine aS g ?_ ?_<;>intro _ g)
 refine yo [] (tk [0,3,6,10,12,16]) [] ?_
 iterate 4 (refine yt zp ?_)
 iterate 2 (cases g;exact yj;(iterate 4 (refine yF k ?_)))
 cases g;exact yj;refine aS g (λk g=>?_) λk g=>?_;refine aZ g λ_ g=>?_;refine Ok.tq k ?_;conv=>(arg 3;whnf)
 refine aZ g λ_ g=>?_
 iterate 2 (refine yF k ?_)
 cases g;exact yj;refine Ok.xo k ?_;conv=>(arg 3;whnf)
 refine aS g (λk g=>?_) λ_ g=>?_;refine yc g (o.a.zd _) λy g=>?_;refine aS g ?_ ?_<;>intro _ g;refine yo [] (tk [0,3,6,10,12,16]) [] ?_
 iterate 4 (refine yt zp ?_)
 cases g;exact yj;refine yF k ?_;cases g;exact yj
 iterate 3 (refine bJ g λ_ g=>?_)
 refine yo [] (tk [0,3,6,9,12,15,18,22,24,28]) [] ?_;obtain⟨x,w,j,g⟩:=bP g;refine yu zp (yi j (TParam.aM w)) ?_
 iterate 6 (refine yt zp ?_)
 cases g;exact yj
theorem WD {n} (o:Ou n):Mj (iK (Gu n)):=by
 intro a0 r g;rw[iK]at g;refine yw func72 ntmps72 ?_
 iterate 15 (refine aZ g λ_ g=>?_)
 exact lh g
theorem WE {n} (o:Ou n):Mk (pM (Gu n)):=by
 intro a0 r g;rw[pM]at g;refine yw func73 ntmps73 ?_
 iterate 16 (refine aZ g λ_ g=>?_)
 exact lh g
theorem WG {n} (o:Ou n):Ml (pN (Gu n)):=by
 intro a0 a1 r g;rw[pN]at g;refine yw func33 ntmps33 ?_;refine yc g (o.a.W6 _ _) λy g=>?_;refine aZ g λ_ g=>?_;refine Ok.stuck aV ?_;refine ao.lG 3 4 71 5 4 rfl rfl rfl ?_;refine yL (S:=Bool×Int×(List af)) (G:=λm s=>gy (Gu m) a0 a1 s.1 s.2.1 s.2.2) (s0:=(false,0,[])) 5 [0,3,4,8,30,31] [5,32] (λs=>[(5,.d (.v (.bool s.1))),(32,.d (.v (.int .i64 s.2.1)))]) (λs=>[(4,.row 71 5 (af.rows s.2.2)),(3,.box [.d (.v (.int .i64 0)),.d (.v (.string ⟨⟨([])⟩⟩)),.d (.v (.int .i64 0)),.d (.v (.int .i64 a1.At)),.os 4 (af.rows s.2.2).length])]) g ?_;rintro n ⟨s3,s4,s9⟩ _ g;change nD (Gu n) a0 a1 s3 s4 s9=_ at g;rw[nD]at g;refine yz ?_;refine aS g ?_ ?_<;>intro _ g;refine yX g ab.aM λx _ _ g=>?_;refine yc g (o.a.Mm _ _) λy g=>?_;refine aZ g λ_ g=>?_;refine yo [0,1,2,3,4] (tk [16,18,24,23,28]) [] ?_;obtain⟨k,g⟩:=cP g;refine yk<|ao.fV (rows2:=(af.rows ([af.z]))) az.nil rfl rfl rfl rfl rfl zg rfl zi rfl rfl (af.dJ _) rfl rfl (zo k) (yz ?_)
 obtain⟨x,w,j,g⟩:=bP g;refine yU zp (yr j w) ?_;refine yt (dy j w) ?_;refine jQ ((↑(af.rows s9).length:Int).toNat) 0 (af.aM w) j w ?_;exact yk (yN (_,_,_) n ⟨by omega,g⟩);refine yc g (o.a.W7 _) λy g=>?_;refine aS g ?_ ?_<;>intro _ g;refine aZ g λ_ g=>?_;refine bJ g λ_ g=>?_;refine yX g ab.aM λx _ _ g=>?_
 iterate 2 (refine aZ g λ_ g=>?_)
 refine yX g lC λx _ _ g=>?_;cases g;exact zl;refine yc g (o.a.W8 _) λy g=>?_;refine aS g ?_ ?_<;>intro _ g;refine yk<|ao.inl (rs:=_) rfl func74 rfl zk rfl ntmps74 rfl rfl (yz ?_)
 refine aZ g λ_ g=>?_;refine Ok.stuck aV ?_;refine ao.wQ 3 71 5 5 rfl rfl ?_;refine yL (S:=(List af)×Int) (G:=λm s=>jH (Gu m) a1 s9 y s.1 s.2) (s0:=([],0)) 6 [0,2,5,8] [3,4] (λs=>[(3,.os 5 (af.rows s.1).length),(4,.d (.v (.int .i64 s.2)))]) (λs=>[(5,.row 71 5 (af.rows s.1))]) g ?_;rintro n ⟨s31,s32⟩ _ g;change nE (Gu n) a1 s9 y s31 s32=_ at g;rw[nE]at g;refine yz ?_;refine bJ g λ_ g=>?_;refine yo [0,1,2,3,4,5,6,7,8,9,10,11,12,13,14,15,16,17,18] (tk [58,60]) [] ?_;obtain⟨x,w,j,g⟩:=bP g;refine yl (yr j w) ?_;refine yl (ym s32.toNat 0 (af.aM w)) ?_;obtain⟨t,w,j,g⟩:=bP g;refine yl (yr j w) ?_;refine yl (ym ((IntKind.i64.wrap (s32+1)).toNat) 0 (af.aM w)) ?_;obtain⟨k,g⟩:=cP g;refine yk<|ao.fV (rows2:=(af.rows ([{Kind:=52,Text:=[],N:=0,At:=0,Kids:=[x,t]:af}]))) az.nil rfl rfl rfl rfl rfl zg rfl zi rfl rfl (af.dJ _) rfl rfl (zo k) (yz ?_)
 exact yk (yN (_,_) n ⟨by omega,g⟩);refine aS g ?_ ?_<;>intro _ g;refine yk<|ao.inl (rs:=_) rfl func75 rfl zk rfl ntmps75 rfl rfl (yz ?_)
 refine aZ g λ_ g=>?_;refine Ok.stuck aV ?_;refine ao.wQ 6 71 5 6 rfl rfl ?_;refine yL (S:=(List af)×Int) (G:=λm s=>il (Gu m) a1 s9 y s.1 s.2) (s0:=([],0)) 7 [0,3,4,5,17,24,25] [6,26] (λs=>[(6,.os 6 (af.rows s.1).length),(26,.d (.v (.int .i64 s.2)))]) (λs=>[(6,.row 71 5 (af.rows s.1))]) g ?_;rintro n ⟨s41,s42⟩ _ g;change nF (Gu n) a1 s9 y s41 s42=_ at g;rw[nF]at g;refine yz ?_;refine bJ g λ_ g=>?_;obtain⟨x,w,j,g⟩:=bP g;refine yv (yr j w) ?_;refine yv (ym s42.toNat 0 (af.aM w)) ?_;refine yo [0,1,2,3,4,5,6,7,8,9,10,11] [] [] ?_
 iterate 2 (refine aS g ?_ ?_<;>intro _ g;refine yo [0,1,2,3,4,5,6,7,8] (tk [28,30]) [] ?_;refine yY g lC λt _ _ g=>?_;obtain⟨k,g⟩:=cP g;refine yk<|ao.fV (rows2:=(af.rows ([{Kind:=52,Text:=t,N:=0,At:=0,Kids:=[x]:af}]))) az.nil rfl rfl rfl rfl rfl zg rfl zi rfl rfl (af.dJ _) rfl rfl (zo k) (yz ?_);exact yk (yN (_,_) n ⟨by omega,g⟩))
 exact yk (yN (_,_) n ⟨by omega,g⟩);refine yo [] (tk [0,3,6,9,13,15]) [] ?_
 iterate 6 (refine yt zp ?_)
 cases g;exact zl
theorem WH {n} (o:Ou n):Mn (zf (Gu n)):=by
 intro a0 r g;rw[zf]at g;refine yw func79 ntmps79 ?_;cases g;exact zl
theorem WI {n} (o:Ou n):Mo (zh (Gu n)):=by
 intro a0 r g;rw[zh]at g;refine yw func80 ntmps80 ?_;cases g;exact yj
theorem WJ {n} (o:Ou n):Mp (va (Gu n)):=by
 intro a0 a1 r g;rw[va]at g;refine yw func35 ntmps35 ?_;refine aS g ?_ ?_<;>intro _ g;refine yc g (o.a.iL _) λy g=>?_;cases g;exact zl;refine yc g (o.a.gJ _) λy g=>?_;cases g;exact zl
/-(*plexus.types.elaborator).any$1-/
theorem US {n} (o:Ou n):K7 (uA (Gu n)):=by
 intro a0 a1 r g;rw[uA]at g;refine yw func162 ntmps162 ?_;cases g;exact zl
theorem OZ {n} (o:Ou n):G7 (qm (Gu n)):=by
 intro a0 a1 r g;rw[qm]at g;refine yw func114 ntmps114 ?_;refine yk<|yL (S:=Int) (G:=λm s=>vI (Gu m) a0 a1 s) (s0:=0) 0 [0,1,4,7] [8] (λs=>[(8,.d (.v (.int .i64 s)))]) (λs=>[]) g ?_;rintro n s1 _ g;change p3 (Gu n) a0 a1 s1=_ at g;rw[p3]at g;refine yz ?_
 refine bJ g λ_ g=>?_;refine yX g TParam.aM λx _ _ g=>?_;refine yc g (o.a.Vq _ _) λy g=>?_;refine aZ g λ_ g=>?_;exact yk (yN _ n ⟨by omega,g⟩)
theorem UT {n} (o:Ou n):K8 (uB (Gu n)):=by
 intro a0 a1 r g;rw[uB]at g;refine yw func119 ntmps119 ?_;refine Ok.fin aV ?_;obtain rfl:=sq g;exact RD.tW rfl aV rfl zi
theorem UU {n} (o:Ou n):K9 (uC (Gu n)):=by
 intro a0 r g;rw[uC]at g;refine yw func118 ntmps118 ?_;exact lh g
theorem UW {n} (o:Ou n):La (eM (Gu n)):=by
 intro a0 r g;rw[eM]at g;refine yw func219 ntmps219 ?_
 iterate 4 (refine aZ g λ_ g=>?_)
 exact lh g
theorem UX {n} (o:Ou n):Lb (rF (Gu n)):=by
 intro a0 a1 r g;rw[rF]at g;refine yw func260 ntmps260 ?_;refine yk<|yL (S:=Int) (G:=λm s=>wZ (Gu m) a0 a1 s) (s0:=0) 0 [0,1,4,7] [8] (λs=>[(8,.d (.v (.int .i64 s)))]) (λs=>[]) g ?_;rintro n s1 _ g;change qC (Gu n) a0 a1 s1=_ at g;rw[qC]at g;refine yz ?_
 refine bJ g λ_ g=>?_;refine yX g GI λx _ _ g=>?_;refine aZ g λ_ g=>?_;exact yk (yN _ n ⟨by omega,g⟩)
theorem UY {n} (o:Ou n):Lc (uD (Gu n)):=by
 intro a0 a1 r g;rw[uD]at g;refine yw func221 ntmps221 ?_;refine yc g (o.a.Vr _ _) λy g=>?_;cases g;exact zl
/-(*plexus.types.elaborator).call$1-/
theorem UZ {n} (o:Ou n):Ld (rG (Gu n)):=by
 intro a0 a1 a2 r g;rw[rG]at g;refine yw func220 ntmps220 ?_;refine aS g ?_ ?_<;>intro _ g;exact yP g (o.a.fb _ _);refine yc g (o.a.DN _ _) λy g=>?_;refine aS g ?_ ?_<;>intro _ g;exact yP g (o.a.fb _ _);refine Ok.fin aV ?_;obtain rfl:=sq g;exact RD.oX rfl rfl aV rfl (bO.refl _)
theorem U0 {n} (o:Ou n):Lf (uE (Gu n)):=by
 intro a0 r g;rw[uE]at g;refine yw func129 ntmps129 ?_;refine Ok.stuck aV<|ao.re 3 rfl ?_ ?_
 intro cap k;replace g:(some ([]))=some r:=(by have l:a0=[]:=FG.1 (by have k:=congrArg List.length k;simpa only[eh,mQ]using k);subst l;simpa using g);refine yz ?_;refine yv (bG.toP (bG.nN (et:=9) rfl zk rfl rfl)) ?_;cases g;exact yj;intro ad n0 cap;refine yz ?_;refine yv (bG.toP (bG.nN (et:=9) rfl zk rfl rfl)) ?_;obtain⟨k,g⟩:=cP g;refine yk<|DO.xW (rows2:=(aW a0)) rfl rfl zg rfl (bO.refl _) rfl rfl (N6 _) rfl rfl rfl (zo k) (yz ?_)
 cases g;exact zl
theorem TQ {n} (o:Ou n):Ky (ue (Gu n)):=by
 intro a0 r g;rw[ue]at g;refine mw.walk (E:=env) func166 rfl zk (rs:=_) rfl ntmps166 rfl (yz ?_);refine Ok.stuck aV<|ao.re 3 rfl ?_ ?_
 intro cap k;replace g:(some [])=some r:=(by have l:a0=[]:=FG.1 (by have k:=congrArg List.length k;simpa only[aN.aH,mQ]using k);subst l;simpa using g);refine yz ?_;refine yv (bG.toP (bG.nN (et:=181) rfl zk rfl rfl)) ?_;refine Ok.fin aV ?_;obtain rfl:=sq g;exact RD.Hq rfl rfl (by simp only[gz]);intro ad n0 cap;refine yz ?_;refine yv (bG.toP (bG.nN (et:=181) rfl zk rfl rfl)) ?_;obtain⟨k,g⟩:=cP g;refine yk<|DO.xW (rows2:=(aN.rows a0)) rfl rfl zg rfl (bO.refl _) rfl rfl (aN.dJ _) rfl rfl rfl (zo k) (yz ?_)
 refine Ok.fin aV ?_;obtain rfl:=sq g;exact RD.Kg rfl rfl rfl rfl zi
theorem TR {n} (o:Ou n):Kz (uf (Gu n)):=by
 intro a0 r g;rw[uf]at g;refine mw.walk (E:=env) func167 rfl zk (rs:=_) rfl ntmps167 rfl (yz ?_);refine Ok.stuck aV<|ao.re 3 rfl ?_ ?_
 intro cap k;replace g:(some [])=some r:=(by have l:a0=[]:=FG.1 (by have k:=congrArg List.length k;simpa only[ai.aH,mQ]using k);subst l;simpa using g);refine yz ?_;refine yv (bG.toP (bG.nN (et:=26) rfl zk rfl rfl)) ?_;refine Ok.fin aV ?_;obtain rfl:=sq g;exact RD.Hq rfl rfl (by simp only[gz]);intro ad n0 cap;refine yz ?_;refine yv (bG.toP (bG.nN (et:=26) rfl zk rfl rfl)) ?_;obtain⟨k,g⟩:=cP g;refine yk<|DO.xW (rows2:=(ai.rows a0)) rfl rfl zg rfl (bO.refl _) rfl rfl (ai.dJ _) rfl rfl rfl (zo k) (yz ?_)
 refine Ok.fin aV ?_;obtain rfl:=sq g;exact RD.Kg rfl rfl rfl rfl zi
theorem U1 {n} (o:Ou n):Lg (uF (Gu n)):=by
 intro a0 r g;rw[uF]at g;refine yw func117 ntmps117 ?_;refine yc g (o.a.Lh _) λy g=>?_;obtain⟨v,z,g⟩:=cq g (o.a.TU _);refine yk<|ao.Ke z rfl rfl (by first|rfl|(simp only[gz];rfl)) rfl (yz ?_)
 refine yk<|yL (S:=Int×(List aN)) (G:=λm s=>tf (Gu m) a0 y v s.1 s.2) (s0:=(0,v)) 3 [1,2,15] [16] (λs=>[(16,.d (.v (.int .i64 s.1)))]) (λs=>[(2,.row 181 2 (aN.rows s.2)),(0,.box [.d (.v (.int .i64 a0.Kind)),.d (.v (.int .i64 a0.Lo)),.d (.v (.int .i64 a0.Hi)),.d (.sl 1 (aW y)),.d (.sl 6 (ai.rows a0.aB)),.os 2 (aN.rows s.2).length])]) g ?_;rintro n ⟨s3,s9⟩ _ g;change qD (Gu n) a0 y v s3 s9=_ at g;rw[qD]at g;refine yz ?_
 refine aS g ?_ ?_<;>intro _ g;refine yo [] (tk [0,3,6,9,12,15,18,21,24,28,30,33,37]) [] ?_
 iterate 4 (refine yt zp ?_)
 obtain⟨x,w,j,g⟩:=bP g;refine yU zp (yr j w) ?_;refine yt (dy j w) ?_;refine yU (dy j w) (ym s3.toNat 0 (aN.aM w)) ?_;refine yd g (o.a.Lh _) (by repeat(first|exact az.nil|refine az.cons rfl (aR.dc (cl:=false) rfl aV) ?_|refine az.skip rfl ?_|refine az.cons rfl (yr j w) ?_|refine az.cons rfl (ym s3.toNat 0 (aN.aM w)) ?_|refine az.cons rfl (dK (cl:=false) rfl aV) ?_)) λv g=>?_;obtain⟨x,q,j1h,g⟩:=bP g;refine yU (by repeat(first|exact az.nil|refine az.cons rfl (aR.dc (cl:=false) rfl aV) ?_|refine az.skip rfl ?_|refine az.cons rfl (yr j w) ?_|refine az.cons rfl (ym s3.toNat 0 (aN.aM w)) ?_|refine az.cons rfl (dK (cl:=false) rfl aV) ?_)) (yr j1h q) ?_;refine yt (by repeat(first|exact az.nil|refine az.cons rfl (aR.dc (cl:=false) rfl aV) ?_|refine az.skip rfl ?_|refine az.cons rfl (yr j w) ?_|refine az.cons rfl (ym s3.toNat 0 (aN.aM w)) ?_|refine az.cons rfl (yr j1h q) ?_|refine az.cons rfl (dK (cl:=false) rfl aV) ?_)) ?_;refine yk<|ao.sE s3.toNat 0 (by repeat(first|exact az.nil|refine az.cons rfl (aR.dc (cl:=false) rfl aV) ?_|refine az.skip rfl ?_|refine az.cons rfl (yr j w) ?_|refine az.cons rfl (ym s3.toNat 0 (aN.aM w)) ?_|refine az.cons rfl (yr j1h q) ?_|refine az.cons rfl (dK (cl:=false) rfl aV) ?_)) (by rfl) (by rfl) (by rfl) (by rfl) (by rfl) (by rfl) (by rfl) (by rfl) zg (by rfl) (yg (aN.aM q)) (by rfl) (by rfl) (by rfl) (by rfl) (yz ?_)
 refine yt (by repeat(first|exact az.nil|refine az.cons rfl (aR.dc (cl:=false) rfl aV) ?_|refine az.skip rfl ?_|refine az.cons rfl (yr j w) ?_|refine az.cons rfl (ym s3.toNat 0 (aN.aM w)) ?_|refine az.cons rfl (yr j1h q) ?_|refine az.cons rfl (dK (cl:=false) rfl aV) ?_)) ?_;exact yk (yN (_,_) n ⟨by omega,g⟩);obtain⟨v,z,g⟩:=cq g (o.a.TV _);refine yk<|ao.Ke z rfl rfl (by first|rfl|(simp only[gz];rfl)) rfl (yz ?_)
 refine yk<|yL (S:=Int×(List ai)×(List aN)) (G:=λm s=>th (Gu m) a0 y v s.1 s.2.1 s.2.2) (s0:=(0,v,s9)) 4 [1,2,15,16,38] [39] (λs=>[(39,.d (.v (.int .i64 s.1)))]) (λs=>[(3,.row 26 6 (ai.rows s.2.1)),(2,.row 181 2 (aN.rows s.2.2)),(0,.box [.d (.v (.int .i64 a0.Kind)),.d (.v (.int .i64 a0.Lo)),.d (.v (.int .i64 a0.Hi)),.d (.sl 1 (aW y)),.os 3 (ai.rows s.2.1).length,.os 2 (aN.rows s.2.2).length])]) g ?_;rintro n ⟨s17,s22,s23⟩ _ g;change qE (Gu n) a0 y v s17 s22 s23=_ at g;rw[qE]at g;refine yz ?_
 refine bJ g λ_ g=>?_;refine yo [0,1,2,3,4,5,6,7,8,9] [(10,.one)] [] ?_;obtain⟨x,w,j,g⟩:=bP g;refine yl (yr j w) ?_;refine yl (ym s17.toNat 0 (ai.aM w)) ?_;obtain⟨y,z,g⟩:=cq g (o.a.DP _);refine yl (yC z) ?_;obtain⟨x,w,j,g⟩:=bP g;refine yl (yr j w) ?_;refine yk<|ao.sE s17.toNat 0 az.nil (by rfl) (by rfl) (by rfl) (by rfl) (by rfl) (by rfl) (by rfl) (by rfl) zg (by rfl) (yg (ai.aM w)) (by rfl) (by rfl) (by rfl) (by rfl) (yz ?_)
 exact yk (yN (_,_,_) n ⟨by omega,g⟩)
theorem U2 {n} (o:Ou n):Li (rH (Gu n)):=by
 intro a0 r g;rw[rH]at g;refine yw func262 ntmps262 ?_;refine aZ g λ_ g=>?_;refine aS g ?_ ?_<;>intro _ g
 iterate 6 (refine aZ g λ_ g=>?_)
 exact lh g;refine aS g ?_ ?_<;>intro _ g;refine yX g af.aM λx _ _ g=>?_;refine yc g (o.a.yh _) λy g=>?_;refine bJ g λ_ g=>?_;refine yX g af.aM λx _ _ g=>?_;refine yc g (o.a.yh _) λy g=>?_;cases g;exact zl
 iterate 2 (refine bJ g λ_ g=>?_;refine yX g af.aM λx _ _ g=>?_;refine yc g (o.a.yh _) λy g=>?_)
 cases g;exact zl
theorem U3 {n} (o:Ou n):Lj (yn (Gu n)):=by
 intro a0 a1 r g;rw[yn]at g;refine yw func168 ntmps168 ?_;refine aZ g λ_ g=>?_;refine yk<|yL (S:=Int) (G:=λm s=>w3 (Gu m) a0 a1 s) (s0:=0) 0 [0,1,4,12] [13] (λs=>[(13,.d (.v (.int .i64 s)))]) (λs=>[]) g ?_;rintro n s2 _ g;change w5 (Gu n) a0 a1 s2=_ at g;rw[w5]at g;refine yz ?_
 refine bJ g λ_ g=>?_;refine yo [0,1,2,3,4,5,6,7,8] [] [] ?_
 iterate 2 (refine yY g lC λx _ _ g=>?_)
 refine aZ g λ_ g=>?_;exact yk (yN _ n ⟨by omega,g⟩)
theorem U4 {n} (o:Ou n):Lk (uG (Gu n)):=by
 intro a0 a1 r g;rw[uG]at g;refine yw func170 ntmps170 ?_;refine bJ g λ_ g=>?_;refine yc g (o.a.Ll _ _) λy g=>?_;cases g;exact zl
theorem PL {n} (o:Ou n):HM (sT (Gu n)):=by
 intro a0 a1 r g;rw[sT]at g;refine yw func169 ntmps169 ?_;refine aZ g λ_ g=>?_;refine yk<|yL (S:=Int) (G:=λm s=>p6 (Gu m) a0 a1 s) (s0:=0) 0 [1,2,6,15,16] [17] (λs=>[(17,.d (.v (.int .i64 s)))]) (λs=>[]) g ?_;rintro n s2 _ g;change p7 (Gu n) a0 a1 s2=_ at g;rw[p7]at g;refine yz ?_
 refine bJ g λ_ g=>?_
 iterate 2 (refine yX g aN.aM λx _ _ g=>?_)
 refine yc g (o.a.Vs _ _) λy g=>?_;refine aZ g λ_ g=>?_;exact yk (yN _ n ⟨by omega,g⟩)
theorem U5 {n} (o:Ou n):Ln (uH (Gu n)):=by
 intro a0 a1 r g;rw[uH]at g;refine yw func120 ntmps120 ?_
 iterate 3 (refine bJ g λ_ g=>?_)
 refine yc g (o.a.Ll _ _) λy g=>?_;refine bJ g λ_ g=>?_;refine yc g (o.a.PO _ _) λy g=>?_;refine bJ g λ_ g=>?_;refine yc g (o.a.PQ _ _) λy g=>?_;cases g;exact zl
theorem PM {n} (o:Ou n):HN (sU (Gu n)):=by
 intro a0 a1 r g;rw[sU]at g;refine yw func171 ntmps171 ?_;refine aZ g λ_ g=>?_;refine yk<|yL (S:=Int) (G:=λm s=>qa (Gu m) a0 a1 s) (s0:=0) 0 [1,2,6,15,16] [17] (λs=>[(17,.d (.v (.int .i64 s)))]) (λs=>[]) g ?_;rintro n s2 _ g;change qb (Gu n) a0 a1 s2=_ at g;rw[qb]at g;refine yz ?_
 refine bJ g λ_ g=>?_
 iterate 2 (refine yX g ai.aM λx _ _ g=>?_)
 refine yc g (o.a.Lp _ _) λy g=>?_;refine aZ g λ_ g=>?_;exact yk (yN _ n ⟨by omega,g⟩)
theorem WK {n} (o:Ou n):Mq (vb (Gu n)):=by
 intro a0 a1 r g;rw[vb]at g;refine yw func81 ntmps81 ?_;refine bJ g λ_ g=>?_;refine yc g (o.a.Lp _ _) λy g=>?_;cases g;exact zl
/-(*plexus.types.elaborator).expr-/
theorem WL {n} (o:Ou n):Mr (r9 (Gu n)):=by
 intro a0 a1 a2 r g;rw[r9]at g;refine yw func78 ntmps78 ?_;refine yp g (o.a.Vt _ _ _) λy g=>?_;refine yc g (o.a.DP _) λy g=>?_;refine yc g (o.a.yx _) λy g=>?_;refine bJ g λ_ g=>?_;refine yc g (o.a.EM _ _) λy g=>?_;refine bJ g λ_ g=>?_;exact yP g (o.a.fb _ _)
/-(*plexus.types.elaborator).any-/
theorem U6 {n} (o:Ou n):Lq (dC (Gu n)):=by
 intro a0 a1 a2 r g;rw[dC]at g;refine yw func116 ntmps116 ?_
 iterate 3 (refine yc g (o.a.gJ _) λy g=>?_)
 iterate 4 (refine aZ g λ_ g=>?_)
 refine aS g ?_ ?_<;>intro _ g;refine yc g (o.a.O1 _ _) λy g=>?_;refine aS g ?_ ?_<;>intro _ g;exact yP g (o.a.fb _ _);refine yX g TParam.aM λx _ _ g=>?_;refine yc g (o.a.gJ _) λy g=>?_;cases g;exact yj;refine aS g ?_ ?_<;>intro _ g;refine yc g (o.a.iL _) λy g=>?_;cases g;exact yj
 iterate 2 (refine aS g ?_ ?_<;>intro _ g)
 exact yP g (o.a.fb _ _);refine yc g (o.a.yx _) λy g=>?_;refine bJ g λ_ g=>?_;exact yP g (o.a.fb _ _)
 iterate 2 (refine aS g ?_ ?_<;>intro _ g;refine yp g (o.a.uI _ _ _ _ _ _) λy g=>?_;cases g;exact zl)
 refine aS g ?_ ?_<;>intro _ g;refine yo [] (tk [0,3,6,9,12,15,18,22,24,27,31]) [] ?_
 iterate 3 (refine yt zp ?_)
 obtain⟨x,w,j,g⟩:=bP g;refine yu zp (yi j (af.aM w)) ?_
 iterate 2 (refine yt zp ?_)
 refine yq g (o.a.cW _ _ _) zp λy g=>?_
 iterate 3 (refine yt zp ?_)
 cases g;exact yj
 iterate 2 (refine aS g ?_ ?_<;>intro _ g;refine yp g (o.a.uI _ _ _ _ _ _) λy g=>?_;cases g;exact zl)
 refine aS g ?_ ?_<;>intro _ g;refine yo [0,1,2,3,4] (tk [16,19]) [] ?_;obtain⟨y,z,g⟩:=cq g (o.a.gJ _);refine yl (yC z) ?_;refine yq g (o.a.uI _ _ _ _ _ _) zp λy g=>?_
 iterate 2 (cases g;exact zl;refine aS g ?_ ?_<;>intro _ g;refine yp g (o.a.uI _ _ _ _ _ _) λy g=>?_)
 cases g;exact zl;refine aS g ?_ ?_<;>intro _ g;refine yp g (o.a.Vu _ _ _) λy g=>?_;cases g;exact zl;refine yp g (o.a.Vv _ _ _) λy g=>?_;cases g;exact zl
/-(*plexus.types.elaborator).pair-/
theorem U7 {n} (o:Ou n):Lr (rI (Gu n)):=by
 intro a0 a1 a2 a3 a4 a5 r g;rw[rI]at g;refine yw func163 ntmps163 ?_
 iterate 2 (refine yo [] (tk [0,3,6,9,12,15,19,25]) [7] ?_;obtain⟨x,w,j,g⟩:=bP g;refine yu zp (yi j (af.aM w)) ?_;(iterate 2 (refine yt zp ?_));refine yq g (o.a.cW _ _ _) zp λy g=>?_;refine yt zp ?_)
 cases g;exact yj
/-(*plexus.types.elaborator).call-/
set_option maxHeartbeats 0 in
theorem U8 {n} (o:Ou n):Ls (eN (Gu n)):=by
 intro a0 a1 a2 r g;rw[eN]at g;refine yw func164 ntmps164 ?_;refine yc g (o.a.Vw _) λy g=>?_
 iterate 2 (refine aS g ?_ ?_<;>intro _ g)
 exact yP g (o.a.fb _ _)
 iterate 2 (refine aS g ?_ ?_<;>intro _ g;refine yf g (o.a.kp _ _ _) λy g=>?_;refine yo [0,1,2,3,4,5] [(6,.one)] [] ?_;refine yY g af.aM λx _ _ g=>?_;obtain⟨y,z,g⟩:=cq g (o.a.gJ _);refine yl (yC z) ?_;refine yk<|ao.fm (rs:=_) rfl (λ_=>az.nil) rfl rfl rfl rfl func222 rfl zk rfl ntmps222 rfl rfl (yz ?_);refine yo [] (tk [0,3,6,9,12,18,21,16,25,27,33,32,37]) [] ?_;(iterate 5 (refine yt zp ?_));refine yq g (o.a.cW _ _ _) zp λy g=>?_;obtain⟨k,g⟩:=cP g;refine yk<|ao.na 9 zp rfl rfl rfl rfl rfl rfl rfl rfl rfl rfl rfl rfl rfl (zo k) (yz ?_);obtain⟨x,w,j,g⟩:=bP g;refine yU zp (yr j w) ?_;refine yt (dy j w) ?_;refine jQ (Int.toNat 0) 0 (ab.aM w) j w ?_;cases g;exact yj)
 refine aS g ?_ ?_<;>intro _ g;refine yf g (o.a.kp _ _ _) λy g=>?_;refine Ok.stuck aV ?_;refine ao.lG 5 11 32 12 7 rfl rfl rfl ?_;refine yL (S:=Int×(List ab)) (G:=λm s=>w6 (Gu m) a0 a1 a2 s.1 s.2) (s0:=(0,[])) 8 [6,10,11,76,77] [78] (λs=>[(78,.d (.v (.int .i64 s.1)))]) (λs=>[(7,.row 32 12 (ab.rows s.2)),(5,.box [.d (.v (.int .i64 23)),.d (.v (.int .i64 a2.aL)),.d (.v (.int .i64 a2.aw.Kind)),.d (.v (.int .i64 a2.aw.Lo)),.d (.v (.int .i64 a2.aw.Hi)),.d (.sl 1 (aW a2.aw.Names)),.d (.sl 6 (ai.rows a2.aw.aB)),.d (.sl 2 (aN.rows a2.aw.aY)),.d (.v (.int .i64 0)),.d (.v (.string ⟨⟨([])⟩⟩)),.d (.v (.int .i64 0)),.os 7 (ab.rows s.2).length])]) g ?_;rintro n ⟨s25,s37⟩ _ g;change Bu (Gu n) a0 a1 a2 s25 s37=_ at g;rw[Bu]at g;refine yz ?_;refine bJ g λ_ g=>?_;refine yX g af.aM λx _ _ g=>?_;refine yk<|ao.inl (rs:=_) rfl func222 rfl zk rfl ntmps222 rfl rfl (yz ?_)
 refine yo [] (tk [0,3,6,9,12,18,21,16,25,27,33,32,37]) [] ?_
 iterate 5 (refine yt zp ?_)
 refine yq g (o.a.cW _ _ _) zp λy g=>?_;obtain⟨k,g⟩:=cP g;refine yk<|ao.fV (rows2:=(ab.rows ([ab.z]))) zp rfl rfl rfl rfl rfl zg rfl zi rfl rfl (ab.dJ _) rfl rfl (zo k) (yz ?_)
 obtain⟨x,w,j,g⟩:=bP g;refine yU zp (yr j w) ?_;refine yt (dy j w) ?_;refine jQ ((↑(ab.rows s37).length:Int).toNat) 0 (ab.aM w) j w ?_;obtain⟨x,w,j,g⟩:=bP g;refine yv (yr j w) ?_;refine yv (ym ((IntKind.i64.wrap ((↑(ab.rows s37++ab.rows [ab.z]).length:Int)-1)).toNat) 1 (ab.aM w)) ?_
 iterate 2 (refine aS g ?_ ?_<;>intro _ g)
 exact yP g (o.a.fb _ _)
 iterate 2 (exact yk (yN (_,_) n ⟨by omega,g⟩))
 refine aS g ?_ ?_<;>intro _ g;refine yf g (o.a.kp _ _ _) λy g=>?_;refine Ok.stuck aV ?_;refine ao.lG 5 11 32 12 7 rfl rfl rfl ?_;refine yL (S:=Int×(List ab)) (G:=λm s=>Bv (Gu m) a0 a1 a2 s.1 s.2) (s0:=(0,[])) 8 [6,9,10,11,114,115] [116] (λs=>[(116,.d (.v (.int .i64 s.1)))]) (λs=>[(7,.row 32 12 (ab.rows s.2)),(5,.box [.d (.v (.int .i64 24)),.d (.v (.int .i64 a2.aL)),.d (.v (.int .i64 a2.aw.Kind)),.d (.v (.int .i64 a2.aw.Lo)),.d (.v (.int .i64 a2.aw.Hi)),.d (.sl 1 (aW a2.aw.Names)),.d (.sl 6 (ai.rows a2.aw.aB)),.d (.sl 2 (aN.rows a2.aw.aY)),.d (.v (.int .i64 0)),.d (.v (.string ⟨⟨([])⟩⟩)),.d (.v (.int .i64 0)),.os 7 (ab.rows s.2).length])]) g ?_;rintro n ⟨s52,s64⟩ _ g;change Bx (Gu n) a0 a1 a2 s52 s64=_ at g;rw[Bx]at g;refine yz ?_;refine bJ g λ_ g=>?_;refine yX g af.aM λx _ _ g=>?_;refine yo [0,1,2,3,4,5] [(6,.one)] [] ?_;refine yY g af.aM λx _ _ g=>?_;obtain⟨y,z,g⟩:=cq g (o.a.gJ _);refine yl (yC z) ?_;refine yk<|ao.fm (rs:=_) rfl (λ_=>az.nil) rfl rfl rfl rfl func222 rfl zk rfl ntmps222 rfl rfl (yz ?_)
 refine yo [] (tk [0,3,6,9,12,18,21,16,25,27,33,32,37]) [] ?_
 iterate 5 (refine yt zp ?_)
 refine yq g (o.a.cW _ _ _) zp λy g=>?_;obtain⟨k,g⟩:=cP g;refine yk<|ao.fV (rows2:=(ab.rows ([ab.z]))) zp rfl rfl rfl rfl rfl zg rfl zi rfl rfl (ab.dJ _) rfl rfl (zo k) (yz ?_)
 obtain⟨x,w,j,g⟩:=bP g;refine yU zp (yr j w) ?_;refine yt (dy j w) ?_;refine jQ ((↑(ab.rows s64).length:Int).toNat) 0 (ab.aM w) j w ?_;refine yo [0,1,2,3,4,5,6,7,8,9] [(10,.one)] [] ?_;refine yY g af.aM λx _ _ g=>?_;refine yY g ai.aM λx _ _ g=>?_;obtain⟨y,z,g⟩:=cq g (o.a.iL _);refine yl (yC z) ?_;refine yk<|ao.fm (rs:=_) rfl (λ_=>az.nil) rfl rfl rfl rfl func222 rfl zk rfl ntmps222 rfl rfl (yz ?_)
 refine yo [] (tk [0,3,6,9,12,18,21,16,25,27,33,32,37]) [] ?_
 iterate 5 (refine yt (dy j w) ?_)
 refine yq g (o.a.cW _ _ _) (dy j w) λy g=>?_;obtain⟨k,g⟩:=cP g;refine yk<|ao.fV (rows2:=(ab.rows ([ab.z]))) (by repeat(first|exact az.nil|refine az.cons rfl (aR.dc (cl:=false) rfl aV) ?_|refine az.skip rfl ?_|refine az.cons rfl (yr j w) ?_|refine az.cons rfl (dK (cl:=false) rfl aV) ?_)) rfl rfl rfl rfl rfl zg rfl zi rfl rfl (ab.dJ _) rfl rfl (zo k) (yz ?_)
 obtain⟨x,q,j1h,g⟩:=bP g;refine yU zp (yr j1h q) ?_;refine yt (jR j w j1h q) ?_;refine sa ((↑(ab.rows s64++ab.rows [ab.z]).length:Int).toNat) 0 (ab.aM q) j w j1h q ?_;exact yk (yN (_,_) n ⟨by omega,g⟩);refine aS g ?_ ?_<;>intro _ g;refine yf g (o.a.kp _ _ _) λy g=>?_;refine yp g (o.a.Lt _ _ _) λy g=>?_;cases g;exact zl;refine aS g ?_ ?_<;>intro _ g;refine yf g (o.a.kp _ _ _) λy g=>?_;refine yo [0,1,2,3,4,5,6,7,8,9] [(10,.one)] [] ?_;refine yY g af.aM λx _ _ g=>?_;refine yY g ai.aM λx _ _ g=>?_;obtain⟨y,z,g⟩:=cq g (o.a.iL _);refine yl (yC z) ?_;refine yk<|ao.fm (rs:=_) rfl (λ_=>az.nil) rfl rfl rfl rfl func222 rfl zk rfl ntmps222 rfl rfl (yz ?_)
 refine yo [] (tk [0,3,6,9,12,18,21,16,25,27,33,32,37]) [] ?_
 iterate 5 (refine yt zp ?_)
 refine yq g (o.a.cW _ _ _) zp λy g=>?_;obtain⟨k,g⟩:=cP g;refine yk<|ao.na 9 zp rfl rfl rfl rfl rfl rfl rfl rfl rfl rfl rfl rfl rfl (zo k) (yz ?_)
 obtain⟨x,w,j,g⟩:=bP g;refine yU zp (yr j w) ?_;refine yt (dy j w) ?_;refine jQ (Int.toNat 0) 0 (ab.aM w) j w ?_;refine yo [0,1,2,3,4,5,6,7,8,9] [(10,.one)] [] ?_;refine yY g af.aM λx _ _ g=>?_;refine yY g ai.aM λx _ _ g=>?_;obtain⟨y,z,g⟩:=cq g (o.a.iL _);refine yl (yC z) ?_;refine yk<|ao.fm (rs:=_) rfl (λ_=>az.nil) rfl rfl rfl rfl func222 rfl zk rfl ntmps222 rfl rfl (yz ?_)
 refine yo [] (tk [0,3,6,9,12,18,21,16,25,27,33,32,37]) [] ?_
 iterate 5 (refine yt (dy j w) ?_)
 refine yq g (o.a.cW _ _ _) (dy j w) λy g=>?_;obtain⟨k,g⟩:=cP g;refine yk<|ao.fV (rows2:=(ab.rows ([ab.z]))) (by repeat(first|exact az.nil|refine az.cons rfl (aR.dc (cl:=false) rfl aV) ?_|refine az.skip rfl ?_|refine az.cons rfl (yr j w) ?_|refine az.cons rfl (dK (cl:=false) rfl aV) ?_)) rfl rfl rfl rfl rfl zg rfl zi rfl rfl (ab.dJ _) rfl rfl (zo k) (yz ?_)
 obtain⟨x,q,j1h,g⟩:=bP g;refine yU zp (yr j1h q) ?_;refine yt (jR j w j1h q) ?_;refine sa (Int.toNat 1) 0 (ab.aM q) j w j1h q ?_;cases g;exact yj;refine aS g ?_ ?_<;>intro _ g;refine yf g (o.a.kp _ _ _) λy g=>?_;refine yo [0,1,2,3,4,5] [(6,.one)] [] ?_;refine yY g af.aM λx _ _ g=>?_;obtain⟨y,z,g⟩:=cq g (o.a.gJ _);refine yl (yC z) ?_;refine yk<|ao.fm (rs:=_) rfl (λ_=>az.nil) rfl rfl rfl rfl func222 rfl zk rfl ntmps222 rfl rfl (yz ?_)
 refine yo [] (tk [0,3,6,9,12,18,21,16,25,27,33,32,37]) [] ?_
 iterate 5 (refine yt zp ?_)
 refine yq g (o.a.cW _ _ _) zp λy g=>?_;obtain⟨k,g⟩:=cP g;refine yk<|ao.na 9 zp rfl rfl rfl rfl rfl rfl rfl rfl rfl rfl rfl rfl rfl (zo k) (yz ?_)
 obtain⟨x,w,j,g⟩:=bP g;refine yU zp (yr j w) ?_;refine yt (dy j w) ?_;refine jQ (Int.toNat 0) 0 (ab.aM w) j w ?_;cases g;exact yj;refine aS g ?_ ?_<;>intro _ g;refine yc g (o.a.iL _) λy g=>?_;refine yo [0,1,2,3,4,5,6] [(7,.one)] [] ?_;refine yY g af.aM λx _ _ g=>?_;refine yk<|ao.fm (rs:=_) rfl (λ_=>az.nil) rfl rfl rfl rfl func222 rfl zk rfl ntmps222 rfl rfl (yz ?_)
 refine yo [] (tk [0,3,6,9,12,18,21,16,25,27,33,32,37]) [] ?_
 iterate 5 (refine yt zp ?_)
 refine yq g (o.a.cW _ _ _) zp λy g=>?_;obtain⟨k,g⟩:=cP g;refine yk<|ao.na 8 zp rfl rfl rfl rfl rfl rfl rfl rfl rfl rfl rfl rfl rfl (zo k) (yz ?_)
 obtain⟨x,w,j,g⟩:=bP g;refine yU zp (yr j w) ?_;refine yt (dy j w) ?_;refine jQ (Int.toNat 0) 0 (ab.aM w) j w ?_;refine yo [0,1,2,3,4,5] [(6,.one)] [] ?_;refine yY g af.aM λx _ _ g=>?_;obtain⟨y,z,g⟩:=cq g (o.a.gJ _);refine yl (yC z) ?_;refine yk<|ao.fm (rs:=_) rfl (λ_=>az.nil) rfl rfl rfl rfl func222 rfl zk rfl ntmps222 rfl rfl (yz ?_)
 refine yo [] (tk [0,3,6,9,12,18,21,16,25,27,33,32,37]) [] ?_
 iterate 5 (refine yt (dy j w) ?_)
 refine yq g (o.a.cW _ _ _) (dy j w) λy g=>?_;obtain⟨k,g⟩:=cP g;refine yk<|ao.fV (rows2:=(ab.rows ([ab.z]))) (by repeat(first|exact az.nil|refine az.cons rfl (aR.dc (cl:=false) rfl aV) ?_|refine az.skip rfl ?_|refine az.cons rfl (yr j w) ?_|refine az.cons rfl (dK (cl:=false) rfl aV) ?_)) rfl rfl rfl rfl rfl zg rfl zi rfl rfl (ab.dJ _) rfl rfl (zo k) (yz ?_)
 obtain⟨x,q,j1h,g⟩:=bP g;refine yU zp (yr j1h q) ?_;refine yt (jR j w j1h q) ?_;refine sa (Int.toNat 1) 0 (ab.aM q) j w j1h q ?_;refine yo [0,1,2,3,4,5] [(6,.one)] [] ?_;refine yY g af.aM λx _ _ g=>?_;obtain⟨y,z,g⟩:=cq g (o.a.gJ _);refine yl (yC z) ?_;refine yk<|ao.fm (rs:=_) rfl (λ_=>az.nil) rfl rfl rfl rfl func222 rfl zk rfl ntmps222 rfl rfl (yz ?_)
 refine yo [] (tk [0,3,6,9,12,18,21,16,25,27,33,32,37]) [] ?_
 iterate 5 (refine yt (jR j w j1h q) ?_)
 refine yq g (o.a.cW _ _ _) (jR j w j1h q) λy g=>?_;obtain⟨k,g⟩:=cP g;refine yk<|ao.fV (rows2:=(ab.rows ([ab.z]))) (by repeat(first|exact az.nil|refine az.cons rfl (aR.dc (cl:=false) rfl aV) ?_|refine az.skip rfl ?_|refine az.cons rfl (yr j w) ?_|refine az.cons rfl (yr j1h q) ?_|refine az.cons rfl (dK (cl:=false) rfl aV) ?_)) rfl rfl rfl rfl rfl zg rfl zi rfl rfl (ab.dJ _) rfl rfl (zo k) (yz ?_)
 obtain⟨x,ex2,j2h,g⟩:=bP g;refine yU zp (yr j2h ex2) ?_;refine yt (Ms j w j1h q j2h ex2) ?_;refine yk<|ao.wm (Int.toNat 2) 0 (by repeat(first|exact az.nil|refine az.cons rfl (aR.dc (cl:=false) rfl aV) ?_|refine az.skip rfl ?_|refine az.cons rfl (yr j w) ?_|refine az.cons rfl (yr j1h q) ?_|refine az.cons rfl (yr j2h ex2) ?_|refine az.cons rfl (dK (cl:=false) rfl aV) ?_)) (by rfl) (by rfl) (by rfl) (by rfl) (by rfl) (by rfl) (by rfl) (by rfl) (by rfl) (by rfl) (yg (ab.aM ex2)) (by rfl) (by rfl) (by rfl) (by rfl) (by rfl) (by rfl) (by rfl) (by rfl) (by rfl) (by rfl) (by rfl) (by rfl) (by rfl) (by rfl) (by rfl) (by repeat(first|exact az.nil|refine az.cons rfl (aR.dc (cl:=false) rfl aV) ?_|refine az.skip rfl ?_|refine az.cons rfl (yr j w) ?_|refine az.cons rfl (yr j1h q) ?_|refine az.cons rfl (yr j2h ex2) ?_|refine az.cons rfl (dK (cl:=false) rfl aV) ?_)) (by repeat(first|exact az.nil|refine az.cons rfl (aR.dc (cl:=false) rfl aV) ?_|refine az.skip rfl ?_|refine az.cons rfl (yr j w) ?_|refine az.cons rfl (yr j1h q) ?_|refine az.cons rfl (yr j2h ex2) ?_|refine az.cons rfl (dK (cl:=false) rfl aV) ?_)) (yz ?_)
 cases g;exact yj;refine yp g (o.a.Lu _ _) λy g=>?_;cases g;exact zl
 iterate 2 (refine aS g ?_ ?_<;>intro _ g;refine yf g (o.a.kp _ _ _) λy g=>?_;refine yo [0,1,2,3,4,5] [(6,.one)] [] ?_;refine yY g af.aM λx _ _ g=>?_;obtain⟨y,z,g⟩:=cq g (o.a.gJ _);refine yl (yC z) ?_;refine yk<|ao.fm (rs:=_) rfl (λ_=>az.nil) rfl rfl rfl rfl func222 rfl zk rfl ntmps222 rfl rfl (yz ?_);refine yo [] (tk [0,3,6,9,12,18,21,16,25,27,33,32,37]) [] ?_;(iterate 5 (refine yt zp ?_));refine yq g (o.a.cW _ _ _) zp λy g=>?_;obtain⟨k,g⟩:=cP g;refine yk<|ao.na 9 zp rfl rfl rfl rfl rfl rfl rfl rfl rfl rfl rfl rfl rfl (zo k) (yz ?_);obtain⟨x,w,j,g⟩:=bP g;refine yU zp (yr j w) ?_;refine yt (dy j w) ?_;refine jQ (Int.toNat 0) 0 (ab.aM w) j w ?_;cases g;exact yj)
 refine aS g ?_ ?_<;>intro _ g;refine yf g (o.a.kp _ _ _) λy g=>?_;refine Ok.stuck aV ?_;refine ao.lG 5 11 32 12 7 rfl rfl rfl ?_;refine yL (S:=Int×(List ab)) (G:=λm s=>ij (Gu m) a0 a1 a2 s.1 s.2) (s0:=(0,[])) 8 [6,10,11,76,77] [78] (λs=>[(78,.d (.v (.int .i64 s.1)))]) (λs=>[(7,.row 32 12 (ab.rows s.2)),(5,.box [.d (.v (.int .i64 23)),.d (.v (.int .i64 a2.aL)),.d (.v (.int .i64 a2.aw.Kind)),.d (.v (.int .i64 a2.aw.Lo)),.d (.v (.int .i64 a2.aw.Hi)),.d (.sl 1 (aW a2.aw.Names)),.d (.sl 6 (ai.rows a2.aw.aB)),.d (.sl 2 (aN.rows a2.aw.aY)),.d (.v (.int .i64 0)),.d (.v (.string ⟨⟨([])⟩⟩)),.d (.v (.int .i64 0)),.os 7 (ab.rows s.2).length])]) g ?_;rintro n ⟨s159,s171⟩ _ g;change ni (Gu n) a0 a1 a2 s159 s171=_ at g;rw[ni]at g;refine yz ?_;refine bJ g λ_ g=>?_;refine yX g af.aM λx _ _ g=>?_;refine yk<|ao.inl (rs:=_) rfl func222 rfl zk rfl ntmps222 rfl rfl (yz ?_)
 refine yo [] (tk [0,3,6,9,12,18,21,16,25,27,33,32,37]) [] ?_
 iterate 5 (refine yt zp ?_)
 refine yq g (o.a.cW _ _ _) zp λy g=>?_;obtain⟨k,g⟩:=cP g;refine yk<|ao.fV (rows2:=(ab.rows ([ab.z]))) zp rfl rfl rfl rfl rfl zg rfl zi rfl rfl (ab.dJ _) rfl rfl (zo k) (yz ?_)
 obtain⟨x,w,j,g⟩:=bP g;refine yU zp (yr j w) ?_;refine yt (dy j w) ?_;refine jQ ((↑(ab.rows s171).length:Int).toNat) 0 (ab.aM w) j w ?_;obtain⟨x,w,j,g⟩:=bP g;refine yv (yr j w) ?_;refine yv (ym ((IntKind.i64.wrap ((↑(ab.rows s171++ab.rows [ab.z]).length:Int)-1)).toNat) 1 (ab.aM w)) ?_
 iterate 2 (refine aS g ?_ ?_<;>intro _ g)
 exact yP g (o.a.fb _ _)
 iterate 2 (exact yk (yN (_,_) n ⟨by omega,g⟩))
 refine aS g ?_ ?_<;>intro _ g;refine yf g (o.a.kp _ _ _) λy g=>?_;refine Ok.stuck aV ?_;refine ao.lG 5 11 32 12 7 rfl rfl rfl ?_;refine yL (S:=Int×(List ab)) (G:=λm s=>ke (Gu m) a0 a1 a2 s.1 s.2) (s0:=(0,[])) 8 [6,9,10,11,114,115] [116] (λs=>[(116,.d (.v (.int .i64 s.1)))]) (λs=>[(7,.row 32 12 (ab.rows s.2)),(5,.box [.d (.v (.int .i64 24)),.d (.v (.int .i64 a2.aL)),.d (.v (.int .i64 a2.aw.Kind)),.d (.v (.int .i64 a2.aw.Lo)),.d (.v (.int .i64 a2.aw.Hi)),.d (.sl 1 (aW a2.aw.Names)),.d (.sl 6 (ai.rows a2.aw.aB)),.d (.sl 2 (aN.rows a2.aw.aY)),.d (.v (.int .i64 0)),.d (.v (.string ⟨⟨([])⟩⟩)),.d (.v (.int .i64 0)),.os 7 (ab.rows s.2).length])]) g ?_;rintro n ⟨s186,s198⟩ _ g;change nj (Gu n) a0 a1 a2 s186 s198=_ at g;rw[nj]at g;refine yz ?_;refine bJ g λ_ g=>?_;refine yX g af.aM λx _ _ g=>?_;refine yo [0,1,2,3,4,5] [(6,.one)] [] ?_;refine yY g af.aM λx _ _ g=>?_;obtain⟨y,z,g⟩:=cq g (o.a.gJ _);refine yl (yC z) ?_;refine yk<|ao.fm (rs:=_) rfl (λ_=>az.nil) rfl rfl rfl rfl func222 rfl zk rfl ntmps222 rfl rfl (yz ?_)
 refine yo [] (tk [0,3,6,9,12,18,21,16,25,27,33,32,37]) [] ?_
 iterate 5 (refine yt zp ?_)
 refine yq g (o.a.cW _ _ _) zp λy g=>?_;obtain⟨k,g⟩:=cP g;refine yk<|ao.fV (rows2:=(ab.rows ([ab.z]))) zp rfl rfl rfl rfl rfl zg rfl zi rfl rfl (ab.dJ _) rfl rfl (zo k) (yz ?_)
 obtain⟨x,w,j,g⟩:=bP g;refine yU zp (yr j w) ?_;refine yt (dy j w) ?_;refine jQ ((↑(ab.rows s198).length:Int).toNat) 0 (ab.aM w) j w ?_;refine yo [0,1,2,3,4,5,6,7,8,9] [(10,.one)] [] ?_;refine yY g af.aM λx _ _ g=>?_;refine yY g ai.aM λx _ _ g=>?_;obtain⟨y,z,g⟩:=cq g (o.a.iL _);refine yl (yC z) ?_;refine yk<|ao.fm (rs:=_) rfl (λ_=>az.nil) rfl rfl rfl rfl func222 rfl zk rfl ntmps222 rfl rfl (yz ?_)
 refine yo [] (tk [0,3,6,9,12,18,21,16,25,27,33,32,37]) [] ?_
 iterate 5 (refine yt (dy j w) ?_)
 refine yq g (o.a.cW _ _ _) (dy j w) λy g=>?_;obtain⟨k,g⟩:=cP g;refine yk<|ao.fV (rows2:=(ab.rows ([ab.z]))) (by repeat(first|exact az.nil|refine az.cons rfl (aR.dc (cl:=false) rfl aV) ?_|refine az.skip rfl ?_|refine az.cons rfl (yr j w) ?_|refine az.cons rfl (dK (cl:=false) rfl aV) ?_)) rfl rfl rfl rfl rfl zg rfl zi rfl rfl (ab.dJ _) rfl rfl (zo k) (yz ?_)
 obtain⟨x,q,j1h,g⟩:=bP g;refine yU zp (yr j1h q) ?_;refine yt (jR j w j1h q) ?_;refine sa ((↑(ab.rows s198++ab.rows [ab.z]).length:Int).toNat) 0 (ab.aM q) j w j1h q ?_;exact yk (yN (_,_) n ⟨by omega,g⟩);refine aS g ?_ ?_<;>intro _ g;refine yf g (o.a.kp _ _ _) λy g=>?_;refine yp g (o.a.Lt _ _ _) λy g=>?_;cases g;exact zl;refine aS g ?_ ?_<;>intro _ g;refine yf g (o.a.kp _ _ _) λy g=>?_;refine yo [0,1,2,3,4,5,6,7,8,9] [(10,.one)] [] ?_;refine yY g af.aM λx _ _ g=>?_;refine yY g ai.aM λx _ _ g=>?_;obtain⟨y,z,g⟩:=cq g (o.a.iL _);refine yl (yC z) ?_;refine yk<|ao.fm (rs:=_) rfl (λ_=>az.nil) rfl rfl rfl rfl func222 rfl zk rfl ntmps222 rfl rfl (yz ?_)
 refine yo [] (tk [0,3,6,9,12,18,21,16,25,27,33,32,37]) [] ?_
 iterate 5 (refine yt zp ?_)
 refine yq g (o.a.cW _ _ _) zp λy g=>?_;obtain⟨k,g⟩:=cP g;refine yk<|ao.na 9 zp rfl rfl rfl rfl rfl rfl rfl rfl rfl rfl rfl rfl rfl (zo k) (yz ?_)
 obtain⟨x,w,j,g⟩:=bP g;refine yU zp (yr j w) ?_;refine yt (dy j w) ?_;refine jQ (Int.toNat 0) 0 (ab.aM w) j w ?_;refine yo [0,1,2,3,4,5,6,7,8,9] [(10,.one)] [] ?_;refine yY g af.aM λx _ _ g=>?_;refine yY g ai.aM λx _ _ g=>?_;obtain⟨y,z,g⟩:=cq g (o.a.iL _);refine yl (yC z) ?_;refine yk<|ao.fm (rs:=_) rfl (λ_=>az.nil) rfl rfl rfl rfl func222 rfl zk rfl ntmps222 rfl rfl (yz ?_)
 refine yo [] (tk [0,3,6,9,12,18,21,16,25,27,33,32,37]) [] ?_
 iterate 5 (refine yt (dy j w) ?_)
 refine yq g (o.a.cW _ _ _) (dy j w) λy g=>?_;obtain⟨k,g⟩:=cP g;refine yk<|ao.fV (rows2:=(ab.rows ([ab.z]))) (by repeat(first|exact az.nil|refine az.cons rfl (aR.dc (cl:=false) rfl aV) ?_|refine az.skip rfl ?_|refine az.cons rfl (yr j w) ?_|refine az.cons rfl (dK (cl:=false) rfl aV) ?_)) rfl rfl rfl rfl rfl zg rfl zi rfl rfl (ab.dJ _) rfl rfl (zo k) (yz ?_)
 obtain⟨x,q,j1h,g⟩:=bP g;refine yU zp (yr j1h q) ?_;refine yt (jR j w j1h q) ?_;refine sa (Int.toNat 1) 0 (ab.aM q) j w j1h q ?_;cases g;exact yj;refine aS g ?_ ?_<;>intro _ g;refine yf g (o.a.kp _ _ _) λy g=>?_;refine yo [0,1,2,3,4,5] [(6,.one)] [] ?_;refine yY g af.aM λx _ _ g=>?_;obtain⟨y,z,g⟩:=cq g (o.a.gJ _);refine yl (yC z) ?_;refine yk<|ao.fm (rs:=_) rfl (λ_=>az.nil) rfl rfl rfl rfl func222 rfl zk rfl ntmps222 rfl rfl (yz ?_)
 refine yo [] (tk [0,3,6,9,12,18,21,16,25,27,33,32,37]) [] ?_
 iterate 5 (refine yt zp ?_)
 refine yq g (o.a.cW _ _ _) zp λy g=>?_;obtain⟨k,g⟩:=cP g;refine yk<|ao.na 9 zp rfl rfl rfl rfl rfl rfl rfl rfl rfl rfl rfl rfl rfl (zo k) (yz ?_)
 obtain⟨x,w,j,g⟩:=bP g;refine yU zp (yr j w) ?_;refine yt (dy j w) ?_;refine jQ (Int.toNat 0) 0 (ab.aM w) j w ?_;cases g;exact yj;refine aS g ?_ ?_<;>intro _ g;refine yc g (o.a.iL _) λy g=>?_;refine yo [0,1,2,3,4,5,6] [(7,.one)] [] ?_;refine yY g af.aM λx _ _ g=>?_;refine yk<|ao.fm (rs:=_) rfl (λ_=>az.nil) rfl rfl rfl rfl func222 rfl zk rfl ntmps222 rfl rfl (yz ?_)
 refine yo [] (tk [0,3,6,9,12,18,21,16,25,27,33,32,37]) [] ?_
 iterate 5 (refine yt zp ?_)
 refine yq g (o.a.cW _ _ _) zp λy g=>?_;obtain⟨k,g⟩:=cP g;refine yk<|ao.na 8 zp rfl rfl rfl rfl rfl rfl rfl rfl rfl rfl rfl rfl rfl (zo k) (yz ?_)
 obtain⟨x,w,j,g⟩:=bP g;refine yU zp (yr j w) ?_;refine yt (dy j w) ?_;refine jQ (Int.toNat 0) 0 (ab.aM w) j w ?_;refine yo [0,1,2,3,4,5] [(6,.one)] [] ?_;refine yY g af.aM λx _ _ g=>?_;obtain⟨y,z,g⟩:=cq g (o.a.gJ _);refine yl (yC z) ?_;refine yk<|ao.fm (rs:=_) rfl (λ_=>az.nil) rfl rfl rfl rfl func222 rfl zk rfl ntmps222 rfl rfl (yz ?_)
 refine yo [] (tk [0,3,6,9,12,18,21,16,25,27,33,32,37]) [] ?_
 iterate 5 (refine yt (dy j w) ?_)
 refine yq g (o.a.cW _ _ _) (dy j w) λy g=>?_;obtain⟨k,g⟩:=cP g;refine yk<|ao.fV (rows2:=(ab.rows ([ab.z]))) (by repeat(first|exact az.nil|refine az.cons rfl (aR.dc (cl:=false) rfl aV) ?_|refine az.skip rfl ?_|refine az.cons rfl (yr j w) ?_|refine az.cons rfl (dK (cl:=false) rfl aV) ?_)) rfl rfl rfl rfl rfl zg rfl zi rfl rfl (ab.dJ _) rfl rfl (zo k) (yz ?_)
 obtain⟨x,q,j1h,g⟩:=bP g;refine yU zp (yr j1h q) ?_;refine yt (jR j w j1h q) ?_;refine sa (Int.toNat 1) 0 (ab.aM q) j w j1h q ?_;refine yo [0,1,2,3,4,5] [(6,.one)] [] ?_;refine yY g af.aM λx _ _ g=>?_;obtain⟨y,z,g⟩:=cq g (o.a.gJ _);refine yl (yC z) ?_;refine yk<|ao.fm (rs:=_) rfl (λ_=>az.nil) rfl rfl rfl rfl func222 rfl zk rfl ntmps222 rfl rfl (yz ?_)
 refine yo [] (tk [0,3,6,9,12,18,21,16,25,27,33,32,37]) [] ?_
 iterate 5 (refine yt (jR j w j1h q) ?_)
 refine yq g (o.a.cW _ _ _) (jR j w j1h q) λy g=>?_;obtain⟨k,g⟩:=cP g;refine yk<|ao.fV (rows2:=(ab.rows ([ab.z]))) (by repeat(first|exact az.nil|refine az.cons rfl (aR.dc (cl:=false) rfl aV) ?_|refine az.skip rfl ?_|refine az.cons rfl (yr j w) ?_|refine az.cons rfl (yr j1h q) ?_|refine az.cons rfl (dK (cl:=false) rfl aV) ?_)) rfl rfl rfl rfl rfl zg rfl zi rfl rfl (ab.dJ _) rfl rfl (zo k) (yz ?_)
 obtain⟨x,ex2,j2h,g⟩:=bP g;refine yU zp (yr j2h ex2) ?_;refine yt (Ms j w j1h q j2h ex2) ?_;refine yk<|ao.wm (Int.toNat 2) 0 (by repeat(first|exact az.nil|refine az.cons rfl (aR.dc (cl:=false) rfl aV) ?_|refine az.skip rfl ?_|refine az.cons rfl (yr j w) ?_|refine az.cons rfl (yr j1h q) ?_|refine az.cons rfl (yr j2h ex2) ?_|refine az.cons rfl (dK (cl:=false) rfl aV) ?_)) (by rfl) (by rfl) (by rfl) (by rfl) (by rfl) (by rfl) (by rfl) (by rfl) (by rfl) (by rfl) (yg (ab.aM ex2)) (by rfl) (by rfl) (by rfl) (by rfl) (by rfl) (by rfl) (by rfl) (by rfl) (by rfl) (by rfl) (by rfl) (by rfl) (by rfl) (by rfl) (by rfl) (by repeat(first|exact az.nil|refine az.cons rfl (aR.dc (cl:=false) rfl aV) ?_|refine az.skip rfl ?_|refine az.cons rfl (yr j w) ?_|refine az.cons rfl (yr j1h q) ?_|refine az.cons rfl (yr j2h ex2) ?_|refine az.cons rfl (dK (cl:=false) rfl aV) ?_)) (by repeat(first|exact az.nil|refine az.cons rfl (aR.dc (cl:=false) rfl aV) ?_|refine az.skip rfl ?_|refine az.cons rfl (yr j w) ?_|refine az.cons rfl (yr j1h q) ?_|refine az.cons rfl (yr j2h ex2) ?_|refine az.cons rfl (dK (cl:=false) rfl aV) ?_)) (yz ?_)
 cases g;exact yj;refine yp g (o.a.Lu _ _) λy g=>?_;cases g;exact zl
