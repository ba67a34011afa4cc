/- Printed by a program: what functions answer, and that they do. -/
import Derived.Test.YtnocmolegijmkaaGreatKG6
set_option linter.all false
set_option maxRecDepth 100000
noncomputable section
namespace Go.Proofs.YtnocmolegijmkaaGreat
open Go Go.Bw Go.Proofs.Tryz
section
variable {n:Nat} (o:Of n)
include o
theorem w48:Y' (CH (Gf n)):=by
 intro a0 a1 r g;rw[CH]at g;refine yw func48 ntmps48 ?_
 iterate 2 (refine aR g λ_ g=>?_)
 refine yk<|yL (S:=Int×Int) (G:=λm s=>rX (Gf m) a0 s.1 s.2) (s0:=(IntKind.i64.wrap (a1-1),0)) 1 [2,4] [1,5] (λs=>[(1,dI s.1),(5,dI s.2)]) (λs=>[]) g ?_;rintro n ⟨s3,s4⟩ _ g;change vD (Gf n) a0 s3 s4=_ at g;rw[vD]at g;refine yz ?_
 iterate 2 (refine bw g λ_ g=>?_)
 refine yX g ab.aF λx _ _ g=>?_;refine yc g (o.a.Za _ _) λy g=>?_;exact aZ (_,_) n g
theorem w23:Zb (CI (Gf n)):=by
 intro a0 a1 r g;rw[CI]at g;refine yw func23 ntmps23 ?_;refine yc g (o.a.Za _ _) λy g=>?_;cases g;exact zl
theorem w49:Zc (CJ (Gf n)):=by
 intro a0 a1 r g;rw[CJ]at g;refine yw func49 ntmps49 ?_
 iterate 2 (refine aR g λ_ g=>?_)
 refine yk<|yL (S:=Int×Int×Int) (G:=λm s=>rY (Gf m) a0 s.1 s.2.1 s.2.2) (s0:=(IntKind.i64.wrap (a1-IntKind.i64.wrap (1+(↑(aG a0.Names).length:Int))),0,0)) 1 [2] [1,4,5] (λs=>[(1,dI s.1),(4,dI s.2.1),(5,dI s.2.2)]) (λs=>[]) g ?_;rintro n ⟨s3,s4,s5⟩ _ g;change vF (Gf n) a0 s3 s4 s5=_ at g;rw[vF]at g;refine yz ?_
 apply aA g<;>intro _ g
 iterate 2 (refine aR g λ_ g=>?_;refine yX g az.aF λx _ _ g=>?_)
 exact aZ (_,_,_) n g;refine yk<|yL (S:=Int×Int) (G:=λm s=>ql (Gf m) a0 s.1 s.2) (s0:=(s3,0)) 1 [2,4,5] [1,6] (λs=>[(1,dI s.1),(6,dI s.2)]) (λs=>[]) g ?_;rintro n ⟨s13,s14⟩ _ g;change vE (Gf n) a0 s13 s14=_ at g;rw[vE]at g;refine yz ?_
 refine bw g λ_ g=>?_;refine yX g af.aF λx _ _ g=>?_;refine yc g (o.a.Zd _ _) λy g=>?_;refine aR g λ_ g=>?_;exact aZ (_,_) n g
theorem w24:Ze (CK (Gf n)):=by
 intro a0 a1 r g;rw[CK]at g;refine yw func24 ntmps24 ?_;refine yc g (o.a.Zd _ _) λy g=>?_;cases g;exact zl
theorem w8:C8 (B8 (Gf n)):=by
 intro a0 a1 a2 r g;rw[B8]at g;refine yw func8 ntmps8 ?_;refine yc g (o.a.c23 _ _) λy g=>?_;refine aR g λ_ g=>?_;refine yc g (o.a.c24 _ _) λy g=>?_
 iterate 3 (refine aR g λ_ g=>?_)
 refine yk<|yL (S:=Int) (G:=λm s=>sC (Gf m) a2 s) (s0:=0) 2 [2,6] [7] (λs=>[(7,dI s)]) (λs=>[]) g ?_;rintro n s7 _ g;change wC (Gf n) a2 s7=_ at g;rw[wC]at g;refine yz ?_
 refine bw g λ_ g=>?_;refine yX g bD.aF λx _ _ g=>?_;refine aR g λ_ g=>?_;exact aZ _ n g
theorem alg:W9 (BW (Gf n)):=by
 intro a0 a1 r g;rw[BW]at g;refine yw func160 ntmps160 ?_;exact dO g
set_option maxHeartbeats 0 in
theorem alh:Xa (xb (Gf n)):=by
 intro a0 r g;rw[xb]at g;refine yw func107 ntmps107 ?_
 iterate 2 (refine aA g (λk g=>?_) λ_ g=>?_;(iterate 4 (apply aA g<;>intro _ g;(iterate 2 (refine yF k ?_));refine yc g (o.a.jG _ _) λy g=>?_;cases g;exact zl));(iterate 2 (refine yF k ?_));apply aA g<;>intro _ g;(iterate 2 (refine yc g (o.a.jG _ _) λy g=>?_;cases g;exact zl)))
 iterate 2 (refine aA g (λk g=>?_) λ_ g=>?_;(iterate 3 (apply aA g<;>intro _ g;(iterate 2 (refine yF k ?_));refine yc g (o.a.jG _ _) λy g=>?_;cases g;exact zl));(iterate 2 (refine yF k ?_));refine yc g (o.a.jG _ _) λy g=>?_;cases g;exact zl)
 iterate 3 (refine aA g (λk g=>?_) λ_ g=>?_;(iterate 3 (apply aA g<;>intro _ g;(iterate 2 (refine yF k ?_));refine yc g (o.a.jG _ _) λy g=>?_;cases g;exact zl));(iterate 2 (refine yF k ?_));apply aA g<;>intro _ g;(iterate 2 (refine yc g (o.a.jG _ _) λy g=>?_;cases g;exact zl)))
 refine aA g (λk g=>?_) λ_ g=>?_
 iterate 4 (apply aA g<;>intro _ g;(iterate 2 (refine yF k ?_));refine yc g (o.a.jG _ _) λy g=>?_;cases g;exact zl)
 iterate 2 (refine yF k ?_)
 apply aA g<;>intro _ g
 iterate 2 (refine yc g (o.a.jG _ _) λy g=>?_;cases g;exact zl)
 refine aA g (λk g=>?_) λk g=>?_;refine yo [0,1,2,3,4] [] [] ?_
 iterate 3 (apply aA g<;>intro _ g;(refine Ok.lJ k ?_;conv=>(arg 3;whnf));refine yc g (o.a.jG _ _) λy g=>?_;cases g;exact zl)
 refine Ok.lJ k ?_;conv=>(arg 3;whnf)
 apply aA g<;>intro _ g
 iterate 2 (refine yc g (o.a.jG _ _) λy g=>?_;cases g;exact zl)
 refine bw g λl g=>?_
 iterate 2 (apply aA g<;>intro _ g;(refine Ok.lK k ?_;conv=>(arg 3;whnf));(refine Ok.lJ l ?_;conv=>(arg 3;whnf));refine yc g (o.a.jG _ _) λy g=>?_;cases g;exact zl)
 refine Ok.lK k ?_;conv=>(arg 3;whnf)
 refine Ok.lJ l ?_;conv=>(arg 3;whnf)
 apply aA g<;>intro _ g
 iterate 2 (refine yc g (o.a.jG _ _) λy g=>?_;cases g;exact zl)
theorem ali:Xb (BX (Gf n)):=by
 intro a0 r g;rw[BX]at g;refine yw func109 ntmps109 ?_
 iterate 2 ((iterate 2 (apply aA g<;>intro _ g));(iterate 2 (refine yc g (o.a.jG _ _) λy g=>?_;cases g;exact zl)))
 apply aA g<;>intro _ g
 iterate 2 (refine yc g (o.a.jG _ _) λy g=>?_;cases g;exact zl)
theorem alj:Xc (BY (Gf n)):=by
 intro a0 r g;rw[BY]at g;refine yw func113 ntmps113 ?_;apply aA g<;>intro _ g;refine aR g λ_ g=>?_
 iterate 2 (refine bw g λ_ g=>?_;exact dO g)
theorem w68:Zf (Db (Gf n)):=by
 intro a0 r g;rw[Db]at g;refine yw func68 ntmps68 ?_
 iterate 2 (refine aR g λ_ g=>?_)
 iterate 2 (obtain⟨x,w,j,g⟩:=cL g;refine yv (bE.toP (bE.UH ((0:Int).toNat) rfl rfl rfl rfl j w)) ?_;refine aR g λ_ g=>?_)
 refine yk<|yL (S:=Int) (G:=λm s=>Aw (Gf m) a0 s) (s0:=0) 0 [0,2,23] [24] (λs=>[(24,dI s)]) (λs=>[]) g ?_;rintro n s9 _ g;change vS (Gf n) a0 s9=_ at g;rw[vS]at g;refine yz ?_
 refine bw g λ_ g=>?_;obtain⟨x,w,j,g⟩:=cL g;refine yv (bE.toP (bE.UH ((s9:Int).toNat) rfl rfl rfl rfl j w)) ?_;refine yc g (o.a.amT _) λy g=>?_;refine aR g λ_ g=>?_;exact aZ _ n g
theorem w93:Zg (xD (Gf n)):=by
 intro a0 a1 r g;rw[xD]at g;refine yw func93 ntmps93 ?_;refine yk<|yL (S:=Int) (G:=λm s=>FH (Gf m) a0 a1 s) (s0:=0) 0 [0,1,4,7] [8] (λs=>[(8,dI s)]) (λs=>[]) g ?_;rintro n s1 _ g;change vT (Gf n) a0 a1 s1=_ at g;rw[vT]at g;refine yz ?_
 refine bw g λ_ g=>?_;refine yX g dJ λx _ _ g=>?_;refine aR g λ_ g=>?_;exact aZ _ n g
theorem alk:Xd (BZ (Gf n)):=by
 intro a0 a1 r g;rw[BZ]at g;refine yw func148 ntmps148 ?_;refine yc g (o.a.xI _ _) λy g=>?_;cases g;exact zl
theorem alm:Xe (xa (Gf n)):=by
 intro a0 r g;rw[xa]at g;refine yw func126 ntmps126 ?_;refine yk<|yL (S:=Int) (G:=λm s=>Ae (Gf m) a0 s) (s0:=1) 0 [0,2] [3] (λs=>[(3,dI s)]) (λs=>[]) g ?_;rintro n s1 _ g;change rR (Gf n) a0 s1=_ at g;rw[rR]at g;refine yz ?_
 refine bw g λ_ g=>?_;refine yo [0,1,2,3,4,5,6,7,8,9] [] [] ?_
 iterate 2 (refine yY g dJ λx _ _ g=>?_)
 refine aR g λ_ g=>?_;exact aZ _ n g
theorem aln:Xg (B0 (Gf n)):=by
 intro a0 a1 r g;rw[B0]at g;refine yw func140 ntmps140 ?_;refine yc g (o.a.M3 _ _) λy g=>?_;cases g;exact zl
theorem w92:Zh (xE (Gf n)):=by
 intro a0 a1 r g;rw[xE]at g;refine yw func92 ntmps92 ?_;refine yk<|yL (S:=Int) (G:=λm s=>si (Gf m) a0 a1 s) (s0:=0) 0 [1,4,7,8] [9] (λs=>[(9,dI s)]) (λs=>[]) g ?_;rintro n s1 _ g;change vU (Gf n) a0 a1 s1=_ at g;rw[vU]at g;refine yz ?_
 refine bw g λ_ g=>?_;refine yX g dJ λx _ _ g=>?_;refine yc g (o.a.xp _ _) λy g=>?_;refine aR g λ_ g=>?_;exact aZ _ n g
theorem alo:Xh (sV (Gf n)):=by
 intro a0 r g;rw[sV]at g;refine yw func110 ntmps110 ?_;refine yk<|yL (S:=Int×Int) (G:=λm s=>mQ (Gf m) a0 s.1 s.2) (s0:=(0,0)) 1 [1,8,9] [2,10] (λs=>[(2,dI s.1),(10,dI s.2)]) (λs=>[]) g ?_;rintro n ⟨s1,s2⟩ _ g;change p8 (Gf n) a0 s1 s2=_ at g;rw[p8]at g;refine yz ?_
 apply aA g<;>intro _ g;refine yX g dJ λx _ _ g=>?_;refine yc g (o.a.oF _) λy g=>?_;refine aR g λ_ g=>?_;apply aA g<;>intro _ g;obtain⟨x,w,g⟩:=cE g;refine yv (yQ gF w) ?_;refine yc g (o.a.M3 _ _) λy g=>?_;refine aR g λ_ g=>?_
 iterate 2 (exact aZ (_,_) n g)
 apply aA g<;>intro _ g;refine yc g (o.a.pj _) λy g=>?_;refine aR g λ_ g=>?_;refine yk<|yL (S:=Int) (G:=λm s=>Fb (Gf m) a0 s) (s0:=0) 1 [1,2,8,9,10,42,43] [44] (λs=>[(44,dI s)]) (λs=>[]) g ?_;rintro n s16 _ g;change Fc (Gf n) a0 s16=_ at g;rw[Fc]at g;refine yz ?_
 refine bw g λ_ g=>?_;refine yX g aX.aF λx _ _ g=>?_;refine aR g λ_ g=>?_;refine yc g (o.a.pj _) λy g=>?_;refine aR g λ_ g=>?_;refine yc g (o.a.Hq _ _) λy g=>?_;refine aR g λ_ g=>?_;refine yc g (o.a.xp _ _) λy g=>?_;refine aR g λ_ g=>?_;exact aZ _ n g;refine yk<|yL (S:=Int) (G:=λm s=>Fe (Gf m) a0 s) (s0:=0) 1 [1,2,8,9,10,42,43] [44] (λs=>[(44,dI s)]) (λs=>[]) g ?_;rintro n s27 _ g;change Ff (Gf n) a0 s27=_ at g;rw[Ff]at g;refine yz ?_
 refine bw g λ_ g=>?_;refine yX g aX.aF λx _ _ g=>?_;refine aR g λ_ g=>?_;refine yc g (o.a.pj _) λy g=>?_;refine aR g λ_ g=>?_;refine yc g (o.a.Hq _ _) λy g=>?_;refine aR g λ_ g=>?_;refine yc g (o.a.xp _ _) λy g=>?_;refine aR g λ_ g=>?_;exact aZ _ n g
theorem alp:Xi (xc (Gf n)):=by
 intro a0 r g;rw[xc]at g;refine yw func111 ntmps111 ?_
 iterate 4 (apply aA g<;>intro _ g;refine yc g (o.a.jG _ _) λy g=>?_;cases g;exact zl)
 refine yc g (o.a.jG _ _) λy g=>?_;cases g;exact zl
theorem alq:Xj (sW (Gf n)):=by
 intro a0 r g;rw[sW]at g;refine yw func161 ntmps161 ?_
 iterate 3 (refine aR g λ_ g=>?_)
 iterate 2 (refine bw g λ_ g=>?_)
 refine yX g ag.aF λx _ _ g=>?_;refine yc g (o.a.M4 _) λy g=>?_;refine bw g λ_ g=>?_;refine yX g ag.aF λx _ _ g=>?_;refine yc g (o.a.M4 _) λy g=>?_;cases g;exact zl
theorem alr:Xk (xd (Gf n)):=by
 intro a0 r g;rw[xd]at g;refine yw func112 ntmps112 ?_;apply aA g<;>intro _ g;refine yX g ag.aF λx _ _ g=>?_;refine yc g (o.a.M4 _) λy g=>?_
 iterate 2 (refine yc g (o.a.jG _ _) λy g=>?_;cases g;exact zl)
theorem als:Xl (sX (Gf n)):=by
 intro a0 r g;rw[sX]at g;refine yw func108 ntmps108 ?_;refine yk<|yL (S:=Int) (G:=λm s=>nV (Gf m) a0 s) (s0:=0) 0 [2,3,6,7] [8] (λs=>[(8,dI s)]) (λs=>[]) g ?_;rintro n s1 _ g;change p9 (Gf n) a0 s1=_ at g;rw[p9]at g;refine yz ?_
 refine bw g λ_ g=>?_;refine yX g Ec λx _ _ g=>?_;refine aR g λ_ g=>?_;exact aZ _ n g
/-(*plexus.lattice.checker).visit-/
theorem w67:Zi (xB (Gf n)):=by
 intro a0 a1 a2 r g;rw[xB]at g;refine kv.walk (E:=env) func67 rfl zk (rs:=_) rfl ntmps67 rfl (yz ?_)
 iterate 2 (refine aR g λ_ g=>?_)
 refine yc g (o.a.amU _) λy g=>?_;refine aR g λ_ g=>?_;refine yo [0,1,2,3,4,5,6,7,8,9,10] [] [] ?_;obtain⟨y,z,g⟩:=bz g (o.a.amV _);refine yl (yC z) ?_;obtain⟨y,z,g⟩:=bz g (o.a.amW _);refine yl (yC z) ?_;obtain⟨y,z,g⟩:=bz g (o.a.amX _);refine yl (yC z) ?_;obtain⟨y,z,g⟩:=bz g (o.a.amY _);refine yl (yC z) ?_;obtain⟨y,z,g⟩:=bz g (o.a.amZ _);refine yl (yC z) ?_;refine aR g λ_ g=>?_;refine yk<|yL (S:=Int×dU) (G:=λm s=>od (Gf m) a1 a2 s.1 s.2) (s0:=(0,{nodes:=IntKind.i64.wrap (a0.nodes+1):dU})) 2 [0,2,6,47,48] [49] (λs=>[(49,dI s.1)]) (λs=>[(0,.box ((dU.cs s.2).map .d))]) g ?_;rintro n ⟨s11,s12⟩ _ g;change qv (Gf n) a1 a2 s11 s12=_ at g;rw[qv]at g;refine yz ?_
 refine bw g λ_ g=>?_;refine yX g ag.aF λx _ _ g=>?_;obtain⟨y,z,g⟩:=bz g (o.a.Zj _ _ _);refine yk<|ao.na 0 z rfl rfl (by first|rfl|(simp only[je];rfl)) rfl (o9.box rfl zi) rfl (yz ?_)
 refine aR g λ_ g=>?_;exact aZ (_,_) n g
theorem w31:Zk (xC (Gf n)):=by
 intro a0 r g;rw[xC]at g;refine yw func31 ntmps31 ?_;obtain⟨y,z,g⟩:=bz g (o.a.Zj _ _ _);refine yk<|ao.na 1 z rfl rfl (by first|rfl|(simp only[je];rfl)) rfl (o9.box rfl zi) rfl (yz ?_)
 cases g;exact zl
theorem w70:Zl (C' (Gf n)):=by
 intro a0 a1 r g;rw[C']at g;refine yw func70 ntmps70 ?_;cases g;exact zl
theorem aem:Sc (uz (Gf n)):=by
 intro a0 a1 r g;rw[uz]at g;refine yw func114 ntmps114 ?_;refine yk<|yL (S:=Int) (G:=λm s=>D0 (Gf m) a0 a1 s) (s0:=0) 0 [0,1,4,7] [8] (λs=>[(8,dI s)]) (λs=>[]) g ?_;rintro n s1 _ g;change tK (Gf n) a0 a1 s1=_ at g;rw[tK]at g;refine yz ?_
 refine bw g λ_ g=>?_;refine yX g TParam.aF λx _ _ g=>?_;refine yc g (o.a.c70 _ _) λy g=>?_;refine aR g λ_ g=>?_;exact aZ _ n g
theorem afD:UB (Ad (Gf n)):=by
 intro a0 a1 r g;rw[Ad]at g;refine yw func69 ntmps69 ?_;refine yc g (o.a.aeu _ _) λy g=>?_;cases g;exact zl
theorem w32:Zm (Da (Gf n)):=by
 intro a0 r g;rw[Da]at g;refine yw func32 ntmps32 ?_
 iterate 2 (refine yc g (o.a.oF _) λy g=>?_;refine aR g λ_ g=>?_)
 iterate 3 (refine aR g λ_ g=>?_)
 refine yk<|yL (S:=Int) (G:=λm s=>sf (Gf m) a0 s) (s0:=0) 1 [1,2,32,33] [34] (λs=>[(34,dI s)]) (λs=>[]) g ?_;rintro n s8 _ g;change vR (Gf n) a0 s8=_ at g;rw[vR]at g;refine yz ?_
 refine bw g λ_ g=>?_;refine yX g TParam.aF λx _ _ g=>?_;refine yc g (o.a.oF _) λy g=>?_
 iterate 3 (refine aR g λ_ g=>?_)
 obtain⟨x,w,g⟩:=cE g;refine yv (yQ TParam.bh w) ?_;refine yc g (o.a.afE _ _) λy g=>?_;refine aR g λ_ g=>?_;exact aZ _ n g
theorem w71:Zn (C0 (Gf n)):=by
 intro a0 a1 r g;rw[C0]at g;refine yw func71 ntmps71 ?_;refine aR g λ_ g=>?_;refine aA g (λk g=>?_) λ_ g=>?_
 iterate 2 (apply aA g<;>intro _ g)
 refine yo [] (tk [0,3,6,10,12,16]) [] ?_
 iterate 4 (refine yt zp ?_)
 iterate 2 (cases g;exact yj;(iterate 4 (refine yF k ?_)))
 cases g;exact yj;refine aA g (λk g=>?_) λk g=>?_;refine aR g λ_ g=>?_;refine Ok.lJ k ?_;conv=>(arg 3;whnf)
 refine aR g λ_ g=>?_
 iterate 2 (refine yF k ?_)
 cases g;exact yj;refine Ok.lK k ?_;conv=>(arg 3;whnf)
 refine aA g (λk g=>?_) λ_ g=>?_;refine yc g (o.a.oF _) λy g=>?_;apply aA g<;>intro _ g;refine yo [] (tk [0,3,6,10,12,16]) [] ?_
 iterate 4 (refine yt zp ?_)
 cases g;exact yj;refine yF k ?_;cases g;exact yj
 iterate 3 (refine bw g λ_ g=>?_)
 refine yo [] (tk [0,3,6,9,12,15,18,22,24,28]) [] ?_;obtain⟨x,w,j,g⟩:=cL g;refine yu zp (yi j (TParam.aF w)) ?_
 iterate 6 (refine yt zp ?_)
 cases g;exact yj
theorem w72:Zo (C1 (Gf n)):=by
 intro a0 r g;rw[C1]at g;refine yw func72 ntmps72 ?_
 iterate 15 (refine aR g λ_ g=>?_)
 exact dO g
theorem w73:Zp (C2 (Gf n)):=by
 intro a0 r g;rw[C2]at g;refine yw func73 ntmps73 ?_
 iterate 16 (refine aR g λ_ g=>?_)
 exact dO g
theorem w33:Zq (C3 (Gf n)):=by
 intro a0 a1 r g;rw[C3]at g;refine yw func33 ntmps33 ?_;refine yc g (o.a.c71 _ _) λy g=>?_;refine aR g λ_ g=>?_;refine Ok.stuck aW ?_;refine ao.gS 3 4 71 5 4 rfl rfl rfl ?_;refine yL (S:=Bool×Int×(List aI)) (G:=λm s=>se (Gf m) a0 a1 s.1 s.2.1 s.2.2) (s0:=(false,0,[])) 5 [0,3,4,8,30,31] [5,32] (λs=>[(5,.d (.v (.bool s.1))),(32,dI s.2.1)]) (λs=>[(4,.row 71 5 (aI.rows s.2.2)),(3,.box [dI 0,.d (.v (.string ⟨⟨([])⟩⟩)),dI 0,dI a1.At,.os 4 (aI.rows s.2.2).length])]) g ?_;rintro n ⟨s3,s4,s9⟩ _ g;change vQ (Gf n) a0 a1 s3 s4 s9=_ at g;rw[vQ]at g;refine yz ?_;apply aA g<;>intro _ g;refine yX g ab.aF λx _ _ g=>?_;refine yc g (o.a.Zr _ _) λy g=>?_;refine aR g λ_ g=>?_;refine yo [0,1,2,3,4] (tk [16,18,24,23,28]) [] ?_;obtain⟨k,g⟩:=bR g;refine yk<|ao.eM (rows2:=(aI.rows ([aI.z]))) aJ.nil rfl rfl rfl rfl rfl zg rfl zi rfl rfl (aI.cC _) rfl rfl (zo k) (yz ?_)
 obtain⟨x,w,j,g⟩:=cL g;refine yU zp (yr j w) ?_;refine yt (eL j w) ?_;refine lW ((↑(aI.rows s9).length:Int).toNat) 0 (aI.aF w) j w ?_;exact aZ (_,_,_) n g;refine yc g (o.a.c72 _) λy g=>?_;apply aA g<;>intro _ g;refine aR g λ_ g=>?_;refine bw g λ_ g=>?_;refine yX g ab.aF λx _ _ g=>?_
 iterate 2 (refine aR g λ_ g=>?_)
 refine yX g dJ λx _ _ g=>?_;cases g;exact zl;refine yc g (o.a.c73 _) λy g=>?_;apply aA g<;>intro _ g;refine yk<|ao.inl (rs:=_) rfl func74 rfl zk rfl ntmps74 rfl rfl (yz ?_)
 refine aR g λ_ g=>?_;refine Ok.stuck aW ?_;refine ao.kR 3 71 5 5 rfl rfl ?_;refine yL (S:=(List aI)×Int) (G:=λm s=>qu (Gf m) a1 s9 y s.1 s.2) (s0:=([],0)) 6 [0,2,5,8] [3,4] (λs=>[(3,.os 5 (aI.rows s.1).length),(4,dI s.2)]) (λs=>[(5,.row 71 5 (aI.rows s.1))]) g ?_;rintro n ⟨s31,s32⟩ _ g;change vO (Gf n) a1 s9 y s31 s32=_ at g;rw[vO]at g;refine yz ?_;refine bw g λ_ g=>?_;refine yo [0,1,2,3,4,5,6,7,8,9,10,11,12,13,14,15,16,17,18] (tk [58,60]) [] ?_;obtain⟨x,w,j,g⟩:=cL g;refine yl (yr j w) ?_;refine yl (ym s32.toNat 0 (aI.aF w)) ?_;obtain⟨t,w,j,g⟩:=cL g;refine yl (yr j w) ?_;refine yl (ym ((IntKind.i64.wrap (s32+1)).toNat) 0 (aI.aF w)) ?_;obtain⟨k,g⟩:=bR g;refine yk<|ao.eM (rows2:=(aI.rows ([{Kind:=52,Text:=[],N:=0,At:=0,Kids:=[x,t]:aI}]))) aJ.nil rfl rfl rfl rfl rfl zg rfl zi rfl rfl (aI.cC _) rfl rfl (zo k) (yz ?_)
 exact aZ (_,_) n g;apply aA g<;>intro _ g;refine yk<|ao.inl (rs:=_) rfl func75 rfl zk rfl ntmps75 rfl rfl (yz ?_)
 refine aR g λ_ g=>?_;refine Ok.stuck aW ?_;refine ao.kR 6 71 5 6 rfl rfl ?_;refine yL (S:=(List aI)×Int) (G:=λm s=>mW (Gf m) a1 s9 y s.1 s.2) (s0:=([],0)) 7 [0,3,4,5,17,24,25] [6,26] (λs=>[(6,.os 6 (aI.rows s.1).length),(26,dI s.2)]) (λs=>[(6,.row 71 5 (aI.rows s.1))]) g ?_;rintro n ⟨s41,s42⟩ _ g;change vP (Gf n) a1 s9 y s41 s42=_ at g;rw[vP]at g;refine yz ?_;refine bw g λ_ g=>?_;obtain⟨x,w,j,g⟩:=cL g;refine yv (yr j w) ?_;refine yv (ym s42.toNat 0 (aI.aF w)) ?_;refine yo [0,1,2,3,4,5,6,7,8,9,10,11] [] [] ?_
 iterate 2 (apply aA g<;>intro _ g;refine yo [0,1,2,3,4,5,6,7,8] (tk [28,30]) [] ?_;refine yY g dJ λt _ _ g=>?_;obtain⟨k,g⟩:=bR g;refine yk<|ao.eM (rows2:=(aI.rows ([{Kind:=52,Text:=t,N:=0,At:=0,Kids:=[x]:aI}]))) aJ.nil rfl rfl rfl rfl rfl zg rfl zi rfl rfl (aI.cC _) rfl rfl (zo k) (yz ?_);exact aZ (_,_) n g)
 exact aZ (_,_) n g;refine yo [] (tk [0,3,6,9,13,15]) [] ?_
 iterate 6 (refine yt zp ?_)
 cases g;exact zl
theorem w79:Zs (G1 (Gf n)):=by
 intro a0 r g;rw[G1]at g;refine yw func79 ntmps79 ?_;cases g;exact zl
theorem w80:Zt (G2 (Gf n)):=by
 intro a0 r g;rw[G2]at g;refine yw func80 ntmps80 ?_;cases g;exact yj
theorem w35:Zu (C6 (Gf n)):=by
 intro a0 a1 r g;rw[C6]at g;refine yw func35 ntmps35 ?_;apply aA g<;>intro _ g;refine yc g (o.a.kH _) λy g=>?_;cases g;exact zl;refine yc g (o.a.jN _) λy g=>?_;cases g;exact zl
/-(*plexus.types.elaborator).any$1-/
theorem alu:Xm (BM (Gf n)):=by
 intro a0 a1 r g;rw[BM]at g;refine yw func162 ntmps162 ?_;cases g;exact zl
theorem acZ:Q2 (uf (Gf n)):=by
 intro a0 a1 r g;rw[uf]at g;refine yw func114 ntmps114 ?_;refine yk<|yL (S:=Int) (G:=λm s=>DU (Gf m) a0 a1 s) (s0:=0) 0 [0,1,4,7] [8] (λs=>[(8,dI s)]) (λs=>[]) g ?_;rintro n s1 _ g;change tE (Gf n) a0 a1 s1=_ at g;rw[tE]at g;refine yz ?_
 refine bw g λ_ g=>?_;refine yX g TParam.aF λx _ _ g=>?_;refine yc g (o.a.am0 _ _) λy g=>?_;refine aR g λ_ g=>?_;exact aZ _ n g
theorem alv:Xn (BK (Gf n)):=by
 intro a0 a1 r g;rw[BK]at g;refine yw func119 ntmps119 ?_;refine Ok.fin aW ?_;obtain rfl:=pC g;exact RD.AB rfl aW rfl zi
theorem alw:Xo (BS (Gf n)):=by
 intro a0 r g;rw[BS]at g;refine yw func118 ntmps118 ?_;exact dO g
theorem alx:Xp (B1 (Gf n)):=by
 intro a0 r g;rw[B1]at g;refine yw func219 ntmps219 ?_
 iterate 4 (refine aR g λ_ g=>?_)
 exact dO g
theorem aly:Xq (w7 (Gf n)):=by
 intro a0 a1 r g;rw[w7]at g;refine yw func260 ntmps260 ?_;refine yk<|yL (S:=Int) (G:=λm s=>Fg (Gf m) a0 a1 s) (s0:=0) 0 [0,1,4,7] [8] (λs=>[(8,dI s)]) (λs=>[]) g ?_;rintro n s1 _ g;change vi (Gf n) a0 a1 s1=_ at g;rw[vi]at g;refine yz ?_
 refine bw g λ_ g=>?_;refine yX g Ec λx _ _ g=>?_;refine aR g λ_ g=>?_;exact aZ _ n g
theorem alz:Xr (BL (Gf n)):=by
 intro a0 a1 r g;rw[BL]at g;refine yw func221 ntmps221 ?_;refine yc g (o.a.am1 _ _) λy g=>?_;cases g;exact zl
/-(*plexus.types.elaborator).call$1-/
theorem alA:Xs (B2 (Gf n)):=by
 intro a0 a1 a2 r g;rw[B2]at g;refine yw func220 ntmps220 ?_;apply aA g<;>intro _ g;exact yP g (o.a.gN _ _);refine yc g (o.a.M5 _ _) λy g=>?_;apply aA g<;>intro _ g;exact yP g (o.a.gN _ _);refine Ok.fin aW ?_;obtain rfl:=pC g;exact RD.su rfl rfl aW rfl (cz.refl _)
theorem alC:Xt (BP (Gf n)):=by
 intro a0 r g;rw[BP]at g;refine yw func129 ntmps129 ?_;refine Ok.stuck aW<|ao.jA 3 rfl ?_ ?_
 intro cap k;replace g:(some ([]))=some r:=(by have l:a0=[]:=DM.1 (by have k:=congrArg List.length k;simpa only[bN,l4]using k);subst l;simpa using g);refine yz ?_;refine yv (bE.toP (bE.mo (et:=9) rfl zk rfl rfl)) ?_;cases g;exact yj;intro ad n0 cap;refine yz ?_;refine yv (bE.toP (bE.mo (et:=9) rfl zk rfl rfl)) ?_;obtain⟨k,g⟩:=bR g;refine yk<|DO.sJ (rows2:=(aG a0)) rfl rfl zg rfl (cz.refl _) rfl rfl (Ig _) rfl rfl rfl (zo k) (yz ?_)
 cases g;exact zl
theorem aie:Wp (AN (Gf n)):=by
 intro a0 r g;rw[AN]at g;refine kX.walk (E:=env) func166 rfl zk (rs:=_) rfl ntmps166 rfl (yz ?_);refine Ok.stuck aW<|ao.jA 3 rfl ?_ ?_
 intro cap k;replace g:(some [])=some r:=(by have l:a0=[]:=DM.1 (by have k:=congrArg List.length k;simpa only[aX.aH,l4]using k);subst l;simpa using g);refine yz ?_;refine yv (bE.toP (bE.mo (et:=181) rfl zk rfl rfl)) ?_;refine Ok.fin aW ?_;obtain rfl:=pC g;exact RD.IN rfl rfl (by simp only[je]);intro ad n0 cap;refine yz ?_;refine yv (bE.toP (bE.mo (et:=181) rfl zk rfl rfl)) ?_;obtain⟨k,g⟩:=bR g;refine yk<|DO.sJ (rows2:=(aX.rows a0)) rfl rfl zg rfl (cz.refl _) rfl rfl (aX.cC _) rfl rfl rfl (zo k) (yz ?_)
 refine Ok.fin aW ?_;obtain rfl:=pC g;exact RD.Kp rfl rfl rfl rfl zi
theorem aif:Wq (AM (Gf n)):=by
 intro a0 r g;rw[AM]at g;refine kX.walk (E:=env) func167 rfl zk (rs:=_) rfl ntmps167 rfl (yz ?_);refine Ok.stuck aW<|ao.jA 3 rfl ?_ ?_
 intro cap k;replace g:(some [])=some r:=(by have l:a0=[]:=DM.1 (by have k:=congrArg List.length k;simpa only[ag.aH,l4]using k);subst l;simpa using g);refine yz ?_;refine yv (bE.toP (bE.mo (et:=26) rfl zk rfl rfl)) ?_;refine Ok.fin aW ?_;obtain rfl:=pC g;exact RD.IN rfl rfl (by simp only[je]);intro ad n0 cap;refine yz ?_;refine yv (bE.toP (bE.mo (et:=26) rfl zk rfl rfl)) ?_;obtain⟨k,g⟩:=bR g;refine yk<|DO.sJ (rows2:=(ag.rows a0)) rfl rfl zg rfl (cz.refl _) rfl rfl (ag.cC _) rfl rfl rfl (zo k) (yz ?_)
 refine Ok.fin aW ?_;obtain rfl:=pC g;exact RD.Kp rfl rfl rfl rfl zi
theorem alD:Xv (BR (Gf n)):=by
 intro a0 r g;rw[BR]at g;refine yw func117 ntmps117 ?_;refine yc g (o.a.xq _) λy g=>?_;obtain⟨v,z,g⟩:=bz g (o.a.aih _);refine yk<|ao.Ko z rfl rfl (by first|rfl|(simp only[je];rfl)) rfl (yz ?_)
 refine yk<|yL (S:=Int×(List aX)) (G:=λm s=>Ac (Gf m) a0 y v s.1 s.2) (s0:=(0,v)) 3 [1,2,15] [16] (λs=>[(16,dI s.1)]) (λs=>[(2,.row 181 2 (aX.rows s.2)),(0,.box [dI a0.Kind,dI a0.Lo,dI a0.Hi,.d (.sl 1 (aG y)),.d (.sl 6 (ag.rows a0.ai)),.os 2 (aX.rows s.2).length])]) g ?_;rintro n ⟨s3,s9⟩ _ g;change vk (Gf n) a0 y v s3 s9=_ at g;rw[vk]at g;refine yz ?_
 apply aA g<;>intro _ g;refine yo [] (tk [0,3,6,9,12,15,18,21,24,28,30,33,37]) [] ?_
 iterate 4 (refine yt zp ?_)
 obtain⟨x,w,j,g⟩:=cL g;refine yU zp (yr j w) ?_;refine yt (eL j w) ?_;refine yU (eL j w) (ym s3.toNat 0 (aX.aF w)) ?_;refine yd g (o.a.xq _) (by repeat(first|exact aJ.nil|refine aJ.cons rfl (bl.eA (cl:=false) rfl aW) ?_|refine aJ.skip rfl ?_|refine aJ.cons rfl (yr j w) ?_|refine aJ.cons rfl (ym s3.toNat 0 (aX.aF w)) ?_|refine aJ.cons rfl (fb (cl:=false) rfl aW) ?_)) λv g=>?_;obtain⟨x,q,j1h,g⟩:=cL g;refine yU (by repeat(first|exact aJ.nil|refine aJ.cons rfl (bl.eA (cl:=false) rfl aW) ?_|refine aJ.skip rfl ?_|refine aJ.cons rfl (yr j w) ?_|refine aJ.cons rfl (ym s3.toNat 0 (aX.aF w)) ?_|refine aJ.cons rfl (fb (cl:=false) rfl aW) ?_)) (yr j1h q) ?_;refine yt (by repeat(first|exact aJ.nil|refine aJ.cons rfl (bl.eA (cl:=false) rfl aW) ?_|refine aJ.skip rfl ?_|refine aJ.cons rfl (yr j w) ?_|refine aJ.cons rfl (ym s3.toNat 0 (aX.aF w)) ?_|refine aJ.cons rfl (yr j1h q) ?_|refine aJ.cons rfl (fb (cl:=false) rfl aW) ?_)) ?_;refine yk<|ao.D4 s3.toNat 0 (by repeat(first|exact aJ.nil|refine aJ.cons rfl (bl.eA (cl:=false) rfl aW) ?_|refine aJ.skip rfl ?_|refine aJ.cons rfl (yr j w) ?_|refine aJ.cons rfl (ym s3.toNat 0 (aX.aF w)) ?_|refine aJ.cons rfl (yr j1h q) ?_|refine aJ.cons rfl (fb (cl:=false) rfl aW) ?_)) (by rfl) (by rfl) (by rfl) (by rfl) (by rfl) (by rfl) (by rfl) (by rfl) zg (by rfl) (yg (aX.aF q)) (by rfl) (by rfl) (by rfl) (by rfl) (yz ?_)
 refine yt (by repeat(first|exact aJ.nil|refine aJ.cons rfl (bl.eA (cl:=false) rfl aW) ?_|refine aJ.skip rfl ?_|refine aJ.cons rfl (yr j w) ?_|refine aJ.cons rfl (ym s3.toNat 0 (aX.aF w)) ?_|refine aJ.cons rfl (yr j1h q) ?_|refine aJ.cons rfl (fb (cl:=false) rfl aW) ?_)) ?_;exact aZ (_,_) n g;obtain⟨v,z,g⟩:=bz g (o.a.aii _);refine yk<|ao.Ko z rfl rfl (by first|rfl|(simp only[je];rfl)) rfl (yz ?_)
 refine yk<|yL (S:=Int×(List ag)×(List aX)) (G:=λm s=>Ab (Gf m) a0 y v s.1 s.2.1 s.2.2) (s0:=(0,v,s9)) 4 [1,2,15,16,38] [39] (λs=>[(39,dI s.1)]) (λs=>[(3,.row 26 6 (ag.rows s.2.1)),(2,.row 181 2 (aX.rows s.2.2)),(0,.box [dI a0.Kind,dI a0.Lo,dI a0.Hi,.d (.sl 1 (aG y)),.os 3 (ag.rows s.2.1).length,.os 2 (aX.rows s.2.2).length])]) g ?_;rintro n ⟨s17,s22,s23⟩ _ g;change vj (Gf n) a0 y v s17 s22 s23=_ at g;rw[vj]at g;refine yz ?_
 refine bw g λ_ g=>?_;refine yo [0,1,2,3,4,5,6,7,8,9] [(10,.one)] [] ?_;obtain⟨x,w,j,g⟩:=cL g;refine yl (yr j w) ?_;refine yl (ym s17.toNat 0 (ag.aF w)) ?_;obtain⟨y,z,g⟩:=bz g (o.a.M6 _);refine yl (yC z) ?_;obtain⟨x,w,j,g⟩:=cL g;refine yl (yr j w) ?_;refine yk<|ao.D4 s17.toNat 0 aJ.nil (by rfl) (by rfl) (by rfl) (by rfl) (by rfl) (by rfl) (by rfl) (by rfl) zg (by rfl) (yg (ag.aF w)) (by rfl) (by rfl) (by rfl) (by rfl) (yz ?_)
 exact aZ (_,_,_) n g
theorem alE:Xw (BO (Gf n)):=by
 intro a0 r g;rw[BO]at g;refine yw func262 ntmps262 ?_;refine aR g λ_ g=>?_;apply aA g<;>intro _ g
 iterate 6 (refine aR g λ_ g=>?_)
 exact dO g;apply aA g<;>intro _ g;refine yX g aI.aF λx _ _ g=>?_;refine yc g (o.a.GJ _) λy g=>?_;refine bw g λ_ g=>?_;refine yX g aI.aF λx _ _ g=>?_;refine yc g (o.a.GJ _) λy g=>?_;cases g;exact zl
 iterate 2 (refine bw g λ_ g=>?_;refine yX g aI.aF λx _ _ g=>?_;refine yc g (o.a.GJ _) λy g=>?_)
 cases g;exact zl
theorem alF:Xx (Gp (Gf n)):=by
 intro a0 a1 r g;rw[Gp]at g;refine yw func168 ntmps168 ?_;refine aR g λ_ g=>?_;refine yk<|yL (S:=Int) (G:=λm s=>Fh (Gf m) a0 a1 s) (s0:=0) 0 [0,1,4,12] [13] (λs=>[(13,dI s)]) (λs=>[]) g ?_;rintro n s2 _ g;change Fi (Gf n) a0 a1 s2=_ at g;rw[Fi]at g;refine yz ?_
 refine bw g λ_ g=>?_;refine yo [0,1,2,3,4,5,6,7,8] [] [] ?_
 iterate 2 (refine yY g dJ λx _ _ g=>?_)
 refine aR g λ_ g=>?_;exact aZ _ n g
theorem alG:Xy (BT (Gf n)):=by
 intro a0 a1 r g;rw[BT]at g;refine yw func170 ntmps170 ?_;refine bw g λ_ g=>?_;refine yc g (o.a.Xz _ _) λy g=>?_;cases g;exact zl
theorem aen:Sd (zH (Gf n)):=by
 intro a0 a1 r g;rw[zH]at g;refine yw func169 ntmps169 ?_;refine aR g λ_ g=>?_;refine yk<|yL (S:=Int) (G:=λm s=>tM (Gf m) a0 a1 s) (s0:=0) 0 [1,2,6,15,16] [17] (λs=>[(17,dI s)]) (λs=>[]) g ?_;rintro n s2 _ g;change tN (Gf n) a0 a1 s2=_ at g;rw[tN]at g;refine yz ?_
 refine bw g λ_ g=>?_
 iterate 2 (refine yX g aX.aF λx _ _ g=>?_)
 refine yc g (o.a.am2 _ _) λy g=>?_;refine aR g λ_ g=>?_;exact aZ _ n g
theorem alH:XA (BU (Gf n)):=by
 intro a0 a1 r g;rw[BU]at g;refine yw func120 ntmps120 ?_
 iterate 3 (refine bw g λ_ g=>?_)
 refine yc g (o.a.Xz _ _) λy g=>?_;refine bw g λ_ g=>?_;refine yc g (o.a.aev _ _) λy g=>?_;refine bw g λ_ g=>?_;refine yc g (o.a.aew _ _) λy g=>?_;cases g;exact zl
theorem aeo:Se (zI (Gf n)):=by
 intro a0 a1 r g;rw[zI]at g;refine yw func171 ntmps171 ?_;refine aR g λ_ g=>?_;refine yk<|yL (S:=Int) (G:=λm s=>tO (Gf m) a0 a1 s) (s0:=0) 0 [1,2,6,15,16] [17] (λs=>[(17,dI s)]) (λs=>[]) g ?_;rintro n s2 _ g;change tP (Gf n) a0 a1 s2=_ at g;rw[tP]at g;refine yz ?_
 refine bw g λ_ g=>?_
 iterate 2 (refine yX g ag.aF λx _ _ g=>?_)
 refine yc g (o.a.XB _ _) λy g=>?_;refine aR g λ_ g=>?_;exact aZ _ n g
theorem w81:Zv (C4 (Gf n)):=by
 intro a0 a1 r g;rw[C4]at g;refine yw func81 ntmps81 ?_;refine bw g λ_ g=>?_;refine yc g (o.a.XB _ _) λy g=>?_;cases g;exact zl
/-(*plexus.types.elaborator).expr-/
theorem w78:Zw (CZ (Gf n)):=by
 intro a0 a1 a2 r g;rw[CZ]at g;refine yw func78 ntmps78 ?_;refine yp g (o.a.am3 _ _ _) λy g=>?_;refine yc g (o.a.M6 _) λy g=>?_;refine yc g (o.a.GK _) λy g=>?_;refine bw g λ_ g=>?_;refine yc g (o.a.Ov _ _) λy g=>?_;refine bw g λ_ g=>?_;exact yP g (o.a.gN _ _)
/-(*plexus.types.elaborator).any-/
theorem alI:XC (B3 (Gf n)):=by
 intro a0 a1 a2 r g;rw[B3]at g;refine yw func116 ntmps116 ?_
 iterate 3 (refine yc g (o.a.jN _) λy g=>?_)
 iterate 4 (refine aR g λ_ g=>?_)
 apply aA g<;>intro _ g;refine yc g (o.a.ac5 _ _) λy g=>?_;apply aA g<;>intro _ g;exact yP g (o.a.gN _ _);refine yX g TParam.aF λx _ _ g=>?_;refine yc g (o.a.jN _) λy g=>?_;cases g;exact yj;apply aA g<;>intro _ g;refine yc g (o.a.kH _) λy g=>?_;cases g;exact yj
 iterate 2 (apply aA g<;>intro _ g)
 exact yP g (o.a.gN _ _);refine yc g (o.a.GK _) λy g=>?_;refine bw g λ_ g=>?_;exact yP g (o.a.gN _ _)
 iterate 2 (apply aA g<;>intro _ g;refine yp g (o.a.Cs _ _ _ _ _ _) λy g=>?_;cases g;exact zl)
 apply aA g<;>intro _ g;refine yo [] (tk [0,3,6,9,12,15,18,22,24,27,31]) [] ?_
 iterate 3 (refine yt zp ?_)
 obtain⟨x,w,j,g⟩:=cL g;refine yu zp (yi j (aI.aF w)) ?_
 iterate 2 (refine yt zp ?_)
 refine yq g (o.a.ei _ _ _) zp λy g=>?_
 iterate 3 (refine yt zp ?_)
 cases g;exact yj
 iterate 2 (apply aA g<;>intro _ g;refine yp g (o.a.Cs _ _ _ _ _ _) λy g=>?_;cases g;exact zl)
 apply aA g<;>intro _ g;refine yo [0,1,2,3,4] (tk [16,19]) [] ?_;obtain⟨y,z,g⟩:=bz g (o.a.jN _);refine yl (yC z) ?_;refine yq g (o.a.Cs _ _ _ _ _ _) zp λy g=>?_
 iterate 2 (cases g;exact zl;apply aA g<;>intro _ g;refine yp g (o.a.Cs _ _ _ _ _ _) λy g=>?_)
 cases g;exact zl;apply aA g<;>intro _ g;refine yp g (o.a.am4 _ _ _) λy g=>?_;cases g;exact zl;refine yp g (o.a.am5 _ _ _) λy g=>?_;cases g;exact zl
/-(*plexus.types.elaborator).pair-/
theorem alJ:XD (BE (Gf n)):=by
 intro a0 a1 a2 a3 a4 a5 r g;rw[BE]at g;refine yw func163 ntmps163 ?_
 iterate 2 (refine yo [] (tk [0,3,6,9,12,15,19,25]) [7] ?_;obtain⟨x,w,j,g⟩:=cL g;refine yu zp (yi j (aI.aF w)) ?_;(iterate 2 (refine yt zp ?_));refine yq g (o.a.ei _ _ _) zp λy g=>?_;refine yt zp ?_)
 cases g;exact yj
/-(*plexus.types.elaborator).call-/
set_option maxHeartbeats 0 in
theorem alK:XE (B4 (Gf n)):=by
 intro a0 a1 a2 r g;rw[B4]at g;refine yw func164 ntmps164 ?_;refine yc g (o.a.am6 _) λy g=>?_
 iterate 2 (apply aA g<;>intro _ g)
 exact yP g (o.a.gN _ _)
 iterate 2 (apply aA g<;>intro _ g;refine yf g (o.a.mv _ _ _) λy g=>?_;refine yo [0,1,2,3,4,5] [(6,.one)] [] ?_;refine yY g aI.aF λx _ _ g=>?_;obtain⟨y,z,g⟩:=bz g (o.a.jN _);refine yl (yC z) ?_;refine yk<|ao.gW (rs:=_) rfl (λ_=>aJ.nil) rfl rfl rfl rfl func222 rfl zk rfl ntmps222 rfl rfl (yz ?_);refine yo [] (tk [0,3,6,9,12,18,21,16,25,27,33,32,37]) [] ?_;(iterate 5 (refine yt zp ?_));refine yq g (o.a.ei _ _ _) zp λy g=>?_;obtain⟨k,g⟩:=bR g;refine yk<|ao.pS 9 zp rfl rfl rfl rfl rfl rfl rfl rfl rfl rfl rfl rfl rfl (zo k) (yz ?_);obtain⟨x,w,j,g⟩:=cL g;refine yU zp (yr j w) ?_;refine yt (eL j w) ?_;refine lW (Int.toNat 0) 0 (ab.aF w) j w ?_;cases g;exact yj)
 apply aA g<;>intro _ g;refine yf g (o.a.mv _ _ _) λy g=>?_;refine Ok.stuck aW ?_;refine ao.gS 5 11 32 12 7 rfl rfl rfl ?_;refine yL (S:=Int×(List ab)) (G:=λm s=>Fp (Gf m) a0 a1 a2 s.1 s.2) (s0:=(0,[])) 8 [6,10,11,76,77] [78] (λs=>[(78,dI s.1)]) (λs=>[(7,.row 32 12 (ab.rows s.2)),(5,.box [dI 23,dI a2.a6,dI a2.aD.Kind,dI a2.aD.Lo,dI a2.aD.Hi,.d (.sl 1 (aG a2.aD.Names)),.d (.sl 6 (ag.rows a2.aD.ai)),.d (.sl 2 (aX.rows a2.aD.bO)),dI 0,.d (.v (.string ⟨⟨([])⟩⟩)),dI 0,.os 7 (ab.rows s.2).length])]) g ?_;rintro n ⟨s25,s37⟩ _ g;change JU (Gf n) a0 a1 a2 s25 s37=_ at g;rw[JU]at g;refine yz ?_;refine bw g λ_ g=>?_;refine yX g aI.aF λx _ _ g=>?_;refine yk<|ao.inl (rs:=_) rfl func222 rfl zk rfl ntmps222 rfl rfl (yz ?_)
 refine yo [] (tk [0,3,6,9,12,18,21,16,25,27,33,32,37]) [] ?_
 iterate 5 (refine yt zp ?_)
 refine yq g (o.a.ei _ _ _) zp λy g=>?_;obtain⟨k,g⟩:=bR g;refine yk<|ao.eM (rows2:=(ab.rows ([ab.z]))) zp rfl rfl rfl rfl rfl zg rfl zi rfl rfl (ab.cC _) rfl rfl (zo k) (yz ?_)
 obtain⟨x,w,j,g⟩:=cL g;refine yU zp (yr j w) ?_;refine yt (eL j w) ?_;refine lW ((↑(ab.rows s37).length:Int).toNat) 0 (ab.aF w) j w ?_;obtain⟨x,w,j,g⟩:=cL g;refine yv (yr j w) ?_;refine yv (ym ((IntKind.i64.wrap ((↑(ab.rows s37++ab.rows [ab.z]).length:Int)-1)).toNat) 1 (ab.aF w)) ?_
 iterate 2 (apply aA g<;>intro _ g)
 exact yP g (o.a.gN _ _)
 iterate 2 (exact aZ (_,_) n g)
 apply aA g<;>intro _ g;refine yf g (o.a.mv _ _ _) λy g=>?_;refine Ok.stuck aW ?_;refine ao.gS 5 11 32 12 7 rfl rfl rfl ?_;refine yL (S:=Int×(List ab)) (G:=λm s=>JX (Gf m) a0 a1 a2 s.1 s.2) (s0:=(0,[])) 8 [6,9,10,11,114,115] [116] (λs=>[(116,dI s.1)]) (λs=>[(7,.row 32 12 (ab.rows s.2)),(5,.box [dI 24,dI a2.a6,dI a2.aD.Kind,dI a2.aD.Lo,dI a2.aD.Hi,.d (.sl 1 (aG a2.aD.Names)),.d (.sl 6 (ag.rows a2.aD.ai)),.d (.sl 2 (aX.rows a2.aD.bO)),dI 0,.d (.v (.string ⟨⟨([])⟩⟩)),dI 0,.os 7 (ab.rows s.2).length])]) g ?_;rintro n ⟨s52,s64⟩ _ g;change JV (Gf n) a0 a1 a2 s52 s64=_ at g;rw[JV]at g;refine yz ?_;refine bw g λ_ g=>?_;refine yX g aI.aF λx _ _ g=>?_;refine yo [0,1,2,3,4,5] [(6,.one)] [] ?_;refine yY g aI.aF λx _ _ g=>?_;obtain⟨y,z,g⟩:=bz g (o.a.jN _);refine yl (yC z) ?_;refine yk<|ao.gW (rs:=_) rfl (λ_=>aJ.nil) rfl rfl rfl rfl func222 rfl zk rfl ntmps222 rfl rfl (yz ?_)
 refine yo [] (tk [0,3,6,9,12,18,21,16,25,27,33,32,37]) [] ?_
 iterate 5 (refine yt zp ?_)
 refine yq g (o.a.ei _ _ _) zp λy g=>?_;obtain⟨k,g⟩:=bR g;refine yk<|ao.eM (rows2:=(ab.rows ([ab.z]))) zp rfl rfl rfl rfl rfl zg rfl zi rfl rfl (ab.cC _) rfl rfl (zo k) (yz ?_)
 obtain⟨x,w,j,g⟩:=cL g;refine yU zp (yr j w) ?_;refine yt (eL j w) ?_;refine lW ((↑(ab.rows s64).length:Int).toNat) 0 (ab.aF w) j w ?_;refine yo [0,1,2,3,4,5,6,7,8,9] [(10,.one)] [] ?_;refine yY g aI.aF λx _ _ g=>?_;refine yY g ag.aF λx _ _ g=>?_;obtain⟨y,z,g⟩:=bz g (o.a.kH _);refine yl (yC z) ?_;refine yk<|ao.gW (rs:=_) rfl (λ_=>aJ.nil) rfl rfl rfl rfl func222 rfl zk rfl ntmps222 rfl rfl (yz ?_)
 refine yo [] (tk [0,3,6,9,12,18,21,16,25,27,33,32,37]) [] ?_
 iterate 5 (refine yt (eL j w) ?_)
 refine yq g (o.a.ei _ _ _) (eL j w) λy g=>?_;obtain⟨k,g⟩:=bR g;refine yk<|ao.eM (rows2:=(ab.rows ([ab.z]))) (by repeat(first|exact aJ.nil|refine aJ.cons rfl (bl.eA (cl:=false) rfl aW) ?_|refine aJ.skip rfl ?_|refine aJ.cons rfl (yr j w) ?_|refine aJ.cons rfl (fb (cl:=false) rfl aW) ?_)) rfl rfl rfl rfl rfl zg rfl zi rfl rfl (ab.cC _) rfl rfl (zo k) (yz ?_)
 obtain⟨x,q,j1h,g⟩:=cL g;refine yU zp (yr j1h q) ?_;refine yt (lV j w j1h q) ?_;refine xG ((↑(ab.rows s64++ab.rows [ab.z]).length:Int).toNat) 0 (ab.aF q) j w j1h q ?_;exact aZ (_,_) n g;apply aA g<;>intro _ g;refine yf g (o.a.mv _ _ _) λy g=>?_;refine yp g (o.a.XF _ _ _) λy g=>?_;cases g;exact zl;apply aA g<;>intro _ g;refine yf g (o.a.mv _ _ _) λy g=>?_;refine yo [0,1,2,3,4,5,6,7,8,9] [(10,.one)] [] ?_;refine yY g aI.aF λx _ _ g=>?_;refine yY g ag.aF λx _ _ g=>?_;obtain⟨y,z,g⟩:=bz g (o.a.kH _);refine yl (yC z) ?_;refine yk<|ao.gW (rs:=_) rfl (λ_=>aJ.nil) rfl rfl rfl rfl func222 rfl zk rfl ntmps222 rfl rfl (yz ?_)
 refine yo [] (tk [0,3,6,9,12,18,21,16,25,27,33,32,37]) [] ?_
 iterate 5 (refine yt zp ?_)
 refine yq g (o.a.ei _ _ _) zp λy g=>?_;obtain⟨k,g⟩:=bR g;refine yk<|ao.pS 9 zp rfl rfl rfl rfl rfl rfl rfl rfl rfl rfl rfl rfl rfl (zo k) (yz ?_)
 obtain⟨x,w,j,g⟩:=cL g;refine yU zp (yr j w) ?_;refine yt (eL j w) ?_;refine lW (Int.toNat 0) 0 (ab.aF w) j w ?_;refine yo [0,1,2,3,4,5,6,7,8,9] [(10,.one)] [] ?_;refine yY g aI.aF λx _ _ g=>?_;refine yY g ag.aF λx _ _ g=>?_;obtain⟨y,z,g⟩:=bz g (o.a.kH _);refine yl (yC z) ?_;refine yk<|ao.gW (rs:=_) rfl (λ_=>aJ.nil) rfl rfl rfl rfl func222 rfl zk rfl ntmps222 rfl rfl (yz ?_)
 refine yo [] (tk [0,3,6,9,12,18,21,16,25,27,33,32,37]) [] ?_
 iterate 5 (refine yt (eL j w) ?_)
 refine yq g (o.a.ei _ _ _) (eL j w) λy g=>?_;obtain⟨k,g⟩:=bR g;refine yk<|ao.eM (rows2:=(ab.rows ([ab.z]))) (by repeat(first|exact aJ.nil|refine aJ.cons rfl (bl.eA (cl:=false) rfl aW) ?_|refine aJ.skip rfl ?_|refine aJ.cons rfl (yr j w) ?_|refine aJ.cons rfl (fb (cl:=false) rfl aW) ?_)) rfl rfl rfl rfl rfl zg rfl zi rfl rfl (ab.cC _) rfl rfl (zo k) (yz ?_)
 obtain⟨x,q,j1h,g⟩:=cL g;refine yU zp (yr j1h q) ?_;refine yt (lV j w j1h q) ?_;refine xG (Int.toNat 1) 0 (ab.aF q) j w j1h q ?_;cases g;exact yj;apply aA g<;>intro _ g;refine yf g (o.a.mv _ _ _) λy g=>?_;refine yo [0,1,2,3,4,5] [(6,.one)] [] ?_;refine yY g aI.aF λx _ _ g=>?_;obtain⟨y,z,g⟩:=bz g (o.a.jN _);refine yl (yC z) ?_;refine yk<|ao.gW (rs:=_) rfl (λ_=>aJ.nil) rfl rfl rfl rfl func222 rfl zk rfl ntmps222 rfl rfl (yz ?_)
 refine yo [] (tk [0,3,6,9,12,18,21,16,25,27,33,32,37]) [] ?_
 iterate 5 (refine yt zp ?_)
 refine yq g (o.a.ei _ _ _) zp λy g=>?_;obtain⟨k,g⟩:=bR g;refine yk<|ao.pS 9 zp rfl rfl rfl rfl rfl rfl rfl rfl rfl rfl rfl rfl rfl (zo k) (yz ?_)
 obtain⟨x,w,j,g⟩:=cL g;refine yU zp (yr j w) ?_;refine yt (eL j w) ?_;refine lW (Int.toNat 0) 0 (ab.aF w) j w ?_;cases g;exact yj;apply aA g<;>intro _ g;refine yc g (o.a.kH _) λy g=>?_;refine yo [0,1,2,3,4,5,6] [(7,.one)] [] ?_;refine yY g aI.aF λx _ _ g=>?_;refine yk<|ao.gW (rs:=_) rfl (λ_=>aJ.nil) rfl rfl rfl rfl func222 rfl zk rfl ntmps222 rfl rfl (yz ?_)
 refine yo [] (tk [0,3,6,9,12,18,21,16,25,27,33,32,37]) [] ?_
 iterate 5 (refine yt zp ?_)
 refine yq g (o.a.ei _ _ _) zp λy g=>?_;obtain⟨k,g⟩:=bR g;refine yk<|ao.pS 8 zp rfl rfl rfl rfl rfl rfl rfl rfl rfl rfl rfl rfl rfl (zo k) (yz ?_)
 obtain⟨x,w,j,g⟩:=cL g;refine yU zp (yr j w) ?_;refine yt (eL j w) ?_;refine lW (Int.toNat 0) 0 (ab.aF w) j w ?_;refine yo [0,1,2,3,4,5] [(6,.one)] [] ?_;refine yY g aI.aF λx _ _ g=>?_;obtain⟨y,z,g⟩:=bz g (o.a.jN _);refine yl (yC z) ?_;refine yk<|ao.gW (rs:=_) rfl (λ_=>aJ.nil) rfl rfl rfl rfl func222 rfl zk rfl ntmps222 rfl rfl (yz ?_)
 refine yo [] (tk [0,3,6,9,12,18,21,16,25,27,33,32,37]) [] ?_
 iterate 5 (refine yt (eL j w) ?_)
 refine yq g (o.a.ei _ _ _) (eL j w) λy g=>?_;obtain⟨k,g⟩:=bR g;refine yk<|ao.eM (rows2:=(ab.rows ([ab.z]))) (by repeat(first|exact aJ.nil|refine aJ.cons rfl (bl.eA (cl:=false) rfl aW) ?_|refine aJ.skip rfl ?_|refine aJ.cons rfl (yr j w) ?_|refine aJ.cons rfl (fb (cl:=false) rfl aW) ?_)) rfl rfl rfl rfl rfl zg rfl zi rfl rfl (ab.cC _) rfl rfl (zo k) (yz ?_)
 obtain⟨x,q,j1h,g⟩:=cL g;refine yU zp (yr j1h q) ?_;refine yt (lV j w j1h q) ?_;refine xG (Int.toNat 1) 0 (ab.aF q) j w j1h q ?_;refine yo [0,1,2,3,4,5] [(6,.one)] [] ?_;refine yY g aI.aF λx _ _ g=>?_;obtain⟨y,z,g⟩:=bz g (o.a.jN _);refine yl (yC z) ?_;refine yk<|ao.gW (rs:=_) rfl (λ_=>aJ.nil) rfl rfl rfl rfl func222 rfl zk rfl ntmps222 rfl rfl (yz ?_)
 refine yo [] (tk [0,3,6,9,12,18,21,16,25,27,33,32,37]) [] ?_
 iterate 5 (refine yt (lV j w j1h q) ?_)
 refine yq g (o.a.ei _ _ _) (lV j w j1h q) λy g=>?_;obtain⟨k,g⟩:=bR g;refine yk<|ao.eM (rows2:=(ab.rows ([ab.z]))) (by repeat(first|exact aJ.nil|refine aJ.cons rfl (bl.eA (cl:=false) rfl aW) ?_|refine aJ.skip rfl ?_|refine aJ.cons rfl (yr j w) ?_|refine aJ.cons rfl (yr j1h q) ?_|refine aJ.cons rfl (fb (cl:=false) rfl aW) ?_)) rfl rfl rfl rfl rfl zg rfl zi rfl rfl (ab.cC _) rfl rfl (zo k) (yz ?_)
 obtain⟨x,ex2,j2h,g⟩:=cL g;refine yU zp (yr j2h ex2) ?_;refine yt (Y9 j w j1h q j2h ex2) ?_;refine yk<|ao.Et (Int.toNat 2) 0 (by repeat(first|exact aJ.nil|refine aJ.cons rfl (bl.eA (cl:=false) rfl aW) ?_|refine aJ.skip rfl ?_|refine aJ.cons rfl (yr j w) ?_|refine aJ.cons rfl (yr j1h q) ?_|refine aJ.cons rfl (yr j2h ex2) ?_|refine aJ.cons rfl (fb (cl:=false) rfl aW) ?_)) (by rfl) (by rfl) (by rfl) (by rfl) (by rfl) (by rfl) (by rfl) (by rfl) (by rfl) (by rfl) (yg (ab.aF ex2)) (by rfl) (by rfl) (by rfl) (by rfl) (by rfl) (by rfl) (by rfl) (by rfl) (by rfl) (by rfl) (by rfl) (by rfl) (by rfl) (by rfl) (by rfl) (by repeat(first|exact aJ.nil|refine aJ.cons rfl (bl.eA (cl:=false) rfl aW) ?_|refine aJ.skip rfl ?_|refine aJ.cons rfl (yr j w) ?_|refine aJ.cons rfl (yr j1h q) ?_|refine aJ.cons rfl (yr j2h ex2) ?_|refine aJ.cons rfl (fb (cl:=false) rfl aW) ?_)) (by repeat(first|exact aJ.nil|refine aJ.cons rfl (bl.eA (cl:=false) rfl aW) ?_|refine aJ.skip rfl ?_|refine aJ.cons rfl (yr j w) ?_|refine aJ.cons rfl (yr j1h q) ?_|refine aJ.cons rfl (yr j2h ex2) ?_|refine aJ.cons rfl (fb (cl:=false) rfl aW) ?_)) (yz ?_)
 cases g;exact yj;refine yp g (o.a.XG _ _) λy g=>?_;cases g;exact zl
 iterate 2 (apply aA g<;>intro _ g;refine yf g (o.a.mv _ _ _) λy g=>?_;refine yo [0,1,2,3,4,5] [(6,.one)] [] ?_;refine yY g aI.aF λx _ _ g=>?_;obtain⟨y,z,g⟩:=bz g (o.a.jN _);refine yl (yC z) ?_;refine yk<|ao.gW (rs:=_) rfl (λ_=>aJ.nil) rfl rfl rfl rfl func222 rfl zk rfl ntmps222 rfl rfl (yz ?_);refine yo [] (tk [0,3,6,9,12,18,21,16,25,27,33,32,37]) [] ?_;(iterate 5 (refine yt zp ?_));refine yq g (o.a.ei _ _ _) zp λy g=>?_;obtain⟨k,g⟩:=bR g;refine yk<|ao.pS 9 zp rfl rfl rfl rfl rfl rfl rfl rfl rfl rfl rfl rfl rfl (zo k) (yz ?_);obtain⟨x,w,j,g⟩:=cL g;refine yU zp (yr j w) ?_;refine yt (eL j w) ?_;refine lW (Int.toNat 0) 0 (ab.aF w) j w ?_;cases g;exact yj)
 apply aA g<;>intro _ g;refine yf g (o.a.mv _ _ _) λy g=>?_;refine Ok.stuck aW ?_;refine ao.gS 5 11 32 12 7 rfl rfl rfl ?_;refine yL (S:=Int×(List ab)) (G:=λm s=>nW (Gf m) a0 a1 a2 s.1 s.2) (s0:=(0,[])) 8 [6,10,11,76,77] [78] (λs=>[(78,dI s.1)]) (λs=>[(7,.row 32 12 (ab.rows s.2)),(5,.box [dI 23,dI a2.a6,dI a2.aD.Kind,dI a2.aD.Lo,dI a2.aD.Hi,.d (.sl 1 (aG a2.aD.Names)),.d (.sl 6 (ag.rows a2.aD.ai)),.d (.sl 2 (aX.rows a2.aD.bO)),dI 0,.d (.v (.string ⟨⟨([])⟩⟩)),dI 0,.os 7 (ab.rows s.2).length])]) g ?_;rintro n ⟨s159,s171⟩ _ g;change vl (Gf n) a0 a1 a2 s159 s171=_ at g;rw[vl]at g;refine yz ?_;refine bw g λ_ g=>?_;refine yX g aI.aF λx _ _ g=>?_;refine yk<|ao.inl (rs:=_) rfl func222 rfl zk rfl ntmps222 rfl rfl (yz ?_)
 refine yo [] (tk [0,3,6,9,12,18,21,16,25,27,33,32,37]) [] ?_
 iterate 5 (refine yt zp ?_)
 refine yq g (o.a.ei _ _ _) zp λy g=>?_;obtain⟨k,g⟩:=bR g;refine yk<|ao.eM (rows2:=(ab.rows ([ab.z]))) zp rfl rfl rfl rfl rfl zg rfl zi rfl rfl (ab.cC _) rfl rfl (zo k) (yz ?_)
 obtain⟨x,w,j,g⟩:=cL g;refine yU zp (yr j w) ?_;refine yt (eL j w) ?_;refine lW ((↑(ab.rows s171).length:Int).toNat) 0 (ab.aF w) j w ?_;obtain⟨x,w,j,g⟩:=cL g;refine yv (yr j w) ?_;refine yv (ym ((IntKind.i64.wrap ((↑(ab.rows s171++ab.rows [ab.z]).length:Int)-1)).toNat) 1 (ab.aF w)) ?_
 iterate 2 (apply aA g<;>intro _ g)
 exact yP g (o.a.gN _ _)
 iterate 2 (exact aZ (_,_) n g)
 apply aA g<;>intro _ g;refine yf g (o.a.mv _ _ _) λy g=>?_;refine Ok.stuck aW ?_;refine ao.gS 5 11 32 12 7 rfl rfl rfl ?_;refine yL (S:=Int×(List ab)) (G:=λm s=>qa (Gf m) a0 a1 a2 s.1 s.2) (s0:=(0,[])) 8 [6,9,10,11,114,115] [116] (λs=>[(116,dI s.1)]) (λs=>[(7,.row 32 12 (ab.rows s.2)),(5,.box [dI 24,dI a2.a6,dI a2.aD.Kind,dI a2.aD.Lo,dI a2.aD.Hi,.d (.sl 1 (aG a2.aD.Names)),.d (.sl 6 (ag.rows a2.aD.ai)),.d (.sl 2 (aX.rows a2.aD.bO)),dI 0,.d (.v (.string ⟨⟨([])⟩⟩)),dI 0,.os 7 (ab.rows s.2).length])]) g ?_;rintro n ⟨s186,s198⟩ _ g;change vm (Gf n) a0 a1 a2 s186 s198=_ at g;rw[vm]at g;refine yz ?_;refine bw g λ_ g=>?_;refine yX g aI.aF λx _ _ g=>?_;refine yo [0,1,2,3,4,5] [(6,.one)] [] ?_;refine yY g aI.aF λx _ _ g=>?_;obtain⟨y,z,g⟩:=bz g (o.a.jN _);refine yl (yC z) ?_;refine yk<|ao.gW (rs:=_) rfl (λ_=>aJ.nil) rfl rfl rfl rfl func222 rfl zk rfl ntmps222 rfl rfl (yz ?_)
 refine yo [] (tk [0,3,6,9,12,18,21,16,25,27,33,32,37]) [] ?_
 iterate 5 (refine yt zp ?_)
 refine yq g (o.a.ei _ _ _) zp λy g=>?_;obtain⟨k,g⟩:=bR g;refine yk<|ao.eM (rows2:=(ab.rows ([ab.z]))) zp rfl rfl rfl rfl rfl zg rfl zi rfl rfl (ab.cC _) rfl rfl (zo k) (yz ?_)
 obtain⟨x,w,j,g⟩:=cL g;refine yU zp (yr j w) ?_;refine yt (eL j w) ?_;refine lW ((↑(ab.rows s198).length:Int).toNat) 0 (ab.aF w) j w ?_;refine yo [0,1,2,3,4,5,6,7,8,9] [(10,.one)] [] ?_;refine yY g aI.aF λx _ _ g=>?_;refine yY g ag.aF λx _ _ g=>?_;obtain⟨y,z,g⟩:=bz g (o.a.kH _);refine yl (yC z) ?_;refine yk<|ao.gW (rs:=_) rfl (λ_=>aJ.nil) rfl rfl rfl rfl func222 rfl zk rfl ntmps222 rfl rfl (yz ?_)
 refine yo [] (tk [0,3,6,9,12,18,21,16,25,27,33,32,37]) [] ?_
 iterate 5 (refine yt (eL j w) ?_)
 refine yq g (o.a.ei _ _ _) (eL j w) λy g=>?_;obtain⟨k,g⟩:=bR g;refine yk<|ao.eM (rows2:=(ab.rows ([ab.z]))) (by repeat(first|exact aJ.nil|refine aJ.cons rfl (bl.eA (cl:=false) rfl aW) ?_|refine aJ.skip rfl ?_|refine aJ.cons rfl (yr j w) ?_|refine aJ.cons rfl (fb (cl:=false) rfl aW) ?_)) rfl rfl rfl rfl rfl zg rfl zi rfl rfl (ab.cC _) rfl rfl (zo k) (yz ?_)
 obtain⟨x,q,j1h,g⟩:=cL g;refine yU zp (yr j1h q) ?_;refine yt (lV j w j1h q) ?_;refine xG ((↑(ab.rows s198++ab.rows [ab.z]).length:Int).toNat) 0 (ab.aF q) j w j1h q ?_;exact aZ (_,_) n g;apply aA g<;>intro _ g;refine yf g (o.a.mv _ _ _) λy g=>?_;refine yp g (o.a.XF _ _ _) λy g=>?_;cases g;exact zl;apply aA g<;>intro _ g;refine yf g (o.a.mv _ _ _) λy g=>?_;refine yo [0,1,2,3,4,5,6,7,8,9] [(10,.one)] [] ?_;refine yY g aI.aF λx _ _ g=>?_;refine yY g ag.aF λx _ _ g=>?_;obtain⟨y,z,g⟩:=bz g (o.a.kH _);refine yl (yC z) ?_;refine yk<|ao.gW (rs:=_) rfl (λ_=>aJ.nil) rfl rfl rfl rfl func222 rfl zk rfl ntmps222 rfl rfl (yz ?_)
 refine yo [] (tk [0,3,6,9,12,18,21,16,25,27,33,32,37]) [] ?_
 iterate 5 (refine yt zp ?_)
 refine yq g (o.a.ei _ _ _) zp λy g=>?_;obtain⟨k,g⟩:=bR g;refine yk<|ao.pS 9 zp rfl rfl rfl rfl rfl rfl rfl rfl rfl rfl rfl rfl rfl (zo k) (yz ?_)
 obtain⟨x,w,j,g⟩:=cL g;refine yU zp (yr j w) ?_;refine yt (eL j w) ?_;refine lW (Int.toNat 0) 0 (ab.aF w) j w ?_;refine yo [0,1,2,3,4,5,6,7,8,9] [(10,.one)] [] ?_;refine yY g aI.aF λx _ _ g=>?_;refine yY g ag.aF λx _ _ g=>?_;obtain⟨y,z,g⟩:=bz g (o.a.kH _);refine yl (yC z) ?_;refine yk<|ao.gW (rs:=_) rfl (λ_=>aJ.nil) rfl rfl rfl rfl func222 rfl zk rfl ntmps222 rfl rfl (yz ?_)
 refine yo [] (tk [0,3,6,9,12,18,21,16,25,27,33,32,37]) [] ?_
 iterate 5 (refine yt (eL j w) ?_)
 refine yq g (o.a.ei _ _ _) (eL j w) λy g=>?_;obtain⟨k,g⟩:=bR g;refine yk<|ao.eM (rows2:=(ab.rows ([ab.z]))) (by repeat(first|exact aJ.nil|refine aJ.cons rfl (bl.eA (cl:=false) rfl aW) ?_|refine aJ.skip rfl ?_|refine aJ.cons rfl (yr j w) ?_|refine aJ.cons rfl (fb (cl:=false) rfl aW) ?_)) rfl rfl rfl rfl rfl zg rfl zi rfl rfl (ab.cC _) rfl rfl (zo k) (yz ?_)
 obtain⟨x,q,j1h,g⟩:=cL g;refine yU zp (yr j1h q) ?_;refine yt (lV j w j1h q) ?_;refine xG (Int.toNat 1) 0 (ab.aF q) j w j1h q ?_;cases g;exact yj;apply aA g<;>intro _ g;refine yf g (o.a.mv _ _ _) λy g=>?_;refine yo [0,1,2,3,4,5] [(6,.one)] [] ?_;refine yY g aI.aF λx _ _ g=>?_;obtain⟨y,z,g⟩:=bz g (o.a.jN _);refine yl (yC z) ?_;refine yk<|ao.gW (rs:=_) rfl (λ_=>aJ.nil) rfl rfl rfl rfl func222 rfl zk rfl ntmps222 rfl rfl (yz ?_)
 refine yo [] (tk [0,3,6,9,12,18,21,16,25,27,33,32,37]) [] ?_
 iterate 5 (refine yt zp ?_)
 refine yq g (o.a.ei _ _ _) zp λy g=>?_;obtain⟨k,g⟩:=bR g;refine yk<|ao.pS 9 zp rfl rfl rfl rfl rfl rfl rfl rfl rfl rfl rfl rfl rfl (zo k) (yz ?_)
 obtain⟨x,w,j,g⟩:=cL g;refine yU zp (yr j w) ?_;refine yt (eL j w) ?_;refine lW (Int.toNat 0) 0 (ab.aF w) j w ?_;cases g;exact yj;apply aA g<;>intro _ g;refine yc g (o.a.kH _) λy g=>?_;refine yo [0,1,2,3,4,5,6] [(7,.one)] [] ?_;refine yY g aI.aF λx _ _ g=>?_;refine yk<|ao.gW (rs:=_) rfl (λ_=>aJ.nil) rfl rfl rfl rfl func222 rfl zk rfl ntmps222 rfl rfl (yz ?_)
 refine yo [] (tk [0,3,6,9,12,18,21,16,25,27,33,32,37]) [] ?_
 iterate 5 (refine yt zp ?_)
 refine yq g (o.a.ei _ _ _) zp λy g=>?_;obtain⟨k,g⟩:=bR g;refine yk<|ao.pS 8 zp rfl rfl rfl rfl rfl rfl rfl rfl rfl rfl rfl rfl rfl (zo k) (yz ?_)
 obtain⟨x,w,j,g⟩:=cL g;refine yU zp (yr j w) ?_;refine yt (eL j w) ?_;refine lW (Int.toNat 0) 0 (ab.aF w) j w ?_;refine yo [0,1,2,3,4,5] [(6,.one)] [] ?_;refine yY g aI.aF λx _ _ g=>?_;obtain⟨y,z,g⟩:=bz g (o.a.jN _);refine yl (yC z) ?_;refine yk<|ao.gW (rs:=_) rfl (λ_=>aJ.nil) rfl rfl rfl rfl func222 rfl zk rfl ntmps222 rfl rfl (yz ?_)
 refine yo [] (tk [0,3,6,9,12,18,21,16,25,27,33,32,37]) [] ?_
 iterate 5 (refine yt (eL j w) ?_)
 refine yq g (o.a.ei _ _ _) (eL j w) λy g=>?_;obtain⟨k,g⟩:=bR g;refine yk<|ao.eM (rows2:=(ab.rows ([ab.z]))) (by repeat(first|exact aJ.nil|refine aJ.cons rfl (bl.eA (cl:=false) rfl aW) ?_|refine aJ.skip rfl ?_|refine aJ.cons rfl (yr j w) ?_|refine aJ.cons rfl (fb (cl:=false) rfl aW) ?_)) rfl rfl rfl rfl rfl zg rfl zi rfl rfl (ab.cC _) rfl rfl (zo k) (yz ?_)
 obtain⟨x,q,j1h,g⟩:=cL g;refine yU zp (yr j1h q) ?_;refine yt (lV j w j1h q) ?_;refine xG (Int.toNat 1) 0 (ab.aF q) j w j1h q ?_;refine yo [0,1,2,3,4,5] [(6,.one)] [] ?_;refine yY g aI.aF λx _ _ g=>?_;obtain⟨y,z,g⟩:=bz g (o.a.jN _);refine yl (yC z) ?_;refine yk<|ao.gW (rs:=_) rfl (λ_=>aJ.nil) rfl rfl rfl rfl func222 rfl zk rfl ntmps222 rfl rfl (yz ?_)
 refine yo [] (tk [0,3,6,9,12,18,21,16,25,27,33,32,37]) [] ?_
 iterate 5 (refine yt (lV j w j1h q) ?_)
 refine yq g (o.a.ei _ _ _) (lV j w j1h q) λy g=>?_;obtain⟨k,g⟩:=bR g;refine yk<|ao.eM (rows2:=(ab.rows ([ab.z]))) (by repeat(first|exact aJ.nil|refine aJ.cons rfl (bl.eA (cl:=false) rfl aW) ?_|refine aJ.skip rfl ?_|refine aJ.cons rfl (yr j w) ?_|refine aJ.cons rfl (yr j1h q) ?_|refine aJ.cons rfl (fb (cl:=false) rfl aW) ?_)) rfl rfl rfl rfl rfl zg rfl zi rfl rfl (ab.cC _) rfl rfl (zo k) (yz ?_)
 obtain⟨x,ex2,j2h,g⟩:=cL g;refine yU zp (yr j2h ex2) ?_;refine yt (Y9 j w j1h q j2h ex2) ?_;refine yk<|ao.Et (Int.toNat 2) 0 (by repeat(first|exact aJ.nil|refine aJ.cons rfl (bl.eA (cl:=false) rfl aW) ?_|refine aJ.skip rfl ?_|refine aJ.cons rfl (yr j w) ?_|refine aJ.cons rfl (yr j1h q) ?_|refine aJ.cons rfl (yr j2h ex2) ?_|refine aJ.cons rfl (fb (cl:=false) rfl aW) ?_)) (by rfl) (by rfl) (by rfl) (by rfl) (by rfl) (by rfl) (by rfl) (by rfl) (by rfl) (by rfl) (yg (ab.aF ex2)) (by rfl) (by rfl) (by rfl) (by rfl) (by rfl) (by rfl) (by rfl) (by rfl) (by rfl) (by rfl) (by rfl) (by rfl) (by rfl) (by rfl) (by rfl) (by repeat(first|exact aJ.nil|refine aJ.cons rfl (bl.eA (cl:=false) rfl aW) ?_|refine aJ.skip rfl ?_|refine aJ.cons rfl (yr j w) ?_|refine aJ.cons rfl (yr j1h q) ?_|refine aJ.cons rfl (yr j2h ex2) ?_|refine aJ.cons rfl (fb (cl:=false) rfl aW) ?_)) (by repeat(first|exact aJ.nil|refine aJ.cons rfl (bl.eA (cl:=false) rfl aW) ?_|refine aJ.skip rfl ?_|refine aJ.cons rfl (yr j w) ?_|refine aJ.cons rfl (yr j1h q) ?_|refine aJ.cons rfl (yr j2h ex2) ?_|refine aJ.cons rfl (fb (cl:=false) rfl aW) ?_)) (yz ?_)
 cases g;exact yj;refine yp g (o.a.XG _ _) λy g=>?_;cases g;exact zl
