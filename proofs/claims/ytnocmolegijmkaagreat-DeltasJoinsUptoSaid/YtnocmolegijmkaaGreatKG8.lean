/- Printed by a program: what functions answer, and that they do. -/
import Derived.Test.YtnocmolegijmkaaGreatKG6
set_option linter.all false
set_option maxRecDepth 100000
noncomputable section
namespace Go.Proofs.YtnocmolegijmkaaGreat
open Go Go.Bw Go.Proofs.Tryz
/-(*plexus.types.elaborator).record-/
section
variable {n:Nat} (o:Of n)
include o
theorem alM:XH (BJ (Gf n)):=by
 intro a0 a1 a2 r g;rw[BJ]at g;refine yw func223 ntmps223 ?_;obtain⟨m1,em1,g⟩:=cE g;obtain⟨hm1,bm1⟩:=D3 em1;refine yk<|ao.FO m1 (ab.rows (List.replicate m1 ab.z)) rfl hm1 rfl hm1 rfl rfl rfl rfl rfl (by omega) (by simp only[ab.bh,DN];exact eu.replicate zi _) rfl (yz ?_)
 obtain⟨m2,em2,g⟩:=cE g;obtain⟨hm2,bm2⟩:=D3 em2;refine yk<|ao.FO m2 (dA (List.replicate m2 false)) rfl hm2 rfl hm2 rfl rfl rfl rfl rfl (by omega) (by simp only[dA,DN];exact eu.replicate zi _) rfl (yz ?_)
 refine yk<|yL (S:=(List ab)×(List Bool)×Int) (G:=λm s=>rP (Gf m) a0 a1 a2 s.1 s.2.1 s.2.2) (s0:=(List.replicate m1 ab.z,List.replicate m2 false,0)) 4 [0,4,5,6,23,24] [7,8,25] (λs=>[(7,.os 2 (ab.rows s.1).length),(8,.os 3 (dA s.2.1).length),(25,dI s.2.2)]) (λs=>[(2,.row 32 12 (ab.rows s.1)),(3,.row 4 1 (dA s.2.1))]) g ?_;rintro n ⟨s3,s4,s5⟩ _ g;change vh (Gf n) a0 a1 a2 s3 s4 s5=_ at g;rw[vh]at g;refine yz ?_
 apply aA g<;>intro _ g;refine yX g aI.aF λx _ _ g=>?_;refine yc g (o.a.xI _ _) λy g=>?_;apply aA g<;>intro _ g;exact yP g (o.a.gN _ _);obtain⟨x,w,j,g⟩:=cL g;refine yv (yr j w) ?_;refine yv (ym y.toNat 0 (pM w)) ?_;apply aA g<;>intro _ g;exact yP g (o.a.gN _ _);refine yo [] (tk [0,3,6,9,12,15,18,21,24,27,30,33,36,39,42,46,48,52,54,58]) [] ?_;obtain⟨x,w,j,g⟩:=cL g;refine yu zp (yi j (aI.aF w)) ?_
 iterate 4 (refine yt zp ?_)
 obtain⟨x,w,j,g⟩:=cL g;refine yu zp (yi j (ag.aF w)) ?_;refine yt zp ?_;obtain⟨v,z,g⟩:=bz g (o.a.kH _);refine yu zp (bE.call z rfl rfl) ?_;refine yq g (o.a.ei _ _ _) zp λv g=>?_;obtain⟨x,w,j,g⟩:=cL g;refine yU zp (yr j w) ?_;refine yk<|ao.D4 y.toNat 0 (by repeat(first|exact aJ.nil|refine aJ.cons rfl (bl.eA (cl:=false) rfl aW) ?_|refine aJ.skip rfl ?_|refine aJ.cons rfl (yr j w) ?_|refine aJ.cons rfl (fb (cl:=false) rfl aW) ?_)) (by rfl) (by rfl) (by rfl) (by rfl) (by rfl) (by rfl) (by rfl) (by rfl) zg (by rfl) (yg (ab.aF w)) (by rfl) (by rfl) (by rfl) (by rfl) (yz ?_)
 obtain⟨x,q,j1h,g⟩:=cL g;refine yU zp (yr j1h q) ?_;refine yk<|ao.D4 y.toNat 0 (by repeat(first|exact aJ.nil|refine aJ.cons rfl (bl.eA (cl:=false) rfl aW) ?_|refine aJ.skip rfl ?_|refine aJ.cons rfl (yr j w) ?_|refine aJ.cons rfl (yr j1h q) ?_|refine aJ.cons rfl (fb (cl:=false) rfl aW) ?_)) (by rfl) (by rfl) (by rfl) (by rfl) (by rfl) (by rfl) (by rfl) (by rfl) zg (by rfl) (yg (pM q)) (by rfl) (by rfl) (by rfl) (by rfl) (yz ?_)
 exact aZ (_,_,_) n g;refine yk<|yL (S:=(List ab)×Int) (G:=λm s=>oW (Gf m) a1 a2 s4 s.1 s.2) (s0:=(s3,0)) 4 [0,4,5,6,8,23,24,25,65,66] [7,67] (λs=>[(7,.os 2 (ab.rows s.1).length),(67,dI s.2)]) (λs=>[(2,.row 32 12 (ab.rows s.1))]) g ?_;rintro n ⟨s26,s27⟩ _ g;change vg (Gf n) a1 a2 s4 s26 s27=_ at g;rw[vg]at g;refine yz ?_
 refine bw g λ_ g=>?_;refine yX g ag.aF λx _ _ g=>?_;obtain⟨x,w,j,g⟩:=cL g;refine yv (yr j w) ?_;refine yv (ym s27.toNat 0 (pM w)) ?_;apply aA g<;>intro _ g;refine yo [0,1,2,3,4,5,6,7,8] [(9,.one)] [] ?_;obtain⟨y,z,g⟩:=bz g (o.a.M6 _);refine yl (yC z) ?_;obtain⟨y,z,g⟩:=bz g (o.a.kH _);refine yl (yC z) ?_;obtain⟨x,w,j,g⟩:=cL g;refine yl (yr j w) ?_;refine yk<|ao.aa8 84 (.agg (ab.cs ({Op:=6,aO:=y,N:=0,Text:=[],At:=a1.At,Kids:=[]:ab}))) s27.toNat 0 aJ.nil (by rfl) (by rfl) (by rfl) (by rfl) (by rfl) (by rfl) zi (by rfl) (by rfl) (by rfl) zg (by rfl) (yg (ab.aF w)) (by rfl) (by rfl) (by rfl) (by rfl) (yz ?_)
 iterate 2 (exact aZ (_,_) n g)
/-(*plexus.types.elaborator).observer-/
theorem alN:XI (BI (Gf n)):=by
 intro a0 a1 r g;rw[BI]at g;refine yw func224 ntmps224 ?_;refine yX g aI.aF λx _ _ g=>?_
 iterate 3 (refine yc g (o.a.jN _) λy g=>?_)
 apply aA g<;>intro _ g;refine yp g (o.a.ei _ _ _) λy g=>?_;refine bw g λ_ g=>?_;apply aA g<;>intro _ g;exact yP g (o.a.gN _ _);refine yc g (o.a.M5 _ _) λy g=>?_;refine bw g λ_ g=>?_;exact yP g (o.a.gN _ _);apply aA g<;>intro _ g;refine yk<|ao.cT (t:=62) rfl rfl (gR rfl aW) (yz ?_)
 refine yk<|ao.cT (t:=60) rfl rfl aW (yz ?_)
 refine yp g (o.a.te _ _ _ _ _ _) λy g=>?_;refine yX g ab.aF λx _ _ g=>?_;refine yX g ag.aF λx _ _ g=>?_
 iterate 2 (refine bw g λ_ g=>?_)
 exact yP g (o.a.gN _ _);apply aA g<;>intro _ g;refine yk<|ao.cT (t:=88) rfl rfl (gR rfl aW) (yz ?_)
 refine yk<|ao.cT (t:=86) rfl rfl aW (yz ?_)
 refine yp g (o.a.te _ _ _ _ _ _) λy g=>?_;cases g;exact zl;apply aA g<;>intro _ g;refine yk<|ao.cT (t:=94) rfl rfl (gR rfl aW) (yz ?_)
 refine yk<|ao.cT (t:=92) rfl rfl aW (yz ?_)
 refine yp g (o.a.te _ _ _ _ _ _) λy g=>?_;cases g;exact zl;apply aA g<;>intro _ g;refine yk<|ao.cT (t:=100) rfl rfl (gR rfl aW) (yz ?_)
 refine yk<|ao.cT (t:=98) rfl rfl aW (yz ?_)
 refine yp g (o.a.te _ _ _ _ _ _) λy g=>?_;cases g;exact zl;apply aA g<;>intro _ g;refine yk<|ao.cT (t:=106) rfl rfl (gR rfl aW) (yz ?_)
 refine yk<|ao.cT (t:=104) rfl rfl aW (yz ?_)
 refine yp g (o.a.te _ _ _ _ _ _) λy g=>?_;cases g;exact zl;apply aA g<;>intro _ g;refine yk<|ao.cT (t:=112) rfl rfl (gR rfl aW) (yz ?_)
 refine yk<|ao.cT (t:=110) rfl rfl aW (yz ?_)
 refine yp g (o.a.te _ _ _ _ _ _) λy g=>?_;cases g;exact zl;apply aA g<;>intro _ g
 iterate 2 (refine yk<|ao.cT (t:=120) rfl rfl (gR rfl aW) (yz ?_);refine yk<|ao.cT (t:=117) rfl rfl aW (yz ?_);refine yp g (o.a.te _ _ _ _ _ _) λy g=>?_;refine yX g ab.aF λx _ _ g=>?_;refine yX g ag.aF λx _ _ g=>?_;refine yc g (o.a.kH _) λy g=>?_;cases g;exact zl)
/-(*plexus.types.elaborator).observer$1-/
theorem alO:XJ (BH (Gf n)):=by
 intro a0 a1 a2 a3 a4 a5 r g;rw[BH]at g;refine yw func261 ntmps261 ?_;refine yo [] (tk [0,3,6,9,12,15,19,21,24,28]) [] ?_
 iterate 4 (refine yt zp ?_)
 refine yq g (o.a.M7 _ _ _ _) zp λy g=>?_
 iterate 3 (refine yt zp ?_)
 cases g;exact yj
/-(*plexus.types.elaborator).operand-/
theorem alQ:XK (BG (Gf n)):=by
 intro a0 a1 a2 a3 r g;rw[BG]at g;refine yw func226 ntmps226 ?_;refine yp g (o.a.ei _ _ _) λy g=>?_;apply aA g<;>intro _ g;exact yP g (o.a.gN _ _);refine yc g (o.a.M5 _ _) λy g=>?_;refine bw g λ_ g=>?_;exact yP g (o.a.gN _ _)
/-(*plexus.types.elaborator).operator-/
set_option maxHeartbeats 0 in
theorem alR:XL (B6 (Gf n)):=by
 intro a0 a1 a2 r g;rw[B6]at g;refine yw func165 ntmps165 ?_;refine yc g (o.a.jN _) λy g=>?_;apply aA g<;>intro _ g;refine yo [] (tk [0,3,6,9,12,15,19,25]) [7] ?_;obtain⟨x,w,j,g⟩:=cL g;refine yu zp (yi j (aI.aF w)) ?_
 iterate 2 (refine yt zp ?_)
 refine yq g (o.a.ei _ _ _) zp λy g=>?_;refine yt zp ?_;refine yc g (o.a.GK _) λy g=>?_;apply aA g<;>intro _ g;refine yo [0,1,2,3,4,5,6,7,8,9] (tk [31,33,36,39,43,46]) [] ?_
 iterate 2 (refine yY g aI.aF λx _ _ g=>?_)
 refine yq g (o.a.M8 _ _ _ _ _) zp λy g=>?_;cases g;exact yj
 iterate 2 (refine yo [0,1,2,3,4,5] (tk [19,22]) [] ?_;refine yY g aI.aF λx _ _ g=>?_;refine yq g (o.a.ei _ _ _) zp λy g=>?_)
 cases g;exact yj;apply aA g<;>intro _ g;refine yX g aI.aF λx _ _ g=>?_;refine yp g (o.a.ei _ _ _) λy g=>?_;apply aA g<;>intro _ g;refine yX g aI.aF λx _ _ g=>?_;exact yP g (o.a.gN _ _);refine yo [] (tk [0,3,6,9,12,15,18,22,28]) [8] ?_;obtain⟨x,w,j,g⟩:=cL g;refine yu zp (yi j (aI.aF w)) ?_
 iterate 3 (refine yt zp ?_)
 refine yq g (o.a.ei _ _ _) zp λy g=>?_;refine yt zp ?_;cases g;exact yj;apply aA g<;>intro _ g;refine yo [] (tk [0,3,6,9,12,15,18,21,24,27,31,33,36,39,49,52]) [14,15] ?_
 iterate 2 ((iterate 2 (refine yt zp ?_));obtain⟨x,w,j,g⟩:=cL g;refine yu zp (yi j (aI.aF w)) ?_;refine yt zp ?_)
 refine yq g (o.a.M8 _ _ _ _ _) zp λy g=>?_
 iterate 4 (refine yt zp ?_)
 cases g;exact yj;apply aA g<;>intro _ g;refine yc g (o.a.GK _) λy g=>?_
 iterate 2 (apply aA g<;>intro _ g)
 exact yP g (o.a.gN _ _);refine yp g (o.a.Cs _ _ _ _ _ _) λy g=>?_;cases g;exact zl;refine yo [] (tk [0,3,6,9,12,15,18,21,24,27,31,33,36,39,49,52]) [14,15] ?_
 iterate 2 ((iterate 2 (refine yt zp ?_));obtain⟨x,w,j,g⟩:=cL g;refine yu zp (yi j (aI.aF w)) ?_;refine yt zp ?_)
 refine yq g (o.a.M8 _ _ _ _ _) zp λy g=>?_
 iterate 4 (refine yt zp ?_)
 cases g;exact yj;apply aA g<;>intro _ g;refine yo [] (tk [0,3,6,9,12,15,18,22,28]) [8] ?_
 iterate 2 (refine yt zp ?_)
 obtain⟨x,w,j,g⟩:=cL g;refine yu zp (yi j (aI.aF w)) ?_
 iterate 2 (refine yt zp ?_)
 refine yq g (o.a.M7 _ _ _ _) zp λy g=>?_;refine yt zp ?_;refine yc g (o.a.xI _ _) λy g=>?_;apply aA g<;>intro _ g;exact yP g (o.a.gN _ _);refine yo [0,1,2,3,4,5,6,7,8,9,10,11] [(12,.one)] [] ?_;refine yY g ag.aF λx _ _ g=>?_;obtain⟨y,z,g⟩:=bz g (o.a.kH _);refine yl (yC z) ?_;cases g;exact yj;refine yo [] (tk [0,3,6,9,12,15,18,22,28]) [8] ?_
 iterate 2 (refine yt zp ?_)
 obtain⟨x,w,j,g⟩:=cL g;refine yu zp (yi j (aI.aF w)) ?_
 iterate 2 (refine yt zp ?_)
 refine yq g (o.a.M7 _ _ _ _) zp λy g=>?_;refine yt zp ?_;refine yo [] (tk [0,3,6,9,12,15,19,25]) [7] ?_;obtain⟨x,w,j,g⟩:=cL g;refine yu zp (yi j (aI.aF w)) ?_;refine yt zp ?_;obtain⟨y,z,g⟩:=bz g (o.a.jN _);refine yu zp (bE.call z rfl rfl) ?_;refine yq g (o.a.ei _ _ _) zp λy g=>?_;refine yt zp ?_;refine yo [0,1,2,3,4,5,6,7,8,9,10] [(11,.one)] [] ?_;refine yY g ag.aF λx _ _ g=>?_;obtain⟨y,z,g⟩:=bz g (o.a.kH _);refine yl (yC z) ?_;cases g;exact yj
/-(*plexus.types.elaborator).together-/
theorem alS:XM (BF (Gf n)):=by
 intro a0 a1 a2 a3 a4 r g;rw[BF]at g;refine yw func225 ntmps225 ?_;refine yo [] (tk [0,3,13,16,18]) [2,3] ?_
 iterate 3 (refine yt zp ?_)
 iterate 2 (refine yc g (o.a.GJ _) λy g=>?_;apply aA g<;>intro _ g)
 exact yP g (o.a.gN _ _);refine yo [] (tk [0,3,7,10,12]) [] ?_
 iterate 3 (refine yt zp ?_)
 iterate 2 (refine yp g (o.a.ei _ _ _) λy g=>?_;(iterate 2 (apply aA g<;>intro _ g));exact yP g (o.a.gN _ _);(iterate 2 (refine yp g (o.a.ei _ _ _) λy g=>?_;refine yo [] (tk [0,3,7,10]) [] ?_;(iterate 3 (refine yt zp ?_));cases g;exact zl)))
theorem w34:Zx (Dc (Gf n)):=by
 intro a0 a1 a2 a3 r g;rw[Dc]at g;refine yw func34 ntmps34 ?_;refine yk<|ao.ct (rs:=_) P9 rfl rfl func77 rfl zk rfl ntmps77 rfl rfl (yz ?_)
 refine yk<|ao.cT (t:=8) rfl rfl aW (yz ?_)
 rcases adi g with⟨c3,c4,z,g⟩|⟨y,z,g⟩
 replace z:=(o.a.ei _ _ _ _ z);refine yk<|ao.adj z rfl rfl aW (cN.refl _) (.inr rfl) rfl (yz ?_)
 refine zs g ?_ ?_<;>(clear g;intro k g);refine yo [] (tk [0,3,7,10]) [] ?_
 iterate 2 (refine yt zp ?_)
 cases g;exact yj;refine yo [] (tk [0,3,7,10]) [] ?_
 iterate 3 (refine yt zp ?_)
 cases g;exact yj;replace z:=(o.a.ei _ _ _ _ z);refine yv (yC z) ?_;refine yo [] (tk [0,3,7,10]) [] ?_
 iterate 3 (refine yt zp ?_)
 cases g;exact zl
theorem w36:Zy (Dd (Gf n)):=by
 intro a0 a1 r g;rw[Dd]at g;refine yw func36 ntmps36 ?_
 iterate 4 (refine bw g λ_ g=>?_)
 refine yc g (o.a.Ov _ _) λy g=>?_;refine bw g λ_ g=>?_;refine yc g (o.a.agw _ _) λy g=>?_;cases g;exact zl
theorem agu:VV (Ax (Gf n)):=by
 intro a0 a1 r g;rw[Ax]at g;refine yw func82 ntmps82 ?_;refine aR g λ_ g=>?_;refine yk<|yL (S:=Int) (G:=λm s=>ug (Gf m) a0 a1 s) (s0:=0) 0 [1,2,6,15,16] [17] (λs=>[(17,dI s)]) (λs=>[]) g ?_;rintro n s2 _ g;change uh (Gf n) a0 a1 s2=_ at g;rw[uh]at g;refine yz ?_
 refine bw g λ_ g=>?_
 iterate 2 (refine yX g ab.aF λx _ _ g=>?_)
 refine yc g (o.a.Z6 _ _) λy g=>?_;refine aR g λ_ g=>?_;exact aZ _ n g
theorem w12:Zz (De (Gf n)):=by
 intro a0 a1 r g;rw[De]at g;refine yw func12 ntmps12 ?_;refine yc g (o.a.Dq _) λy g=>?_;refine aR g λ_ g=>?_;refine yc g (o.a.c32 _) λy g=>?_;refine aR g λ_ g=>?_;refine yc g (o.a.Zr _ _) λy g=>?_;refine aR g λ_ g=>?_;refine yo [] (tk [0,3,6,9,12,15,18,21,24,27,30,40,43]) [11,12] ?_
 iterate 4 (refine yt zp ?_)
 obtain⟨y,z,g⟩:=bz g (o.a.c35 _ _);refine yu zp (bE.call z rfl rfl) ?_;refine yt zp ?_;obtain⟨y,z,g⟩:=bz g (o.a.c34 _ _ _ _);refine yu zp (bE.call z rfl rfl) ?_
 iterate 4 (refine yt zp ?_)
 refine bw g λ_ g=>?_;refine yc g (o.a.Z6 _ _) λy g=>?_;cases g;exact zl
theorem alT:XN (Bo (Gf n)):=by
 intro a0 a1 a2 a3 a4 r g;rw[Bo]at g;refine yw func121 ntmps121 ?_
 iterate 3 (apply aA g<;>intro _ g)
 iterate 2 ((iterate 2 (exact dO g;refine bw g λ_ g=>?_));apply aA g<;>intro _ g)
 apply aA g<;>intro _ g
 iterate 2 (exact dO g;refine bw g λ_ g=>?_)
 apply aA g<;>intro _ g;exact dO g;refine bw g λ_ g=>?_;exact dO g
theorem alU:XO (BC (Gf n)):=by
 intro a0 a1 r g;rw[BC]at g;refine yw func122 ntmps122 ?_;refine yc g (o.a.pj _) λy g=>?_;refine aR g λ_ g=>?_;refine yk<|yL (S:=Int) (G:=λm s=>p6 (Gf m) a0 a1 s) (s0:=0) 0 [0,4,10,11] [12] (λs=>[(12,dI s)]) (λs=>[]) g ?_;rintro n s3 _ g;change u9 (Gf n) a0 a1 s3=_ at g;rw[u9]at g;refine yz ?_
 refine bw g λ_ g=>?_;refine yX g dJ λx _ _ g=>?_;refine yc g (o.a.oF _) λy g=>?_;refine aR g λ_ g=>?_;apply aA g<;>intro _ g;refine yc g (o.a.xp _ _) λy g=>?_;refine aR g λ_ g=>?_
 iterate 2 (exact aZ _ n g)
theorem alV:XP (w6 (Gf n)):=by
 intro a0 a1 r g;rw[w6]at g;refine yw func123 ntmps123 ?_;refine yk<|yL (S:=Int) (G:=λm s=>p7 (Gf m) a0 a1 s) (s0:=0) 0 [1,4,7,8] [9] (λs=>[(9,dI s)]) (λs=>[]) g ?_;rintro n s1 _ g;change vb (Gf n) a0 a1 s1=_ at g;rw[vb]at g;refine yz ?_
 refine bw g λ_ g=>?_;refine yX g aX.aF λx _ _ g=>?_;refine yc g (o.a.Hq _ _) λy g=>?_;apply aA g<;>intro _ g;refine yc g (o.a.xp _ _) λy g=>?_;refine aR g λ_ g=>?_
 iterate 2 (exact aZ _ n g)
theorem alW:XQ (wY (Gf n)):=by
 intro a0 r g;rw[wY]at g;refine yw func172 ntmps172 ?_;refine yk<|yL (S:=Int×Int) (G:=λm s=>z7 (Gf m) a0 s.1 s.2) (s0:=(-1,0)) 0 [2,6,7] [3,8] (λs=>[(3,dI s.1),(8,dI s.2)]) (λs=>[]) g ?_;rintro n ⟨s1,s2⟩ _ g;change u5 (Gf n) a0 s1 s2=_ at g;rw[u5]at g;refine yz ?_
 refine bw g λ_ g=>?_;refine yX g ah.aF λx _ _ g=>?_
 iterate 4 (refine aR g λ_ g=>?_)
 exact aZ (_,_) n g
theorem alX:XR (Bp (Gf n)):=by
 intro a0 a1 r g;rw[Bp]at g;refine yw func266 ntmps266 ?_;exact dO g
set_option maxHeartbeats 0 in
theorem aep:Sf (zy (Gf n)):=by
 intro a0 a1 r g;rw[zy]at g;refine yw func265 ntmps265 ?_
 iterate 2 (refine yc g (o.a.xr _) λy g=>?_;refine aR g λ_ g=>?_)
 refine Ok.stuck aW ?_;refine ao.kR 7 161 2 0 rfl rfl ?_;refine yL (S:=(List ah)×(List ah)×(List ah)) (G:=λm s=>gC (Gf m) s.1 s.2.1 s.2.2) (s0:=(a0,a1,[])) 1 [2,6] [0,1,7] (λs=>[(0,.d (.sl 2 (ah.rows s.1))),(1,.d (.sl 2 (ah.rows s.2.1))),(7,.os 0 (ah.rows s.2.2).length)]) (λs=>[(0,.row 161 2 (ah.rows s.2.2))]) g ?_;rintro n ⟨s5,s6,s7⟩ _ g;change D1 (Gf n) s5 s6 s7=_ at g;rw[D1]at g;refine yz ?_;refine aA g (λk g=>?_) λk g=>?_;refine yo [0,1,2,3,4,5,6,7,8,9,10,11,12,13,14,15,16,17,18,19] [] [] ?_;apply aA g<;>intro _ g;refine yo [0,1,2,3,4,5,6,7,8,9,10,11,12] [] [] ?_;refine yY g ah.aF λx _ _ g=>?_;refine yY g ah.aF λt _ _ g=>?_;obtain⟨t,w,g⟩:=cE g;refine yl (yQ ah.bh w) ?_;refine yc g (o.a.pn _ _) λy g=>?_;apply aA g<;>intro _ g;refine yk<|ao.fX 1 (rows':=ah.rows ([{Process:=x.Process,N:=y:ah}])) rfl zi (yz ?_)
 obtain⟨l,g⟩:=bR g;refine yk<|DO.dV rfl rfl zg rfl rfl zg rfl rfl (ah.cC _) rfl rfl rfl (zo l) (yz ?_)
 exact aZ (_,_,_) n g;exact aZ (t,s6,s7) n g;refine Ok.lJ k ?_;conv=>(arg 3;whnf)
 iterate 2 (refine yY g ah.aF λx _ _ g=>?_)
 apply aA g<;>intro _ g;refine yo [0,1,2,3,4,5,6,7,8,9,10,11,12] [] [] ?_;refine yY g ah.aF λx _ _ g=>?_;refine yY g ah.aF λt _ _ g=>?_;obtain⟨t,w,g⟩:=cE g;refine yl (yQ ah.bh w) ?_;refine yc g (o.a.pn _ _) λy g=>?_;apply aA g<;>intro _ g;refine yk<|ao.fX 1 (rows':=ah.rows ([{Process:=x.Process,N:=y:ah}])) rfl zi (yz ?_)
 obtain⟨l,g⟩:=bR g;refine yk<|DO.dV rfl rfl zg rfl rfl zg rfl rfl (ah.cC _) rfl rfl rfl (zo l) (yz ?_)
 exact aZ (_,_,_) n g;exact aZ (t,s6,s7) n g;refine yo [0,1,2,3,4,5,6,7,8,9,10,11,12,13,14] [] [] ?_;apply aA g<;>intro _ g;refine yo [0,1,2,3,4,5,6,7,8,9,10,11,12] [] [] ?_;refine yY g ah.aF λx _ _ g=>?_;refine yY g ah.aF λt _ _ g=>?_;obtain⟨t,w,g⟩:=cE g;refine yl (yQ ah.bh w) ?_;refine yc g (o.a.pn _ _) λy g=>?_;apply aA g<;>intro _ g;refine yk<|ao.fX 1 (rows':=ah.rows ([{Process:=x.Process,N:=y:ah}])) rfl zi (yz ?_)
 obtain⟨l,g⟩:=bR g;refine yk<|DO.dV rfl rfl zg rfl rfl zg rfl rfl (ah.cC _) rfl rfl rfl (zo l) (yz ?_)
 exact aZ (_,_,_) n g;exact aZ (s5,t,s7) n g
 iterate 2 (refine yY g ah.aF λx _ _ g=>?_)
 apply aA g<;>intro _ g;refine yo [0,1,2,3,4,5,6,7,8,9,10,11,12] [] [] ?_;refine yY g ah.aF λx _ _ g=>?_;refine yY g ah.aF λt _ _ g=>?_;obtain⟨t,w,g⟩:=cE g;refine yl (yQ ah.bh w) ?_;refine yc g (o.a.pn _ _) λy g=>?_;apply aA g<;>intro _ g;refine yk<|ao.fX 1 (rows':=ah.rows ([{Process:=x.Process,N:=y:ah}])) rfl zi (yz ?_)
 obtain⟨l,g⟩:=bR g;refine yk<|DO.dV rfl rfl zg rfl rfl zg rfl rfl (ah.cC _) rfl rfl rfl (zo l) (yz ?_)
 exact aZ (_,_,_) n g;exact aZ (s5,t,s7) n g;refine yo [0,1,2,3,4,5,6,7,8,9,10,11,12,13,14,15,16,17,18,19,20] [] [] ?_;refine yY g ah.aF λx _ _ g=>?_
 iterate 2 (refine yY g ah.aF λt _ _ g=>?_)
 obtain⟨t,w,g⟩:=cE g;refine yl (yQ ah.bh w) ?_;obtain⟨x2,w,g⟩:=cE g;refine yl (yQ ah.bh w) ?_;refine yc g (o.a.pn _ _) λy g=>?_;apply aA g<;>intro _ g;refine yk<|ao.fX 1 (rows':=ah.rows ([{Process:=x.Process,N:=y:ah}])) rfl zi (yz ?_)
 obtain⟨l,g⟩:=bR g;refine yk<|DO.dV rfl rfl zg rfl rfl zg rfl rfl (ah.cC _) rfl rfl rfl (zo l) (yz ?_)
 exact aZ (_,_,_) n g;exact aZ (t,x2,s7) n g;refine bw g λ_ g=>?_;refine yo [0,1,2,3,4,5,6,7,8,9,10,11,12,13,14,15,16,17,18,19] [] [] ?_;apply aA g<;>intro _ g;refine yo [0,1,2,3,4,5,6,7,8,9,10,11,12] [] [] ?_;refine yY g ah.aF λx _ _ g=>?_;refine yY g ah.aF λt _ _ g=>?_;obtain⟨t,w,g⟩:=cE g;refine yl (yQ ah.bh w) ?_;refine yc g (o.a.pn _ _) λy g=>?_;apply aA g<;>intro _ g;refine yk<|ao.fX 1 (rows':=ah.rows ([{Process:=x.Process,N:=y:ah}])) rfl zi (yz ?_)
 obtain⟨l,g⟩:=bR g;refine yk<|DO.dV rfl rfl zg rfl rfl zg rfl rfl (ah.cC _) rfl rfl rfl (zo l) (yz ?_)
 exact aZ (_,_,_) n g;exact aZ (t,s6,s7) n g;refine Ok.lK k ?_;conv=>(arg 3;whnf)
 refine yo [0,1,2,3,4,5,6,7,8,9,10,11,12,13,14] [] [] ?_;apply aA g<;>intro _ g;refine yo [0,1,2,3,4,5,6,7,8,9,10,11,12] [] [] ?_;refine yY g ah.aF λx _ _ g=>?_;refine yY g ah.aF λt _ _ g=>?_;obtain⟨t,w,g⟩:=cE g;refine yl (yQ ah.bh w) ?_;refine yc g (o.a.pn _ _) λy g=>?_;apply aA g<;>intro _ g;refine yk<|ao.fX 1 (rows':=ah.rows ([{Process:=x.Process,N:=y:ah}])) rfl zi (yz ?_)
 obtain⟨k,g⟩:=bR g;refine yk<|DO.dV rfl rfl zg rfl rfl zg rfl rfl (ah.cC _) rfl rfl rfl (zo k) (yz ?_)
 exact aZ (_,_,_) n g;exact aZ (s5,t,s7) n g
 iterate 2 (refine yY g ah.aF λx _ _ g=>?_)
 apply aA g<;>intro _ g;refine yo [0,1,2,3,4,5,6,7,8,9,10,11,12] [] [] ?_;refine yY g ah.aF λx _ _ g=>?_;refine yY g ah.aF λt _ _ g=>?_;obtain⟨t,w,g⟩:=cE g;refine yl (yQ ah.bh w) ?_;refine yc g (o.a.pn _ _) λy g=>?_;apply aA g<;>intro _ g;refine yk<|ao.fX 1 (rows':=ah.rows ([{Process:=x.Process,N:=y:ah}])) rfl zi (yz ?_)
 obtain⟨k,g⟩:=bR g;refine yk<|DO.dV rfl rfl zg rfl rfl zg rfl rfl (ah.cC _) rfl rfl rfl (zo k) (yz ?_)
 exact aZ (_,_,_) n g;exact aZ (s5,t,s7) n g;refine yo [0,1,2,3,4,5,6,7,8,9,10,11,12,13,14,15,16,17,18,19,20] [] [] ?_;refine yY g ah.aF λx _ _ g=>?_
 iterate 2 (refine yY g ah.aF λt _ _ g=>?_)
 obtain⟨t,w,g⟩:=cE g;refine yl (yQ ah.bh w) ?_;obtain⟨x2,w,g⟩:=cE g;refine yl (yQ ah.bh w) ?_;refine yc g (o.a.pn _ _) λy g=>?_;apply aA g<;>intro _ g;refine yk<|ao.fX 1 (rows':=ah.rows ([{Process:=x.Process,N:=y:ah}])) rfl zi (yz ?_)
 obtain⟨k,g⟩:=bR g;refine yk<|DO.dV rfl rfl zg rfl rfl zg rfl rfl (ah.cC _) rfl rfl rfl (zo k) (yz ?_)
 exact aZ (_,_,_) n g;exact aZ (t,x2,s7) n g
theorem alY:XS (Br (Gf n)):=by
 intro a0 a1 r g;rw[Br]at g;refine yw func230 ntmps230 ?_;refine yc g (o.a.aex _ _) λy g=>?_;cases g;exact zl
theorem alZ:XT (Bt (Gf n)):=by
 intro a0 a1 r g;rw[Bt]at g;refine yw func174 ntmps174 ?_
 iterate 2 (refine yc g (o.a.xr _) λy g=>?_;refine aR g λ_ g=>?_)
 iterate 2 (refine yc g (o.a.am8 _ _) λy g=>?_)
 refine aA g (λk g=>?_) λk g=>?_;refine aR g λ_ g=>?_;refine Ok.lJ k ?_;conv=>(arg 3;whnf)
 cases g;exact zl;refine Ok.lK k ?_;conv=>(arg 3;whnf)
 exact dO g
theorem al0:XU (wX (Gf n)):=by
 intro a0 r g;rw[wX]at g;refine yw func124 ntmps124 ?_;refine yk<|yL (S:=Bool×Int) (G:=λm s=>oV (Gf m) a0 s.1 s.2) (s0:=(false,0)) 0 [0,8,9] [2,10] (λs=>[(2,.d (.v (.bool s.1))),(10,dI s.2)]) (λs=>[]) g ?_;rintro n ⟨s1,s2⟩ _ g;change u4 (Gf n) a0 s1 s2=_ at g;rw[u4]at g;refine yz ?_
 refine bw g λ_ g=>?_;refine yX g az.aF λx _ _ g=>?_;refine yo [0,1,2,3,4,5,6,7,8,9,10,11,12,13,14,15,16,17,18,19,20,21,22,23,24,25,26,27,28,29] [] [] ?_;refine aR g λ_ g=>?_;obtain⟨y,z,g⟩:=bz g (o.a.xr _);refine yl (yC z) ?_;refine aR g λ_ g=>?_;obtain⟨v,z,g⟩:=bz g (o.a.oF _);refine yl (yC z) ?_;refine aR g λ_ g=>?_;apply aA g<;>intro _ g;refine yY g az.aF λt _ _ g=>?_;obtain⟨y2,z,g⟩:=bz g (o.a.GF _ _);refine yl (yC z) ?_;refine aR g λ_ g=>?_;obtain⟨x2,w,g⟩:=cE g;refine yv (yQ az.bh w) ?_;refine yk<|yL (S:=Bool×Int) (G:=λm s=>Fj (Gf m) a0 s1 s2 x y v t y2 x2 s.1 s.2) (s0:=(s1,0)) 1 [0,4,8,9,10,47,48] [2,49] (λs=>[(2,.d (.v (.bool s.1))),(49,dI s.2)]) (λs=>[]) g ?_;rintro n ⟨s18,s19⟩ _ g;change zZ (Gf n) a0 s1 s2 x y v t y2 x2 s18 s19=_ at g;rw[zZ]at g;refine yz ?_
 apply aA g<;>intro _ g;refine yX g az.aF λt _ _ g=>?_;refine yc g (o.a.GM _ _) λy2 g=>?_
 iterate 2 (refine aR g λ_ g=>?_)
 iterate 2 (exact aZ (_,_) n g)
 obtain⟨t,w,g⟩:=cE g;refine yv (yQ az.bh w) ?_;refine yk<|yL (S:=Bool×Int) (G:=λm s=>Fk (Gf m) a0 s1 s2 x y v t s.1 s.2) (s0:=(s1,0)) 1 [0,4,8,9,10,47,48] [2,49] (λs=>[(2,.d (.v (.bool s.1))),(49,dI s.2)]) (λs=>[]) g ?_;rintro n ⟨s28,s29⟩ _ g;change z6 (Gf n) a0 s1 s2 x y v t s28 s29=_ at g;rw[z6]at g;refine yz ?_
 apply aA g<;>intro _ g;refine yX g az.aF λx _ _ g=>?_;refine yc g (o.a.GM _ _) λy g=>?_
 iterate 2 (refine aR g λ_ g=>?_)
 iterate 2 (exact aZ (_,_) n g)
theorem al1:XV (Bm (Gf n)):=by
 intro a0 r g;rw[Bm]at g;refine yw func125 ntmps125 ?_
 iterate 2 (refine aR g λ_ g=>?_)
 apply aA g<;>intro _ g;refine Ok.stuck aW ?_;refine ao.gS 2 2 40 4 3 rfl rfl rfl ?_;refine yL (S:=Int×(List af)) (G:=λm s=>zX (Gf m) a0 s.1 s.2) (s0:=(0,[])) 4 [2,3,22,23] [24] (λs=>[(24,dI s.1)]) (λs=>[(3,.row 40 4 (af.rows s.2)),(2,.box [dI 0,.d (.v (.slice none 0 0)),.os 3 (af.rows s.2).length,.d (.v (.slice none 0 0))])]) g ?_;rintro n ⟨s4,s7⟩ _ g;change Fl (Gf n) a0 s4 s7=_ at g;rw[Fl]at g;refine yz ?_;refine bw g λ_ g=>?_;refine yX g ag.aF λx _ _ g=>?_;refine yo [0,1,2,3,4] (tk [16,18,22]) [] ?_;obtain⟨y,z,g⟩:=bz g (o.a.Ct _);refine yl (yC z) ?_;obtain⟨k,g⟩:=bR g;refine yk<|ao.eM (rows2:=(af.rows ([y]))) aJ.nil rfl rfl rfl rfl rfl zg rfl zi rfl rfl (af.cC _) rfl rfl (zo k) (yz ?_)
 exact aZ (_,_) n g;refine bw g λ_ g=>?_;refine Ok.stuck aW ?_;refine ao.gS 2 2 40 4 3 rfl rfl rfl ?_;refine yL (S:=Int×(List af)) (G:=λm s=>zY (Gf m) a0 s.1 s.2) (s0:=(0,[])) 4 [2,3,22,23] [24] (λs=>[(24,dI s.1)]) (λs=>[(3,.row 40 4 (af.rows s.2)),(2,.box [dI 0,.d (.v (.slice none 0 0)),.os 3 (af.rows s.2).length,.d (.v (.slice none 0 0))])]) g ?_;rintro n ⟨s15,s18⟩ _ g;change Fm (Gf n) a0 s15 s18=_ at g;rw[Fm]at g;refine yz ?_;refine bw g λ_ g=>?_;refine yX g ag.aF λx _ _ g=>?_;refine yo [0,1,2,3,4] (tk [16,18,22]) [] ?_;obtain⟨y,z,g⟩:=bz g (o.a.Ct _);refine yl (yC z) ?_;obtain⟨k,g⟩:=bR g;refine yk<|ao.eM (rows2:=(af.rows ([y]))) aJ.nil rfl rfl rfl rfl rfl zg rfl zi rfl rfl (af.cC _) rfl rfl (zo k) (yz ?_)
 exact aZ (_,_) n g
theorem w94:ZA (CY (Gf n)):=by
 intro a0 a1 r g;rw[CY]at g;refine yw func94 ntmps94 ?_;refine yc g (o.a.Cj _ _) λy g=>?_;cases g;exact zl
theorem w83:ZB (CW (Gf n)):=by
 intro a0 a1 r g;rw[CW]at g;refine yw func83 ntmps83 ?_
 iterate 3 (apply aA g<;>intro _ g;refine yc g (o.a.pk _ _ _ _ _) λy g=>?_;refine bw g λ_ g=>?_;exact dO g)
 apply aA g<;>intro _ g;refine yc g (o.a.pk _ _ _ _ _) λy g=>?_;refine bw g λ_ g=>?_;refine yc g (o.a.GL _ _) λy g=>?_;cases g;exact zl;apply aA g<;>intro _ g;refine yc g (o.a.pk _ _ _ _ _) λy g=>?_;refine bw g λ_ g=>?_;refine yc g (o.a.GL _ _) λy g=>?_;refine bw g λ_ g=>?_;refine yc g (o.a.am7 _ _) λy g=>?_;cases g;exact zl
 iterate 2 (apply aA g<;>intro _ g)
 refine yc g (o.a.pk _ _ _ _ _) λy g=>?_;cases g;exact zl;apply aA g<;>intro _ g;refine yc g (o.a.pk _ _ _ _ _) λy g=>?_;cases g;exact zl;refine bw g λ_ g=>?_;refine yc g (o.a.pk _ _ _ _ _) λy g=>?_
 iterate 2 (refine bw g λ_ g=>?_)
 refine yc g (o.a.GL _ _) λy g=>?_;cases g;exact zl;apply aA g<;>intro _ g;refine yc g (o.a.pk _ _ _ _ _) λy g=>?_;refine bw g λ_ g=>?_;refine yc g (o.a.am9 _) λy g=>?_;cases g;exact zl;apply aA g<;>intro _ g;refine yc g (o.a.pk _ _ _ _ _) λy g=>?_
 iterate 2 (refine aR g λ_ g=>?_)
 refine yc g (o.a.GL _ _) λy g=>?_;refine aR g λ_ g=>?_;refine yk<|yL (S:=Int) (G:=λm s=>qt (Gf m) a0 a1 s) (s0:=0) 2 [2,3,4,131,132] [133] (λs=>[(133,dI s)]) (λs=>[]) g ?_;rintro n s43 _ g;change vM (Gf n) a0 a1 s43=_ at g;rw[vM]at g;refine yz ?_
 refine bw g λ_ g=>?_;refine yX g af.aF λx _ _ g=>?_;refine yo [0,1,2,3,4,5,6,7,8,9,10,11,12,13,14,15] [] [] ?_;refine yY g ag.aF λx _ _ g=>?_;obtain⟨y,z,g⟩:=bz g (o.a.Ow _ _);refine yl (yC z) ?_;refine aR g λ_ g=>?_;refine yY g ag.aF λx _ _ g=>?_;obtain⟨y,z,g⟩:=bz g (o.a.Ct _);refine yl (yC z) ?_;obtain⟨y,z,g⟩:=bz g (o.a.Dr _ _);refine yl (yC z) ?_;refine aR g λ_ g=>?_;exact aZ _ n g;refine yc g (o.a.pk _ _ _ _ _) λy g=>?_
 iterate 2 (refine aR g λ_ g=>?_)
 refine yk<|yL (S:=Int) (G:=λm s=>qq (Gf m) a0 a1 s) (s0:=0) 2 [2,4,167,168] [169] (λs=>[(169,dI s)]) (λs=>[]) g ?_;rintro n s59 _ g;change vL (Gf n) a0 a1 s59=_ at g;rw[vL]at g;refine yz ?_
 refine bw g λ_ g=>?_;refine yX g af.aF λx _ _ g=>?_;refine yo [0,1,2,3,4,5,6,7] [] [] ?_;refine yY g ag.aF λx _ _ g=>?_;obtain⟨y,z,g⟩:=bz g (o.a.Ow _ _);refine yl (yC z) ?_;refine aR g λ_ g=>?_;exact aZ _ n g
theorem w37:ZC (CX (Gf n)):=by
 intro a0 a1 r g;rw[CX]at g;refine yw func37 ntmps37 ?_;refine yc g (o.a.Dq _) λy g=>?_;refine bw g λ_ g=>?_;refine yc g (o.a.Ow _ _) λy g=>?_;cases g;exact zl
theorem al2:XW (AX (Gf n)):=by
 intro a0 r g;rw[AX]at g;refine yw func128 ntmps128 ?_;refine yc g (o.a.oF _) λy g=>?_;cases g;exact zl
theorem aeq:Si (ux (Gf n)):=by
 intro a0 r g;rw[ux]at g;refine yw func175 ntmps175 ?_;refine yk<|yL (S:=Int) (G:=λm s=>yb (Gf m) a0 s) (s0:=0) 0 [0,1,4,7] [8] (λs=>[(8,dI s)]) (λs=>[]) g ?_;rintro n s1 _ g;change yh (Gf n) a0 s1=_ at g;rw[yh]at g;refine yz ?_
 refine bw g λ_ g=>?_;refine yX g dJ λx _ _ g=>?_;refine yc g (o.a.am' _) λy g=>?_;refine aR g λ_ g=>?_;exact aZ _ n g
theorem aer:Sj (zj (Gf n)):=by
 intro a0 r g;rw[zj]at g;refine yw func127 ntmps127 ?_;refine yc g (o.a.aey _) λy g=>?_;cases g;exact zl
theorem w84:ZD (CL (Gf n)):=by
 intro a0 a1 r g;rw[CL]at g;refine yw func84 ntmps84 ?_
 iterate 3 (refine aR g λ_ g=>?_)
 refine aA g (λk g=>?_) λk g=>?_;refine aR g λ_ g=>?_;refine aA g (λ_ g=>?_) λl g=>?_;refine aR g λ_ g=>?_;refine aA g (λh2 g=>?_) λh2 g=>?_;refine aA g (λh3 g=>?_) λh3 g=>?_;refine aR g λ_ g=>?_;refine Ok.lK (AD h2) ?_;conv=>(arg 3;whnf)
 refine Ok.lK (AD h3) ?_;conv=>(arg 3;whnf)
 refine Ok.lK (AD k) ?_;conv=>(arg 3;whnf)
 refine yc g (o.a.pj _) λy g=>?_;refine aR g λ_ g=>?_;refine yc g (o.a.Sn _) λy g=>?_;exact dO g;refine Ok.lK (AD h2) ?_;conv=>(arg 3;whnf)
 refine Ok.lJ (qA h3) ?_;conv=>(arg 3;whnf)
 refine bw g λ_ g=>?_;exact dO g;refine Ok.lJ (qA h2) ?_;conv=>(arg 3;whnf)
 refine aR g λ_ g=>?_;exact dO g
 iterate 2 (refine yT (qA l) ?_)
 refine aR g λ_ g=>?_
 iterate 2 (refine yF (qA l) ?_)
 refine Ok.lK (AD k) ?_;conv=>(arg 3;whnf)
 refine yc g (o.a.pj _) λy g=>?_;refine aR g λ_ g=>?_;refine yc g (o.a.Sn _) λy g=>?_;exact dO g;refine yT (qA k) ?_;refine aR g λ_ g=>?_
 iterate 2 (refine yT (qA k) ?_)
 refine aR g λ_ g=>?_
 iterate 2 (refine yF (qA k) ?_)
 refine Ok.lJ (qA k) ?_;conv=>(arg 3;whnf)
 refine yc g (o.a.oF _) λy g=>?_;exact dO g
theorem w38:ZE (CG (Gf n)):=by
 intro a0 a1 r g;rw[CG]at g;refine yw func38 ntmps38 ?_;refine aR g λ_ g=>?_;refine yk<|yL (S:=Int) (G:=λm s=>rW (Gf m) a0 a1 s) (s0:=0) 0 [1,4,13,14] [15] (λs=>[(15,dI s)]) (λs=>[]) g ?_;rintro n s2 _ g;change vC (Gf n) a0 a1 s2=_ at g;rw[vC]at g;refine yz ?_
 refine bw g λ_ g=>?_;refine yX g TParam.aF λx _ _ g=>?_;refine yo [0,1,2,3,4,5,6,7] [] [] ?_;refine yY g bD.aF λx _ _ g=>?_;obtain⟨y,z,g⟩:=bz g (o.a.c84 _ _);refine yl (yC z) ?_;refine aR g λ_ g=>?_;exact aZ _ n g
theorem w14:ZF (Dg (Gf n)):=by
 intro a0 a1 a2 a3 r g;rw[Dg]at g;refine yw func14 ntmps14 ?_;refine yc g (o.a.c8 _ _ _) λy g=>?_
 iterate 2 (refine aR g λ_ g=>?_)
 refine yc g (o.a.Hr _ _) λy g=>?_;refine bw g λ_ g=>?_;refine yc g (o.a.Ds _ _) λy g=>?_;refine bw g λ_ g=>?_;refine yc g (o.a.Ox _ _) λy g=>?_;cases g;exact zl
theorem w39:ZG (Dh (Gf n)):=by
 intro a0 a1 a2 a3 r g;rw[Dh]at g;refine yw func39 ntmps39 ?_;refine yc g (o.a.Hr _ _) λy g=>?_
 iterate 2 (refine aR g λ_ g=>?_)
 refine yc g (o.a.Ds _ _) λy g=>?_;refine aR g λ_ g=>?_;refine yc g (o.a.Ox _ _) λy g=>?_;cases g;exact zl
theorem w25:ZH (G3 (Gf n)):=by
 intro a0 r g;rw[G3]at g;refine yw func25 ntmps25 ?_;refine Ok.stuck aW<|ao.jA 3 rfl ?_ ?_
 intro cap k;replace g:(some ([]))=some r:=(by have l:a0=[]:=DM.1 (by have k:=congrArg List.length k;simpa only[TParam.aH,l4]using k);subst l;simpa using g);refine yz ?_;refine yv (bE.toP (bE.mo (et:=63) rfl zk rfl rfl)) ?_;cases g;exact yj;intro ad n0 cap;refine yz ?_;refine yv (bE.toP (bE.mo (et:=63) rfl zk rfl rfl)) ?_;obtain⟨k,g⟩:=bR g;refine yk<|DO.sJ (rows2:=(TParam.rows a0)) rfl rfl zg rfl (cz.refl _) rfl rfl (TParam.cC _) rfl rfl rfl (zo k) (yz ?_)
 cases g;exact zl
theorem w50:ZI (Di (Gf n)):=by
 intro a0 a1 r g;rw[Di]at g;refine yw func50 ntmps50 ?_;refine bw g λ_ g=>?_;refine yc g (o.a.Ov _ _) λy g=>?_
 iterate 3 (refine bw g λ_ g=>?_)
 refine yc g (o.a.agx _ _) λy g=>?_;cases g;exact zl
theorem agv:VW (Ay (Gf n)):=by
 intro a0 a1 r g;rw[Ay]at g;refine yw func82 ntmps82 ?_;refine aR g λ_ g=>?_;refine yk<|yL (S:=Int) (G:=λm s=>ui (Gf m) a0 a1 s) (s0:=0) 0 [1,2,6,15,16] [17] (λs=>[(17,dI s)]) (λs=>[]) g ?_;rintro n s2 _ g;change uj (Gf n) a0 a1 s2=_ at g;rw[uj]at g;refine yz ?_
 refine bw g λ_ g=>?_
 iterate 2 (refine yX g ab.aF λx _ _ g=>?_)
 refine yc g (o.a.Z7 _ _) λy g=>?_;refine aR g λ_ g=>?_;exact aZ _ n g
theorem w51:ZJ (Dj (Gf n)):=by
 intro a0 r g;rw[Dj]at g;refine yw func51 ntmps51 ?_;cases g;exact yj
theorem w53:ZK (Dk (Gf n)):=by
 intro a0 r g;rw[Dk]at g;refine yw func53 ntmps53 ?_;cases g;exact zl
theorem w27:ZL (pz (Gf n)):=by
 intro a0 a1 r g;rw[pz]at g;refine yw func27 ntmps27 ?_;refine yc g (o.a.Z7 _ _) λy g=>?_;apply aA g<;>intro _ g;refine yc g (o.a.Hs _) λy g=>?_;cases g;exact zl;apply aA g<;>intro _ g;refine yo [0,1,2,3,4,5,6,7,8,9,10,11,12,13] (tk [43,46]) [] ?_
 iterate 2 (refine yY g ab.aF λx _ _ g=>?_;obtain⟨y,z,g⟩:=bz g (o.a.Dt _ _);refine yl (yC z) ?_)
 iterate 2 (refine yc g (o.a.Ht _) λy g=>?_;refine aR g λ_ g=>?_)
 refine yk<|ao.inl (rs:=_) rfl func52 rfl zk rfl ntmps52 rfl rfl (yz ?_)
 cases g;exact yj;apply aA g<;>intro _ g;refine yo [0,1,2,3,4,5,6,7,8,9,10,11,12,13] (tk [43,46]) [] ?_
 iterate 2 (refine yY g ab.aF λx _ _ g=>?_;obtain⟨y,z,g⟩:=bz g (o.a.Dt _ _);refine yl (yC z) ?_)
 iterate 2 (refine yc g (o.a.Ht _) λy g=>?_;apply aA g<;>intro _ g)
 refine yc g (o.a.Hs _) λy g=>?_;cases g;exact zl
 iterate 2 (refine yo [0,1,2,3,4,5,6,7] (tk [25,28]) [] ?_;refine yY g ab.aF λx _ _ g=>?_;refine yk<|ao.gW (rs:=_) rfl (λ_=>aJ.nil) rfl rfl rfl rfl func52 rfl zk rfl ntmps52 rfl rfl (yz ?_);cases g;exact yj)
 apply aA g<;>intro _ g;refine Ok.stuck aW ?_;refine ao.kR 10 32 12 3 rfl rfl ?_;refine yL (S:=(List ab)×Bool×Int) (G:=λm s=>qw (Gf m) a0 a1 s.1 s.2.1 s.2.2) (s0:=([],true,0)) 4 [2,3,4,5,86,87] [10,11,88] (λs=>[(10,.os 3 (ab.rows s.1).length),(11,.d (.v (.bool s.2.1))),(88,dI s.2.2)]) (λs=>[(3,.row 32 12 (ab.rows s.1))]) g ?_;rintro n ⟨s32,s33,s34⟩ _ g;change vV (Gf n) a0 a1 s32 s33 s34=_ at g;rw[vV]at g;refine yz ?_;apply aA g<;>intro _ g;refine yX g ab.aF λx _ _ g=>?_;refine yo [0,1,2,3,4,5,6,7,8,9,10,11,12,13,14] [(15,.one)] [] ?_;refine yY g ag.aF λx _ _ g=>?_;obtain⟨y,z,g⟩:=bz g (o.a.Dt _ _);refine yl (yC z) ?_;apply aA g<;>intro _ g;refine yc g (o.a.Ht _) λv g=>?_
 iterate 2 (refine yk<|ao.fX 6 (rows':=ab.rows ([y])) rfl zi (yz ?_);obtain⟨k,g⟩:=bR g;refine yk<|DO.dV rfl rfl zg rfl rfl zg rfl rfl (ab.cC _) rfl rfl rfl (zo k) (yz ?_);exact aZ (_,_,_) n g)
 apply aA g<;>intro _ g;refine yc g (o.a.Hs _) λy g=>?_;cases g;exact zl;refine yk<|ao.inl (rs:=_) rfl func52 rfl zk rfl ntmps52 rfl rfl (yz ?_)
 cases g;exact zl;refine bw g λ_ g=>?_;refine Ok.stuck aW ?_;refine ao.kR 15 32 12 3 rfl rfl ?_;refine yL (S:=(List ab)×Int) (G:=λm s=>og (Gf m) a0 a1 s.1 s.2) (s0:=([],0)) 4 [2,3,4,5] [15,16] (λs=>[(15,.os 3 (ab.rows s.1).length),(16,dI s.2)]) (λs=>[(3,.row 32 12 (ab.rows s.1))]) g ?_;rintro n ⟨s48,s49⟩ _ g;change vW (Gf n) a0 a1 s48 s49=_ at g;rw[vW]at g;refine yz ?_;apply aA g<;>intro _ g;refine yo [0,1,2,3,4,5,6,7,8,9,10,11,12,13,14,15] [(16,.one)] [] ?_;refine yY g ag.aF λx _ _ g=>?_;refine yY g ab.aF λx _ _ g=>?_;refine yo [0,1,2,3,4,5,6,7,8] [(9,.one)] [] ?_;refine yY g ab.aF λx _ _ g=>?_;obtain⟨y,z,g⟩:=bz g (o.a.Dt _ _);refine yl (yC z) ?_;refine yc g (o.a.Ht _) λv g=>?_;apply aA g<;>intro _ g;refine yo [0,1,2,3,4,5,6,7] (tk [25,27]) [] ?_;refine yY g ab.aF λx _ _ g=>?_;obtain⟨k,g⟩:=bR g;refine yk<|ao.eM (rows2:=(ab.rows ([x,y]))) aJ.nil rfl rfl rfl rfl rfl zg rfl zi rfl rfl (ab.cC _) rfl rfl (zo k) (yz ?_)
 iterate 2 (exact aZ (_,_) n g)
 apply aA g<;>intro _ g;refine yc g (o.a.Hs _) λy g=>?_;cases g;exact zl;refine yk<|ao.inl (rs:=_) rfl func52 rfl zk rfl ntmps52 rfl rfl (yz ?_)
 cases g;exact zl
theorem w26:ZM (xF (Gf n)):=by
 intro a0 r g;rw[xF]at g;refine yw func26 ntmps26 ?_;refine Ok.stuck aW ?_;refine ao.gS 0 11 32 12 2 rfl rfl rfl ?_;refine yL (S:=Int×(List ab)) (G:=λm s=>sk (Gf m) a0 s.1 s.2) (s0:=(0,[])) 3 [1,2,9,10] [11] (λs=>[(11,dI s.1)]) (λs=>[(2,.row 32 12 (ab.rows s.2)),(0,.box [dI a0.Op,dI a0.aO.a6,dI a0.aO.aD.Kind,dI a0.aO.aD.Lo,dI a0.aO.aD.Hi,.d (.sl 1 (aG a0.aO.aD.Names)),.d (.sl 6 (ag.rows a0.aO.aD.ai)),.d (.sl 2 (aX.rows a0.aO.aD.bO)),dI a0.N,.d (.v (.string ⟨⟨(a0.Text)⟩⟩)),dI a0.At,.os 2 (ab.rows s.2).length])]) g ?_;rintro n ⟨s1,s13⟩ _ g;change vX (Gf n) a0 s1 s13=_ at g;rw[vX]at g;refine yz ?_;refine bw g λ_ g=>?_;refine yX g ab.aF λx _ _ g=>?_;refine yo [0,1,2,3,4] (tk [16,18,22]) [] ?_;obtain⟨y,z,g⟩:=bz g (o.a.Z8 _);refine yl (yC z) ?_;obtain⟨k,g⟩:=bR g;refine yk<|ao.eM (rows2:=(ab.rows ([y]))) aJ.nil rfl rfl rfl rfl rfl zg rfl zi rfl rfl (ab.cC _) rfl rfl (zo k) (yz ?_)
 exact aZ (_,_) n g
theorem w9:C9 (B9 (Gf n)):=by
 intro a0 a1 r g;rw[B9]at g;refine yw func9 ntmps9 ?_;refine yc g (o.a.Hr _ _) λy g=>?_
 iterate 2 (refine aR g λ_ g=>?_)
 refine yc g (o.a.c25 _) λy g=>?_;refine yc g (o.a.Dt _ _) λy g=>?_;refine yc g (o.a.Z8 _) λy g=>?_;cases g;exact zl
theorem al3:XX (A1 (Gf n)):=by
 intro a0 r g;rw[A1]at g;refine yw func176 ntmps176 ?_;cases g;exact yj
theorem al4:XY (A2 (Gf n)):=by
 intro a0 r g;rw[A2]at g;refine yw func177 ntmps177 ?_;exact dO g
theorem al5:XZ (Bn (Gf n)):=by
 intro a0 r g;rw[Bn]at g;refine yw func190 ntmps190 ?_;refine yc g (o.a.Dq _) λy g=>?_;refine aR g λ_ g=>?_;refine yc g (o.a.Ct _) λy g=>?_;cases g;exact zl
theorem al6:X0 (AY (Gf n)):=by
 intro a0 r g;rw[AY]at g;refine yw func178 ntmps178 ?_;refine yc g (o.a.YN _) λy g=>?_;cases g;exact zl
/-(plexus.eval.frame).leaf-/
theorem al7:X1 (mr (Gf n)):=by
 intro a0 a1 r g;rw[mr]at g;refine yw func131 ntmps131 ?_;apply aA g<;>intro _ g;refine yc g (o.a.Cu _) λy g=>?_;cases g;exact zl;apply aA g<;>intro _ g;refine yc g (o.a.lT _) λy g=>?_;cases g;exact zl;refine aR g λ_ g=>?_;apply aA g<;>intro _ g;refine yX g bD.aF λx _ _ g=>?_;cases g;exact yj;refine aR g λ_ g=>?_;refine yc g (o.a.M9 _) λy g=>?_;cases g;exact yj
theorem al8:X2 (BB (Gf n)):=by
 intro a0 a1 r g;rw[BB]at g;refine yw func231 ntmps231 ?_;refine yc g (o.a.GD _ _) λy g=>?_;refine aR g λ_ g=>?_;refine yc g (o.a.GG _ _) λy g=>?_;cases g;exact zl
theorem al9:X3 (BA (Gf n)):=by
 intro a0 a1 r g;rw[BA]at g;refine yw func180 ntmps180 ?_
 iterate 2 (refine yc g (o.a.xo _) λy g=>?_)
 refine yc g (o.a.anb _ _) λy g=>?_;cases g;exact zl
theorem w91:ZN (xA (Gf n)):=by
 intro a0 a1 r g;rw[xA]at g;refine yw func91 ntmps91 ?_;refine yk<|yL (S:=Int) (G:=λm s=>FK (Gf m) a0 a1 s) (s0:=0) 1 [2,4,7,8] [9] (λs=>[(9,dI s)]) (λs=>[]) g ?_;rintro n s1 _ g;change r6 (Gf n) a0 a1 s1=_ at g;rw[r6]at g;refine yz ?_
 refine bw g λ_ g=>?_;refine yX g af.aF λx _ _ g=>?_;refine yc g (o.a.Ds _ _) λy g=>?_;refine aR g λ_ g=>?_;exact aZ _ n g
theorem w44:ZO (CO (Gf n)):=by
 intro a0 a1 r g;rw[CO]at g;refine yw func44 ntmps44 ?_;refine yc g (o.a.Dq _) λy g=>?_;refine aR g λ_ g=>?_;refine yc g (o.a.c91 _ _) λy g=>?_;exact dO g
theorem al':X4 (Bu (Gf n)):=by
 intro a0 a1 r g;rw[Bu]at g;refine yw func144 ntmps144 ?_;refine yc g (o.a.GM _ _) λy g=>?_;refine aR g λ_ g=>?_;exact dO g
theorem ama:X5 (Be (Gf n)):=by
 intro a0 a1 r g;rw[Be]at g;refine yw func143 ntmps143 ?_;refine yc g (o.a.ane _ _) λy g=>?_;cases g;exact zl
theorem ac0:Q3 (ue (Gf n)):=by
 intro a0 a1 r g;rw[ue]at g;refine yw func199 ntmps199 ?_;refine yk<|yL (S:=Int) (G:=λm s=>xX (Gf m) a0 a1 s) (s0:=0) 0 [0,1,4,7] [8] (λs=>[(8,dI s)]) (λs=>[]) g ?_;rintro n s1 _ g;change xY (Gf n) a0 a1 s1=_ at g;rw[xY]at g;refine yz ?_
 refine bw g λ_ g=>?_;refine yX g az.aF λx _ _ g=>?_;refine yc g (o.a.anf _ _) λy g=>?_;refine aR g λ_ g=>?_;exact aZ _ n g
theorem ac1:Q4 (yS (Gf n)):=by
 intro a0 a1 r g;rw[yS]at g;refine yw func142 ntmps142 ?_;refine yc g (o.a.ac6 _ _) λy g=>?_;cases g;exact zl
theorem w95:ZP (CT (Gf n)):=by
 intro a0 a1 r g;rw[CT]at g;refine yw func95 ntmps95 ?_;refine yc g (o.a.ac7 _ _) λy g=>?_;cases g;exact zl
theorem w45:ZQ (CU (Gf n)):=by
 intro a0 a1 a2 r g;rw[CU]at g;refine yw func45 ntmps45 ?_
 iterate 3 (refine aR g λ_ g=>?_)
 iterate 2 (apply aA g<;>intro _ g;refine yc g (o.a.Hq _ _) λy g=>?_;cases g;exact zl)
 apply aA g<;>intro _ g;refine yk<|yL (S:=Int) (G:=λm s=>r8 (Gf m) a0 a1 a2 s) (s0:=0) 3 [3,4,5,6,42,43] [44] (λs=>[(44,dI s)]) (λs=>[]) g ?_;rintro n s9 _ g;change vI (Gf n) a0 a1 a2 s9=_ at g;rw[vI]at g;refine yz ?_
 refine bw g λ_ g=>?_;refine yX g dJ λx _ _ g=>?_;refine yc g (o.a.xI _ _) λy g=>?_;refine yo [0,1,2,3,4,5,6,7,8,9,10,11,12,13,14,15,16,17,18,19] [] [] ?_;refine aR g λ_ g=>?_;refine yY g ag.aF λx _ _ g=>?_
 iterate 2 (refine yY g af.aF λx _ _ g=>?_)
 obtain⟨y,z,g⟩:=bz g (o.a.xJ _ _ _);refine yl (yC z) ?_;refine aR g λ_ g=>?_;exact aZ _ n g;apply aA g<;>intro _ g;refine yk<|yL (S:=Int) (G:=λm s=>r9 (Gf m) a0 a1 a2 s) (s0:=0) 3 [4,5,6,77,78] [79] (λs=>[(79,dI s)]) (λs=>[]) g ?_;rintro n s24 _ g;change vJ (Gf n) a0 a1 a2 s24=_ at g;rw[vJ]at g;refine yz ?_
 refine bw g λ_ g=>?_;refine yX g ag.aF λx _ _ g=>?_;refine yo [0,1,2,3,4,5,6,7,8,9,10,11,12] [] [] ?_
 iterate 2 (refine yY g af.aF λx _ _ g=>?_)
 obtain⟨y,z,g⟩:=bz g (o.a.xJ _ _ _);refine yl (yC z) ?_;refine aR g λ_ g=>?_;exact aZ _ n g;apply aA g<;>intro _ g;refine yo [0,1,2,3,4,5,6,7,8] [] [] ?_
 iterate 2 (refine yY g af.aF λx _ _ g=>?_)
 obtain⟨y,z,g⟩:=bz g (o.a.Dr _ _);refine yl (yC z) ?_;apply aA g<;>intro _ g
 iterate 2 (refine yo [0,1,2,3,4,5,6,7,8,9,10,11,12,13] [] [] ?_;refine yY g ag.aF λx _ _ g=>?_;(iterate 2 (refine yY g af.aF λx _ _ g=>?_));obtain⟨y,z,g⟩:=bz g (o.a.xJ _ _ _);refine yl (yC z) ?_;cases g;exact zl)
 apply aA g<;>intro _ g
 iterate 2 (refine aR g λ_ g=>?_)
 refine yc g (o.a.Dr _ _) λy g=>?_;cases g;exact zl;refine yk<|yL (S:=Int) (G:=λm s=>sc (Gf m) a1 a2 s) (s0:=0) 3 [5,6,151,152] [153] (λs=>[(153,dI s)]) (λs=>[]) g ?_;rintro n s59 _ g;change vK (Gf n) a1 a2 s59=_ at g;rw[vK]at g;refine yz ?_
 refine bw g λ_ g=>?_;refine yX g az.aF λx _ _ g=>?_;refine yc g (o.a.Z' _ _) λy g=>?_;refine aR g λ_ g=>?_;exact aZ _ n g
theorem w19:ZR (CP (Gf n)):=by
 intro a0 a1 a2 r g;rw[CP]at g;refine yw func19 ntmps19 ?_;refine yc g (o.a.Z9 _ _) λy g=>?_;refine bw g λ_ g=>?_;refine yc g (o.a.xJ _ _ _) λy g=>?_;cases g;exact zl
theorem amb:X6 (Bb (Gf n)):=by
 intro a0 r g;rw[Bb]at g;refine yw func137 ntmps137 ?_;refine yc g (o.a.YN _) λy g=>?_;cases g;exact zl
set_option maxHeartbeats 0 in
theorem amc:X7 (Bz (Gf n)):=by
 intro a0 a1 a2 a3 a4 r g;rw[Bz]at g;refine yw func237 ntmps237 ?_;refine yc g (o.a.xo _) λy g=>?_;refine yc g (o.a.xo _) λv g=>?_;refine Ok.stuck aW ?_;refine ao.kR 13 9 1 0 rfl rfl ?_;refine yL (S:=(List (List UInt8))×(List (List UInt8))×(List (List UInt8))) (G:=λm s=>gh (Gf m) a2 a3 a4 s.1 s.2.1 s.2.2) (s0:=(y,v,[])) 1 [2,3,4,10] [11,12,13] (λs=>[(11,.d (.sl 1 (aG s.1))),(12,.d (.sl 1 (aG s.2.1))),(13,.os 0 (aG s.2.2).length)]) (λs=>[(0,.row 9 1 (aG s.2.2))]) g ?_;rintro n ⟨s3,s4,s5⟩ _ g;change nU (Gf n) a2 a3 a4 s3 s4 s5=_ at g;rw[nU]at g;refine yz ?_;refine aA g (λk g=>?_) λk g=>?_;refine yo [0,1,2,3,4,5,6,7,8,9,10,11,12,13,14,15,16,17] [] [] ?_
 iterate 2 (apply aA g<;>intro _ g)
 refine yX g dJ λx _ _ g=>?_;obtain⟨l,g⟩:=bR g;refine yk<|DO.dV rfl rfl zg rfl rfl zg rfl rfl rfl rfl rfl rfl (zo l) (yz ?_)
 obtain⟨x,w,g⟩:=cE g;refine yv (yQ gF w) ?_;exact aZ (_,_,_) n g;obtain⟨x,w,g⟩:=cE g;refine yv (yQ gF w) ?_;exact aZ (x,s4,s5) n g;refine Ok.lJ k ?_;conv=>(arg 3;whnf)
 iterate 2 (refine yY g dJ λx _ _ g=>?_)
 iterate 2 (apply aA g<;>intro _ g)
 refine yX g dJ λx _ _ g=>?_;obtain⟨l,g⟩:=bR g;refine yk<|DO.dV rfl rfl zg rfl rfl zg rfl rfl rfl rfl rfl rfl (zo l) (yz ?_)
 obtain⟨x,w,g⟩:=cE g;refine yv (yQ gF w) ?_;exact aZ (_,_,_) n g;obtain⟨x,w,g⟩:=cE g;refine yv (yQ gF w) ?_;exact aZ (x,s4,s5) n g;refine yo [0,1,2,3,4,5,6,7,8,9,10,11,12] [] [] ?_
 iterate 2 (apply aA g<;>intro _ g)
 refine yX g dJ λx _ _ g=>?_;obtain⟨l,g⟩:=bR g;refine yk<|DO.dV rfl rfl zg rfl rfl zg rfl rfl rfl rfl rfl rfl (zo l) (yz ?_)
 obtain⟨x,w,g⟩:=cE g;refine yv (yQ gF w) ?_;exact aZ (_,_,_) n g;obtain⟨x,w,g⟩:=cE g;refine yv (yQ gF w) ?_;exact aZ (s3,x,s5) n g
 iterate 2 (refine yY g dJ λx _ _ g=>?_)
 iterate 2 (apply aA g<;>intro _ g)
 refine yX g dJ λx _ _ g=>?_;obtain⟨l,g⟩:=bR g;refine yk<|DO.dV rfl rfl zg rfl rfl zg rfl rfl rfl rfl rfl rfl (zo l) (yz ?_)
 obtain⟨x,w,g⟩:=cE g;refine yv (yQ gF w) ?_;exact aZ (_,_,_) n g;obtain⟨x,w,g⟩:=cE g;refine yv (yQ gF w) ?_;exact aZ (s3,x,s5) n g;apply aA g<;>intro _ g;refine yX g dJ λx _ _ g=>?_;obtain⟨l,g⟩:=bR g;refine yk<|DO.dV rfl rfl zg rfl rfl zg rfl rfl rfl rfl rfl rfl (zo l) (yz ?_)
 refine yo [0,1,2,3,4,5] [] [] ?_
 iterate 2 (obtain⟨x,w,g⟩:=cE g;refine yl (yQ gF w) ?_)
 exact aZ (_,_,_) n g;refine yo [0,1,2,3,4,5] [] [] ?_;obtain⟨x,w,g⟩:=cE g;refine yl (yQ gF w) ?_;obtain⟨t,w,g⟩:=cE g;refine yl (yQ gF w) ?_;exact aZ (x,t,s5) n g;refine bw g λ_ g=>?_;refine yo [0,1,2,3,4,5,6,7,8,9,10,11,12,13,14,15,16,17] [] [] ?_
 iterate 2 (apply aA g<;>intro _ g)
 refine yX g dJ λx _ _ g=>?_;obtain⟨l,g⟩:=bR g;refine yk<|DO.dV rfl rfl zg rfl rfl zg rfl rfl rfl rfl rfl rfl (zo l) (yz ?_)
 obtain⟨x,w,g⟩:=cE g;refine yv (yQ gF w) ?_;exact aZ (_,_,_) n g;obtain⟨x,w,g⟩:=cE g;refine yv (yQ gF w) ?_;exact aZ (x,s4,s5) n g;refine Ok.lK k ?_;conv=>(arg 3;whnf)
 refine yo [0,1,2,3,4,5,6,7,8,9,10,11,12] [] [] ?_
 iterate 2 (apply aA g<;>intro _ g)
 refine yX g dJ λx _ _ g=>?_;obtain⟨k,g⟩:=bR g;refine yk<|DO.dV rfl rfl zg rfl rfl zg rfl rfl rfl rfl rfl rfl (zo k) (yz ?_)
 obtain⟨x,w,g⟩:=cE g;refine yv (yQ gF w) ?_;exact aZ (_,_,_) n g;obtain⟨x,w,g⟩:=cE g;refine yv (yQ gF w) ?_;exact aZ (s3,x,s5) n g
 iterate 2 (refine yY g dJ λx _ _ g=>?_)
 iterate 2 (apply aA g<;>intro _ g)
 refine yX g dJ λx _ _ g=>?_;obtain⟨k,g⟩:=bR g;refine yk<|DO.dV rfl rfl zg rfl rfl zg rfl rfl rfl rfl rfl rfl (zo k) (yz ?_)
 obtain⟨x,w,g⟩:=cE g;refine yv (yQ gF w) ?_;exact aZ (_,_,_) n g;obtain⟨x,w,g⟩:=cE g;refine yv (yQ gF w) ?_;exact aZ (s3,x,s5) n g;apply aA g<;>intro _ g;refine yX g dJ λx _ _ g=>?_;obtain⟨k,g⟩:=bR g;refine yk<|DO.dV rfl rfl zg rfl rfl zg rfl rfl rfl rfl rfl rfl (zo k) (yz ?_)
 refine yo [0,1,2,3,4,5] [] [] ?_
 iterate 2 (obtain⟨x,w,g⟩:=cE g;refine yl (yQ gF w) ?_)
 exact aZ (_,_,_) n g;refine yo [0,1,2,3,4,5] [] [] ?_;obtain⟨x,w,g⟩:=cE g;refine yl (yQ gF w) ?_;obtain⟨t,w,g⟩:=cE g;refine yl (yQ gF w) ?_;exact aZ (x,t,s5) n g
