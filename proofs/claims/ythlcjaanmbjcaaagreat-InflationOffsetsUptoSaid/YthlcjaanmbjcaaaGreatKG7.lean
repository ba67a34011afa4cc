/- Printed by a program: what functions answer, and that they do. -/
import Derived.Test.YthlcjaanmbjcaaaGreatKG5
set_option linter.all false
set_option maxRecDepth 100000
noncomputable section
namespace Go.Proofs.YthlcjaanmbjcaaaGreat
open Go Go.Bw Go.Proofs.Tryz
/-(*plexus.types.elaborator).record-/
theorem Pt {n} (o:Of n):HY (qH (Gf n)):=by
 intro a0 a1 a2 r g;rw[qH]at g;refine yw func134 ntmps134 ?_;obtain⟨m1,em1,g⟩:=fm g;obtain⟨hm1,bm1⟩:=CC em1;refine yk<|ai.Gz m1 (ab.rows (List.replicate m1 ab.z)) rfl hm1 rfl hm1 rfl rfl rfl rfl rfl (by omega) (by simp only[ab.bR,Sx];exact cE.replicate zi _) rfl (yz ?_)
 obtain⟨m2,em2,g⟩:=fm g;obtain⟨hm2,bm2⟩:=CC em2;refine yk<|ai.Gz m2 (fP (List.replicate m2 false)) rfl hm2 rfl hm2 rfl rfl rfl rfl rfl (by omega) (by simp only[fP,Sx];exact cE.replicate zi _) rfl (yz ?_)
 refine yk<|yL (S:=(List ab)×(List Bool)×Int) (G:=λm s=>lS (Gf m) a0 a1 a2 s.1 s.2.1 s.2.2) (s0:=(List.replicate m1 ab.z,List.replicate m2 false,0)) 4 [0,4,5,6,23,24] [7,8,25] (λs=>[(7,.os 2 (ab.rows s.1).length),(8,.os 3 (fP s.2.1).length),(25,.d (.v (.int .i64 s.2.2)))]) (λs=>[(2,.row 32 12 (ab.rows s.1)),(3,.row 4 1 (fP s.2.1))]) g ?_;rintro n ⟨s3,s4,s5⟩ _ g;change nz (Gf n) a0 a1 a2 s3 s4 s5=_ at g;rw[nz]at g;refine yz ?_
 refine ay g (λ_ g=>?_) λ_ g=>?_;refine yX g aj.aE λx7 _ _ g=>?_;refine yc g (o.a.zJ _ _) λy9 g=>?_;refine ay g (λ_ g=>?_) λ_ g=>?_;exact yP g (o.a.dX _ _);obtain⟨x12,ex12,j13h,g⟩:=bu g;refine yv (yr j13h ex12) ?_;refine yv (ym y9.toNat 0 (vG ex12)) ?_;refine ay g (λ_ g=>?_) λ_ g=>?_;exact yP g (o.a.dX _ _);refine yo [] (tk [0,3,6,9,12,15,18,21,24,27,30,33,36,39,42,46,48,52,54,58]) [] ?_;obtain⟨x16,ex16,j17h,g⟩:=bu g;refine yu zp (yi j17h (aj.aE ex16)) ?_
 iterate 4 (refine yt zp ?_)
 obtain⟨x18,ex18,j19h,g⟩:=bu g;refine yu zp (yi j19h (af.aE ex18)) ?_;refine yt zp ?_;obtain⟨y20,ey20,g⟩:=aH g (o.a.fG _);refine yu zp (aV.call ey20 rfl rfl) ?_;refine yq g (o.a.cd _ _ _) zp λy21 g=>?_;obtain⟨x22,ex22,j23h,g⟩:=bu g;refine yU zp (yr j23h ex22) ?_;refine yk<|ai.r9 y9.toNat 0 (by repeat(first|exact ak.nil|refine ak.cons rfl (aN.cK (cl:=false) rfl aI) ?_|refine ak.skip rfl ?_|refine ak.cons rfl (yr j23h ex22) ?_|refine ak.cons rfl (dk (cl:=false) rfl aI) ?_)) (by rfl) (by rfl) (by rfl) (by rfl) (by rfl) (by rfl) (by rfl) (by rfl) zg (by rfl) (yg (ab.aE ex22)) (by rfl) (by rfl) (by rfl) (by rfl) (yz ?_)
 obtain⟨x24,ex24,j25h,g⟩:=bu g;refine yU zp (yr j25h ex24) ?_;refine yk<|ai.r9 y9.toNat 0 (by repeat(first|exact ak.nil|refine ak.cons rfl (aN.cK (cl:=false) rfl aI) ?_|refine ak.skip rfl ?_|refine ak.cons rfl (yr j23h ex22) ?_|refine ak.cons rfl (yr j25h ex24) ?_|refine ak.cons rfl (dk (cl:=false) rfl aI) ?_)) (by rfl) (by rfl) (by rfl) (by rfl) (by rfl) (by rfl) (by rfl) (by rfl) zg (by rfl) (yg (vG ex24)) (by rfl) (by rfl) (by rfl) (by rfl) (yz ?_)
 exact yk (yN (_,_,_) n ⟨by omega,g⟩);refine yk<|yL (S:=(List ab)×Int) (G:=λm s=>jP (Gf m) a1 a2 s4 s.1 s.2) (s0:=(s3,0)) 4 [0,4,5,6,8,23,24,25,65,66] [7,67] (λs=>[(7,.os 2 (ab.rows s.1).length),(67,.d (.v (.int .i64 s.2)))]) (λs=>[(2,.row 32 12 (ab.rows s.1))]) g ?_;rintro n ⟨s26,s27⟩ _ g;change ny (Gf n) a1 a2 s4 s26 s27=_ at g;rw[ny]at g;refine yz ?_
 refine bc g λ_ g=>?_;refine yX g af.aE λx29 _ _ g=>?_;obtain⟨x31,ex31,j32h,g⟩:=bu g;refine yv (yr j32h ex31) ?_;refine yv (ym s27.toNat 0 (vG ex31)) ?_;refine ay g (λ_ g=>?_) λ_ g=>?_;refine yo [0,1,2,3,4,5,6,7,8] [(9,.one)] [] ?_;obtain⟨y34,ey34,g⟩:=aH g (o.a.zT _);refine yl (yC ey34) ?_;obtain⟨y35,ey35,g⟩:=aH g (o.a.fG _);refine yl (yC ey35) ?_;obtain⟨x36,ex36,j37h,g⟩:=bu g;refine yl (yr j37h ex36) ?_;refine yk<|ai.Kp 84 (.agg (ab.cs ({Op:=6,aA:=y35,N:=0,Text:=[],At:=a1.At,Kids:=[]:ab}))) s27.toNat 0 ak.nil (by rfl) (by rfl) (by rfl) (by rfl) (by rfl) (by rfl) zi (by rfl) (by rfl) (by rfl) zg (by rfl) (yg (ab.aE ex36)) (by rfl) (by rfl) (by rfl) (by rfl) (yz ?_)
 iterate 2 (exact yk (yN (_,_) n ⟨by omega,g⟩))
/-(*plexus.types.elaborator).observer-/
theorem Pu {n} (o:Of n):HZ (qI (Gf n)):=by
 intro a0 a1 r g;rw[qI]at g;refine yw func135 ntmps135 ?_;refine yX g aj.aE λx1 _ _ g=>?_;refine yc g (o.a.dT _) λy3 g=>?_;refine yc g (o.a.dT _) λy4 g=>?_;refine yc g (o.a.dT _) λy5 g=>?_;refine ay g (λ_ g=>?_) λ_ g=>?_;refine yp g (o.a.cd _ _ _) λy7 g=>?_;refine bc g λ_ g=>?_;refine ay g (λ_ g=>?_) λ_ g=>?_;exact yP g (o.a.dX _ _);refine yc g (o.a.zQ _ _) λy11 g=>?_;refine bc g λ_ g=>?_;exact yP g (o.a.dX _ _);refine ay g (λ_ g=>?_) λ_ g=>?_;refine yk<|ai.cz (t:=62) rfl rfl (fh rfl aI) (yz ?_)
 refine yk<|ai.cz (t:=60) rfl rfl aI (yz ?_)
 refine yp g (o.a.ln _ _ _ _ _ _) λy17 g=>?_;refine yX g ab.aE λx18 _ _ g=>?_;refine yX g af.aE λx20 _ _ g=>?_
 iterate 2 (refine bc g λ_ g=>?_)
 exact yP g (o.a.dX _ _);refine ay g (λ_ g=>?_) λ_ g=>?_;refine yk<|ai.cz (t:=88) rfl rfl (fh rfl aI) (yz ?_)
 refine yk<|ai.cz (t:=86) rfl rfl aI (yz ?_)
 refine yp g (o.a.ln _ _ _ _ _ _) λy28 g=>?_;cases g;exact zl;refine ay g (λ_ g=>?_) λ_ g=>?_;refine yk<|ai.cz (t:=94) rfl rfl (fh rfl aI) (yz ?_)
 refine yk<|ai.cz (t:=92) rfl rfl aI (yz ?_)
 refine yp g (o.a.ln _ _ _ _ _ _) λy32 g=>?_;cases g;exact zl;refine ay g (λ_ g=>?_) λ_ g=>?_;refine yk<|ai.cz (t:=100) rfl rfl (fh rfl aI) (yz ?_)
 refine yk<|ai.cz (t:=98) rfl rfl aI (yz ?_)
 refine yp g (o.a.ln _ _ _ _ _ _) λy36 g=>?_;cases g;exact zl;refine ay g (λ_ g=>?_) λ_ g=>?_;refine yk<|ai.cz (t:=106) rfl rfl (fh rfl aI) (yz ?_)
 refine yk<|ai.cz (t:=104) rfl rfl aI (yz ?_)
 refine yp g (o.a.ln _ _ _ _ _ _) λy40 g=>?_;cases g;exact zl;refine ay g (λ_ g=>?_) λ_ g=>?_;refine yk<|ai.cz (t:=112) rfl rfl (fh rfl aI) (yz ?_)
 refine yk<|ai.cz (t:=110) rfl rfl aI (yz ?_)
 refine yp g (o.a.ln _ _ _ _ _ _) λy44 g=>?_;cases g;exact zl;refine ay g (λ_ g=>?_) λ_ g=>?_;refine yk<|ai.cz (t:=120) rfl rfl (fh rfl aI) (yz ?_)
 refine yk<|ai.cz (t:=117) rfl rfl aI (yz ?_)
 refine yp g (o.a.ln _ _ _ _ _ _) λy48 g=>?_;refine yX g ab.aE λx49 _ _ g=>?_;refine yX g af.aE λx51 _ _ g=>?_;refine yc g (o.a.fG _) λy53 g=>?_;cases g;exact zl;refine yk<|ai.cz (t:=120) rfl rfl (fh rfl aI) (yz ?_)
 refine yk<|ai.cz (t:=117) rfl rfl aI (yz ?_)
 refine yp g (o.a.ln _ _ _ _ _ _) λy56 g=>?_;refine yX g ab.aE λx57 _ _ g=>?_;refine yX g af.aE λx59 _ _ g=>?_;refine yc g (o.a.fG _) λy61 g=>?_;cases g;exact zl
/-(*plexus.types.elaborator).observer$1-/
theorem Pv {n} (o:Of n):H0 (qJ (Gf n)):=by
 intro a0 a1 a2 a3 a4 a5 r g;rw[qJ]at g;refine yw func139 ntmps139 ?_;refine yo [] (tk [0,3,6,9,12,15,19,21,24,28]) [] ?_
 iterate 4 (refine yt zp ?_)
 refine yq g (o.a.zU _ _ _ _) zp λy1 g=>?_
 iterate 3 (refine yt zp ?_)
 cases g;exact yj
/-(*plexus.types.elaborator).operand-/
theorem Pw {n} (o:Of n):H2 (qK (Gf n)):=by
 intro a0 a1 a2 a3 r g;rw[qK]at g;refine yw func137 ntmps137 ?_;refine yp g (o.a.cd _ _ _) λy1 g=>?_;refine ay g (λ_ g=>?_) λ_ g=>?_;exact yP g (o.a.dX _ _);refine yc g (o.a.zQ _ _) λy4 g=>?_;refine bc g λ_ g=>?_;exact yP g (o.a.dX _ _)
/-(*plexus.types.elaborator).operator-/
set_option maxHeartbeats 0 in
theorem Px {n} (o:Of n):H3 (oE (Gf n)):=by
 intro a0 a1 a2 r g;rw[oE]at g;refine yw func124 ntmps124 ?_;refine yc g (o.a.dT _) λy1 g=>?_;refine ay g (λ_ g=>?_) λ_ g=>?_;refine yo [] (tk [0,3,6,9,12,15,19,25]) [7] ?_;obtain⟨x3,ex3,j4h,g⟩:=bu g;refine yu zp (yi j4h (aj.aE ex3)) ?_
 iterate 2 (refine yt zp ?_)
 refine yq g (o.a.cd _ _ _) zp λy5 g=>?_;refine yt zp ?_;refine yc g (o.a.uc _) λy6 g=>?_;refine ay g (λ_ g=>?_) λ_ g=>?_;refine yo [0,1,2,3,4,5,6,7,8,9] (tk [31,33,36,39,43,46]) [] ?_;refine yY g aj.aE λx8 _ _ g=>?_;refine yY g aj.aE λx10 _ _ g=>?_;refine yq g (o.a.zV _ _ _ _ _) zp λy12 g=>?_;cases g;exact yj;refine yo [0,1,2,3,4,5] (tk [19,22]) [] ?_;refine yY g aj.aE λx13 _ _ g=>?_;refine yq g (o.a.cd _ _ _) zp λy15 g=>?_;refine yo [0,1,2,3,4,5] (tk [19,22]) [] ?_;refine yY g aj.aE λx16 _ _ g=>?_;refine yq g (o.a.cd _ _ _) zp λy18 g=>?_;cases g;exact yj;refine ay g (λ_ g=>?_) λ_ g=>?_;refine yX g aj.aE λx20 _ _ g=>?_;refine yp g (o.a.cd _ _ _) λy22 g=>?_;refine ay g (λ_ g=>?_) λ_ g=>?_;refine yX g aj.aE λx24 _ _ g=>?_;exact yP g (o.a.dX _ _);refine yo [] (tk [0,3,6,9,12,15,18,22,28]) [8] ?_;obtain⟨x27,ex27,j28h,g⟩:=bu g;refine yu zp (yi j28h (aj.aE ex27)) ?_
 iterate 3 (refine yt zp ?_)
 refine yq g (o.a.cd _ _ _) zp λy29 g=>?_;refine yt zp ?_;cases g;exact yj;refine ay g (λ_ g=>?_) λ_ g=>?_;refine yo [] (tk [0,3,6,9,12,15,18,21,24,27,31,33,36,39,49,52]) [14,15] ?_
 iterate 2 (refine yt zp ?_)
 obtain⟨x31,ex31,j32h,g⟩:=bu g;refine yu zp (yi j32h (aj.aE ex31)) ?_
 iterate 3 (refine yt zp ?_)
 obtain⟨x33,ex33,j34h,g⟩:=bu g;refine yu zp (yi j34h (aj.aE ex33)) ?_;refine yt zp ?_;refine yq g (o.a.zV _ _ _ _ _) zp λy35 g=>?_
 iterate 4 (refine yt zp ?_)
 cases g;exact yj;refine ay g (λ_ g=>?_) λ_ g=>?_;refine yc g (o.a.uc _) λy37 g=>?_
 iterate 2 (refine ay g (λ_ g=>?_) λ_ g=>?_)
 exact yP g (o.a.dX _ _);refine yp g (o.a.lk _ _ _ _ _ _) λy41 g=>?_;cases g;exact zl;refine yo [] (tk [0,3,6,9,12,15,18,21,24,27,31,33,36,39,49,52]) [14,15] ?_
 iterate 2 (refine yt zp ?_)
 obtain⟨x42,ex42,j43h,g⟩:=bu g;refine yu zp (yi j43h (aj.aE ex42)) ?_
 iterate 3 (refine yt zp ?_)
 obtain⟨x44,ex44,j45h,g⟩:=bu g;refine yu zp (yi j45h (aj.aE ex44)) ?_;refine yt zp ?_;refine yq g (o.a.zV _ _ _ _ _) zp λy46 g=>?_
 iterate 4 (refine yt zp ?_)
 cases g;exact yj;refine ay g (λ_ g=>?_) λ_ g=>?_;refine yo [] (tk [0,3,6,9,12,15,18,22,28]) [8] ?_
 iterate 2 (refine yt zp ?_)
 obtain⟨x48,ex48,j49h,g⟩:=bu g;refine yu zp (yi j49h (aj.aE ex48)) ?_
 iterate 2 (refine yt zp ?_)
 refine yq g (o.a.zU _ _ _ _) zp λy50 g=>?_;refine yt zp ?_;refine yc g (o.a.zJ _ _) λy51 g=>?_;refine ay g (λ_ g=>?_) λ_ g=>?_;exact yP g (o.a.dX _ _);refine yo [0,1,2,3,4,5,6,7,8,9,10,11] [(12,.one)] [] ?_;refine yY g af.aE λx54 _ _ g=>?_;obtain⟨y56,ey56,g⟩:=aH g (o.a.fG _);refine yl (yC ey56) ?_;cases g;exact yj;refine yo [] (tk [0,3,6,9,12,15,18,22,28]) [8] ?_
 iterate 2 (refine yt zp ?_)
 obtain⟨x57,ex57,j58h,g⟩:=bu g;refine yu zp (yi j58h (aj.aE ex57)) ?_
 iterate 2 (refine yt zp ?_)
 refine yq g (o.a.zU _ _ _ _) zp λy59 g=>?_;refine yt zp ?_;refine yo [] (tk [0,3,6,9,12,15,19,25]) [7] ?_;obtain⟨x60,ex60,j61h,g⟩:=bu g;refine yu zp (yi j61h (aj.aE ex60)) ?_;refine yt zp ?_;obtain⟨y62,ey62,g⟩:=aH g (o.a.dT _);refine yu zp (aV.call ey62 rfl rfl) ?_;refine yq g (o.a.cd _ _ _) zp λy63 g=>?_;refine yt zp ?_;refine yo [0,1,2,3,4,5,6,7,8,9,10] [(11,.one)] [] ?_;refine yY g af.aE λx64 _ _ g=>?_;obtain⟨y66,ey66,g⟩:=aH g (o.a.fG _);refine yl (yC ey66) ?_;cases g;exact yj
/-(*plexus.types.elaborator).together-/
theorem Py {n} (o:Of n):H4 (qL (Gf n)):=by
 intro a0 a1 a2 a3 a4 r g;rw[qL]at g;refine yw func136 ntmps136 ?_;refine yo [] (tk [0,3,13,16,18]) [2,3] ?_
 iterate 3 (refine yt zp ?_)
 refine yc g (o.a.oF _) λy1 g=>?_;refine ay g (λ_ g=>?_) λ_ g=>?_;refine yc g (o.a.oF _) λy3 g=>?_;refine ay g (λ_ g=>?_) λ_ g=>?_;exact yP g (o.a.dX _ _);refine yo [] (tk [0,3,7,10,12]) [] ?_
 iterate 3 (refine yt zp ?_)
 refine yp g (o.a.cd _ _ _) λy6 g=>?_
 iterate 2 (refine ay g (λ_ g=>?_) λ_ g=>?_)
 exact yP g (o.a.dX _ _);refine yp g (o.a.cd _ _ _) λy10 g=>?_;refine yo [] (tk [0,3,7,10]) [] ?_
 iterate 3 (refine yt zp ?_)
 cases g;exact zl;refine yp g (o.a.cd _ _ _) λy11 g=>?_;refine yo [] (tk [0,3,7,10]) [] ?_
 iterate 3 (refine yt zp ?_)
 cases g;exact zl;refine yp g (o.a.cd _ _ _) λy12 g=>?_
 iterate 2 (refine ay g (λ_ g=>?_) λ_ g=>?_)
 exact yP g (o.a.dX _ _);refine yp g (o.a.cd _ _ _) λy16 g=>?_;refine yo [] (tk [0,3,7,10]) [] ?_
 iterate 3 (refine yt zp ?_)
 cases g;exact zl;refine yp g (o.a.cd _ _ _) λy17 g=>?_;refine yo [] (tk [0,3,7,10]) [] ?_
 iterate 3 (refine yt zp ?_)
 cases g;exact zl
/-plexus.types.Expression-/
theorem Q3 {n} (o:Of n):IX (mF (Gf n)):=by
 intro a0 a1 a2 a3 r g;rw[mF]at g;refine yw func48 ntmps48 ?_;refine yk<|ai.ct (rs:=_) Lb rfl rfl func72 rfl zk rfl ntmps72 rfl rfl (yz ?_)
 refine yk<|ai.cz (t:=8) rfl rfl aI (yz ?_)
 rcases LI g with⟨c3,c4,ey2,g⟩|⟨y2,ey2,g⟩
 replace ey2:=(o.a.cd _ _ _ _ ey2);refine yk<|ai.LJ ey2 rfl rfl aI (bx.refl _) (.inr rfl) rfl (yz ?_)
 refine zs g ?_ ?_<;>(clear g;intro h5 g);refine yo [] (tk [0,3,7,10]) [] ?_
 iterate 2 (refine yt zp ?_)
 cases g;exact yj;refine yo [] (tk [0,3,7,10]) [] ?_
 iterate 3 (refine yt zp ?_)
 cases g;exact yj;replace ey2:=(o.a.cd _ _ _ _ ey2);refine yv (yC ey2) ?_;refine yo [] (tk [0,3,7,10]) [] ?_
 iterate 3 (refine yt zp ?_)
 cases g;exact zl
/-plexus.types.equal-/
theorem Q4 {n} (o:Of n):IY (rC (Gf n)):=by
 intro a0 a1 r g;rw[rC]at g;refine yw func50 ntmps50 ?_
 iterate 4 (refine bc g λ_ g=>?_)
 refine yc g (o.a.uK _ _) λy5 g=>?_;refine bc g λ_ g=>?_;refine yc g (o.a.NR _ _) λy7 g=>?_;cases g;exact zl
/-slices.EqualFunc[[]plexus.api.Expr,[]plexus.api.Expr,plexus.api.Expr,plexus.api.Expr]-/
theorem NO {n} (o:Of n):Gu (pZ (Gf n)):=by
 intro a0 a1 r g;rw[pZ]at g;refine yw func76 ntmps76 ?_;refine aJ g λ_ g=>?_;refine yk<|yL (S:=Int) (G:=λm s=>m6 (Gf m) a0 a1 s) (s0:=0) 0 [1,2,6,15,16] [17] (λs=>[(17,.d (.v (.int .i64 s)))]) (λs=>[]) g ?_;rintro n s2 _ g;change m7 (Gf n) a0 a1 s2=_ at g;rw[m7]at g;refine yz ?_
 refine bc g λ_ g=>?_;refine yX g ab.aE λx4 _ _ g=>?_;refine yX g ab.aE λx6 _ _ g=>?_;refine yc g (o.a.Jy _ _) λy8 g=>?_;refine aJ g λ_ g=>?_;exact yk (yN _ n ⟨by omega,g⟩)
/-plexus.types.Valid-/
theorem Q5 {n} (o:Of n):IZ (mG (Gf n)):=by
 intro a0 a1 r g;rw[mG]at g;refine yw func28 ntmps28 ?_;refine yc g (o.a.RT _) λy1 g=>?_;refine aJ g λ_ g=>?_;refine yc g (o.a.RU _) λy3 g=>?_;refine aJ g λ_ g=>?_;refine yc g (o.a.IN _ _) λy5 g=>?_;refine aJ g λ_ g=>?_;refine yo [] (tk [0,3,6,9,12,15,18,21,24,27,30,40,43]) [11,12] ?_
 iterate 4 (refine yt zp ?_)
 obtain⟨y7,ey7,g⟩:=aH g (o.a.RV _ _);refine yu zp (aV.call ey7 rfl rfl) ?_;refine yt zp ?_;obtain⟨y8,ey8,g⟩:=aH g (o.a.RW _ _ _ _);refine yu zp (aV.call ey8 rfl rfl) ?_
 iterate 4 (refine yt zp ?_)
 refine bc g λ_ g=>?_;refine yc g (o.a.Jy _ _) λy10 g=>?_;cases g;exact zl
/-plexus.inflation.update-/
theorem Q6 {n} (o:Of n):I0 (oK (Gf n)):=by
 intro a0 a1 r g;rw[oK]at g;refine yw func20 ntmps20 ?_;refine bc g λ_ g=>?_;refine yc g (o.a.RX _ _) λy2 g=>?_;cases g;exact zl
/-plexus.inflation.projection-/
theorem Q7 {n} (o:Of n):I1 (mD (Gf n)):=by
 intro a0 r g;rw[mD]at g;refine yw func32 ntmps32 ?_;refine ay g (λ_ g=>?_) λ_ g=>?_;refine yo [0,1,2,3,4,5,6] [] [] ?_;cases g;exact zl;refine aJ g λ_ g=>?_;exact eU g
/-(plexus.inflation.target).up-/
theorem Q8 {n} (o:Of n):I2 (qU (Gf n)):=by
 intro a0 a1 r g;rw[qU]at g;refine yw func33 ntmps33 ?_;refine aJ g λ_ g=>?_;refine yX g jl λx2 _ _ g=>?_;refine aJ g λ_ g=>?_;obtain⟨x5,ex5,g⟩:=fm g;obtain⟨j6a,j6b,j6h,j6i,j6k,j6m,ex5⟩:=CD ex5;refine yv (aV.toP (aV.conv (aV.part j6a j6b rfl rfl rfl (wC (by omega)) (wA j6i rfl) j6k (by simpa only[kI]using j6m)) (by rw[<-ex5];simp only[KD,KE])) (x:= .d (.sl 1 (bM .i64 x5)))) ?_;cases g;exact zl
/-plexus.inflation.kz-/
theorem Q9 {n} (o:Of n):I3 (qS (Gf n)):=by
 intro a0 a1 r g;rw[qS]at g;refine yw func30 ntmps30 ?_;refine bc g λ_ g=>?_;refine yX g ab.aE λx2 _ _ g=>?_;cases g;exact zl
/-(plexus.inflation.target).is-/
theorem Ra {n} (o:Of n):I4 (mC (Gf n)):=by
 intro a0 a1 r g;rw[mC]at g;refine yw func29 ntmps29 ?_;refine aJ g λ_ g=>?_;refine yc g (o.a.rE _) λy2 g=>?_;refine aJ g λ_ g=>?_;refine yc g (o.a.rF _ _) λy4 g=>?_;refine yo [0,1,2,3,4,5,6,7] [] [] ?_;refine bc g λ_ g=>?_;obtain⟨y6,ey6,g⟩:=aH g (o.a.cH _ _);refine yl (yC ey6) ?_;obtain⟨y7,ey7,g⟩:=aH g (o.a.Bt _ _);refine yl (yC ey7) ?_;cases g;exact zl
/-slices.Clone[[]int,int]-/
theorem Pz {n} (o:Of n):H5 (qp (Gf n)):=by
 intro a0 r g;rw[qp]at g;refine iQ.walk (E:=env) func51 rfl zk (rs:=_) rfl ntmps51 rfl (yz ?_);refine Ok.stuck aI<|ai.nY 3 rfl ?_ ?_
 intro cap h1;replace g:(some [])=some r:=(by have h0:a0=[]:=BV.1 (by have h1:=congrArg List.length h1;simpa only[kI,kD]using h1);subst h0;simpa using g);refine yz ?_;refine yv (aV.toP (aV.lg (et:=3) rfl zk rfl rfl)) ?_;refine Ok.fin aI ?_;obtain rfl:=cQ g;exact RD.vR rfl rfl (by simp only[cp]);intro ad n0 cap;refine yz ?_;refine yv (aV.toP (aV.lg (et:=3) rfl zk rfl rfl)) ?_;obtain⟨h2,g⟩:=cx g;refine yk<|DO.qm (rows2:=(bM .i64 a0)) rfl rfl zg rfl (bw.refl _) rfl rfl (KF _) rfl rfl rfl (zo h2) (yz ?_)
 refine Ok.fin aI ?_;obtain rfl:=cQ g;exact RD.xC rfl rfl rfl rfl zi
/-(plexus.inflation.target).at-/
theorem Rb {n} (o:Of n):I5 (qT (Gf n)):=by
 intro a0 a1 r g;rw[qT]at g;refine yw func31 ntmps31 ?_;obtain⟨y1,ey1,g⟩:=aH g (o.a.PI _);refine yk<|ai.xB ey1 rfl rfl (by first|rfl|(simp only[cp];rfl)) rfl (yz ?_)
 obtain⟨h2,g⟩:=cx g;refine yk<|DO.Nv rfl rfl zg rfl rfl zg rfl rfl rfl rfl rfl rfl (zo h2) (yz ?_)
 cases g;exact yj
/-plexus.inflation.amount-/
theorem Rc {n} (o:Of n):I6 (qV (Gf n)):=by
 intro a0 r g;rw[qV]at g;refine yw func52 ntmps52 ?_;exact eU g
/-(plexus.inflation.target).covers-/
set_option maxHeartbeats 0 in
theorem Re {n} (o:Of n):I7 (ky (Gf n)):=by
 intro a0 a1 r g;rw[ky]at g;refine yw func21 ntmps21 ?_;refine yc g (o.a.Bt _ _) λy1 g=>?_;refine aJ g λ_ g=>?_;refine ay g (λ_ g=>?_) λ_ g=>?_;refine yo [0,1,2,3,4,5,6,7,8,9,10] [] [] ?_;obtain⟨y4,ey4,g⟩:=aH g (o.a.cH _ _);refine yl (yC ey4) ?_;obtain⟨y5,ey5,g⟩:=aH g (o.a.ek _ _);refine yl (yC ey5) ?_;refine aJ g λ_ g=>?_;obtain⟨y7,ey7,g⟩:=aH g (o.a.cH _ _);refine yl (yC ey7) ?_;obtain⟨y8,ey8,g⟩:=aH g (o.a.ek _ _);refine yl (yC ey8) ?_;cases g;exact zl;refine ay g (λ_ g=>?_) λ_ g=>?_;refine yo [0,1,2,3,4,5,6,7,8,9,10] [] [] ?_;obtain⟨y10,ey10,g⟩:=aH g (o.a.cH _ _);refine yl (yC ey10) ?_;obtain⟨y11,ey11,g⟩:=aH g (o.a.ek _ _);refine yl (yC ey11) ?_;refine bc g λ_ g=>?_;obtain⟨y13,ey13,g⟩:=aH g (o.a.cH _ _);refine yl (yC ey13) ?_;obtain⟨y14,ey14,g⟩:=aH g (o.a.ek _ _);refine yl (yC ey14) ?_;cases g;exact zl;refine ay g (λ_ g=>?_) λ_ g=>?_;refine yk<|yL (S:=Int) (G:=λm s=>lT (Gf m) a0 a1 s) (s0:=0) 2 [2,4,42,43] [44] (λs=>[(44,.d (.v (.int .i64 s)))]) (λs=>[]) g ?_;rintro n s16 _ g;change nF (Gf n) a0 a1 s16=_ at g;rw[nF]at g;refine yz ?_
 refine bc g λ_ g=>?_;refine yX g ab.aE λx18 _ _ g=>?_;refine yo [0,1,2,3,4,5] [] [] ?_;obtain⟨y20,ey20,g⟩:=aH g (o.a.kB _ _);refine yl (yC ey20) ?_;obtain⟨y21,ey21,g⟩:=aH g (o.a.ek _ _);refine yl (yC ey21) ?_;refine aJ g λ_ g=>?_;exact yk (yN _ n ⟨by omega,g⟩);refine ay g (λ_ g=>?_) λ_ g=>?_;refine yo [0,1,2,3,4,5,6,7,8,9,10,11,12] [] [] ?_;obtain⟨y24,ey24,g⟩:=aH g (o.a.kB _ _);refine yl (yC ey24) ?_;obtain⟨y25,ey25,g⟩:=aH g (o.a.cH _ _);refine yl (yC ey25) ?_;obtain⟨y26,ey26,g⟩:=aH g (o.a.ek _ _);refine yl (yC ey26) ?_;refine bc g λ_ g=>?_;obtain⟨y28,ey28,g⟩:=aH g (o.a.kB _ _);refine yl (yC ey28) ?_;obtain⟨y29,ey29,g⟩:=aH g (o.a.cH _ _);refine yl (yC ey29) ?_;obtain⟨y30,ey30,g⟩:=aH g (o.a.ek _ _);refine yl (yC ey30) ?_;cases g;exact zl;refine ay g (λ_ g=>?_) λ_ g=>?_;refine yo [0,1,2,3,4] [] [] ?_;obtain⟨y32,ey32,g⟩:=aH g (o.a.cH _ _);refine yl (yC ey32) ?_;obtain⟨y33,ey33,g⟩:=aH g (o.a.ek _ _);refine yl (yC ey33) ?_;cases g;exact zl;refine ay g (λ_ g=>?_) λ_ g=>?_;refine yc g (o.a.rE _) λy35 g=>?_;refine aJ g λ_ g=>?_;refine yc g (o.a.rF _ _) λy37 g=>?_;refine yo [0,1,2,3,4,5,6,7] [] [] ?_;refine bc g λ_ g=>?_;obtain⟨y39,ey39,g⟩:=aH g (o.a.cH _ _);refine yl (yC ey39) ?_;obtain⟨y40,ey40,g⟩:=aH g (o.a.ek _ _);refine yl (yC ey40) ?_;cases g;exact zl;refine ay g (λ_ g=>?_) λ_ g=>?_;refine yc g (o.a.rE _) λy42 g=>?_;refine aJ g λ_ g=>?_;refine yc g (o.a.rF _ _) λy44 g=>?_;refine yo [0,1,2,3,4,5,6,7] [] [] ?_;refine bc g λ_ g=>?_;obtain⟨y46,ey46,g⟩:=aH g (o.a.cH _ _);refine yl (yC ey46) ?_;obtain⟨y47,ey47,g⟩:=aH g (o.a.ek _ _);refine yl (yC ey47) ?_;cases g;exact zl;refine ay g (λ_ g=>?_) λ_ g=>?_;refine yo [0,1,2,3,4] [] [] ?_;obtain⟨y49,ey49,g⟩:=aH g (o.a.cH _ _);refine yl (yC ey49) ?_;obtain⟨y50,ey50,g⟩:=aH g (o.a.oZ _ _);refine yl (yC ey50) ?_;cases g;exact zl
 iterate 2 (refine ay g (λ_ g=>?_) λ_ g=>?_)
 refine yo [0,1,2,3,4,5,6] [] [] ?_;obtain⟨y53,ey53,g⟩:=aH g (o.a.cH _ _);refine yl (yC ey53) ?_;obtain⟨y54,ey54,g⟩:=aH g (o.a.rH _ _ _);refine yl (yC ey54) ?_;cases g;exact zl;refine bc g λ_ g=>?_;refine yo [0,1,2,3,4,5,6] [] [] ?_;obtain⟨y56,ey56,g⟩:=aH g (o.a.cH _ _);refine yl (yC ey56) ?_;obtain⟨y57,ey57,g⟩:=aH g (o.a.JA _ _ _);refine yl (yC ey57) ?_;cases g;exact zl;refine bc g λ_ g=>?_;refine yc g (o.a.JB _ _) λy59 g=>?_;cases g;exact zl
/-(plexus.inflation.target).holds-/
theorem Rf {n} (o:Of n):I8 (oL (Gf n)):=by
 intro a0 a1 r g;rw[oL]at g;refine yw func34 ntmps34 ?_;refine aJ g λ_ g=>?_;refine ay g (λ_ g=>?_) λ_ g=>?_;refine yo [0,1,2,3,4] [] [] ?_;obtain⟨y3,ey3,g⟩:=aH g (o.a.cH _ _);refine yl (yC ey3) ?_;obtain⟨y4,ey4,g⟩:=aH g (o.a.ek _ _);refine yl (yC ey4) ?_;cases g;exact zl;refine ay g (λ_ g=>?_) λ_ g=>?_;refine yo [0,1,2,3,4,5,6,7,8,9,10] [] [] ?_;obtain⟨y6,ey6,g⟩:=aH g (o.a.cH _ _);refine yl (yC ey6) ?_;obtain⟨y7,ey7,g⟩:=aH g (o.a.oZ _ _);refine yl (yC ey7) ?_;refine aJ g λ_ g=>?_;obtain⟨y9,ey9,g⟩:=aH g (o.a.cH _ _);refine yl (yC ey9) ?_;obtain⟨y10,ey10,g⟩:=aH g (o.a.oZ _ _);refine yl (yC ey10) ?_;cases g;exact zl;refine bc g λ_ g=>?_;refine yo [0,1,2,3,4,5,6,7,8,9,10] [] [] ?_;obtain⟨y12,ey12,g⟩:=aH g (o.a.cH _ _);refine yl (yC ey12) ?_;obtain⟨y13,ey13,g⟩:=aH g (o.a.oZ _ _);refine yl (yC ey13) ?_;refine bc g λ_ g=>?_;obtain⟨y15,ey15,g⟩:=aH g (o.a.cH _ _);refine yl (yC ey15) ?_;obtain⟨y16,ey16,g⟩:=aH g (o.a.oZ _ _);refine yl (yC ey16) ?_;cases g;exact zl
/-(plexus.inflation.target).reaches-/
theorem Rg {n} (o:Of n):I9 (oN (Gf n)):=by
 intro a0 a1 a2 r g;rw[oN]at g;refine yw func35 ntmps35 ?_;refine ay g (λ_ g=>?_) λ_ g=>?_;refine yo [0,1,2,3,4,5,6,7,8,9,10,11,12,13,14,15,16,17,18,19,20,21,22] [] [] ?_;obtain⟨y2,ey2,g⟩:=aH g (o.a.cH _ _);refine yl (yC ey2) ?_;obtain⟨y3,ey3,g⟩:=aH g (o.a.rH _ _ _);refine yl (yC ey3) ?_;refine ay g (λ_ g=>?_) λ_ g=>?_;obtain⟨y5,ey5,g⟩:=aH g (o.a.cH _ _);refine yl (yC ey5) ?_;obtain⟨y6,ey6,g⟩:=aH g (o.a.rG _);refine yl (yC ey6) ?_;refine aJ g λ_ g=>?_;obtain⟨y8,ey8,g⟩:=aH g (o.a.cH _ _);refine yl (yC ey8) ?_;obtain⟨y9,ey9,g⟩:=aH g (o.a.rH _ _ _);refine yl (yC ey9) ?_;refine bc g λ_ g=>?_;obtain⟨y11,ey11,g⟩:=aH g (o.a.cH _ _);refine yl (yC ey11) ?_;obtain⟨y12,ey12,g⟩:=aH g (o.a.rG _);refine yl (yC ey12) ?_;cases g;exact zl;obtain⟨y13,ey13,g⟩:=aH g (o.a.cH _ _);refine yl (yC ey13) ?_;obtain⟨y14,ey14,g⟩:=aH g (o.a.rH _ _ _);refine yl (yC ey14) ?_;refine bc g λ_ g=>?_;obtain⟨y16,ey16,g⟩:=aH g (o.a.cH _ _);refine yl (yC ey16) ?_;obtain⟨y17,ey17,g⟩:=aH g (o.a.rG _);refine yl (yC ey17) ?_;cases g;exact zl;refine yc g (o.a.Jz _ _ _) λy18 g=>?_;cases g;exact zl
/-(plexus.inflation.target).number-/
theorem Rh {n} (o:Of n):I' (oM (Gf n)):=by
 intro a0 a1 a2 r g;rw[oM]at g;refine yw func53 ntmps53 ?_;refine yo [0,1,2,3,4,5,6,7,8,9,10,11,12,13,14,15,16,17,18] [] [] ?_;refine bc g λ_ g=>?_;obtain⟨y2,ey2,g⟩:=aH g (o.a.cH _ _);refine yl (yC ey2) ?_;obtain⟨y3,ey3,g⟩:=aH g (o.a.uK _ _);refine yl (yC ey3) ?_;refine bc g λ_ g=>?_;obtain⟨y5,ey5,g⟩:=aH g (o.a.cH _ _);refine yl (yC ey5) ?_;obtain⟨y6,ey6,g⟩:=aH g (o.a.ek _ _);refine yl (yC ey6) ?_;cases g;exact zl
/-(plexus.inflation.target).under-/
theorem Ri {n} (o:Of n):Ja (oO (Gf n)):=by
 intro a0 a1 a2 r g;rw[oO]at g;refine yw func36 ntmps36 ?_;refine ay g (λ_ g=>?_) λ_ g=>?_;refine yo [0,1,2,3,4,5,6,7,8,9,10] [] [] ?_;obtain⟨y2,ey2,g⟩:=aH g (o.a.cH _ _);refine yl (yC ey2) ?_;obtain⟨y3,ey3,g⟩:=aH g (o.a.JA _ _ _);refine yl (yC ey3) ?_;refine bc g λ_ g=>?_;obtain⟨y5,ey5,g⟩:=aH g (o.a.cH _ _);refine yl (yC ey5) ?_;obtain⟨y6,ey6,g⟩:=aH g (o.a.rG _);refine yl (yC ey6) ?_;cases g;exact zl;refine yc g (o.a.Jz _ _ _) λy7 g=>?_;cases g;exact zl
/-(plexus.inflation.target).keys-/
theorem Rj {n} (o:Of n):Jb (qX (Gf n)):=by
 intro a0 a1 r g;rw[qX]at g;refine yw func37 ntmps37 ?_;refine yc g (o.a.M6 _ _ _) λy1 g=>?_;cases g;exact zl
/-slices.IndexFunc[[]plexus.api.Expr,plexus.api.Expr]-/
theorem M1 {n} (o:Of n):Fj (nh (Gf n)):=by
 intro a0 a1 a2 r g;rw[nh]at g;refine yw func43 ntmps43 ?_;refine yk<|yL (S:=Int) (G:=λm s=>lE (Gf m) a0 a1 a2 s) (s0:=0) 0 [0,1,4,7] [8] (λs=>[(8,.d (.v (.int .i64 s)))]) (λs=>[]) g ?_;rintro n s1 _ g;change mV (Gf n) a0 a1 a2 s1=_ at g;rw[mV]at g;refine yz ?_
 refine bc g λ_ g=>?_;refine yX g ab.aE λx3 _ _ g=>?_;refine yc g (o.a.RY _ _ _) λy5 g=>?_;refine aJ g λ_ g=>?_;exact yk (yN _ n ⟨by omega,g⟩)
/-(plexus.inflation.target).keys$1-/
theorem Rk {n} (o:Of n):Jc (qY (Gf n)):=by
 intro a0 a1 a2 r g;rw[qY]at g;refine yw func54 ntmps54 ?_;refine yo [0,1,2,3,4,5,6,7,8,9,10,11,12,13,14,15,16,17,18,19,20,21,22,23,24,25,26,27] [] [] ?_
 iterate 2 (refine bc g λ_ g=>?_)
 refine yY g ab.aE λx3 _ _ g=>?_;obtain⟨y5,ey5,g⟩:=aH g (o.a.uK _ _);refine yl (yC ey5) ?_;refine bc g λ_ g=>?_;refine yY g ab.aE λx7 _ _ g=>?_;obtain⟨y9,ey9,g⟩:=aH g (o.a.ek _ _);refine yl (yC ey9) ?_;cases g;exact zl
/-plexus.inflation.Check-/
theorem w9 {n} (o:Of n):C9 (B9 (Gf n)):=by
 intro a0 a1 r g;rw[B9]at g;refine yw func9 ntmps9 ?_;refine yc g (o.a.Bs _ _) λy1 g=>?_;refine aJ g λ_ g=>?_;refine yc g (o.a.ek _ _) λy3 g=>?_;cases g;exact zl
/-(plexus.inflation.target).blame-/
theorem Rl {n} (o:Of n):Jd (uB (Gf n)):=by
 intro a0 a1 r g;rw[uB]at g;refine yw func22 ntmps22 ?_;refine ay g (λ_ g=>?_) λ_ g=>?_;refine yc g (o.a.cH _ _) λy2 g=>?_;refine yc g (o.a.ek _ _) λy3 g=>?_;refine ay g (λ_ g=>?_) λ_ g=>?_;refine yc g (o.a.mH _ _) λy5 g=>?_;cases g;exact zl;refine yo [0,1,2,3,4] [] [] ?_;obtain⟨y6,ey6,g⟩:=aH g (o.a.cH _ _);refine yl (yC ey6) ?_;obtain⟨y7,ey7,g⟩:=aH g (o.a.mH _ _);refine yl (yC ey7) ?_;cases g;exact zl;refine ay g (λ_ g=>?_) λ_ g=>?_;refine yk<|yL (S:=Int) (G:=λm s=>xy (Gf m) a0 a1 s) (s0:=0) 2 [2,3,4,30,31] [32] (λs=>[(32,.d (.v (.int .i64 s)))]) (λs=>[]) g ?_;rintro n s9 _ g;change xw (Gf n) a0 a1 s9=_ at g;rw[xw]at g;refine yz ?_
 refine bc g λ_ g=>?_;refine yX g ab.aE λx11 _ _ g=>?_;refine yc g (o.a.kB _ _) λy13 g=>?_;refine yc g (o.a.ek _ _) λy14 g=>?_;refine ay g (λ_ g=>?_) λ_ g=>?_;refine yc g (o.a.mH _ _) λy16 g=>?_;cases g;exact zl;exact yk (yN _ n ⟨by omega,g⟩);refine ay g (λ_ g=>?_) λ_ g=>?_;refine yc g (o.a.kB _ _) λy18 g=>?_;refine yo [0,1,2,3,4] [] [] ?_;obtain⟨y19,ey19,g⟩:=aH g (o.a.cH _ _);refine yl (yC ey19) ?_;obtain⟨y20,ey20,g⟩:=aH g (o.a.ek _ _);refine yl (yC ey20) ?_;refine ay g (λ_ g=>?_) λ_ g=>?_;refine yo [0,1,2,3,4] [] [] ?_;obtain⟨y22,ey22,g⟩:=aH g (o.a.cH _ _);refine yl (yC ey22) ?_;obtain⟨y23,ey23,g⟩:=aH g (o.a.mH _ _);refine yl (yC ey23) ?_;cases g;exact zl;refine yo [0,1,2,3,4,5] [] [] ?_;obtain⟨y24,ey24,g⟩:=aH g (o.a.kB _ _);refine yl (yC ey24) ?_;obtain⟨y25,ey25,g⟩:=aH g (o.a.cH _ _);refine yl (yC ey25) ?_;obtain⟨y26,ey26,g⟩:=aH g (o.a.mH _ _);refine yl (yC ey26) ?_;cases g;exact zl;refine bc g λ_ g=>?_;refine yo [0,1,2,3,4] [] [] ?_;obtain⟨y28,ey28,g⟩:=aH g (o.a.cH _ _);refine yl (yC ey28) ?_;obtain⟨y29,ey29,g⟩:=aH g (o.a.mH _ _);refine yl (yC ey29) ?_;cases g;exact zl
/-plexus.inflation.Blame-/
theorem Rm {n} (o:Of n):Je (AF (Gf n)):=by
 intro a0 a1 r g;rw[AF]at g;refine yw func13 ntmps13 ?_;refine yc g (o.a.Bs _ _) λy1 g=>?_;refine aJ g λ_ g=>?_;refine yc g (o.a.ek _ _) λy3 g=>?_;refine aJ g λ_ g=>?_;refine yc g (o.a.mH _ _) λy5 g=>?_;cases g;exact zl
/-(plexus.inflation.collector).expression-/
set_option maxHeartbeats 0 in
theorem Rn {n} (o:Of n):Jf (Ad (Gf n)):=by
 intro a0 a1 a2 r g;rw[Ad]at g;refine eP.walk (E:=env) func23 rfl zk (rs:=_) rfl ntmps23 rfl (yz ?_);refine yc g (o.a.Bt _ _) λy1 g=>?_;refine ay g (λ_ g=>?_) λ_ g=>?_;refine yk<|yL (S:=ab) (G:=λm s=>xl (Gf m) a0 s) (s0:=a1) 4 [3,4,5] [] (λs=>[]) (λs=>[(2,.box ((ab.cs s).map .d))]) g ?_;rintro n s3 _ g;change xk (Gf n) a0 s3=_ at g;rw[xk]at g;refine yz ?_
 refine ay g (λ_ g=>?_) λ_ g=>?_;refine yX g ab.aE λx5 _ _ g=>?_;exact yk (yN x5 n ⟨by omega,g⟩);refine yk<|ai.jY Tryz.underlying58 Tryz.underlying3 rfl rfl rfl rfl (yz ?_)
 refine Ok.fin aI ?_;obtain rfl:=cQ g;exact RD.Np rfl rfl rfl aI rfl zi rfl;refine ay g (λ_ g=>?_) λ_ g=>?_;refine yo [0,1,2,3,4,5] [] [] ?_;refine yY g ab.aE λx8 _ _ g=>?_;obtain⟨y10,ey10,g⟩:=aH g (o.a.ek _ _);refine yl (yC ey10) ?_;refine ay g (λ_ g=>?_) λ_ g=>?_;refine yo [0,1,2,3,4,5] [(6,.one)] [] ?_;refine yY g ab.aE λx12 _ _ g=>?_;obtain⟨y14,ey14,g⟩:=aH g (o.a.gy _ _ _);refine yk<|ai.dO 0 ak.nil rfl rfl rfl rfl rfl ey14 rfl rfl (by first|rfl|(simp only[cp];rfl)) rfl cJ.bL (yz ?_)
 refine Ok.fin aI ?_;obtain rfl:=cQ g;exact RD.dV rfl rfl rfl aI rfl zi rfl;refine yo [0,1,2,3,4,5] [(6,.one)] [] ?_;refine yY g ab.aE λx15 _ _ g=>?_;obtain⟨y17,ey17,g⟩:=aH g (o.a.gy _ _ _);refine yk<|ai.dO 0 ak.nil rfl rfl rfl rfl rfl ey17 rfl rfl (by first|rfl|(simp only[cp];rfl)) rfl cJ.bL (yz ?_)
 refine Ok.fin aI ?_;obtain rfl:=cQ g;exact RD.dV rfl rfl rfl aI rfl zi rfl;refine ay g (λ_ g=>?_) λ_ g=>?_;refine yo [0,1,2,3,4,5] [(6,.one)] [] ?_;refine yY g ab.aE λx19 _ _ g=>?_;obtain⟨y21,ey21,g⟩:=aH g (o.a.gy _ _ _);refine yk<|ai.dO 0 ak.nil rfl rfl rfl rfl rfl ey21 rfl rfl (by first|rfl|(simp only[cp];rfl)) rfl cJ.bL (yz ?_)
 refine yo [0,1,2,3,4,5] [(6,.one)] [] ?_;refine yY g ab.aE λx22 _ _ g=>?_;obtain⟨y24,ey24,g⟩:=aH g (o.a.gy _ _ _);refine yk<|ai.dO 0 ak.nil rfl rfl rfl rfl rfl ey24 rfl rfl (by first|rfl|(simp only[cp];rfl)) rfl cJ.bL (yz ?_)
 refine Ok.fin aI ?_;obtain rfl:=cQ g;exact RD.dV rfl rfl rfl aI rfl zi rfl;refine ay g (λ_ g=>?_) λ_ g=>?_;refine yk<|yL (S:=Int×(List Int)) (G:=λm s=>xn (Gf m) a1 a2 s.1 s.2) (s0:=(0,a0)) 4 [3,5,69,70] [71] (λs=>[(71,.d (.v (.int .i64 s.1)))]) (λs=>[(0,.bL s.2)]) g ?_;rintro n ⟨s26,s27⟩ _ g;change xm (Gf n) a1 a2 s26 s27=_ at g;rw[xm]at g;refine yz ?_
 refine ay g (λ_ g=>?_) λ_ g=>?_;refine yX g ab.aE λx29 _ _ g=>?_;refine yo [0,1,2,3,4] [(5,.one)] [] ?_;obtain⟨y31,ey31,g⟩:=aH g (o.a.kB _ _);refine yl (yC ey31) ?_;obtain⟨y32,ey32,g⟩:=aH g (o.a.gy _ _ _);refine yk<|ai.dO 0 ak.nil rfl rfl rfl rfl rfl ey32 rfl rfl (by first|rfl|(simp only[cp];rfl)) rfl cJ.bL (yz ?_)
 exact yk (yN (_,_) n ⟨by omega,g⟩);refine Ok.fin aI ?_;obtain rfl:=cQ g;exact RD.dV rfl rfl rfl aI rfl zi rfl;refine ay g (λ_ g=>?_) λ_ g=>?_;refine yo [0,1,2,3,4,5,6] [(7,.one)] [] ?_;refine yY g ab.aE λx34 _ _ g=>?_;obtain⟨y36,ey36,g⟩:=aH g (o.a.kB _ _);refine yl (yC ey36) ?_;obtain⟨y37,ey37,g⟩:=aH g (o.a.gy _ _ _);refine yk<|ai.dO 0 ak.nil rfl rfl rfl rfl rfl ey37 rfl rfl (by first|rfl|(simp only[cp];rfl)) rfl cJ.bL (yz ?_)
 refine yo [0,1,2,3,4,5,6] [(7,.one)] [] ?_;refine yY g ab.aE λx38 _ _ g=>?_;obtain⟨y40,ey40,g⟩:=aH g (o.a.kB _ _);refine yl (yC ey40) ?_;obtain⟨y41,ey41,g⟩:=aH g (o.a.gy _ _ _);refine yk<|ai.dO 0 ak.nil rfl rfl rfl rfl rfl ey41 rfl rfl (by first|rfl|(simp only[cp];rfl)) rfl cJ.bL (yz ?_)
 refine Ok.fin aI ?_;obtain rfl:=cQ g;exact RD.dV rfl rfl rfl aI rfl zi rfl;refine ay g (λ_ g=>?_) λ_ g=>?_;refine yo [0,1,2,3,4,5] [(6,.one)] [] ?_;refine yY g ab.aE λx43 _ _ g=>?_;obtain⟨y45,ey45,g⟩:=aH g (o.a.gy _ _ _);refine yk<|ai.dO 0 ak.nil rfl rfl rfl rfl rfl ey45 rfl rfl (by first|rfl|(simp only[cp];rfl)) rfl cJ.bL (yz ?_)
 refine Ok.fin aI ?_;obtain rfl:=cQ g;exact RD.dV rfl rfl rfl aI rfl zi rfl;refine ay g (λ_ g=>?_) λ_ g=>?_;refine yc g (o.a.rE _) λy47 g=>?_;refine yc g (o.a.rF _ _) λy48 g=>?_;refine yo [0,1,2,3,4,5] [(6,.one)] [] ?_;refine yY g ab.aE λx49 _ _ g=>?_;obtain⟨y51,ey51,g⟩:=aH g (o.a.gy _ _ _);refine yk<|ai.dO 0 ak.nil rfl rfl rfl rfl rfl ey51 rfl rfl (by first|rfl|(simp only[cp];rfl)) rfl cJ.bL (yz ?_)
 refine Ok.fin aI ?_;obtain rfl:=cQ g;exact RD.dV rfl rfl rfl aI rfl zi rfl;refine ay g (λ_ g=>?_) λ_ g=>?_;refine yc g (o.a.rE _) λy53 g=>?_;refine yc g (o.a.rF _ _) λy54 g=>?_;refine yo [0,1,2,3,4,5] [(6,.one)] [] ?_;refine yY g ab.aE λx55 _ _ g=>?_;obtain⟨y57,ey57,g⟩:=aH g (o.a.gy _ _ _);refine yk<|ai.dO 0 ak.nil rfl rfl rfl rfl rfl ey57 rfl rfl (by first|rfl|(simp only[cp];rfl)) rfl cJ.bL (yz ?_)
 refine Ok.fin aI ?_;obtain rfl:=cQ g;exact RD.dV rfl rfl rfl aI rfl zi rfl;refine ay g (λ_ g=>?_) λ_ g=>?_;refine yo [0,1,2,3,4,5] [(6,.one)] [] ?_;refine yY g ab.aE λx59 _ _ g=>?_;obtain⟨y61,ey61,g⟩:=aH g (o.a.rI _ _ _);refine yk<|ai.dO 0 ak.nil rfl rfl rfl rfl rfl ey61 rfl rfl (by first|rfl|(simp only[cp];rfl)) rfl cJ.bL (yz ?_)
 refine Ok.fin aI ?_;obtain rfl:=cQ g;exact RD.dV rfl rfl rfl aI rfl zi rfl;refine ay g (λ_ g=>?_) λ_ g=>?_;refine yo [0,1,2,3,4,5,6,7] [(8,.one)] [] ?_;refine yY g ab.aE λx63 _ _ g=>?_;obtain⟨y65,ey65,g⟩:=aH g (o.a.rJ _ _ _ _);refine yk<|ai.dO 0 ak.nil rfl rfl rfl rfl rfl ey65 rfl rfl (by first|rfl|(simp only[cp];rfl)) rfl cJ.bL (yz ?_)
 refine Ok.fin aI ?_;obtain rfl:=cQ g;exact RD.dV rfl rfl rfl aI rfl zi rfl;refine ay g (λ_ g=>?_) λ_ g=>?_;refine yo [0,1,2,3,4,5,6,7,8,9,10,11] [(12,.one)] [] ?_;obtain⟨y67,ey67,g⟩:=aH g (o.a.JB _ _);refine yl (yC ey67) ?_;refine yY g ab.aE λx68 _ _ g=>?_;refine yY g ab.aE λx70 _ _ g=>?_;obtain⟨y72,ey72,g⟩:=aH g (o.a.gy _ _ _);refine yk<|ai.dO 0 ak.nil rfl rfl rfl rfl rfl ey72 rfl rfl (by first|rfl|(simp only[cp];rfl)) rfl cJ.bL (yz ?_)
 refine Ok.fin aI ?_;obtain rfl:=cQ g;exact RD.dV rfl rfl rfl aI rfl zi rfl;refine Ok.fin aI ?_;obtain rfl:=cQ g;exact RD.dV rfl rfl rfl aI rfl zi rfl
/-(plexus.inflation.collector).condition-/
theorem Ro {n} (o:Of n):Jg (Af (Gf n)):=by
 intro a0 a1 a2 r g;rw[Af]at g;refine eP.walk (E:=env) func38 rfl zk (rs:=_) rfl ntmps38 rfl (yz ?_);refine ay g (λ_ g=>?_) λ_ g=>?_;refine yo [0,1,2,3,4,5] [(6,.one)] [] ?_;refine yY g ab.aE λx2 _ _ g=>?_;obtain⟨y4,ey4,g⟩:=aH g (o.a.gy _ _ _);refine yk<|ai.dO 0 ak.nil rfl rfl rfl rfl rfl ey4 rfl rfl (by first|rfl|(simp only[cp];rfl)) rfl cJ.bL (yz ?_)
 refine Ok.fin aI ?_;obtain rfl:=cQ g;exact RD.dV rfl rfl rfl aI rfl zi rfl;refine ay g (λ_ g=>?_) λ_ g=>?_;refine yo [0,1,2,3,4,5] [] [] ?_;refine yY g ab.aE λx6 _ _ g=>?_;obtain⟨y8,ey8,g⟩:=aH g (o.a.oZ _ _);refine yl (yC ey8) ?_;refine ay g (λ_ g=>?_) λ_ g=>?_;refine yo [0,1,2,3,4,5] [(6,.one)] [] ?_;refine yY g ab.aE λx10 _ _ g=>?_;obtain⟨y12,ey12,g⟩:=aH g (o.a.rI _ _ _);refine yk<|ai.dO 0 ak.nil rfl rfl rfl rfl rfl ey12 rfl rfl (by first|rfl|(simp only[cp];rfl)) rfl cJ.bL (yz ?_)
 refine Ok.fin aI ?_;obtain rfl:=cQ g;exact RD.dV rfl rfl rfl aI rfl zi rfl;refine yo [0,1,2,3,4,5] [(6,.one)] [] ?_;refine yY g ab.aE λx13 _ _ g=>?_;obtain⟨y15,ey15,g⟩:=aH g (o.a.rI _ _ _);refine yk<|ai.dO 0 ak.nil rfl rfl rfl rfl rfl ey15 rfl rfl (by first|rfl|(simp only[cp];rfl)) rfl cJ.bL (yz ?_)
 refine Ok.fin aI ?_;obtain rfl:=cQ g;exact RD.dV rfl rfl rfl aI rfl zi rfl;refine ay g (λ_ g=>?_) λ_ g=>?_;refine yo [0,1,2,3,4,5] [(6,.one)] [] ?_;refine yY g ab.aE λx17 _ _ g=>?_;obtain⟨y19,ey19,g⟩:=aH g (o.a.rI _ _ _);refine yk<|ai.dO 0 ak.nil rfl rfl rfl rfl rfl ey19 rfl rfl (by first|rfl|(simp only[cp];rfl)) rfl cJ.bL (yz ?_)
 refine yo [0,1,2,3,4,5] [(6,.one)] [] ?_;refine yY g ab.aE λx20 _ _ g=>?_;obtain⟨y22,ey22,g⟩:=aH g (o.a.rI _ _ _);refine yk<|ai.dO 0 ak.nil rfl rfl rfl rfl rfl ey22 rfl rfl (by first|rfl|(simp only[cp];rfl)) rfl cJ.bL (yz ?_)
 refine Ok.fin aI ?_;obtain rfl:=cQ g;exact RD.dV rfl rfl rfl aI rfl zi rfl;refine Ok.fin aI ?_;obtain rfl:=cQ g;exact RD.dV rfl rfl rfl aI rfl zi rfl
/-(plexus.inflation.collector).sum-/
theorem Rp {n} (o:Of n):Jh (Ah (Gf n)):=by
 intro a0 a1 a2 a3 r g;rw[Ah]at g;refine eP.walk (E:=env) func39 rfl zk (rs:=_) rfl ntmps39 rfl (yz ?_);refine ay g (λ_ g=>?_) λ_ g=>?_;refine yo [0,1,2,3,4,5,6,7,8,9,10,11,12,13] [] [] ?_;refine yY g ab.aE λx2 _ _ g=>?_;obtain⟨y4,ey4,g⟩:=aH g (o.a.rH _ _ _);refine yl (yC ey4) ?_;refine ay g (λ_ g=>?_) λ_ g=>?_;refine yY g ab.aE λx6 _ _ g=>?_;obtain⟨y8,ey8,g⟩:=aH g (o.a.rG _);refine yl (yC ey8) ?_;refine ay g (λ_ g=>?_) λ_ g=>?_;refine yo [0,1,2,3,4,5,6] [(7,.one)] [] ?_;refine yY g ab.aE λx10 _ _ g=>?_;obtain⟨y12,ey12,g⟩:=aH g (o.a.rJ _ _ _ _);refine yk<|ai.dO 0 ak.nil rfl rfl rfl rfl rfl ey12 rfl rfl (by first|rfl|(simp only[cp];rfl)) rfl cJ.bL (yz ?_)
 refine Ok.fin aI ?_;obtain rfl:=cQ g;exact RD.dV rfl rfl rfl aI rfl zi rfl;refine yo [0,1,2,3,4,5,6] [(7,.one)] [] ?_;refine yY g ab.aE λx13 _ _ g=>?_;obtain⟨y15,ey15,g⟩:=aH g (o.a.rJ _ _ _ _);refine yk<|ai.dO 0 ak.nil rfl rfl rfl rfl rfl ey15 rfl rfl (by first|rfl|(simp only[cp];rfl)) rfl cJ.bL (yz ?_)
 refine Ok.fin aI ?_;obtain rfl:=cQ g;exact RD.dV rfl rfl rfl aI rfl zi rfl;refine yo [0,1,2,3,4,5,6] [(7,.one)] [] ?_;refine yY g ab.aE λx16 _ _ g=>?_;obtain⟨y18,ey18,g⟩:=aH g (o.a.rJ _ _ _ _);refine yk<|ai.dO 0 ak.nil rfl rfl rfl rfl rfl ey18 rfl rfl (by first|rfl|(simp only[cp];rfl)) rfl cJ.bL (yz ?_)
 refine Ok.fin aI ?_;obtain rfl:=cQ g;exact RD.dV rfl rfl rfl aI rfl zi rfl;refine ay g (λ_ g=>?_) λ_ g=>?_;refine yo [0,1,2,3,4,5,6] [(7,.one)] [] ?_;refine yY g ab.aE λx20 _ _ g=>?_;obtain⟨y22,ey22,g⟩:=aH g (o.a.rJ _ _ _ _);refine yk<|ai.dO 0 ak.nil rfl rfl rfl rfl rfl ey22 rfl rfl (by first|rfl|(simp only[cp];rfl)) rfl cJ.bL (yz ?_)
 refine Ok.fin aI ?_;obtain rfl:=cQ g;exact RD.dV rfl rfl rfl aI rfl zi rfl;refine yo [0,1,2,3,4,5] [(6,.one)] [] ?_;refine yY g ab.aE λx23 _ _ g=>?_;obtain⟨y25,ey25,g⟩:=aH g (o.a.gy _ _ _);refine yk<|ai.dO 0 ak.nil rfl rfl rfl rfl rfl ey25 rfl rfl (by first|rfl|(simp only[cp];rfl)) rfl cJ.bL (yz ?_)
 refine Ok.fin aI ?_;obtain rfl:=cQ g;exact RD.dV rfl rfl rfl aI rfl zi rfl
/-plexus.inflation.Carriers-/
theorem Rq {n} (o:Of n):Ji (Aj (Gf n)):=by
 intro a0 a1 r g;rw[Aj]at g;refine yw func15 ntmps15 ?_;refine yc g (o.a.Bs _ _) λy1 g=>?_;refine aJ g λ_ g=>?_;refine yc g (o.a.ek _ _) λy3 g=>?_;refine aJ g λ_ g=>?_;refine yk<|ai.LH rfl rfl (yz ?_)
 obtain⟨y5,ey5,g⟩:=aH g (o.a.gy _ _ _);refine yk<|ai.g7 2 (eP.imp ey5 (by repeat(first|exact iO.nil|refine iO.same ?_|refine iO.d zi ?_))) rfl rfl rfl rfl cJ.bL rfl (yz ?_)
 refine yk<|ai.inl (rs:=_) rfl func25 rfl zk rfl ntmps25 rfl rfl (yz ?_)
 obtain⟨h6,g⟩:=cx g;refine yk<|ai.sorted ⟨_,func24,by kernel_rfl,by kernel_rfl⟩ KZ h6 rfl rfl rfl rfl (yz ?_)
 cases g;exact zl
/-plexus.inflation.Covers-/
theorem Rr {n} (o:Of n):Jj (Am (Gf n)):=by
 intro a0 a1 r g;rw[Am]at g;refine yw func17 ntmps17 ?_;refine yc g (o.a.ek _ _) λy1 g=>?_;cases g;exact zl
/-plexus.plexuslaw21.awake-/
theorem w6 {n} (o:Of n):C6 (B6 (Gf n)):=by
 intro r g;rw[B6]at g;refine yw func6 ntmps6 ?_;refine yc g (o.a.Jx _) λy1 g=>?_;refine yc g (o.a.uL _) λy2 g=>?_;refine yc g (o.a.uL _) λy3 g=>?_;refine yc g (o.a.c9 _ _) λy4 g=>?_;refine yc g (o.a.c9 _ _) λy5 g=>?_;refine yc g (o.a.Bu _ _) λy6 g=>?_;refine yc g (o.a.Bv _ _) λy7 g=>?_;refine yc g (o.a.Bv _ _) λy8 g=>?_;refine yc g (o.a.Bu _ _) λy9 g=>?_
 iterate 8 (refine bc g λ_ g=>?_)
 refine yX g jl λx18 _ _ g=>?_
 iterate 3 (refine bc g λ_ g=>?_)
 refine yc g (o.a.JC _ _) λy23 g=>?_;refine bc g λ_ g=>?_;refine yc g (o.a.JC _ _) λy25 g=>?_;cases g;exact zl
/-plexus.plexusref21.room-/
theorem Rs {n} (o:Of n):Jk (oP (Gf n)):=by
 intro a0 a1 r g;rw[oP]at g;refine yw func19 ntmps19 ?_;refine yk<|yL (S:=Int×Int) (G:=λm s=>lU (Gf m) a0 s.1 s.2) (s0:=(IntKind.i64.wrap (a1-1),0)) 1 [2,4] [5,6] (λs=>[(5,.d (.v (.int .i64 s.1))),(6,.d (.v (.int .i64 s.2)))]) (λs=>[]) g ?_;rintro n ⟨s1,s2⟩ _ g;change nG (Gf n) a0 s1 s2=_ at g;rw[nG]at g;refine yz ?_
 iterate 2 (refine bc g λ_ g=>?_)
 refine yX g ab.aE λx5 _ _ g=>?_;refine yc g (o.a.JD _ _) λy7 g=>?_;exact yk (yN (_,_) n ⟨by omega,g⟩)
/-plexus.plexusref21.Small-/
theorem w8 {n} (o:Of n):C8 (B8 (Gf n)):=by
 intro a0 a1 r g;rw[B8]at g;refine yw func8 ntmps8 ?_;refine yc g (o.a.JD _ _) λy1 g=>?_;cases g;exact zl
/-plexus.plexusref09.shape-/
theorem Rt {n} (o:Of n):Jl (q0 (Gf n)):=by
 intro a0 r g;rw[q0]at g;refine yw func59 ntmps59 ?_;refine ay g (λh1 g=>?_) λh1 g=>?_;refine yT h1 ?_;refine aJ g λ_ g=>?_;refine yF h1 ?_;refine Ok.fL h1 ?_;conv=>(arg 3;whnf)
 exact eU g;refine ay g (λh4 g=>?_) λh4 g=>?_
 iterate 2 (refine aJ g λ_ g=>?_)
 refine ay g (λh7 g=>?_) λh7 g=>?_;refine aJ g λ_ g=>?_;refine ay g (λ_ g=>?_) λ_ g=>?_;exact eU g;refine Ok.fM h1 ?_;conv=>(arg 3;whnf)
 refine Ok.fM (xD h4) ?_;conv=>(arg 3;whnf)
 refine ay g (λ_ g=>?_) λ_ g=>?_;exact eU g
 iterate 3 (refine aJ g λ_ g=>?_)
 refine ay g (λ_ g=>?_) λ_ g=>?_;exact eU g;refine ay g (λ_ g=>?_) λ_ g=>?_;exact eU g;refine Ok.fM (xD h7) ?_;conv=>(arg 3;whnf)
 cases g;exact zl;refine yF (nX h7) ?_;refine Ok.fM h1 ?_;conv=>(arg 3;whnf)
 refine Ok.fM (xD h4) ?_;conv=>(arg 3;whnf)
 iterate 6 (refine yF (nX h7) ?_)
 refine Ok.fL (nX h7) ?_;conv=>(arg 3;whnf)
 exact eU g;refine yT (nX h4) ?_;refine aJ g λ_ g=>?_;refine yF (nX h4) ?_;refine Ok.fM h1 ?_;conv=>(arg 3;whnf)
 refine Ok.fL (nX h4) ?_;conv=>(arg 3;whnf)
 exact eU g
/-plexus.plexusref09.Name-/
theorem Ru {n} (o:Of n):Jm (qZ (Gf n)):=by
 intro a0 r g;rw[qZ]at g;refine yw func89 ntmps89 ?_
 iterate 2 (refine aJ g λ_ g=>?_)
 obtain⟨x3,ex3,j4h,g⟩:=bu g;refine yv (aV.toP (aV.fN ((0:Int).toNat) rfl rfl rfl rfl j4h ex3)) ?_;refine aJ g λ_ g=>?_;obtain⟨x6,ex6,j7h,g⟩:=bu g;refine yv (aV.toP (aV.fN ((0:Int).toNat) rfl rfl rfl rfl j7h ex6)) ?_;refine aJ g λ_ g=>?_;refine yk<|yL (S:=Int) (G:=λm s=>iK (Gf m) a0 s) (s0:=0) 0 [0,2] [3] (λs=>[(3,.d (.v (.int .i64 s)))]) (λs=>[]) g ?_;rintro n s9 _ g;change nH (Gf n) a0 s9=_ at g;rw[nH]at g;refine yz ?_
 refine bc g λ_ g=>?_;obtain⟨x11,ex11,j12h,g⟩:=bu g;refine yv (aV.toP (aV.fN ((s9:Int).toNat) rfl rfl rfl rfl j12h ex11)) ?_;refine ay g (λ_ g=>?_) λ_ g=>?_;obtain⟨x14,ex14,j15h,g⟩:=bu g;refine yv (aV.toP (aV.fN ((s9:Int).toNat) rfl rfl rfl rfl j15h ex14)) ?_;refine ay g (λ_ g=>?_) λ_ g=>?_;obtain⟨x17,ex17,j18h,g⟩:=bu g;refine yv (aV.toP (aV.fN ((s9:Int).toNat) rfl rfl rfl rfl j18h ex17)) ?_;refine aJ g λ_ g=>?_;exact yk (yN _ n ⟨by omega,g⟩);obtain⟨x20,ex20,j21h,g⟩:=bu g;refine yv (aV.toP (aV.fN ((s9:Int).toNat) rfl rfl rfl rfl j21h ex20)) ?_;refine ay g (λ_ g=>?_) λ_ g=>?_;obtain⟨x23,ex23,j24h,g⟩:=bu g;refine yv (aV.toP (aV.fN ((s9:Int).toNat) rfl rfl rfl rfl j24h ex23)) ?_;refine aJ g λ_ g=>?_
 iterate 2 (exact yk (yN _ n ⟨by omega,g⟩))
 obtain⟨x26,ex26,j27h,g⟩:=bu g;refine yv (aV.toP (aV.fN ((s9:Int).toNat) rfl rfl rfl rfl j27h ex26)) ?_;refine ay g (λ_ g=>?_) λ_ g=>?_;obtain⟨x29,ex29,j30h,g⟩:=bu g;refine yv (aV.toP (aV.fN ((s9:Int).toNat) rfl rfl rfl rfl j30h ex29)) ?_;refine ay g (λ_ g=>?_) λ_ g=>?_;obtain⟨x32,ex32,j33h,g⟩:=bu g;refine yv (aV.toP (aV.fN ((s9:Int).toNat) rfl rfl rfl rfl j33h ex32)) ?_;refine aJ g λ_ g=>?_;exact yk (yN _ n ⟨by omega,g⟩);obtain⟨x35,ex35,j36h,g⟩:=bu g;refine yv (aV.toP (aV.fN ((s9:Int).toNat) rfl rfl rfl rfl j36h ex35)) ?_;refine ay g (λ_ g=>?_) λ_ g=>?_;obtain⟨x38,ex38,j39h,g⟩:=bu g;refine yv (aV.toP (aV.fN ((s9:Int).toNat) rfl rfl rfl rfl j39h ex38)) ?_;refine aJ g λ_ g=>?_
 iterate 3 (exact yk (yN _ n ⟨by omega,g⟩))
/-plexus.plexusref09.In-/
theorem Rv {n} (o:Of n):Jn (oQ (Gf n)):=by
 intro a0 a1 r g;rw[oQ]at g;refine yw func90 ntmps90 ?_;refine yk<|yL (S:=Int) (G:=λm s=>lV (Gf m) a0 a1 s) (s0:=0) 0 [0,1,4] [5] (λs=>[(5,.d (.v (.int .i64 s)))]) (λs=>[]) g ?_;rintro n s1 _ g;change nI (Gf n) a0 a1 s1=_ at g;rw[nI]at g;refine yz ?_
 refine bc g λ_ g=>?_;refine yX g ff λx3 _ _ g=>?_;refine aJ g λ_ g=>?_;exact yk (yN _ n ⟨by omega,g⟩)
/-plexus.plexusref09.Rising-/
theorem Rw {n} (o:Of n):Jo (oR (Gf n)):=by
 intro a0 r g;rw[oR]at g;refine yw func91 ntmps91 ?_;refine yk<|yL (S:=Int) (G:=λm s=>kX (Gf m) a0 s) (s0:=0) 0 [0,2] [3] (λs=>[(3,.d (.v (.int .i64 s)))]) (λs=>[]) g ?_;rintro n s1 _ g;change nJ (Gf n) a0 s1=_ at g;rw[nJ]at g;refine yz ?_
 refine bc g λ_ g=>?_;refine yo [0,1,2,3,4,5,6,7,8,9,10,11,12,13,14,15,16,17,18,19,20,21] [] [] ?_;refine yY g ff λx3 _ _ g=>?_;obtain⟨y5,ey5,g⟩:=aH g (o.a.JE _);refine yl (yC ey5) ?_;refine aJ g λ_ g=>?_;refine ay g (λ_ g=>?_) λ_ g=>?_;refine yY g ff λx8 _ _ g=>?_;refine yY g ff λx10 _ _ g=>?_;refine aJ g λ_ g=>?_
 iterate 2 (exact yk (yN _ n ⟨by omega,g⟩))
/-plexus.plexusref09.named-/
theorem Rx {n} (o:Of n):Jp (ra (Gf n)):=by
 intro a0 r g;rw[ra]at g;refine yw func60 ntmps60 ?_;refine ay g (λ_ g=>?_) λ_ g=>?_;refine yk<|yL (S:=Int) (G:=λm s=>lW (Gf m) a0 s) (s0:=0) 1 [1,2] [3] (λs=>[(3,.d (.v (.int .i64 s)))]) (λs=>[]) g ?_;rintro n s2 _ g;change nL (Gf n) a0 s2=_ at g;rw[nL]at g;refine yz ?_
 refine bc g λ_ g=>?_;refine yo [0,1,2,3,4,5,6,7,8,9,10,11,12,13,14,15,16,17,18] [] [] ?_;refine yY g ff λx4 _ _ g=>?_;obtain⟨y6,ey6,g⟩:=aH g (o.a.JE _);refine yl (yC ey6) ?_;refine aJ g λ_ g=>?_;obtain⟨x8,ex8,g⟩:=fm g;refine yl (yQ DY ex8) ?_;refine yY g ff λx10 _ _ g=>?_;obtain⟨y12,ey12,g⟩:=aH g (o.a.By _ _);refine yl (yC ey12) ?_;refine aJ g λ_ g=>?_;exact yk (yN _ n ⟨by omega,g⟩);refine yc g (o.a.JF _) λy14 g=>?_;refine aJ g λ_ g=>?_;refine yk<|yL (S:=Bool×Int) (G:=λm s=>lX (Gf m) a0 y14 s.1 s.2) (s0:=(false,0)) 1 [1] [2,4] (λs=>[(2,.d (.v (.bool s.1))),(4,.d (.v (.int .i64 s.2)))]) (λs=>[]) g ?_;rintro n ⟨s16,s17⟩ _ g;change nM (Gf n) a0 y14 s16 s17=_ at g;rw[nM]at g;refine yz ?_
 refine bc g λ_ g=>?_;refine yX g aK.aE λx19 _ _ g=>?_;refine aJ g λ_ g=>?_;refine yc g (o.a.JF _) λy22 g=>?_;refine aJ g λ_ g=>?_;refine yc g (o.a.By _ _) λy24 g=>?_;refine aJ g λ_ g=>?_;refine yk<|yL (S:=Bool×Int) (G:=λm s=>lY (Gf m) a0 y14 s16 s17 x19 y22 y24 s.1 s.2) (s0:=(s16,0)) 2 [1,4,5] [2,6] (λs=>[(2,.d (.v (.bool s.1))),(6,.d (.v (.int .i64 s.2)))]) (λs=>[]) g ?_;rintro n ⟨s26,s27⟩ _ g;change nN (Gf n) a0 y14 s16 s17 x19 y22 y24 s26 s27=_ at g;rw[nN]at g;refine yz ?_
 refine ay g (λ_ g=>?_) λ_ g=>?_;refine yo [0,1,2,3,4,5,6,7,8] [] [] ?_;refine yY g ff λx29 _ _ g=>?_;obtain⟨y31,ey31,g⟩:=aH g (o.a.By _ _);refine yl (yC ey31) ?_;refine aJ g λ_ g=>?_
 iterate 2 (exact yk (yN (_,_) n ⟨by omega,g⟩))
/-plexus.plexusref09.Chain-/
theorem Ry {n} (o:Of n):Jq (q8 (Gf n)):=by
 intro a0 r g;rw[q8]at g;refine yw func61 ntmps61 ?_
 iterate 3 (refine aJ g λ_ g=>?_)
 iterate 2 (refine bc g λ_ g=>?_)
 refine yX g af.aE λx6 _ _ g=>?_;refine yc g (o.a.BA _) λy8 g=>?_;refine bc g λ_ g=>?_;refine yX g af.aE λx10 _ _ g=>?_;refine yc g (o.a.BA _) λy12 g=>?_;cases g;exact zl
/-plexus.plexusref09.node-/
theorem Rz {n} (o:Of n):Jr (rb (Gf n)):=by
 intro a0 a1 a2 r g;rw[rb]at g;refine yw func44 ntmps44 ?_;refine ay g (λh1 g=>?_) λ_ g=>?_;refine yF h1 ?_
 iterate 2 (refine aJ g λ_ g=>?_)
 refine yc g (o.a.Bx _) λy4 g=>?_
 iterate 3 (refine aJ g λ_ g=>?_)
 refine yc g (o.a.Bz _) λy8 g=>?_
 iterate 4 (refine aJ g λ_ g=>?_)
 refine yF h1 ?_;cases g;exact zl;refine ay g (λh13 g=>?_) λ_ g=>?_
 iterate 2 (refine aJ g λ_ g=>?_)
 refine yc g (o.a.Bx _) λy16 g=>?_
 iterate 3 (refine aJ g λ_ g=>?_)
 refine yc g (o.a.Bz _) λy20 g=>?_
 iterate 4 (refine aJ g λ_ g=>?_)
 refine yF h13 ?_;cases g;exact zl
 iterate 2 (refine aJ g λ_ g=>?_)
 refine yc g (o.a.Bx _) λy27 g=>?_
 iterate 3 (refine aJ g λ_ g=>?_)
 refine yc g (o.a.Bz _) λy31 g=>?_
 iterate 4 (refine aJ g λ_ g=>?_)
 refine bc g λ_ g=>?_;refine yX g af.aE λx37 _ _ g=>?_;refine yc g (o.a.BA _) λy39 g=>?_;exact eU g
/-plexus.plexusref09.walk-/
theorem RA {n} (o:Of n):Js (re (Gf n)):=by
 intro a0 a1 a2 r g;rw[re]at g;refine yw func27 ntmps27 ?_;refine yc g (o.a.RZ _ _ _) λy1 g=>?_;refine aJ g λ_ g=>?_;refine yk<|yL (S:=Int×Int) (G:=λm s=>lZ (Gf m) a0 a1 s.1 s.2) (s0:=(IntKind.i64.wrap (a2+1),0)) 1 [1,3,6,7] [9,10] (λs=>[(9,.d (.v (.int .i64 s.1))),(10,.d (.v (.int .i64 s.2)))]) (λs=>[]) g ?_;rintro n ⟨s3,s4⟩ _ g;change nO (Gf n) a0 a1 s3 s4=_ at g;rw[nO]at g;refine yz ?_
 refine bc g λ_ g=>?_;refine yX g af.aE λx6 _ _ g=>?_;refine yc g (o.a.JG _ _ _) λy8 g=>?_;refine aJ g λ_ g=>?_;exact yk (yN (_,_) n ⟨by omega,g⟩)
/-plexus.plexusref09.Check-/
theorem RB {n} (o:Of n):Jt (rf (Gf n)):=by
 intro a0 r g;rw[rf]at g;refine yw func18 ntmps18 ?_;refine yc g (o.a.JG _ _ _) λy1 g=>?_;cases g;exact zl
/-plexus.plexuslaw21.small-/
theorem w7 {n} (o:Of n):C7 (B7 (Gf n)):=by
 intro a0 a1 r g;rw[B7]at g;refine yw func7 ntmps7 ?_;refine yc g (o.a.c8 _ _) λy1 g=>?_
 iterate 2 (refine bc g λ_ g=>?_)
 refine yc g (o.a.R1 _) λy4 g=>?_;cases g;exact zl
/-plexus.plexuslaw21.InflationJoins-/
theorem w3 {n} (o:Of n):C3 (B3 (Gf n)):=by
 intro a0 a1 a2 a3 r g;rw[B3]at g;refine yw func3 ntmps3 ?_;refine yc g o.a.c6 λy1 g=>?_;refine aJ g λ_ g=>?_;refine yc g (o.a.c7 _ _) λy3 g=>?_;refine aJ g λ_ g=>?_;refine yc g (o.a.c8 _ _) λy5 g=>?_;refine aJ g λ_ g=>?_;refine yc g (o.a.c8 _ _) λy7 g=>?_;refine aJ g λ_ g=>?_;refine yc g (o.a.c9 _ _) λy9 g=>?_;refine yc g (o.a.c9 _ _) λy10 g=>?_
 iterate 3 (refine aJ g λ_ g=>?_)
 refine yk<|yL (S:=Int) (G:=λm s=>fS (Gf m) a0 a1 a2 a3 y10 s) (s0:=0) 6 [4,5,6,7,8,12,14] [15] (λs=>[(15,.d (.v (.int .i64 s)))]) (λs=>[]) g ?_;rintro n s14 _ g;change lb (Gf n) a0 a1 a2 a3 y10 s14=_ at g;rw[lb]at g;refine yz ?_
 refine bc g λ_ g=>?_;refine ay g (λh16 g=>?_) λ_ g=>?_;refine yc g (o.a.c9 _ _) λy17 g=>?_;refine ay g (λh18 g=>?_) λh18 g=>?_;refine yT h16 ?_;refine yv (aV.toP (aV.tf rfl zk rfl rfl)) ?_;refine aJ g λ_ g=>?_;refine Ok.fM (tR h18) ?_;conv=>(arg 3;whnf)
 exact yk (yN _ n ⟨by omega,g⟩);refine Ok.fL (xW h18) ?_;conv=>(arg 3;whnf)
 refine yT h16 ?_;cases g;exact zl;refine ay g (λh20 g=>?_) λ_ g=>?_;refine yc g (o.a.c9 _ _) λy21 g=>?_;refine ay g (λh22 g=>?_) λh22 g=>?_;refine yT h20 ?_;refine yv (aV.toP (aV.tf rfl zk rfl rfl)) ?_;refine aJ g λ_ g=>?_;refine Ok.fM (tR h22) ?_;conv=>(arg 3;whnf)
 exact yk (yN _ n ⟨by omega,g⟩);refine Ok.fL (xW h22) ?_;conv=>(arg 3;whnf)
 refine yT h20 ?_;cases g;exact zl;refine yc g (o.a.c9 _ _) λy24 g=>?_;refine ay g (λh25 g=>?_) λh25 g=>?_;refine ay g (λ_ g=>?_) λ_ g=>?_;refine yv (aV.toP (aV.tf rfl zk rfl rfl)) ?_;refine aJ g λ_ g=>?_;refine Ok.fM (tR h25) ?_;conv=>(arg 3;whnf)
 exact yk (yN _ n ⟨by omega,g⟩);refine yv (aV.toP (aV.tf rfl zk rfl rfl)) ?_;refine aJ g λ_ g=>?_;refine Ok.fM (tR h25) ?_;conv=>(arg 3;whnf)
 exact yk (yN _ n ⟨by omega,g⟩);refine Ok.fL (xW h25) ?_;conv=>(arg 3;whnf)
 refine aJ g λ_ g=>?_;exact yk (yN _ n ⟨by omega,g⟩)
