/- Printed by a program: what functions answer, and that they do. -/
import Derived.Test.YtmbalfjhlngncaaGreatKG6
set_option linter.all false
set_option maxRecDepth 100000
noncomputable section
namespace Go.Proofs.YtmbalfjhlngncaaGreat
open Go Go.Bw Go.Proofs.Tryz
/-(*plexus.types.elaborator).record-/
theorem aif {n} (o:Of n):VT (Ao (Gf n)):=by
 intro a0 a1 a2 r g;rw[Ao]at g;refine yw func283 ntmps283 ?_;obtain⟨m1,em1,g⟩:=ck g;obtain⟨hm1,bm1⟩:=Cc em1;refine yk<|ak.DZ m1 (ae.rows (List.replicate m1 ae.z)) rfl hm1 rfl hm1 rfl rfl rfl rfl rfl (by omega) (by simp only[ae.bh,BZ];exact du.replicate zi _) rfl (yz ?_)
 obtain⟨m2,em2,g⟩:=ck g;obtain⟨hm2,bm2⟩:=Cc em2;refine yk<|ak.DZ m2 (c9 (List.replicate m2 false)) rfl hm2 rfl hm2 rfl rfl rfl rfl rfl (by omega) (by simp only[c9,BZ];exact du.replicate zi _) rfl (yz ?_)
 refine yk<|yL (S:=(List ae)×(List Bool)×Int) (G:=λm s=>qD (Gf m) a0 a1 a2 s.1 s.2.1 s.2.2) (s0:=(List.replicate m1 ae.z,List.replicate m2 false,0)) 4 [0,4,5,6,23,24] [7,8,25] (λs=>[(7,.os 2 (ae.rows s.1).length),(8,.os 3 (c9 s.2.1).length),(25,.d (.v (.int .i64 s.2.2)))]) (λs=>[(2,.row 32 12 (ae.rows s.1)),(3,.row 4 1 (c9 s.2.1))]) g ?_;rintro n ⟨s3,s4,s5⟩ _ g;change tN (Gf n) a0 a1 a2 s3 s4 s5=_ at g;rw[tN]at g;refine yz ?_
 refine ay g (λ_ g=>?_) λ_ g=>?_;refine yX g az.aA λx7 _ _ g=>?_;refine yc g (o.a.rE _ _) λy9 g=>?_;refine ay g (λ_ g=>?_) λ_ g=>?_;exact yP g (o.a.fy _ _);obtain⟨x12,ex12,j13h,g⟩:=b3 g;refine yv (yr j13h ex12) ?_;refine yv (ym y9.toNat 0 (oB ex12)) ?_;refine ay g (λ_ g=>?_) λ_ g=>?_;exact yP g (o.a.fy _ _);refine yo [] (tk [0,3,6,9,12,15,18,21,24,27,30,33,36,39,42,46,48,52,54,58]) [] ?_;obtain⟨x16,ex16,j17h,g⟩:=b3 g;refine yu zp (yi j17h (az.aA ex16)) ?_
 iterate 4 (refine yt zp ?_)
 obtain⟨x18,ex18,j19h,g⟩:=b3 g;refine yu zp (yi j19h (ah.aA ex18)) ?_;refine yt zp ?_;obtain⟨y20,ey20,g⟩:=a8 g (o.a.jb _);refine yu zp (bp.call ey20 rfl rfl) ?_;refine yq g (o.a.cV _ _ _) zp λy21 g=>?_;obtain⟨x22,ex22,j23h,g⟩:=b3 g;refine yU zp (yr j23h ex22) ?_;refine yk<|ak.Ce y9.toNat 0 (by repeat(first|exact aE.nil|refine aE.cons rfl (bd.dK (cl:=false) rfl aV) ?_|refine aE.skip rfl ?_|refine aE.cons rfl (yr j23h ex22) ?_|refine aE.cons rfl (ep (cl:=false) rfl aV) ?_)) (by rfl) (by rfl) (by rfl) (by rfl) (by rfl) (by rfl) (by rfl) (by rfl) zg (by rfl) (yg (ae.aA ex22)) (by rfl) (by rfl) (by rfl) (by rfl) (yz ?_)
 obtain⟨x24,ex24,j25h,g⟩:=b3 g;refine yU zp (yr j25h ex24) ?_;refine yk<|ak.Ce y9.toNat 0 (by repeat(first|exact aE.nil|refine aE.cons rfl (bd.dK (cl:=false) rfl aV) ?_|refine aE.skip rfl ?_|refine aE.cons rfl (yr j23h ex22) ?_|refine aE.cons rfl (yr j25h ex24) ?_|refine aE.cons rfl (ep (cl:=false) rfl aV) ?_)) (by rfl) (by rfl) (by rfl) (by rfl) (by rfl) (by rfl) (by rfl) (by rfl) zg (by rfl) (yg (oB ex24)) (by rfl) (by rfl) (by rfl) (by rfl) (yz ?_)
 exact yk (yN (_,_,_) n ⟨by omega,g⟩);refine yk<|yL (S:=(List ae)×Int) (G:=λm s=>nB (Gf m) a1 a2 s4 s.1 s.2) (s0:=(s3,0)) 4 [0,4,5,6,8,23,24,25,65,66] [7,67] (λs=>[(7,.os 2 (ae.rows s.1).length),(67,.d (.v (.int .i64 s.2)))]) (λs=>[(2,.row 32 12 (ae.rows s.1))]) g ?_;rintro n ⟨s26,s27⟩ _ g;change tM (Gf n) a1 a2 s4 s26 s27=_ at g;rw[tM]at g;refine yz ?_
 refine bc g λ_ g=>?_;refine yX g ah.aA λx29 _ _ g=>?_;obtain⟨x31,ex31,j32h,g⟩:=b3 g;refine yv (yr j32h ex31) ?_;refine yv (ym s27.toNat 0 (oB ex31)) ?_;refine ay g (λ_ g=>?_) λ_ g=>?_;refine yo [0,1,2,3,4,5,6,7,8] [(9,.one)] [] ?_;obtain⟨y34,ey34,g⟩:=a8 g (o.a.Lj _);refine yl (yC ey34) ?_;obtain⟨y35,ey35,g⟩:=a8 g (o.a.jb _);refine yl (yC ey35) ?_;obtain⟨x36,ex36,j37h,g⟩:=b3 g;refine yl (yr j37h ex36) ?_;refine yk<|ak.Zj 84 (.agg (ae.cs ({Op:=6,aK:=y35,N:=0,Text:=[],At:=a1.At,Kids:=[]:ae}))) s27.toNat 0 aE.nil (by rfl) (by rfl) (by rfl) (by rfl) (by rfl) (by rfl) zi (by rfl) (by rfl) (by rfl) zg (by rfl) (yg (ae.aA ex36)) (by rfl) (by rfl) (by rfl) (by rfl) (yz ?_)
 iterate 2 (exact yk (yN (_,_) n ⟨by omega,g⟩))
/-(*plexus.types.elaborator).observer-/
theorem aih {n} (o:Of n):VU (An (Gf n)):=by
 intro a0 a1 r g;rw[An]at g;refine yw func284 ntmps284 ?_;refine yX g az.aA λx1 _ _ g=>?_;refine yc g (o.a.fj _) λy3 g=>?_;refine yc g (o.a.fj _) λy4 g=>?_;refine yc g (o.a.fj _) λy5 g=>?_;refine ay g (λ_ g=>?_) λ_ g=>?_;refine yp g (o.a.cV _ _ _) λy7 g=>?_;refine bc g λ_ g=>?_;refine ay g (λ_ g=>?_) λ_ g=>?_;exact yP g (o.a.fy _ _);refine yc g (o.a.Li _ _) λy11 g=>?_;refine bc g λ_ g=>?_;exact yP g (o.a.fy _ _);refine ay g (λ_ g=>?_) λ_ g=>?_;refine yk<|ak.cC (t:=62) rfl rfl (fp rfl aV) (yz ?_)
 refine yk<|ak.cC (t:=60) rfl rfl aV (yz ?_)
 refine yp g (o.a.pI _ _ _ _ _ _) λy17 g=>?_;refine yX g ae.aA λx18 _ _ g=>?_;refine yX g ah.aA λx20 _ _ g=>?_
 iterate 2 (refine bc g λ_ g=>?_)
 exact yP g (o.a.fy _ _);refine ay g (λ_ g=>?_) λ_ g=>?_;refine yk<|ak.cC (t:=88) rfl rfl (fp rfl aV) (yz ?_)
 refine yk<|ak.cC (t:=86) rfl rfl aV (yz ?_)
 refine yp g (o.a.pI _ _ _ _ _ _) λy28 g=>?_;cases g;exact zl;refine ay g (λ_ g=>?_) λ_ g=>?_;refine yk<|ak.cC (t:=94) rfl rfl (fp rfl aV) (yz ?_)
 refine yk<|ak.cC (t:=92) rfl rfl aV (yz ?_)
 refine yp g (o.a.pI _ _ _ _ _ _) λy32 g=>?_;cases g;exact zl;refine ay g (λ_ g=>?_) λ_ g=>?_;refine yk<|ak.cC (t:=100) rfl rfl (fp rfl aV) (yz ?_)
 refine yk<|ak.cC (t:=98) rfl rfl aV (yz ?_)
 refine yp g (o.a.pI _ _ _ _ _ _) λy36 g=>?_;cases g;exact zl;refine ay g (λ_ g=>?_) λ_ g=>?_;refine yk<|ak.cC (t:=106) rfl rfl (fp rfl aV) (yz ?_)
 refine yk<|ak.cC (t:=104) rfl rfl aV (yz ?_)
 refine yp g (o.a.pI _ _ _ _ _ _) λy40 g=>?_;cases g;exact zl;refine ay g (λ_ g=>?_) λ_ g=>?_;refine yk<|ak.cC (t:=112) rfl rfl (fp rfl aV) (yz ?_)
 refine yk<|ak.cC (t:=110) rfl rfl aV (yz ?_)
 refine yp g (o.a.pI _ _ _ _ _ _) λy44 g=>?_;cases g;exact zl;refine ay g (λ_ g=>?_) λ_ g=>?_;refine yk<|ak.cC (t:=120) rfl rfl (fp rfl aV) (yz ?_)
 refine yk<|ak.cC (t:=117) rfl rfl aV (yz ?_)
 refine yp g (o.a.pI _ _ _ _ _ _) λy48 g=>?_;refine yX g ae.aA λx49 _ _ g=>?_;refine yX g ah.aA λx51 _ _ g=>?_;refine yc g (o.a.jb _) λy53 g=>?_;cases g;exact zl;refine yk<|ak.cC (t:=120) rfl rfl (fp rfl aV) (yz ?_)
 refine yk<|ak.cC (t:=117) rfl rfl aV (yz ?_)
 refine yp g (o.a.pI _ _ _ _ _ _) λy56 g=>?_;refine yX g ae.aA λx57 _ _ g=>?_;refine yX g ah.aA λx59 _ _ g=>?_;refine yc g (o.a.jb _) λy61 g=>?_;cases g;exact zl
/-(*plexus.types.elaborator).observer$1-/
theorem aii {n} (o:Of n):VV (Am (Gf n)):=by
 intro a0 a1 a2 a3 a4 a5 r g;rw[Am]at g;refine yw func316 ntmps316 ?_;refine yo [] (tk [0,3,6,9,12,15,19,21,24,28]) [] ?_
 iterate 4 (refine yt zp ?_)
 refine yq g (o.a.Lk _ _ _ _) zp λy1 g=>?_
 iterate 3 (refine yt zp ?_)
 cases g;exact yj
/-(*plexus.types.elaborator).operand-/
theorem aij {n} (o:Of n):VW (Ak (Gf n)):=by
 intro a0 a1 a2 a3 r g;rw[Ak]at g;refine yw func286 ntmps286 ?_;refine yp g (o.a.cV _ _ _) λy1 g=>?_;refine ay g (λ_ g=>?_) λ_ g=>?_;exact yP g (o.a.fy _ _);refine yc g (o.a.Li _ _) λy4 g=>?_;refine bc g λ_ g=>?_;exact yP g (o.a.fy _ _)
/-(*plexus.types.elaborator).operator-/
set_option maxHeartbeats 0 in
theorem aik {n} (o:Of n):VX (AT (Gf n)):=by
 intro a0 a1 a2 r g;rw[AT]at g;refine yw func231 ntmps231 ?_;refine yc g (o.a.fj _) λy1 g=>?_;refine ay g (λ_ g=>?_) λ_ g=>?_;refine yo [] (tk [0,3,6,9,12,15,19,25]) [7] ?_;obtain⟨x3,ex3,j4h,g⟩:=b3 g;refine yu zp (yi j4h (az.aA ex3)) ?_
 iterate 2 (refine yt zp ?_)
 refine yq g (o.a.cV _ _ _) zp λy5 g=>?_;refine yt zp ?_;refine yc g (o.a.ET _) λy6 g=>?_;refine ay g (λ_ g=>?_) λ_ g=>?_;refine yo [0,1,2,3,4,5,6,7,8,9] (tk [31,33,36,39,43,46]) [] ?_;refine yY g az.aA λx8 _ _ g=>?_;refine yY g az.aA λx10 _ _ g=>?_;refine yq g (o.a.Ll _ _ _ _ _) zp λy12 g=>?_;cases g;exact yj;refine yo [0,1,2,3,4,5] (tk [19,22]) [] ?_;refine yY g az.aA λx13 _ _ g=>?_;refine yq g (o.a.cV _ _ _) zp λy15 g=>?_;refine yo [0,1,2,3,4,5] (tk [19,22]) [] ?_;refine yY g az.aA λx16 _ _ g=>?_;refine yq g (o.a.cV _ _ _) zp λy18 g=>?_;cases g;exact yj;refine ay g (λ_ g=>?_) λ_ g=>?_;refine yX g az.aA λx20 _ _ g=>?_;refine yp g (o.a.cV _ _ _) λy22 g=>?_;refine ay g (λ_ g=>?_) λ_ g=>?_;refine yX g az.aA λx24 _ _ g=>?_;exact yP g (o.a.fy _ _);refine yo [] (tk [0,3,6,9,12,15,18,22,28]) [8] ?_;obtain⟨x27,ex27,j28h,g⟩:=b3 g;refine yu zp (yi j28h (az.aA ex27)) ?_
 iterate 3 (refine yt zp ?_)
 refine yq g (o.a.cV _ _ _) zp λy29 g=>?_;refine yt zp ?_;cases g;exact yj;refine ay g (λ_ g=>?_) λ_ g=>?_;refine yo [] (tk [0,3,6,9,12,15,18,21,24,27,31,33,36,39,49,52]) [14,15] ?_
 iterate 2 (refine yt zp ?_)
 obtain⟨x31,ex31,j32h,g⟩:=b3 g;refine yu zp (yi j32h (az.aA ex31)) ?_
 iterate 3 (refine yt zp ?_)
 obtain⟨x33,ex33,j34h,g⟩:=b3 g;refine yu zp (yi j34h (az.aA ex33)) ?_;refine yt zp ?_;refine yq g (o.a.Ll _ _ _ _ _) zp λy35 g=>?_
 iterate 4 (refine yt zp ?_)
 cases g;exact yj;refine ay g (λ_ g=>?_) λ_ g=>?_;refine yc g (o.a.ET _) λy37 g=>?_
 iterate 2 (refine ay g (λ_ g=>?_) λ_ g=>?_)
 exact yP g (o.a.fy _ _);refine yp g (o.a.pH _ _ _ _ _ _) λy41 g=>?_;cases g;exact zl;refine yo [] (tk [0,3,6,9,12,15,18,21,24,27,31,33,36,39,49,52]) [14,15] ?_
 iterate 2 (refine yt zp ?_)
 obtain⟨x42,ex42,j43h,g⟩:=b3 g;refine yu zp (yi j43h (az.aA ex42)) ?_
 iterate 3 (refine yt zp ?_)
 obtain⟨x44,ex44,j45h,g⟩:=b3 g;refine yu zp (yi j45h (az.aA ex44)) ?_;refine yt zp ?_;refine yq g (o.a.Ll _ _ _ _ _) zp λy46 g=>?_
 iterate 4 (refine yt zp ?_)
 cases g;exact yj;refine ay g (λ_ g=>?_) λ_ g=>?_;refine yo [] (tk [0,3,6,9,12,15,18,22,28]) [8] ?_
 iterate 2 (refine yt zp ?_)
 obtain⟨x48,ex48,j49h,g⟩:=b3 g;refine yu zp (yi j49h (az.aA ex48)) ?_
 iterate 2 (refine yt zp ?_)
 refine yq g (o.a.Lk _ _ _ _) zp λy50 g=>?_;refine yt zp ?_;refine yc g (o.a.rE _ _) λy51 g=>?_;refine ay g (λ_ g=>?_) λ_ g=>?_;exact yP g (o.a.fy _ _);refine yo [0,1,2,3,4,5,6,7,8,9,10,11] [(12,.one)] [] ?_;refine yY g ah.aA λx54 _ _ g=>?_;obtain⟨y56,ey56,g⟩:=a8 g (o.a.jb _);refine yl (yC ey56) ?_;cases g;exact yj;refine yo [] (tk [0,3,6,9,12,15,18,22,28]) [8] ?_
 iterate 2 (refine yt zp ?_)
 obtain⟨x57,ex57,j58h,g⟩:=b3 g;refine yu zp (yi j58h (az.aA ex57)) ?_
 iterate 2 (refine yt zp ?_)
 refine yq g (o.a.Lk _ _ _ _) zp λy59 g=>?_;refine yt zp ?_;refine yo [] (tk [0,3,6,9,12,15,19,25]) [7] ?_;obtain⟨x60,ex60,j61h,g⟩:=b3 g;refine yu zp (yi j61h (az.aA ex60)) ?_;refine yt zp ?_;obtain⟨y62,ey62,g⟩:=a8 g (o.a.fj _);refine yu zp (bp.call ey62 rfl rfl) ?_;refine yq g (o.a.cV _ _ _) zp λy63 g=>?_;refine yt zp ?_;refine yo [0,1,2,3,4,5,6,7,8,9,10] [(11,.one)] [] ?_;refine yY g ah.aA λx64 _ _ g=>?_;obtain⟨y66,ey66,g⟩:=a8 g (o.a.jb _);refine yl (yC ey66) ?_;cases g;exact yj
/-(*plexus.types.elaborator).together-/
theorem ail {n} (o:Of n):VY (Aj (Gf n)):=by
 intro a0 a1 a2 a3 a4 r g;rw[Aj]at g;refine yw func285 ntmps285 ?_;refine yo [] (tk [0,3,13,16,18]) [2,3] ?_
 iterate 3 (refine yt zp ?_)
 refine yc g (o.a.vD _) λy1 g=>?_;refine ay g (λ_ g=>?_) λ_ g=>?_;refine yc g (o.a.vD _) λy3 g=>?_;refine ay g (λ_ g=>?_) λ_ g=>?_;exact yP g (o.a.fy _ _);refine yo [] (tk [0,3,7,10,12]) [] ?_
 iterate 3 (refine yt zp ?_)
 refine yp g (o.a.cV _ _ _) λy6 g=>?_
 iterate 2 (refine ay g (λ_ g=>?_) λ_ g=>?_)
 exact yP g (o.a.fy _ _);refine yp g (o.a.cV _ _ _) λy10 g=>?_;refine yo [] (tk [0,3,7,10]) [] ?_
 iterate 3 (refine yt zp ?_)
 cases g;exact zl;refine yp g (o.a.cV _ _ _) λy11 g=>?_;refine yo [] (tk [0,3,7,10]) [] ?_
 iterate 3 (refine yt zp ?_)
 cases g;exact zl;refine yp g (o.a.cV _ _ _) λy12 g=>?_
 iterate 2 (refine ay g (λ_ g=>?_) λ_ g=>?_)
 exact yP g (o.a.fy _ _);refine yp g (o.a.cV _ _ _) λy16 g=>?_;refine yo [] (tk [0,3,7,10]) [] ?_
 iterate 3 (refine yt zp ?_)
 cases g;exact zl;refine yp g (o.a.cV _ _ _) λy17 g=>?_;refine yo [] (tk [0,3,7,10]) [] ?_
 iterate 3 (refine yt zp ?_)
 cases g;exact zl
/-plexus.types.Expression-/
theorem w61 {n} (o:Of n):Xz (Bx (Gf n)):=by
 intro a0 a1 a2 a3 r g;rw[Bx]at g;refine yw func61 ntmps61 ?_;refine yk<|ak.ct (rs:=_) aak rfl rfl func110 rfl zk rfl ntmps110 rfl rfl (yz ?_)
 refine yk<|ak.cC (t:=8) rfl rfl aV (yz ?_)
 rcases abA g with⟨c3,c4,ey2,g⟩|⟨y2,ey2,g⟩
 replace ey2:=(o.a.cV _ _ _ _ ey2);refine yk<|ak.abB ey2 rfl rfl aV (b8.refl _) (.inr rfl) rfl (yz ?_)
 refine zs g ?_ ?_<;>(clear g;intro h5 g);refine yo [] (tk [0,3,7,10]) [] ?_
 iterate 2 (refine yt zp ?_)
 cases g;exact yj;refine yo [] (tk [0,3,7,10]) [] ?_
 iterate 3 (refine yt zp ?_)
 cases g;exact yj;replace ey2:=(o.a.cV _ _ _ _ ey2);refine yv (yC ey2) ?_;refine yo [] (tk [0,3,7,10]) [] ?_
 iterate 3 (refine yt zp ?_)
 cases g;exact zl
/-plexus.types.equal-/
theorem w63 {n} (o:Of n):XA (By (Gf n)):=by
 intro a0 a1 r g;rw[By]at g;refine yw func63 ntmps63 ?_
 iterate 4 (refine bc g λ_ g=>?_)
 refine yc g (o.a.VN _ _) λy5 g=>?_;refine bc g λ_ g=>?_;refine yc g (o.a.adX _ _) λy7 g=>?_;cases g;exact zl
/-slices.EqualFunc[[]plexus.api.Expr,[]plexus.api.Expr,plexus.api.Expr,plexus.api.Expr]-/
theorem adV {n} (o:Of n):SK (xD (Gf n)):=by
 intro a0 a1 r g;rw[xD]at g;refine yw func115 ntmps115 ?_;refine aM g λ_ g=>?_;refine yk<|yL (S:=Int) (G:=λm s=>sq (Gf m) a0 a1 s) (s0:=0) 0 [1,2,6,15,16] [17] (λs=>[(17,.d (.v (.int .i64 s)))]) (λs=>[]) g ?_;rintro n s2 _ g;change sr (Gf n) a0 a1 s2=_ at g;rw[sr]at g;refine yz ?_
 refine bc g λ_ g=>?_;refine yX g ae.aA λx4 _ _ g=>?_;refine yX g ae.aA λx6 _ _ g=>?_;refine yc g (o.a.Yb _ _) λy8 g=>?_;refine aM g λ_ g=>?_;exact yk (yN _ n ⟨by omega,g⟩)
/-plexus.types.Valid-/
theorem w25 {n} (o:Of n):XB (Bz (Gf n)):=by
 intro a0 a1 r g;rw[Bz]at g;refine yw func25 ntmps25 ?_;refine yc g (o.a.BI _) λy1 g=>?_;refine aM g λ_ g=>?_;refine yc g (o.a.c59 _) λy3 g=>?_;refine aM g λ_ g=>?_;refine yc g (o.a.Xw _ _) λy5 g=>?_;refine aM g λ_ g=>?_;refine yo [] (tk [0,3,6,9,12,15,18,21,24,27,30,40,43]) [11,12] ?_
 iterate 4 (refine yt zp ?_)
 obtain⟨y7,ey7,g⟩:=a8 g (o.a.c62 _ _);refine yu zp (bp.call ey7 rfl rfl) ?_;refine yt zp ?_;obtain⟨y8,ey8,g⟩:=a8 g (o.a.c61 _ _ _ _);refine yu zp (bp.call ey8 rfl rfl) ?_
 iterate 4 (refine yt zp ?_)
 refine bc g λ_ g=>?_;refine yc g (o.a.Yb _ _) λy10 g=>?_;cases g;exact zl
/-plexus.value.used-/
theorem aim {n} (o:Of n):VZ (zT (Gf n)):=by
 intro a0 a1 a2 a3 a4 r g;rw[zT]at g;refine yw func116 ntmps116 ?_
 iterate 3 (refine ay g (λ_ g=>?_) λ_ g=>?_)
 exact cO g;refine bc g λ_ g=>?_;exact cO g;refine bc g λ_ g=>?_;refine ay g (λ_ g=>?_) λ_ g=>?_;exact cO g;refine bc g λ_ g=>?_;exact cO g;refine bc g λ_ g=>?_
 iterate 2 (refine ay g (λ_ g=>?_) λ_ g=>?_)
 exact cO g;refine bc g λ_ g=>?_;exact cO g;refine bc g λ_ g=>?_;refine ay g (λ_ g=>?_) λ_ g=>?_;exact cO g;refine bc g λ_ g=>?_;exact cO g
/-plexus.value.allowed-/
theorem ain {n} (o:Of n):V0 (Ae (Gf n)):=by
 intro a0 a1 r g;rw[Ae]at g;refine yw func117 ntmps117 ?_;refine yc g (o.a.nQ _) λy1 g=>?_;refine aM g λ_ g=>?_;refine yk<|yL (S:=Int) (G:=λm s=>oQ (Gf m) a0 a1 s) (s0:=0) 0 [0,4,10,11] [12] (λs=>[(12,.d (.v (.int .i64 s)))]) (λs=>[]) g ?_;rintro n s3 _ g;change tI (Gf n) a0 a1 s3=_ at g;rw[tI]at g;refine yz ?_
 refine bc g λ_ g=>?_;refine yX g cL λx5 _ _ g=>?_;refine yc g (o.a.l4 _) λy7 g=>?_;refine aM g λ_ g=>?_;refine ay g (λ_ g=>?_) λ_ g=>?_;refine yc g (o.a.vC _ _) λy10 g=>?_;refine aM g λ_ g=>?_
 iterate 2 (exact yk (yN _ n ⟨by omega,g⟩))
/-plexus.value.closed-/
theorem aio {n} (o:Of n):V1 (vc (Gf n)):=by
 intro a0 a1 r g;rw[vc]at g;refine yw func118 ntmps118 ?_;refine yk<|yL (S:=Int) (G:=λm s=>oR (Gf m) a0 a1 s) (s0:=0) 0 [1,4,7,8] [9] (λs=>[(9,.d (.v (.int .i64 s)))]) (λs=>[]) g ?_;rintro n s1 _ g;change tJ (Gf n) a0 a1 s1=_ at g;rw[tJ]at g;refine yz ?_
 refine bc g λ_ g=>?_;refine yX g aU.aA λx3 _ _ g=>?_;refine yc g (o.a.A5 _ _) λy5 g=>?_;refine ay g (λ_ g=>?_) λ_ g=>?_;refine yc g (o.a.vC _ _) λy7 g=>?_;refine aM g λ_ g=>?_
 iterate 2 (exact yk (yN _ n ⟨by omega,g⟩))
/-plexus.clock.Valid-/
theorem aip {n} (o:Of n):V2 (u9 (Gf n)):=by
 intro a0 r g;rw[u9]at g;refine yw func183 ntmps183 ?_;refine yk<|yL (S:=Int×Int) (G:=λm s=>xw (Gf m) a0 s.1 s.2) (s0:=(-1,0)) 0 [2,6,7] [3,8] (λs=>[(3,.d (.v (.int .i64 s.1))),(8,.d (.v (.int .i64 s.2)))]) (λs=>[]) g ?_;rintro n ⟨s1,s2⟩ _ g;change tF (Gf n) a0 s1 s2=_ at g;rw[tF]at g;refine yz ?_
 refine bc g λ_ g=>?_;refine yX g ai.aA λx4 _ _ g=>?_
 iterate 4 (refine aM g λ_ g=>?_)
 exact yk (yN (_,_) n ⟨by omega,g⟩)
/-plexus.clock.Minus$1-/
theorem aiq {n} (o:Of n):V3 (zU (Gf n)):=by
 intro a0 a1 r g;rw[zU]at g;refine yw func288 ntmps288 ?_;exact cO g
/-plexus.clock.walk-/
set_option maxHeartbeats 0 in
theorem acF {n} (o:Of n):Qj (xd (Gf n)):=by
 intro a0 a1 r g;rw[xd]at g;refine yw func271 ntmps271 ?_;refine yc g (o.a.nR _) λy1 g=>?_;refine aM g λ_ g=>?_;refine yc g (o.a.nR _) λy3 g=>?_;refine aM g λ_ g=>?_;refine Ok.stuck aV ?_;refine ak.kQ 7 133 2 0 rfl rfl ?_;refine yL (S:=(List ai)×(List ai)×(List ai)) (G:=λm s=>fF (Gf m) s.1 s.2.1 s.2.2) (s0:=(a0,a1,[])) 1 [2,6] [0,1,7] (λs=>[(0,.d (.sl 2 (ai.rows s.1))),(1,.d (.sl 2 (ai.rows s.2.1))),(7,.os 0 (ai.rows s.2.2).length)]) (λs=>[(0,.row 133 2 (ai.rows s.2.2))]) g ?_;rintro n ⟨s5,s6,s7⟩ _ g;change Ca (Gf n) s5 s6 s7=_ at g;rw[Ca]at g;refine yz ?_;refine ay g (λh8 g=>?_) λh8 g=>?_;refine yo [0,1,2,3,4,5,6,7,8,9,10,11,12,13,14,15,16,17,18,19] [] [] ?_;refine ay g (λ_ g=>?_) λ_ g=>?_;refine yo [0,1,2,3,4,5,6,7,8,9,10,11,12] [] [] ?_;refine yY g ai.aA λx10 _ _ g=>?_;refine yY g ai.aA λx12 _ _ g=>?_;obtain⟨x14,ex14,g⟩:=ck g;refine yl (yQ ai.bh ex14) ?_;refine yc g (o.a.nS _ _) λy16 g=>?_;refine ay g (λ_ g=>?_) λ_ g=>?_;refine yk<|ak.fu 1 (rows':=ai.rows ([{Process:=x10.Process,N:=y16:ai}])) rfl zi (yz ?_)
 obtain⟨h18,g⟩:=bE g;refine yk<|DO.dF rfl rfl zg rfl rfl zg rfl rfl (ai.cm _) rfl rfl rfl (zo h18) (yz ?_)
 exact yk (yN (_,_,_) n ⟨by omega,g⟩);exact yk (yN (x14,s6,s7) n ⟨by omega,g⟩);refine Ok.iQ h8 ?_;conv=>(arg 3;whnf)
 refine yY g ai.aA λx19 _ _ g=>?_;refine yY g ai.aA λx21 _ _ g=>?_;refine ay g (λ_ g=>?_) λ_ g=>?_;refine yo [0,1,2,3,4,5,6,7,8,9,10,11,12] [] [] ?_;refine yY g ai.aA λx24 _ _ g=>?_;refine yY g ai.aA λx26 _ _ g=>?_;obtain⟨x28,ex28,g⟩:=ck g;refine yl (yQ ai.bh ex28) ?_;refine yc g (o.a.nS _ _) λy30 g=>?_;refine ay g (λ_ g=>?_) λ_ g=>?_;refine yk<|ak.fu 1 (rows':=ai.rows ([{Process:=x24.Process,N:=y30:ai}])) rfl zi (yz ?_)
 obtain⟨h32,g⟩:=bE g;refine yk<|DO.dF rfl rfl zg rfl rfl zg rfl rfl (ai.cm _) rfl rfl rfl (zo h32) (yz ?_)
 exact yk (yN (_,_,_) n ⟨by omega,g⟩);exact yk (yN (x28,s6,s7) n ⟨by omega,g⟩);refine yo [0,1,2,3,4,5,6,7,8,9,10,11,12,13,14] [] [] ?_;refine ay g (λ_ g=>?_) λ_ g=>?_;refine yo [0,1,2,3,4,5,6,7,8,9,10,11,12] [] [] ?_;refine yY g ai.aA λx34 _ _ g=>?_;refine yY g ai.aA λx36 _ _ g=>?_;obtain⟨x38,ex38,g⟩:=ck g;refine yl (yQ ai.bh ex38) ?_;refine yc g (o.a.nS _ _) λy40 g=>?_;refine ay g (λ_ g=>?_) λ_ g=>?_;refine yk<|ak.fu 1 (rows':=ai.rows ([{Process:=x34.Process,N:=y40:ai}])) rfl zi (yz ?_)
 obtain⟨h42,g⟩:=bE g;refine yk<|DO.dF rfl rfl zg rfl rfl zg rfl rfl (ai.cm _) rfl rfl rfl (zo h42) (yz ?_)
 exact yk (yN (_,_,_) n ⟨by omega,g⟩);exact yk (yN (s5,x38,s7) n ⟨by omega,g⟩);refine yY g ai.aA λx43 _ _ g=>?_;refine yY g ai.aA λx45 _ _ g=>?_;refine ay g (λ_ g=>?_) λ_ g=>?_;refine yo [0,1,2,3,4,5,6,7,8,9,10,11,12] [] [] ?_;refine yY g ai.aA λx48 _ _ g=>?_;refine yY g ai.aA λx50 _ _ g=>?_;obtain⟨x52,ex52,g⟩:=ck g;refine yl (yQ ai.bh ex52) ?_;refine yc g (o.a.nS _ _) λy54 g=>?_;refine ay g (λ_ g=>?_) λ_ g=>?_;refine yk<|ak.fu 1 (rows':=ai.rows ([{Process:=x48.Process,N:=y54:ai}])) rfl zi (yz ?_)
 obtain⟨h56,g⟩:=bE g;refine yk<|DO.dF rfl rfl zg rfl rfl zg rfl rfl (ai.cm _) rfl rfl rfl (zo h56) (yz ?_)
 exact yk (yN (_,_,_) n ⟨by omega,g⟩);exact yk (yN (s5,x52,s7) n ⟨by omega,g⟩);refine yo [0,1,2,3,4,5,6,7,8,9,10,11,12,13,14,15,16,17,18,19,20] [] [] ?_;refine yY g ai.aA λx57 _ _ g=>?_;refine yY g ai.aA λx59 _ _ g=>?_;refine yY g ai.aA λx61 _ _ g=>?_;obtain⟨x63,ex63,g⟩:=ck g;refine yl (yQ ai.bh ex63) ?_;obtain⟨x65,ex65,g⟩:=ck g;refine yl (yQ ai.bh ex65) ?_;refine yc g (o.a.nS _ _) λy67 g=>?_;refine ay g (λ_ g=>?_) λ_ g=>?_;refine yk<|ak.fu 1 (rows':=ai.rows ([{Process:=x57.Process,N:=y67:ai}])) rfl zi (yz ?_)
 obtain⟨h69,g⟩:=bE g;refine yk<|DO.dF rfl rfl zg rfl rfl zg rfl rfl (ai.cm _) rfl rfl rfl (zo h69) (yz ?_)
 exact yk (yN (_,_,_) n ⟨by omega,g⟩);exact yk (yN (x63,x65,s7) n ⟨by omega,g⟩);refine bc g λ_ g=>?_;refine yo [0,1,2,3,4,5,6,7,8,9,10,11,12,13,14,15,16,17,18,19] [] [] ?_;refine ay g (λ_ g=>?_) λ_ g=>?_;refine yo [0,1,2,3,4,5,6,7,8,9,10,11,12] [] [] ?_;refine yY g ai.aA λx72 _ _ g=>?_;refine yY g ai.aA λx74 _ _ g=>?_;obtain⟨x76,ex76,g⟩:=ck g;refine yl (yQ ai.bh ex76) ?_;refine yc g (o.a.nS _ _) λy78 g=>?_;refine ay g (λ_ g=>?_) λ_ g=>?_;refine yk<|ak.fu 1 (rows':=ai.rows ([{Process:=x72.Process,N:=y78:ai}])) rfl zi (yz ?_)
 obtain⟨h80,g⟩:=bE g;refine yk<|DO.dF rfl rfl zg rfl rfl zg rfl rfl (ai.cm _) rfl rfl rfl (zo h80) (yz ?_)
 exact yk (yN (_,_,_) n ⟨by omega,g⟩);exact yk (yN (x76,s6,s7) n ⟨by omega,g⟩);refine Ok.jI h8 ?_;conv=>(arg 3;whnf)
 refine yo [0,1,2,3,4,5,6,7,8,9,10,11,12,13,14] [] [] ?_;refine ay g (λ_ g=>?_) λ_ g=>?_;refine yo [0,1,2,3,4,5,6,7,8,9,10,11,12] [] [] ?_;refine yY g ai.aA λx82 _ _ g=>?_;refine yY g ai.aA λx84 _ _ g=>?_;obtain⟨x86,ex86,g⟩:=ck g;refine yl (yQ ai.bh ex86) ?_;refine yc g (o.a.nS _ _) λy88 g=>?_;refine ay g (λ_ g=>?_) λ_ g=>?_;refine yk<|ak.fu 1 (rows':=ai.rows ([{Process:=x82.Process,N:=y88:ai}])) rfl zi (yz ?_)
 obtain⟨h90,g⟩:=bE g;refine yk<|DO.dF rfl rfl zg rfl rfl zg rfl rfl (ai.cm _) rfl rfl rfl (zo h90) (yz ?_)
 exact yk (yN (_,_,_) n ⟨by omega,g⟩);exact yk (yN (s5,x86,s7) n ⟨by omega,g⟩);refine yY g ai.aA λx91 _ _ g=>?_;refine yY g ai.aA λx93 _ _ g=>?_;refine ay g (λ_ g=>?_) λ_ g=>?_;refine yo [0,1,2,3,4,5,6,7,8,9,10,11,12] [] [] ?_;refine yY g ai.aA λx96 _ _ g=>?_;refine yY g ai.aA λx98 _ _ g=>?_;obtain⟨x100,ex100,g⟩:=ck g;refine yl (yQ ai.bh ex100) ?_;refine yc g (o.a.nS _ _) λy102 g=>?_;refine ay g (λ_ g=>?_) λ_ g=>?_;refine yk<|ak.fu 1 (rows':=ai.rows ([{Process:=x96.Process,N:=y102:ai}])) rfl zi (yz ?_)
 obtain⟨h104,g⟩:=bE g;refine yk<|DO.dF rfl rfl zg rfl rfl zg rfl rfl (ai.cm _) rfl rfl rfl (zo h104) (yz ?_)
 exact yk (yN (_,_,_) n ⟨by omega,g⟩);exact yk (yN (s5,x100,s7) n ⟨by omega,g⟩);refine yo [0,1,2,3,4,5,6,7,8,9,10,11,12,13,14,15,16,17,18,19,20] [] [] ?_;refine yY g ai.aA λx105 _ _ g=>?_;refine yY g ai.aA λx107 _ _ g=>?_;refine yY g ai.aA λx109 _ _ g=>?_;obtain⟨x111,ex111,g⟩:=ck g;refine yl (yQ ai.bh ex111) ?_;obtain⟨x113,ex113,g⟩:=ck g;refine yl (yQ ai.bh ex113) ?_;refine yc g (o.a.nS _ _) λy115 g=>?_;refine ay g (λ_ g=>?_) λ_ g=>?_;refine yk<|ak.fu 1 (rows':=ai.rows ([{Process:=x105.Process,N:=y115:ai}])) rfl zi (yz ?_)
 obtain⟨h117,g⟩:=bE g;refine yk<|DO.dF rfl rfl zg rfl rfl zg rfl rfl (ai.cm _) rfl rfl rfl (zo h117) (yz ?_)
 exact yk (yN (_,_,_) n ⟨by omega,g⟩);exact yk (yN (x111,x113,s7) n ⟨by omega,g⟩)
/-plexus.clock.Minus-/
theorem air {n} (o:Of n):V4 (zX (Gf n)):=by
 intro a0 a1 r g;rw[zX]at g;refine yw func242 ntmps242 ?_;refine yc g (o.a.acM _ _) λy1 g=>?_;cases g;exact zl
/-plexus.clock.Compare-/
theorem ais {n} (o:Of n):V5 (zZ (Gf n)):=by
 intro a0 a1 r g;rw[zZ]at g;refine yw func185 ntmps185 ?_;refine yc g (o.a.nR _) λy1 g=>?_;refine aM g λ_ g=>?_;refine yc g (o.a.nR _) λy3 g=>?_;refine aM g λ_ g=>?_;refine yc g (o.a.W2 _ _) λy5 g=>?_;refine yc g (o.a.W2 _ _) λy6 g=>?_;refine ay g (λh7 g=>?_) λh7 g=>?_;refine aM g λ_ g=>?_;refine Ok.iQ h7 ?_;conv=>(arg 3;whnf)
 cases g;exact zl;refine Ok.jI h7 ?_;conv=>(arg 3;whnf)
 exact cO g
/-plexus.value.register-/
theorem ait {n} (o:Of n):V6 (u7 (Gf n)):=by
 intro a0 r g;rw[u7]at g;refine yw func119 ntmps119 ?_;refine yk<|yL (S:=Bool×Int) (G:=λm s=>nA (Gf m) a0 s.1 s.2) (s0:=(false,0)) 0 [0,8,9] [2,10] (λs=>[(2,.d (.v (.bool s.1))),(10,.d (.v (.int .i64 s.2)))]) (λs=>[]) g ?_;rintro n ⟨s1,s2⟩ _ g;change tE (Gf n) a0 s1 s2=_ at g;rw[tE]at g;refine yz ?_
 refine bc g λ_ g=>?_;refine yX g ax.aA λx4 _ _ g=>?_;refine yo [0,1,2,3,4,5,6,7,8,9,10,11,12,13,14,15,16,17,18,19,20,21,22,23,24,25,26,27,28,29] [] [] ?_;refine aM g λ_ g=>?_;obtain⟨y7,ey7,g⟩:=a8 g (o.a.nR _);refine yl (yC ey7) ?_;refine aM g λ_ g=>?_;obtain⟨y9,ey9,g⟩:=a8 g (o.a.l4 _);refine yl (yC ey9) ?_;refine aM g λ_ g=>?_;refine ay g (λ_ g=>?_) λ_ g=>?_;refine yY g ax.aA λx12 _ _ g=>?_;obtain⟨y14,ey14,g⟩:=a8 g (o.a.EN _ _);refine yl (yC ey14) ?_;refine aM g λ_ g=>?_;obtain⟨x16,ex16,g⟩:=ck g;refine yv (yQ ax.bh ex16) ?_;refine yk<|yL (S:=Bool×Int) (G:=λm s=>Dv (Gf m) a0 s1 s2 x4 y7 y9 x12 y14 x16 s.1 s.2) (s0:=(s1,0)) 1 [0,4,8,9,10,47,48] [2,49] (λs=>[(2,.d (.v (.bool s.1))),(49,.d (.v (.int .i64 s.2)))]) (λs=>[]) g ?_;rintro n ⟨s18,s19⟩ _ g;change xu (Gf n) a0 s1 s2 x4 y7 y9 x12 y14 x16 s18 s19=_ at g;rw[xu]at g;refine yz ?_
 refine ay g (λ_ g=>?_) λ_ g=>?_;refine yX g ax.aA λx21 _ _ g=>?_;refine yc g (o.a.EV _ _) λy23 g=>?_
 iterate 2 (refine aM g λ_ g=>?_)
 iterate 2 (exact yk (yN (_,_) n ⟨by omega,g⟩))
 obtain⟨x26,ex26,g⟩:=ck g;refine yv (yQ ax.bh ex26) ?_;refine yk<|yL (S:=Bool×Int) (G:=λm s=>Dw (Gf m) a0 s1 s2 x4 y7 y9 x26 s.1 s.2) (s0:=(s1,0)) 1 [0,4,8,9,10,47,48] [2,49] (λs=>[(2,.d (.v (.bool s.1))),(49,.d (.v (.int .i64 s.2)))]) (λs=>[]) g ?_;rintro n ⟨s28,s29⟩ _ g;change xv (Gf n) a0 s1 s2 x4 y7 y9 x26 s28 s29=_ at g;rw[xv]at g;refine yz ?_
 refine ay g (λ_ g=>?_) λ_ g=>?_;refine yX g ax.aA λx31 _ _ g=>?_;refine yc g (o.a.EV _ _) λy33 g=>?_
 iterate 2 (refine aM g λ_ g=>?_)
 iterate 2 (exact yk (yN (_,_) n ⟨by omega,g⟩))
/-plexus.value.uk-/
theorem aiu {n} (o:Of n):V7 (zO (Gf n)):=by
 intro a0 r g;rw[zO]at g;refine yw func121 ntmps121 ?_
 iterate 2 (refine aM g λ_ g=>?_)
 refine ay g (λ_ g=>?_) λ_ g=>?_;refine Ok.stuck aV ?_;refine ak.gK 2 2 38 4 3 rfl rfl rfl ?_;refine yL (S:=Int×(List af)) (G:=λm s=>xq (Gf m) a0 s.1 s.2) (s0:=(0,[])) 4 [2,3,22,23] [24] (λs=>[(24,.d (.v (.int .i64 s.1)))]) (λs=>[(3,.row 38 4 (af.rows s.2)),(2,.box [.d (.v (.int .i64 0)),.d (.v (.slice none 0 0)),.os 3 (af.rows s.2).length,.d (.v (.slice none 0 0))])]) g ?_;rintro n ⟨s4,s7⟩ _ g;change Dx (Gf n) a0 s4 s7=_ at g;rw[Dx]at g;refine yz ?_;refine bc g λ_ g=>?_;refine yX g ah.aA λx10 _ _ g=>?_;refine yo [0,1,2,3,4] (tk [16,18,22]) [] ?_;obtain⟨y12,ey12,g⟩:=a8 g (o.a.A6 _);refine yl (yC ey12) ?_;obtain⟨h13,g⟩:=bE g;refine yk<|ak.dY (rows2:=(af.rows ([y12]))) aE.nil rfl rfl rfl rfl rfl zg rfl zi rfl rfl (af.cm _) rfl rfl (zo h13) (yz ?_)
 exact yk (yN (_,_) n ⟨by omega,g⟩);refine bc g λ_ g=>?_;refine Ok.stuck aV ?_;refine ak.gK 2 2 38 4 3 rfl rfl rfl ?_;refine yL (S:=Int×(List af)) (G:=λm s=>xr (Gf m) a0 s.1 s.2) (s0:=(0,[])) 4 [2,3,22,23] [24] (λs=>[(24,.d (.v (.int .i64 s.1)))]) (λs=>[(3,.row 38 4 (af.rows s.2)),(2,.box [.d (.v (.int .i64 0)),.d (.v (.slice none 0 0)),.os 3 (af.rows s.2).length,.d (.v (.slice none 0 0))])]) g ?_;rintro n ⟨s15,s18⟩ _ g;change Dy (Gf n) a0 s15 s18=_ at g;rw[Dy]at g;refine yz ?_;refine bc g λ_ g=>?_;refine yX g ah.aA λx21 _ _ g=>?_;refine yo [0,1,2,3,4] (tk [16,18,22]) [] ?_;obtain⟨y23,ey23,g⟩:=a8 g (o.a.A6 _);refine yl (yC ey23) ?_;obtain⟨h24,g⟩:=bE g;refine yk<|ak.dY (rows2:=(af.rows ([y23]))) aE.nil rfl rfl rfl rfl rfl zg rfl zi rfl rfl (af.cm _) rfl rfl (zo h24) (yz ?_)
 exact yk (yN (_,_) n ⟨by omega,g⟩)
/-plexus.value.Equal-/
theorem aiv {n} (o:Of n):V8 (zN (Gf n)):=by
 intro a0 a1 r g;rw[zN]at g;refine yw func120 ntmps120 ?_;refine yc g (o.a.A4 _ _) λy1 g=>?_;cases g;exact zl
/-plexus.value.element-/
theorem w64 {n} (o:Of n):XC (Bq (Gf n)):=by
 intro a0 a1 r g;rw[Bq]at g;refine yw func64 ntmps64 ?_;refine ay g (λ_ g=>?_) λ_ g=>?_;refine yc g (o.a.l5 _ _ _ _ _) λy2 g=>?_;refine bc g λ_ g=>?_;exact cO g;refine ay g (λ_ g=>?_) λ_ g=>?_;refine yc g (o.a.l5 _ _ _ _ _) λy6 g=>?_;refine bc g λ_ g=>?_;exact cO g;refine ay g (λ_ g=>?_) λ_ g=>?_;refine yc g (o.a.l5 _ _ _ _ _) λy10 g=>?_;refine bc g λ_ g=>?_;exact cO g;refine ay g (λ_ g=>?_) λ_ g=>?_;refine yc g (o.a.l5 _ _ _ _ _) λy14 g=>?_;refine bc g λ_ g=>?_;refine yc g (o.a.EU _ _) λy16 g=>?_;cases g;exact zl;refine ay g (λ_ g=>?_) λ_ g=>?_;refine yc g (o.a.l5 _ _ _ _ _) λy18 g=>?_;refine bc g λ_ g=>?_;refine yc g (o.a.EU _ _) λy20 g=>?_;refine bc g λ_ g=>?_;refine yc g (o.a.ajE _ _) λy22 g=>?_;cases g;exact zl
 iterate 2 (refine ay g (λ_ g=>?_) λ_ g=>?_)
 refine yc g (o.a.l5 _ _ _ _ _) λy25 g=>?_;cases g;exact zl;refine ay g (λ_ g=>?_) λ_ g=>?_;refine yc g (o.a.l5 _ _ _ _ _) λy27 g=>?_;cases g;exact zl;refine bc g λ_ g=>?_;refine yc g (o.a.l5 _ _ _ _ _) λy29 g=>?_
 iterate 2 (refine bc g λ_ g=>?_)
 refine yc g (o.a.EU _ _) λy32 g=>?_;cases g;exact zl;refine ay g (λ_ g=>?_) λ_ g=>?_;refine yc g (o.a.l5 _ _ _ _ _) λy34 g=>?_;refine bc g λ_ g=>?_;refine yc g (o.a.ajF _) λy36 g=>?_;cases g;exact zl;refine ay g (λ_ g=>?_) λ_ g=>?_;refine yc g (o.a.l5 _ _ _ _ _) λy38 g=>?_
 iterate 2 (refine aM g λ_ g=>?_)
 refine yc g (o.a.EU _ _) λy41 g=>?_;refine aM g λ_ g=>?_;refine yk<|yL (S:=Int) (G:=λm s=>pg (Gf m) a0 a1 s) (s0:=0) 2 [2,3,4,131,132] [133] (λs=>[(133,.d (.v (.int .i64 s)))]) (λs=>[]) g ?_;rintro n s43 _ g;change uv (Gf n) a0 a1 s43=_ at g;rw[uv]at g;refine yz ?_
 refine bc g λ_ g=>?_;refine yX g af.aA λx45 _ _ g=>?_;refine yo [0,1,2,3,4,5,6,7,8,9,10,11,12,13,14,15] [] [] ?_;refine yY g ah.aA λx47 _ _ g=>?_;obtain⟨y49,ey49,g⟩:=a8 g (o.a.My _ _);refine yl (yC ey49) ?_;refine aM g λ_ g=>?_;refine yY g ah.aA λx51 _ _ g=>?_;obtain⟨y53,ey53,g⟩:=a8 g (o.a.A6 _);refine yl (yC ey53) ?_;obtain⟨y54,ey54,g⟩:=a8 g (o.a.A7 _ _);refine yl (yC ey54) ?_;refine aM g λ_ g=>?_;exact yk (yN _ n ⟨by omega,g⟩);refine yc g (o.a.l5 _ _ _ _ _) λy56 g=>?_
 iterate 2 (refine aM g λ_ g=>?_)
 refine yk<|yL (S:=Int) (G:=λm s=>pf (Gf m) a0 a1 s) (s0:=0) 2 [2,4,167,168] [169] (λs=>[(169,.d (.v (.int .i64 s)))]) (λs=>[]) g ?_;rintro n s59 _ g;change uq (Gf n) a0 a1 s59=_ at g;rw[uq]at g;refine yz ?_
 refine bc g λ_ g=>?_;refine yX g af.aA λx61 _ _ g=>?_;refine yo [0,1,2,3,4,5,6,7] [] [] ?_;refine yY g ah.aA λx63 _ _ g=>?_;obtain⟨y65,ey65,g⟩:=a8 g (o.a.My _ _);refine yl (yC ey65) ?_;refine aM g λ_ g=>?_;exact yk (yN _ n ⟨by omega,g⟩)
/-plexus.value.Valid-/
theorem w26 {n} (o:Of n):XD (Br (Gf n)):=by
 intro a0 a1 r g;rw[Br]at g;refine yw func26 ntmps26 ?_;refine yc g (o.a.BI _) λy1 g=>?_;refine bc g λ_ g=>?_;refine yc g (o.a.My _ _) λy3 g=>?_;cases g;exact zl
/-plexus.eval.argument$1-/
theorem aiw {n} (o:Of n):V9 (yK (Gf n)):=by
 intro a0 r g;rw[yK]at g;refine yw func124 ntmps124 ?_;refine yc g (o.a.l4 _) λy1 g=>?_;cases g;exact zl
/-slices.IndexFunc[[]string,string]-/
theorem acG {n} (o:Of n):Qk (sM (Gf n)):=by
 intro a0 r g;rw[sM]at g;refine yw func187 ntmps187 ?_;refine yk<|yL (S:=Int) (G:=λm s=>wB (Gf m) a0 s) (s0:=0) 0 [0,1,4,7] [8] (λs=>[(8,.d (.v (.int .i64 s)))]) (λs=>[]) g ?_;rintro n s1 _ g;change wC (Gf n) a0 s1=_ at g;rw[wC]at g;refine yz ?_
 refine bc g λ_ g=>?_;refine yX g cL λx3 _ _ g=>?_;refine yc g (o.a.ajG _) λy5 g=>?_;refine aM g λ_ g=>?_;exact yk (yN _ n ⟨by omega,g⟩)
/-slices.ContainsFunc[[]string,string]-/
theorem acH {n} (o:Of n):Ql (w4 (Gf n)):=by
 intro a0 r g;rw[w4]at g;refine yw func123 ntmps123 ?_;refine yc g (o.a.acN _) λy1 g=>?_;cases g;exact zl
/-plexus.eval.argument-/
theorem w65 {n} (o:Of n):XE (Bk (Gf n)):=by
 intro a0 a1 r g;rw[Bk]at g;refine yw func65 ntmps65 ?_
 iterate 3 (refine aM g λ_ g=>?_)
 refine ay g (λh4 g=>?_) λh4 g=>?_;refine aM g λ_ g=>?_;refine ay g (λ_ g=>?_) λh6 g=>?_;refine aM g λ_ g=>?_;refine ay g (λh8 g=>?_) λh8 g=>?_;refine ay g (λh9 g=>?_) λh9 g=>?_;refine aM g λ_ g=>?_;refine Ok.jI (xW h8) ?_;conv=>(arg 3;whnf)
 refine Ok.jI (xW h9) ?_;conv=>(arg 3;whnf)
 refine Ok.jI (xW h4) ?_;conv=>(arg 3;whnf)
 refine yc g (o.a.nQ _) λy11 g=>?_;refine aM g λ_ g=>?_;refine yc g (o.a.Qq _) λy13 g=>?_;exact cO g;refine Ok.jI (xW h8) ?_;conv=>(arg 3;whnf)
 refine Ok.iQ (pq h9) ?_;conv=>(arg 3;whnf)
 refine bc g λ_ g=>?_;exact cO g;refine Ok.iQ (pq h8) ?_;conv=>(arg 3;whnf)
 refine aM g λ_ g=>?_;exact cO g
 iterate 2 (refine yT (pq h6) ?_)
 refine aM g λ_ g=>?_
 iterate 2 (refine yF (pq h6) ?_)
 refine Ok.jI (xW h4) ?_;conv=>(arg 3;whnf)
 refine yc g (o.a.nQ _) λy20 g=>?_;refine aM g λ_ g=>?_;refine yc g (o.a.Qq _) λy22 g=>?_;exact cO g;refine yT (pq h4) ?_;refine aM g λ_ g=>?_
 iterate 2 (refine yT (pq h4) ?_)
 refine aM g λ_ g=>?_
 iterate 2 (refine yF (pq h4) ?_)
 refine Ok.iQ (pq h4) ?_;conv=>(arg 3;whnf)
 refine yc g (o.a.l4 _) λy26 g=>?_;exact cO g
/-plexus.eval.Arguments-/
theorem w27 {n} (o:Of n):XF (Bc (Gf n)):=by
 intro a0 a1 r g;rw[Bc]at g;refine yw func27 ntmps27 ?_;refine aM g λ_ g=>?_;refine yk<|yL (S:=Int) (G:=λm s=>qK (Gf m) a0 a1 s) (s0:=0) 0 [1,4,13,14] [15] (λs=>[(15,.d (.v (.int .i64 s)))]) (λs=>[]) g ?_;rintro n s2 _ g;change uf (Gf n) a0 a1 s2=_ at g;rw[uf]at g;refine yz ?_
 refine bc g λ_ g=>?_;refine yX g TParam.aA λx4 _ _ g=>?_;refine yo [0,1,2,3,4,5,6,7] [] [] ?_;refine yY g aR.aA λx6 _ _ g=>?_;obtain⟨y8,ey8,g⟩:=a8 g (o.a.c65 _ _);refine yl (yC ey8) ?_;refine aM g λ_ g=>?_;exact yk (yN _ n ⟨by omega,g⟩)
/-plexus.eval.check-/
theorem w36 {n} (o:Of n):XG (rI (Gf n)):=by
 intro a0 a1 a2 a3 a4 r g;rw[rI]at g;refine yw func36 ntmps36 ?_;refine yc g (o.a.Yc _ _) λy1 g=>?_;refine aM g λ_ g=>?_;refine yv (bp.toP (bp.aep rfl zk rfl rfl)) ?_;refine aM g λ_ g=>?_;refine yc g (o.a.rO _ _) λy4 g=>?_;refine aM g λ_ g=>?_;refine yc g (o.a.vQ _ _) λy6 g=>?_;cases g;exact zl
/-plexus.eval.number-/
theorem aix {n} (o:Of n):V' (yR (Gf n)):=by
 intro a0 r g;rw[yR]at g;refine yw func138 ntmps138 ?_;cases g;exact yj
/-plexus.eval.truth-/
theorem aiy {n} (o:Of n):Wa (yS (Gf n)):=by
 intro a0 r g;rw[yS]at g;refine yw func139 ntmps139 ?_;exact cO g
/-plexus.value.Bottom-/
theorem aiz {n} (o:Of n):Wb (zQ (Gf n)):=by
 intro a0 r g;rw[zQ]at g;refine yw func202 ntmps202 ?_;refine yc g (o.a.BI _) λy1 g=>?_;refine aM g λ_ g=>?_;refine yc g (o.a.A6 _) λy3 g=>?_;cases g;exact zl
/-plexus.eval.uk-/
theorem aiA {n} (o:Of n):Wc (yM (Gf n)):=by
 intro a0 r g;rw[yM]at g;refine yw func140 ntmps140 ?_;refine yc g (o.a.W3 _) λy1 g=>?_;cases g;exact zl
/-(plexus.eval.frame).leaf-/
theorem w87 {n} (o:Of n):XH (kF (Gf n)):=by
 intro a0 a1 r g;rw[kF]at g;refine yw func87 ntmps87 ?_;refine ay g (λ_ g=>?_) λ_ g=>?_;refine yc g (o.a.vE _) λy2 g=>?_;cases g;exact zl;refine ay g (λ_ g=>?_) λ_ g=>?_;refine yc g (o.a.jc _) λy4 g=>?_;cases g;exact zl;refine aM g λ_ g=>?_;refine ay g (λ_ g=>?_) λ_ g=>?_;refine yX g aR.aA λx7 _ _ g=>?_;cases g;exact yj;refine aM g λ_ g=>?_;refine yc g (o.a.Ln _) λy10 g=>?_;cases g;exact yj
/-plexus.names.compare-/
theorem aiB {n} (o:Of n):Wd (Ad (Gf n)):=by
 intro a0 a1 r g;rw[Ad]at g;refine yw func203 ntmps203 ?_;refine yc g (o.a.EM _ _) λy1 g=>?_;refine aM g λ_ g=>?_;refine yc g (o.a.EO _ _) λy3 g=>?_;cases g;exact zl
/-plexus.names.Compare-/
theorem aiC {n} (o:Of n):We (Ac (Gf n)):=by
 intro a0 a1 r g;rw[Ac]at g;refine yw func142 ntmps142 ?_;refine yc g (o.a.rD _) λy1 g=>?_;refine yc g (o.a.rD _) λy2 g=>?_;refine yc g (o.a.ajH _ _) λy3 g=>?_;cases g;exact zl
/-plexus.join.elements-/
theorem aiD {n} (o:Of n):Wf (uZ (Gf n)):=by
 intro a0 a1 r g;rw[uZ]at g;refine yw func191 ntmps191 ?_;refine yk<|yL (S:=Int) (G:=λm s=>Dz (Gf m) a0 a1 s) (s0:=0) 1 [2,4,7,8] [9] (λs=>[(9,.d (.v (.int .i64 s)))]) (λs=>[]) g ?_;rintro n s1 _ g;change qp (Gf n) a0 a1 s1=_ at g;rw[qp]at g;refine yz ?_
 refine bc g λ_ g=>?_;refine yX g af.aA λx3 _ _ g=>?_;refine yc g (o.a.rO _ _) λy5 g=>?_;refine aM g λ_ g=>?_;exact yk (yN _ n ⟨by omega,g⟩)
/-plexus.join.check-/
theorem aiE {n} (o:Of n):Wg (zj (Gf n)):=by
 intro a0 a1 r g;rw[zj]at g;refine yw func127 ntmps127 ?_;refine yc g (o.a.BI _) λy1 g=>?_;refine aM g λ_ g=>?_;refine yc g (o.a.ajJ _ _) λy3 g=>?_;exact cO g
/-plexus.join.under-/
theorem aiF {n} (o:Of n):Wh (z6 (Gf n)):=by
 intro a0 a1 r g;rw[z6]at g;refine yw func251 ntmps251 ?_;refine yc g (o.a.EV _ _) λy1 g=>?_;refine aM g λ_ g=>?_;exact cO g
/-plexus.join.covered$1-/
theorem aiG {n} (o:Of n):Wi (zx (Gf n)):=by
 intro a0 a1 r g;rw[zx]at g;refine yw func250 ntmps250 ?_;refine yc g (o.a.ajK _ _) λy1 g=>?_;cases g;exact zl
/-slices.IndexFunc[[]plexus.api.Entry,plexus.api.Entry]-/
theorem abe {n} (o:Of n):Pe (sG (Gf n)):=by
 intro a0 a1 r g;rw[sG]at g;refine yw func295 ntmps295 ?_;refine yk<|yL (S:=Int) (G:=λm s=>wo (Gf m) a0 a1 s) (s0:=0) 0 [0,1,4,7] [8] (λs=>[(8,.d (.v (.int .i64 s)))]) (λs=>[]) g ?_;rintro n s1 _ g;change wq (Gf n) a0 a1 s1=_ at g;rw[wq]at g;refine yz ?_
 refine bc g λ_ g=>?_;refine yX g ax.aA λx3 _ _ g=>?_;refine yc g (o.a.ajL _ _) λy5 g=>?_;refine aM g λ_ g=>?_;exact yk (yN _ n ⟨by omega,g⟩)
/-slices.ContainsFunc[[]plexus.api.Entry,plexus.api.Entry]-/
theorem abf {n} (o:Of n):Pg (wO (Gf n)):=by
 intro a0 a1 r g;rw[wO]at g;refine yw func249 ntmps249 ?_;refine yc g (o.a.abm _ _) λy1 g=>?_;cases g;exact zl
/-plexus.join.covered-/
theorem aiH {n} (o:Of n):Wj (zy (Gf n)):=by
 intro a0 a1 r g;rw[zy]at g;refine yw func192 ntmps192 ?_;refine yc g (o.a.abn _ _) λy1 g=>?_;cases g;exact zl
/-plexus.join.leq-/
theorem aiI {n} (o:Of n):Wk (zA (Gf n)):=by
 intro a0 a1 a2 r g;rw[zA]at g;refine yw func128 ntmps128 ?_
 iterate 3 (refine aM g λ_ g=>?_)
 refine ay g (λ_ g=>?_) λ_ g=>?_;refine yc g (o.a.A5 _ _) λy5 g=>?_;cases g;exact zl;refine ay g (λ_ g=>?_) λ_ g=>?_;refine yc g (o.a.A5 _ _) λy7 g=>?_;cases g;exact zl;refine ay g (λ_ g=>?_) λ_ g=>?_;refine yk<|yL (S:=Int) (G:=λm s=>qv (Gf m) a0 a1 a2 s) (s0:=0) 3 [3,4,5,6,42,43] [44] (λs=>[(44,.d (.v (.int .i64 s)))]) (λs=>[]) g ?_;rintro n s9 _ g;change tn (Gf n) a0 a1 a2 s9=_ at g;rw[tn]at g;refine yz ?_
 refine bc g λ_ g=>?_;refine yX g cL λx11 _ _ g=>?_;refine yc g (o.a.rE _ _) λy13 g=>?_;refine yo [0,1,2,3,4,5,6,7,8,9,10,11,12,13,14,15,16,17,18,19] [] [] ?_;refine aM g λ_ g=>?_;refine yY g ah.aA λx15 _ _ g=>?_;refine yY g af.aA λx17 _ _ g=>?_;refine yY g af.aA λx19 _ _ g=>?_;obtain⟨y21,ey21,g⟩:=a8 g (o.a.nT _ _ _);refine yl (yC ey21) ?_;refine aM g λ_ g=>?_;exact yk (yN _ n ⟨by omega,g⟩);refine ay g (λ_ g=>?_) λ_ g=>?_;refine yk<|yL (S:=Int) (G:=λm s=>qw (Gf m) a0 a1 a2 s) (s0:=0) 3 [4,5,6,77,78] [79] (λs=>[(79,.d (.v (.int .i64 s)))]) (λs=>[]) g ?_;rintro n s24 _ g;change tp (Gf n) a0 a1 a2 s24=_ at g;rw[tp]at g;refine yz ?_
 refine bc g λ_ g=>?_;refine yX g ah.aA λx26 _ _ g=>?_;refine yo [0,1,2,3,4,5,6,7,8,9,10,11,12] [] [] ?_;refine yY g af.aA λx28 _ _ g=>?_;refine yY g af.aA λx30 _ _ g=>?_;obtain⟨y32,ey32,g⟩:=a8 g (o.a.nT _ _ _);refine yl (yC ey32) ?_;refine aM g λ_ g=>?_;exact yk (yN _ n ⟨by omega,g⟩);refine ay g (λ_ g=>?_) λ_ g=>?_;refine yo [0,1,2,3,4,5,6,7,8] [] [] ?_;refine yY g af.aA λx35 _ _ g=>?_;refine yY g af.aA λx37 _ _ g=>?_;obtain⟨y39,ey39,g⟩:=a8 g (o.a.A7 _ _);refine yl (yC ey39) ?_;refine ay g (λ_ g=>?_) λ_ g=>?_;refine yo [0,1,2,3,4,5,6,7,8,9,10,11,12,13] [] [] ?_;refine yY g ah.aA λx41 _ _ g=>?_;refine yY g af.aA λx43 _ _ g=>?_;refine yY g af.aA λx45 _ _ g=>?_;obtain⟨y47,ey47,g⟩:=a8 g (o.a.nT _ _ _);refine yl (yC ey47) ?_;cases g;exact zl;refine yo [0,1,2,3,4,5,6,7,8,9,10,11,12,13] [] [] ?_;refine yY g ah.aA λx48 _ _ g=>?_;refine yY g af.aA λx50 _ _ g=>?_;refine yY g af.aA λx52 _ _ g=>?_;obtain⟨y54,ey54,g⟩:=a8 g (o.a.nT _ _ _);refine yl (yC ey54) ?_;cases g;exact zl;refine ay g (λ_ g=>?_) λ_ g=>?_
 iterate 2 (refine aM g λ_ g=>?_)
 refine yc g (o.a.A7 _ _) λy58 g=>?_;cases g;exact zl;refine yk<|yL (S:=Int) (G:=λm s=>qx (Gf m) a1 a2 s) (s0:=0) 3 [5,6,151,152] [153] (λs=>[(153,.d (.v (.int .i64 s)))]) (λs=>[]) g ?_;rintro n s59 _ g;change tq (Gf n) a1 a2 s59=_ at g;rw[tq]at g;refine yz ?_
 refine bc g λ_ g=>?_;refine yX g ax.aA λx61 _ _ g=>?_;refine yc g (o.a.W5 _ _) λy63 g=>?_;refine aM g λ_ g=>?_;exact yk (yN _ n ⟨by omega,g⟩)
/-plexus.join.aS-/
theorem w69 {n} (o:Of n):XI (Bo (Gf n)):=by
 intro a0 a1 a2 r g;rw[Bo]at g;refine yw func69 ntmps69 ?_;refine yc g (o.a.W4 _ _) λy1 g=>?_;refine bc g λ_ g=>?_;refine yc g (o.a.nT _ _ _) λy3 g=>?_;cases g;exact zl
/-plexus.join.least-/
theorem aiJ {n} (o:Of n):Wl (zm (Gf n)):=by
 intro a0 r g;rw[zm]at g;refine yw func188 ntmps188 ?_;refine yc g (o.a.W3 _) λy1 g=>?_;cases g;exact zl
/-plexus.names.merge-/
set_option maxHeartbeats 0 in
theorem aiK {n} (o:Of n):Wm (Ab (Gf n)):=by
 intro a0 a1 a2 a3 a4 r g;rw[Ab]at g;refine yw func291 ntmps291 ?_;refine yc g (o.a.rD _) λy1 g=>?_;refine yc g (o.a.rD _) λy2 g=>?_;refine Ok.stuck aV ?_;refine ak.kQ 13 9 1 0 rfl rfl ?_;refine yL (S:=(List (List UInt8))×(List (List UInt8))×(List (List UInt8))) (G:=λm s=>fq (Gf m) a2 a3 a4 s.1 s.2.1 s.2.2) (s0:=(y1,y2,[])) 1 [2,3,4,10] [11,12,13] (λs=>[(11,.d (.sl 1 (aB s.1))),(12,.d (.sl 1 (aB s.2.1))),(13,.os 0 (aB s.2.2).length)]) (λs=>[(0,.row 9 1 (aB s.2.2))]) g ?_;rintro n ⟨s3,s4,s5⟩ _ g;change mE (Gf n) a2 a3 a4 s3 s4 s5=_ at g;rw[mE]at g;refine yz ?_;refine ay g (λh6 g=>?_) λh6 g=>?_;refine yo [0,1,2,3,4,5,6,7,8,9,10,11,12,13,14,15,16,17] [] [] ?_
 iterate 2 (refine ay g (λ_ g=>?_) λ_ g=>?_)
 refine yX g cL λx9 _ _ g=>?_;obtain⟨h11,g⟩:=bE g;refine yk<|DO.dF rfl rfl zg rfl rfl zg rfl rfl rfl rfl rfl rfl (zo h11) (yz ?_)
 obtain⟨x12,ex12,g⟩:=ck g;refine yv (yQ e9 ex12) ?_;exact yk (yN (_,_,_) n ⟨by omega,g⟩);obtain⟨x14,ex14,g⟩:=ck g;refine yv (yQ e9 ex14) ?_;exact yk (yN (x14,s4,s5) n ⟨by omega,g⟩);refine Ok.iQ h6 ?_;conv=>(arg 3;whnf)
 refine yY g cL λx16 _ _ g=>?_;refine yY g cL λx18 _ _ g=>?_
 iterate 2 (refine ay g (λ_ g=>?_) λ_ g=>?_)
 refine yX g cL λx22 _ _ g=>?_;obtain⟨h24,g⟩:=bE g;refine yk<|DO.dF rfl rfl zg rfl rfl zg rfl rfl rfl rfl rfl rfl (zo h24) (yz ?_)
 obtain⟨x25,ex25,g⟩:=ck g;refine yv (yQ e9 ex25) ?_;exact yk (yN (_,_,_) n ⟨by omega,g⟩);obtain⟨x27,ex27,g⟩:=ck g;refine yv (yQ e9 ex27) ?_;exact yk (yN (x27,s4,s5) n ⟨by omega,g⟩);refine yo [0,1,2,3,4,5,6,7,8,9,10,11,12] [] [] ?_
 iterate 2 (refine ay g (λ_ g=>?_) λ_ g=>?_)
 refine yX g cL λx31 _ _ g=>?_;obtain⟨h33,g⟩:=bE g;refine yk<|DO.dF rfl rfl zg rfl rfl zg rfl rfl rfl rfl rfl rfl (zo h33) (yz ?_)
 obtain⟨x34,ex34,g⟩:=ck g;refine yv (yQ e9 ex34) ?_;exact yk (yN (_,_,_) n ⟨by omega,g⟩);obtain⟨x36,ex36,g⟩:=ck g;refine yv (yQ e9 ex36) ?_;exact yk (yN (s3,x36,s5) n ⟨by omega,g⟩);refine yY g cL λx38 _ _ g=>?_;refine yY g cL λx40 _ _ g=>?_
 iterate 2 (refine ay g (λ_ g=>?_) λ_ g=>?_)
 refine yX g cL λx44 _ _ g=>?_;obtain⟨h46,g⟩:=bE g;refine yk<|DO.dF rfl rfl zg rfl rfl zg rfl rfl rfl rfl rfl rfl (zo h46) (yz ?_)
 obtain⟨x47,ex47,g⟩:=ck g;refine yv (yQ e9 ex47) ?_;exact yk (yN (_,_,_) n ⟨by omega,g⟩);obtain⟨x49,ex49,g⟩:=ck g;refine yv (yQ e9 ex49) ?_;exact yk (yN (s3,x49,s5) n ⟨by omega,g⟩);refine ay g (λ_ g=>?_) λ_ g=>?_;refine yX g cL λx52 _ _ g=>?_;obtain⟨h54,g⟩:=bE g;refine yk<|DO.dF rfl rfl zg rfl rfl zg rfl rfl rfl rfl rfl rfl (zo h54) (yz ?_)
 refine yo [0,1,2,3,4,5] [] [] ?_;obtain⟨x55,ex55,g⟩:=ck g;refine yl (yQ e9 ex55) ?_;obtain⟨x57,ex57,g⟩:=ck g;refine yl (yQ e9 ex57) ?_;exact yk (yN (_,_,_) n ⟨by omega,g⟩);refine yo [0,1,2,3,4,5] [] [] ?_;obtain⟨x59,ex59,g⟩:=ck g;refine yl (yQ e9 ex59) ?_;obtain⟨x61,ex61,g⟩:=ck g;refine yl (yQ e9 ex61) ?_;exact yk (yN (x59,x61,s5) n ⟨by omega,g⟩);refine bc g λ_ g=>?_;refine yo [0,1,2,3,4,5,6,7,8,9,10,11,12,13,14,15,16,17] [] [] ?_
 iterate 2 (refine ay g (λ_ g=>?_) λ_ g=>?_)
 refine yX g cL λx66 _ _ g=>?_;obtain⟨h68,g⟩:=bE g;refine yk<|DO.dF rfl rfl zg rfl rfl zg rfl rfl rfl rfl rfl rfl (zo h68) (yz ?_)
 obtain⟨x69,ex69,g⟩:=ck g;refine yv (yQ e9 ex69) ?_;exact yk (yN (_,_,_) n ⟨by omega,g⟩);obtain⟨x71,ex71,g⟩:=ck g;refine yv (yQ e9 ex71) ?_;exact yk (yN (x71,s4,s5) n ⟨by omega,g⟩);refine Ok.jI h6 ?_;conv=>(arg 3;whnf)
 refine yo [0,1,2,3,4,5,6,7,8,9,10,11,12] [] [] ?_
 iterate 2 (refine ay g (λ_ g=>?_) λ_ g=>?_)
 refine yX g cL λx75 _ _ g=>?_;obtain⟨h77,g⟩:=bE g;refine yk<|DO.dF rfl rfl zg rfl rfl zg rfl rfl rfl rfl rfl rfl (zo h77) (yz ?_)
 obtain⟨x78,ex78,g⟩:=ck g;refine yv (yQ e9 ex78) ?_;exact yk (yN (_,_,_) n ⟨by omega,g⟩);obtain⟨x80,ex80,g⟩:=ck g;refine yv (yQ e9 ex80) ?_;exact yk (yN (s3,x80,s5) n ⟨by omega,g⟩);refine yY g cL λx82 _ _ g=>?_;refine yY g cL λx84 _ _ g=>?_
 iterate 2 (refine ay g (λ_ g=>?_) λ_ g=>?_)
 refine yX g cL λx88 _ _ g=>?_;obtain⟨h90,g⟩:=bE g;refine yk<|DO.dF rfl rfl zg rfl rfl zg rfl rfl rfl rfl rfl rfl (zo h90) (yz ?_)
 obtain⟨x91,ex91,g⟩:=ck g;refine yv (yQ e9 ex91) ?_;exact yk (yN (_,_,_) n ⟨by omega,g⟩);obtain⟨x93,ex93,g⟩:=ck g;refine yv (yQ e9 ex93) ?_;exact yk (yN (s3,x93,s5) n ⟨by omega,g⟩);refine ay g (λ_ g=>?_) λ_ g=>?_;refine yX g cL λx96 _ _ g=>?_;obtain⟨h98,g⟩:=bE g;refine yk<|DO.dF rfl rfl zg rfl rfl zg rfl rfl rfl rfl rfl rfl (zo h98) (yz ?_)
 refine yo [0,1,2,3,4,5] [] [] ?_;obtain⟨x99,ex99,g⟩:=ck g;refine yl (yQ e9 ex99) ?_;obtain⟨x101,ex101,g⟩:=ck g;refine yl (yQ e9 ex101) ?_;exact yk (yN (_,_,_) n ⟨by omega,g⟩);refine yo [0,1,2,3,4,5] [] [] ?_;obtain⟨x103,ex103,g⟩:=ck g;refine yl (yQ e9 ex103) ?_;obtain⟨x105,ex105,g⟩:=ck g;refine yl (yQ e9 ex105) ?_;exact yk (yN (x103,x105,s5) n ⟨by omega,g⟩)
/-plexus.names.Union-/
theorem aiL {n} (o:Of n):Wn (Aa (Gf n)):=by
 intro a0 a1 r g;rw[Aa]at g;refine yw func247 ntmps247 ?_;refine yc g (o.a.ajN _ _ _ _ _) λy1 g=>?_;cases g;exact zl
/-cmp.Less[string]-/
theorem aiM {n} (o:Of n):Wo (zB (Gf n)):=by
 intro a0 a1 r g;rw[zB]at g;refine yw func309 ntmps309 ?_;refine yc g (o.a.vB _) λy1 g=>?_;refine bc g λ_ g=>?_;refine yc g (o.a.vB _) λy3 g=>?_;exact cO g
/-slices.isNaN[string]-/
theorem aiN {n} (o:Of n):Wp (I9 (Gf n)):=by
 intro a0 r g;rw[I9]at g;refine yw func336 ntmps336 ?_;cases g;exact zl
/-slices.BinarySearch[[]string,string]-/
theorem aiO {n} (o:Of n):Wq (u4 (Gf n)):=by
 intro a0 a1 r g;rw[u4]at g;refine yw func321 ntmps321 ?_;refine yk<|yL (S:=Int×Int) (G:=λm s=>tr (Gf m) a0 a1 s.1 s.2) (s0:=(0,(↑(aB a0).length:Int))) 0 [0,1,4,5,6] [7,8] (λs=>[(7,.d (.v (.int .i64 s.1))),(8,.d (.v (.int .i64 s.2)))]) (λs=>[]) g ?_;rintro n ⟨s1,s2⟩ _ g;change tu (Gf n) a0 a1 s1 s2=_ at g;rw[tu]at g;refine yz ?_
 refine ay g (λ_ g=>?_) λ_ g=>?_;refine yX g cL λx4 _ _ g=>?_;refine yc g (o.a.ajO _ _) λy6 g=>?_;refine ay g (λ_ g=>?_) λ_ g=>?_
 iterate 2 (exact yk (yN (_,_) n ⟨by omega,g⟩))
 refine bc g λ_ g=>?_;refine yX g cL λx9 _ _ g=>?_;refine aM g λ_ g=>?_;refine yX g cL λx12 _ _ g=>?_;refine yc g (o.a.W6 _) λy14 g=>?_;refine bc g λ_ g=>?_;refine yc g (o.a.W6 _) λy16 g=>?_;cases g;exact zl
/-(*plexus.closure.system).at-/
theorem aiP {n} (o:Of n):Wr (zE (Gf n)):=by
 intro a0 a1 r g;rw[zE]at g;refine yw func299 ntmps299 ?_;refine yc g (o.a.ajP _ _) λy1 g=>?_;exact cO g
/-(*plexus.closure.system).set-/
theorem aiQ {n} (o:Of n):Ws (zG (Gf n)):=by
 intro a0 a1 r g;rw[zG]at g;refine yw func264 ntmps264 ?_;refine yc g (o.a.nQ _) λy1 g=>?_;refine aM g λ_ g=>?_;obtain⟨m3,em3,g⟩:=ck g;obtain⟨hm3,bm3⟩:=Cc em3;refine yk<|ak.DZ m3 (c9 (List.replicate m3 false)) rfl hm3 rfl hm3 rfl rfl rfl rfl rfl (by omega) (by simp only[c9,BZ];exact du.replicate zi _) rfl (yz ?_)
 refine Ok.stuck aV ?_;refine ak.kQ 4 4 1 1 rfl rfl ?_;refine yL (S:=(List Bool)×(List Bool)×Int) (G:=λm s=>qy (Gf m) a0 a1 s.1 s.2.1 s.2.2) (s0:=([],List.replicate m3 false,0)) 2 [0,5,19,20] [4,6,21] (λs=>[(4,.os 1 (c9 s.1).length),(6,.os 0 (c9 s.2.1).length),(21,.d (.v (.int .i64 s.2.2)))]) (λs=>[(1,.row 4 1 (c9 s.1)),(0,.row 4 1 (c9 s.2.1))]) g ?_;rintro n ⟨s4,s5,s6⟩ _ g;change tv (Gf n) a0 a1 s4 s5 s6=_ at g;rw[tv]at g;refine yz ?_;refine bc g λ_ g=>?_;refine yX g cL λx8 _ _ g=>?_;refine yc g (o.a.Lq _ _) λy10 g=>?_;refine aM g λ_ g=>?_;obtain⟨x12,ex12,j13h,g⟩:=b3 g;refine yv (yr j13h ex12) ?_;refine yk<|ak.kp y10.toNat 0 (by rfl) (by rfl) (by rfl) (by rfl) (by rfl) (by rfl) zg (by rfl) (yg (oB ex12)) (by rfl) (by rfl) (by rfl) (by rfl) (yz ?_)
 exact yk (yN (_,_,_) n ⟨by omega,g⟩)
/-plexus.closure.every-/
theorem aiR {n} (o:Of n):Wt (zI (Gf n)):=by
 intro a0 r g;rw[zI]at g;refine yw func301 ntmps301 ?_;cases g;exact zl
/-(plexus.closure.horn).fires-/
theorem aiS {n} (o:Of n):Wu (zH (Gf n)):=by
 intro a0 a1 r g;rw[zH]at g;refine yw func322 ntmps322 ?_;refine yX g oB λx1 _ _ g=>?_;refine aM g λ_ g=>?_;refine yk<|yL (S:=Int) (G:=λm s=>qz (Gf m) a0 a1 s) (s0:=0) 1 [1,4,13,14] [15] (λs=>[(15,.d (.v (.int .i64 s)))]) (λs=>[]) g ?_;rintro n s4 _ g;change tA (Gf n) a0 a1 s4=_ at g;rw[tA]at g;refine yz ?_
 refine bc g λ_ g=>?_;refine yX g Cm λx6 _ _ g=>?_;refine yX g oB λx8 _ _ g=>?_;refine aM g λ_ g=>?_;exact yk (yN _ n ⟨by omega,g⟩)
