/- Printed by a program: what functions answer, and that they do. -/
import Derived.Test.YtmbalfjhlngncaaGreatKG6
set_option linter.all false
set_option maxRecDepth 100000
noncomputable section
namespace Go.Proofs.YtmbalfjhlngncaaGreat
open Go Go.Bw Go.Proofs.Tryz
/-plexus.plexuslaw19.awake-/
theorem w10 {n} (o:Of n):XW (LQ (Gf n)):=by
 intro r g;rw[LQ]at g;refine yw func10 ntmps10 ?_;refine yc g o.a.c33 λy1 g=>?_;refine yo [] (tk [0,3,6,9,12,15,18,21,24,27,31,34,36]) [] ?_
 iterate 2 (refine yt zp ?_)
 obtain⟨y2,ey2,g⟩:=a8 g (o.a.vP _);refine yu zp (bp.call ey2 rfl rfl) ?_;obtain⟨y3,ey3,g⟩:=a8 g (o.a.vP _);refine yu zp (bp.call ey3 rfl rfl) ?_;refine yt zp ?_;obtain⟨y4,ey4,g⟩:=a8 g (o.a.vR _ _ _ _);refine yu zp (bp.call ey4 rfl rfl) ?_
 iterate 5 (refine yt zp ?_)
 refine yo [] (tk [0,3,6,9,12,15,18,21,24,28,31,33]) [] ?_
 iterate 2 (refine yt zp ?_)
 obtain⟨y5,ey5,g⟩:=a8 g (o.a.vP _);refine yu zp (bp.call ey5 rfl rfl) ?_;refine yt zp ?_;obtain⟨y6,ey6,g⟩:=a8 g (o.a.vS _ _ _ _);refine yu zp (bp.call ey6 rfl rfl) ?_
 iterate 5 (refine yt zp ?_)
 refine yo [] (tk [0,3,6,9,12,15,18,21,24,27,30,33,36,39,42,45,48,51,55,58,60]) [] ?_;obtain⟨x7,ex7,j8h,g⟩:=b3 g;refine yu zp (yi j8h (ae.aA ex7)) ?_
 iterate 2 (refine yt zp ?_)
 obtain⟨x9,ex9,j10h,g⟩:=b3 g;refine yu zp (yi j10h (ae.aA ex9)) ?_
 iterate 2 (refine yt zp ?_)
 obtain⟨x11,ex11,j12h,g⟩:=b3 g;refine yu zp (yi j12h (ae.aA ex11)) ?_
 iterate 2 (refine yt zp ?_)
 obtain⟨y13,ey13,g⟩:=a8 g (o.a.vP _);refine yu zp (bp.call ey13 rfl rfl) ?_;refine yt zp ?_;obtain⟨y14,ey14,g⟩:=a8 g (o.a.Yg _ _ _);refine yu zp (bp.call ey14 rfl rfl) ?_
 iterate 5 (refine yt zp ?_)
 refine yo [] (tk [0,3,6,9,12,15,18,21,24,27,30,33,37,40,42]) [] ?_;obtain⟨x15,ex15,j16h,g⟩:=b3 g;refine yu zp (yi j16h (ae.aA ex15)) ?_
 iterate 2 (refine yt zp ?_)
 obtain⟨y17,ey17,g⟩:=a8 g (o.a.vP _);refine yu zp (bp.call ey17 rfl rfl) ?_;refine yt zp ?_;obtain⟨y18,ey18,g⟩:=a8 g (o.a.Yh _ _ _);refine yu zp (bp.call ey18 rfl rfl) ?_
 iterate 5 (refine yt zp ?_)
 refine yo [0,1,2,3,4,5,6,7,8,9,10,11,12,13,14,15,16,17,18,19,20,21,22,23,24,25,26,27,28,29,30,31,32,33,34,35,36,37,38,39,40,41,42,43,44,45,46,47,48,49,50,51,52,53,54,55,56,57,58,59,60,61,62,63,64,65,66,67] [] [] ?_
 iterate 2 (refine bc g λ_ g=>?_)
 refine yY g af.aA λx21 _ _ g=>?_
 iterate 7 (refine bc g λ_ g=>?_)
 obtain⟨y30,ey30,g⟩:=a8 g (o.a.Fq _);refine yl (yC ey30) ?_;refine bc g λ_ g=>?_;refine yY g ae.aA λx32 _ _ g=>?_;obtain⟨y34,ey34,g⟩:=a8 g (o.a.Fq _);refine yl (yC ey34) ?_;refine bc g λ_ g=>?_;obtain⟨y36,ey36,g⟩:=a8 g (o.a.vP _);refine yl (yC ey36) ?_;obtain⟨y37,ey37,g⟩:=a8 g (o.a.vQ _ _);refine yl (yC ey37) ?_;cases g;exact zl
/-plexus.plexusref18.room-/
theorem w71 {n} (o:Of n):XX (Bf (Gf n)):=by
 intro a0 a1 r g;rw[Bf]at g;refine yw func71 ntmps71 ?_
 iterate 2 (refine aM g λ_ g=>?_)
 refine yk<|yL (S:=Int×Int) (G:=λm s=>qM (Gf m) a0 s.1 s.2) (s0:=(IntKind.i64.wrap (a1-1),0)) 1 [2,4] [1,5] (λs=>[(1,.d (.v (.int .i64 s.1))),(5,.d (.v (.int .i64 s.2)))]) (λs=>[]) g ?_;rintro n ⟨s3,s4⟩ _ g;change ug (Gf n) a0 s3 s4=_ at g;rw[ug]at g;refine yz ?_
 iterate 2 (refine bc g λ_ g=>?_)
 refine yX g ae.aA λx7 _ _ g=>?_;refine yc g (o.a.Yi _ _) λy9 g=>?_;exact yk (yN (_,_) n ⟨by omega,g⟩)
/-plexus.plexusref18.Small-/
theorem w35 {n} (o:Of n):XY (Bg (Gf n)):=by
 intro a0 a1 r g;rw[Bg]at g;refine yw func35 ntmps35 ?_;refine yc g (o.a.Yi _ _) λy1 g=>?_;cases g;exact zl
/-plexus.plexusref10.room-/
theorem w66 {n} (o:Of n):XZ (Bh (Gf n)):=by
 intro a0 a1 r g;rw[Bh]at g;refine yw func66 ntmps66 ?_
 iterate 2 (refine aM g λ_ g=>?_)
 refine yk<|yL (S:=Int×Int×Int) (G:=λm s=>qN (Gf m) a0 s.1 s.2.1 s.2.2) (s0:=(IntKind.i64.wrap (a1-IntKind.i64.wrap (1+(↑(aB a0.Names).length:Int))),0,0)) 1 [2] [1,4,5] (λs=>[(1,.d (.v (.int .i64 s.1))),(4,.d (.v (.int .i64 s.2.1))),(5,.d (.v (.int .i64 s.2.2)))]) (λs=>[]) g ?_;rintro n ⟨s3,s4,s5⟩ _ g;change ui (Gf n) a0 s3 s4 s5=_ at g;rw[ui]at g;refine yz ?_
 refine ay g (λ_ g=>?_) λ_ g=>?_;refine aM g λ_ g=>?_;refine yX g ax.aA λx8 _ _ g=>?_;refine aM g λ_ g=>?_;refine yX g ax.aA λx11 _ _ g=>?_;exact yk (yN (_,_,_) n ⟨by omega,g⟩);refine yk<|yL (S:=Int×Int) (G:=λm s=>o8 (Gf m) a0 s.1 s.2) (s0:=(s3,0)) 1 [2,4,5] [1,6] (λs=>[(1,.d (.v (.int .i64 s.1))),(6,.d (.v (.int .i64 s.2)))]) (λs=>[]) g ?_;rintro n ⟨s13,s14⟩ _ g;change uh (Gf n) a0 s13 s14=_ at g;rw[uh]at g;refine yz ?_
 refine bc g λ_ g=>?_;refine yX g af.aA λx16 _ _ g=>?_;refine yc g (o.a.Yj _ _) λy18 g=>?_;refine aM g λ_ g=>?_;exact yk (yN (_,_) n ⟨by omega,g⟩)
/-plexus.plexusref10.Small-/
theorem w28 {n} (o:Of n):X0 (Bi (Gf n)):=by
 intro a0 a1 r g;rw[Bi]at g;refine yw func28 ntmps28 ?_;refine yc g (o.a.Yj _ _) λy1 g=>?_;cases g;exact zl
/-plexus.plexuslaw19.few-/
theorem w30 {n} (o:Of n):X1 (Bj (Gf n)):=by
 intro a0 r g;rw[Bj]at g;refine yw func30 ntmps30 ?_;refine aM g λ_ g=>?_;refine yk<|yL (S:=Int) (G:=λm s=>qO (Gf m) a0 s) (s0:=0) 0 [0,2] [3] (λs=>[(3,.d (.v (.int .i64 s)))]) (λs=>[]) g ?_;rintro n s2 _ g;change uj (Gf n) a0 s2=_ at g;rw[uj]at g;refine yz ?_
 refine bc g λ_ g=>?_;refine yX g aR.aA λx4 _ _ g=>?_;refine aM g λ_ g=>?_;exact yk (yN _ n ⟨by omega,g⟩)
/-plexus.plexuslaw19.small-/
theorem w11 {n} (o:Of n):X2 (Be (Gf n)):=by
 intro a0 a1 a2 r g;rw[Be]at g;refine yw func11 ntmps11 ?_;refine yc g (o.a.c35 _ _) λy1 g=>?_;refine bc g λ_ g=>?_;refine yc g (o.a.Yk _ _) λy3 g=>?_;refine bc g λ_ g=>?_;refine yc g (o.a.Yl _) λy5 g=>?_;exact cO g
/-plexus.plexusref10.sign-/
theorem w72 {n} (o:Of n):X3 (LR (Gf n)):=by
 intro a0 r g;rw[LR]at g;refine yw func72 ntmps72 ?_;exact cO g
/-plexus.plexusref10.lengths-/
theorem w73 {n} (o:Of n):X4 (BB (Gf n)):=by
 intro a0 a1 r g;rw[BB]at g;refine yw func73 ntmps73 ?_;refine aM g λ_ g=>?_;refine yc g (o.a.vT _) λy2 g=>?_;cases g;exact zl
/-plexus.plexusref10.CompareTicks-/
theorem ajl {n} (o:Of n):W1 (vn (Gf n)):=by
 intro a0 a1 r g;rw[vn]at g;refine yw func129 ntmps129 ?_;refine yk<|yL (S:=Int) (G:=λm s=>qH (Gf m) a0 a1 s) (s0:=0) 0 [0,1,4] [5] (λs=>[(5,.d (.v (.int .i64 s)))]) (λs=>[]) g ?_;rintro n s1 _ g;change tY (Gf n) a0 a1 s1=_ at g;rw[tY]at g;refine yz ?_
 iterate 2 (refine ay g (λ_ g=>?_) λ_ g=>?_)
 refine yo [0,1,2,3,4,5,6,7,8,9,10] [] [] ?_;refine yY g ai.aA λx4 _ _ g=>?_;refine yY g ai.aA λx6 _ _ g=>?_;refine ay g (λ_ g=>?_) λ_ g=>?_;refine yo [0,1,2,3,4,5,6,7,8,9,10,11,12] [] [] ?_;refine yY g ai.aA λx9 _ _ g=>?_;refine yY g ai.aA λx11 _ _ g=>?_;obtain⟨y13,ey13,g⟩:=a8 g (o.a.vT _);refine yl (yC ey13) ?_;cases g;exact zl;refine yo [0,1,2,3,4,5,6,7,8,9,10] [] [] ?_;refine yY g ai.aA λx14 _ _ g=>?_;refine yY g ai.aA λx16 _ _ g=>?_;refine ay g (λ_ g=>?_) λ_ g=>?_;refine yo [0,1,2,3,4,5,6,7,8,9,10,11,12] [] [] ?_;refine yY g ai.aA λx19 _ _ g=>?_;refine yY g ai.aA λx21 _ _ g=>?_;obtain⟨y23,ey23,g⟩:=a8 g (o.a.vT _);refine yl (yC ey23) ?_;cases g;exact zl;exact yk (yN _ n ⟨by omega,g⟩);refine yc g (o.a.jh _ _) λy24 g=>?_;cases g;exact zl;refine yc g (o.a.jh _ _) λy25 g=>?_;cases g;exact zl
/-plexus.plexusref10.CompareEntries-/
theorem w74 {n} (o:Of n):X5 (BC (Gf n)):=by
 intro a0 a1 r g;rw[BC]at g;refine yw func74 ntmps74 ?_;refine ay g (λ_ g=>?_) λ_ g=>?_;refine yc g (o.a.vT _) λy2 g=>?_;cases g;exact zl;refine yc g (o.a.aj' _ _) λy3 g=>?_;cases g;exact zl
/-plexus.plexusref10.Compare-/
set_option maxHeartbeats 0 in
theorem w38 {n} (o:Of n):X6 (BD (Gf n)):=by
 intro a0 a1 r g;rw[BD]at g;refine yw func38 ntmps38 ?_;refine ay g (λ_ g=>?_) λ_ g=>?_;refine yc g (o.a.vT _) λy2 g=>?_;cases g;exact zl;refine yk<|yL (S:=Int×Int) (G:=λm s=>qT (Gf m) a0 a1 s.1 s.2) (s0:=(0,0)) 2 [2,3] [4,5] (λs=>[(4,.d (.v (.int .i64 s.1))),(5,.d (.v (.int .i64 s.2)))]) (λs=>[]) g ?_;rintro n ⟨s3,s4⟩ _ g;change uD (Gf n) a0 a1 s3 s4=_ at g;rw[uD]at g;refine yz ?_
 iterate 2 (refine ay g (λ_ g=>?_) λ_ g=>?_)
 refine yo [0,1,2,3,4,5,6,7,8,9,10] [] [] ?_;refine yY g cL λx7 _ _ g=>?_;refine yY g cL λx9 _ _ g=>?_;refine ay g (λ_ g=>?_) λ_ g=>?_;refine yo [0,1,2,3,4,5,6,7,8,9,10,11,12] [] [] ?_;refine yY g cL λx12 _ _ g=>?_;refine yY g cL λx14 _ _ g=>?_;obtain⟨y16,ey16,g⟩:=a8 g (o.a.vT _);refine yl (yC ey16) ?_;cases g;exact zl;exact yk (yN (_,_) n ⟨by omega,g⟩);refine ay g (λ_ g=>?_) λ_ g=>?_;refine yc g (o.a.jh _ _) λy18 g=>?_;cases g;exact zl;refine yk<|yL (S:=Int×Int) (G:=λm s=>H9 (Gf m) a0 a1 s.1 s.2) (s0:=(s3,0)) 2 [2,3,5] [4,6] (λs=>[(4,.d (.v (.int .i64 s.1))),(6,.d (.v (.int .i64 s.2)))]) (λs=>[]) g ?_;rintro n ⟨s19,s20⟩ _ g;change H8 (Gf n) a0 a1 s19 s20=_ at g;rw[H8]at g;refine yz ?_
 iterate 2 (refine ay g (λ_ g=>?_) λ_ g=>?_)
 refine yo [0,1,2,3,4,5,6,7,8,9,10,11] [] [] ?_;refine yY g af.aA λx23 _ _ g=>?_;refine yY g af.aA λx25 _ _ g=>?_;obtain⟨y27,ey27,g⟩:=a8 g (o.a.MD _ _);refine yl (yC ey27) ?_;refine aM g λ_ g=>?_;exact yk (yN (_,_) n ⟨by omega,g⟩);refine ay g (λ_ g=>?_) λ_ g=>?_;refine yc g (o.a.jh _ _) λy30 g=>?_;cases g;exact zl;refine yk<|yL (S:=Int) (G:=λm s=>H' (Gf m) a0 a1 s) (s0:=0) 2 [2,3,4,5,6] [8] (λs=>[(8,.d (.v (.int .i64 s)))]) (λs=>[]) g ?_;rintro n s31 _ g;change Ij (Gf n) a0 a1 s31=_ at g;rw[Ij]at g;refine yz ?_
 iterate 2 (refine ay g (λ_ g=>?_) λ_ g=>?_)
 refine yo [0,1,2,3,4,5,6,7,8,9,10,11] [] [] ?_;refine yY g ax.aA λx34 _ _ g=>?_;refine yY g ax.aA λx36 _ _ g=>?_;obtain⟨y38,ey38,g⟩:=a8 g (o.a.Ft _ _);refine yl (yC ey38) ?_;refine aM g λ_ g=>?_;exact yk (yN _ n ⟨by omega,g⟩);refine yc g (o.a.jh _ _) λy40 g=>?_;cases g;exact zl;refine yc g (o.a.jh _ _) λy41 g=>?_;cases g;exact zl;refine ay g (λ_ g=>?_) λ_ g=>?_;refine yc g (o.a.jh _ _) λy43 g=>?_;cases g;exact zl;refine yk<|yL (S:=Int) (G:=λm s=>Ia (Gf m) a0 a1 s) (s0:=0) 2 [2,3,4,5,6] [8] (λs=>[(8,.d (.v (.int .i64 s)))]) (λs=>[]) g ?_;rintro n s44 _ g;change Ik (Gf n) a0 a1 s44=_ at g;rw[Ik]at g;refine yz ?_
 iterate 2 (refine ay g (λ_ g=>?_) λ_ g=>?_)
 refine yo [0,1,2,3,4,5,6,7,8,9,10,11] [] [] ?_;refine yY g ax.aA λx47 _ _ g=>?_;refine yY g ax.aA λx49 _ _ g=>?_;obtain⟨y51,ey51,g⟩:=a8 g (o.a.Ft _ _);refine yl (yC ey51) ?_;refine aM g λ_ g=>?_;exact yk (yN _ n ⟨by omega,g⟩);refine yc g (o.a.jh _ _) λy53 g=>?_;cases g;exact zl;refine yc g (o.a.jh _ _) λy54 g=>?_;cases g;exact zl;refine ay g (λ_ g=>?_) λ_ g=>?_;refine yc g (o.a.jh _ _) λy56 g=>?_;cases g;exact zl;refine yk<|yL (S:=Int×Int) (G:=λm s=>pk (Gf m) a0 a1 s.1 s.2) (s0:=(s3,0)) 2 [2,3,5] [4,6] (λs=>[(4,.d (.v (.int .i64 s.1))),(6,.d (.v (.int .i64 s.2)))]) (λs=>[]) g ?_;rintro n ⟨s57,s58⟩ _ g;change uC (Gf n) a0 a1 s57 s58=_ at g;rw[uC]at g;refine yz ?_
 iterate 2 (refine ay g (λ_ g=>?_) λ_ g=>?_)
 refine yo [0,1,2,3,4,5,6,7,8,9,10,11] [] [] ?_;refine yY g af.aA λx61 _ _ g=>?_;refine yY g af.aA λx63 _ _ g=>?_;obtain⟨y65,ey65,g⟩:=a8 g (o.a.MD _ _);refine yl (yC ey65) ?_;refine aM g λ_ g=>?_;exact yk (yN (_,_) n ⟨by omega,g⟩);refine ay g (λ_ g=>?_) λ_ g=>?_;refine yc g (o.a.jh _ _) λy68 g=>?_;cases g;exact zl;refine yk<|yL (S:=Int) (G:=λm s=>Ic (Gf m) a0 a1 s) (s0:=0) 2 [2,3,4,5,6] [8] (λs=>[(8,.d (.v (.int .i64 s)))]) (λs=>[]) g ?_;rintro n s69 _ g;change Ib (Gf n) a0 a1 s69=_ at g;rw[Ib]at g;refine yz ?_
 iterate 2 (refine ay g (λ_ g=>?_) λ_ g=>?_)
 refine yo [0,1,2,3,4,5,6,7,8,9,10,11] [] [] ?_;refine yY g ax.aA λx72 _ _ g=>?_;refine yY g ax.aA λx74 _ _ g=>?_;obtain⟨y76,ey76,g⟩:=a8 g (o.a.Ft _ _);refine yl (yC ey76) ?_;refine aM g λ_ g=>?_;exact yk (yN _ n ⟨by omega,g⟩);refine yc g (o.a.jh _ _) λy78 g=>?_;cases g;exact zl;refine yc g (o.a.jh _ _) λy79 g=>?_;cases g;exact zl;refine ay g (λ_ g=>?_) λ_ g=>?_;refine yc g (o.a.jh _ _) λy81 g=>?_;cases g;exact zl;refine yk<|yL (S:=Int) (G:=λm s=>pj (Gf m) a0 a1 s) (s0:=0) 2 [2,3,4,5,6] [8] (λs=>[(8,.d (.v (.int .i64 s)))]) (λs=>[]) g ?_;rintro n s82 _ g;change uB (Gf n) a0 a1 s82=_ at g;rw[uB]at g;refine yz ?_
 iterate 2 (refine ay g (λ_ g=>?_) λ_ g=>?_)
 refine yo [0,1,2,3,4,5,6,7,8,9,10,11] [] [] ?_;refine yY g ax.aA λx85 _ _ g=>?_;refine yY g ax.aA λx87 _ _ g=>?_;obtain⟨y89,ey89,g⟩:=a8 g (o.a.Ft _ _);refine yl (yC ey89) ?_;refine aM g λ_ g=>?_;exact yk (yN _ n ⟨by omega,g⟩);refine yc g (o.a.jh _ _) λy91 g=>?_;cases g;exact zl;refine yc g (o.a.jh _ _) λy92 g=>?_;cases g;exact zl
/-plexus.plexusref10.Equal-/
theorem w14 {n} (o:Of n):X7 (BE (Gf n)):=by
 intro a0 a1 r g;rw[BE]at g;refine yw func14 ntmps14 ?_;refine yc g (o.a.MD _ _) λy1 g=>?_;cases g;exact zl
/-plexus.plexusref02.Same-/
theorem w75 {n} (o:Of n):X8 (BF (Gf n)):=by
 intro a0 a1 r g;rw[BF]at g;refine yw func75 ntmps75 ?_;refine aM g λ_ g=>?_;refine yk<|yL (S:=Int) (G:=λm s=>pn (Gf m) a0 a1 s) (s0:=0) 0 [0,1,4] [5] (λs=>[(5,.d (.v (.int .i64 s)))]) (λs=>[]) g ?_;rintro n s2 _ g;change uE (Gf n) a0 a1 s2=_ at g;rw[uE]at g;refine yz ?_
 refine bc g λ_ g=>?_;refine yo [0,1,2,3,4,5,6,7,8] [] [] ?_;refine yY g cL λx4 _ _ g=>?_;refine yY g cL λx6 _ _ g=>?_;refine aM g λ_ g=>?_;exact yk (yN _ n ⟨by omega,g⟩)
/-plexus.plexusref19.same-/
theorem w39 {n} (o:Of n):X9 (BG (Gf n)):=by
 intro a0 a1 r g;rw[BG]at g;refine yw func39 ntmps39 ?_
 iterate 3 (refine bc g λ_ g=>?_)
 refine yc g (o.a.c75 _ _) λy4 g=>?_;cases g;exact zl
/-plexus.plexusref19.Same-/
theorem w17 {n} (o:Of n):X' (BH (Gf n)):=by
 intro a0 a1 r g;rw[BH]at g;refine yw func17 ntmps17 ?_;refine yc g (o.a.c39 _ _) λy1 g=>?_;cases g;exact zl
/-plexus.plexuslaw19.EvalUnread-/
theorem w7 {n} (o:Of n):C7 (B7 (Gf n)):=by
 intro a0 a1 a2 a3 a4 r g;rw[B7]at g;refine yw func7 ntmps7 ?_;refine yc g o.a.MB λy1 g=>?_;refine aM g λ_ g=>?_;refine yc g (o.a.MC _ _ _) λy3 g=>?_;refine aM g λ_ g=>?_;refine yc g (o.a.Yk _ _) λy5 g=>?_;refine aM g λ_ g=>?_;refine yc g (o.a.Fq _) λy7 g=>?_;refine aM g λ_ g=>?_;refine yc g (o.a.rO _ _) λy9 g=>?_;refine aM g λ_ g=>?_;refine yc g (o.a.rO _ _) λy11 g=>?_;refine aM g λ_ g=>?_;refine yc g (o.a.vR _ _ _ _) λy13 g=>?_;refine yc g (o.a.vR _ _ _ _) λy14 g=>?_;refine yc g (o.a.vS _ _ _ _) λy15 g=>?_;refine yc g (o.a.vS _ _ _ _) λy16 g=>?_;refine bc g λ_ g=>?_;refine yc g (o.a.Ym _ _) λy18 g=>?_
 iterate 2 (refine bc g λ_ g=>?_)
 refine yc g (o.a.Yn _ _) λy21 g=>?_;cases g;exact zl
/-plexus.plexusref19.Uses-/
theorem w31 {n} (o:Of n):Ya (LL (Gf n)):=by
 intro a0 a1 r g;rw[LL]at g;refine yw func31 ntmps31 ?_;refine ay g (λ_ g=>?_) λ_ g=>?_;refine aM g λ_ g=>?_;refine yk<|yL (S:=Int) (G:=λm s=>Ig (Gf m) a0 a1 s) (s0:=0) 1 [1,2,4] [5] (λs=>[(5,.d (.v (.int .i64 s)))]) (λs=>[]) g ?_;rintro n s3 _ g;change Ie (Gf n) a0 a1 s3=_ at g;rw[Ie]at g;refine yz ?_
 refine bc g λ_ g=>?_;refine yX g ae.aA λx5 _ _ g=>?_;refine yc g (o.a.ME _ _) λy7 g=>?_;refine aM g λ_ g=>?_;exact yk (yN _ n ⟨by omega,g⟩);refine yk<|yL (S:=Int) (G:=λm s=>Ii (Gf m) a0 a1 s) (s0:=0) 1 [1,2,4] [5] (λs=>[(5,.d (.v (.int .i64 s)))]) (λs=>[]) g ?_;rintro n s9 _ g;change Ih (Gf n) a0 a1 s9=_ at g;rw[Ih]at g;refine yz ?_
 refine bc g λ_ g=>?_;refine yX g ae.aA λx11 _ _ g=>?_;refine yc g (o.a.ME _ _) λy13 g=>?_;refine aM g λ_ g=>?_;exact yk (yN _ n ⟨by omega,g⟩)
/-plexus.plexuslaw19.EvalUnused-/
theorem w8 {n} (o:Of n):C8 (B8 (Gf n)):=by
 intro a0 a1 a2 a3 a4 r g;rw[B8]at g;refine yw func8 ntmps8 ?_;refine yc g o.a.MB λy1 g=>?_;refine aM g λ_ g=>?_;refine yc g (o.a.MC _ _ _) λy3 g=>?_;refine aM g λ_ g=>?_;refine yc g (o.a.Yl _) λy5 g=>?_
 iterate 2 (refine aM g λ_ g=>?_)
 refine yc g (o.a.vQ _ _) λy8 g=>?_;refine aM g λ_ g=>?_;refine yc g (o.a.vQ _ _) λy10 g=>?_;refine aM g λ_ g=>?_;obtain⟨h12,g⟩:=bE g;refine yk<|DO.pw (rows2:=(aR.rows a3)) rfl rfl zg rfl (bV.refl _) rfl rfl (aR.cm _) rfl rfl rfl (zo h12) (yz ?_)
 refine yk<|yL (S:=(List aR)×Int) (G:=λm s=>Ea (Gf m) a0 a1 a2 a3 a4 s.1 s.2) (s0:=([]++a3,0)) 4 [3,4,5,6,7,10] [11,12] (λs=>[(11,.os 3 (aR.rows s.1).length),(12,.d (.v (.int .i64 s.2)))]) (λs=>[(3,.row 48 4 (aR.rows s.1))]) g ?_;rintro n ⟨s13,s14⟩ _ g;change IH (Gf n) a0 a1 a2 a3 a4 s13 s14=_ at g;rw[IH]at g;refine yz ?_
 refine ay g (λ_ g=>?_) λ_ g=>?_;refine yc g (o.a.ME _ _) λy16 g=>?_;refine ay g (λ_ g=>?_) λ_ g=>?_;refine yX g aR.aA λx18 _ _ g=>?_;obtain⟨x20,ex20,j21h,g⟩:=b3 g;refine yv (yr j21h ex20) ?_;refine yk<|ak.kp s14.toNat 0 (by rfl) (by rfl) (by rfl) (by rfl) (by rfl) (by rfl) zg (by rfl) (yg (aR.aA ex20)) (by rfl) (by rfl) (by rfl) (by rfl) (yz ?_)
 iterate 2 (exact yk (yN (_,_) n ⟨by omega,g⟩))
 refine yc g (o.a.vR _ _ _ _) λy22 g=>?_;refine yk<|ak.cC (t:=87) rfl rfl (fp rfl aV) (yz ?_)
 refine yc g (o.a.vR _ _ _ _) λy24 g=>?_;refine yc g (o.a.vS _ _ _ _) λy25 g=>?_;refine yc g (o.a.vS _ _ _ _) λy26 g=>?_;refine bc g λ_ g=>?_;refine yc g (o.a.Ym _ _) λy28 g=>?_
 iterate 2 (refine bc g λ_ g=>?_)
 refine yc g (o.a.Yn _ _) λy31 g=>?_;cases g;exact zl
/-plexus.plexuslaw19.EvalSucceeds-/
theorem w6 {n} (o:Of n):C6 (B6 (Gf n)):=by
 intro a0 a1 a2 a3 r g;rw[B6]at g;refine yw func6 ntmps6 ?_;refine yc g o.a.MB λy1 g=>?_;refine aM g λ_ g=>?_;refine yc g (o.a.MC _ _ _) λy3 g=>?_;refine aM g λ_ g=>?_;refine yc g (o.a.Yc _ _) λy5 g=>?_;refine aM g λ_ g=>?_;refine yc g (o.a.rO _ _) λy7 g=>?_;refine aM g λ_ g=>?_;refine yc g (o.a.vQ _ _) λy9 g=>?_;refine aM g λ_ g=>?_;refine yc g (o.a.vR _ _ _ _) λy11 g=>?_;refine yc g (o.a.vS _ _ _ _) λy12 g=>?_;refine ay g (λ_ g=>?_) λ_ g=>?_;refine bc g λ_ g=>?_;refine yc g (o.a.rO _ _) λy15 g=>?_;exact cO g
 iterate 2 (refine bc g λ_ g=>?_)
 refine yc g (o.a.vQ _ _) λy19 g=>?_;cases g;exact zl
