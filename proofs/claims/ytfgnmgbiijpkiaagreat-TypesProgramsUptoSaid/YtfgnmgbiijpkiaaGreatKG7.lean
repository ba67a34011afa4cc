/- Printed by a program: what functions answer, and that they do. -/
import Derived.Test.YtfgnmgbiijpkiaaGreatKG3
set_option linter.all false
set_option maxRecDepth 100000
noncomputable section
namespace Go.Proofs.YtfgnmgbiijpkiaaGreat
open Go Go.Bw Go.Proofs.Tryz
/-(*plexus.types.elaborator).record-/
theorem abd {n} (o:Of n):Q0 (ry (Gf n)):=by
 intro a0 a1 a2 r g;rw[ry]at g;refine yw func201 ntmps201 ?_;obtain⟨m1,em1,g⟩:=fb g;obtain⟨hm1,bm1⟩:=Kq em1;refine yk<|ak.PN m1 (ae.rows (List.replicate m1 ae.z)) rfl hm1 rfl hm1 rfl rfl rfl rfl rfl (by omega) (by simp only[ae.bS,List.map_replicate];exact dm.replicate zi _) rfl (yz ?_)
 obtain⟨m2,em2,g⟩:=fb g;obtain⟨hm2,bm2⟩:=Kq em2;refine yk<|ak.PN m2 (iW (List.replicate m2 false)) rfl hm2 rfl hm2 rfl rfl rfl rfl rfl (by omega) (by simp only[iW,List.map_replicate];exact dm.replicate zi _) rfl (yz ?_)
 refine yk<|yL (S:=(List ae)×(List Bool)×Int) (G:=λm s=>lQ (Gf m) a0 a1 a2 s.1 s.2.1 s.2.2) (s0:=(List.replicate m1 ae.z,List.replicate m2 false,0)) 4 [0,4,5,6,23,24] [7,8,25] (λs=>[(7,.os 2 (ae.rows s.1).length),(8,.os 3 (iW s.2.1).length),(25,.d (.v (.int .i64 s.2.2)))]) (λs=>[(2,.row 52 12 (ae.rows s.1)),(3,.row 4 1 (iW s.2.1))]) g ?_;rintro n ⟨s3,s4,s5⟩ _ g;change mN (Gf n) a0 a1 a2 s3 s4 s5=_ at g;rw[mN]at g;refine yz ?_
 refine ao g ?_ ?_<;>intro _ g;refine yX g ab.aF λx _ _ g=>?_;refine yc g (o.a.Fw _ _) λy g=>?_;refine ao g ?_ ?_<;>intro _ g;exact yP g (o.a.fv _ _);obtain⟨x,w,j,g⟩:=a8 g;refine yv (yr j w) ?_;refine yv (ym y.toNat 0 (CW w)) ?_;refine ao g ?_ ?_<;>intro _ g;exact yP g (o.a.fv _ _);refine yo [] (tk [0,3,6,9,12,15,18,21,24,27,30,33,36,39,42,46,48,52,54,58]) [] ?_;obtain⟨x,w,j,g⟩:=a8 g;refine yu zp (yi j (ab.aF w)) ?_
 iterate 4 (refine yt zp ?_)
 obtain⟨x,w,j,g⟩:=a8 g;refine yu zp (yi j (ah.aF w)) ?_;refine yt zp ?_;obtain⟨v,z,g⟩:=ay g (o.a.iH _);refine yu zp (aQ.call z rfl rfl) ?_;refine yq g (o.a.cN _ _ _) zp λv g=>?_;obtain⟨x,w,j,g⟩:=a8 g;refine yU zp (yr j w) ?_;refine yk<|ak.qg y.toNat 0 (by repeat(first|exact aG.nil|refine aG.cons rfl (bg.du (cl:=false) rfl aW) ?_|refine aG.skip rfl ?_|refine aG.cons rfl (yr j w) ?_|refine aG.cons rfl (dX (cl:=false) rfl aW) ?_)) (by rfl) (by rfl) (by rfl) (by rfl) (by rfl) (by rfl) (by rfl) (by rfl) zg (by rfl) (yg (ae.aF w)) (by rfl) (by rfl) (by rfl) (by rfl) (yz ?_)
 obtain⟨x,q,j1h,g⟩:=a8 g;refine yU zp (yr j1h q) ?_;refine yk<|ak.qg y.toNat 0 (by repeat(first|exact aG.nil|refine aG.cons rfl (bg.du (cl:=false) rfl aW) ?_|refine aG.skip rfl ?_|refine aG.cons rfl (yr j w) ?_|refine aG.cons rfl (yr j1h q) ?_|refine aG.cons rfl (dX (cl:=false) rfl aW) ?_)) (by rfl) (by rfl) (by rfl) (by rfl) (by rfl) (by rfl) (by rfl) (by rfl) zg (by rfl) (yg (CW q)) (by rfl) (by rfl) (by rfl) (by rfl) (yz ?_)
 exact yk (yN (_,_,_) n ⟨by omega,g⟩);refine yk<|yL (S:=(List ae)×Int) (G:=λm s=>jz (Gf m) a1 a2 s4 s.1 s.2) (s0:=(s3,0)) 4 [0,4,5,6,8,23,24,25,65,66] [7,67] (λs=>[(7,.os 2 (ae.rows s.1).length),(67,.d (.v (.int .i64 s.2)))]) (λs=>[(2,.row 52 12 (ae.rows s.1))]) g ?_;rintro n ⟨s26,s27⟩ _ g;change mM (Gf n) a1 a2 s4 s26 s27=_ at g;rw[mM]at g;refine yz ?_
 refine br g λ_ g=>?_;refine yX g ah.aF λx _ _ g=>?_;obtain⟨x,w,j,g⟩:=a8 g;refine yv (yr j w) ?_;refine yv (ym s27.toNat 0 (CW w)) ?_;refine ao g ?_ ?_<;>intro _ g;refine yo [0,1,2,3,4,5,6,7,8] [(9,.one)] [] ?_;obtain⟨y,z,g⟩:=ay g (o.a.H6 _);refine yl (yC z) ?_;obtain⟨y,z,g⟩:=ay g (o.a.iH _);refine yl (yC z) ?_;obtain⟨x,w,j,g⟩:=a8 g;refine yl (yr j w) ?_;refine yk<|ak.Vc 84 (.agg (ae.cs ({Op:=6,ai:=y,N:=0,Text:=[],At:=a1.At,Kids:=[]:ae}))) s27.toNat 0 aG.nil (by rfl) (by rfl) (by rfl) (by rfl) (by rfl) (by rfl) zi (by rfl) (by rfl) (by rfl) zg (by rfl) (yg (ae.aF w)) (by rfl) (by rfl) (by rfl) (by rfl) (yz ?_)
 iterate 2 (exact yk (yN (_,_) n ⟨by omega,g⟩))
/-(*plexus.types.elaborator).observer-/
theorem abe {n} (o:Of n):Q1 (jc (Gf n)):=by
 intro a0 a1 r g;rw[jc]at g;refine yw func202 ntmps202 ?_;refine yX g ab.aF λx _ _ g=>?_
 iterate 3 (refine yc g (o.a.fe _) λy g=>?_)
 refine ao g ?_ ?_<;>intro _ g;refine yp g (o.a.cN _ _ _) λy g=>?_;refine br g λ_ g=>?_;refine ao g ?_ ?_<;>intro _ g;exact yP g (o.a.fv _ _);refine yc g (o.a.Fz _ _) λy g=>?_;refine br g λ_ g=>?_;exact yP g (o.a.fv _ _);refine ao g ?_ ?_<;>intro _ g;refine yk<|ak.cH (t:=62) rfl rfl (eo rfl aW) (yz ?_)
 refine yk<|ak.cH (t:=60) rfl rfl aW (yz ?_)
 refine yp g (o.a.pS _ _ _ _ _ _) λy g=>?_;refine yX g ae.aF λx _ _ g=>?_;refine yX g ah.aF λx _ _ g=>?_
 iterate 2 (refine br g λ_ g=>?_)
 exact yP g (o.a.fv _ _);refine ao g ?_ ?_<;>intro _ g;refine yk<|ak.cH (t:=88) rfl rfl (eo rfl aW) (yz ?_)
 refine yk<|ak.cH (t:=86) rfl rfl aW (yz ?_)
 refine yp g (o.a.pS _ _ _ _ _ _) λy g=>?_;cases g;exact zl;refine ao g ?_ ?_<;>intro _ g;refine yk<|ak.cH (t:=94) rfl rfl (eo rfl aW) (yz ?_)
 refine yk<|ak.cH (t:=92) rfl rfl aW (yz ?_)
 refine yp g (o.a.pS _ _ _ _ _ _) λy g=>?_;cases g;exact zl;refine ao g ?_ ?_<;>intro _ g;refine yk<|ak.cH (t:=100) rfl rfl (eo rfl aW) (yz ?_)
 refine yk<|ak.cH (t:=98) rfl rfl aW (yz ?_)
 refine yp g (o.a.pS _ _ _ _ _ _) λy g=>?_;cases g;exact zl;refine ao g ?_ ?_<;>intro _ g;refine yk<|ak.cH (t:=106) rfl rfl (eo rfl aW) (yz ?_)
 refine yk<|ak.cH (t:=104) rfl rfl aW (yz ?_)
 refine yp g (o.a.pS _ _ _ _ _ _) λy g=>?_;cases g;exact zl;refine ao g ?_ ?_<;>intro _ g;refine yk<|ak.cH (t:=112) rfl rfl (eo rfl aW) (yz ?_)
 refine yk<|ak.cH (t:=110) rfl rfl aW (yz ?_)
 refine yp g (o.a.pS _ _ _ _ _ _) λy g=>?_;cases g;exact zl;refine ao g ?_ ?_<;>intro _ g
 iterate 2 (refine yk<|ak.cH (t:=120) rfl rfl (eo rfl aW) (yz ?_);refine yk<|ak.cH (t:=117) rfl rfl aW (yz ?_);refine yp g (o.a.pS _ _ _ _ _ _) λy g=>?_;refine yX g ae.aF λx _ _ g=>?_;refine yX g ah.aF λx _ _ g=>?_;refine yc g (o.a.iH _) λy g=>?_;cases g;exact zl)
/-(*plexus.types.elaborator).observer$1-/
theorem abf {n} (o:Of n):Q2 (nr (Gf n)):=by
 intro a0 a1 a2 a3 a4 a5 r g;rw[nr]at g;refine yw func237 ntmps237 ?_;refine yo [] (tk [0,3,6,9,12,15,19,21,24,28]) [] ?_
 iterate 4 (refine yt zp ?_)
 refine yq g (o.a.GA _ _ _ _) zp λy g=>?_
 iterate 3 (refine yt zp ?_)
 cases g;exact yj
/-(*plexus.types.elaborator).operand-/
theorem abg {n} (o:Of n):Q3 (og (Gf n)):=by
 intro a0 a1 a2 a3 r g;rw[og]at g;refine yw func204 ntmps204 ?_;refine yp g (o.a.cN _ _ _) λy g=>?_;refine ao g ?_ ?_<;>intro _ g;exact yP g (o.a.fv _ _);refine yc g (o.a.Fz _ _) λy g=>?_;refine br g λ_ g=>?_;exact yP g (o.a.fv _ _)
/-(*plexus.types.elaborator).operator-/
set_option maxHeartbeats 0 in
theorem abh {n} (o:Of n):Q4 (ie (Gf n)):=by
 intro a0 a1 a2 r g;rw[ie]at g;refine yw func160 ntmps160 ?_;refine yc g (o.a.fe _) λy g=>?_;refine ao g ?_ ?_<;>intro _ g;refine yo [] (tk [0,3,6,9,12,15,19,25]) [7] ?_;obtain⟨x,w,j,g⟩:=a8 g;refine yu zp (yi j (ab.aF w)) ?_
 iterate 2 (refine yt zp ?_)
 refine yq g (o.a.cN _ _ _) zp λy g=>?_;refine yt zp ?_;refine yc g (o.a.Bv _) λy g=>?_;refine ao g ?_ ?_<;>intro _ g;refine yo [0,1,2,3,4,5,6,7,8,9] (tk [31,33,36,39,43,46]) [] ?_
 iterate 2 (refine yY g ab.aF λx _ _ g=>?_)
 refine yq g (o.a.GB _ _ _ _ _) zp λy g=>?_;cases g;exact yj
 iterate 2 (refine yo [0,1,2,3,4,5] (tk [19,22]) [] ?_;refine yY g ab.aF λx _ _ g=>?_;refine yq g (o.a.cN _ _ _) zp λy g=>?_)
 cases g;exact yj;refine ao g ?_ ?_<;>intro _ g;refine yX g ab.aF λx _ _ g=>?_;refine yp g (o.a.cN _ _ _) λy g=>?_;refine ao g ?_ ?_<;>intro _ g;refine yX g ab.aF λx _ _ g=>?_;exact yP g (o.a.fv _ _);refine yo [] (tk [0,3,6,9,12,15,18,22,28]) [8] ?_;obtain⟨x,w,j,g⟩:=a8 g;refine yu zp (yi j (ab.aF w)) ?_
 iterate 3 (refine yt zp ?_)
 refine yq g (o.a.cN _ _ _) zp λy g=>?_;refine yt zp ?_;cases g;exact yj;refine ao g ?_ ?_<;>intro _ g;refine yo [] (tk [0,3,6,9,12,15,18,21,24,27,31,33,36,39,49,52]) [14,15] ?_
 iterate 2 ((iterate 2 (refine yt zp ?_));obtain⟨x,w,j,g⟩:=a8 g;refine yu zp (yi j (ab.aF w)) ?_;refine yt zp ?_)
 refine yq g (o.a.GB _ _ _ _ _) zp λy g=>?_
 iterate 4 (refine yt zp ?_)
 cases g;exact yj;refine ao g ?_ ?_<;>intro _ g;refine yc g (o.a.Bv _) λy g=>?_
 iterate 2 (refine ao g ?_ ?_<;>intro _ g)
 exact yP g (o.a.fv _ _);refine yp g (o.a.pR _ _ _ _ _ _) λy g=>?_;cases g;exact zl;refine yo [] (tk [0,3,6,9,12,15,18,21,24,27,31,33,36,39,49,52]) [14,15] ?_
 iterate 2 ((iterate 2 (refine yt zp ?_));obtain⟨x,w,j,g⟩:=a8 g;refine yu zp (yi j (ab.aF w)) ?_;refine yt zp ?_)
 refine yq g (o.a.GB _ _ _ _ _) zp λy g=>?_
 iterate 4 (refine yt zp ?_)
 cases g;exact yj;refine ao g ?_ ?_<;>intro _ g;refine yo [] (tk [0,3,6,9,12,15,18,22,28]) [8] ?_
 iterate 2 (refine yt zp ?_)
 obtain⟨x,w,j,g⟩:=a8 g;refine yu zp (yi j (ab.aF w)) ?_
 iterate 2 (refine yt zp ?_)
 refine yq g (o.a.GA _ _ _ _) zp λy g=>?_;refine yt zp ?_;refine yc g (o.a.Fw _ _) λy g=>?_;refine ao g ?_ ?_<;>intro _ g;exact yP g (o.a.fv _ _);refine yo [0,1,2,3,4,5,6,7,8,9,10,11] [(12,.one)] [] ?_;refine yY g ah.aF λx _ _ g=>?_;obtain⟨y,z,g⟩:=ay g (o.a.iH _);refine yl (yC z) ?_;cases g;exact yj;refine yo [] (tk [0,3,6,9,12,15,18,22,28]) [8] ?_
 iterate 2 (refine yt zp ?_)
 obtain⟨x,w,j,g⟩:=a8 g;refine yu zp (yi j (ab.aF w)) ?_
 iterate 2 (refine yt zp ?_)
 refine yq g (o.a.GA _ _ _ _) zp λy g=>?_;refine yt zp ?_;refine yo [] (tk [0,3,6,9,12,15,19,25]) [7] ?_;obtain⟨x,w,j,g⟩:=a8 g;refine yu zp (yi j (ab.aF w)) ?_;refine yt zp ?_;obtain⟨y,z,g⟩:=ay g (o.a.fe _);refine yu zp (aQ.call z rfl rfl) ?_;refine yq g (o.a.cN _ _ _) zp λy g=>?_;refine yt zp ?_;refine yo [0,1,2,3,4,5,6,7,8,9,10] [(11,.one)] [] ?_;refine yY g ah.aF λx _ _ g=>?_;obtain⟨y,z,g⟩:=ay g (o.a.iH _);refine yl (yC z) ?_;cases g;exact yj
/-(*plexus.types.elaborator).together-/
theorem abi {n} (o:Of n):Q5 (rz (Gf n)):=by
 intro a0 a1 a2 a3 a4 r g;rw[rz]at g;refine yw func203 ntmps203 ?_;refine yo [] (tk [0,3,13,16,18]) [2,3] ?_
 iterate 3 (refine yt zp ?_)
 iterate 2 (refine yc g (o.a.uA _) λy g=>?_;refine ao g ?_ ?_<;>intro _ g)
 exact yP g (o.a.fv _ _);refine yo [] (tk [0,3,7,10,12]) [] ?_
 iterate 3 (refine yt zp ?_)
 iterate 2 (refine yp g (o.a.cN _ _ _) λy g=>?_;(iterate 2 (refine ao g ?_ ?_<;>intro _ g));exact yP g (o.a.fv _ _);(iterate 2 (refine yp g (o.a.cN _ _ _) λy g=>?_;refine yo [] (tk [0,3,7,10]) [] ?_;(iterate 3 (refine yt zp ?_));cases g;exact zl)))
theorem w18 {n} (o:Of n):S3 (uS (Gf n)):=by
 intro a0 a1 a2 a3 r g;rw[uS]at g;refine yw func18 ntmps18 ?_;refine yk<|ak.ct (rs:=_) KU rfl rfl func47 rfl zk rfl ntmps47 rfl rfl (yz ?_)
 refine yk<|ak.cH (t:=8) rfl rfl aW (yz ?_)
 rcases Xa g with⟨c3,c4,z,g⟩|⟨y,z,g⟩
 replace z:=(o.a.cN _ _ _ _ z);refine yk<|ak.Xb z rfl rfl aW (bZ.refl _) (.inr rfl) rfl (yz ?_)
 refine zs g ?_ ?_<;>(clear g;intro k g);refine yo [] (tk [0,3,7,10]) [] ?_
 iterate 2 (refine yt zp ?_)
 cases g;exact yj;refine yo [] (tk [0,3,7,10]) [] ?_
 iterate 3 (refine yt zp ?_)
 cases g;exact yj;replace z:=(o.a.cN _ _ _ _ z);refine yv (yC z) ?_;refine yo [] (tk [0,3,7,10]) [] ?_
 iterate 3 (refine yt zp ?_)
 cases g;exact zl
theorem w64 {n} (o:Of n):S4 (xj (Gf n)):=by
 intro a0 a1 r g;rw[xj]at g;refine yw func64 ntmps64 ?_
 iterate 4 (refine br g λ_ g=>?_)
 refine yc g (o.a.S0 _ _) λy g=>?_;refine br g λ_ g=>?_;refine yc g (o.a.XV _ _) λy g=>?_;cases g;exact zl
theorem XT {n} (o:Of n):Mk (vD (Gf n)):=by
 intro a0 a1 r g;rw[vD]at g;refine yw func114 ntmps114 ?_;refine aK g λ_ g=>?_;refine yk<|yL (S:=Int) (G:=λm s=>sk (Gf m) a0 a1 s) (s0:=0) 0 [1,2,6,15,16] [17] (λs=>[(17,.d (.v (.int .i64 s)))]) (λs=>[]) g ?_;rintro n s2 _ g;change sm (Gf n) a0 a1 s2=_ at g;rw[sm]at g;refine yz ?_
 refine br g λ_ g=>?_
 iterate 2 (refine yX g ae.aF λx _ _ g=>?_)
 refine yc g (o.a.Tv _ _) λy g=>?_;refine aK g λ_ g=>?_;exact yk (yN _ n ⟨by omega,g⟩)
theorem w25 {n} (o:Of n):S5 (uT (Gf n)):=by
 intro a0 a1 r g;rw[uT]at g;refine yw func25 ntmps25 ?_;refine yc g (o.a.Tu _) λy g=>?_;refine aK g λ_ g=>?_;refine yc g (o.a.c61 _) λy g=>?_;refine aK g λ_ g=>?_;refine yc g (o.a.SQ _ _) λy g=>?_;refine aK g λ_ g=>?_;refine yo [] (tk [0,3,6,9,12,15,18,21,24,27,30,40,43]) [11,12] ?_
 iterate 4 (refine yt zp ?_)
 obtain⟨y,z,g⟩:=ay g (o.a.c63 _ _);refine yu zp (aQ.call z rfl rfl) ?_;refine yt zp ?_;obtain⟨y,z,g⟩:=ay g (o.a.c18 _ _ _ _);refine yu zp (aQ.call z rfl rfl) ?_
 iterate 4 (refine yt zp ?_)
 refine br g λ_ g=>?_;refine yc g (o.a.Tv _ _) λy g=>?_;cases g;exact zl
theorem w22 {n} (o:Of n):S6 (xk (Gf n)):=by
 intro a0 r g;rw[xk]at g;refine yw func22 ntmps22 ?_;refine aK g λ_ g=>?_;refine Ok.stuck aW ?_;refine ak.km 3 9 1 1 rfl rfl ?_;refine yL (S:=Bool×(List (List UInt8))×Int) (G:=λm s=>nR (Gf m) a0 s.1 s.2.1 s.2.2) (s0:=(false,[],0)) 2 [1,25,26] [2,3,27] (λs=>[(2,.d (.v (.bool s.1))),(3,.os 1 (aN s.2.1).length),(27,.d (.v (.int .i64 s.2.2)))]) (λs=>[(1,.row 9 1 (aN s.2.1))]) g ?_;rintro n ⟨s2,s3,s4⟩ _ g;change tp (Gf n) a0 s2 s3 s4=_ at g;rw[tp]at g;refine yz ?_;refine ao g ?_ ?_<;>intro _ g;refine yX g bt.aF λx _ _ g=>?_;refine yo [0,1,2,3,4,5,6,7,8,9,10,11,12,13,14,15,16,17,18,19,20,21,22,23,24,25] [] [] ?_;obtain⟨y,z,g⟩:=ay g (o.a.uK _);refine yl (yC z) ?_;refine aK g λ_ g=>?_;obtain⟨y,z,g⟩:=ay g (o.a.Tu _);refine yl (yC z) ?_;refine aK g λ_ g=>?_;refine ao g ?_ ?_<;>intro _ g;refine yY g bt.aF λx _ _ g=>?_;refine aK g λ_ g=>?_
 iterate 2 (obtain⟨k,g⟩:=bz g;refine yk<|DO.cW rfl rfl zg rfl rfl zg rfl rfl rfl rfl rfl rfl (zo k) (yz ?_);exact yk (yN (_,_,_) n ⟨by omega,g⟩))
 refine yk<|yL (S:=(List (List UInt8))×Bool×Int) (G:=λm s=>vW (Gf m) a0 s2 s3 s4 s.1 s.2.1 s.2.2) (s0:=(s3,true,0)) 3 [1,2,25,26,27,68,69] [3,6,70] (λs=>[(3,.os 1 (aN s.1).length),(6,.d (.v (.bool s.2.1))),(70,.d (.v (.int .i64 s.2.2)))]) (λs=>[(1,.row 9 1 (aN s.1))]) g ?_;rintro n ⟨s18,s19,s20⟩ _ g;change qN (Gf n) a0 s2 s3 s4 s18 s19 s20=_ at g;rw[qN]at g;refine yz ?_
 refine ao g ?_ ?_<;>intro _ g;obtain⟨x,w,j,g⟩:=a8 g;refine yv (yr j w) ?_;refine yv (ym s20.toNat 0 (sA w)) ?_;refine yk<|yL (S:=(List (List UInt8))×Bool×Int) (G:=λm s=>mV (Gf m) a0 s2 s3 s4 s18 s19 s20 x s.1 s.2.1 s.2.2) (s0:=(s18,s19,0)) 3 [1,2,7,8,25,26,27,68,69,70,75,76] [3,6,77] (λs=>[(3,.os 1 (aN s.1).length),(6,.d (.v (.bool s.2.1))),(77,.d (.v (.int .i64 s.2.2)))]) (λs=>[(1,.row 9 1 (aN s.1))]) g ?_;rintro n ⟨s24,s25,s26⟩ _ g;change tn (Gf n) a0 s2 s3 s4 s18 s19 s20 x s24 s25 s26=_ at g;rw[tn]at g;refine yz ?_
 refine ao g ?_ ?_<;>intro _ g;refine yX g bl.aF λx _ _ g=>?_;refine yc g (o.a.XU _ _) λy g=>?_;refine yo [0,1,2,3,4,5,6,7,8,9,10,11,12,13,14,15,16,17,18,19,20,21,22,23,24,25,26,27,28,29,30,31,32,33,34,35] [] [] ?_;refine aK g λ_ g=>?_;refine yl (aQ.toP (aQ.OT rfl zk rfl rfl)) ?_;refine aK g λ_ g=>?_;refine ao g ?_ ?_<;>intro _ g;refine yY g bl.aF λx _ _ g=>?_;refine aK g λ_ g=>?_
 iterate 2 (refine yY g bt.aF λx _ _ g=>?_;obtain⟨y,z,g⟩:=ay g (o.a.Tw _ _);refine yl (yC z) ?_;refine aK g λ_ g=>?_;obtain⟨k,g⟩:=bz g;refine yk<|DO.cW rfl rfl zg rfl rfl zg rfl rfl rfl rfl rfl rfl (zo k) (yz ?_);exact yk (yN (_,_,_) n ⟨by omega,g⟩))
 exact yk (yN (_,_,_) n ⟨by omega,g⟩);refine br g λ_ g=>?_;refine yk<|ak.cH (t:=131) rfl rfl (eo rfl aW) (yz ?_)
 refine yc g (o.a.H4 _) λy g=>?_;cases g;exact zl
theorem abj {n} (o:Of n):Q6 (uD (Gf n)):=by
 intro a0 r g;rw[uD]at g;refine yw func153 ntmps153 ?_;refine ao g (λk g=>?_) λk g=>?_;refine yT k ?_;refine aK g λ_ g=>?_;refine yF k ?_;refine Ok.eH k ?_;conv=>(arg 3;whnf)
 exact dV g;refine ao g (λl g=>?_) λl g=>?_
 iterate 2 (refine aK g λ_ g=>?_)
 refine ao g (λh2 g=>?_) λh2 g=>?_;refine aK g λ_ g=>?_;refine ao g ?_ ?_<;>intro _ g;exact dV g;refine Ok.fm k ?_;conv=>(arg 3;whnf)
 refine Ok.fm (ra l) ?_;conv=>(arg 3;whnf)
 refine ao g ?_ ?_<;>intro _ g;exact dV g
 iterate 3 (refine aK g λ_ g=>?_)
 iterate 2 (refine ao g ?_ ?_<;>intro _ g;exact dV g)
 refine Ok.fm (ra h2) ?_;conv=>(arg 3;whnf)
 cases g;exact zl;refine yF (nc h2) ?_;refine Ok.fm k ?_;conv=>(arg 3;whnf)
 refine Ok.fm (ra l) ?_;conv=>(arg 3;whnf)
 iterate 6 (refine yF (nc h2) ?_)
 refine Ok.eH (nc h2) ?_;conv=>(arg 3;whnf)
 exact dV g;refine yT (nc l) ?_;refine aK g λ_ g=>?_;refine yF (nc l) ?_;refine Ok.fm k ?_;conv=>(arg 3;whnf)
 refine Ok.eH (nc l) ?_;conv=>(arg 3;whnf)
 exact dV g
theorem abk {n} (o:Of n):Q7 (wU (Gf n)):=by
 intro a0 r g;rw[wU]at g;refine yw func194 ntmps194 ?_
 iterate 2 (refine aK g λ_ g=>?_)
 iterate 2 (obtain⟨x,w,j,g⟩:=a8 g;refine yv (aQ.toP (aQ.dI ((0:Int).toNat) rfl rfl rfl rfl j w)) ?_;refine aK g λ_ g=>?_)
 refine yk<|yL (S:=Int) (G:=λm s=>lR (Gf m) a0 s) (s0:=0) 0 [0,2] [3] (λs=>[(3,.d (.v (.int .i64 s)))]) (λs=>[]) g ?_;rintro n s9 _ g;change sS (Gf n) a0 s9=_ at g;rw[sS]at g;refine yz ?_
 refine br g λ_ g=>?_
 iterate 2 ((iterate 2 (obtain⟨x,w,j,g⟩:=a8 g;refine yv (aQ.toP (aQ.dI ((s9:Int).toNat) rfl rfl rfl rfl j w)) ?_;refine ao g ?_ ?_<;>intro _ g));obtain⟨x,w,j,g⟩:=a8 g;refine yv (aQ.toP (aQ.dI ((s9:Int).toNat) rfl rfl rfl rfl j w)) ?_;refine aK g λ_ g=>?_;exact yk (yN _ n ⟨by omega,g⟩);obtain⟨x,w,j,g⟩:=a8 g;refine yv (aQ.toP (aQ.dI ((s9:Int).toNat) rfl rfl rfl rfl j w)) ?_;refine ao g ?_ ?_<;>intro _ g;obtain⟨x,w,j,g⟩:=a8 g;refine yv (aQ.toP (aQ.dI ((s9:Int).toNat) rfl rfl rfl rfl j w)) ?_;refine aK g λ_ g=>?_;(iterate 2 (exact yk (yN _ n ⟨by omega,g⟩))))
 exact yk (yN _ n ⟨by omega,g⟩)
theorem abl {n} (o:Of n):Q8 (uB (Gf n)):=by
 intro a0 a1 r g;rw[uB]at g;refine yw func195 ntmps195 ?_;refine yk<|yL (S:=Int) (G:=λm s=>qA (Gf m) a0 a1 s) (s0:=0) 0 [0,1,4] [5] (λs=>[(5,.d (.v (.int .i64 s)))]) (λs=>[]) g ?_;rintro n s1 _ g;change sT (Gf n) a0 a1 s1=_ at g;rw[sT]at g;refine yz ?_
 refine br g λ_ g=>?_;refine yX g dQ λx _ _ g=>?_;refine aK g λ_ g=>?_;exact yk (yN _ n ⟨by omega,g⟩)
theorem abm {n} (o:Of n):Q9 (ru (Gf n)):=by
 intro a0 r g;rw[ru]at g;refine yw func196 ntmps196 ?_;refine yk<|yL (S:=Int) (G:=λm s=>lS (Gf m) a0 s) (s0:=0) 0 [0,2] [3] (λs=>[(3,.d (.v (.int .i64 s)))]) (λs=>[]) g ?_;rintro n s1 _ g;change pf (Gf n) a0 s1=_ at g;rw[pf]at g;refine yz ?_
 refine br g λ_ g=>?_;refine yo [0,1,2,3,4,5,6,7,8,9,10,11,12,13,14,15,16,17,18,19,20,21] [] [] ?_;refine yY g dQ λx _ _ g=>?_;obtain⟨y,z,g⟩:=ay g (o.a.Ro _);refine yl (yC z) ?_;refine aK g λ_ g=>?_;refine ao g ?_ ?_<;>intro _ g
 iterate 2 (refine yY g dQ λx _ _ g=>?_)
 refine aK g λ_ g=>?_
 iterate 2 (exact yk (yN _ n ⟨by omega,g⟩))
theorem abn {n} (o:Of n):Ra (uE (Gf n)):=by
 intro a0 r g;rw[uE]at g;refine yw func154 ntmps154 ?_;refine ao g ?_ ?_<;>intro _ g;refine yk<|yL (S:=Int) (G:=λm s=>mO (Gf m) a0 s) (s0:=0) 1 [1,2] [3] (λs=>[(3,.d (.v (.int .i64 s)))]) (λs=>[]) g ?_;rintro n s2 _ g;change pg (Gf n) a0 s2=_ at g;rw[pg]at g;refine yz ?_
 refine br g λ_ g=>?_;refine yo [0,1,2,3,4,5,6,7,8,9,10,11,12,13,14,15,16,17,18] [] [] ?_;refine yY g dQ λx _ _ g=>?_;obtain⟨y,z,g⟩:=ay g (o.a.Ro _);refine yl (yC z) ?_;refine aK g λ_ g=>?_;obtain⟨x,w,g⟩:=fb g;refine yl (yQ KP w) ?_;refine yY g dQ λx _ _ g=>?_;obtain⟨y,z,g⟩:=ay g (o.a.GD _ _);refine yl (yC z) ?_;refine aK g λ_ g=>?_;exact yk (yN _ n ⟨by omega,g⟩);refine yc g (o.a.Rp _) λy g=>?_;refine aK g λ_ g=>?_;refine yk<|yL (S:=Bool×Int) (G:=λm s=>mQ (Gf m) a0 y s.1 s.2) (s0:=(false,0)) 1 [1] [2,4] (λs=>[(2,.d (.v (.bool s.1))),(4,.d (.v (.int .i64 s.2)))]) (λs=>[]) g ?_;rintro n ⟨s16,s17⟩ _ g;change pj (Gf n) a0 y s16 s17=_ at g;rw[pj]at g;refine yz ?_
 refine br g λ_ g=>?_;refine yX g aU.aF λx _ _ g=>?_;refine aK g λ_ g=>?_;refine yc g (o.a.Rp _) λv g=>?_;refine aK g λ_ g=>?_;refine yc g (o.a.GD _ _) λy2 g=>?_;refine aK g λ_ g=>?_;refine yk<|yL (S:=Bool×Int) (G:=λm s=>mP (Gf m) a0 y s16 s17 x v y2 s.1 s.2) (s0:=(s16,0)) 2 [1,4,5] [2,6] (λs=>[(2,.d (.v (.bool s.1))),(6,.d (.v (.int .i64 s.2)))]) (λs=>[]) g ?_;rintro n ⟨s26,s27⟩ _ g;change ph (Gf n) a0 y s16 s17 x v y2 s26 s27=_ at g;rw[ph]at g;refine yz ?_
 refine ao g ?_ ?_<;>intro _ g;refine yo [0,1,2,3,4,5,6,7,8] [] [] ?_;refine yY g dQ λx _ _ g=>?_;obtain⟨y,z,g⟩:=ay g (o.a.GD _ _);refine yl (yC z) ?_;refine aK g λ_ g=>?_
 iterate 2 (exact yk (yN (_,_) n ⟨by omega,g⟩))
theorem abo {n} (o:Of n):Rb (rA (Gf n)):=by
 intro a0 r g;rw[rA]at g;refine yw func155 ntmps155 ?_
 iterate 3 (refine aK g λ_ g=>?_)
 iterate 2 (refine br g λ_ g=>?_)
 refine yX g ah.aF λx _ _ g=>?_;refine yc g (o.a.GG _) λy g=>?_;refine br g λ_ g=>?_;refine yX g ah.aF λx _ _ g=>?_;refine yc g (o.a.GG _) λy g=>?_;cases g;exact zl
theorem w90 {n} (o:Of n):S7 (uU (Gf n)):=by
 intro a0 a1 a2 r g;rw[uU]at g;refine yw func90 ntmps90 ?_;refine ao g (λk g=>?_) λ_ g=>?_;refine yF k ?_
 iterate 2 (refine aK g λ_ g=>?_)
 refine yc g (o.a.GC _) λy g=>?_
 iterate 3 (refine aK g λ_ g=>?_)
 refine yc g (o.a.GF _) λy g=>?_
 iterate 4 (refine aK g λ_ g=>?_)
 refine yF k ?_;cases g;exact zl;refine ao g (λk g=>?_) λ_ g=>?_
 iterate 2 (refine aK g λ_ g=>?_)
 refine yc g (o.a.GC _) λy g=>?_
 iterate 3 (refine aK g λ_ g=>?_)
 refine yc g (o.a.GF _) λy g=>?_
 iterate 4 (refine aK g λ_ g=>?_)
 refine yF k ?_;cases g;exact zl
 iterate 2 (refine aK g λ_ g=>?_)
 refine yc g (o.a.GC _) λy g=>?_
 iterate 3 (refine aK g λ_ g=>?_)
 refine yc g (o.a.GF _) λy g=>?_
 iterate 4 (refine aK g λ_ g=>?_)
 refine br g λ_ g=>?_;refine yX g ah.aF λx _ _ g=>?_;refine yc g (o.a.GG _) λy g=>?_;exact dV g
theorem w46 {n} (o:Of n):S8 (uV (Gf n)):=by
 intro a0 a1 a2 r g;rw[uV]at g;refine yw func46 ntmps46 ?_;refine yc g (o.a.c90 _ _ _) λy g=>?_;refine aK g λ_ g=>?_;refine yk<|yL (S:=Int×Int) (G:=λm s=>mW (Gf m) a0 a1 s.1 s.2) (s0:=(IntKind.i64.wrap (a2+1),0)) 1 [1,3,6,7] [9,10] (λs=>[(9,.d (.v (.int .i64 s.1))),(10,.d (.v (.int .i64 s.2)))]) (λs=>[]) g ?_;rintro n ⟨s3,s4⟩ _ g;change pD (Gf n) a0 a1 s3 s4=_ at g;rw[pD]at g;refine yz ?_
 refine br g λ_ g=>?_;refine yX g ah.aF λx _ _ g=>?_;refine yc g (o.a.Tx _ _ _) λy g=>?_;refine aK g λ_ g=>?_;exact yk (yN (_,_) n ⟨by omega,g⟩)
theorem w15 {n} (o:Of n):S9 (uW (Gf n)):=by
 intro a0 r g;rw[uW]at g;refine yw func15 ntmps15 ?_;refine yc g (o.a.Tx _ _ _) λy g=>?_;cases g;exact zl
theorem w59 {n} (o:Of n):S' (uP (Gf n)):=by
 intro a0 a1 r g;rw[uP]at g;refine yw func59 ntmps59 ?_;refine yk<|yL (S:=Int) (G:=λm s=>vX (Gf m) a0 a1 s) (s0:=0) 1 [0,1,4,5] [6] (λs=>[(6,.d (.v (.int .i64 s)))]) (λs=>[]) g ?_;rintro n s1 _ g;change tq (Gf n) a0 a1 s1=_ at g;rw[tq]at g;refine yz ?_
 refine br g λ_ g=>?_;refine yX g bt.aF λx _ _ g=>?_;refine ao g ?_ ?_<;>intro _ g;refine yX g bt.aF λx _ _ g=>?_;cases g;exact zl;exact yk (yN _ n ⟨by omega,g⟩)
theorem w42 {n} (o:Of n):Ta (uQ (Gf n)):=by
 intro a0 a1 r g;rw[uQ]at g;refine yw func42 ntmps42 ?_;refine yk<|yL (S:=Int) (G:=λm s=>vY (Gf m) a0 a1 s) (s0:=0) 0 [0,1,4] [5] (λs=>[(5,.d (.v (.int .i64 s)))]) (λs=>[]) g ?_;rintro n s1 _ g;change tz (Gf n) a0 a1 s1=_ at g;rw[tz]at g;refine yz ?_
 refine br g λ_ g=>?_;refine yX g dQ λx _ _ g=>?_;refine aK g λ_ g=>?_;exact yk (yN _ n ⟨by omega,g⟩)
theorem w88 {n} (o:Of n):Tb (BE (Gf n)):=by
 intro a0 r g;rw[BE]at g;refine yw func88 ntmps88 ?_;cases g;exact yj
theorem w87 {n} (o:Of n):Tc (BF (Gf n)):=by
 intro a0 r g;rw[BF]at g;refine yw func87 ntmps87 ?_;cases g;exact zl
theorem abp {n} (o:Of n):Rc (oh (Gf n)):=by
 intro a0 r g;rw[oh]at g;refine yw func173 ntmps173 ?_
 iterate 10 (refine aK g λ_ g=>?_)
 exact dV g
theorem abq {n} (o:Of n):Re (pV (Gf n)):=by
 intro a0 r g;rw[pV]at g;refine yw func174 ntmps174 ?_
 iterate 16 (refine aK g λ_ g=>?_)
 exact dV g
theorem abr {n} (o:Of n):Rf (pT (Gf n)):=by
 intro a0 a1 r g;rw[pT]at g;refine yw func104 ntmps104 ?_;refine Ok.stuck aW ?_;refine ak.fP 2 4 25 5 3 rfl rfl rfl ?_;refine yL (S:=Bool×Int×(List ab)) (G:=λm s=>iC (Gf m) a0 a1 s.1 s.2.1 s.2.2) (s0:=(false,0,[])) 4 [0,3,4,6] [5,7] (λs=>[(5,.d (.v (.bool s.1))),(7,.d (.v (.int .i64 s.2.1)))]) (λs=>[(3,.row 25 5 (ab.rows s.2.2)),(2,.box [.d (.v (.int .i64 0)),.d (.v (.string ⟨⟨([])⟩⟩)),.d (.v (.int .i64 0)),.d (.v (.int .i64 a1.At)),.os 3 (ab.rows s.2.2).length])]) g ?_;rintro n ⟨s1,s2,s7⟩ _ g;change qB (Gf n) a0 a1 s1 s2 s7=_ at g;rw[qB]at g;refine yz ?_;refine ao g ?_ ?_<;>intro _ g;refine yX g ae.aF λx _ _ g=>?_;refine yc g (o.a.GH _ _) λy g=>?_;refine aK g λ_ g=>?_;refine yk<|ak.dY 5 (rows':=ab.rows ([y.fst])) rfl zi (yz ?_)
 obtain⟨k,g⟩:=bz g;refine yk<|DO.cW rfl rfl zg rfl rfl zg rfl rfl (ab.bU _) rfl rfl rfl (zo k) (yz ?_)
 exact yk (yN (_,_,_) n ⟨by omega,g⟩);refine yc g (o.a.abR _) λy g=>?_;refine aK g λ_ g=>?_;refine yc g (o.a.abS _) λy g=>?_
 iterate 2 (refine ao g ?_ ?_<;>intro _ g)
 refine Ok.stuck aW ?_;refine ak.fP 2 4 25 5 4 rfl rfl rfl ?_;refine yL (S:=Int×(List ab)) (G:=λm s=>lT (Gf m) a1 s7 y s.1 s.2) (s0:=(0,[])) 5 [0,3,4,5,6,7,10,13] [14] (λs=>[(14,.d (.v (.int .i64 s.1)))]) (λs=>[(4,.row 25 5 (ab.rows s.2)),(2,.box [.d (.v (.int .i64 51)),.d (.v (.string ⟨⟨(y)⟩⟩)),.d (.v (.int .i64 0)),.d (.v (.int .i64 a1.At)),.os 4 (ab.rows s.2).length])]) g ?_;rintro n ⟨s19,s24⟩ _ g;change pk (Gf n) a1 s7 y s19 s24=_ at g;rw[pk]at g;refine yz ?_;refine br g λ_ g=>?_;refine yo [0,1,2,3,4,5,6,7,8,9,10,11,12,13,14,15,16,17,18] (tk [58,60,64]) [] ?_;obtain⟨x,w,j,g⟩:=a8 g;refine yl (yr j w) ?_;refine yl (ym s19.toNat 3 (ab.aF w)) ?_;obtain⟨t,w,j,g⟩:=a8 g;refine yl (yr j w) ?_;refine yl (ym s19.toNat 0 (ab.aF w)) ?_;obtain⟨x2,w,j,g⟩:=a8 g;refine yl (yr j w) ?_;refine yl (ym ((IntKind.i64.wrap (s19+1)).toNat) 0 (ab.aF w)) ?_;obtain⟨k,g⟩:=bz g;refine yk<|ak.cR (rows2:=(ab.rows ([{Kind:=52,Text:=[],N:=0,At:=x.At,Kids:=[t,x2]:ab}]))) aG.nil rfl rfl rfl rfl rfl zg rfl zi rfl rfl (ab.bU _) rfl rfl (zo k) (yz ?_)
 exact yk (yN (_,_) n ⟨by omega,g⟩);refine br g λ_ g=>?_;refine aK g λ_ g=>?_;refine yk<|yL (S:=(List ab)×Int) (G:=λm s=>jA (Gf m) a1 s7 y s.1 s.2) (s0:=(s7,0)) 4 [0,3,4,5,6,7,10,15] [13,16] (λs=>[(13,.os 3 (ab.rows s.1).length),(16,.d (.v (.int .i64 s.2)))]) (λs=>[(3,.row 25 5 (ab.rows s.1)),(2,.box [.d (.v (.int .i64 51)),.d (.v (.string ⟨⟨(y)⟩⟩)),.d (.v (.int .i64 0)),.d (.v (.int .i64 a1.At)),.os 3 (ab.rows s.1).length])]) g ?_;rintro n ⟨s35,s36⟩ _ g;change pn (Gf n) a1 s7 y s35 s36=_ at g;rw[pn]at g;refine yz ?_
 refine br g λ_ g=>?_;refine yo [0,1,2,3,4,5,6,7,8,9,10,11,12,13,14,15] [(16,.one)] [] ?_;refine yY g dQ λx _ _ g=>?_;obtain⟨x,w,j,g⟩:=a8 g;refine yl (yr j w) ?_;refine yl (ym s36.toNat 0 (ab.aF w)) ?_;obtain⟨x,w,j,g⟩:=a8 g;refine yl (yr j w) ?_;refine yk<|ak.qg s36.toNat 0 aG.nil (by rfl) (by rfl) (by rfl) (by rfl) (by rfl) (by rfl) (by rfl) (by rfl) zg (by rfl) (yg (ab.aF w)) (by rfl) (by rfl) (by rfl) (by rfl) (yz ?_)
 exact yk (yN (_,_) n ⟨by omega,g⟩);refine ao g ?_ ?_<;>intro _ g;refine yo [] (tk [0,3,6,10,12,16]) [] ?_
 iterate 4 (refine yt zp ?_)
 refine yo [] (tk [0,3,6,9,12,15,18,21,24,27,30,33,36,40,42]) [] ?_
 iterate 2 ((iterate 3 (refine yt zp ?_));refine ao g ?_ ?_<;>intro _ g;(iterate 2 (refine yt zp ?_)))
 iterate 2 ((iterate 5 (refine yt zp ?_));cases g;exact zl;(iterate 2 (refine yt zp ?_)))
 iterate 8 (refine yt zp ?_)
 cases g;exact zl;refine ao g ?_ ?_<;>intro _ g;exact dV g;refine ao g ?_ ?_<;>intro _ g;refine yo [] (tk [0,3,6,10,12,16]) [] ?_
 iterate 4 (refine yt zp ?_)
 refine yo [] (tk [0,3,6,9,12,15,18,21,25,27]) [] ?_
 iterate 3 (refine yt zp ?_)
 refine ao g ?_ ?_<;>intro _ g
 iterate 2 (refine yt zp ?_)
 obtain⟨y,z,g⟩:=ay g (o.a.p3 _);refine yu zp (aQ.call z rfl rfl) ?_
 iterate 4 (refine yt zp ?_)
 cases g;exact zl
 iterate 5 (refine yt zp ?_)
 cases g;exact zl;refine ao g ?_ ?_<;>intro _ g
 iterate 2 (refine aK g λ_ g=>?_)
 refine yo [] (tk [0,3,6,9,12,15,18,22,24,28]) [] ?_;obtain⟨x,w,j,g⟩:=a8 g;refine yu zp (yi j (TParam.aF w)) ?_
 iterate 6 (refine yt zp ?_)
 cases g;exact zl
 iterate 4 (refine aK g λ_ g=>?_)
 refine br g λ_ g=>?_;refine yo [0,1,2,3,4,5,6,7,8,9,10,11,12,13,14,15,16,17,18,19] [] [] ?_
 iterate 2 (refine aK g λ_ g=>?_)
 refine yY g ae.aF λx _ _ g=>?_;refine aK g λ_ g=>?_;refine yo [] (tk [0,3,6,9,12,15,18,21,24,27,30,33,37,39,43]) [] ?_;obtain⟨x,w,j,g⟩:=a8 g;refine yu zp (yi j (ae.aF w)) ?_
 iterate 6 (refine yt zp ?_)
 obtain⟨x,w,j,g⟩:=a8 g;refine yu zp (yi j (dQ w)) ?_
 iterate 5 (refine yt zp ?_)
 cases g;exact zl
theorem w41 {n} (o:Of n):Td (BG (Gf n)):=by
 intro a0 a1 r g;rw[BG]at g;refine yw func41 ntmps41 ?_;cases g;exact zl
theorem w95 {n} (o:Of n):Te (xl (Gf n)):=by
 intro a0 r g;rw[xl]at g;refine yw func95 ntmps95 ?_;exact dV g
theorem abt {n} (o:Of n):Rg (jJ (Gf n)):=by
 intro a0 r g;rw[jJ]at g;refine yw func209 ntmps209 ?_;refine aK g λ_ g=>?_;refine ao g ?_ ?_<;>intro _ g
 iterate 6 (refine aK g λ_ g=>?_)
 exact dV g;refine ao g ?_ ?_<;>intro _ g;refine yX g ab.aF λx _ _ g=>?_;refine yc g (o.a.lg _) λy g=>?_;refine br g λ_ g=>?_;refine yX g ab.aF λx _ _ g=>?_;refine yc g (o.a.lg _) λy g=>?_;cases g;exact zl
 iterate 2 (refine br g λ_ g=>?_;refine yX g ab.aF λx _ _ g=>?_;refine yc g (o.a.lg _) λy g=>?_)
 cases g;exact zl
theorem abu {n} (o:Of n):Rh (kB (Gf n)):=by
 intro a0 a1 r g;rw[kB]at g;refine yw func210 ntmps210 ?_
 iterate 4 (refine aK g λ_ g=>?_)
 exact dV g
theorem w69 {n} (o:Of n):Tf (BH (Gf n)):=by
 intro a0 a1 r g;rw[BH]at g;refine yw func69 ntmps69 ?_;refine aK g λ_ g=>?_;refine yk<|yL (S:=Int) (G:=λm s=>AD (Gf m) a0 a1 s) (s0:=0) 0 [0,1,4] [5] (λs=>[(5,.d (.v (.int .i64 s)))]) (λs=>[]) g ?_;rintro n s2 _ g;change AF (Gf n) a0 a1 s2=_ at g;rw[AF]at g;refine yz ?_
 refine br g λ_ g=>?_;refine yo [0,1,2,3,4,5,6,7,8] [] [] ?_
 iterate 2 (refine yY g dQ λx _ _ g=>?_)
 refine aK g λ_ g=>?_;exact yk (yN _ n ⟨by omega,g⟩)
theorem w29 {n} (o:Of n):Tg (xm (Gf n)):=by
 intro a0 a1 r g;rw[xm]at g;refine yw func29 ntmps29 ?_
 iterate 3 (refine aK g λ_ g=>?_)
 refine yc g (o.a.Ty _ _) λy g=>?_
 iterate 3 (refine aK g λ_ g=>?_)
 refine yk<|yL (S:=Bool×Int) (G:=λm s=>tB (Gf m) a0 a1 s.1 s.2) (s0:=(false,0)) 2 [2,3] [4,5] (λs=>[(4,.d (.v (.bool s.1))),(5,.d (.v (.int .i64 s.2)))]) (λs=>[]) g ?_;rintro n ⟨s8,s9⟩ _ g;change tC (Gf n) a0 a1 s8 s9=_ at g;rw[tC]at g;refine yz ?_
 refine ao g ?_ ?_<;>intro _ g;refine yo [0,1,2,3,4,5,6,7,8,9,10,11,12,13,14,15,16,17,18,19,20,21,22,23,24,25,26,27,28] [] [] ?_
 iterate 2 (refine yY g aU.aF λx _ _ g=>?_)
 refine aK g λ_ g=>?_
 iterate 2 (refine yY g aU.aF λx _ _ g=>?_)
 obtain⟨y,z,g⟩:=ay g (o.a.Ty _ _);refine yl (yC z) ?_;refine aK g λ_ g=>?_;exact yk (yN (_,_) n ⟨by omega,g⟩);refine yk<|yL (S:=Int) (G:=λm s=>qO (Gf m) a0 a1 s) (s0:=0) 2 [2,3,4,5] [6] (λs=>[(6,.d (.v (.int .i64 s)))]) (λs=>[]) g ?_;rintro n s22 _ g;change tA (Gf n) a0 a1 s22=_ at g;rw[tA]at g;refine yz ?_
 refine br g λ_ g=>?_;refine yo [0,1,2,3,4,5,6,7,8,9,10,11] [] [] ?_
 iterate 2 (refine yY g ah.aF λx _ _ g=>?_)
 obtain⟨y,z,g⟩:=ay g (o.a.Tz _ _);refine yl (yC z) ?_;refine aK g λ_ g=>?_;exact yk (yN _ n ⟨by omega,g⟩)
theorem w50 {n} (o:Of n):Th (xn (Gf n)):=by
 intro a0 a1 r g;rw[xn]at g;refine yw func50 ntmps50 ?_;refine br g λ_ g=>?_;refine yc g (o.a.Tz _ _) λy g=>?_;cases g;exact zl
/-(plexus.plexusref18.Scope).Make-/
theorem w49 {n} (o:Of n):Ti (xo (Gf n)):=by
 intro a0 a1 a2 r g;rw[xo]at g;refine yw func49 ntmps49 ?_;refine yc g (o.a.c94 _ _ _) λy g=>?_;refine ao g (λk g=>?_) λk g=>?_;refine yc g (o.a.IU _) λy g=>?_;refine ao g ?_ ?_<;>intro _ g;refine yc g (o.a.TA _ _) λy g=>?_;refine ao g ?_ ?_<;>intro _ g;refine yc g (o.a.dv _ _) λy g=>?_;refine ao g ?_ ?_<;>intro _ g;refine yo [] (tk [0,3,7,10]) [] ?_
 iterate 2 (refine yt zp ?_)
 cases g;exact yj
 iterate 2 (refine yo [] (tk [0,3,7,10]) [] ?_;(iterate 3 (refine yt zp ?_));cases g;exact zl;(refine Ok.fm (w4 k) ?_;conv=>(arg 3;whnf)))
 refine yo [] (tk [0,3,7,10]) [] ?_
 iterate 3 (refine yt zp ?_)
 cases g;exact zl;refine Ok.eH (Be k) ?_;conv=>(arg 3;whnf)
 refine yo [] (tk [0,3,7,10]) [] ?_
 iterate 2 (refine yt zp ?_)
 cases g;exact yj
/-(plexus.plexusref18.Scope).make-/
set_option maxHeartbeats 0 in
theorem w94 {n} (o:Of n):Tj (uX (Gf n)):=by
 intro a0 a1 a2 r g;rw[uX]at g;refine yw func94 ntmps94 ?_
 iterate 2 (refine yc g (o.a.fw _) λy g=>?_)
 refine yc g (o.a.dv _ _) λy g=>?_;refine ao g ?_ ?_<;>intro _ g;refine yo [] (tk [0,3,6,9,12,16,19]) [] ?_
 iterate 6 (refine yt zp ?_)
 iterate 2 (cases g;exact yj;refine ao g ?_ ?_<;>intro _ g;refine yo [] (tk [0,3,6,10,13]) [] ?_;(iterate 4 (refine yt zp ?_)))
 cases g;exact yj;refine ao g ?_ ?_<;>intro _ g;refine yo [] (tk [0,3,6,9,12,16,19]) [] ?_;obtain⟨y,z,g⟩:=ay g (o.a.fw _);refine yu zp (aQ.call z rfl rfl) ?_
 iterate 4 (refine yt zp ?_)
 cases g;exact yj;refine ao g ?_ ?_<;>intro _ g;refine yk<|yL (S:=Int) (G:=λm s=>qP (Gf m) a0 a1 s) (s0:=0) 10 [3,4,6,7,10,11] [13] (λs=>[(13,.d (.v (.int .i64 s)))]) (λs=>[]) g ?_;rintro n s10 _ g;change qQ (Gf n) a0 a1 s10=_ at g;rw[qQ]at g;refine yz ?_
 refine ao g ?_ ?_<;>intro _ g;refine yo [0,1,2,3,4,5,6,7,8] [] [] ?_;refine yY g TParam.aF λx _ _ g=>?_;refine ao g ?_ ?_<;>intro _ g;refine yo [] (tk [0,3,6,9,12,15,18,21,24,27,31,34]) [] ?_;refine yt zp ?_;obtain⟨x,w,j,g⟩:=a8 g;refine yu zp (yi j (TParam.aF w)) ?_
 iterate 2 (refine yt zp ?_)
 obtain⟨y,z,g⟩:=ay g (o.a.fw _);refine yu zp (aQ.call z rfl rfl) ?_
 iterate 5 (refine yt zp ?_)
 cases g;exact yj;exact yk (yN _ n ⟨by omega,g⟩);refine yo [0,1,2,3] (tk [13,16]) [] ?_;obtain⟨y,z,g⟩:=ay g (o.a.dv _ _);refine yl (yC z) ?_;cases g;exact yj;refine ao g ?_ ?_<;>intro _ g;refine yo [] (tk [0,3,6,9,12,16,19]) [] ?_;obtain⟨y,z,g⟩:=ay g (o.a.kL _);refine yu zp (aQ.call z rfl rfl) ?_
 iterate 4 (refine yt zp ?_)
 cases g;exact yj
 iterate 2 (refine ao g ?_ ?_<;>intro _ g)
 refine yo [] (tk [0,3,7,10]) [] ?_
 iterate 3 (refine yt zp ?_)
 cases g;exact yj;refine yo [] (tk [0,3,6,10,13]) [] ?_
 iterate 4 (refine yt zp ?_)
 cases g;exact yj;refine ao g ?_ ?_<;>intro _ g;refine yo [] (tk [0,3,6,9,12,15,18,21,24,27,37,40]) [10,11] ?_
 iterate 2 (refine yt zp ?_)
 obtain⟨x,w,j,g⟩:=a8 g;refine yu zp (yi j (ab.aF w)) ?_
 iterate 2 (refine yt zp ?_)
 obtain⟨y,z,g⟩:=ay g (o.a.gM _ _ _);refine yu zp (aQ.call z rfl rfl) ?_
 iterate 4 (refine yt zp ?_)
 refine ao g ?_ ?_<;>intro _ g;refine yo [] (tk [0,3,7,10]) [] ?_
 iterate 3 (refine yt zp ?_)
 cases g;exact yj;refine yc g (o.a.IU _) λy g=>?_;refine ao g ?_ ?_<;>intro _ g;refine yo [0,1,2,3,4,5,6,7,8,9,10,11,12,13,14,15] [(16,.one)] [] ?_
 iterate 2 (refine yY g ab.aF λx _ _ g=>?_)
 obtain⟨y,z,g⟩:=ay g (o.a.GI _ _ _ _ _);refine yl (yC z) ?_;refine ao g ?_ ?_<;>intro _ g;refine yo [] (tk [0,3,7,10]) [] ?_
 iterate 3 (refine yt zp ?_)
 cases g;exact yj;refine yo [] (tk [0,3,6,9,12,18,27,16,22,24,31,34]) [] ?_;obtain⟨x,w,j,g⟩:=a8 g;refine yu zp (yi j (ae.aF w)) ?_
 iterate 3 (refine yt zp ?_)
 obtain⟨k,g⟩:=bz g;refine yk<|ak.cR (rows2:=(ae.rows y.fst)) zp rfl rfl rfl rfl rfl zg rfl (b4.refl _) rfl rfl (ae.bU _) rfl rfl (zo k) (yz ?_)
 iterate 3 (refine yt zp ?_)
 cases g;exact yj;refine yo [0,1,2,3,4,5,6,7,8,9,10,11] [(12,.one)] [] ?_;obtain⟨x,w,g⟩:=fb g;refine yl (yQ ab.bS w) ?_;obtain⟨y,z,g⟩:=ay g (o.a.gJ _ _ _);refine yl (yC z) ?_;refine ao g ?_ ?_<;>intro _ g;refine yo [] (tk [0,3,7,10]) [] ?_
 iterate 3 (refine yt zp ?_)
 cases g;exact yj;refine yo [] (tk [0,3,6,9,12,18,27,16,22,24,31,34]) [] ?_;obtain⟨x,w,j,g⟩:=a8 g;refine yu zp (yi j (ae.aF w)) ?_
 iterate 3 (refine yt zp ?_)
 obtain⟨k,g⟩:=bz g;refine yk<|ak.cR (rows2:=(ae.rows y.fst)) zp rfl rfl rfl rfl rfl zg rfl (b4.refl _) rfl rfl (ae.bU _) rfl rfl (zo k) (yz ?_)
 iterate 3 (refine yt zp ?_)
 cases g;exact yj;refine ao g ?_ ?_<;>intro _ g;refine yk<|ak.cH (t:=178) rfl rfl (eo rfl aW) (yz ?_)
 refine yc g (o.a.gJ _ _ _) λy g=>?_;refine yo [] (tk [0,3,7,9,13]) [] ?_
 iterate 4 (refine yt zp ?_)
 refine yo [] (tk [0,3,7,10]) [] ?_
 iterate 3 (refine yt zp ?_)
 cases g;exact zl;refine ao g ?_ ?_<;>intro _ g;refine yk<|ak.cH (t:=194) rfl rfl (eo rfl aW) (yz ?_)
 refine yc g (o.a.gJ _ _ _) λy g=>?_;refine yo [] (tk [0,3,7,9,13]) [] ?_
 iterate 4 (refine yt zp ?_)
 refine yo [] (tk [0,3,7,10]) [] ?_
 iterate 3 (refine yt zp ?_)
 cases g;exact zl;refine ao g ?_ ?_<;>intro _ g;refine yk<|ak.cH (t:=209) rfl rfl (eo rfl aW) (yz ?_)
 refine yc g (o.a.gJ _ _ _) λy g=>?_;refine yo [] (tk [0,3,7,9,13]) [] ?_
 iterate 4 (refine yt zp ?_)
 refine yo [] (tk [0,3,7,10]) [] ?_
 iterate 3 (refine yt zp ?_)
 cases g;exact zl;refine ao g ?_ ?_<;>intro _ g;refine yk<|ak.cH (t:=225) rfl rfl (eo rfl aW) (yz ?_)
 refine yc g (o.a.gJ _ _ _) λy g=>?_;refine yo [] (tk [0,3,7,9,13]) [] ?_
 iterate 4 (refine yt zp ?_)
 refine yo [] (tk [0,3,7,10]) [] ?_
 iterate 3 (refine yt zp ?_)
 cases g;exact zl;refine ao g ?_ ?_<;>intro _ g;refine yk<|ak.cH (t:=241) rfl rfl (eo rfl aW) (yz ?_)
 refine yc g (o.a.gJ _ _ _) λy g=>?_;refine yo [] (tk [0,3,7,9,13]) [] ?_
 iterate 4 (refine yt zp ?_)
 refine yo [] (tk [0,3,7,10]) [] ?_
 iterate 3 (refine yt zp ?_)
 cases g;exact zl;refine ao g ?_ ?_<;>intro _ g;refine yk<|ak.cH (t:=257) rfl rfl (eo rfl aW) (yz ?_)
 refine yc g (o.a.gJ _ _ _) λy g=>?_;refine yo [] (tk [0,3,7,9,13]) [] ?_
 iterate 4 (refine yt zp ?_)
 refine yo [] (tk [0,3,7,10]) [] ?_
 iterate 3 (refine yt zp ?_)
 cases g;exact zl;refine ao g ?_ ?_<;>intro _ g;refine yk<|ak.cH (t:=273) rfl rfl (eo rfl aW) (yz ?_)
 refine yc g (o.a.gJ _ _ _) λy g=>?_;refine yo [] (tk [0,3,7,9,13]) [] ?_
 iterate 4 (refine yt zp ?_)
 refine yo [] (tk [0,3,7,10]) [] ?_
 iterate 3 (refine yt zp ?_)
 cases g;exact zl;refine ao g ?_ ?_<;>intro _ g;refine yo [0,1,2,3,4,5,6,7] (tk [24,27,30,34,37]) [] ?_
 iterate 2 (obtain⟨y,z,g⟩:=ay g (o.a.fw _);refine yl (yC z) ?_)
 obtain⟨y,z,g⟩:=ay g (o.a.gJ _ _ _);refine yl (yC z) ?_;refine yo [] (tk [0,3,7,9,13]) [] ?_
 iterate 4 (refine yt zp ?_)
 refine yo [] (tk [0,3,7,10]) [] ?_
 iterate 3 (refine yt zp ?_)
 cases g;exact zl;refine ao g ?_ ?_<;>intro _ g;refine yo [] (tk [0,3,6,9,12,15,18,21,24,27,37,40]) [10,11] ?_
 iterate 2 (refine yt zp ?_)
 obtain⟨x,w,j,g⟩:=a8 g;refine yu zp (yi j (ab.aF w)) ?_
 iterate 2 (refine yt zp ?_)
 obtain⟨y,z,g⟩:=ay g (o.a.gM _ _ _);refine yu zp (aQ.wB z rfl rfl zi) ?_
 iterate 4 (refine yt zp ?_)
 refine ao g ?_ ?_<;>intro _ g;refine yo [] (tk [0,3,7,10]) [] ?_
 iterate 3 (refine yt zp ?_)
 cases g;exact yj;refine ao g ?_ ?_<;>intro _ g;refine yo [0,1,2,3,4,5,6] (tk [22,25]) [] ?_;refine yY g ab.aF λx _ _ g=>?_;obtain⟨y,z,g⟩:=ay g (o.a.dv _ _);refine yl (yC z) ?_;cases g;exact yj;refine yo [] (tk [0,3,6,9,12,15,18,21,24,27,30,40,43]) [11,12] ?_
 iterate 2 (refine yt zp ?_)
 obtain⟨x,w,j,g⟩:=a8 g;refine yu zp (yi j (ab.aF w)) ?_
 iterate 3 (refine yt zp ?_)
 obtain⟨y,z,g⟩:=ay g (o.a.gM _ _ _);refine yu zp (aQ.call z rfl rfl) ?_
 iterate 4 (refine yt zp ?_)
 refine yo [] (tk [0,3,6,9,12,15,19,22]) [] ?_
 iterate 7 (refine yt zp ?_)
 cases g;exact yj;refine ao g ?_ ?_<;>intro _ g;refine yo [0,1,2,3,4,5,6,7,8,9,10,11,12] (tk [39,42,45,49,52]) [] ?_
 iterate 2 (refine yY g ab.aF λx _ _ g=>?_)
 obtain⟨y,z,g⟩:=ay g (o.a.GI _ _ _ _ _);refine yl (yC z) ?_;refine yo [] (tk [0,3,7,9,13]) [] ?_
 iterate 4 (refine yt zp ?_)
 refine yo [] (tk [0,3,7,10]) [] ?_
 iterate 3 (refine yt zp ?_)
 cases g;exact zl;refine ao g ?_ ?_<;>intro _ g;refine yc g (o.a.IU _) λy g=>?_;refine ao g ?_ ?_<;>intro _ g;refine yo [0,1,2,3,4,5,6,7,8,9,10,11,12] (tk [39,42,45,49,52]) [] ?_
 iterate 2 (refine yY g ab.aF λx _ _ g=>?_)
 obtain⟨y,z,g⟩:=ay g (o.a.GI _ _ _ _ _);refine yl (yC z) ?_;refine ao g ?_ ?_<;>intro _ g;refine yo [0,1] (tk [6,9,12,15,19,21,25]) [] ?_;obtain⟨x,w,j,g⟩:=a8 g;refine yu zp (yi j (ae.aF w)) ?_;refine yo [] (tk [0,3,7,10]) [] ?_
 iterate 3 (refine yt zp ?_)
 cases g;exact zl;refine yo [] (tk [0,3,7,10]) [] ?_
 iterate 3 (refine yt zp ?_)
 cases g;exact yj;refine ao g ?_ ?_<;>intro _ g;refine yo [] (tk [0,3,7,10]) [] ?_
 iterate 3 (refine yt zp ?_)
 cases g;exact yj;refine yk<|ak.cH (t:=394) rfl rfl (eo rfl aW) (yz ?_)
 refine yc g (o.a.gJ _ _ _) λy g=>?_;refine ao g ?_ ?_<;>intro _ g;refine yo [0,1] (tk [6,9,12,15,19,21,25]) [] ?_;obtain⟨x,w,j,g⟩:=a8 g;refine yu zp (yi j (ae.aF w)) ?_;refine yo [] (tk [0,3,7,10]) [] ?_
 iterate 3 (refine yt zp ?_)
 cases g;exact zl;refine yo [] (tk [0,3,7,10]) [] ?_
 iterate 3 (refine yt zp ?_)
 cases g;exact yj;refine ao g ?_ ?_<;>intro _ g;refine yk<|ak.cH (t:=416) rfl rfl (eo rfl aW) (yz ?_)
 refine yc g (o.a.gJ _ _ _) λy g=>?_;refine ao g ?_ ?_<;>intro _ g;refine yo [] (tk [0,3,7,10]) [] ?_
 iterate 3 (refine yt zp ?_)
 cases g;exact yj;refine yX g ae.aF λx _ _ g=>?_;refine ao g ?_ ?_<;>intro _ g;refine yo [] (tk [0,3,7,10]) [] ?_
 iterate 3 (refine yt zp ?_)
 cases g;exact yj;refine yk<|yL (S:=Int) (G:=λm s=>nS (Gf m) a1 y x s) (s0:=0) 12 [4,6,7,10,11,21] [22] (λs=>[(22,.d (.v (.int .i64 s)))]) (λs=>[]) g ?_;rintro n s113 _ g;change tD (Gf n) a1 y x s113=_ at g;rw[tD]at g;refine yz ?_
 refine ao g ?_ ?_<;>intro _ g;refine yo [0,1,2,3,4,5,6,7] [] [] ?_;refine yY g dQ λx _ _ g=>?_;refine ao g ?_ ?_<;>intro _ g;refine yo [] (tk [0,3,6,9,12,15,18,21,24,27,30,34,37]) [] ?_;refine yt zp ?_;obtain⟨x,w,j,g⟩:=a8 g;refine yu zp (yi j (ah.aF w)) ?_;refine yt zp ?_;obtain⟨y,z,g⟩:=ay g (o.a.kL _);refine yu zp (aQ.call z rfl rfl) ?_
 iterate 7 (refine yt zp ?_)
 cases g;exact zl;exact yk (yN _ n ⟨by omega,g⟩);refine yo [0,1,2,3] (tk [13,16]) [] ?_;obtain⟨y,z,g⟩:=ay g (o.a.dv _ _);refine yl (yC z) ?_;cases g;exact yj;refine ao g ?_ ?_<;>intro _ g;refine yo [] (tk [0,3,6,9,12,15,18,21,24,27,37,40]) [10,11] ?_
 iterate 2 (refine yt zp ?_)
 obtain⟨x,w,j,g⟩:=a8 g;refine yu zp (yi j (ab.aF w)) ?_
 iterate 2 (refine yt zp ?_)
 obtain⟨y,z,g⟩:=ay g (o.a.gM _ _ _);refine yu zp (aQ.wB z rfl rfl zi) ?_
 iterate 4 (refine yt zp ?_)
 iterate 2 (refine ao g ?_ ?_<;>intro _ g;refine yo [] (tk [0,3,7,10]) [] ?_;(iterate 3 (refine yt zp ?_));cases g;exact yj)
 refine yo [] (tk [0,3,6,9,12,15,18,21,24,27,37,40]) [10,11] ?_
 iterate 2 (refine yt zp ?_)
 obtain⟨x,w,j,g⟩:=a8 g;refine yu zp (yi j (ab.aF w)) ?_;refine yt zp ?_;obtain⟨y,z,g⟩:=ay g (o.a.fw _);refine yu zp (aQ.call z rfl rfl) ?_;obtain⟨y,z,g⟩:=ay g (o.a.gM _ _ _);refine yu zp (aQ.call z rfl rfl) ?_
 iterate 4 (refine yt zp ?_)
 refine yo [] (tk [0,3,6,9,12,15,18,21,24,27,30,33,37,40]) [] ?_;obtain⟨x,w,j,g⟩:=a8 g;refine yu zp (yi j (ah.aF w)) ?_;refine yt zp ?_;obtain⟨y,z,g⟩:=ay g (o.a.kL _);refine yu zp (aQ.call z rfl rfl) ?_
 iterate 7 (refine yt zp ?_)
 cases g;exact yj;refine ao g ?_ ?_<;>intro _ g;refine yc g (o.a.abU _ _ _) λy g=>?_;cases g;exact zl;refine yo [] (tk [0,3,7,10]) [] ?_
 iterate 3 (refine yt zp ?_)
 cases g;exact yj
/-(plexus.plexusref18.Scope).together-/
theorem abv {n} (o:Of n):Ri (wW (Gf n)):=by
 intro a0 a1 a2 a3 a4 r g;rw[wW]at g;refine yw func162 ntmps162 ?_;refine yo [] (tk [0,3,13,16]) [2,3] ?_
 iterate 3 (refine yt zp ?_)
 refine yc g (o.a.lg _) λy g=>?_;refine ao g ?_ ?_<;>intro _ g;refine yo [] (tk [0,3,7,10]) [] ?_
 iterate 3 (refine yt zp ?_)
 iterate 2 (refine yc g (o.a.lg _) λy g=>?_;refine ao g ?_ ?_<;>intro _ g;refine yc g (o.a.dv _ _) λy g=>?_;cases g;exact yj;refine yc g (o.a.gM _ _ _) λy g=>?_;refine ao g ?_ ?_<;>intro _ g;refine yo [0,1] [(2,.one)] [] ?_;cases g;exact yj;(iterate 2 (refine ao g ?_ ?_<;>intro _ g));refine yc g (o.a.dv _ _) λy g=>?_;(iterate 2 (cases g;exact yj;refine yc g (o.a.gM _ _ _) λy g=>?_;refine ao g ?_ ?_<;>intro _ g;refine yo [0,1] [(2,.one)] [] ?_;cases g;exact yj;refine yc g (o.a.lg _) λy g=>?_;refine ao g ?_ ?_<;>intro _ g;refine yo [0,1,2,3,4] [(5,.one)] [] ?_;cases g;exact yj;refine yo [0,1,2,3,4] [(5,.one)] [] ?_));cases g;exact yj)
