/- Printed by a program: what functions answer, and that they do. -/
import Derived.Test.YtnocmolegijmkaaGreatKG6
set_option linter.all false
set_option maxRecDepth 100000
noncomputable section
namespace Go.Proofs.YtnocmolegijmkaaGreat
open Go Go.Bw Go.Proofs.Tryz
/-(*plexus.types.elaborator).record-/
theorem alG {n} (o:Of n):YM (Br (Gf n)):=by
 intro a0 a1 a2 r g;rw[Br]at g;refine yw func223 ntmps223 ?_;obtain⟨m1,em1,g⟩:=cy g;obtain⟨hm1,bm1⟩:=DS em1;refine yk<|au.FC m1 (ab.rows (List.replicate m1 ab.z)) rfl hm1 rfl hm1 rfl rfl rfl rfl rfl (by omega) (by simp only[ab.bg,DB];exact ea.replicate zi _) rfl (yz ?_)
 obtain⟨m2,em2,g⟩:=cy g;obtain⟨hm2,bm2⟩:=DS em2;refine yk<|au.FC m2 (du (List.replicate m2 false)) rfl hm2 rfl hm2 rfl rfl rfl rfl rfl (by omega) (by simp only[du,DB];exact ea.replicate zi _) rfl (yz ?_)
 refine yk<|yL (S:=(List ab)×(List Bool)×Int) (G:=λm s=>rl (Gf m) a0 a1 a2 s.1 s.2.1 s.2.2) (s0:=(List.replicate m1 ab.z,List.replicate m2 false,0)) 4 [0,4,5,6,23,24] [7,8,25] (λs=>[(7,.os 2 (ab.rows s.1).length),(8,.os 3 (du s.2.1).length),(25,.d (.v (.int .i64 s.2.2)))]) (λs=>[(2,.row 32 12 (ab.rows s.1)),(3,.row 4 1 (du s.2.1))]) g ?_;rintro n ⟨s3,s4,s5⟩ _ g;change uO (Gf n) a0 a1 a2 s3 s4 s5=_ at g;rw[uO]at g;refine yz ?_
 refine aA g ?_ ?_<;>intro _ g;refine yX g aH.aE λx _ _ g=>?_;refine yc g (o.a.xm _ _) λy g=>?_;refine aA g ?_ ?_<;>intro _ g;exact yP g (o.a.gB _ _);obtain⟨x,w,j,g⟩:=cE g;refine yv (yr j w) ?_;refine yv (ym y.toNat 0 (pf w)) ?_;refine aA g ?_ ?_<;>intro _ g;exact yP g (o.a.gB _ _);refine yo [] (tk [0,3,6,9,12,15,18,21,24,27,30,33,36,39,42,46,48,52,54,58]) [] ?_;obtain⟨x,w,j,g⟩:=cE g;refine yu zp (yi j (aH.aE w)) ?_
 iterate 4 (refine yt zp ?_)
 obtain⟨x,w,j,g⟩:=cE g;refine yu zp (yi j (ai.aE w)) ?_;refine yt zp ?_;obtain⟨v,z,g⟩:=bx g (o.a.kh _);refine yu zp (bA.call z rfl rfl) ?_;refine yq g (o.a.dY _ _ _) zp λv g=>?_;obtain⟨x,w,j,g⟩:=cE g;refine yU zp (yr j w) ?_;refine yk<|au.DT y.toNat 0 (by repeat(first|exact aI.nil|refine aI.cons rfl (bh.eb (cl:=false) rfl aU) ?_|refine aI.skip rfl ?_|refine aI.cons rfl (yr j w) ?_|refine aI.cons rfl (eS (cl:=false) rfl aU) ?_)) (by rfl) (by rfl) (by rfl) (by rfl) (by rfl) (by rfl) (by rfl) (by rfl) zg (by rfl) (yg (ab.aE w)) (by rfl) (by rfl) (by rfl) (by rfl) (yz ?_)
 obtain⟨x,q,j1h,g⟩:=cE g;refine yU zp (yr j1h q) ?_;refine yk<|au.DT y.toNat 0 (by repeat(first|exact aI.nil|refine aI.cons rfl (bh.eb (cl:=false) rfl aU) ?_|refine aI.skip rfl ?_|refine aI.cons rfl (yr j w) ?_|refine aI.cons rfl (yr j1h q) ?_|refine aI.cons rfl (eS (cl:=false) rfl aU) ?_)) (by rfl) (by rfl) (by rfl) (by rfl) (by rfl) (by rfl) (by rfl) (by rfl) zg (by rfl) (yg (pf q)) (by rfl) (by rfl) (by rfl) (by rfl) (yz ?_)
 exact yk (yN (_,_,_) n ⟨by omega,g⟩);refine yk<|yL (S:=(List ab)×Int) (G:=λm s=>oy (Gf m) a1 a2 s4 s.1 s.2) (s0:=(s3,0)) 4 [0,4,5,6,8,23,24,25,65,66] [7,67] (λs=>[(7,.os 2 (ab.rows s.1).length),(67,.d (.v (.int .i64 s.2)))]) (λs=>[(2,.row 32 12 (ab.rows s.1))]) g ?_;rintro n ⟨s26,s27⟩ _ g;change uN (Gf n) a1 a2 s4 s26 s27=_ at g;rw[uN]at g;refine yz ?_
 refine bp g λ_ g=>?_;refine yX g ai.aE λx _ _ g=>?_;obtain⟨x,w,j,g⟩:=cE g;refine yv (yr j w) ?_;refine yv (ym s27.toNat 0 (pf w)) ?_;refine aA g ?_ ?_<;>intro _ g;refine yo [0,1,2,3,4,5,6,7,8] [(9,.one)] [] ?_;obtain⟨y,z,g⟩:=bx g (o.a.Oi _);refine yl (yC z) ?_;obtain⟨y,z,g⟩:=bx g (o.a.kh _);refine yl (yC z) ?_;obtain⟨x,w,j,g⟩:=cE g;refine yl (yr j w) ?_;refine yk<|au.aa' 84 (.agg (ab.cs ({Op:=6,aO:=y,N:=0,Text:=[],At:=a1.At,Kids:=[]:ab}))) s27.toNat 0 aI.nil (by rfl) (by rfl) (by rfl) (by rfl) (by rfl) (by rfl) zi (by rfl) (by rfl) (by rfl) zg (by rfl) (yg (ab.aE w)) (by rfl) (by rfl) (by rfl) (by rfl) (yz ?_)
 iterate 2 (exact yk (yN (_,_) n ⟨by omega,g⟩))
/-(*plexus.types.elaborator).observer-/
theorem alH {n} (o:Of n):YN (Bq (Gf n)):=by
 intro a0 a1 r g;rw[Bq]at g;refine yw func224 ntmps224 ?_;refine yX g aH.aE λx _ _ g=>?_
 iterate 3 (refine yc g (o.a.jw _) λy g=>?_)
 refine aA g ?_ ?_<;>intro _ g;refine yp g (o.a.dY _ _ _) λy g=>?_;refine bp g λ_ g=>?_;refine aA g ?_ ?_<;>intro _ g;exact yP g (o.a.gB _ _);refine yc g (o.a.Oh _ _) λy g=>?_;refine bp g λ_ g=>?_;exact yP g (o.a.gB _ _);refine aA g ?_ ?_<;>intro _ g;refine yk<|au.cO (t:=62) rfl rfl (gG rfl aU) (yz ?_)
 refine yk<|au.cO (t:=60) rfl rfl aU (yz ?_)
 refine yp g (o.a.sF _ _ _ _ _ _) λy g=>?_;refine yX g ab.aE λx _ _ g=>?_;refine yX g ai.aE λx _ _ g=>?_
 iterate 2 (refine bp g λ_ g=>?_)
 exact yP g (o.a.gB _ _);refine aA g ?_ ?_<;>intro _ g;refine yk<|au.cO (t:=88) rfl rfl (gG rfl aU) (yz ?_)
 refine yk<|au.cO (t:=86) rfl rfl aU (yz ?_)
 refine yp g (o.a.sF _ _ _ _ _ _) λy g=>?_;cases g;exact zl;refine aA g ?_ ?_<;>intro _ g;refine yk<|au.cO (t:=94) rfl rfl (gG rfl aU) (yz ?_)
 refine yk<|au.cO (t:=92) rfl rfl aU (yz ?_)
 refine yp g (o.a.sF _ _ _ _ _ _) λy g=>?_;cases g;exact zl;refine aA g ?_ ?_<;>intro _ g;refine yk<|au.cO (t:=100) rfl rfl (gG rfl aU) (yz ?_)
 refine yk<|au.cO (t:=98) rfl rfl aU (yz ?_)
 refine yp g (o.a.sF _ _ _ _ _ _) λy g=>?_;cases g;exact zl;refine aA g ?_ ?_<;>intro _ g;refine yk<|au.cO (t:=106) rfl rfl (gG rfl aU) (yz ?_)
 refine yk<|au.cO (t:=104) rfl rfl aU (yz ?_)
 refine yp g (o.a.sF _ _ _ _ _ _) λy g=>?_;cases g;exact zl;refine aA g ?_ ?_<;>intro _ g;refine yk<|au.cO (t:=112) rfl rfl (gG rfl aU) (yz ?_)
 refine yk<|au.cO (t:=110) rfl rfl aU (yz ?_)
 refine yp g (o.a.sF _ _ _ _ _ _) λy g=>?_;cases g;exact zl;refine aA g ?_ ?_<;>intro _ g
 iterate 2 (refine yk<|au.cO (t:=120) rfl rfl (gG rfl aU) (yz ?_);refine yk<|au.cO (t:=117) rfl rfl aU (yz ?_);refine yp g (o.a.sF _ _ _ _ _ _) λy g=>?_;refine yX g ab.aE λx _ _ g=>?_;refine yX g ai.aE λx _ _ g=>?_;refine yc g (o.a.kh _) λy g=>?_;cases g;exact zl)
/-(*plexus.types.elaborator).observer$1-/
theorem alI {n} (o:Of n):YO (Bp (Gf n)):=by
 intro a0 a1 a2 a3 a4 a5 r g;rw[Bp]at g;refine yw func261 ntmps261 ?_;refine yo [] (tk [0,3,6,9,12,15,19,21,24,28]) [] ?_
 iterate 4 (refine yt zp ?_)
 refine yq g (o.a.Oj _ _ _ _) zp λy g=>?_
 iterate 3 (refine yt zp ?_)
 cases g;exact yj
/-(*plexus.types.elaborator).operand-/
theorem alJ {n} (o:Of n):YP (Bo (Gf n)):=by
 intro a0 a1 a2 a3 r g;rw[Bo]at g;refine yw func226 ntmps226 ?_;refine yp g (o.a.dY _ _ _) λy g=>?_;refine aA g ?_ ?_<;>intro _ g;exact yP g (o.a.gB _ _);refine yc g (o.a.Oh _ _) λy g=>?_;refine bp g λ_ g=>?_;exact yP g (o.a.gB _ _)
/-(*plexus.types.elaborator).operator-/
set_option maxHeartbeats 0 in
theorem alK {n} (o:Of n):YQ (BM (Gf n)):=by
 intro a0 a1 a2 r g;rw[BM]at g;refine yw func165 ntmps165 ?_;refine yc g (o.a.jw _) λy g=>?_;refine aA g ?_ ?_<;>intro _ g;refine yo [] (tk [0,3,6,9,12,15,19,25]) [7] ?_;obtain⟨x,w,j,g⟩:=cE g;refine yu zp (yi j (aH.aE w)) ?_
 iterate 2 (refine yt zp ?_)
 refine yq g (o.a.dY _ _ _) zp λy g=>?_;refine yt zp ?_;refine yc g (o.a.Gx _) λy g=>?_;refine aA g ?_ ?_<;>intro _ g;refine yo [0,1,2,3,4,5,6,7,8,9] (tk [31,33,36,39,43,46]) [] ?_
 iterate 2 (refine yY g aH.aE λx _ _ g=>?_)
 refine yq g (o.a.Ol _ _ _ _ _) zp λy g=>?_;cases g;exact yj
 iterate 2 (refine yo [0,1,2,3,4,5] (tk [19,22]) [] ?_;refine yY g aH.aE λx _ _ g=>?_;refine yq g (o.a.dY _ _ _) zp λy g=>?_)
 cases g;exact yj;refine aA g ?_ ?_<;>intro _ g;refine yX g aH.aE λx _ _ g=>?_;refine yp g (o.a.dY _ _ _) λy g=>?_;refine aA g ?_ ?_<;>intro _ g;refine yX g aH.aE λx _ _ g=>?_;exact yP g (o.a.gB _ _);refine yo [] (tk [0,3,6,9,12,15,18,22,28]) [8] ?_;obtain⟨x,w,j,g⟩:=cE g;refine yu zp (yi j (aH.aE w)) ?_
 iterate 3 (refine yt zp ?_)
 refine yq g (o.a.dY _ _ _) zp λy g=>?_;refine yt zp ?_;cases g;exact yj;refine aA g ?_ ?_<;>intro _ g;refine yo [] (tk [0,3,6,9,12,15,18,21,24,27,31,33,36,39,49,52]) [14,15] ?_
 iterate 2 ((iterate 2 (refine yt zp ?_));obtain⟨x,w,j,g⟩:=cE g;refine yu zp (yi j (aH.aE w)) ?_;refine yt zp ?_)
 refine yq g (o.a.Ol _ _ _ _ _) zp λy g=>?_
 iterate 4 (refine yt zp ?_)
 cases g;exact yj;refine aA g ?_ ?_<;>intro _ g;refine yc g (o.a.Gx _) λy g=>?_
 iterate 2 (refine aA g ?_ ?_<;>intro _ g)
 exact yP g (o.a.gB _ _);refine yp g (o.a.Ch _ _ _ _ _ _) λy g=>?_;cases g;exact zl;refine yo [] (tk [0,3,6,9,12,15,18,21,24,27,31,33,36,39,49,52]) [14,15] ?_
 iterate 2 ((iterate 2 (refine yt zp ?_));obtain⟨x,w,j,g⟩:=cE g;refine yu zp (yi j (aH.aE w)) ?_;refine yt zp ?_)
 refine yq g (o.a.Ol _ _ _ _ _) zp λy g=>?_
 iterate 4 (refine yt zp ?_)
 cases g;exact yj;refine aA g ?_ ?_<;>intro _ g;refine yo [] (tk [0,3,6,9,12,15,18,22,28]) [8] ?_
 iterate 2 (refine yt zp ?_)
 obtain⟨x,w,j,g⟩:=cE g;refine yu zp (yi j (aH.aE w)) ?_
 iterate 2 (refine yt zp ?_)
 refine yq g (o.a.Oj _ _ _ _) zp λy g=>?_;refine yt zp ?_;refine yc g (o.a.xm _ _) λy g=>?_;refine aA g ?_ ?_<;>intro _ g;exact yP g (o.a.gB _ _);refine yo [0,1,2,3,4,5,6,7,8,9,10,11] [(12,.one)] [] ?_;refine yY g ai.aE λx _ _ g=>?_;obtain⟨y,z,g⟩:=bx g (o.a.kh _);refine yl (yC z) ?_;cases g;exact yj;refine yo [] (tk [0,3,6,9,12,15,18,22,28]) [8] ?_
 iterate 2 (refine yt zp ?_)
 obtain⟨x,w,j,g⟩:=cE g;refine yu zp (yi j (aH.aE w)) ?_
 iterate 2 (refine yt zp ?_)
 refine yq g (o.a.Oj _ _ _ _) zp λy g=>?_;refine yt zp ?_;refine yo [] (tk [0,3,6,9,12,15,19,25]) [7] ?_;obtain⟨x,w,j,g⟩:=cE g;refine yu zp (yi j (aH.aE w)) ?_;refine yt zp ?_;obtain⟨y,z,g⟩:=bx g (o.a.jw _);refine yu zp (bA.call z rfl rfl) ?_;refine yq g (o.a.dY _ _ _) zp λy g=>?_;refine yt zp ?_;refine yo [0,1,2,3,4,5,6,7,8,9,10] [(11,.one)] [] ?_;refine yY g ai.aE λx _ _ g=>?_;obtain⟨y,z,g⟩:=bx g (o.a.kh _);refine yl (yC z) ?_;cases g;exact yj
/-(*plexus.types.elaborator).together-/
theorem alM {n} (o:Of n):YR (Bn (Gf n)):=by
 intro a0 a1 a2 a3 a4 r g;rw[Bn]at g;refine yw func225 ntmps225 ?_;refine yo [] (tk [0,3,13,16,18]) [2,3] ?_
 iterate 3 (refine yt zp ?_)
 iterate 2 (refine yc g (o.a.Gw _) λy g=>?_;refine aA g ?_ ?_<;>intro _ g)
 exact yP g (o.a.gB _ _);refine yo [] (tk [0,3,7,10,12]) [] ?_
 iterate 3 (refine yt zp ?_)
 iterate 2 (refine yp g (o.a.dY _ _ _) λy g=>?_;(iterate 2 (refine aA g ?_ ?_<;>intro _ g));exact yP g (o.a.gB _ _);(iterate 2 (refine yp g (o.a.dY _ _ _) λy g=>?_;refine yo [] (tk [0,3,7,10]) [] ?_;(iterate 3 (refine yt zp ?_));cases g;exact zl)))
theorem w34 {n} (o:Of n):C34 (C3 (Gf n)):=by
 intro a0 a1 a2 a3 r g;rw[C3]at g;refine yw func34 ntmps34 ?_;refine yk<|au.ct (rs:=_) Rk rfl rfl func77 rfl zk rfl ntmps77 rfl rfl (yz ?_)
 refine yk<|au.cO (t:=8) rfl rfl aU (yz ?_)
 rcases adm g with⟨c3,c4,z,g⟩|⟨y,z,g⟩
 replace z:=(o.a.dY _ _ _ _ z);refine yk<|au.adn z rfl rfl aU (cH.refl _) (.inr rfl) rfl (yz ?_)
 refine zs g ?_ ?_<;>(clear g;intro k g);refine yo [] (tk [0,3,7,10]) [] ?_
 iterate 2 (refine yt zp ?_)
 cases g;exact yj;refine yo [] (tk [0,3,7,10]) [] ?_
 iterate 3 (refine yt zp ?_)
 cases g;exact yj;replace z:=(o.a.dY _ _ _ _ z);refine yv (yC z) ?_;refine yo [] (tk [0,3,7,10]) [] ?_
 iterate 3 (refine yt zp ?_)
 cases g;exact zl
theorem w36 {n} (o:Of n):C36 (C4 (Gf n)):=by
 intro a0 a1 r g;rw[C4]at g;refine yw func36 ntmps36 ?_
 iterate 4 (refine bp g λ_ g=>?_)
 refine yc g (o.a.PD _ _) λy g=>?_;refine bp g λ_ g=>?_;refine yc g (o.a.agH _ _) λy g=>?_;cases g;exact zl
theorem agD {n} (o:Of n):W1 (Ab (Gf n)):=by
 intro a0 a1 r g;rw[Ab]at g;refine yw func82 ntmps82 ?_;refine aQ g λ_ g=>?_;refine yk<|yL (S:=Int) (G:=λm s=>tF (Gf m) a0 a1 s) (s0:=0) 0 [1,2,6,15,16] [17] (λs=>[(17,.d (.v (.int .i64 s)))]) (λs=>[]) g ?_;rintro n s2 _ g;change tG (Gf n) a0 a1 s2=_ at g;rw[tG]at g;refine yz ?_
 refine bp g λ_ g=>?_
 iterate 2 (refine yX g ab.aE λx _ _ g=>?_)
 refine yc g (o.a.c36 _ _) λy g=>?_;refine aQ g λ_ g=>?_;exact yk (yN _ n ⟨by omega,g⟩)
theorem w12 {n} (o:Of n):C12 (C5 (Gf n)):=by
 intro a0 a1 r g;rw[C5]at g;refine yw func12 ntmps12 ?_;refine yc g (o.a.Dd _) λy g=>?_;refine aQ g λ_ g=>?_;refine yc g (o.a.c32 _) λy g=>?_;refine aQ g λ_ g=>?_;refine yc g (o.a.c33 _ _) λy g=>?_;refine aQ g λ_ g=>?_;refine yo [] (tk [0,3,6,9,12,15,18,21,24,27,30,40,43]) [11,12] ?_
 iterate 4 (refine yt zp ?_)
 obtain⟨y,z,g⟩:=bx g (o.a.c35 _ _);refine yu zp (bA.call z rfl rfl) ?_;refine yt zp ?_;obtain⟨y,z,g⟩:=bx g (o.a.c34 _ _ _ _);refine yu zp (bA.call z rfl rfl) ?_
 iterate 4 (refine yt zp ?_)
 refine bp g λ_ g=>?_;refine yc g (o.a.c36 _ _) λy g=>?_;cases g;exact zl
theorem alN {n} (o:Of n):YS (A7 (Gf n)):=by
 intro a0 a1 a2 a3 a4 r g;rw[A7]at g;refine yw func121 ntmps121 ?_
 iterate 3 (refine aA g ?_ ?_<;>intro _ g)
 iterate 2 ((iterate 2 (exact dM g;refine bp g λ_ g=>?_));refine aA g ?_ ?_<;>intro _ g)
 refine aA g ?_ ?_<;>intro _ g
 iterate 2 (exact dM g;refine bp g λ_ g=>?_)
 refine aA g ?_ ?_<;>intro _ g;exact dM g;refine bp g λ_ g=>?_;exact dM g
theorem alO {n} (o:Of n):YT (Bk (Gf n)):=by
 intro a0 a1 r g;rw[Bk]at g;refine yw func122 ntmps122 ?_;refine yc g (o.a.oM _) λy g=>?_;refine aQ g λ_ g=>?_;refine yk<|yL (S:=Int) (G:=λm s=>pF (Gf m) a0 a1 s) (s0:=0) 0 [0,4,10,11] [12] (λs=>[(12,.d (.v (.int .i64 s)))]) (λs=>[]) g ?_;rintro n s3 _ g;change uK (Gf n) a0 a1 s3=_ at g;rw[uK]at g;refine yz ?_
 refine bp g λ_ g=>?_;refine yX g dF λx _ _ g=>?_;refine yc g (o.a.nT _) λy g=>?_;refine aQ g λ_ g=>?_;refine aA g ?_ ?_<;>intro _ g;refine yc g (o.a.wZ _ _) λy g=>?_;refine aQ g λ_ g=>?_
 iterate 2 (exact yk (yN _ n ⟨by omega,g⟩))
theorem alQ {n} (o:Of n):YU (wI (Gf n)):=by
 intro a0 a1 r g;rw[wI]at g;refine yw func123 ntmps123 ?_;refine yk<|yL (S:=Int) (G:=λm s=>pG (Gf m) a0 a1 s) (s0:=0) 0 [1,4,7,8] [9] (λs=>[(9,.d (.v (.int .i64 s)))]) (λs=>[]) g ?_;rintro n s1 _ g;change uL (Gf n) a0 a1 s1=_ at g;rw[uL]at g;refine yz ?_
 refine bp g λ_ g=>?_;refine yX g aV.aE λx _ _ g=>?_;refine yc g (o.a.G6 _ _) λy g=>?_;refine aA g ?_ ?_<;>intro _ g;refine yc g (o.a.wZ _ _) λy g=>?_;refine aQ g λ_ g=>?_
 iterate 2 (exact yk (yN _ n ⟨by omega,g⟩))
theorem alR {n} (o:Of n):YV (wF (Gf n)):=by
 intro a0 r g;rw[wF]at g;refine yw func172 ntmps172 ?_;refine yk<|yL (S:=Int×Int) (G:=λm s=>zx (Gf m) a0 s.1 s.2) (s0:=(-1,0)) 0 [2,6,7] [3,8] (λs=>[(3,.d (.v (.int .i64 s.1))),(8,.d (.v (.int .i64 s.2)))]) (λs=>[]) g ?_;rintro n ⟨s1,s2⟩ _ g;change uH (Gf n) a0 s1 s2=_ at g;rw[uH]at g;refine yz ?_
 refine bp g λ_ g=>?_;refine yX g aj.aE λx _ _ g=>?_
 iterate 4 (refine aQ g λ_ g=>?_)
 exact yk (yN (_,_) n ⟨by omega,g⟩)
theorem alS {n} (o:Of n):YW (A8 (Gf n)):=by
 intro a0 a1 r g;rw[A8]at g;refine yw func266 ntmps266 ?_;exact dM g
set_option maxHeartbeats 0 in
theorem aex {n} (o:Of n):Tu (yH (Gf n)):=by
 intro a0 a1 r g;rw[yH]at g;refine yw func265 ntmps265 ?_
 iterate 2 (refine yc g (o.a.w5 _) λy g=>?_;refine aQ g λ_ g=>?_)
 refine Ok.stuck aU ?_;refine au.kv 7 161 2 0 rfl rfl ?_;refine yL (S:=(List aj)×(List aj)×(List aj)) (G:=λm s=>gq (Gf m) s.1 s.2.1 s.2.2) (s0:=(a0,a1,[])) 1 [2,6] [0,1,7] (λs=>[(0,.d (.sl 2 (aj.rows s.1))),(1,.d (.sl 2 (aj.rows s.2.1))),(7,.os 0 (aj.rows s.2.2).length)]) (λs=>[(0,.row 161 2 (aj.rows s.2.2))]) g ?_;rintro n ⟨s5,s6,s7⟩ _ g;change DN (Gf n) s5 s6 s7=_ at g;rw[DN]at g;refine yz ?_;refine aA g (λk g=>?_) λk g=>?_;refine yo [0,1,2,3,4,5,6,7,8,9,10,11,12,13,14,15,16,17,18,19] [] [] ?_;refine aA g ?_ ?_<;>intro _ g;refine yo [0,1,2,3,4,5,6,7,8,9,10,11,12] [] [] ?_;refine yY g aj.aE λx _ _ g=>?_;refine yY g aj.aE λt _ _ g=>?_;obtain⟨t,w,g⟩:=cy g;refine yl (yQ aj.bg w) ?_;refine yc g (o.a.oO _ _) λy g=>?_;refine aA g ?_ ?_<;>intro _ g;refine yk<|au.fM 1 (rows':=aj.rows ([{Process:=x.Process,N:=y:aj}])) rfl zi (yz ?_)
 obtain⟨l,g⟩:=bL g;refine yk<|DO.dQ rfl rfl zg rfl rfl zg rfl rfl (aj.cv _) rfl rfl rfl (zo l) (yz ?_)
 exact yk (yN (_,_,_) n ⟨by omega,g⟩);exact yk (yN (t,s6,s7) n ⟨by omega,g⟩);refine Ok.kZ k ?_;conv=>(arg 3;whnf)
 iterate 2 (refine yY g aj.aE λx _ _ g=>?_)
 refine aA g ?_ ?_<;>intro _ g;refine yo [0,1,2,3,4,5,6,7,8,9,10,11,12] [] [] ?_;refine yY g aj.aE λx _ _ g=>?_;refine yY g aj.aE λt _ _ g=>?_;obtain⟨t,w,g⟩:=cy g;refine yl (yQ aj.bg w) ?_;refine yc g (o.a.oO _ _) λy g=>?_;refine aA g ?_ ?_<;>intro _ g;refine yk<|au.fM 1 (rows':=aj.rows ([{Process:=x.Process,N:=y:aj}])) rfl zi (yz ?_)
 obtain⟨l,g⟩:=bL g;refine yk<|DO.dQ rfl rfl zg rfl rfl zg rfl rfl (aj.cv _) rfl rfl rfl (zo l) (yz ?_)
 exact yk (yN (_,_,_) n ⟨by omega,g⟩);exact yk (yN (t,s6,s7) n ⟨by omega,g⟩);refine yo [0,1,2,3,4,5,6,7,8,9,10,11,12,13,14] [] [] ?_;refine aA g ?_ ?_<;>intro _ g;refine yo [0,1,2,3,4,5,6,7,8,9,10,11,12] [] [] ?_;refine yY g aj.aE λx _ _ g=>?_;refine yY g aj.aE λt _ _ g=>?_;obtain⟨t,w,g⟩:=cy g;refine yl (yQ aj.bg w) ?_;refine yc g (o.a.oO _ _) λy g=>?_;refine aA g ?_ ?_<;>intro _ g;refine yk<|au.fM 1 (rows':=aj.rows ([{Process:=x.Process,N:=y:aj}])) rfl zi (yz ?_)
 obtain⟨l,g⟩:=bL g;refine yk<|DO.dQ rfl rfl zg rfl rfl zg rfl rfl (aj.cv _) rfl rfl rfl (zo l) (yz ?_)
 exact yk (yN (_,_,_) n ⟨by omega,g⟩);exact yk (yN (s5,t,s7) n ⟨by omega,g⟩)
 iterate 2 (refine yY g aj.aE λx _ _ g=>?_)
 refine aA g ?_ ?_<;>intro _ g;refine yo [0,1,2,3,4,5,6,7,8,9,10,11,12] [] [] ?_;refine yY g aj.aE λx _ _ g=>?_;refine yY g aj.aE λt _ _ g=>?_;obtain⟨t,w,g⟩:=cy g;refine yl (yQ aj.bg w) ?_;refine yc g (o.a.oO _ _) λy g=>?_;refine aA g ?_ ?_<;>intro _ g;refine yk<|au.fM 1 (rows':=aj.rows ([{Process:=x.Process,N:=y:aj}])) rfl zi (yz ?_)
 obtain⟨l,g⟩:=bL g;refine yk<|DO.dQ rfl rfl zg rfl rfl zg rfl rfl (aj.cv _) rfl rfl rfl (zo l) (yz ?_)
 exact yk (yN (_,_,_) n ⟨by omega,g⟩);exact yk (yN (s5,t,s7) n ⟨by omega,g⟩);refine yo [0,1,2,3,4,5,6,7,8,9,10,11,12,13,14,15,16,17,18,19,20] [] [] ?_;refine yY g aj.aE λx _ _ g=>?_
 iterate 2 (refine yY g aj.aE λt _ _ g=>?_)
 obtain⟨t,w,g⟩:=cy g;refine yl (yQ aj.bg w) ?_;obtain⟨x2,w,g⟩:=cy g;refine yl (yQ aj.bg w) ?_;refine yc g (o.a.oO _ _) λy g=>?_;refine aA g ?_ ?_<;>intro _ g;refine yk<|au.fM 1 (rows':=aj.rows ([{Process:=x.Process,N:=y:aj}])) rfl zi (yz ?_)
 obtain⟨l,g⟩:=bL g;refine yk<|DO.dQ rfl rfl zg rfl rfl zg rfl rfl (aj.cv _) rfl rfl rfl (zo l) (yz ?_)
 exact yk (yN (_,_,_) n ⟨by omega,g⟩);exact yk (yN (t,x2,s7) n ⟨by omega,g⟩);refine bp g λ_ g=>?_;refine yo [0,1,2,3,4,5,6,7,8,9,10,11,12,13,14,15,16,17,18,19] [] [] ?_;refine aA g ?_ ?_<;>intro _ g;refine yo [0,1,2,3,4,5,6,7,8,9,10,11,12] [] [] ?_;refine yY g aj.aE λx _ _ g=>?_;refine yY g aj.aE λt _ _ g=>?_;obtain⟨t,w,g⟩:=cy g;refine yl (yQ aj.bg w) ?_;refine yc g (o.a.oO _ _) λy g=>?_;refine aA g ?_ ?_<;>intro _ g;refine yk<|au.fM 1 (rows':=aj.rows ([{Process:=x.Process,N:=y:aj}])) rfl zi (yz ?_)
 obtain⟨l,g⟩:=bL g;refine yk<|DO.dQ rfl rfl zg rfl rfl zg rfl rfl (aj.cv _) rfl rfl rfl (zo l) (yz ?_)
 exact yk (yN (_,_,_) n ⟨by omega,g⟩);exact yk (yN (t,s6,s7) n ⟨by omega,g⟩);refine Ok.la k ?_;conv=>(arg 3;whnf)
 refine yo [0,1,2,3,4,5,6,7,8,9,10,11,12,13,14] [] [] ?_;refine aA g ?_ ?_<;>intro _ g;refine yo [0,1,2,3,4,5,6,7,8,9,10,11,12] [] [] ?_;refine yY g aj.aE λx _ _ g=>?_;refine yY g aj.aE λt _ _ g=>?_;obtain⟨t,w,g⟩:=cy g;refine yl (yQ aj.bg w) ?_;refine yc g (o.a.oO _ _) λy g=>?_;refine aA g ?_ ?_<;>intro _ g;refine yk<|au.fM 1 (rows':=aj.rows ([{Process:=x.Process,N:=y:aj}])) rfl zi (yz ?_)
 obtain⟨k,g⟩:=bL g;refine yk<|DO.dQ rfl rfl zg rfl rfl zg rfl rfl (aj.cv _) rfl rfl rfl (zo k) (yz ?_)
 exact yk (yN (_,_,_) n ⟨by omega,g⟩);exact yk (yN (s5,t,s7) n ⟨by omega,g⟩)
 iterate 2 (refine yY g aj.aE λx _ _ g=>?_)
 refine aA g ?_ ?_<;>intro _ g;refine yo [0,1,2,3,4,5,6,7,8,9,10,11,12] [] [] ?_;refine yY g aj.aE λx _ _ g=>?_;refine yY g aj.aE λt _ _ g=>?_;obtain⟨t,w,g⟩:=cy g;refine yl (yQ aj.bg w) ?_;refine yc g (o.a.oO _ _) λy g=>?_;refine aA g ?_ ?_<;>intro _ g;refine yk<|au.fM 1 (rows':=aj.rows ([{Process:=x.Process,N:=y:aj}])) rfl zi (yz ?_)
 obtain⟨k,g⟩:=bL g;refine yk<|DO.dQ rfl rfl zg rfl rfl zg rfl rfl (aj.cv _) rfl rfl rfl (zo k) (yz ?_)
 exact yk (yN (_,_,_) n ⟨by omega,g⟩);exact yk (yN (s5,t,s7) n ⟨by omega,g⟩);refine yo [0,1,2,3,4,5,6,7,8,9,10,11,12,13,14,15,16,17,18,19,20] [] [] ?_;refine yY g aj.aE λx _ _ g=>?_
 iterate 2 (refine yY g aj.aE λt _ _ g=>?_)
 obtain⟨t,w,g⟩:=cy g;refine yl (yQ aj.bg w) ?_;obtain⟨x2,w,g⟩:=cy g;refine yl (yQ aj.bg w) ?_;refine yc g (o.a.oO _ _) λy g=>?_;refine aA g ?_ ?_<;>intro _ g;refine yk<|au.fM 1 (rows':=aj.rows ([{Process:=x.Process,N:=y:aj}])) rfl zi (yz ?_)
 obtain⟨k,g⟩:=bL g;refine yk<|DO.dQ rfl rfl zg rfl rfl zg rfl rfl (aj.cv _) rfl rfl rfl (zo k) (yz ?_)
 exact yk (yN (_,_,_) n ⟨by omega,g⟩);exact yk (yN (t,x2,s7) n ⟨by omega,g⟩)
theorem alT {n} (o:Of n):YX (Ba (Gf n)):=by
 intro a0 a1 r g;rw[Ba]at g;refine yw func230 ntmps230 ?_;refine yc g (o.a.aeF _ _) λy g=>?_;cases g;exact zl
theorem alU {n} (o:Of n):YY (Bc (Gf n)):=by
 intro a0 a1 r g;rw[Bc]at g;refine yw func174 ntmps174 ?_
 iterate 2 (refine yc g (o.a.w5 _) λy g=>?_;refine aQ g λ_ g=>?_)
 iterate 2 (refine yc g (o.a.am3 _ _) λy g=>?_)
 refine aA g (λk g=>?_) λk g=>?_;refine aQ g λ_ g=>?_;refine Ok.kZ k ?_;conv=>(arg 3;whnf)
 cases g;exact zl;refine Ok.la k ?_;conv=>(arg 3;whnf)
 exact dM g
theorem alV {n} (o:Of n):YZ (wE (Gf n)):=by
 intro a0 r g;rw[wE]at g;refine yw func124 ntmps124 ?_;refine yk<|yL (S:=Bool×Int) (G:=λm s=>ox (Gf m) a0 s.1 s.2) (s0:=(false,0)) 0 [0,8,9] [2,10] (λs=>[(2,.d (.v (.bool s.1))),(10,.d (.v (.int .i64 s.2)))]) (λs=>[]) g ?_;rintro n ⟨s1,s2⟩ _ g;change uG (Gf n) a0 s1 s2=_ at g;rw[uG]at g;refine yz ?_
 refine bp g λ_ g=>?_;refine yX g az.aE λx _ _ g=>?_;refine yo [0,1,2,3,4,5,6,7,8,9,10,11,12,13,14,15,16,17,18,19,20,21,22,23,24,25,26,27,28,29] [] [] ?_;refine aQ g λ_ g=>?_;obtain⟨y,z,g⟩:=bx g (o.a.w5 _);refine yl (yC z) ?_;refine aQ g λ_ g=>?_;obtain⟨v,z,g⟩:=bx g (o.a.nT _);refine yl (yC z) ?_;refine aQ g λ_ g=>?_;refine aA g ?_ ?_<;>intro _ g;refine yY g az.aE λt _ _ g=>?_;obtain⟨y2,z,g⟩:=bx g (o.a.Gr _ _);refine yl (yC z) ?_;refine aQ g λ_ g=>?_;obtain⟨x2,w,g⟩:=cy g;refine yv (yQ az.bg w) ?_;refine yk<|yL (S:=Bool×Int) (G:=λm s=>E8 (Gf m) a0 s1 s2 x y v t y2 x2 s.1 s.2) (s0:=(s1,0)) 1 [0,4,8,9,10,47,48] [2,49] (λs=>[(2,.d (.v (.bool s.1))),(49,.d (.v (.int .i64 s.2)))]) (λs=>[]) g ?_;rintro n ⟨s18,s19⟩ _ g;change zt (Gf n) a0 s1 s2 x y v t y2 x2 s18 s19=_ at g;rw[zt]at g;refine yz ?_
 refine aA g ?_ ?_<;>intro _ g;refine yX g az.aE λt _ _ g=>?_;refine yc g (o.a.Gz _ _) λy2 g=>?_
 iterate 2 (refine aQ g λ_ g=>?_)
 iterate 2 (exact yk (yN (_,_) n ⟨by omega,g⟩))
 obtain⟨t,w,g⟩:=cy g;refine yv (yQ az.bg w) ?_;refine yk<|yL (S:=Bool×Int) (G:=λm s=>E9 (Gf m) a0 s1 s2 x y v t s.1 s.2) (s0:=(s1,0)) 1 [0,4,8,9,10,47,48] [2,49] (λs=>[(2,.d (.v (.bool s.1))),(49,.d (.v (.int .i64 s.2)))]) (λs=>[]) g ?_;rintro n ⟨s28,s29⟩ _ g;change zw (Gf n) a0 s1 s2 x y v t s28 s29=_ at g;rw[zw]at g;refine yz ?_
 refine aA g ?_ ?_<;>intro _ g;refine yX g az.aE λx _ _ g=>?_;refine yc g (o.a.Gz _ _) λy g=>?_
 iterate 2 (refine aQ g λ_ g=>?_)
 iterate 2 (exact yk (yN (_,_) n ⟨by omega,g⟩))
theorem alW {n} (o:Of n):Y0 (A5 (Gf n)):=by
 intro a0 r g;rw[A5]at g;refine yw func125 ntmps125 ?_
 iterate 2 (refine aQ g λ_ g=>?_)
 refine aA g ?_ ?_<;>intro _ g;refine Ok.stuck aU ?_;refine au.gH 2 2 40 4 3 rfl rfl rfl ?_;refine yL (S:=Int×(List ah)) (G:=λm s=>zm (Gf m) a0 s.1 s.2) (s0:=(0,[])) 4 [2,3,22,23] [24] (λs=>[(24,.d (.v (.int .i64 s.1)))]) (λs=>[(3,.row 40 4 (ah.rows s.2)),(2,.box [.d (.v (.int .i64 0)),.d (.v (.slice none 0 0)),.os 3 (ah.rows s.2).length,.d (.v (.slice none 0 0))])]) g ?_;rintro n ⟨s4,s7⟩ _ g;change E' (Gf n) a0 s4 s7=_ at g;rw[E']at g;refine yz ?_;refine bp g λ_ g=>?_;refine yX g ai.aE λx _ _ g=>?_;refine yo [0,1,2,3,4] (tk [16,18,22]) [] ?_;obtain⟨y,z,g⟩:=bx g (o.a.Ci _);refine yl (yC z) ?_;obtain⟨k,g⟩:=bL g;refine yk<|au.eG (rows2:=(ah.rows ([y]))) aI.nil rfl rfl rfl rfl rfl zg rfl zi rfl rfl (ah.cv _) rfl rfl (zo k) (yz ?_)
 exact yk (yN (_,_) n ⟨by omega,g⟩);refine bp g λ_ g=>?_;refine Ok.stuck aU ?_;refine au.gH 2 2 40 4 3 rfl rfl rfl ?_;refine yL (S:=Int×(List ah)) (G:=λm s=>zr (Gf m) a0 s.1 s.2) (s0:=(0,[])) 4 [2,3,22,23] [24] (λs=>[(24,.d (.v (.int .i64 s.1)))]) (λs=>[(3,.row 40 4 (ah.rows s.2)),(2,.box [.d (.v (.int .i64 0)),.d (.v (.slice none 0 0)),.os 3 (ah.rows s.2).length,.d (.v (.slice none 0 0))])]) g ?_;rintro n ⟨s15,s18⟩ _ g;change Fa (Gf n) a0 s15 s18=_ at g;rw[Fa]at g;refine yz ?_;refine bp g λ_ g=>?_;refine yX g ai.aE λx _ _ g=>?_;refine yo [0,1,2,3,4] (tk [16,18,22]) [] ?_;obtain⟨y,z,g⟩:=bx g (o.a.Ci _);refine yl (yC z) ?_;obtain⟨k,g⟩:=bL g;refine yk<|au.eG (rows2:=(ah.rows ([y]))) aI.nil rfl rfl rfl rfl rfl zg rfl zi rfl rfl (ah.cv _) rfl rfl (zo k) (yz ?_)
 exact yk (yN (_,_) n ⟨by omega,g⟩)
theorem w94 {n} (o:Of n):C94 (CR (Gf n)):=by
 intro a0 a1 r g;rw[CR]at g;refine yw func94 ntmps94 ?_;refine yc g (o.a.B0 _ _) λy g=>?_;cases g;exact zl
theorem w83 {n} (o:Of n):C83 (CO (Gf n)):=by
 intro a0 a1 r g;rw[CO]at g;refine yw func83 ntmps83 ?_
 iterate 3 (refine aA g ?_ ?_<;>intro _ g;refine yc g (o.a.oN _ _ _ _ _) λy g=>?_;refine bp g λ_ g=>?_;exact dM g)
 refine aA g ?_ ?_<;>intro _ g;refine yc g (o.a.oN _ _ _ _ _) λy g=>?_;refine bp g λ_ g=>?_;refine yc g (o.a.Gy _ _) λy g=>?_;cases g;exact zl;refine aA g ?_ ?_<;>intro _ g;refine yc g (o.a.oN _ _ _ _ _) λy g=>?_;refine bp g λ_ g=>?_;refine yc g (o.a.Gy _ _) λy g=>?_;refine bp g λ_ g=>?_;refine yc g (o.a.am2 _ _) λy g=>?_;cases g;exact zl
 iterate 2 (refine aA g ?_ ?_<;>intro _ g)
 refine yc g (o.a.oN _ _ _ _ _) λy g=>?_;cases g;exact zl;refine aA g ?_ ?_<;>intro _ g;refine yc g (o.a.oN _ _ _ _ _) λy g=>?_;cases g;exact zl;refine bp g λ_ g=>?_;refine yc g (o.a.oN _ _ _ _ _) λy g=>?_
 iterate 2 (refine bp g λ_ g=>?_)
 refine yc g (o.a.Gy _ _) λy g=>?_;cases g;exact zl;refine aA g ?_ ?_<;>intro _ g;refine yc g (o.a.oN _ _ _ _ _) λy g=>?_;refine bp g λ_ g=>?_;refine yc g (o.a.am4 _) λy g=>?_;cases g;exact zl;refine aA g ?_ ?_<;>intro _ g;refine yc g (o.a.oN _ _ _ _ _) λy g=>?_
 iterate 2 (refine aQ g λ_ g=>?_)
 refine yc g (o.a.Gy _ _) λy g=>?_;refine aQ g λ_ g=>?_;refine yk<|yL (S:=Int) (G:=λm s=>pY (Gf m) a0 a1 s) (s0:=0) 2 [2,3,4,131,132] [133] (λs=>[(133,.d (.v (.int .i64 s)))]) (λs=>[]) g ?_;rintro n s43 _ g;change vl (Gf n) a0 a1 s43=_ at g;rw[vl]at g;refine yz ?_
 refine bp g λ_ g=>?_;refine yX g ah.aE λx _ _ g=>?_;refine yo [0,1,2,3,4,5,6,7,8,9,10,11,12,13,14,15] [] [] ?_;refine yY g ai.aE λx _ _ g=>?_;obtain⟨y,z,g⟩:=bx g (o.a.PE _ _);refine yl (yC z) ?_;refine aQ g λ_ g=>?_;refine yY g ai.aE λx _ _ g=>?_;obtain⟨y,z,g⟩:=bx g (o.a.Ci _);refine yl (yC z) ?_;obtain⟨y,z,g⟩:=bx g (o.a.De _ _);refine yl (yC z) ?_;refine aQ g λ_ g=>?_;exact yk (yN _ n ⟨by omega,g⟩);refine yc g (o.a.oN _ _ _ _ _) λy g=>?_
 iterate 2 (refine aQ g λ_ g=>?_)
 refine yk<|yL (S:=Int) (G:=λm s=>pX (Gf m) a0 a1 s) (s0:=0) 2 [2,4,167,168] [169] (λs=>[(169,.d (.v (.int .i64 s)))]) (λs=>[]) g ?_;rintro n s59 _ g;change vk (Gf n) a0 a1 s59=_ at g;rw[vk]at g;refine yz ?_
 refine bp g λ_ g=>?_;refine yX g ah.aE λx _ _ g=>?_;refine yo [0,1,2,3,4,5,6,7] [] [] ?_;refine yY g ai.aE λx _ _ g=>?_;obtain⟨y,z,g⟩:=bx g (o.a.PE _ _);refine yl (yC z) ?_;refine aQ g λ_ g=>?_;exact yk (yN _ n ⟨by omega,g⟩)
theorem w37 {n} (o:Of n):C37 (CP (Gf n)):=by
 intro a0 a1 r g;rw[CP]at g;refine yw func37 ntmps37 ?_;refine yc g (o.a.Dd _) λy g=>?_;refine bp g λ_ g=>?_;refine yc g (o.a.PE _ _) λy g=>?_;cases g;exact zl
theorem alX {n} (o:Of n):Y1 (Ax (Gf n)):=by
 intro a0 r g;rw[Ax]at g;refine yw func128 ntmps128 ?_;refine yc g (o.a.nT _) λy g=>?_;cases g;exact zl
theorem aey {n} (o:Of n):Tv (tQ (Gf n)):=by
 intro a0 r g;rw[tQ]at g;refine yw func175 ntmps175 ?_;refine yk<|yL (S:=Int) (G:=λm s=>xH (Gf m) a0 s) (s0:=0) 0 [0,1,4,7] [8] (λs=>[(8,.d (.v (.int .i64 s)))]) (λs=>[]) g ?_;rintro n s1 _ g;change xI (Gf n) a0 s1=_ at g;rw[xI]at g;refine yz ?_
 refine bp g λ_ g=>?_;refine yX g dF λx _ _ g=>?_;refine yc g (o.a.am5 _) λy g=>?_;refine aQ g λ_ g=>?_;exact yk (yN _ n ⟨by omega,g⟩)
theorem aez {n} (o:Of n):Tw (yy (Gf n)):=by
 intro a0 r g;rw[yy]at g;refine yw func127 ntmps127 ?_;refine yc g (o.a.aeG _) λy g=>?_;cases g;exact zl
theorem w84 {n} (o:Of n):C84 (CF (Gf n)):=by
 intro a0 a1 r g;rw[CF]at g;refine yw func84 ntmps84 ?_
 iterate 3 (refine aQ g λ_ g=>?_)
 refine aA g (λk g=>?_) λk g=>?_;refine aQ g λ_ g=>?_;refine aA g (λ_ g=>?_) λl g=>?_;refine aQ g λ_ g=>?_;refine aA g (λh2 g=>?_) λh2 g=>?_;refine aA g (λh3 g=>?_) λh3 g=>?_;refine aQ g λ_ g=>?_;refine Ok.la (Ah h2) ?_;conv=>(arg 3;whnf)
 refine Ok.la (Ah h3) ?_;conv=>(arg 3;whnf)
 refine Ok.la (Ah k) ?_;conv=>(arg 3;whnf)
 refine yc g (o.a.oM _) λy g=>?_;refine aQ g λ_ g=>?_;refine yc g (o.a.Tz _) λy g=>?_;exact dM g;refine Ok.la (Ah h2) ?_;conv=>(arg 3;whnf)
 refine Ok.kZ (qa h3) ?_;conv=>(arg 3;whnf)
 refine bp g λ_ g=>?_;exact dM g;refine Ok.kZ (qa h2) ?_;conv=>(arg 3;whnf)
 refine aQ g λ_ g=>?_;exact dM g
 iterate 2 (refine yT (qa l) ?_)
 refine aQ g λ_ g=>?_
 iterate 2 (refine yF (qa l) ?_)
 refine Ok.la (Ah k) ?_;conv=>(arg 3;whnf)
 refine yc g (o.a.oM _) λy g=>?_;refine aQ g λ_ g=>?_;refine yc g (o.a.Tz _) λy g=>?_;exact dM g;refine yT (qa k) ?_;refine aQ g λ_ g=>?_
 iterate 2 (refine yT (qa k) ?_)
 refine aQ g λ_ g=>?_
 iterate 2 (refine yF (qa k) ?_)
 refine Ok.kZ (qa k) ?_;conv=>(arg 3;whnf)
 refine yc g (o.a.nT _) λy g=>?_;exact dM g
theorem w38 {n} (o:Of n):C38 (Cz (Gf n)):=by
 intro a0 a1 r g;rw[Cz]at g;refine yw func38 ntmps38 ?_;refine aQ g λ_ g=>?_;refine yk<|yL (S:=Int) (G:=λm s=>rz (Gf m) a0 a1 s) (s0:=0) 0 [1,4,13,14] [15] (λs=>[(15,.d (.v (.int .i64 s)))]) (λs=>[]) g ?_;rintro n s2 _ g;change u9 (Gf n) a0 a1 s2=_ at g;rw[u9]at g;refine yz ?_
 refine bp g λ_ g=>?_;refine yX g TParam.aE λx _ _ g=>?_;refine yo [0,1,2,3,4,5,6,7] [] [] ?_;refine yY g br.aE λx _ _ g=>?_;obtain⟨y,z,g⟩:=bx g (o.a.c84 _ _);refine yl (yC z) ?_;refine aQ g λ_ g=>?_;exact yk (yN _ n ⟨by omega,g⟩)
theorem w14 {n} (o:Of n):C14 (Co (Gf n)):=by
 intro a0 a1 a2 a3 r g;rw[Co]at g;refine yw func14 ntmps14 ?_;refine yc g (o.a.c8 _ _ _) λy g=>?_
 iterate 2 (refine aQ g λ_ g=>?_)
 refine yc g (o.a.G7 _ _) λy g=>?_;refine bp g λ_ g=>?_;refine yc g (o.a.Dg _ _) λy g=>?_;refine bp g λ_ g=>?_;refine yc g (o.a.PG _ _) λy g=>?_;cases g;exact zl
theorem w20 {n} (o:Of n):C20 (Ct (Gf n)):=by
 intro a0 r g;rw[Ct]at g;refine yw func20 ntmps20 ?_;refine aQ g λ_ g=>?_;refine yc g (o.a.agI _) λy g=>?_;cases g;exact zl
theorem agE {n} (o:Of n):W2 (zX (Gf n)):=by
 intro a0 r g;rw[zX]at g;refine yw func46 ntmps46 ?_;refine yc g (o.a.agJ _) λy g=>?_;cases g;exact zl
theorem agF {n} (o:Of n):W3 (u4 (Gf n)):=by
 intro a0 r g;rw[u4]at g;refine yw func96 ntmps96 ?_;refine yk<|yL (S:=Int) (G:=λm s=>pg (Gf m) a0 s) (s0:=0) 0 [0,1,4,7] [8] (λs=>[(8,.d (.v (.int .i64 s)))]) (λs=>[]) g ?_;rintro n s1 _ g;change tz (Gf n) a0 s1=_ at g;rw[tz]at g;refine yz ?_
 refine bp g λ_ g=>?_;refine yX g ab.aE λx _ _ g=>?_;refine yc g (o.a.c20 _) λy g=>?_;refine aQ g λ_ g=>?_;exact yk (yN _ n ⟨by omega,g⟩)
theorem w39 {n} (o:Of n):C39 (Cq (Gf n)):=by
 intro a0 a1 a2 a3 r g;rw[Cq]at g;refine yw func39 ntmps39 ?_;refine yc g (o.a.G7 _ _) λy g=>?_
 iterate 2 (refine aQ g λ_ g=>?_)
 refine yc g (o.a.Dg _ _) λy g=>?_;refine aQ g λ_ g=>?_;refine yc g (o.a.PG _ _) λy g=>?_;cases g;exact zl
theorem w25 {n} (o:Of n):C25 (GR (Gf n)):=by
 intro a0 r g;rw[GR]at g;refine yw func25 ntmps25 ?_;refine Ok.stuck aU<|au.jg 3 rfl ?_ ?_
 intro cap k;replace g:(some ([]))=some r:=(by have l:a0=[]:=DA.1 (by have k:=congrArg List.length k;simpa only[TParam.aF,lG]using k);subst l;simpa using g);refine yz ?_;refine yv (bA.toP (bA.lY (et:=63) rfl zk rfl rfl)) ?_;cases g;exact yj;intro ad n0 cap;refine yz ?_;refine yv (bA.toP (bA.lY (et:=63) rfl zk rfl rfl)) ?_;obtain⟨k,g⟩:=bL g;refine yk<|DO.r9 (rows2:=(TParam.rows a0)) rfl rfl zg rfl (cq.refl _) rfl rfl (TParam.cv _) rfl rfl rfl (zo k) (yz ?_)
 cases g;exact zl
theorem w50 {n} (o:Of n):C50 (C' (Gf n)):=by
 intro a0 a1 r g;rw[C']at g;refine yw func50 ntmps50 ?_;refine bp g λ_ g=>?_;refine yc g (o.a.PD _ _) λy g=>?_
 iterate 3 (refine bp g λ_ g=>?_)
 refine yc g (o.a.agK _ _) λy g=>?_;cases g;exact zl
theorem agG {n} (o:Of n):W4 (Ac (Gf n)):=by
 intro a0 a1 r g;rw[Ac]at g;refine yw func82 ntmps82 ?_;refine aQ g λ_ g=>?_;refine yk<|yL (S:=Int) (G:=λm s=>tH (Gf m) a0 a1 s) (s0:=0) 0 [1,2,6,15,16] [17] (λs=>[(17,.d (.v (.int .i64 s)))]) (λs=>[]) g ?_;rintro n s2 _ g;change tI (Gf n) a0 a1 s2=_ at g;rw[tI]at g;refine yz ?_
 refine bp g λ_ g=>?_
 iterate 2 (refine yX g ab.aE λx _ _ g=>?_)
 refine yc g (o.a.c50 _ _) λy g=>?_;refine aQ g λ_ g=>?_;exact yk (yN _ n ⟨by omega,g⟩)
theorem w51 {n} (o:Of n):C51 (Da (Gf n)):=by
 intro a0 r g;rw[Da]at g;refine yw func51 ntmps51 ?_;cases g;exact yj
theorem w53 {n} (o:Of n):C53 (Db (Gf n)):=by
 intro a0 r g;rw[Db]at g;refine yw func53 ntmps53 ?_;cases g;exact zl
theorem w27 {n} (o:Of n):C27 (oV (Gf n)):=by
 intro a0 a1 r g;rw[oV]at g;refine yw func27 ntmps27 ?_;refine yc g (o.a.c50 _ _) λy g=>?_;refine aA g ?_ ?_<;>intro _ g;refine yc g (o.a.G8 _) λy g=>?_;cases g;exact zl;refine aA g ?_ ?_<;>intro _ g;refine yo [0,1,2,3,4,5,6,7,8,9,10,11,12,13] (tk [43,46]) [] ?_
 iterate 2 (refine yY g ab.aE λx _ _ g=>?_;obtain⟨y,z,g⟩:=bx g (o.a.Dh _ _);refine yl (yC z) ?_)
 iterate 2 (refine yc g (o.a.G9 _) λy g=>?_;refine aQ g λ_ g=>?_)
 refine yk<|au.inl (rs:=_) rfl func52 rfl zk rfl ntmps52 rfl rfl (yz ?_)
 cases g;exact yj;refine aA g ?_ ?_<;>intro _ g;refine yo [0,1,2,3,4,5,6,7,8,9,10,11,12,13] (tk [43,46]) [] ?_
 iterate 2 (refine yY g ab.aE λx _ _ g=>?_;obtain⟨y,z,g⟩:=bx g (o.a.Dh _ _);refine yl (yC z) ?_)
 iterate 2 (refine yc g (o.a.G9 _) λy g=>?_;refine aA g ?_ ?_<;>intro _ g)
 refine yc g (o.a.G8 _) λy g=>?_;cases g;exact zl
 iterate 2 (refine yo [0,1,2,3,4,5,6,7] (tk [25,28]) [] ?_;refine yY g ab.aE λx _ _ g=>?_;refine yk<|au.gK (rs:=_) rfl (λ_=>aI.nil) rfl rfl rfl rfl func52 rfl zk rfl ntmps52 rfl rfl (yz ?_);cases g;exact yj)
 refine aA g ?_ ?_<;>intro _ g;refine Ok.stuck aU ?_;refine au.kv 10 32 12 3 rfl rfl ?_;refine yL (S:=(List ab)×Bool×Int) (G:=λm s=>p5 (Gf m) a0 a1 s.1 s.2.1 s.2.2) (s0:=([],true,0)) 4 [2,3,4,5,86,87] [10,11,88] (λs=>[(10,.os 3 (ab.rows s.1).length),(11,.d (.v (.bool s.2.1))),(88,.d (.v (.int .i64 s.2.2)))]) (λs=>[(3,.row 32 12 (ab.rows s.1))]) g ?_;rintro n ⟨s32,s33,s34⟩ _ g;change vx (Gf n) a0 a1 s32 s33 s34=_ at g;rw[vx]at g;refine yz ?_;refine aA g ?_ ?_<;>intro _ g;refine yX g ab.aE λx _ _ g=>?_;refine yo [0,1,2,3,4,5,6,7,8,9,10,11,12,13,14] [(15,.one)] [] ?_;refine yY g ai.aE λx _ _ g=>?_;obtain⟨y,z,g⟩:=bx g (o.a.Dh _ _);refine yl (yC z) ?_;refine aA g ?_ ?_<;>intro _ g;refine yc g (o.a.G9 _) λv g=>?_
 iterate 2 (refine yk<|au.fM 6 (rows':=ab.rows ([y])) rfl zi (yz ?_);obtain⟨k,g⟩:=bL g;refine yk<|DO.dQ rfl rfl zg rfl rfl zg rfl rfl (ab.cv _) rfl rfl rfl (zo k) (yz ?_);exact yk (yN (_,_,_) n ⟨by omega,g⟩))
 refine aA g ?_ ?_<;>intro _ g;refine yc g (o.a.G8 _) λy g=>?_;cases g;exact zl;refine yk<|au.inl (rs:=_) rfl func52 rfl zk rfl ntmps52 rfl rfl (yz ?_)
 cases g;exact zl;refine bp g λ_ g=>?_;refine Ok.stuck aU ?_;refine au.kv 15 32 12 3 rfl rfl ?_;refine yL (S:=(List ab)×Int) (G:=λm s=>nF (Gf m) a0 a1 s.1 s.2) (s0:=([],0)) 4 [2,3,4,5] [15,16] (λs=>[(15,.os 3 (ab.rows s.1).length),(16,.d (.v (.int .i64 s.2)))]) (λs=>[(3,.row 32 12 (ab.rows s.1))]) g ?_;rintro n ⟨s48,s49⟩ _ g;change vy (Gf n) a0 a1 s48 s49=_ at g;rw[vy]at g;refine yz ?_;refine aA g ?_ ?_<;>intro _ g;refine yo [0,1,2,3,4,5,6,7,8,9,10,11,12,13,14,15] [(16,.one)] [] ?_;refine yY g ai.aE λx _ _ g=>?_;refine yY g ab.aE λx _ _ g=>?_;refine yo [0,1,2,3,4,5,6,7,8] [(9,.one)] [] ?_;refine yY g ab.aE λx _ _ g=>?_;obtain⟨y,z,g⟩:=bx g (o.a.Dh _ _);refine yl (yC z) ?_;refine yc g (o.a.G9 _) λv g=>?_;refine aA g ?_ ?_<;>intro _ g;refine yo [0,1,2,3,4,5,6,7] (tk [25,27]) [] ?_;refine yY g ab.aE λx _ _ g=>?_;obtain⟨k,g⟩:=bL g;refine yk<|au.eG (rows2:=(ab.rows ([x,y]))) aI.nil rfl rfl rfl rfl rfl zg rfl zi rfl rfl (ab.cv _) rfl rfl (zo k) (yz ?_)
 iterate 2 (exact yk (yN (_,_) n ⟨by omega,g⟩))
 refine aA g ?_ ?_<;>intro _ g;refine yc g (o.a.G8 _) λy g=>?_;cases g;exact zl;refine yk<|au.inl (rs:=_) rfl func52 rfl zk rfl ntmps52 rfl rfl (yz ?_)
 cases g;exact zl
theorem w26 {n} (o:Of n):C26 (xk (Gf n)):=by
 intro a0 r g;rw[xk]at g;refine yw func26 ntmps26 ?_;refine Ok.stuck aU ?_;refine au.gH 0 11 32 12 2 rfl rfl rfl ?_;refine yL (S:=Int×(List ab)) (G:=λm s=>rN (Gf m) a0 s.1 s.2) (s0:=(0,[])) 3 [1,2,9,10] [11] (λs=>[(11,.d (.v (.int .i64 s.1)))]) (λs=>[(2,.row 32 12 (ab.rows s.2)),(0,.box [.d (.v (.int .i64 a0.Op)),.d (.v (.int .i64 a0.aO.a6)),.d (.v (.int .i64 a0.aO.aJ.Kind)),.d (.v (.int .i64 a0.aO.aJ.Lo)),.d (.v (.int .i64 a0.aO.aJ.Hi)),.d (.sl 1 (aG a0.aO.aJ.Names)),.d (.sl 6 (ai.rows a0.aO.aJ.ak)),.d (.sl 2 (aV.rows a0.aO.aJ.bI)),.d (.v (.int .i64 a0.N)),.d (.v (.string ⟨⟨(a0.Text)⟩⟩)),.d (.v (.int .i64 a0.At)),.os 2 (ab.rows s.2).length])]) g ?_;rintro n ⟨s1,s13⟩ _ g;change vz (Gf n) a0 s1 s13=_ at g;rw[vz]at g;refine yz ?_;refine bp g λ_ g=>?_;refine yX g ab.aE λx _ _ g=>?_;refine yo [0,1,2,3,4] (tk [16,18,22]) [] ?_;obtain⟨y,z,g⟩:=bx g (o.a.c26 _);refine yl (yC z) ?_;obtain⟨k,g⟩:=bL g;refine yk<|au.eG (rows2:=(ab.rows ([y]))) aI.nil rfl rfl rfl rfl rfl zg rfl zi rfl rfl (ab.cv _) rfl rfl (zo k) (yz ?_)
 exact yk (yN (_,_) n ⟨by omega,g⟩)
theorem w9 {n} (o:Of n):C9 (B9 (Gf n)):=by
 intro a0 a1 r g;rw[B9]at g;refine yw func9 ntmps9 ?_;refine yc g (o.a.G7 _ _) λy g=>?_
 iterate 2 (refine aQ g λ_ g=>?_)
 refine yc g (o.a.c25 _) λy g=>?_;refine yc g (o.a.Dh _ _) λy g=>?_;refine yc g (o.a.c26 _) λy g=>?_;cases g;exact zl
theorem alY {n} (o:Of n):Y2 (AG (Gf n)):=by
 intro a0 r g;rw[AG]at g;refine yw func176 ntmps176 ?_;cases g;exact yj
theorem alZ {n} (o:Of n):Y3 (AH (Gf n)):=by
 intro a0 r g;rw[AH]at g;refine yw func177 ntmps177 ?_;exact dM g
theorem al0 {n} (o:Of n):Y4 (A6 (Gf n)):=by
 intro a0 r g;rw[A6]at g;refine yw func190 ntmps190 ?_;refine yc g (o.a.Dd _) λy g=>?_;refine aQ g λ_ g=>?_;refine yc g (o.a.Ci _) λy g=>?_;cases g;exact zl
theorem al1 {n} (o:Of n):Y5 (Ay (Gf n)):=by
 intro a0 r g;rw[Ay]at g;refine yw func178 ntmps178 ?_;refine yc g (o.a.ZS _) λy g=>?_;cases g;exact zl
/-(plexus.eval.frame).leaf-/
theorem al2 {n} (o:Of n):Y6 (mL (Gf n)):=by
 intro a0 a1 r g;rw[mL]at g;refine yw func131 ntmps131 ?_;refine aA g ?_ ?_<;>intro _ g;refine yc g (o.a.Cj _) λy g=>?_;cases g;exact zl;refine aA g ?_ ?_<;>intro _ g;refine yc g (o.a.lx _) λy g=>?_;cases g;exact zl;refine aQ g λ_ g=>?_;refine aA g ?_ ?_<;>intro _ g;refine yX g br.aE λx _ _ g=>?_;cases g;exact yj;refine aQ g λ_ g=>?_;refine yc g (o.a.Om _) λy g=>?_;cases g;exact yj
theorem al3 {n} (o:Of n):Y7 (Bj (Gf n)):=by
 intro a0 a1 r g;rw[Bj]at g;refine yw func231 ntmps231 ?_;refine yc g (o.a.Gq _ _) λy g=>?_;refine aQ g λ_ g=>?_;refine yc g (o.a.Gs _ _) λy g=>?_;cases g;exact zl
theorem al4 {n} (o:Of n):Y8 (Bi (Gf n)):=by
 intro a0 a1 r g;rw[Bi]at g;refine yw func180 ntmps180 ?_
 iterate 2 (refine yc g (o.a.wY _) λy g=>?_)
 refine yc g (o.a.am7 _ _) λy g=>?_;cases g;exact zl
theorem w91 {n} (o:Of n):C91 (xf (Gf n)):=by
 intro a0 a1 r g;rw[xf]at g;refine yw func91 ntmps91 ?_;refine yk<|yL (S:=Int) (G:=λm s=>Fy (Gf m) a0 a1 s) (s0:=0) 1 [2,4,7,8] [9] (λs=>[(9,.d (.v (.int .i64 s)))]) (λs=>[]) g ?_;rintro n s1 _ g;change rE (Gf n) a0 a1 s1=_ at g;rw[rE]at g;refine yz ?_
 refine bp g λ_ g=>?_;refine yX g ah.aE λx _ _ g=>?_;refine yc g (o.a.Dg _ _) λy g=>?_;refine aQ g λ_ g=>?_;exact yk (yN _ n ⟨by omega,g⟩)
theorem w44 {n} (o:Of n):C44 (CI (Gf n)):=by
 intro a0 a1 r g;rw[CI]at g;refine yw func44 ntmps44 ?_;refine yc g (o.a.Dd _) λy g=>?_;refine aQ g λ_ g=>?_;refine yc g (o.a.c91 _ _) λy g=>?_;exact dM g
theorem al5 {n} (o:Of n):Y9 (Bd (Gf n)):=by
 intro a0 a1 r g;rw[Bd]at g;refine yw func144 ntmps144 ?_;refine yc g (o.a.Gz _ _) λy g=>?_;refine aQ g λ_ g=>?_;exact dM g
theorem al6 {n} (o:Of n):Y' (AX (Gf n)):=by
 intro a0 a1 r g;rw[AX]at g;refine yw func143 ntmps143 ?_;refine yc g (o.a.am9 _ _) λy g=>?_;cases g;exact zl
theorem ac4 {n} (o:Of n):Si (tD (Gf n)):=by
 intro a0 a1 r g;rw[tD]at g;refine yw func199 ntmps199 ?_;refine yk<|yL (S:=Int) (G:=λm s=>xD (Gf m) a0 a1 s) (s0:=0) 0 [0,1,4,7] [8] (λs=>[(8,.d (.v (.int .i64 s)))]) (λs=>[]) g ?_;rintro n s1 _ g;change xE (Gf n) a0 a1 s1=_ at g;rw[xE]at g;refine yz ?_
 refine bp g λ_ g=>?_;refine yX g az.aE λx _ _ g=>?_;refine yc g (o.a.am' _ _) λy g=>?_;refine aQ g λ_ g=>?_;exact yk (yN _ n ⟨by omega,g⟩)
theorem ac5 {n} (o:Of n):Sj (xV (Gf n)):=by
 intro a0 a1 r g;rw[xV]at g;refine yw func142 ntmps142 ?_;refine yc g (o.a.ac' _ _) λy g=>?_;cases g;exact zl
theorem w95 {n} (o:Of n):C95 (CM (Gf n)):=by
 intro a0 a1 r g;rw[CM]at g;refine yw func95 ntmps95 ?_;refine yc g (o.a.ada _ _) λy g=>?_;cases g;exact zl
theorem w45 {n} (o:Of n):C45 (CN (Gf n)):=by
 intro a0 a1 a2 r g;rw[CN]at g;refine yw func45 ntmps45 ?_
 iterate 3 (refine aQ g λ_ g=>?_)
 iterate 2 (refine aA g ?_ ?_<;>intro _ g;refine yc g (o.a.G6 _ _) λy g=>?_;cases g;exact zl)
 refine aA g ?_ ?_<;>intro _ g;refine yk<|yL (S:=Int) (G:=λm s=>rG (Gf m) a0 a1 a2 s) (s0:=0) 3 [3,4,5,6,42,43] [44] (λs=>[(44,.d (.v (.int .i64 s)))]) (λs=>[]) g ?_;rintro n s9 _ g;change vh (Gf n) a0 a1 a2 s9=_ at g;rw[vh]at g;refine yz ?_
 refine bp g λ_ g=>?_;refine yX g dF λx _ _ g=>?_;refine yc g (o.a.xm _ _) λy g=>?_;refine yo [0,1,2,3,4,5,6,7,8,9,10,11,12,13,14,15,16,17,18,19] [] [] ?_;refine aQ g λ_ g=>?_;refine yY g ai.aE λx _ _ g=>?_
 iterate 2 (refine yY g ah.aE λx _ _ g=>?_)
 obtain⟨y,z,g⟩:=bx g (o.a.xn _ _ _);refine yl (yC z) ?_;refine aQ g λ_ g=>?_;exact yk (yN _ n ⟨by omega,g⟩);refine aA g ?_ ?_<;>intro _ g;refine yk<|yL (S:=Int) (G:=λm s=>rH (Gf m) a0 a1 a2 s) (s0:=0) 3 [4,5,6,77,78] [79] (λs=>[(79,.d (.v (.int .i64 s)))]) (λs=>[]) g ?_;rintro n s24 _ g;change vi (Gf n) a0 a1 a2 s24=_ at g;rw[vi]at g;refine yz ?_
 refine bp g λ_ g=>?_;refine yX g ai.aE λx _ _ g=>?_;refine yo [0,1,2,3,4,5,6,7,8,9,10,11,12] [] [] ?_
 iterate 2 (refine yY g ah.aE λx _ _ g=>?_)
 obtain⟨y,z,g⟩:=bx g (o.a.xn _ _ _);refine yl (yC z) ?_;refine aQ g λ_ g=>?_;exact yk (yN _ n ⟨by omega,g⟩);refine aA g ?_ ?_<;>intro _ g;refine yo [0,1,2,3,4,5,6,7,8] [] [] ?_
 iterate 2 (refine yY g ah.aE λx _ _ g=>?_)
 obtain⟨y,z,g⟩:=bx g (o.a.De _ _);refine yl (yC z) ?_;refine aA g ?_ ?_<;>intro _ g
 iterate 2 (refine yo [0,1,2,3,4,5,6,7,8,9,10,11,12,13] [] [] ?_;refine yY g ai.aE λx _ _ g=>?_;(iterate 2 (refine yY g ah.aE λx _ _ g=>?_));obtain⟨y,z,g⟩:=bx g (o.a.xn _ _ _);refine yl (yC z) ?_;cases g;exact zl)
 refine aA g ?_ ?_<;>intro _ g
 iterate 2 (refine aQ g λ_ g=>?_)
 refine yc g (o.a.De _ _) λy g=>?_;cases g;exact zl;refine yk<|yL (S:=Int) (G:=λm s=>rI (Gf m) a1 a2 s) (s0:=0) 3 [5,6,151,152] [153] (λs=>[(153,.d (.v (.int .i64 s)))]) (λs=>[]) g ?_;rintro n s59 _ g;change vj (Gf n) a1 a2 s59=_ at g;rw[vj]at g;refine yz ?_
 refine bp g λ_ g=>?_;refine yX g az.aE λx _ _ g=>?_;refine yc g (o.a.c95 _ _) λy g=>?_;refine aQ g λ_ g=>?_;exact yk (yN _ n ⟨by omega,g⟩)
theorem w19 {n} (o:Of n):C19 (CJ (Gf n)):=by
 intro a0 a1 a2 r g;rw[CJ]at g;refine yw func19 ntmps19 ?_;refine yc g (o.a.c44 _ _) λy g=>?_;refine bp g λ_ g=>?_;refine yc g (o.a.xn _ _ _) λy g=>?_;cases g;exact zl
