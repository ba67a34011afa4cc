/- Printed by a program: what functions answer, and that they do. -/
import Derived.Test.YtnocmolegijmkaaGreatKGA3
set_option linter.all false
set_option maxRecDepth 100000
noncomputable section
namespace Go.Proofs.YtnocmolegijmkaaGreat
open Go Go.Bw Go.Proofs.Tryz
/-(*plexus.types.elaborator).record-/
theorem aaV {n} (o:Ou n):QG (si (Gu n)):=by
 intro a0 a1 a2 r g;rw[si]at g;refine yw func223 ntmps223 ?_;obtain⟨m1,em1,g⟩:=iC g;obtain⟨hm1,bm1⟩:=KG em1;refine yk<|az.Pl m1 (ab.rows (List.replicate m1 ab.z)) rfl hm1 rfl hm1 rfl rfl rfl rfl rfl (by omega) (by simp only[ab.bw,List.map_replicate];exact dp.replicate zi _) rfl (yz ?_)
 obtain⟨m2,em2,g⟩:=iC g;obtain⟨hm2,bm2⟩:=KG em2;refine yk<|az.Pl m2 (jm (List.replicate m2 false)) rfl hm2 rfl hm2 rfl rfl rfl rfl rfl (by omega) (by simp only[jm,List.map_replicate];exact dp.replicate zi _) rfl (yz ?_)
 refine yk<|yL (S:=(List ab)×(List Bool)×Int) (G:=λm s=>mb (Gu m) a0 a1 a2 s.1 s.2.1 s.2.2) (s0:=(List.replicate m1 ab.z,List.replicate m2 false,0)) 4 [0,4,5,6,23,24] [7,8,25] (λs=>[(7,.os 2 (ab.rows s.1).length),(8,.os 3 (jm s.2.1).length),(25,.d (.v (.int .i64 s.2.2)))]) (λs=>[(2,.row 32 12 (ab.rows s.1)),(3,.row 4 1 (jm s.2.1))]) g ?_;rintro n ⟨s3,s4,s5⟩ _ g;change nf (Gu n) a0 a1 a2 s3 s4 s5=_ at g;rw[nf]at g;refine yz ?_
 refine aD g ?_ ?_<;>intro _ g;refine yX g af.aI λx _ _ g=>?_;refine yc g (o.a.IV _ _) λy g=>?_;refine aD g ?_ ?_<;>intro _ g;exact yP g (o.a.fO _ _);obtain⟨x,w,j,g⟩:=bB g;refine yv (yr j w) ?_;refine yv (ym y.toNat 0 (Ek w)) ?_;refine aD g ?_ ?_<;>intro _ g;exact yP g (o.a.fO _ _);refine yo [] (tk [0,3,6,9,12,15,18,21,24,27,30,33,36,39,42,46,48,52,54,58]) [] ?_;obtain⟨x,w,j,g⟩:=bB g;refine yu zp (yi j (af.aI w)) ?_
 iterate 4 (refine yt zp ?_)
 obtain⟨x,w,j,g⟩:=bB g;refine yu zp (yi j (ah.aI w)) ?_;refine yt zp ?_;obtain⟨v,z,g⟩:=bj g (o.a.jG _);refine yu zp (bm.call z rfl rfl) ?_;refine yq g (o.a.dA _ _ _) zp λv g=>?_;obtain⟨x,w,j,g⟩:=bB g;refine yU zp (yr j w) ?_;refine yk<|az.qA y.toNat 0 (by repeat(first|exact aF.nil|refine aF.cons rfl (ba.dt (cl:=false) rfl aW) ?_|refine aF.skip rfl ?_|refine aF.cons rfl (yr j w) ?_|refine aF.cons rfl (dZ (cl:=false) rfl aW) ?_)) (by rfl) (by rfl) (by rfl) (by rfl) (by rfl) (by rfl) (by rfl) (by rfl) zg (by rfl) (yg (ab.aI w)) (by rfl) (by rfl) (by rfl) (by rfl) (yz ?_)
 obtain⟨x,q,j1h,g⟩:=bB g;refine yU zp (yr j1h q) ?_;refine yk<|az.qA y.toNat 0 (by repeat(first|exact aF.nil|refine aF.cons rfl (ba.dt (cl:=false) rfl aW) ?_|refine aF.skip rfl ?_|refine aF.cons rfl (yr j w) ?_|refine aF.cons rfl (yr j1h q) ?_|refine aF.cons rfl (dZ (cl:=false) rfl aW) ?_)) (by rfl) (by rfl) (by rfl) (by rfl) (by rfl) (by rfl) (by rfl) (by rfl) zg (by rfl) (yg (Ek q)) (by rfl) (by rfl) (by rfl) (by rfl) (yz ?_)
 exact yk (yN (_,_,_) n ⟨by omega,g⟩);refine yk<|yL (S:=(List ab)×Int) (G:=λm s=>jP (Gu m) a1 a2 s4 s.1 s.2) (s0:=(s3,0)) 4 [0,4,5,6,8,23,24,25,65,66] [7,67] (λs=>[(7,.os 2 (ab.rows s.1).length),(67,.d (.v (.int .i64 s.2)))]) (λs=>[(2,.row 32 12 (ab.rows s.1))]) g ?_;rintro n ⟨s26,s27⟩ _ g;change nc (Gu n) a1 a2 s4 s26 s27=_ at g;rw[nc]at g;refine yz ?_
 refine bH g λ_ g=>?_;refine yX g ah.aI λx _ _ g=>?_;obtain⟨x,w,j,g⟩:=bB g;refine yv (yr j w) ?_;refine yv (ym s27.toNat 0 (Ek w)) ?_;refine aD g ?_ ?_<;>intro _ g;refine yo [0,1,2,3,4,5,6,7,8] [(9,.one)] [] ?_;obtain⟨y,z,g⟩:=bj g (o.a.Hq _);refine yl (yC z) ?_;obtain⟨y,z,g⟩:=bj g (o.a.jG _);refine yl (yC z) ?_;obtain⟨x,w,j,g⟩:=bB g;refine yl (yr j w) ?_;refine yk<|az.TL 84 (.agg (ab.cs ({Op:=6,aj:=y,N:=0,Text:=[],At:=a1.At,Kids:=[]:ab}))) s27.toNat 0 aF.nil (by rfl) (by rfl) (by rfl) (by rfl) (by rfl) (by rfl) zi (by rfl) (by rfl) (by rfl) zg (by rfl) (yg (ab.aI w)) (by rfl) (by rfl) (by rfl) (by rfl) (yz ?_)
 iterate 2 (exact yk (yN (_,_) n ⟨by omega,g⟩))
/-(*plexus.types.elaborator).observer-/
theorem aaW {n} (o:Ou n):QH (jy (Gu n)):=by
 intro a0 a1 r g;rw[jy]at g;refine yw func224 ntmps224 ?_;refine yX g af.aI λx _ _ g=>?_
 iterate 3 (refine yc g (o.a.iN _) λy g=>?_)
 refine aD g ?_ ?_<;>intro _ g;refine yp g (o.a.dA _ _ _) λy g=>?_;refine bH g λ_ g=>?_;refine aD g ?_ ?_<;>intro _ g;exact yP g (o.a.fO _ _);refine yc g (o.a.Ho _ _) λy g=>?_;refine bH g λ_ g=>?_;exact yP g (o.a.fO _ _);refine aD g ?_ ?_<;>intro _ g;refine yk<|az.cH (t:=62) rfl rfl (eg rfl aW) (yz ?_)
 refine yk<|az.cH (t:=60) rfl rfl aW (yz ?_)
 refine yp g (o.a.r7 _ _ _ _ _ _) λy g=>?_;refine yX g ab.aI λx _ _ g=>?_;refine yX g ah.aI λx _ _ g=>?_
 iterate 2 (refine bH g λ_ g=>?_)
 exact yP g (o.a.fO _ _);refine aD g ?_ ?_<;>intro _ g;refine yk<|az.cH (t:=88) rfl rfl (eg rfl aW) (yz ?_)
 refine yk<|az.cH (t:=86) rfl rfl aW (yz ?_)
 refine yp g (o.a.r7 _ _ _ _ _ _) λy g=>?_;cases g;exact zl;refine aD g ?_ ?_<;>intro _ g;refine yk<|az.cH (t:=94) rfl rfl (eg rfl aW) (yz ?_)
 refine yk<|az.cH (t:=92) rfl rfl aW (yz ?_)
 refine yp g (o.a.r7 _ _ _ _ _ _) λy g=>?_;cases g;exact zl;refine aD g ?_ ?_<;>intro _ g;refine yk<|az.cH (t:=100) rfl rfl (eg rfl aW) (yz ?_)
 refine yk<|az.cH (t:=98) rfl rfl aW (yz ?_)
 refine yp g (o.a.r7 _ _ _ _ _ _) λy g=>?_;cases g;exact zl;refine aD g ?_ ?_<;>intro _ g;refine yk<|az.cH (t:=106) rfl rfl (eg rfl aW) (yz ?_)
 refine yk<|az.cH (t:=104) rfl rfl aW (yz ?_)
 refine yp g (o.a.r7 _ _ _ _ _ _) λy g=>?_;cases g;exact zl;refine aD g ?_ ?_<;>intro _ g;refine yk<|az.cH (t:=112) rfl rfl (eg rfl aW) (yz ?_)
 refine yk<|az.cH (t:=110) rfl rfl aW (yz ?_)
 refine yp g (o.a.r7 _ _ _ _ _ _) λy g=>?_;cases g;exact zl;refine aD g ?_ ?_<;>intro _ g
 iterate 2 (refine yk<|az.cH (t:=120) rfl rfl (eg rfl aW) (yz ?_);refine yk<|az.cH (t:=117) rfl rfl aW (yz ?_);refine yp g (o.a.r7 _ _ _ _ _ _) λy g=>?_;refine yX g ab.aI λx _ _ g=>?_;refine yX g ah.aI λx _ _ g=>?_;refine yc g (o.a.jG _) λy g=>?_;cases g;exact zl)
/-(*plexus.types.elaborator).observer$1-/
theorem aaX {n} (o:Ou n):QI (nQ (Gu n)):=by
 intro a0 a1 a2 a3 a4 a5 r g;rw[nQ]at g;refine yw func261 ntmps261 ?_;refine yo [] (tk [0,3,6,9,12,15,19,21,24,28]) [] ?_
 iterate 4 (refine yt zp ?_)
 refine yq g (o.a.Is _ _ _ _) zp λy g=>?_
 iterate 3 (refine yt zp ?_)
 cases g;exact yj
/-(*plexus.types.elaborator).operand-/
theorem aaY {n} (o:Ou n):QJ (oJ (Gu n)):=by
 intro a0 a1 a2 a3 r g;rw[oJ]at g;refine yw func226 ntmps226 ?_;refine yp g (o.a.dA _ _ _) λy g=>?_;refine aD g ?_ ?_<;>intro _ g;exact yP g (o.a.fO _ _);refine yc g (o.a.Ho _ _) λy g=>?_;refine bH g λ_ g=>?_;exact yP g (o.a.fO _ _)
/-(*plexus.types.elaborator).operator-/
set_option maxHeartbeats 0 in
theorem aaZ {n} (o:Ou n):QK (iK (Gu n)):=by
 intro a0 a1 a2 r g;rw[iK]at g;refine yw func165 ntmps165 ?_;refine yc g (o.a.iN _) λy g=>?_;refine aD g ?_ ?_<;>intro _ g;refine yo [] (tk [0,3,6,9,12,15,19,25]) [7] ?_;obtain⟨x,w,j,g⟩:=bB g;refine yu zp (yi j (af.aI w)) ?_
 iterate 2 (refine yt zp ?_)
 refine yq g (o.a.dA _ _ _) zp λy g=>?_;refine yt zp ?_;refine yc g (o.a.CB _) λy g=>?_;refine aD g ?_ ?_<;>intro _ g;refine yo [0,1,2,3,4,5,6,7,8,9] (tk [31,33,36,39,43,46]) [] ?_
 iterate 2 (refine yY g af.aI λx _ _ g=>?_)
 refine yq g (o.a.Iu _ _ _ _ _) zp λy g=>?_;cases g;exact yj
 iterate 2 (refine yo [0,1,2,3,4,5] (tk [19,22]) [] ?_;refine yY g af.aI λx _ _ g=>?_;refine yq g (o.a.dA _ _ _) zp λy g=>?_)
 cases g;exact yj;refine aD g ?_ ?_<;>intro _ g;refine yX g af.aI λx _ _ g=>?_;refine yp g (o.a.dA _ _ _) λy g=>?_;refine aD g ?_ ?_<;>intro _ g;refine yX g af.aI λx _ _ g=>?_;exact yP g (o.a.fO _ _);refine yo [] (tk [0,3,6,9,12,15,18,22,28]) [8] ?_;obtain⟨x,w,j,g⟩:=bB g;refine yu zp (yi j (af.aI w)) ?_
 iterate 3 (refine yt zp ?_)
 refine yq g (o.a.dA _ _ _) zp λy g=>?_;refine yt zp ?_;cases g;exact yj;refine aD g ?_ ?_<;>intro _ g;refine yo [] (tk [0,3,6,9,12,15,18,21,24,27,31,33,36,39,49,52]) [14,15] ?_
 iterate 2 ((iterate 2 (refine yt zp ?_));obtain⟨x,w,j,g⟩:=bB g;refine yu zp (yi j (af.aI w)) ?_;refine yt zp ?_)
 refine yq g (o.a.Iu _ _ _ _ _) zp λy g=>?_
 iterate 4 (refine yt zp ?_)
 cases g;exact yj;refine aD g ?_ ?_<;>intro _ g;refine yc g (o.a.CB _) λy g=>?_
 iterate 2 (refine aD g ?_ ?_<;>intro _ g)
 exact yP g (o.a.fO _ _);refine yp g (o.a.xU _ _ _ _ _ _) λy g=>?_;cases g;exact zl;refine yo [] (tk [0,3,6,9,12,15,18,21,24,27,31,33,36,39,49,52]) [14,15] ?_
 iterate 2 ((iterate 2 (refine yt zp ?_));obtain⟨x,w,j,g⟩:=bB g;refine yu zp (yi j (af.aI w)) ?_;refine yt zp ?_)
 refine yq g (o.a.Iu _ _ _ _ _) zp λy g=>?_
 iterate 4 (refine yt zp ?_)
 cases g;exact yj;refine aD g ?_ ?_<;>intro _ g;refine yo [] (tk [0,3,6,9,12,15,18,22,28]) [8] ?_
 iterate 2 (refine yt zp ?_)
 obtain⟨x,w,j,g⟩:=bB g;refine yu zp (yi j (af.aI w)) ?_
 iterate 2 (refine yt zp ?_)
 refine yq g (o.a.Is _ _ _ _) zp λy g=>?_;refine yt zp ?_;refine yc g (o.a.IV _ _) λy g=>?_;refine aD g ?_ ?_<;>intro _ g;exact yP g (o.a.fO _ _);refine yo [0,1,2,3,4,5,6,7,8,9,10,11] [(12,.one)] [] ?_;refine yY g ah.aI λx _ _ g=>?_;obtain⟨y,z,g⟩:=bj g (o.a.jG _);refine yl (yC z) ?_;cases g;exact yj;refine yo [] (tk [0,3,6,9,12,15,18,22,28]) [8] ?_
 iterate 2 (refine yt zp ?_)
 obtain⟨x,w,j,g⟩:=bB g;refine yu zp (yi j (af.aI w)) ?_
 iterate 2 (refine yt zp ?_)
 refine yq g (o.a.Is _ _ _ _) zp λy g=>?_;refine yt zp ?_;refine yo [] (tk [0,3,6,9,12,15,19,25]) [7] ?_;obtain⟨x,w,j,g⟩:=bB g;refine yu zp (yi j (af.aI w)) ?_;refine yt zp ?_;obtain⟨y,z,g⟩:=bj g (o.a.iN _);refine yu zp (bm.call z rfl rfl) ?_;refine yq g (o.a.dA _ _ _) zp λy g=>?_;refine yt zp ?_;refine yo [0,1,2,3,4,5,6,7,8,9,10] [(11,.one)] [] ?_;refine yY g ah.aI λx _ _ g=>?_;obtain⟨y,z,g⟩:=bj g (o.a.jG _);refine yl (yC z) ?_;cases g;exact yj
/-(*plexus.types.elaborator).together-/
theorem aa0 {n} (o:Ou n):QL (sj (Gu n)):=by
 intro a0 a1 a2 a3 a4 r g;rw[sj]at g;refine yw func225 ntmps225 ?_;refine yo [] (tk [0,3,13,16,18]) [2,3] ?_
 iterate 3 (refine yt zp ?_)
 iterate 2 (refine yc g (o.a.Cz _) λy g=>?_;refine aD g ?_ ?_<;>intro _ g)
 exact yP g (o.a.fO _ _);refine yo [] (tk [0,3,7,10,12]) [] ?_
 iterate 3 (refine yt zp ?_)
 iterate 2 (refine yp g (o.a.dA _ _ _) λy g=>?_;(iterate 2 (refine aD g ?_ ?_<;>intro _ g));exact yP g (o.a.fO _ _);(iterate 2 (refine yp g (o.a.dA _ _ _) λy g=>?_;refine yo [] (tk [0,3,7,10]) [] ?_;(iterate 3 (refine yt zp ?_));cases g;exact zl)))
theorem w34 {n} (o:Ou n):R8 (vD (Gu n)):=by
 intro a0 a1 a2 a3 r g;rw[vD]at g;refine yw func34 ntmps34 ?_;refine yk<|az.ct (rs:=_) K0 rfl rfl func77 rfl zk rfl ntmps77 rfl rfl (yz ?_)
 refine yk<|az.cH (t:=8) rfl rfl aW (yz ?_)
 rcases VD g with⟨c3,c4,z,g⟩|⟨y,z,g⟩
 replace z:=(o.a.dA _ _ _ _ z);refine yk<|az.VE z rfl rfl aW (b7.refl _) (.inr rfl) rfl (yz ?_)
 refine zs g ?_ ?_<;>(clear g;intro k g);refine yo [] (tk [0,3,7,10]) [] ?_
 iterate 2 (refine yt zp ?_)
 cases g;exact yj;refine yo [] (tk [0,3,7,10]) [] ?_
 iterate 3 (refine yt zp ?_)
 cases g;exact yj;replace z:=(o.a.dA _ _ _ _ z);refine yv (yC z) ?_;refine yo [] (tk [0,3,7,10]) [] ?_
 iterate 3 (refine yt zp ?_)
 cases g;exact zl
theorem w36 {n} (o:Ou n):R9 (zK (Gu n)):=by
 intro a0 a1 r g;rw[zK]at g;refine yw func36 ntmps36 ?_
 iterate 4 (refine bH g λ_ g=>?_)
 refine yc g (o.a.IW _ _) λy g=>?_;refine bH g λ_ g=>?_;refine yc g (o.a.XQ _ _) λy g=>?_;cases g;exact zl
theorem XO {n} (o:Ou n):Oe (xf (Gu n)):=by
 intro a0 a1 r g;rw[xf]at g;refine yw func82 ntmps82 ?_;refine aQ g λ_ g=>?_;refine yk<|yL (S:=Int) (G:=λm s=>sX (Gu m) a0 a1 s) (s0:=0) 0 [1,2,6,15,16] [17] (λs=>[(17,.d (.v (.int .i64 s)))]) (λs=>[]) g ?_;rintro n s2 _ g;change sY (Gu n) a0 a1 s2=_ at g;rw[sY]at g;refine yz ?_
 refine bH g λ_ g=>?_
 iterate 2 (refine yX g ab.aI λx _ _ g=>?_)
 refine yc g (o.a.SD _ _) λy g=>?_;refine aQ g λ_ g=>?_;exact yk (yN _ n ⟨by omega,g⟩)
theorem w12 {n} (o:Ou n):Sa (vE (Gu n)):=by
 intro a0 a1 r g;rw[vE]at g;refine yw func12 ntmps12 ?_;refine yc g (o.a.c31 _) λy g=>?_;refine aQ g λ_ g=>?_;refine yc g (o.a.c32 _) λy g=>?_;refine aQ g λ_ g=>?_;refine yc g (o.a.R1 _ _) λy g=>?_;refine aQ g λ_ g=>?_;refine yo [] (tk [0,3,6,9,12,15,18,21,24,27,30,40,43]) [11,12] ?_
 iterate 4 (refine yt zp ?_)
 obtain⟨y,z,g⟩:=bj g (o.a.c35 _ _);refine yu zp (bm.call z rfl rfl) ?_;refine yt zp ?_;obtain⟨y,z,g⟩:=bj g (o.a.c34 _ _ _ _);refine yu zp (bm.call z rfl rfl) ?_
 iterate 4 (refine yt zp ?_)
 refine bH g λ_ g=>?_;refine yc g (o.a.SD _ _) λy g=>?_;cases g;exact zl
theorem w25 {n} (o:Ou n):Sb (Dm (Gu n)):=by
 intro a0 r g;rw[Dm]at g;refine yw func25 ntmps25 ?_;refine Ok.stuck aW<|az.uA 3 rfl ?_ ?_
 intro cap k;replace g:(some ([]))=some r:=(by have l:a0=[]:=J5.1 (by have k:=congrArg List.length k;simpa only[TParam.aB,o9]using k);subst l;simpa using g);refine yz ?_;refine yv (bm.toP (bm.p0 (et:=63) rfl zk rfl rfl)) ?_;cases g;exact yj;intro ad n0 cap;refine yz ?_;refine yv (bm.toP (bm.p0 (et:=63) rfl zk rfl rfl)) ?_;obtain⟨k,g⟩:=cD g;refine yk<|DO.Cr (rows2:=(TParam.rows a0)) rfl rfl zg rfl (bX.refl _) rfl rfl (TParam.de _) rfl rfl rfl (zo k) (yz ?_)
 cases g;exact zl
theorem w50 {n} (o:Ou n):Sc (zN (Gu n)):=by
 intro a0 a1 r g;rw[zN]at g;refine yw func50 ntmps50 ?_;refine bH g λ_ g=>?_;refine yc g (o.a.IW _ _) λy g=>?_
 iterate 3 (refine bH g λ_ g=>?_)
 refine yc g (o.a.XR _ _) λy g=>?_;cases g;exact zl
theorem XP {n} (o:Ou n):Og (xg (Gu n)):=by
 intro a0 a1 r g;rw[xg]at g;refine yw func82 ntmps82 ?_;refine aQ g λ_ g=>?_;refine yk<|yL (S:=Int) (G:=λm s=>sZ (Gu m) a0 a1 s) (s0:=0) 0 [1,2,6,15,16] [17] (λs=>[(17,.d (.v (.int .i64 s)))]) (λs=>[]) g ?_;rintro n s2 _ g;change s6 (Gu n) a0 a1 s2=_ at g;rw[s6]at g;refine yz ?_
 refine bH g λ_ g=>?_
 iterate 2 (refine yX g ab.aI λx _ _ g=>?_)
 refine yc g (o.a.SE _ _) λy g=>?_;refine aQ g λ_ g=>?_;exact yk (yN _ n ⟨by omega,g⟩)
theorem w51 {n} (o:Ou n):Sd (zO (Gu n)):=by
 intro a0 r g;rw[zO]at g;refine yw func51 ntmps51 ?_;cases g;exact yj
theorem w53 {n} (o:Ou n):Se (zQ (Gu n)):=by
 intro a0 r g;rw[zQ]at g;refine yw func53 ntmps53 ?_;cases g;exact zl
theorem w27 {n} (o:Ou n):Sf (oV (Gu n)):=by
 intro a0 a1 r g;rw[oV]at g;refine yw func27 ntmps27 ?_;refine yc g (o.a.SE _ _) λy g=>?_;refine aD g ?_ ?_<;>intro _ g;refine yc g (o.a.C5 _) λy g=>?_;cases g;exact zl;refine aD g ?_ ?_<;>intro _ g;refine yo [0,1,2,3,4,5,6,7,8,9,10,11,12,13] (tk [43,46]) [] ?_
 iterate 2 (refine yY g ab.aI λx _ _ g=>?_;obtain⟨y,z,g⟩:=bj g (o.a.zD _ _);refine yl (yC z) ?_)
 iterate 2 (refine yc g (o.a.C6 _) λy g=>?_;refine aQ g λ_ g=>?_)
 refine yk<|az.inl (rs:=_) rfl func52 rfl zk rfl ntmps52 rfl rfl (yz ?_)
 cases g;exact yj;refine aD g ?_ ?_<;>intro _ g;refine yo [0,1,2,3,4,5,6,7,8,9,10,11,12,13] (tk [43,46]) [] ?_
 iterate 2 (refine yY g ab.aI λx _ _ g=>?_;obtain⟨y,z,g⟩:=bj g (o.a.zD _ _);refine yl (yC z) ?_)
 iterate 2 (refine yc g (o.a.C6 _) λy g=>?_;refine aD g ?_ ?_<;>intro _ g)
 refine yc g (o.a.C5 _) λy g=>?_;cases g;exact zl
 iterate 2 (refine yo [0,1,2,3,4,5,6,7] (tk [25,28]) [] ?_;refine yY g ab.aI λx _ _ g=>?_;refine yk<|az.fV (rs:=_) rfl (λ_=>aF.nil) rfl rfl rfl rfl func52 rfl zk rfl ntmps52 rfl rfl (yz ?_);cases g;exact yj)
 refine aD g ?_ ?_<;>intro _ g;refine Ok.stuck aW ?_;refine az.qO 10 32 12 3 rfl rfl ?_;refine yL (S:=(List ab)×Bool×Int) (G:=λm s=>pQ (Gu m) a0 a1 s.1 s.2.1 s.2.2) (s0:=([],true,0)) 4 [2,3,4,5,86,87] [10,11,88] (λs=>[(10,.os 3 (ab.rows s.1).length),(11,.d (.v (.bool s.2.1))),(88,.d (.v (.int .i64 s.2.2)))]) (λs=>[(3,.row 32 12 (ab.rows s.1))]) g ?_;rintro n ⟨s32,s33,s34⟩ _ g;change tX (Gu n) a0 a1 s32 s33 s34=_ at g;rw[tX]at g;refine yz ?_;refine aD g ?_ ?_<;>intro _ g;refine yX g ab.aI λx _ _ g=>?_;refine yo [0,1,2,3,4,5,6,7,8,9,10,11,12,13,14] [(15,.one)] [] ?_;refine yY g ah.aI λx _ _ g=>?_;obtain⟨y,z,g⟩:=bj g (o.a.zD _ _);refine yl (yC z) ?_;refine aD g ?_ ?_<;>intro _ g;refine yc g (o.a.C6 _) λv g=>?_
 iterate 2 (refine yk<|az.wU 6 (rows':=ab.rows ([y])) rfl zi (yz ?_);obtain⟨k,g⟩:=cD g;refine yk<|DO.re rfl rfl zg rfl rfl zg rfl rfl (ab.de _) rfl rfl rfl (zo k) (yz ?_);exact yk (yN (_,_,_) n ⟨by omega,g⟩))
 refine aD g ?_ ?_<;>intro _ g;refine yc g (o.a.C5 _) λy g=>?_;cases g;exact zl;refine yk<|az.inl (rs:=_) rfl func52 rfl zk rfl ntmps52 rfl rfl (yz ?_)
 cases g;exact zl;refine bH g λ_ g=>?_;refine Ok.stuck aW ?_;refine az.qO 15 32 12 3 rfl rfl ?_;refine yL (S:=(List ab)×Int) (G:=λm s=>nA (Gu m) a0 a1 s.1 s.2) (s0:=([],0)) 4 [2,3,4,5] [15,16] (λs=>[(15,.os 3 (ab.rows s.1).length),(16,.d (.v (.int .i64 s.2)))]) (λs=>[(3,.row 32 12 (ab.rows s.1))]) g ?_;rintro n ⟨s48,s49⟩ _ g;change tY (Gu n) a0 a1 s48 s49=_ at g;rw[tY]at g;refine yz ?_;refine aD g ?_ ?_<;>intro _ g;refine yo [0,1,2,3,4,5,6,7,8,9,10,11,12,13,14,15] [(16,.one)] [] ?_;refine yY g ah.aI λx _ _ g=>?_;refine yY g ab.aI λx _ _ g=>?_;refine yo [0,1,2,3,4,5,6,7,8] [(9,.one)] [] ?_;refine yY g ab.aI λx _ _ g=>?_;obtain⟨y,z,g⟩:=bj g (o.a.zD _ _);refine yl (yC z) ?_;refine yc g (o.a.C6 _) λv g=>?_;refine aD g ?_ ?_<;>intro _ g;refine yo [0,1,2,3,4,5,6,7] (tk [25,27]) [] ?_;refine yY g ab.aI λx _ _ g=>?_;obtain⟨k,g⟩:=cD g;refine yk<|az.eJ (rows2:=(ab.rows ([x,y]))) aF.nil rfl rfl rfl rfl rfl zg rfl zi rfl rfl (ab.de _) rfl rfl (zo k) (yz ?_)
 iterate 2 (exact yk (yN (_,_) n ⟨by omega,g⟩))
 refine aD g ?_ ?_<;>intro _ g;refine yc g (o.a.C5 _) λy g=>?_;cases g;exact zl;refine yk<|az.inl (rs:=_) rfl func52 rfl zk rfl ntmps52 rfl rfl (yz ?_)
 cases g;exact zl
theorem w26 {n} (o:Ou n):Si (vz (Gu n)):=by
 intro a0 r g;rw[vz]at g;refine yw func26 ntmps26 ?_;refine Ok.stuck aW ?_;refine az.jN 0 11 32 12 2 rfl rfl rfl ?_;refine yL (S:=Int×(List ab)) (G:=λm s=>rj (Gu m) a0 s.1 s.2) (s0:=(0,[])) 3 [1,2,9,10] [11] (λs=>[(11,.d (.v (.int .i64 s.1)))]) (λs=>[(2,.row 32 12 (ab.rows s.2)),(0,.box [.d (.v (.int .i64 a0.Op)),.d (.v (.int .i64 a0.aj.aK)),.d (.v (.int .i64 a0.aj.ai.Kind)),.d (.v (.int .i64 a0.aj.ai.Lo)),.d (.v (.int .i64 a0.aj.ai.Hi)),.d (.sl 1 (aT a0.aj.ai.Names)),.d (.sl 6 (ah.rows a0.aj.ai.aw)),.d (.sl 2 (aP.rows a0.aj.ai.aX)),.d (.v (.int .i64 a0.N)),.d (.v (.string ⟨⟨(a0.Text)⟩⟩)),.d (.v (.int .i64 a0.At)),.os 2 (ab.rows s.2).length])]) g ?_;rintro n ⟨s1,s13⟩ _ g;change tZ (Gu n) a0 s1 s13=_ at g;rw[tZ]at g;refine yz ?_;refine bH g λ_ g=>?_;refine yX g ab.aI λx _ _ g=>?_;refine yo [0,1,2,3,4] (tk [16,18,22]) [] ?_;obtain⟨y,z,g⟩:=bj g (o.a.SF _);refine yl (yC z) ?_;obtain⟨k,g⟩:=cD g;refine yk<|az.eJ (rows2:=(ab.rows ([y]))) aF.nil rfl rfl rfl rfl rfl zg rfl zi rfl rfl (ab.de _) rfl rfl (zo k) (yz ?_)
 exact yk (yN (_,_) n ⟨by omega,g⟩)
theorem w9 {n} (o:Ou n):C9 (B9 (Gu n)):=by
 intro a0 a1 r g;rw[B9]at g;refine yw func9 ntmps9 ?_;refine yc g (o.a.Rt _ _) λy g=>?_
 iterate 2 (refine aQ g λ_ g=>?_)
 refine yc g (o.a.c25 _) λy g=>?_;refine yc g (o.a.zD _ _) λy g=>?_;refine yc g (o.a.SF _) λy g=>?_;cases g;exact zl
theorem aa1 {n} (o:Ou n):QM (u6 (Gu n)):=by
 intro a0 r g;rw[u6]at g;refine yw func213 ntmps213 ?_;refine aD g (λk g=>?_) λk g=>?_;refine yT k ?_;refine aQ g λ_ g=>?_;refine yF k ?_;refine Ok.mg k ?_;conv=>(arg 3;whnf)
 exact fQ g;refine aD g (λl g=>?_) λl g=>?_
 iterate 2 (refine aQ g λ_ g=>?_)
 refine aD g (λh2 g=>?_) λh2 g=>?_;refine aQ g λ_ g=>?_;refine aD g ?_ ?_<;>intro _ g;exact fQ g;refine Ok.lz k ?_;conv=>(arg 3;whnf)
 refine Ok.lz (Gz l) ?_;conv=>(arg 3;whnf)
 refine aD g ?_ ?_<;>intro _ g;exact fQ g
 iterate 3 (refine aQ g λ_ g=>?_)
 iterate 2 (refine aD g ?_ ?_<;>intro _ g;exact fQ g)
 refine Ok.lz (Gz h2) ?_;conv=>(arg 3;whnf)
 cases g;exact zl;refine yF (uz h2) ?_;refine Ok.lz k ?_;conv=>(arg 3;whnf)
 refine Ok.lz (Gz l) ?_;conv=>(arg 3;whnf)
 iterate 6 (refine yF (uz h2) ?_)
 refine Ok.mg (uz h2) ?_;conv=>(arg 3;whnf)
 exact fQ g;refine yT (uz l) ?_;refine aQ g λ_ g=>?_;refine yF (uz l) ?_;refine Ok.lz k ?_;conv=>(arg 3;whnf)
 refine Ok.mg (uz l) ?_;conv=>(arg 3;whnf)
 exact fQ g
theorem aa2 {n} (o:Ou n):QN (yE (Gu n)):=by
 intro a0 r g;rw[yE]at g;refine yw func253 ntmps253 ?_
 iterate 2 (refine aQ g λ_ g=>?_)
 iterate 2 (obtain⟨x,w,j,g⟩:=bB g;refine yv (bm.toP (bm.ou ((0:Int).toNat) rfl rfl rfl rfl j w)) ?_;refine aQ g λ_ g=>?_)
 refine yk<|yL (S:=Int) (G:=λm s=>mc (Gu m) a0 s) (s0:=0) 0 [0,2] [3] (λs=>[(3,.d (.v (.int .i64 s)))]) (λs=>[]) g ?_;rintro n s9 _ g;change tD (Gu n) a0 s9=_ at g;rw[tD]at g;refine yz ?_
 refine bH g λ_ g=>?_
 iterate 2 ((iterate 2 (obtain⟨x,w,j,g⟩:=bB g;refine yv (bm.toP (bm.ou ((s9:Int).toNat) rfl rfl rfl rfl j w)) ?_;refine aD g ?_ ?_<;>intro _ g));obtain⟨x,w,j,g⟩:=bB g;refine yv (bm.toP (bm.ou ((s9:Int).toNat) rfl rfl rfl rfl j w)) ?_;refine aQ g λ_ g=>?_;exact yk (yN _ n ⟨by omega,g⟩);obtain⟨x,w,j,g⟩:=bB g;refine yv (bm.toP (bm.ou ((s9:Int).toNat) rfl rfl rfl rfl j w)) ?_;refine aD g ?_ ?_<;>intro _ g;obtain⟨x,w,j,g⟩:=bB g;refine yv (bm.toP (bm.ou ((s9:Int).toNat) rfl rfl rfl rfl j w)) ?_;refine aQ g λ_ g=>?_;(iterate 2 (exact yk (yN _ n ⟨by omega,g⟩))))
 exact yk (yN _ n ⟨by omega,g⟩)
theorem aa3 {n} (o:Ou n):QO (u4 (Gu n)):=by
 intro a0 a1 r g;rw[u4]at g;refine yw func254 ntmps254 ?_;refine yk<|yL (S:=Int) (G:=λm s=>qR (Gu m) a0 a1 s) (s0:=0) 0 [0,1,4] [5] (λs=>[(5,.d (.v (.int .i64 s)))]) (λs=>[]) g ?_;rintro n s1 _ g;change tE (Gu n) a0 a1 s1=_ at g;rw[tE]at g;refine yz ?_
 refine bH g λ_ g=>?_;refine yX g gB λx _ _ g=>?_;refine aQ g λ_ g=>?_;exact yk (yN _ n ⟨by omega,g⟩)
theorem aa4 {n} (o:Ou n):QP (sf (Gu n)):=by
 intro a0 r g;rw[sf]at g;refine yw func255 ntmps255 ?_;refine yk<|yL (S:=Int) (G:=λm s=>me (Gu m) a0 s) (s0:=0) 0 [0,2] [3] (λs=>[(3,.d (.v (.int .i64 s)))]) (λs=>[]) g ?_;rintro n s1 _ g;change pA (Gu n) a0 s1=_ at g;rw[pA]at g;refine yz ?_
 refine bH g λ_ g=>?_;refine yo [0,1,2,3,4,5,6,7,8,9,10,11,12,13,14,15,16,17,18,19,20,21] [] [] ?_;refine yY g gB λx _ _ g=>?_;obtain⟨y,z,g⟩:=bj g (o.a.Ra _);refine yl (yC z) ?_;refine aQ g λ_ g=>?_;refine aD g ?_ ?_<;>intro _ g
 iterate 2 (refine yY g gB λx _ _ g=>?_)
 refine aQ g λ_ g=>?_
 iterate 2 (exact yk (yN _ n ⟨by omega,g⟩))
theorem aa5 {n} (o:Ou n):QQ (u7 (Gu n)):=by
 intro a0 r g;rw[u7]at g;refine yw func214 ntmps214 ?_;refine aD g ?_ ?_<;>intro _ g;refine yk<|yL (S:=Int) (G:=λm s=>ng (Gu m) a0 s) (s0:=0) 1 [1,2] [3] (λs=>[(3,.d (.v (.int .i64 s)))]) (λs=>[]) g ?_;rintro n s2 _ g;change pB (Gu n) a0 s2=_ at g;rw[pB]at g;refine yz ?_
 refine bH g λ_ g=>?_;refine yo [0,1,2,3,4,5,6,7,8,9,10,11,12,13,14,15,16,17,18] [] [] ?_;refine yY g gB λx _ _ g=>?_;obtain⟨y,z,g⟩:=bj g (o.a.Ra _);refine yl (yC z) ?_;refine aQ g λ_ g=>?_;obtain⟨x,w,g⟩:=iC g;refine yl (yQ Lv w) ?_;refine yY g gB λx _ _ g=>?_;obtain⟨y,z,g⟩:=bj g (o.a.Iw _ _);refine yl (yC z) ?_;refine aQ g λ_ g=>?_;exact yk (yN _ n ⟨by omega,g⟩);refine yc g (o.a.Rb _) λy g=>?_;refine aQ g λ_ g=>?_;refine yk<|yL (S:=Bool×Int) (G:=λm s=>ni (Gu m) a0 y s.1 s.2) (s0:=(false,0)) 1 [1] [2,4] (λs=>[(2,.d (.v (.bool s.1))),(4,.d (.v (.int .i64 s.2)))]) (λs=>[]) g ?_;rintro n ⟨s16,s17⟩ _ g;change pD (Gu n) a0 y s16 s17=_ at g;rw[pD]at g;refine yz ?_
 refine bH g λ_ g=>?_;refine yX g aP.aI λx _ _ g=>?_;refine aQ g λ_ g=>?_;refine yc g (o.a.Rb _) λv g=>?_;refine aQ g λ_ g=>?_;refine yc g (o.a.Iw _ _) λy2 g=>?_;refine aQ g λ_ g=>?_;refine yk<|yL (S:=Bool×Int) (G:=λm s=>nh (Gu m) a0 y s16 s17 x v y2 s.1 s.2) (s0:=(s16,0)) 2 [1,4,5] [2,6] (λs=>[(2,.d (.v (.bool s.1))),(6,.d (.v (.int .i64 s.2)))]) (λs=>[]) g ?_;rintro n ⟨s26,s27⟩ _ g;change pC (Gu n) a0 y s16 s17 x v y2 s26 s27=_ at g;rw[pC]at g;refine yz ?_
 refine aD g ?_ ?_<;>intro _ g;refine yo [0,1,2,3,4,5,6,7,8] [] [] ?_;refine yY g gB λx _ _ g=>?_;obtain⟨y,z,g⟩:=bj g (o.a.Iw _ _);refine yl (yC z) ?_;refine aQ g λ_ g=>?_
 iterate 2 (exact yk (yN (_,_) n ⟨by omega,g⟩))
theorem aa6 {n} (o:Ou n):QR (sk (Gu n)):=by
 intro a0 r g;rw[sk]at g;refine yw func215 ntmps215 ?_
 iterate 3 (refine aQ g λ_ g=>?_)
 iterate 2 (refine bH g λ_ g=>?_)
 refine yX g ah.aI λx _ _ g=>?_;refine yc g (o.a.Iy _) λy g=>?_;refine bH g λ_ g=>?_;refine yX g ah.aI λx _ _ g=>?_;refine yc g (o.a.Iy _) λy g=>?_;cases g;exact zl
theorem aa7 {n} (o:Ou n):QS (va (Gu n)):=by
 intro a0 a1 a2 r g;rw[va]at g;refine yw func155 ntmps155 ?_;refine aD g (λk g=>?_) λ_ g=>?_;refine yF k ?_
 iterate 2 (refine aQ g λ_ g=>?_)
 refine yc g (o.a.Iv _) λy g=>?_
 iterate 3 (refine aQ g λ_ g=>?_)
 refine yc g (o.a.Ix _) λy g=>?_
 iterate 4 (refine aQ g λ_ g=>?_)
 refine yF k ?_;cases g;exact zl;refine aD g (λk g=>?_) λ_ g=>?_
 iterate 2 (refine aQ g λ_ g=>?_)
 refine yc g (o.a.Iv _) λy g=>?_
 iterate 3 (refine aQ g λ_ g=>?_)
 refine yc g (o.a.Ix _) λy g=>?_
 iterate 4 (refine aQ g λ_ g=>?_)
 refine yF k ?_;cases g;exact zl
 iterate 2 (refine aQ g λ_ g=>?_)
 refine yc g (o.a.Iv _) λy g=>?_
 iterate 3 (refine aQ g λ_ g=>?_)
 refine yc g (o.a.Ix _) λy g=>?_
 iterate 4 (refine aQ g λ_ g=>?_)
 refine bH g λ_ g=>?_;refine yX g ah.aI λx _ _ g=>?_;refine yc g (o.a.Iy _) λy g=>?_;exact fQ g
theorem aa8 {n} (o:Ou n):QT (vb (Gu n)):=by
 intro a0 a1 a2 r g;rw[vb]at g;refine yw func101 ntmps101 ?_;refine yc g (o.a.abD _ _ _) λy g=>?_;refine aQ g λ_ g=>?_;refine yk<|yL (S:=Int×Int) (G:=λm s=>nj (Gu m) a0 a1 s.1 s.2) (s0:=(IntKind.i64.wrap (a2+1),0)) 1 [1,3,6,7] [9,10] (λs=>[(9,.d (.v (.int .i64 s.1))),(10,.d (.v (.int .i64 s.2)))]) (λs=>[]) g ?_;rintro n ⟨s3,s4⟩ _ g;change pE (Gu n) a0 a1 s3 s4=_ at g;rw[pE]at g;refine yz ?_
 refine bH g λ_ g=>?_;refine yX g ah.aI λx _ _ g=>?_;refine yc g (o.a.Rc _ _ _) λy g=>?_;refine aQ g λ_ g=>?_;exact yk (yN (_,_) n ⟨by omega,g⟩)
theorem w54 {n} (o:Ou n):Sj (vF (Gu n)):=by
 intro a0 r g;rw[vF]at g;refine yw func54 ntmps54 ?_;refine yc g (o.a.Rc _ _ _) λy g=>?_;cases g;exact zl
theorem aa9 {n} (o:Ou n):QU (yG (Gu n)):=by
 intro a0 r g;rw[yG]at g;refine yw func102 ntmps102 ?_;refine aD g ?_ ?_<;>intro _ g;refine aQ g λ_ g=>?_
 iterate 2 (refine bH g λ_ g=>?_;exact fQ g)
theorem w55 {n} (o:Ou n):Sk (zU (Gu n)):=by
 intro a0 r g;rw[zU]at g;refine yw func55 ntmps55 ?_
 iterate 2 (refine aQ g λ_ g=>?_)
 iterate 2 (obtain⟨x,w,j,g⟩:=bB g;refine yv (bm.toP (bm.ou ((0:Int).toNat) rfl rfl rfl rfl j w)) ?_;refine aQ g λ_ g=>?_)
 refine yk<|yL (S:=Int) (G:=λm s=>xh (Gu m) a0 s) (s0:=0) 0 [0,2] [3] (λs=>[(3,.d (.v (.int .i64 s)))]) (λs=>[]) g ?_;rintro n s9 _ g;change ua (Gu n) a0 s9=_ at g;rw[ua]at g;refine yz ?_
 refine bH g λ_ g=>?_;obtain⟨x,w,j,g⟩:=bB g;refine yv (bm.toP (bm.ou ((s9:Int).toNat) rfl rfl rfl rfl j w)) ?_;refine yc g (o.a.abE _) λy g=>?_;refine aQ g λ_ g=>?_;exact yk (yN _ n ⟨by omega,g⟩)
theorem w56 {n} (o:Ou n):Sm (vA (Gu n)):=by
 intro a0 a1 r g;rw[vA]at g;refine yw func56 ntmps56 ?_;refine yk<|yL (S:=Int) (G:=λm s=>xi (Gu m) a0 a1 s) (s0:=0) 0 [0,1,4] [5] (λs=>[(5,.d (.v (.int .i64 s)))]) (λs=>[]) g ?_;rintro n s1 _ g;change ub (Gu n) a0 a1 s1=_ at g;rw[ub]at g;refine yz ?_
 refine bH g λ_ g=>?_;refine yX g gB λx _ _ g=>?_;refine aQ g λ_ g=>?_;exact yk (yN _ n ⟨by omega,g⟩)
theorem w57 {n} (o:Ou n):Sn (Dn (Gu n)):=by
 intro a0 r g;rw[Dn]at g;refine yw func57 ntmps57 ?_;cases g;exact yj
theorem w58 {n} (o:Ou n):Sp (Dp (Gu n)):=by
 intro a0 r g;rw[Dp]at g;refine yw func58 ntmps58 ?_;cases g;exact zl
theorem aa' {n} (o:Ou n):QV (oK (Gu n)):=by
 intro a0 r g;rw[oK]at g;refine yw func103 ntmps103 ?_
 iterate 10 (refine aQ g λ_ g=>?_)
 exact fQ g
theorem aba {n} (o:Ou n):QW (qc (Gu n)):=by
 intro a0 r g;rw[qc]at g;refine yw func104 ntmps104 ?_
 iterate 16 (refine aQ g λ_ g=>?_)
 exact fQ g
theorem w59 {n} (o:Ou n):Sq (qt (Gu n)):=by
 intro a0 a1 r g;rw[qt]at g;refine yw func59 ntmps59 ?_;refine Ok.stuck aW ?_;refine az.jN 2 4 71 5 3 rfl rfl rfl ?_;refine yL (S:=Bool×Int×(List af)) (G:=λm s=>iT (Gu m) a0 a1 s.1 s.2.1 s.2.2) (s0:=(false,0,[])) 4 [0,3,4,6] [5,7] (λs=>[(5,.d (.v (.bool s.1))),(7,.d (.v (.int .i64 s.2.1)))]) (λs=>[(3,.row 71 5 (af.rows s.2.2)),(2,.box [.d (.v (.int .i64 0)),.d (.v (.string ⟨⟨([])⟩⟩)),.d (.v (.int .i64 0)),.d (.v (.int .i64 a1.At)),.os 3 (af.rows s.2.2).length])]) g ?_;rintro n ⟨s1,s2,s7⟩ _ g;change rk (Gu n) a0 a1 s1 s2 s7=_ at g;rw[rk]at g;refine yz ?_;refine aD g ?_ ?_<;>intro _ g;refine yX g ab.aI λx _ _ g=>?_;refine yc g (o.a.SG _ _) λy g=>?_;refine aQ g λ_ g=>?_;refine yk<|az.wU 5 (rows':=af.rows ([y.fst])) rfl zi (yz ?_)
 obtain⟨k,g⟩:=cD g;refine yk<|DO.re rfl rfl zg rfl rfl zg rfl rfl (af.de _) rfl rfl rfl (zo k) (yz ?_)
 exact yk (yN (_,_,_) n ⟨by omega,g⟩);refine yc g (o.a.abF _) λy g=>?_;refine aQ g λ_ g=>?_;refine yc g (o.a.abG _) λy g=>?_
 iterate 2 (refine aD g ?_ ?_<;>intro _ g)
 refine Ok.stuck aW ?_;refine az.jN 2 4 71 5 4 rfl rfl rfl ?_;refine yL (S:=Int×(List af)) (G:=λm s=>mi (Gu m) a1 s7 y s.1 s.2) (s0:=(0,[])) 5 [0,3,4,5,6,7,10,13] [14] (λs=>[(14,.d (.v (.int .i64 s.1)))]) (λs=>[(4,.row 71 5 (af.rows s.2)),(2,.box [.d (.v (.int .i64 51)),.d (.v (.string ⟨⟨(y)⟩⟩)),.d (.v (.int .i64 0)),.d (.v (.int .i64 a1.At)),.os 4 (af.rows s.2).length])]) g ?_;rintro n ⟨s19,s24⟩ _ g;change pR (Gu n) a1 s7 y s19 s24=_ at g;rw[pR]at g;refine yz ?_;refine bH g λ_ g=>?_;refine yo [0,1,2,3,4,5,6,7,8,9,10,11,12,13,14,15,16,17,18] (tk [58,60,64]) [] ?_;obtain⟨x,w,j,g⟩:=bB g;refine yl (yr j w) ?_;refine yl (ym s19.toNat 3 (af.aI w)) ?_;obtain⟨t,w,j,g⟩:=bB g;refine yl (yr j w) ?_;refine yl (ym s19.toNat 0 (af.aI w)) ?_;obtain⟨x2,w,j,g⟩:=bB g;refine yl (yr j w) ?_;refine yl (ym ((IntKind.i64.wrap (s19+1)).toNat) 0 (af.aI w)) ?_;obtain⟨k,g⟩:=cD g;refine yk<|az.eJ (rows2:=(af.rows ([{Kind:=52,Text:=[],N:=0,At:=x.At,Kids:=[t,x2]:af}]))) aF.nil rfl rfl rfl rfl rfl zg rfl zi rfl rfl (af.de _) rfl rfl (zo k) (yz ?_)
 exact yk (yN (_,_) n ⟨by omega,g⟩);refine bH g λ_ g=>?_;refine aQ g λ_ g=>?_;refine yk<|yL (S:=(List af)×Int) (G:=λm s=>jR (Gu m) a1 s7 y s.1 s.2) (s0:=(s7,0)) 4 [0,3,4,5,6,7,10,15] [13,16] (λs=>[(13,.os 3 (af.rows s.1).length),(16,.d (.v (.int .i64 s.2)))]) (λs=>[(3,.row 71 5 (af.rows s.1)),(2,.box [.d (.v (.int .i64 51)),.d (.v (.string ⟨⟨(y)⟩⟩)),.d (.v (.int .i64 0)),.d (.v (.int .i64 a1.At)),.os 3 (af.rows s.1).length])]) g ?_;rintro n ⟨s35,s36⟩ _ g;change pS (Gu n) a1 s7 y s35 s36=_ at g;rw[pS]at g;refine yz ?_
 refine bH g λ_ g=>?_;refine yo [0,1,2,3,4,5,6,7,8,9,10,11,12,13,14,15] [(16,.one)] [] ?_;refine yY g gB λx _ _ g=>?_;obtain⟨x,w,j,g⟩:=bB g;refine yl (yr j w) ?_;refine yl (ym s36.toNat 0 (af.aI w)) ?_;obtain⟨x,w,j,g⟩:=bB g;refine yl (yr j w) ?_;refine yk<|az.qA s36.toNat 0 aF.nil (by rfl) (by rfl) (by rfl) (by rfl) (by rfl) (by rfl) (by rfl) (by rfl) zg (by rfl) (yg (af.aI w)) (by rfl) (by rfl) (by rfl) (by rfl) (yz ?_)
 exact yk (yN (_,_) n ⟨by omega,g⟩);refine aD g ?_ ?_<;>intro _ g;refine yo [] (tk [0,3,6,10,12,16]) [] ?_
 iterate 4 (refine yt zp ?_)
 refine yo [] (tk [0,3,6,9,12,15,18,21,24,27,30,33,36,40,42]) [] ?_
 iterate 2 ((iterate 3 (refine yt zp ?_));refine aD g ?_ ?_<;>intro _ g;(iterate 2 (refine yt zp ?_)))
 iterate 2 ((iterate 5 (refine yt zp ?_));cases g;exact zl;(iterate 2 (refine yt zp ?_)))
 iterate 8 (refine yt zp ?_)
 cases g;exact zl;refine aD g ?_ ?_<;>intro _ g;exact fQ g;refine aD g ?_ ?_<;>intro _ g;refine yo [] (tk [0,3,6,10,12,16]) [] ?_
 iterate 4 (refine yt zp ?_)
 refine yo [] (tk [0,3,6,9,12,15,18,21,25,27]) [] ?_
 iterate 3 (refine yt zp ?_)
 refine aD g ?_ ?_<;>intro _ g
 iterate 2 (refine yt zp ?_)
 obtain⟨y,z,g⟩:=bj g (o.a.JJ _);refine yu zp (bm.call z rfl rfl) ?_
 iterate 4 (refine yt zp ?_)
 cases g;exact zl
 iterate 5 (refine yt zp ?_)
 cases g;exact zl;refine aD g ?_ ?_<;>intro _ g
 iterate 2 (refine aQ g λ_ g=>?_)
 refine yo [] (tk [0,3,6,9,12,15,18,22,24,28]) [] ?_;obtain⟨x,w,j,g⟩:=bB g;refine yu zp (yi j (TParam.aI w)) ?_
 iterate 6 (refine yt zp ?_)
 cases g;exact zl
 iterate 4 (refine aQ g λ_ g=>?_)
 refine bH g λ_ g=>?_;refine yo [0,1,2,3,4,5,6,7,8,9,10,11,12,13,14,15,16,17,18,19] [] [] ?_
 iterate 2 (refine aQ g λ_ g=>?_)
 refine yY g ab.aI λx _ _ g=>?_;refine aQ g λ_ g=>?_;refine yo [] (tk [0,3,6,9,12,15,18,21,24,27,30,33,37,39,43]) [] ?_;obtain⟨x,w,j,g⟩:=bB g;refine yu zp (yi j (ab.aI w)) ?_
 iterate 6 (refine yt zp ?_)
 obtain⟨x,w,j,g⟩:=bB g;refine yu zp (yi j (gB w)) ?_
 iterate 5 (refine yt zp ?_)
 cases g;exact zl
theorem abb {n} (o:Ou n):QX (CJ (Gu n)):=by
 intro a0 a1 r g;rw[CJ]at g;refine yw func158 ntmps158 ?_;cases g;exact zl
theorem abc {n} (o:Ou n):QY (yK (Gu n)):=by
 intro a0 r g;rw[yK]at g;refine yw func157 ntmps157 ?_;exact fQ g
theorem abd {n} (o:Ou n):QZ (kg (Gu n)):=by
 intro a0 r g;rw[kg]at g;refine yw func256 ntmps256 ?_;refine aQ g λ_ g=>?_;refine aD g ?_ ?_<;>intro _ g
 iterate 6 (refine aQ g λ_ g=>?_)
 exact fQ g;refine aD g ?_ ?_<;>intro _ g;refine yX g af.aI λx _ _ g=>?_;refine yc g (o.a.sb _) λy g=>?_;refine bH g λ_ g=>?_;refine yX g af.aI λx _ _ g=>?_;refine yc g (o.a.sb _) λy g=>?_;cases g;exact zl
 iterate 2 (refine bH g λ_ g=>?_;refine yX g af.aI λx _ _ g=>?_;refine yc g (o.a.sb _) λy g=>?_)
 cases g;exact zl
theorem abe {n} (o:Ou n):Q0 (kW (Gu n)):=by
 intro a0 a1 r g;rw[kW]at g;refine yw func257 ntmps257 ?_
 iterate 4 (refine aQ g λ_ g=>?_)
 exact fQ g
theorem abf {n} (o:Ou n):Q1 (CK (Gu n)):=by
 intro a0 a1 r g;rw[CK]at g;refine yw func159 ntmps159 ?_;refine aQ g λ_ g=>?_;refine yk<|yL (S:=Int) (G:=λm s=>BL (Gu m) a0 a1 s) (s0:=0) 0 [0,1,4] [5] (λs=>[(5,.d (.v (.int .i64 s)))]) (λs=>[]) g ?_;rintro n s2 _ g;change BM (Gu n) a0 a1 s2=_ at g;rw[BM]at g;refine yz ?_
 refine bH g λ_ g=>?_;refine yo [0,1,2,3,4,5,6,7,8] [] [] ?_
 iterate 2 (refine yY g gB λx _ _ g=>?_)
 refine aQ g λ_ g=>?_;exact yk (yN _ n ⟨by omega,g⟩)
theorem abg {n} (o:Ou n):Q2 (yM (Gu n)):=by
 intro a0 a1 r g;rw[yM]at g;refine yw func106 ntmps106 ?_
 iterate 3 (refine aQ g λ_ g=>?_)
 refine yc g (o.a.Re _ _) λy g=>?_
 iterate 3 (refine aQ g λ_ g=>?_)
 refine yk<|yL (S:=Bool×Int) (G:=λm s=>tG (Gu m) a0 a1 s.1 s.2) (s0:=(false,0)) 2 [2,3] [4,5] (λs=>[(4,.d (.v (.bool s.1))),(5,.d (.v (.int .i64 s.2)))]) (λs=>[]) g ?_;rintro n ⟨s8,s9⟩ _ g;change tH (Gu n) a0 a1 s8 s9=_ at g;rw[tH]at g;refine yz ?_
 refine aD g ?_ ?_<;>intro _ g;refine yo [0,1,2,3,4,5,6,7,8,9,10,11,12,13,14,15,16,17,18,19,20,21,22,23,24,25,26,27,28] [] [] ?_
 iterate 2 (refine yY g aP.aI λx _ _ g=>?_)
 refine aQ g λ_ g=>?_
 iterate 2 (refine yY g aP.aI λx _ _ g=>?_)
 obtain⟨y,z,g⟩:=bj g (o.a.Re _ _);refine yl (yC z) ?_;refine aQ g λ_ g=>?_;exact yk (yN (_,_) n ⟨by omega,g⟩);refine yk<|yL (S:=Int) (G:=λm s=>qS (Gu m) a0 a1 s) (s0:=0) 2 [2,3,4,5] [6] (λs=>[(6,.d (.v (.int .i64 s)))]) (λs=>[]) g ?_;rintro n s22 _ g;change tF (Gu n) a0 a1 s22=_ at g;rw[tF]at g;refine yz ?_
 refine bH g λ_ g=>?_;refine yo [0,1,2,3,4,5,6,7,8,9,10,11] [] [] ?_
 iterate 2 (refine yY g ah.aI λx _ _ g=>?_)
 obtain⟨y,z,g⟩:=bj g (o.a.Rf _ _);refine yl (yC z) ?_;refine aQ g λ_ g=>?_;exact yk (yN _ n ⟨by omega,g⟩)
theorem w66 {n} (o:Ou n):Sr (zV (Gu n)):=by
 intro a0 a1 r g;rw[zV]at g;refine yw func66 ntmps66 ?_;refine bH g λ_ g=>?_;refine yc g (o.a.Rf _ _) λy g=>?_;cases g;exact zl
/-(plexus.plexusref18.Scope).Make-/
theorem abh {n} (o:Ou n):Q3 (yO (Gu n)):=by
 intro a0 a1 a2 r g;rw[yO]at g;refine yw func105 ntmps105 ?_;refine yc g (o.a.abI _ _ _) λy g=>?_;refine aD g (λk g=>?_) λk g=>?_;refine yc g (o.a.Iz _) λy g=>?_;refine aD g ?_ ?_<;>intro _ g;refine yc g (o.a.JL _ _) λy g=>?_;refine aD g ?_ ?_<;>intro _ g;refine yc g (o.a.dU _ _) λy g=>?_;refine aD g ?_ ?_<;>intro _ g;refine yo [] (tk [0,3,7,10]) [] ?_
 iterate 2 (refine yt zp ?_)
 cases g;exact yj
 iterate 2 (refine yo [] (tk [0,3,7,10]) [] ?_;(iterate 3 (refine yt zp ?_));cases g;exact zl;(refine Ok.lz (PR k) ?_;conv=>(arg 3;whnf)))
 refine yo [] (tk [0,3,7,10]) [] ?_
 iterate 3 (refine yt zp ?_)
 cases g;exact zl;refine Ok.mg (PQ k) ?_;conv=>(arg 3;whnf)
 refine yo [] (tk [0,3,7,10]) [] ?_
 iterate 2 (refine yt zp ?_)
 cases g;exact yj
/-(plexus.plexusref18.Scope).make-/
set_option maxHeartbeats 0 in
theorem abi {n} (o:Ou n):Q4 (vc (Gu n)):=by
 intro a0 a1 a2 r g;rw[vc]at g;refine yw func156 ntmps156 ?_
 iterate 2 (refine yc g (o.a.iO _) λy g=>?_)
 refine yc g (o.a.dU _ _) λy g=>?_;refine aD g ?_ ?_<;>intro _ g;refine yo [] (tk [0,3,6,9,12,16,19]) [] ?_
 iterate 6 (refine yt zp ?_)
 iterate 2 (cases g;exact yj;refine aD g ?_ ?_<;>intro _ g;refine yo [] (tk [0,3,6,10,13]) [] ?_;(iterate 4 (refine yt zp ?_)))
 cases g;exact yj;refine aD g ?_ ?_<;>intro _ g;refine yo [] (tk [0,3,6,9,12,16,19]) [] ?_;obtain⟨y,z,g⟩:=bj g (o.a.iO _);refine yu zp (bm.call z rfl rfl) ?_
 iterate 4 (refine yt zp ?_)
 cases g;exact yj;refine aD g ?_ ?_<;>intro _ g;refine yk<|yL (S:=Int) (G:=λm s=>qT (Gu m) a0 a1 s) (s0:=0) 10 [3,4,6,7,10,11] [13] (λs=>[(13,.d (.v (.int .i64 s)))]) (λs=>[]) g ?_;rintro n s10 _ g;change qU (Gu n) a0 a1 s10=_ at g;rw[qU]at g;refine yz ?_
 refine aD g ?_ ?_<;>intro _ g;refine yo [0,1,2,3,4,5,6,7,8] [] [] ?_;refine yY g TParam.aI λx _ _ g=>?_;refine aD g ?_ ?_<;>intro _ g;refine yo [] (tk [0,3,6,9,12,15,18,21,24,27,31,34]) [] ?_;refine yt zp ?_;obtain⟨x,w,j,g⟩:=bB g;refine yu zp (yi j (TParam.aI w)) ?_
 iterate 2 (refine yt zp ?_)
 obtain⟨y,z,g⟩:=bj g (o.a.iO _);refine yu zp (bm.call z rfl rfl) ?_
 iterate 5 (refine yt zp ?_)
 cases g;exact yj;exact yk (yN _ n ⟨by omega,g⟩);refine yo [0,1,2,3] (tk [13,16]) [] ?_;obtain⟨y,z,g⟩:=bj g (o.a.dU _ _);refine yl (yC z) ?_;cases g;exact yj;refine aD g ?_ ?_<;>intro _ g;refine yo [] (tk [0,3,6,9,12,16,19]) [] ?_;obtain⟨y,z,g⟩:=bj g (o.a.mJ _);refine yu zp (bm.call z rfl rfl) ?_
 iterate 4 (refine yt zp ?_)
 cases g;exact yj
 iterate 2 (refine aD g ?_ ?_<;>intro _ g)
 refine yo [] (tk [0,3,7,10]) [] ?_
 iterate 3 (refine yt zp ?_)
 cases g;exact yj;refine yo [] (tk [0,3,6,10,13]) [] ?_
 iterate 4 (refine yt zp ?_)
 cases g;exact yj;refine aD g ?_ ?_<;>intro _ g;refine yo [] (tk [0,3,6,9,12,15,18,21,24,27,37,40]) [10,11] ?_
 iterate 2 (refine yt zp ?_)
 obtain⟨x,w,j,g⟩:=bB g;refine yu zp (yi j (af.aI w)) ?_
 iterate 2 (refine yt zp ?_)
 obtain⟨y,z,g⟩:=bj g (o.a.ke _ _ _);refine yu zp (bm.call z rfl rfl) ?_
 iterate 4 (refine yt zp ?_)
 refine aD g ?_ ?_<;>intro _ g;refine yo [] (tk [0,3,7,10]) [] ?_
 iterate 3 (refine yt zp ?_)
 cases g;exact yj;refine yc g (o.a.Iz _) λy g=>?_;refine aD g ?_ ?_<;>intro _ g;refine yo [0,1,2,3,4,5,6,7,8,9,10,11,12,13,14,15] [(16,.one)] [] ?_
 iterate 2 (refine yY g af.aI λx _ _ g=>?_)
 obtain⟨y,z,g⟩:=bj g (o.a.IA _ _ _ _ _);refine yl (yC z) ?_;refine aD g ?_ ?_<;>intro _ g;refine yo [] (tk [0,3,7,10]) [] ?_
 iterate 3 (refine yt zp ?_)
 cases g;exact yj;refine yo [] (tk [0,3,6,9,12,18,27,16,22,24,31,34]) [] ?_;obtain⟨x,w,j,g⟩:=bB g;refine yu zp (yi j (ab.aI w)) ?_
 iterate 3 (refine yt zp ?_)
 obtain⟨k,g⟩:=cD g;refine yk<|az.eJ (rows2:=(ab.rows y.fst)) zp rfl rfl rfl rfl rfl zg rfl (bX.refl _) rfl rfl (ab.de _) rfl rfl (zo k) (yz ?_)
 iterate 3 (refine yt zp ?_)
 cases g;exact yj;refine yo [0,1,2,3,4,5,6,7,8,9,10,11] [(12,.one)] [] ?_;obtain⟨x,w,g⟩:=iC g;refine yl (yQ af.bw w) ?_;obtain⟨y,z,g⟩:=bj g (o.a.gS _ _ _);refine yl (yC z) ?_;refine aD g ?_ ?_<;>intro _ g;refine yo [] (tk [0,3,7,10]) [] ?_
 iterate 3 (refine yt zp ?_)
 cases g;exact yj;refine yo [] (tk [0,3,6,9,12,18,27,16,22,24,31,34]) [] ?_;obtain⟨x,w,j,g⟩:=bB g;refine yu zp (yi j (ab.aI w)) ?_
 iterate 3 (refine yt zp ?_)
 obtain⟨k,g⟩:=cD g;refine yk<|az.eJ (rows2:=(ab.rows y.fst)) zp rfl rfl rfl rfl rfl zg rfl (bX.refl _) rfl rfl (ab.de _) rfl rfl (zo k) (yz ?_)
 iterate 3 (refine yt zp ?_)
 cases g;exact yj;refine aD g ?_ ?_<;>intro _ g;refine yk<|az.cH (t:=178) rfl rfl (eg rfl aW) (yz ?_)
 refine yc g (o.a.gS _ _ _) λy g=>?_;refine yo [] (tk [0,3,7,9,13]) [] ?_
 iterate 4 (refine yt zp ?_)
 refine yo [] (tk [0,3,7,10]) [] ?_
 iterate 3 (refine yt zp ?_)
 cases g;exact zl;refine aD g ?_ ?_<;>intro _ g;refine yk<|az.cH (t:=194) rfl rfl (eg rfl aW) (yz ?_)
 refine yc g (o.a.gS _ _ _) λy g=>?_;refine yo [] (tk [0,3,7,9,13]) [] ?_
 iterate 4 (refine yt zp ?_)
 refine yo [] (tk [0,3,7,10]) [] ?_
 iterate 3 (refine yt zp ?_)
 cases g;exact zl;refine aD g ?_ ?_<;>intro _ g;refine yk<|az.cH (t:=209) rfl rfl (eg rfl aW) (yz ?_)
 refine yc g (o.a.gS _ _ _) λy g=>?_;refine yo [] (tk [0,3,7,9,13]) [] ?_
 iterate 4 (refine yt zp ?_)
 refine yo [] (tk [0,3,7,10]) [] ?_
 iterate 3 (refine yt zp ?_)
 cases g;exact zl;refine aD g ?_ ?_<;>intro _ g;refine yk<|az.cH (t:=225) rfl rfl (eg rfl aW) (yz ?_)
 refine yc g (o.a.gS _ _ _) λy g=>?_;refine yo [] (tk [0,3,7,9,13]) [] ?_
 iterate 4 (refine yt zp ?_)
 refine yo [] (tk [0,3,7,10]) [] ?_
 iterate 3 (refine yt zp ?_)
 cases g;exact zl;refine aD g ?_ ?_<;>intro _ g;refine yk<|az.cH (t:=241) rfl rfl (eg rfl aW) (yz ?_)
 refine yc g (o.a.gS _ _ _) λy g=>?_;refine yo [] (tk [0,3,7,9,13]) [] ?_
 iterate 4 (refine yt zp ?_)
 refine yo [] (tk [0,3,7,10]) [] ?_
 iterate 3 (refine yt zp ?_)
 cases g;exact zl;refine aD g ?_ ?_<;>intro _ g;refine yk<|az.cH (t:=257) rfl rfl (eg rfl aW) (yz ?_)
 refine yc g (o.a.gS _ _ _) λy g=>?_;refine yo [] (tk [0,3,7,9,13]) [] ?_
 iterate 4 (refine yt zp ?_)
 refine yo [] (tk [0,3,7,10]) [] ?_
 iterate 3 (refine yt zp ?_)
 cases g;exact zl;refine aD g ?_ ?_<;>intro _ g;refine yk<|az.cH (t:=273) rfl rfl (eg rfl aW) (yz ?_)
 refine yc g (o.a.gS _ _ _) λy g=>?_;refine yo [] (tk [0,3,7,9,13]) [] ?_
 iterate 4 (refine yt zp ?_)
 refine yo [] (tk [0,3,7,10]) [] ?_
 iterate 3 (refine yt zp ?_)
 cases g;exact zl;refine aD g ?_ ?_<;>intro _ g;refine yo [0,1,2,3,4,5,6,7] (tk [24,27,30,34,37]) [] ?_
 iterate 2 (obtain⟨y,z,g⟩:=bj g (o.a.iO _);refine yl (yC z) ?_)
 obtain⟨y,z,g⟩:=bj g (o.a.gS _ _ _);refine yl (yC z) ?_;refine yo [] (tk [0,3,7,9,13]) [] ?_
 iterate 4 (refine yt zp ?_)
 refine yo [] (tk [0,3,7,10]) [] ?_
 iterate 3 (refine yt zp ?_)
 cases g;exact zl;refine aD g ?_ ?_<;>intro _ g;refine yo [] (tk [0,3,6,9,12,15,18,21,24,27,37,40]) [10,11] ?_
 iterate 2 (refine yt zp ?_)
 obtain⟨x,w,j,g⟩:=bB g;refine yu zp (yi j (af.aI w)) ?_
 iterate 2 (refine yt zp ?_)
 obtain⟨y,z,g⟩:=bj g (o.a.ke _ _ _);refine yu zp (bm.xp z rfl rfl zi) ?_
 iterate 4 (refine yt zp ?_)
 refine aD g ?_ ?_<;>intro _ g;refine yo [] (tk [0,3,7,10]) [] ?_
 iterate 3 (refine yt zp ?_)
 cases g;exact yj;refine aD g ?_ ?_<;>intro _ g;refine yo [0,1,2,3,4,5,6] (tk [22,25]) [] ?_;refine yY g af.aI λx _ _ g=>?_;obtain⟨y,z,g⟩:=bj g (o.a.dU _ _);refine yl (yC z) ?_;cases g;exact yj;refine yo [] (tk [0,3,6,9,12,15,18,21,24,27,30,40,43]) [11,12] ?_
 iterate 2 (refine yt zp ?_)
 obtain⟨x,w,j,g⟩:=bB g;refine yu zp (yi j (af.aI w)) ?_
 iterate 3 (refine yt zp ?_)
 obtain⟨y,z,g⟩:=bj g (o.a.ke _ _ _);refine yu zp (bm.call z rfl rfl) ?_
 iterate 4 (refine yt zp ?_)
 refine yo [] (tk [0,3,6,9,12,15,19,22]) [] ?_
 iterate 7 (refine yt zp ?_)
 cases g;exact yj;refine aD g ?_ ?_<;>intro _ g;refine yo [0,1,2,3,4,5,6,7,8,9,10,11,12] (tk [39,42,45,49,52]) [] ?_
 iterate 2 (refine yY g af.aI λx _ _ g=>?_)
 obtain⟨y,z,g⟩:=bj g (o.a.IA _ _ _ _ _);refine yl (yC z) ?_;refine yo [] (tk [0,3,7,9,13]) [] ?_
 iterate 4 (refine yt zp ?_)
 refine yo [] (tk [0,3,7,10]) [] ?_
 iterate 3 (refine yt zp ?_)
 cases g;exact zl;refine aD g ?_ ?_<;>intro _ g;refine yc g (o.a.Iz _) λy g=>?_;refine aD g ?_ ?_<;>intro _ g;refine yo [0,1,2,3,4,5,6,7,8,9,10,11,12] (tk [39,42,45,49,52]) [] ?_
 iterate 2 (refine yY g af.aI λx _ _ g=>?_)
 obtain⟨y,z,g⟩:=bj g (o.a.IA _ _ _ _ _);refine yl (yC z) ?_;refine aD g ?_ ?_<;>intro _ g;refine yo [0,1] (tk [6,9,12,15,19,21,25]) [] ?_;obtain⟨x,w,j,g⟩:=bB g;refine yu zp (yi j (ab.aI w)) ?_;refine yo [] (tk [0,3,7,10]) [] ?_
 iterate 3 (refine yt zp ?_)
 cases g;exact zl;refine yo [] (tk [0,3,7,10]) [] ?_
 iterate 3 (refine yt zp ?_)
 cases g;exact yj;refine aD g ?_ ?_<;>intro _ g;refine yo [] (tk [0,3,7,10]) [] ?_
 iterate 3 (refine yt zp ?_)
 cases g;exact yj;refine yk<|az.cH (t:=394) rfl rfl (eg rfl aW) (yz ?_)
 refine yc g (o.a.gS _ _ _) λy g=>?_;refine aD g ?_ ?_<;>intro _ g;refine yo [0,1] (tk [6,9,12,15,19,21,25]) [] ?_;obtain⟨x,w,j,g⟩:=bB g;refine yu zp (yi j (ab.aI w)) ?_;refine yo [] (tk [0,3,7,10]) [] ?_
 iterate 3 (refine yt zp ?_)
 cases g;exact zl;refine yo [] (tk [0,3,7,10]) [] ?_
 iterate 3 (refine yt zp ?_)
 cases g;exact yj;refine aD g ?_ ?_<;>intro _ g;refine yk<|az.cH (t:=416) rfl rfl (eg rfl aW) (yz ?_)
 refine yc g (o.a.gS _ _ _) λy g=>?_;refine aD g ?_ ?_<;>intro _ g;refine yo [] (tk [0,3,7,10]) [] ?_
 iterate 3 (refine yt zp ?_)
 cases g;exact yj;refine yX g ab.aI λx _ _ g=>?_;refine aD g ?_ ?_<;>intro _ g;refine yo [] (tk [0,3,7,10]) [] ?_
 iterate 3 (refine yt zp ?_)
 cases g;exact yj;refine yk<|yL (S:=Int) (G:=λm s=>oh (Gu m) a1 y x s) (s0:=0) 12 [4,6,7,10,11,21] [22] (λs=>[(22,.d (.v (.int .i64 s)))]) (λs=>[]) g ?_;rintro n s113 _ g;change tI (Gu n) a1 y x s113=_ at g;rw[tI]at g;refine yz ?_
 refine aD g ?_ ?_<;>intro _ g;refine yo [0,1,2,3,4,5,6,7] [] [] ?_;refine yY g gB λx _ _ g=>?_;refine aD g ?_ ?_<;>intro _ g;refine yo [] (tk [0,3,6,9,12,15,18,21,24,27,30,34,37]) [] ?_;refine yt zp ?_;obtain⟨x,w,j,g⟩:=bB g;refine yu zp (yi j (ah.aI w)) ?_;refine yt zp ?_;obtain⟨y,z,g⟩:=bj g (o.a.mJ _);refine yu zp (bm.call z rfl rfl) ?_
 iterate 7 (refine yt zp ?_)
 cases g;exact zl;exact yk (yN _ n ⟨by omega,g⟩);refine yo [0,1,2,3] (tk [13,16]) [] ?_;obtain⟨y,z,g⟩:=bj g (o.a.dU _ _);refine yl (yC z) ?_;cases g;exact yj;refine aD g ?_ ?_<;>intro _ g;refine yo [] (tk [0,3,6,9,12,15,18,21,24,27,37,40]) [10,11] ?_
 iterate 2 (refine yt zp ?_)
 obtain⟨x,w,j,g⟩:=bB g;refine yu zp (yi j (af.aI w)) ?_
 iterate 2 (refine yt zp ?_)
 obtain⟨y,z,g⟩:=bj g (o.a.ke _ _ _);refine yu zp (bm.xp z rfl rfl zi) ?_
 iterate 4 (refine yt zp ?_)
 iterate 2 (refine aD g ?_ ?_<;>intro _ g;refine yo [] (tk [0,3,7,10]) [] ?_;(iterate 3 (refine yt zp ?_));cases g;exact yj)
 refine yo [] (tk [0,3,6,9,12,15,18,21,24,27,37,40]) [10,11] ?_
 iterate 2 (refine yt zp ?_)
 obtain⟨x,w,j,g⟩:=bB g;refine yu zp (yi j (af.aI w)) ?_;refine yt zp ?_;obtain⟨y,z,g⟩:=bj g (o.a.iO _);refine yu zp (bm.call z rfl rfl) ?_;obtain⟨y,z,g⟩:=bj g (o.a.ke _ _ _);refine yu zp (bm.call z rfl rfl) ?_
 iterate 4 (refine yt zp ?_)
 refine yo [] (tk [0,3,6,9,12,15,18,21,24,27,30,33,37,40]) [] ?_;obtain⟨x,w,j,g⟩:=bB g;refine yu zp (yi j (ah.aI w)) ?_;refine yt zp ?_;obtain⟨y,z,g⟩:=bj g (o.a.mJ _);refine yu zp (bm.call z rfl rfl) ?_
 iterate 7 (refine yt zp ?_)
 cases g;exact yj;refine aD g ?_ ?_<;>intro _ g;refine yc g (o.a.abJ _ _ _) λy g=>?_;cases g;exact zl;refine yo [] (tk [0,3,7,10]) [] ?_
 iterate 3 (refine yt zp ?_)
 cases g;exact yj
