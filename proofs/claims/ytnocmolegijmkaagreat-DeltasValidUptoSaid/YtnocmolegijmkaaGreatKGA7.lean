/- Printed by a program: what functions answer, and that they do. -/
import Derived.Test.YtnocmolegijmkaaGreatKGA3
import Derived.Test.YtnocmolegijmkaaGreatKGA6
set_option linter.all false
section
set_option maxRecDepth 100000
noncomputable section
namespace Go.Proofs.YtnocmolegijmkaaGreat
open Go Go.Bw Go.Proofs.Tryz
/-(*plexus.types.elaborator).record-/
theorem U9 {n} (o:Ou n):Lv (rN (Gu n)):=by
 intro a0 a1 a2 r g;rw[rN]at g;refine yw func223 ntmps223 ?_;obtain⟨m1,em1,g⟩:=iw g;obtain⟨hm1,bm1⟩:=Gg em1;refine yk<|ao.Kd m1 (ab.rows (List.replicate m1 ab.z)) rfl hm1 rfl hm1 rfl rfl rfl rfl rfl (by omega) (by simp only[ab.bf,X'];exact cU.replicate zi _) rfl (yz ?_)
 obtain⟨m2,em2,g⟩:=iw g;obtain⟨hm2,bm2⟩:=Gg em2;refine yk<|ao.Kd m2 (iz (List.replicate m2 false)) rfl hm2 rfl hm2 rfl rfl rfl rfl rfl (by omega) (by simp only[iz,X'];exact cU.replicate zi _) rfl (yz ?_)
 refine yk<|yL (S:=(List ab)×(List Bool)×Int) (G:=λm s=>lI (Gu m) a0 a1 a2 s.1 s.2.1 s.2.2) (s0:=(List.replicate m1 ab.z,List.replicate m2 false,0)) 4 [0,4,5,6,23,24] [7,8,25] (λs=>[(7,.os 2 (ab.rows s.1).length),(8,.os 3 (iz s.2.1).length),(25,.d (.v (.int .i64 s.2.2)))]) (λs=>[(2,.row 32 12 (ab.rows s.1)),(3,.row 4 1 (iz s.2.1))]) g ?_;rintro n ⟨s3,s4,s5⟩ _ g;change nn (Gu n) a0 a1 a2 s3 s4 s5=_ at g;rw[nn]at g;refine yz ?_
 refine aS g ?_ ?_<;>intro _ g;refine yX g af.aM λx _ _ g=>?_;refine yc g (o.a.EL _ _) λy g=>?_;refine aS g ?_ ?_<;>intro _ g;exact yP g (o.a.fb _ _);obtain⟨x,w,j,g⟩:=bP g;refine yv (yr j w) ?_;refine yv (ym y.toNat 0 (AI w)) ?_;refine aS g ?_ ?_<;>intro _ g;exact yP g (o.a.fb _ _);refine yo [] (tk [0,3,6,9,12,15,18,21,24,27,30,33,36,39,42,46,48,52,54,58]) [] ?_;obtain⟨x,w,j,g⟩:=bP g;refine yu zp (yi j (af.aM w)) ?_
 iterate 4 (refine yt zp ?_)
 obtain⟨x,w,j,g⟩:=bP g;refine yu zp (yi j (ai.aM w)) ?_;refine yt zp ?_;obtain⟨v,z,g⟩:=cq g (o.a.iL _);refine yu zp (bG.call z rfl rfl) ?_;refine yq g (o.a.cW _ _ _) zp λv g=>?_;obtain⟨x,w,j,g⟩:=bP g;refine yU zp (yr j w) ?_;refine yk<|ao.sE y.toNat 0 (by repeat(first|exact az.nil|refine az.cons rfl (aR.dc (cl:=false) rfl aV) ?_|refine az.skip rfl ?_|refine az.cons rfl (yr j w) ?_|refine az.cons rfl (dK (cl:=false) rfl aV) ?_)) (by rfl) (by rfl) (by rfl) (by rfl) (by rfl) (by rfl) (by rfl) (by rfl) zg (by rfl) (yg (ab.aM w)) (by rfl) (by rfl) (by rfl) (by rfl) (yz ?_)
 obtain⟨x,q,j1h,g⟩:=bP g;refine yU zp (yr j1h q) ?_;refine yk<|ao.sE y.toNat 0 (by repeat(first|exact az.nil|refine az.cons rfl (aR.dc (cl:=false) rfl aV) ?_|refine az.skip rfl ?_|refine az.cons rfl (yr j w) ?_|refine az.cons rfl (yr j1h q) ?_|refine az.cons rfl (dK (cl:=false) rfl aV) ?_)) (by rfl) (by rfl) (by rfl) (by rfl) (by rfl) (by rfl) (by rfl) (by rfl) zg (by rfl) (yg (AI q)) (by rfl) (by rfl) (by rfl) (by rfl) (yz ?_)
 exact yk (yN (_,_,_) n ⟨by omega,g⟩);refine yk<|yL (S:=(List ab)×Int) (G:=λm s=>jC (Gu m) a1 a2 s4 s.1 s.2) (s0:=(s3,0)) 4 [0,4,5,6,8,23,24,25,65,66] [7,67] (λs=>[(7,.os 2 (ab.rows s.1).length),(67,.d (.v (.int .i64 s.2)))]) (λs=>[(2,.row 32 12 (ab.rows s.1))]) g ?_;rintro n ⟨s26,s27⟩ _ g;change nk (Gu n) a1 a2 s4 s26 s27=_ at g;rw[nk]at g;refine yz ?_
 refine bJ g λ_ g=>?_;refine yX g ai.aM λx _ _ g=>?_;obtain⟨x,w,j,g⟩:=bP g;refine yv (yr j w) ?_;refine yv (ym s27.toNat 0 (AI w)) ?_;refine aS g ?_ ?_<;>intro _ g;refine yo [0,1,2,3,4,5,6,7,8] [(9,.one)] [] ?_;obtain⟨y,z,g⟩:=cq g (o.a.DP _);refine yl (yC z) ?_;obtain⟨y,z,g⟩:=cq g (o.a.iL _);refine yl (yC z) ?_;obtain⟨x,w,j,g⟩:=bP g;refine yl (yr j w) ?_;refine yk<|ao.NL 84 (.agg (ab.cs ({Op:=6,aq:=y,N:=0,Text:=[],At:=a1.At,Kids:=[]:ab}))) s27.toNat 0 az.nil (by rfl) (by rfl) (by rfl) (by rfl) (by rfl) (by rfl) zi (by rfl) (by rfl) (by rfl) zg (by rfl) (yg (ab.aM w)) (by rfl) (by rfl) (by rfl) (by rfl) (yz ?_)
 iterate 2 (exact yk (yN (_,_) n ⟨by omega,g⟩))
/-(*plexus.types.elaborator).observer-/
theorem U' {n} (o:Ou n):Lw (jh (Gu n)):=by
 intro a0 a1 r g;rw[jh]at g;refine yw func224 ntmps224 ?_;refine yX g af.aM λx _ _ g=>?_
 iterate 3 (refine yc g (o.a.gJ _) λy g=>?_)
 refine aS g ?_ ?_<;>intro _ g;refine yp g (o.a.cW _ _ _) λy g=>?_;refine bJ g λ_ g=>?_;refine aS g ?_ ?_<;>intro _ g;exact yP g (o.a.fb _ _);refine yc g (o.a.DN _ _) λy g=>?_;refine bJ g λ_ g=>?_;exact yP g (o.a.fb _ _);refine aS g ?_ ?_<;>intro _ g;refine yk<|ao.cZ (t:=62) rfl rfl (gL rfl aV) (yz ?_)
 refine yk<|ao.cZ (t:=60) rfl rfl aV (yz ?_)
 refine yp g (o.a.pB _ _ _ _ _ _) λy g=>?_;refine yX g ab.aM λx _ _ g=>?_;refine yX g ai.aM λx _ _ g=>?_
 iterate 2 (refine bJ g λ_ g=>?_)
 exact yP g (o.a.fb _ _);refine aS g ?_ ?_<;>intro _ g;refine yk<|ao.cZ (t:=88) rfl rfl (gL rfl aV) (yz ?_)
 refine yk<|ao.cZ (t:=86) rfl rfl aV (yz ?_)
 refine yp g (o.a.pB _ _ _ _ _ _) λy g=>?_;cases g;exact zl;refine aS g ?_ ?_<;>intro _ g;refine yk<|ao.cZ (t:=94) rfl rfl (gL rfl aV) (yz ?_)
 refine yk<|ao.cZ (t:=92) rfl rfl aV (yz ?_)
 refine yp g (o.a.pB _ _ _ _ _ _) λy g=>?_;cases g;exact zl;refine aS g ?_ ?_<;>intro _ g;refine yk<|ao.cZ (t:=100) rfl rfl (gL rfl aV) (yz ?_)
 refine yk<|ao.cZ (t:=98) rfl rfl aV (yz ?_)
 refine yp g (o.a.pB _ _ _ _ _ _) λy g=>?_;cases g;exact zl;refine aS g ?_ ?_<;>intro _ g;refine yk<|ao.cZ (t:=106) rfl rfl (gL rfl aV) (yz ?_)
 refine yk<|ao.cZ (t:=104) rfl rfl aV (yz ?_)
 refine yp g (o.a.pB _ _ _ _ _ _) λy g=>?_;cases g;exact zl;refine aS g ?_ ?_<;>intro _ g;refine yk<|ao.cZ (t:=112) rfl rfl (gL rfl aV) (yz ?_)
 refine yk<|ao.cZ (t:=110) rfl rfl aV (yz ?_)
 refine yp g (o.a.pB _ _ _ _ _ _) λy g=>?_;cases g;exact zl;refine aS g ?_ ?_<;>intro _ g
 iterate 2 (refine yk<|ao.cZ (t:=120) rfl rfl (gL rfl aV) (yz ?_);refine yk<|ao.cZ (t:=117) rfl rfl aV (yz ?_);refine yp g (o.a.pB _ _ _ _ _ _) λy g=>?_;refine yX g ab.aM λx _ _ g=>?_;refine yX g ai.aM λx _ _ g=>?_;refine yc g (o.a.iL _) λy g=>?_;cases g;exact zl)
/-(*plexus.types.elaborator).observer$1-/
theorem Va {n} (o:Ou n):Lx (rO (Gu n)):=by
 intro a0 a1 a2 a3 a4 a5 r g;rw[rO]at g;refine yw func261 ntmps261 ?_;refine yo [] (tk [0,3,6,9,12,15,19,21,24,28]) [] ?_
 iterate 4 (refine yt zp ?_)
 refine yq g (o.a.Ey _ _ _ _) zp λy g=>?_
 iterate 3 (refine yt zp ?_)
 cases g;exact yj
/-(*plexus.types.elaborator).operand-/
theorem Vb {n} (o:Ou n):Ly (rP (Gu n)):=by
 intro a0 a1 a2 a3 r g;rw[rP]at g;refine yw func226 ntmps226 ?_;refine yp g (o.a.cW _ _ _) λy g=>?_;refine aS g ?_ ?_<;>intro _ g;exact yP g (o.a.fb _ _);refine yc g (o.a.DN _ _) λy g=>?_;refine bJ g λ_ g=>?_;exact yP g (o.a.fb _ _)
/-(*plexus.types.elaborator).operator-/
set_option maxHeartbeats 0 in
theorem Vc {n} (o:Ou n):Lz (gV (Gu n)):=by
 intro a0 a1 a2 r g;rw[gV]at g;refine yw func165 ntmps165 ?_;refine yc g (o.a.gJ _) λy g=>?_;refine aS g ?_ ?_<;>intro _ g;refine yo [] (tk [0,3,6,9,12,15,19,25]) [7] ?_;obtain⟨x,w,j,g⟩:=bP g;refine yu zp (yi j (af.aM w)) ?_
 iterate 2 (refine yt zp ?_)
 refine yq g (o.a.cW _ _ _) zp λy g=>?_;refine yt zp ?_;refine yc g (o.a.yx _) λy g=>?_;refine aS g ?_ ?_<;>intro _ g;refine yo [0,1,2,3,4,5,6,7,8,9] (tk [31,33,36,39,43,46]) [] ?_
 iterate 2 (refine yY g af.aM λx _ _ g=>?_)
 refine yq g (o.a.Ez _ _ _ _ _) zp λy g=>?_;cases g;exact yj
 iterate 2 (refine yo [0,1,2,3,4,5] (tk [19,22]) [] ?_;refine yY g af.aM λx _ _ g=>?_;refine yq g (o.a.cW _ _ _) zp λy g=>?_)
 cases g;exact yj;refine aS g ?_ ?_<;>intro _ g;refine yX g af.aM λx _ _ g=>?_;refine yp g (o.a.cW _ _ _) λy g=>?_;refine aS g ?_ ?_<;>intro _ g;refine yX g af.aM λx _ _ g=>?_;exact yP g (o.a.fb _ _);refine yo [] (tk [0,3,6,9,12,15,18,22,28]) [8] ?_;obtain⟨x,w,j,g⟩:=bP g;refine yu zp (yi j (af.aM w)) ?_
 iterate 3 (refine yt zp ?_)
 refine yq g (o.a.cW _ _ _) zp λy g=>?_;refine yt zp ?_;cases g;exact yj;refine aS g ?_ ?_<;>intro _ g;refine yo [] (tk [0,3,6,9,12,15,18,21,24,27,31,33,36,39,49,52]) [14,15] ?_
 iterate 2 ((iterate 2 (refine yt zp ?_));obtain⟨x,w,j,g⟩:=bP g;refine yu zp (yi j (af.aM w)) ?_;refine yt zp ?_)
 refine yq g (o.a.Ez _ _ _ _ _) zp λy g=>?_
 iterate 4 (refine yt zp ?_)
 cases g;exact yj;refine aS g ?_ ?_<;>intro _ g;refine yc g (o.a.yx _) λy g=>?_
 iterate 2 (refine aS g ?_ ?_<;>intro _ g)
 exact yP g (o.a.fb _ _);refine yp g (o.a.uI _ _ _ _ _ _) λy g=>?_;cases g;exact zl;refine yo [] (tk [0,3,6,9,12,15,18,21,24,27,31,33,36,39,49,52]) [14,15] ?_
 iterate 2 ((iterate 2 (refine yt zp ?_));obtain⟨x,w,j,g⟩:=bP g;refine yu zp (yi j (af.aM w)) ?_;refine yt zp ?_)
 refine yq g (o.a.Ez _ _ _ _ _) zp λy g=>?_
 iterate 4 (refine yt zp ?_)
 cases g;exact yj;refine aS g ?_ ?_<;>intro _ g;refine yo [] (tk [0,3,6,9,12,15,18,22,28]) [8] ?_
 iterate 2 (refine yt zp ?_)
 obtain⟨x,w,j,g⟩:=bP g;refine yu zp (yi j (af.aM w)) ?_
 iterate 2 (refine yt zp ?_)
 refine yq g (o.a.Ey _ _ _ _) zp λy g=>?_;refine yt zp ?_;refine yc g (o.a.EL _ _) λy g=>?_;refine aS g ?_ ?_<;>intro _ g;exact yP g (o.a.fb _ _);refine yo [0,1,2,3,4,5,6,7,8,9,10,11] [(12,.one)] [] ?_;refine yY g ai.aM λx _ _ g=>?_;obtain⟨y,z,g⟩:=cq g (o.a.iL _);refine yl (yC z) ?_;cases g;exact yj;refine yo [] (tk [0,3,6,9,12,15,18,22,28]) [8] ?_
 iterate 2 (refine yt zp ?_)
 obtain⟨x,w,j,g⟩:=bP g;refine yu zp (yi j (af.aM w)) ?_
 iterate 2 (refine yt zp ?_)
 refine yq g (o.a.Ey _ _ _ _) zp λy g=>?_;refine yt zp ?_;refine yo [] (tk [0,3,6,9,12,15,19,25]) [7] ?_;obtain⟨x,w,j,g⟩:=bP g;refine yu zp (yi j (af.aM w)) ?_;refine yt zp ?_;obtain⟨y,z,g⟩:=cq g (o.a.gJ _);refine yu zp (bG.call z rfl rfl) ?_;refine yq g (o.a.cW _ _ _) zp λy g=>?_;refine yt zp ?_;refine yo [0,1,2,3,4,5,6,7,8,9,10] [(11,.one)] [] ?_;refine yY g ai.aM λx _ _ g=>?_;obtain⟨y,z,g⟩:=cq g (o.a.iL _);refine yl (yC z) ?_;cases g;exact yj
/-(*plexus.types.elaborator).together-/
theorem Vd {n} (o:Ou n):LA (rQ (Gu n)):=by
 intro a0 a1 a2 a3 a4 r g;rw[rQ]at g;refine yw func225 ntmps225 ?_;refine yo [] (tk [0,3,13,16,18]) [2,3] ?_
 iterate 3 (refine yt zp ?_)
 iterate 2 (refine yc g (o.a.yh _) λy g=>?_;refine aS g ?_ ?_<;>intro _ g)
 exact yP g (o.a.fb _ _);refine yo [] (tk [0,3,7,10,12]) [] ?_
 iterate 3 (refine yt zp ?_)
 iterate 2 (refine yp g (o.a.cW _ _ _) λy g=>?_;(iterate 2 (refine aS g ?_ ?_<;>intro _ g));exact yP g (o.a.fb _ _);(iterate 2 (refine yp g (o.a.cW _ _ _) λy g=>?_;refine yo [] (tk [0,3,7,10]) [] ?_;(iterate 3 (refine yt zp ?_));cases g;exact zl)))
theorem WM {n} (o:Ou n):Mt (sn (Gu n)):=by
 intro a0 a1 a2 a3 r g;rw[sn]at g;refine yw func34 ntmps34 ?_;refine yk<|ao.ct (rs:=_) GD rfl rfl func77 rfl zk rfl ntmps77 rfl rfl (yz ?_)
 refine yk<|ao.cZ (t:=8) rfl rfl aV (yz ?_)
 rcases Pv g with⟨c3,c4,z,g⟩|⟨y,z,g⟩
 replace z:=(o.a.cW _ _ _ _ z);refine yk<|ao.Pw z rfl rfl aV (bS.refl _) (.inr rfl) rfl (yz ?_)
 refine zs g ?_ ?_<;>(clear g;intro k g);refine yo [] (tk [0,3,7,10]) [] ?_
 iterate 2 (refine yt zp ?_)
 cases g;exact yj;refine yo [] (tk [0,3,7,10]) [] ?_
 iterate 3 (refine yt zp ?_)
 cases g;exact yj;replace z:=(o.a.cW _ _ _ _ z);refine yv (yC z) ?_;refine yo [] (tk [0,3,7,10]) [] ?_
 iterate 3 (refine yt zp ?_)
 cases g;exact zl
theorem WO {n} (o:Ou n):Mu (vh (Gu n)):=by
 intro a0 a1 r g;rw[vh]at g;refine yw func36 ntmps36 ?_
 iterate 4 (refine bJ g λ_ g=>?_)
 refine yc g (o.a.EM _ _) λy g=>?_;refine bJ g λ_ g=>?_;refine yc g (o.a.RC _ _) λy g=>?_;cases g;exact zl
theorem Rz {n} (o:Ou n):Jm (tO (Gu n)):=by
 intro a0 a1 r g;rw[tO]at g;refine yw func82 ntmps82 ?_;refine aZ g λ_ g=>?_;refine yk<|yL (S:=Int) (G:=λm s=>qn (Gu m) a0 a1 s) (s0:=0) 0 [1,2,6,15,16] [17] (λs=>[(17,.d (.v (.int .i64 s)))]) (λs=>[]) g ?_;rintro n s2 _ g;change qo (Gu n) a0 a1 s2=_ at g;rw[qo]at g;refine yz ?_
 refine bJ g λ_ g=>?_
 iterate 2 (refine yX g ab.aM λx _ _ g=>?_)
 refine yc g (o.a.MF _ _) λy g=>?_;refine aZ g λ_ g=>?_;exact yk (yN _ n ⟨by omega,g⟩)
theorem WQ {n} (o:Ou n):EF (so (Gu n)):=by
 intro a0 a1 r g;rw[so]at g;refine yw func12 ntmps12 ?_;refine yc g (o.a.W9 _) λy g=>?_;refine aZ g λ_ g=>?_;refine yc g (o.a.Xa _) λy g=>?_;refine aZ g λ_ g=>?_;refine yc g (o.a.Mm _ _) λy g=>?_;refine aZ g λ_ g=>?_;refine yo [] (tk [0,3,6,9,12,15,18,21,24,27,30,40,43]) [11,12] ?_
 iterate 4 (refine yt zp ?_)
 obtain⟨y,z,g⟩:=cq g (o.a.Xb _ _);refine yu zp (bG.call z rfl rfl) ?_;refine yt zp ?_;obtain⟨y,z,g⟩:=cq g (o.a.Xc _ _ _ _);refine yu zp (bG.call z rfl rfl) ?_
 iterate 4 (refine yt zp ?_)
 refine bJ g λ_ g=>?_;refine yc g (o.a.MF _ _) λy g=>?_;cases g;exact zl
theorem WR {n} (o:Ou n):Mv (zI (Gu n)):=by
 intro a0 r g;rw[zI]at g;refine yw func25 ntmps25 ?_;refine Ok.stuck aV<|ao.re 3 rfl ?_ ?_
 intro cap k;replace g:(some ([]))=some r:=(by have l:a0=[]:=FG.1 (by have k:=congrArg List.length k;simpa only[TParam.aH,mQ]using k);subst l;simpa using g);refine yz ?_;refine yv (bG.toP (bG.nN (et:=63) rfl zk rfl rfl)) ?_;cases g;exact yj;intro ad n0 cap;refine yz ?_;refine yv (bG.toP (bG.nN (et:=63) rfl zk rfl rfl)) ?_;obtain⟨k,g⟩:=cP g;refine yk<|DO.xW (rows2:=(TParam.rows a0)) rfl rfl zg rfl (bO.refl _) rfl rfl (TParam.dJ _) rfl rfl rfl (zo k) (yz ?_)
 cases g;exact zl
theorem WS {n} (o:Ou n):Mw (vi (Gu n)):=by
 intro a0 a1 r g;rw[vi]at g;refine yw func50 ntmps50 ?_;refine bJ g λ_ g=>?_;refine yc g (o.a.EM _ _) λy g=>?_
 iterate 3 (refine bJ g λ_ g=>?_)
 refine yc g (o.a.RE _ _) λy g=>?_;cases g;exact zl
theorem RB {n} (o:Ou n):Jn (tP (Gu n)):=by
 intro a0 a1 r g;rw[tP]at g;refine yw func82 ntmps82 ?_;refine aZ g λ_ g=>?_;refine yk<|yL (S:=Int) (G:=λm s=>qp (Gu m) a0 a1 s) (s0:=0) 0 [1,2,6,15,16] [17] (λs=>[(17,.d (.v (.int .i64 s)))]) (λs=>[]) g ?_;rintro n s2 _ g;change qq (Gu n) a0 a1 s2=_ at g;rw[qq]at g;refine yz ?_
 refine bJ g λ_ g=>?_
 iterate 2 (refine yX g ab.aM λx _ _ g=>?_)
 refine yc g (o.a.MG _ _) λy g=>?_;refine aZ g λ_ g=>?_;exact yk (yN _ n ⟨by omega,g⟩)
theorem WT {n} (o:Ou n):Mx (vj (Gu n)):=by
 intro a0 r g;rw[vj]at g;refine yw func51 ntmps51 ?_;cases g;exact yj
theorem WU {n} (o:Ou n):My (vk (Gu n)):=by
 intro a0 r g;rw[vk]at g;refine yw func53 ntmps53 ?_;cases g;exact zl
theorem WV {n} (o:Ou n):Mz (mL (Gu n)):=by
 intro a0 a1 r g;rw[mL]at g;refine yw func27 ntmps27 ?_;refine yc g (o.a.MG _ _) λy g=>?_;refine aS g ?_ ?_<;>intro _ g;refine yc g (o.a.zx _) λy g=>?_;cases g;exact zl;refine aS g ?_ ?_<;>intro _ g;refine yo [0,1,2,3,4,5,6,7,8,9,10,11,12,13] (tk [43,46]) [] ?_
 iterate 2 (refine yY g ab.aM λx _ _ g=>?_;obtain⟨y,z,g⟩:=cq g (o.a.vf _ _);refine yl (yC z) ?_)
 iterate 2 (refine yc g (o.a.zy _) λy g=>?_;refine aZ g λ_ g=>?_)
 refine yk<|ao.inl (rs:=_) rfl func52 rfl zk rfl ntmps52 rfl rfl (yz ?_)
 cases g;exact yj;refine aS g ?_ ?_<;>intro _ g;refine yo [0,1,2,3,4,5,6,7,8,9,10,11,12,13] (tk [43,46]) [] ?_
 iterate 2 (refine yY g ab.aM λx _ _ g=>?_;obtain⟨y,z,g⟩:=cq g (o.a.vf _ _);refine yl (yC z) ?_)
 iterate 2 (refine yc g (o.a.zy _) λy g=>?_;refine aS g ?_ ?_<;>intro _ g)
 refine yc g (o.a.zx _) λy g=>?_;cases g;exact zl
 iterate 2 (refine yo [0,1,2,3,4,5,6,7] (tk [25,28]) [] ?_;refine yY g ab.aM λx _ _ g=>?_;refine yk<|ao.fm (rs:=_) rfl (λ_=>az.nil) rfl rfl rfl rfl func52 rfl zk rfl ntmps52 rfl rfl (yz ?_);cases g;exact yj)
 refine aS g ?_ ?_<;>intro _ g;refine Ok.stuck aV ?_;refine ao.wQ 10 32 12 3 rfl rfl ?_;refine yL (S:=(List ab)×Bool×Int) (G:=λm s=>nG (Gu m) a0 a1 s.1 s.2.1 s.2.2) (s0:=([],true,0)) 4 [2,3,4,5,86,87] [10,11,88] (λs=>[(10,.os 3 (ab.rows s.1).length),(11,.d (.v (.bool s.2.1))),(88,.d (.v (.int .i64 s.2.2)))]) (λs=>[(3,.row 32 12 (ab.rows s.1))]) g ?_;rintro n ⟨s32,s33,s34⟩ _ g;change qQ (Gu n) a0 a1 s32 s33 s34=_ at g;rw[qQ]at g;refine yz ?_;refine aS g ?_ ?_<;>intro _ g;refine yX g ab.aM λx _ _ g=>?_;refine yo [0,1,2,3,4,5,6,7,8,9,10,11,12,13,14] [(15,.one)] [] ?_;refine yY g ai.aM λx _ _ g=>?_;obtain⟨y,z,g⟩:=cq g (o.a.vf _ _);refine yl (yC z) ?_;refine aS g ?_ ?_<;>intro _ g;refine yc g (o.a.zy _) λv g=>?_
 iterate 2 (refine yk<|ao.BK 6 (rows':=ab.rows ([y])) rfl zi (yz ?_);obtain⟨k,g⟩:=cP g;refine yk<|DO.I8 rfl rfl zg rfl rfl zg rfl rfl (ab.dJ _) rfl rfl rfl (zo k) (yz ?_);exact yk (yN (_,_,_) n ⟨by omega,g⟩))
 refine aS g ?_ ?_<;>intro _ g;refine yc g (o.a.zx _) λy g=>?_;cases g;exact zl;refine yk<|ao.inl (rs:=_) rfl func52 rfl zk rfl ntmps52 rfl rfl (yz ?_)
 cases g;exact zl;refine bJ g λ_ g=>?_;refine Ok.stuck aV ?_;refine ao.wQ 15 32 12 3 rfl rfl ?_;refine yL (S:=(List ab)×Int) (G:=λm s=>lN (Gu m) a0 a1 s.1 s.2) (s0:=([],0)) 4 [2,3,4,5] [15,16] (λs=>[(15,.os 3 (ab.rows s.1).length),(16,.d (.v (.int .i64 s.2)))]) (λs=>[(3,.row 32 12 (ab.rows s.1))]) g ?_;rintro n ⟨s48,s49⟩ _ g;change qR (Gu n) a0 a1 s48 s49=_ at g;rw[qR]at g;refine yz ?_;refine aS g ?_ ?_<;>intro _ g;refine yo [0,1,2,3,4,5,6,7,8,9,10,11,12,13,14,15] [(16,.one)] [] ?_;refine yY g ai.aM λx _ _ g=>?_;refine yY g ab.aM λx _ _ g=>?_;refine yo [0,1,2,3,4,5,6,7,8] [(9,.one)] [] ?_;refine yY g ab.aM λx _ _ g=>?_;obtain⟨y,z,g⟩:=cq g (o.a.vf _ _);refine yl (yC z) ?_;refine yc g (o.a.zy _) λv g=>?_;refine aS g ?_ ?_<;>intro _ g;refine yo [0,1,2,3,4,5,6,7] (tk [25,27]) [] ?_;refine yY g ab.aM λx _ _ g=>?_;obtain⟨k,g⟩:=cP g;refine yk<|ao.fV (rows2:=(ab.rows ([x,y]))) az.nil rfl rfl rfl rfl rfl zg rfl zi rfl rfl (ab.dJ _) rfl rfl (zo k) (yz ?_)
 iterate 2 (exact yk (yN (_,_) n ⟨by omega,g⟩))
 refine aS g ?_ ?_<;>intro _ g;refine yc g (o.a.zx _) λy g=>?_;cases g;exact zl;refine yk<|ao.inl (rs:=_) rfl func52 rfl zk rfl ntmps52 rfl rfl (yz ?_)
 cases g;exact zl
theorem WW {n} (o:Ou n):MA (sk (Gu n)):=by
 intro a0 r g;rw[sk]at g;refine yw func26 ntmps26 ?_;refine Ok.stuck aV ?_;refine ao.lG 0 11 32 12 2 rfl rfl rfl ?_;refine yL (S:=Int×(List ab)) (G:=λm s=>oO (Gu m) a0 s.1 s.2) (s0:=(0,[])) 3 [1,2,9,10] [11] (λs=>[(11,.d (.v (.int .i64 s.1)))]) (λs=>[(2,.row 32 12 (ab.rows s.2)),(0,.box [.d (.v (.int .i64 a0.Op)),.d (.v (.int .i64 a0.aq.aL)),.d (.v (.int .i64 a0.aq.aw.Kind)),.d (.v (.int .i64 a0.aq.aw.Lo)),.d (.v (.int .i64 a0.aq.aw.Hi)),.d (.sl 1 (aW a0.aq.aw.Names)),.d (.sl 6 (ai.rows a0.aq.aw.aB)),.d (.sl 2 (aN.rows a0.aq.aw.aY)),.d (.v (.int .i64 a0.N)),.d (.v (.string ⟨⟨(a0.Text)⟩⟩)),.d (.v (.int .i64 a0.At)),.os 2 (ab.rows s.2).length])]) g ?_;rintro n ⟨s1,s13⟩ _ g;change qS (Gu n) a0 s1 s13=_ at g;rw[qS]at g;refine yz ?_;refine bJ g λ_ g=>?_;refine yX g ab.aM λx _ _ g=>?_;refine yo [0,1,2,3,4] (tk [16,18,22]) [] ?_;obtain⟨y,z,g⟩:=cq g (o.a.MH _);refine yl (yC z) ?_;obtain⟨k,g⟩:=cP g;refine yk<|ao.fV (rows2:=(ab.rows ([y]))) az.nil rfl rfl rfl rfl rfl zg rfl zi rfl rfl (ab.dJ _) rfl rfl (zo k) (yz ?_)
 exact yk (yN (_,_) n ⟨by omega,g⟩)
theorem w9 {n} (o:Ou n):C9 (B9 (Gu n)):=by
 intro a0 a1 r g;rw[B9]at g;refine yw func9 ntmps9 ?_;refine yc g (o.a.rR _ _) λy g=>?_
 iterate 2 (refine aZ g λ_ g=>?_)
 refine yc g (o.a.Xd _) λy g=>?_;refine yc g (o.a.vf _ _) λy g=>?_;refine yc g (o.a.MH _) λy g=>?_;cases g;exact zl
theorem Ve {n} (o:Ou n):LB (yG (Gu n)):=by
 intro a0 a1 r g;rw[yG]at g;refine yw func159 ntmps159 ?_;refine aZ g λ_ g=>?_;refine yk<|yL (S:=Int) (G:=λm s=>xg (Gu m) a0 a1 s) (s0:=0) 0 [0,1,4] [5] (λs=>[(5,.d (.v (.int .i64 s)))]) (λs=>[]) g ?_;rintro n s2 _ g;change xh (Gu n) a0 a1 s2=_ at g;rw[xh]at g;refine yz ?_
 refine bJ g λ_ g=>?_;refine yo [0,1,2,3,4,5,6,7,8] [] [] ?_
 iterate 2 (refine yY g lC λx _ _ g=>?_)
 refine aZ g λ_ g=>?_;exact yk (yN _ n ⟨by omega,g⟩)
theorem Vf {n} (o:Ou n):LC (uU (Gu n)):=by
 intro a0 a1 r g;rw[uU]at g;refine yw func106 ntmps106 ?_
 iterate 3 (refine aZ g λ_ g=>?_)
 refine yc g (o.a.LH _ _) λy g=>?_
 iterate 3 (refine aZ g λ_ g=>?_)
 refine yk<|yL (S:=Bool×Int) (G:=λm s=>qG (Gu m) a0 a1 s.1 s.2) (s0:=(false,0)) 2 [2,3] [4,5] (λs=>[(4,.d (.v (.bool s.1))),(5,.d (.v (.int .i64 s.2)))]) (λs=>[]) g ?_;rintro n ⟨s8,s9⟩ _ g;change qH (Gu n) a0 a1 s8 s9=_ at g;rw[qH]at g;refine yz ?_
 refine aS g ?_ ?_<;>intro _ g;refine yo [0,1,2,3,4,5,6,7,8,9,10,11,12,13,14,15,16,17,18,19,20,21,22,23,24,25,26,27,28] [] [] ?_
 iterate 2 (refine yY g aN.aM λx _ _ g=>?_)
 refine aZ g λ_ g=>?_
 iterate 2 (refine yY g aN.aM λx _ _ g=>?_)
 obtain⟨y,z,g⟩:=cq g (o.a.LH _ _);refine yl (yC z) ?_;refine aZ g λ_ g=>?_;exact yk (yN (_,_) n ⟨by omega,g⟩);refine yk<|yL (S:=Int) (G:=λm s=>oI (Gu m) a0 a1 s) (s0:=0) 2 [2,3,4,5] [6] (λs=>[(6,.d (.v (.int .i64 s)))]) (λs=>[]) g ?_;rintro n s22 _ g;change qF (Gu n) a0 a1 s22=_ at g;rw[qF]at g;refine yz ?_
 refine bJ g λ_ g=>?_;refine yo [0,1,2,3,4,5,6,7,8,9,10,11] [] [] ?_
 iterate 2 (refine yY g ai.aM λx _ _ g=>?_)
 obtain⟨y,z,g⟩:=cq g (o.a.LI _ _);refine yl (yC z) ?_;refine aZ g λ_ g=>?_;exact yk (yN _ n ⟨by omega,g⟩)
theorem WX {n} (o:Ou n):MB (vm (Gu n)):=by
 intro a0 a1 r g;rw[vm]at g;refine yw func66 ntmps66 ?_;refine bJ g λ_ g=>?_;refine yc g (o.a.LI _ _) λy g=>?_;cases g;exact zl
theorem WY {n} (o:Ou n):MC (vn (Gu n)):=by
 intro a0 a1 r g;rw[vn]at g;refine yw func30 ntmps30 ?_;refine aZ g λ_ g=>?_;refine yc g (o.a.Xe _ _) λy g=>?_
 iterate 5 (refine aZ g λ_ g=>?_)
 refine yk<|yL (S:=Int) (G:=λm s=>qT (Gu m) a0 a1 s) (s0:=0) 2 [2,3,4] [5] (λs=>[(5,.d (.v (.int .i64 s)))]) (λs=>[]) g ?_;rintro n s8 _ g;change qU (Gu n) a0 a1 s8=_ at g;rw[qU]at g;refine yz ?_
 refine bJ g λ_ g=>?_;refine yo [0,1,2,3,4,5,6,7,8,9,10,11] [] [] ?_
 iterate 2 (refine yY g ab.aM λx _ _ g=>?_)
 obtain⟨y,z,g⟩:=cq g (o.a.MI _ _);refine yl (yC z) ?_;refine aZ g λ_ g=>?_;exact yk (yN _ n ⟨by omega,g⟩)
theorem WZ {n} (o:Ou n):ED (vo (Gu n)):=by
 intro a0 a1 r g;rw[vo]at g;refine yw func11 ntmps11 ?_
 iterate 4 (refine aZ g λ_ g=>?_)
 refine yc g (o.a.MI _ _) λy g=>?_;refine aZ g λ_ g=>?_;refine yk<|yL (S:=Int) (G:=λm s=>nH (Gu m) a0 a1 s) (s0:=0) 2 [2,3,4] [5] (λs=>[(5,.d (.v (.int .i64 s)))]) (λs=>[]) g ?_;rintro n s7 _ g;change qV (Gu n) a0 a1 s7=_ at g;rw[qV]at g;refine yz ?_
 refine bJ g λ_ g=>?_;refine yo [0,1,2,3,4,5,6,7,8,9,10] [] [] ?_
 iterate 2 (refine yY g TParam.aM λx _ _ g=>?_)
 refine yl (bG.toP (bG.Wm rfl rfl rfl zk Tryz.underlying63 rfl)) ?_;refine aZ g λ_ g=>?_;exact yk (yN _ n ⟨by omega,g⟩)
theorem W0 {n} (o:Ou n):EG (sm (Gu n)):=by
 intro a0 r g;rw[sm]at g;refine yw func13 ntmps13 ?_;refine yk<|yL (S:=Int×Int) (G:=λm s=>oP (Gu m) a0 s.1 s.2) (s0:=(1,0)) 1 [2,7,8] [3,9] (λs=>[(3,.d (.v (.int .i64 s.1))),(9,.d (.v (.int .i64 s.2)))]) (λs=>[]) g ?_;rintro n ⟨s1,s2⟩ _ g;change qW (Gu n) a0 s1 s2=_ at g;rw[qW]at g;refine yz ?_
 refine bJ g λ_ g=>?_;refine yX g ab.aM λx _ _ g=>?_;refine yc g (o.a.uY _) λy g=>?_;exact yk (yN (_,_) n ⟨by omega,g⟩)
theorem Vg {n} (o:Ou n):LD (uV (Gu n)):=by
 intro a0 r g;rw[uV]at g;refine yw func102 ntmps102 ?_;refine aS g ?_ ?_<;>intro _ g;refine aZ g λ_ g=>?_
 iterate 2 (refine bJ g λ_ g=>?_;exact lh g)
theorem W1 {n} (o:Ou n):MD (vp (Gu n)):=by
 intro a0 r g;rw[vp]at g;refine yw func55 ntmps55 ?_
 iterate 2 (refine aZ g λ_ g=>?_)
 iterate 2 (obtain⟨x,w,j,g⟩:=bP g;refine yv (bG.toP (bG.xp ((0:Int).toNat) rfl rfl rfl rfl j w)) ?_;refine aZ g λ_ g=>?_)
 refine yk<|yL (S:=Int) (G:=λm s=>tQ (Gu m) a0 s) (s0:=0) 0 [0,2] [3] (λs=>[(3,.d (.v (.int .i64 s)))]) (λs=>[]) g ?_;rintro n s9 _ g;change qX (Gu n) a0 s9=_ at g;rw[qX]at g;refine yz ?_
 refine bJ g λ_ g=>?_;obtain⟨x,w,j,g⟩:=bP g;refine yv (bG.toP (bG.xp ((s9:Int).toNat) rfl rfl rfl rfl j w)) ?_;refine yc g (o.a.Vx _) λy g=>?_;refine aZ g λ_ g=>?_;exact yk (yN _ n ⟨by omega,g⟩)
theorem Vh {n} (o:Ou n):LF (nT (Gu n)):=by
 intro a0 r g;rw[nT]at g;refine yw func103 ntmps103 ?_
 iterate 10 (refine aZ g λ_ g=>?_)
 exact lh g
theorem Vi {n} (o:Ou n):LG (pE (Gu n)):=by
 intro a0 r g;rw[pE]at g;refine yw func104 ntmps104 ?_
 iterate 16 (refine aZ g λ_ g=>?_)
 exact lh g
theorem W2 {n} (o:Ou n):ME (pR (Gu n)):=by
 intro a0 a1 r g;rw[pR]at g;refine yw func59 ntmps59 ?_;refine Ok.stuck aV ?_;refine ao.lG 2 4 71 5 3 rfl rfl rfl ?_;refine yL (S:=Bool×Int×(List af)) (G:=λm s=>jI (Gu m) a0 a1 s.1 s.2.1 s.2.2) (s0:=(false,0,[])) 4 [0,3,4,6] [5,7] (λs=>[(5,.d (.v (.bool s.1))),(7,.d (.v (.int .i64 s.2.1)))]) (λs=>[(3,.row 71 5 (af.rows s.2.2)),(2,.box [.d (.v (.int .i64 0)),.d (.v (.string ⟨⟨([])⟩⟩)),.d (.v (.int .i64 0)),.d (.v (.int .i64 a1.At)),.os 3 (af.rows s.2.2).length])]) g ?_;rintro n ⟨s1,s2,s7⟩ _ g;change q0 (Gu n) a0 a1 s1 s2 s7=_ at g;rw[q0]at g;refine yz ?_;refine aS g ?_ ?_<;>intro _ g;refine yX g ab.aM λx _ _ g=>?_;refine yc g (o.a.Xh _ _) λy g=>?_;refine aZ g λ_ g=>?_;refine yk<|ao.BK 5 (rows':=af.rows ([y.fst])) rfl zi (yz ?_)
 obtain⟨k,g⟩:=cP g;refine yk<|DO.I8 rfl rfl zg rfl rfl zg rfl rfl (af.dJ _) rfl rfl rfl (zo k) (yz ?_)
 exact yk (yN (_,_,_) n ⟨by omega,g⟩);refine yc g (o.a.Vy _) λy g=>?_;refine aZ g λ_ g=>?_;refine yc g (o.a.Vz _) λy g=>?_
 iterate 2 (refine aS g ?_ ?_<;>intro _ g)
 refine Ok.stuck aV ?_;refine ao.lG 2 4 71 5 4 rfl rfl rfl ?_;refine yL (S:=Int×(List af)) (G:=λm s=>mr (Gu m) a1 s7 y s.1 s.2) (s0:=(0,[])) 5 [0,3,4,5,6,7,10,13] [14] (λs=>[(14,.d (.v (.int .i64 s.1)))]) (λs=>[(4,.row 71 5 (af.rows s.2)),(2,.box [.d (.v (.int .i64 51)),.d (.v (.string ⟨⟨(y)⟩⟩)),.d (.v (.int .i64 0)),.d (.v (.int .i64 a1.At)),.os 4 (af.rows s.2).length])]) g ?_;rintro n ⟨s19,s24⟩ _ g;change qY (Gu n) a1 s7 y s19 s24=_ at g;rw[qY]at g;refine yz ?_;refine bJ g λ_ g=>?_;refine yo [0,1,2,3,4,5,6,7,8,9,10,11,12,13,14,15,16,17,18] (tk [58,60,64]) [] ?_;obtain⟨x,w,j,g⟩:=bP g;refine yl (yr j w) ?_;refine yl (ym s19.toNat 3 (af.aM w)) ?_;obtain⟨t,w,j,g⟩:=bP g;refine yl (yr j w) ?_;refine yl (ym s19.toNat 0 (af.aM w)) ?_;obtain⟨x2,w,j,g⟩:=bP g;refine yl (yr j w) ?_;refine yl (ym ((IntKind.i64.wrap (s19+1)).toNat) 0 (af.aM w)) ?_;obtain⟨k,g⟩:=cP g;refine yk<|ao.fV (rows2:=(af.rows ([{Kind:=52,Text:=[],N:=0,At:=x.At,Kids:=[t,x2]:af}]))) az.nil rfl rfl rfl rfl rfl zg rfl zi rfl rfl (af.dJ _) rfl rfl (zo k) (yz ?_)
 exact yk (yN (_,_) n ⟨by omega,g⟩);refine bJ g λ_ g=>?_;refine aZ g λ_ g=>?_;refine yk<|yL (S:=(List af)×Int) (G:=λm s=>lO (Gu m) a1 s7 y s.1 s.2) (s0:=(s7,0)) 4 [0,3,4,5,6,7,10,15] [13,16] (λs=>[(13,.os 3 (af.rows s.1).length),(16,.d (.v (.int .i64 s.2)))]) (λs=>[(3,.row 71 5 (af.rows s.1)),(2,.box [.d (.v (.int .i64 51)),.d (.v (.string ⟨⟨(y)⟩⟩)),.d (.v (.int .i64 0)),.d (.v (.int .i64 a1.At)),.os 3 (af.rows s.1).length])]) g ?_;rintro n ⟨s35,s36⟩ _ g;change qZ (Gu n) a1 s7 y s35 s36=_ at g;rw[qZ]at g;refine yz ?_
 refine bJ g λ_ g=>?_;refine yo [0,1,2,3,4,5,6,7,8,9,10,11,12,13,14,15] [(16,.one)] [] ?_;refine yY g lC λx _ _ g=>?_;obtain⟨x,w,j,g⟩:=bP g;refine yl (yr j w) ?_;refine yl (ym s36.toNat 0 (af.aM w)) ?_;obtain⟨x,w,j,g⟩:=bP g;refine yl (yr j w) ?_;refine yk<|ao.sE s36.toNat 0 az.nil (by rfl) (by rfl) (by rfl) (by rfl) (by rfl) (by rfl) (by rfl) (by rfl) zg (by rfl) (yg (af.aM w)) (by rfl) (by rfl) (by rfl) (by rfl) (yz ?_)
 exact yk (yN (_,_) n ⟨by omega,g⟩);refine aS g ?_ ?_<;>intro _ g;refine yo [] (tk [0,3,6,10,12,16]) [] ?_
 iterate 4 (refine yt zp ?_)
 refine yo [] (tk [0,3,6,9,12,15,18,21,24,27,30,33,36,40,42]) [] ?_
 iterate 2 ((iterate 3 (refine yt zp ?_));refine aS g ?_ ?_<;>intro _ g;(iterate 2 (refine yt zp ?_)))
 iterate 2 ((iterate 5 (refine yt zp ?_));cases g;exact zl;(iterate 2 (refine yt zp ?_)))
 iterate 8 (refine yt zp ?_)
 cases g;exact zl;refine aS g ?_ ?_<;>intro _ g;exact lh g;refine aS g ?_ ?_<;>intro _ g;refine yo [] (tk [0,3,6,10,12,16]) [] ?_
 iterate 4 (refine yt zp ?_)
 refine yo [] (tk [0,3,6,9,12,15,18,21,25,27]) [] ?_
 iterate 3 (refine yt zp ?_)
 refine aS g ?_ ?_<;>intro _ g
 iterate 2 (refine yt zp ?_)
 obtain⟨y,z,g⟩:=cq g (o.a.Xg _);refine yu zp (bG.call z rfl rfl) ?_
 iterate 4 (refine yt zp ?_)
 cases g;exact zl
 iterate 5 (refine yt zp ?_)
 cases g;exact zl;refine aS g ?_ ?_<;>intro _ g
 iterate 2 (refine aZ g λ_ g=>?_)
 refine yo [] (tk [0,3,6,9,12,15,18,22,24,28]) [] ?_;obtain⟨x,w,j,g⟩:=bP g;refine yu zp (yi j (TParam.aM w)) ?_
 iterate 6 (refine yt zp ?_)
 cases g;exact zl
 iterate 4 (refine aZ g λ_ g=>?_)
 refine bJ g λ_ g=>?_;refine yo [0,1,2,3,4,5,6,7,8,9,10,11,12,13,14,15,16,17,18,19] [] [] ?_
 iterate 2 (refine aZ g λ_ g=>?_)
 refine yY g ab.aM λx _ _ g=>?_;refine aZ g λ_ g=>?_;refine yo [] (tk [0,3,6,9,12,15,18,21,24,27,30,33,37,39,43]) [] ?_;obtain⟨x,w,j,g⟩:=bP g;refine yu zp (yi j (ab.aM w)) ?_
 iterate 6 (refine yt zp ?_)
 obtain⟨x,w,j,g⟩:=bP g;refine yu zp (yi j (lC w)) ?_
 iterate 5 (refine yt zp ?_)
 cases g;exact zl
end Go.Proofs.YtnocmolegijmkaaGreat
end

section
set_option maxRecDepth 100000
noncomputable section
namespace Go.Proofs.YtnocmolegijmkaaGreat
open Go Go.Bw
theorem hu:∀n,Ku n:=by
 intro n
 induction n using Nat.strongRecOn with|_ n ih=>?_
 rcases n with _|n
 ·constructor<;>(repeat intro _)<;>contradiction
 ·have h:Ou n:=λm hm=>ih m (by omega);exact⟨Wr h,Ws h,Wt h,Wu h,w8 h,UG h,UH h,UI h,UJ h,Wv h,Ww h,UK h,UL h,UM h,Wx h,UN h,UO h,UP h,UQ h,UR h,Wy h,Wz h,WA h,PK h,QG h,WB h,WC h,WD h,WE h,WG h,WH h,WI h,WJ h,US h,OZ h,UT h,UU h,UW h,UX h,UY h,UZ h,U0 h,TQ h,TR h,U1 h,U2 h,U3 h,U4 h,PL h,U5 h,PM h,WK h,WL h,U6 h,U7 h,U8 h,U9 h,U' h,Va h,Vb h,Vc h,Vd h,WM h,WO h,Rz h,WQ h,WR h,WS h,RB h,WT h,WU h,WV h,WW h,w9 h,Ve h,Vf h,WX h,WY h,WZ h,W0 h,Vg h,W1 h,Vh h,Vi h,W2 h⟩
