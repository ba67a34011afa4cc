/- Printed by a program: what functions answer, and that they do. -/
import Derived.Test.YtnocmolegijmkaaGreatKGA3
import Derived.Test.YtnocmolegijmkaaGreatKGA6
import Derived.Test.YtnocmolegijmkaaGreatKGA7
set_option linter.all false
section
set_option maxRecDepth 100000
noncomputable section
namespace Go.Proofs.YtnocmolegijmkaaGreat
open Go Go.Bw Go.Proofs.Tryz
/-(plexus.plexusref18.Scope).together-/
theorem abj {n} (o:Ou n):Q5 (yR (Gu n)):=by
 intro a0 a1 a2 a3 a4 r g;rw[yR]at g;refine yw func216 ntmps216 ?_;refine yo [] (tk [0,3,13,16]) [2,3] ?_
 iterate 3 (refine yt zp ?_)
 refine yc g (o.a.sb _) λy g=>?_;refine aD g ?_ ?_<;>intro _ g;refine yo [] (tk [0,3,7,10]) [] ?_
 iterate 3 (refine yt zp ?_)
 iterate 2 (refine yc g (o.a.sb _) λy g=>?_;refine aD g ?_ ?_<;>intro _ g;refine yc g (o.a.dU _ _) λy g=>?_;cases g;exact yj;refine yc g (o.a.ke _ _ _) λy g=>?_;refine aD g ?_ ?_<;>intro _ g;refine yo [0,1] [(2,.one)] [] ?_;cases g;exact yj;(iterate 2 (refine aD g ?_ ?_<;>intro _ g));refine yc g (o.a.dU _ _) λy g=>?_;(iterate 2 (cases g;exact yj;refine yc g (o.a.ke _ _ _) λy g=>?_;refine aD g ?_ ?_<;>intro _ g;refine yo [0,1] [(2,.one)] [] ?_;cases g;exact yj;refine yc g (o.a.sb _) λy g=>?_;refine aD g ?_ ?_<;>intro _ g;refine yo [0,1,2,3,4] [(5,.one)] [] ?_;cases g;exact yj;refine yo [0,1,2,3,4] [(5,.one)] [] ?_));cases g;exact yj)
/-(plexus.plexusref18.Scope).list-/
theorem abk {n} (o:Ou n):Q6 (qb (Gu n)):=by
 intro a0 a1 a2 r g;rw[qb]at g;refine yw func217 ntmps217 ?_;refine Ok.stuck aW ?_;refine az.qO 6 32 12 3 rfl rfl ?_;refine yL (S:=(List ab)×(List ab)×Int) (G:=λm s=>kI (Gu m) a0 a1 a2 s.1 s.2.1 s.2.2) (s0:=([],[],0)) 4 [1,2,3,7] [6,8,9] (λs=>[(6,.os 3 (ab.rows s.1).length),(8,.os 2 (ab.rows s.2.1).length),(9,.d (.v (.int .i64 s.2.2)))]) (λs=>[(3,.row 32 12 (ab.rows s.1)),(2,.row 32 12 (ab.rows s.2.1))]) g ?_;rintro n ⟨s1,s2,s3⟩ _ g;change tJ (Gu n) a0 a1 a2 s1 s2 s3=_ at g;rw[tJ]at g;refine yz ?_;refine bH g λ_ g=>?_;refine yo [] (tk [0,3,6,9,12,15,18,21,24,27,30,33,36,46,49]) [13,14] ?_
 iterate 2 (refine yt zp ?_)
 obtain⟨x,w,j,g⟩:=bB g;refine yu zp (yi j (af.aI w)) ?_
 iterate 3 (refine yt zp ?_)
 obtain⟨x,w,j,g⟩:=bB g;refine yu zp (yi j (ay.aI w)) ?_;refine yt zp ?_;obtain⟨y,z,g⟩:=bj g (o.a.ke _ _ _);refine yu zp (bm.call z rfl rfl) ?_
 iterate 4 (refine yt zp ?_)
 refine aD g ?_ ?_<;>intro _ g;refine yo [0,1] [(2,.one)] [] ?_;cases g;exact yj;refine yk<|az.wU 6 (rows':=ab.rows ([y.fst])) rfl zi (yz ?_)
 obtain⟨k,g⟩:=cD g;refine yk<|DO.re rfl rfl zg rfl rfl zg rfl rfl (ab.de _) rfl rfl rfl (zo k) (yz ?_)
 exact yk (yN (_,_,_) n ⟨by omega,g⟩)
/-(plexus.plexusref18.Scope).call-/
theorem abl {n} (o:Ou n):Q7 (kX (Gu n)):=by
 intro a0 a1 a2 r g;rw[kX]at g;refine yw func218 ntmps218 ?_;refine yc g (o.a.abH _ _) λy g=>?_;refine aD g ?_ ?_<;>intro _ g;refine yc g (o.a.dU _ _) λy g=>?_;cases g;exact yj;refine yc g (o.a.sb _) λy g=>?_;refine aD g ?_ ?_<;>intro _ g;refine yc g (o.a.abK _ _ _) λy g=>?_;cases g;exact zl;refine aD g ?_ ?_<;>intro _ g;refine yc g (o.a.mJ _) λy g=>?_;refine yo [0,1,2,3,4,5,6,7,8,9,10,11,12] [(13,.one)] [] ?_
 iterate 2 (obtain⟨y,z,g⟩:=bj g (o.a.iO _);refine yl (yC z) ?_)
 obtain⟨y,z,g⟩:=bj g (o.a.gS _ _ _);refine yl (yC z) ?_;refine yo [] (tk [0,3,6,9,13,16]) [] ?_
 iterate 5 (refine yt zp ?_)
 cases g;exact zl;refine yc g (o.a.abL _ _) λy g=>?_;cases g;exact zl
/-(plexus.plexusref18.Scope).construct-/
set_option maxHeartbeats 0 in
theorem abm {n} (o:Ou n):Q8 (mB (Gu n)):=by
 intro a0 a1 a2 r g;rw[mB]at g;refine yw func258 ntmps258 ?_;refine aD g ?_ ?_<;>intro _ g;refine yo [0,1,2,3,4] [] [] ?_;refine aD g ?_ ?_<;>intro _ g;refine yo [0,1,2,3] (tk [13,16]) [] ?_;obtain⟨y,z,g⟩:=bj g (o.a.dU _ _);refine yl (yC z) ?_;cases g;exact yj;refine yo [0,1,2,3,4,5,6] (tk [21,24,27,31,34]) [] ?_;obtain⟨y,z,g⟩:=bj g (o.a.iO _);refine yl (yC z) ?_;obtain⟨y,z,g⟩:=bj g (o.a.gS _ _ _);refine yl (yC z) ?_;refine yo [] (tk [0,3,7,10]) [] ?_
 iterate 3 (refine yt zp ?_)
 cases g;exact zl;refine aD g ?_ ?_<;>intro _ g;refine yo [0,1,2,3,4,5,6,7,8,9] [] [] ?_;refine aD g ?_ ?_<;>intro _ g;refine yo [0,1,2,3,4,5,6] (tk [21,24,27,31,34]) [] ?_;obtain⟨y,z,g⟩:=bj g (o.a.iO _);refine yl (yC z) ?_;obtain⟨y,z,g⟩:=bj g (o.a.gS _ _ _);refine yl (yC z) ?_;refine yo [] (tk [0,3,7,10]) [] ?_
 iterate 3 (refine yt zp ?_)
 cases g;exact zl;refine aD g ?_ ?_<;>intro _ g;refine yo [0,1,2,3] (tk [13,16]) [] ?_;obtain⟨y,z,g⟩:=bj g (o.a.dU _ _);refine yl (yC z) ?_;cases g;exact yj;refine yo [0,1,2,3,4,5,6] (tk [21,24,27,31,34]) [] ?_;obtain⟨y,z,g⟩:=bj g (o.a.iO _);refine yl (yC z) ?_;obtain⟨y,z,g⟩:=bj g (o.a.gS _ _ _);refine yl (yC z) ?_;refine yo [] (tk [0,3,7,10]) [] ?_
 iterate 3 (refine yt zp ?_)
 cases g;exact zl;refine aD g ?_ ?_<;>intro _ g;refine yo [0,1,2,3,4,5,6,7,8,9] [] [] ?_;refine aD g ?_ ?_<;>intro _ g;refine Ok.stuck aW ?_;refine az.jN 6 11 32 12 8 rfl rfl rfl ?_;refine yL (S:=Int×(List ab)×aS) (G:=λm s=>lv (Gu m) a0 a1 a2 s.1 s.2.1 s.2.2) (s0:=(0,[],aS.z)) 9 [3,4,6,7,9,10] [13] (λs=>[(13,.d (.v (.int .i64 s.1)))]) (λs=>[(8,.row 32 12 (ab.rows s.2.1)),(7,.box ((aS.cs s.2.2).map .d)),(6,.box [.d (.v (.int .i64 23)),.d (.v (.int .i64 a2.aK)),.d (.v (.int .i64 a2.ai.Kind)),.d (.v (.int .i64 a2.ai.Lo)),.d (.v (.int .i64 a2.ai.Hi)),.d (.sl 1 (aT a2.ai.Names)),.d (.sl 6 (ah.rows a2.ai.aw)),.d (.sl 2 (aP.rows a2.ai.aX)),.d (.v (.int .i64 0)),.d (.v (.string ⟨⟨([])⟩⟩)),.d (.v (.int .i64 0)),.os 8 (ab.rows s.2.1).length])]) g ?_;rintro n ⟨s16,s28,s29⟩ _ g;change qV (Gu n) a0 a1 a2 s16 s28 s29=_ at g;rw[qV]at g;refine yz ?_
 iterate 2 (refine aD g ?_ ?_<;>intro _ g)
 refine yo [] (tk [0,3,6,9,12,15,18,21,24,27,30,40,43]) [11,12] ?_
 iterate 3 (refine yt zp ?_)
 obtain⟨x,w,j,g⟩:=bB g;refine yu zp (yi j (af.aI w)) ?_
 iterate 2 (refine yt zp ?_)
 obtain⟨y,z,g⟩:=bj g (o.a.ke _ _ _);refine yu zp (bm.xp z rfl rfl zi) ?_
 iterate 4 (refine yt zp ?_)
 iterate 3 (refine aD g ?_ ?_<;>intro _ g)
 refine yX g af.aI λx _ _ g=>?_;refine yc g (o.a.dU _ _) λv g=>?_
 iterate 4 (refine yo [] (tk [0,3,6,9,15,13,18,22,25]) [] ?_;(iterate 3 (refine yt zp ?_));obtain⟨k,g⟩:=cD g;refine yk<|az.eJ (rows2:=(ab.rows ([y.fst]))) zp rfl rfl rfl rfl rfl zg rfl zi rfl rfl (ab.de _) rfl rfl (zo k) (yz ?_);(iterate 3 (refine yt zp ?_));exact yk (yN (_,_,_) n ⟨by omega,g⟩))
 iterate 2 (refine yo [] (tk [0,3,7,10]) [] ?_;(iterate 3 (refine yt zp ?_));cases g;exact zl)
 refine aD g ?_ ?_<;>intro _ g;refine yo [0,1,2,3] (tk [13,16]) [] ?_;obtain⟨y,z,g⟩:=bj g (o.a.dU _ _);refine yl (yC z) ?_;cases g;exact yj;refine Ok.stuck aW ?_;refine az.jN 6 11 32 12 8 rfl rfl rfl ?_;refine yL (S:=Int×(List ab)×aS) (G:=λm s=>lx (Gu m) a0 a1 a2 s.1 s.2.1 s.2.2) (s0:=(0,[],aS.z)) 9 [3,4,6,7,9,10] [13] (λs=>[(13,.d (.v (.int .i64 s.1)))]) (λs=>[(8,.row 32 12 (ab.rows s.2.1)),(7,.box ((aS.cs s.2.2).map .d)),(6,.box [.d (.v (.int .i64 23)),.d (.v (.int .i64 a2.aK)),.d (.v (.int .i64 a2.ai.Kind)),.d (.v (.int .i64 a2.ai.Lo)),.d (.v (.int .i64 a2.ai.Hi)),.d (.sl 1 (aT a2.ai.Names)),.d (.sl 6 (ah.rows a2.ai.aw)),.d (.sl 2 (aP.rows a2.ai.aX)),.d (.v (.int .i64 0)),.d (.v (.string ⟨⟨([])⟩⟩)),.d (.v (.int .i64 0)),.os 8 (ab.rows s.2.1).length])]) g ?_;rintro n ⟨s47,s59,s60⟩ _ g;change qW (Gu n) a0 a1 a2 s47 s59 s60=_ at g;rw[qW]at g;refine yz ?_
 iterate 2 (refine aD g ?_ ?_<;>intro _ g)
 refine yo [] (tk [0,3,6,9,12,15,18,21,24,27,30,40,43]) [11,12] ?_
 iterate 3 (refine yt zp ?_)
 obtain⟨x,w,j,g⟩:=bB g;refine yu zp (yi j (af.aI w)) ?_
 iterate 2 (refine yt zp ?_)
 obtain⟨y,z,g⟩:=bj g (o.a.ke _ _ _);refine yu zp (bm.xp z rfl rfl zi) ?_
 iterate 4 (refine yt zp ?_)
 iterate 3 (refine aD g ?_ ?_<;>intro _ g)
 refine yX g af.aI λx _ _ g=>?_;refine yc g (o.a.dU _ _) λv g=>?_
 iterate 4 (refine yo [] (tk [0,3,6,9,15,13,18,22,25]) [] ?_;(iterate 3 (refine yt zp ?_));obtain⟨k,g⟩:=cD g;refine yk<|az.eJ (rows2:=(ab.rows ([y.fst]))) zp rfl rfl rfl rfl rfl zg rfl zi rfl rfl (ab.de _) rfl rfl (zo k) (yz ?_);(iterate 3 (refine yt zp ?_));exact yk (yN (_,_,_) n ⟨by omega,g⟩))
 iterate 2 (refine yo [] (tk [0,3,7,10]) [] ?_;(iterate 3 (refine yt zp ?_));cases g;exact zl)
 refine aD g ?_ ?_<;>intro _ g;refine yo [0,1,2,3,4] [] [] ?_;refine aD g ?_ ?_<;>intro _ g;refine yo [0,1,2,3] (tk [13,16]) [] ?_;obtain⟨y,z,g⟩:=bj g (o.a.dU _ _);refine yl (yC z) ?_;cases g;exact yj;refine Ok.stuck aW ?_;refine az.jN 6 11 32 12 8 rfl rfl rfl ?_;refine yL (S:=Int×(List ab)×aS) (G:=λm s=>qX (Gu m) a0 a1 a2 s.1 s.2.1 s.2.2) (s0:=(0,[],aS.z)) 9 [3,4,6,7,8,9,10] [16] (λs=>[(16,.d (.v (.int .i64 s.1)))]) (λs=>[(8,.row 32 12 (ab.rows s.2.1)),(7,.box ((aS.cs s.2.2).map .d)),(6,.box [.d (.v (.int .i64 24)),.d (.v (.int .i64 a2.aK)),.d (.v (.int .i64 a2.ai.Kind)),.d (.v (.int .i64 a2.ai.Lo)),.d (.v (.int .i64 a2.ai.Hi)),.d (.sl 1 (aT a2.ai.Names)),.d (.sl 6 (ah.rows a2.ai.aw)),.d (.sl 2 (aP.rows a2.ai.aX)),.d (.v (.int .i64 0)),.d (.v (.string ⟨⟨([])⟩⟩)),.d (.v (.int .i64 0)),.os 8 (ab.rows s.2.1).length])]) g ?_;rintro n ⟨s79,s91,s92⟩ _ g;change qY (Gu n) a0 a1 a2 s79 s91 s92=_ at g;rw[qY]at g;refine yz ?_
 iterate 2 (refine aD g ?_ ?_<;>intro _ g)
 refine yo [0,1,2,3,4,5,6,7,8,9,10,11,12,13,14,15,16,17,18,19] [(20,.one)] [] ?_;refine yY g af.aI λx _ _ g=>?_;obtain⟨y,z,g⟩:=bj g (o.a.iO _);refine yl (yC z) ?_;refine yY g ah.aI λx _ _ g=>?_;obtain⟨y,z,g⟩:=bj g (o.a.mJ _);refine yl (yC z) ?_;obtain⟨y,z,g⟩:=bj g (o.a.gS _ _ _);refine yl (yC z) ?_;refine yo [] (tk [0,3,6,12,10,15,19,22]) [] ?_
 iterate 2 (refine yt zp ?_)
 obtain⟨k,g⟩:=cD g;refine yk<|az.eJ (rows2:=(ab.rows y.fst)) zp rfl rfl rfl rfl rfl zg rfl (bX.refl _) rfl rfl (ab.de _) rfl rfl (zo k) (yz ?_)
 iterate 3 (refine yt zp ?_)
 exact yk (yN (_,_,_) n ⟨by omega,g⟩)
 iterate 2 (refine yo [] (tk [0,3,7,10]) [] ?_;(iterate 3 (refine yt zp ?_));cases g;exact zl)
 refine aD g ?_ ?_<;>intro _ g;refine yo [0,1,2,3,4] [] [] ?_;refine aD g ?_ ?_<;>intro _ g;refine yo [0,1,2,3] (tk [13,16]) [] ?_;obtain⟨y,z,g⟩:=bj g (o.a.dU _ _);refine yl (yC z) ?_;cases g;exact yj;refine Ok.stuck aW ?_;refine az.jN 6 11 32 12 9 rfl rfl rfl ?_;refine yL (S:=Int×(List ab)) (G:=λm s=>q0 (Gu m) a0 a1 a2 s.1 s.2) (s0:=(0,[])) 10 [3,4,6,7,8,9,10,19] [20] (λs=>[(20,.d (.v (.int .i64 s.1)))]) (λs=>[(9,.row 32 12 (ab.rows s.2)),(6,.box [.d (.v (.int .i64 25)),.d (.v (.int .i64 a2.aK)),.d (.v (.int .i64 a2.ai.Kind)),.d (.v (.int .i64 a2.ai.Lo)),.d (.v (.int .i64 a2.ai.Hi)),.d (.sl 1 (aT a2.ai.Names)),.d (.sl 6 (ah.rows a2.ai.aw)),.d (.sl 2 (aP.rows a2.ai.aX)),.d (.v (.int .i64 0)),.d (.v (.string ⟨⟨([])⟩⟩)),.d (.v (.int .i64 0)),.os 9 (ab.rows s.2).length])]) g ?_;rintro n ⟨s106,s118⟩ _ g;change tM (Gu n) a0 a1 a2 s106 s118=_ at g;rw[tM]at g;refine yz ?_;refine aD g ?_ ?_<;>intro _ g;refine yo [0,1,2,3,4,5,6,7,8,9,10,11] (tk [37,39,43]) [] ?_;refine yY g ah.aI λx _ _ g=>?_;obtain⟨y,z,g⟩:=bj g (o.a.mJ _);refine yl (yC z) ?_;obtain⟨k,g⟩:=cD g;refine yk<|az.eJ (rows2:=(ab.rows ([{Op:=6,aj:=y,N:=0,Text:=[],At:=a1.At,Kids:=[]:ab}]))) aF.nil rfl rfl rfl rfl rfl zg rfl zi rfl rfl (ab.de _) rfl rfl (zo k) (yz ?_)
 exact yk (yN (_,_) n ⟨by omega,g⟩);refine yk<|yL (S:=(List (List UInt8))×Int×(List ab)×aS) (G:=λm s=>nk (Gu m) a0 a1 a2 s106 s118 s.1 s.2.1 s.2.2.1 s.2.2.2) (s0:=([],0,s118,aS.z)) 10 [3,4,6,7,8,9,10,20] [19,21] (λs=>[(19,.os 8 (aT s.1).length),(21,.d (.v (.int .i64 s.2.1)))]) (λs=>[(8,.row 9 1 (aT s.1)),(9,.row 32 12 (ab.rows s.2.2.1)),(7,.box ((aS.cs s.2.2.2).map .d)),(6,.box [.d (.v (.int .i64 25)),.d (.v (.int .i64 a2.aK)),.d (.v (.int .i64 a2.ai.Kind)),.d (.v (.int .i64 a2.ai.Lo)),.d (.v (.int .i64 a2.ai.Hi)),.d (.sl 1 (aT a2.ai.Names)),.d (.sl 6 (ah.rows a2.ai.aw)),.d (.sl 2 (aP.rows a2.ai.aX)),.d (.v (.int .i64 0)),.d (.v (.string ⟨⟨([])⟩⟩)),.d (.v (.int .i64 0)),.os 9 (ab.rows s.2.2.1).length])]) g ?_;rintro n ⟨s124,s125,s137,s138⟩ _ g;change qZ (Gu n) a0 a1 a2 s106 s118 s124 s125 s137 s138=_ at g;rw[qZ]at g;refine yz ?_
 iterate 2 (refine aD g ?_ ?_<;>intro _ g)
 refine yk<|yL (S:=Int) (G:=λm s=>pF (Gu m) a0 a1 a2 s106 s118 s124 s125 s137 s138 s) (s0:=0) 10 [3,4,6,7,8,9,10,19,20,21] [22] (λs=>[(22,.d (.v (.int .i64 s)))]) (λs=>[]) g ?_;rintro n s141 _ g;change tK (Gu n) a0 a1 a2 s106 s118 s124 s125 s137 s138 s141=_ at g;rw[tK]at g;refine yz ?_
 refine yo [0,1,2,3,4,5,6,7,8,9,10,11,12,13,14,15,16,17,18] [] [] ?_;refine aD g ?_ ?_<;>intro _ g;refine yY g gB λx _ _ g=>?_;refine yY g af.aI λx _ _ g=>?_;refine aD g ?_ ?_<;>intro _ g;exact yk (yN _ n ⟨by omega,g⟩);refine aD g ?_ ?_<;>intro _ g;refine yo [0,1,2,3,4,5,6,7] (tk [25,28]) [] ?_;refine yY g af.aI λx _ _ g=>?_;obtain⟨y,z,g⟩:=bj g (o.a.dU _ _);refine yl (yC z) ?_;cases g;exact zl;refine yX g af.aI λx _ _ g=>?_;refine yc g (o.a.JK _ _) λy g=>?_;refine aD g ?_ ?_<;>intro _ g;refine yo [0,1,2,3,4,5,6,7] (tk [25,28]) [] ?_;refine yY g af.aI λx _ _ g=>?_;obtain⟨y,z,g⟩:=bj g (o.a.dU _ _);refine yl (yC z) ?_;cases g;exact zl;refine yX g af.aI λx _ _ g=>?_;obtain⟨k,g⟩:=cD g;refine yk<|DO.re rfl rfl zg rfl rfl zg rfl rfl rfl rfl rfl rfl (zo k) (yz ?_)
 refine yo [] (tk [0,3,6,9,12,15,18,21,24,27,30,33,36,39,42,45,48,51,54,57,60,63,66,70,73]) [] ?_
 iterate 5 (refine yt zp ?_)
 iterate 2 (obtain⟨x,w,j,g⟩:=bB g;refine yu zp (yi j (af.aI w)) ?_;(iterate 2 (refine yt zp ?_)))
 iterate 2 (refine yt zp ?_)
 obtain⟨x,w,j,g⟩:=bB g;refine yu zp (yi j (ah.aI w)) ?_;refine yt zp ?_;obtain⟨y,z,g⟩:=bj g (o.a.mJ _);refine yu zp (bm.call z rfl rfl) ?_;obtain⟨y,z,g⟩:=bj g (o.a.ke _ _ _);refine yu zp (bm.call z rfl rfl) ?_
 iterate 3 (refine yt zp ?_)
 obtain⟨x,w,j,g⟩:=bB g;refine yU zp (yr j w) ?_;refine yk<|az.qA s141.toNat 0 (by repeat(first|exact aF.nil|refine aF.cons rfl (ba.dt (cl:=false) rfl aW) ?_|refine aF.skip rfl ?_|refine aF.cons rfl (yr j w) ?_|refine aF.cons rfl (dZ (cl:=false) rfl aW) ?_)) (by rfl) (by rfl) (by rfl) (by rfl) (by rfl) (by rfl) (by rfl) (by rfl) zg (by rfl) (yg (ab.aI w)) (by rfl) (by rfl) (by rfl) (by rfl) (yz ?_)
 exact yk (yN (_,_,_,_) n ⟨by omega,g⟩);refine aD g ?_ ?_<;>intro _ g;refine yo [0,1,2,3,4,5,6,7] (tk [25,28]) [] ?_;refine yY g af.aI λx _ _ g=>?_;obtain⟨y,z,g⟩:=bj g (o.a.dU _ _);refine yl (yC z) ?_;cases g;exact zl;refine yX g af.aI λx _ _ g=>?_;refine yc g (o.a.JK _ _) λy g=>?_;refine aD g ?_ ?_<;>intro _ g;refine yo [0,1,2,3,4,5,6,7] (tk [25,28]) [] ?_;refine yY g af.aI λx _ _ g=>?_;obtain⟨y,z,g⟩:=bj g (o.a.dU _ _);refine yl (yC z) ?_;cases g;exact zl;refine yX g af.aI λx _ _ g=>?_;obtain⟨k,g⟩:=cD g;refine yk<|DO.re rfl rfl zg rfl rfl zg rfl rfl rfl rfl rfl rfl (zo k) (yz ?_)
 refine yo [] (tk [0,3,6,9,12,15,18,21,24,27,30,33,36,39,42,45,48,51,54,57,60,63,66,70,73]) [] ?_
 iterate 5 (refine yt zp ?_)
 iterate 2 (obtain⟨x,w,j,g⟩:=bB g;refine yu zp (yi j (af.aI w)) ?_;(iterate 2 (refine yt zp ?_)))
 iterate 2 (refine yt zp ?_)
 obtain⟨x,w,j,g⟩:=bB g;refine yu zp (yi j (ah.aI w)) ?_;refine yt zp ?_;obtain⟨y,z,g⟩:=bj g (o.a.mJ _);refine yu zp (bm.call z rfl rfl) ?_;obtain⟨y,z,g⟩:=bj g (o.a.ke _ _ _);refine yu zp (bm.call z rfl rfl) ?_
 iterate 3 (refine yt zp ?_)
 obtain⟨x,w,j,g⟩:=bB g;refine yU zp (yr j w) ?_;refine yk<|az.qA s141.toNat 0 (by repeat(first|exact aF.nil|refine aF.cons rfl (ba.dt (cl:=false) rfl aW) ?_|refine aF.skip rfl ?_|refine aF.cons rfl (yr j w) ?_|refine aF.cons rfl (dZ (cl:=false) rfl aW) ?_)) (by rfl) (by rfl) (by rfl) (by rfl) (by rfl) (by rfl) (by rfl) (by rfl) zg (by rfl) (yg (ab.aI w)) (by rfl) (by rfl) (by rfl) (by rfl) (yz ?_)
 exact yk (yN (_,_,_,_) n ⟨by omega,g⟩)
 iterate 2 (refine yo [] (tk [0,3,7,10]) [] ?_;(iterate 3 (refine yt zp ?_));cases g;exact zl)
 refine aD g ?_ ?_<;>intro _ g;refine yo [0,1,2,3,4] [] [] ?_;refine aD g ?_ ?_<;>intro _ g;refine yo [0,1,2,3] (tk [13,16]) [] ?_;obtain⟨y,z,g⟩:=bj g (o.a.dU _ _);refine yl (yC z) ?_;cases g;exact yj;refine yo [0,1,2,3,4,5,6,7,8,9,10,11,12,13,14,15] (tk [48,51,54,58,61]) [] ?_
 iterate 2 (refine yY g ah.aI λx _ _ g=>?_;obtain⟨y,z,g⟩:=bj g (o.a.mJ _);refine yl (yC z) ?_)
 obtain⟨y,z,g⟩:=bj g (o.a.gS _ _ _);refine yl (yC z) ?_;refine yo [] (tk [0,3,7,10]) [] ?_
 iterate 3 (refine yt zp ?_)
 cases g;exact zl;refine aD g ?_ ?_<;>intro _ g;refine yo [0,1,2,3,4] [] [] ?_;refine aD g ?_ ?_<;>intro _ g;refine yo [0,1,2,3] (tk [13,16]) [] ?_;obtain⟨y,z,g⟩:=bj g (o.a.dU _ _);refine yl (yC z) ?_;cases g;exact yj;refine yo [0,1,2,3,4,5,6] (tk [21,24,27,31,34]) [] ?_;obtain⟨y,z,g⟩:=bj g (o.a.iO _);refine yl (yC z) ?_;obtain⟨y,z,g⟩:=bj g (o.a.gS _ _ _);refine yl (yC z) ?_;refine yo [] (tk [0,3,7,10]) [] ?_
 iterate 3 (refine yt zp ?_)
 cases g;exact zl;refine yo [0,1,2,3] (tk [13,16]) [] ?_;obtain⟨y,z,g⟩:=bj g (o.a.dU _ _);refine yl (yC z) ?_;cases g;exact yj
/-(plexus.plexusref18.Scope).observe-/
set_option maxHeartbeats 0 in
theorem abn {n} (o:Ou n):Q9 (yS (Gu n)):=by
 intro a0 a1 r g;rw[yS]at g;refine yw func259 ntmps259 ?_;refine yo [] (tk [0,3,6,9,12,15,18,21,24,27,37,40]) [10,11] ?_
 iterate 2 (refine yt zp ?_)
 obtain⟨x,w,j,g⟩:=bB g;refine yu zp (yi j (af.aI w)) ?_
 iterate 2 (refine yt zp ?_)
 obtain⟨y,z,g⟩:=bj g (o.a.ke _ _ _);refine yu zp (bm.xp z rfl rfl zi) ?_
 iterate 4 (refine yt zp ?_)
 refine aD g ?_ ?_<;>intro _ g;refine yo [] (tk [0,3,7,10]) [] ?_
 iterate 2 (refine yt zp ?_)
 cases g;exact yj;refine aD g ?_ ?_<;>intro _ g;refine yc g (o.a.iO _) λy g=>?_
 iterate 4 (refine aD g ?_ ?_<;>intro _ g;refine yo [] (tk [0,3,7,10]) [] ?_;(iterate 3 (refine yt zp ?_));cases g;exact yj)
 refine aD g ?_ ?_<;>intro _ g;refine yc g (o.a.dU _ _) λy g=>?_;cases g;exact yj;refine yo [] (tk [0,3,7,10]) [] ?_
 iterate 3 (refine yt zp ?_)
 cases g;exact yj;refine aD g ?_ ?_<;>intro _ g;refine yc g (o.a.iO _) λy g=>?_;refine aD g ?_ ?_<;>intro _ g;refine yX g ah.aI λx _ _ g=>?_;refine aD g ?_ ?_<;>intro _ g;refine yo [] (tk [0,3,7,10]) [] ?_
 iterate 3 (refine yt zp ?_)
 cases g;exact yj;refine yX g ah.aI λx _ _ g=>?_;refine aD g ?_ ?_<;>intro _ g;refine yc g (o.a.dU _ _) λy g=>?_;cases g;exact yj;refine yo [] (tk [0,3,7,10]) [] ?_
 iterate 3 (refine yt zp ?_)
 cases g;exact yj;refine yc g (o.a.dU _ _) λy g=>?_;cases g;exact yj;refine aD g ?_ ?_<;>intro _ g;refine yc g (o.a.iO _) λy g=>?_;refine aD g ?_ ?_<;>intro _ g;refine yo [] (tk [0,3,7,10]) [] ?_
 iterate 3 (refine yt zp ?_)
 cases g;exact yj
 iterate 2 (refine aD g ?_ ?_<;>intro _ g;refine yc g (o.a.dU _ _) λy g=>?_;cases g;exact yj;refine yo [] (tk [0,3,7,10]) [] ?_;(iterate 3 (refine yt zp ?_));cases g;exact yj;refine aD g ?_ ?_<;>intro _ g;refine yc g (o.a.iO _) λy g=>?_)
 iterate 2 (refine aD g ?_ ?_<;>intro _ g;refine yo [] (tk [0,3,7,10]) [] ?_;(iterate 3 (refine yt zp ?_));cases g;exact yj)
 iterate 2 (refine aD g ?_ ?_<;>intro _ g;refine yc g (o.a.dU _ _) λy g=>?_;cases g;exact yj;refine yo [] (tk [0,3,7,10]) [] ?_;(iterate 3 (refine yt zp ?_));cases g;exact yj;refine aD g ?_ ?_<;>intro _ g;refine yc g (o.a.iO _) λy g=>?_;refine aD g ?_ ?_<;>intro _ g;refine yo [] (tk [0,3,7,10]) [] ?_;(iterate 3 (refine yt zp ?_));cases g;exact yj)
 refine aD g ?_ ?_<;>intro _ g;refine yc g (o.a.dU _ _) λy g=>?_;cases g;exact yj;refine yo [] (tk [0,3,7,10]) [] ?_
 iterate 3 (refine yt zp ?_)
 iterate 2 (cases g;exact yj;refine aD g ?_ ?_<;>intro _ g;refine aD g (λk g=>?_) λk g=>?_;refine yX g ah.aI λx _ _ g=>?_;refine yc g (o.a.mJ _) λy g=>?_;(refine Ok.lz (PR k) ?_;conv=>(arg 3;whnf));refine yo [] (tk [0,3,7,10]) [] ?_;(iterate 3 (refine yt zp ?_));cases g;exact yj;(refine Ok.mg (PQ k) ?_;conv=>(arg 3;whnf));refine yc g (o.a.dU _ _) λy g=>?_)
 cases g;exact yj;refine yc g (o.a.dU _ _) λy g=>?_;cases g;exact yj
theorem w60 {n} (o:Ou n):Ss (zW (Gu n)):=by
 intro a0 a1 a2 a3 r g;rw[zW]at g;refine yw func60 ntmps60 ?_;refine yc g (o.a.ke _ _ _) λy g=>?_;cases g;exact zl
theorem w30 {n} (o:Ou n):Su (vG (Gu n)):=by
 intro a0 a1 r g;rw[vG]at g;refine yw func30 ntmps30 ?_;refine aQ g λ_ g=>?_;refine yc g (o.a.JL _ _) λy g=>?_
 iterate 5 (refine aQ g λ_ g=>?_)
 refine yk<|yL (S:=Int) (G:=λm s=>uc (Gu m) a0 a1 s) (s0:=0) 2 [2,3,4] [5] (λs=>[(5,.d (.v (.int .i64 s)))]) (λs=>[]) g ?_;rintro n s8 _ g;change rm (Gu n) a0 a1 s8=_ at g;rw[rm]at g;refine yz ?_
 refine bH g λ_ g=>?_;refine yo [0,1,2,3,4,5,6,7,8,9,10,11] [] [] ?_
 iterate 2 (refine yY g ab.aI λx _ _ g=>?_)
 obtain⟨y,z,g⟩:=bj g (o.a.JM _ _);refine yl (yC z) ?_;refine aQ g λ_ g=>?_;exact yk (yN _ n ⟨by omega,g⟩)
theorem w28 {n} (o:Ou n):Sv (zX (Gu n)):=by
 intro a0 a1 r g;rw[zX]at g;refine yw func28 ntmps28 ?_;refine yc g (o.a.c54 _) λy g=>?_
 iterate 2 (refine aQ g λ_ g=>?_;refine yc g (o.a.JJ _) λy g=>?_)
 iterate 4 (refine aQ g λ_ g=>?_)
 refine yk<|yL (S:=(List (List UInt8))×Int) (G:=λm s=>rn (Gu m) a0 a1 s.1 s.2) (s0:=([],0)) 3 [2,3,4] [5,6] (λs=>[(5,.os 2 (aT s.1).length),(6,.d (.v (.int .i64 s.2)))]) (λs=>[(2,.row 9 1 (aT s.1))]) g ?_;rintro n ⟨s10,s11⟩ _ g;change ue (Gu n) a0 a1 s10 s11=_ at g;rw[ue]at g;refine yz ?_
 refine aD g ?_ ?_<;>intro _ g;refine yX g TParam.aI λx _ _ g=>?_;refine yc g (o.a.JJ _) λy g=>?_;refine aQ g λ_ g=>?_;refine yX g TParam.aI λx _ _ g=>?_;refine yc g (o.a.JK _ _) λy g=>?_
 iterate 3 (refine aQ g λ_ g=>?_;refine yX g TParam.aI λx _ _ g=>?_)
 obtain⟨k,g⟩:=cD g;refine yk<|DO.re rfl rfl zg rfl rfl zg rfl rfl rfl rfl rfl rfl (zo k) (yz ?_)
 exact yk (yN (_,_) n ⟨by omega,g⟩);refine yc g (o.a.iO _) λy g=>?_;refine aD g ?_ ?_<;>intro _ g;refine yc g (o.a.mJ _) λy g=>?_
 iterate 2 (refine yc g (o.a.SG _ _) λy g=>?_;refine aQ g λ_ g=>?_;refine yc g (o.a.c60 _ _ _ _) λy g=>?_;refine bH g λ_ g=>?_;refine yc g (o.a.JM _ _) λy g=>?_;cases g;exact zl)
theorem w61 {n} (o:Ou n):Sw (zY (Gu n)):=by
 intro a0 a1 r g;rw[zY]at g;refine yw func61 ntmps61 ?_
 iterate 3 (refine aQ g λ_ g=>?_)
 refine yc g (o.a.JL _ _) λy g=>?_
 iterate 2 (refine aQ g λ_ g=>?_)
 refine yk<|yL (S:=Int) (G:=λm s=>uf (Gu m) a0 a1 s) (s0:=0) 2 [2,3,4] [5] (λs=>[(5,.d (.v (.int .i64 s)))]) (λs=>[]) g ?_;rintro n s7 _ g;change ug (Gu n) a0 a1 s7=_ at g;rw[ug]at g;refine yz ?_
 refine bH g λ_ g=>?_;refine yo [0,1,2,3,4,5,6,7,8,9,10,11] [] [] ?_
 iterate 2 (refine yY g ab.aI λx _ _ g=>?_)
 obtain⟨y,z,g⟩:=bj g (o.a.SH _ _);refine yl (yC z) ?_;refine aQ g λ_ g=>?_;exact yk (yN _ n ⟨by omega,g⟩)
theorem w62 {n} (o:Ou n):Sx (zZ (Gu n)):=by
 intro a0 r g;rw[zZ]at g;refine yw func62 ntmps62 ?_;cases g;exact yj
theorem w63 {n} (o:Ou n):Sy (z6 (Gu n)):=by
 intro a0 a1 r g;rw[z6]at g;refine yw func63 ntmps63 ?_;cases g;exact zl
theorem w29 {n} (o:Ou n):Sz (oW (Gu n)):=by
 intro a0 a1 r g;rw[oW]at g;refine yw func29 ntmps29 ?_;refine yc g (o.a.SH _ _) λy g=>?_;refine aD g ?_ ?_<;>intro _ g;refine yc g (o.a.Da _) λy g=>?_;cases g;exact zl;refine aD g ?_ ?_<;>intro _ g;refine yo [0,1,2,3,4,5,6,7,8,9,10,11,12,13] (tk [43,46]) [] ?_
 iterate 2 (refine yY g ab.aI λx _ _ g=>?_;obtain⟨y,z,g⟩:=bj g (o.a.zH _ _);refine yl (yC z) ?_)
 iterate 2 (refine aQ g λ_ g=>?_)
 refine yk<|az.cH (t:=41) rfl rfl (eg rfl aW) (yz ?_)
 refine yc g (o.a.Db _ _) λy g=>?_;cases g;exact zl;refine aD g ?_ ?_<;>intro _ g;refine yo [0,1,2,3,4,5,6,7,8,9,10,11,12,13] (tk [43,46]) [] ?_
 iterate 2 (refine yY g ab.aI λx _ _ g=>?_;obtain⟨y,z,g⟩:=bj g (o.a.zH _ _);refine yl (yC z) ?_)
 iterate 2 (refine aD g ?_ ?_<;>intro _ g)
 refine yc g (o.a.Da _) λy g=>?_
 iterate 2 (cases g;exact zl;refine yo [0,1,2,3,4,5,6,7,8] [(9,.one)] [] ?_;refine yY g ab.aI λx _ _ g=>?_;obtain⟨y,z,g⟩:=bj g (o.a.Db _ _);refine yl (yC z) ?_)
 cases g;exact zl;refine aD g ?_ ?_<;>intro _ g;refine yc g (o.a.c64 _ _) λy g=>?_;cases g;exact zl;refine bH g λ_ g=>?_;refine yc g (o.a.c65 _ _) λy g=>?_;cases g;exact zl
theorem w64 {n} (o:Ou n):SA (vB (Gu n)):=by
 intro a0 a1 r g;rw[vB]at g;refine yw func64 ntmps64 ?_;refine Ok.stuck aW ?_;refine az.qO 5 32 12 3 rfl rfl ?_;refine yL (S:=(List ab)×Bool×Int) (G:=λm s=>pT (Gu m) a0 a1 s.1 s.2.1 s.2.2) (s0:=([],false,0)) 4 [2,3,4] [5,6,7] (λs=>[(5,.os 3 (ab.rows s.1).length),(6,.d (.v (.bool s.2.1))),(7,.d (.v (.int .i64 s.2.2)))]) (λs=>[(3,.row 32 12 (ab.rows s.1))]) g ?_;rintro n ⟨s1,s2,s3⟩ _ g;change uh (Gu n) a0 a1 s1 s2 s3=_ at g;rw[uh]at g;refine yz ?_;refine aD g ?_ ?_<;>intro _ g;refine yo [0,1,2,3,4,5,6,7,8,9,10] [(11,.one)] [] ?_;refine yY g ab.aI λx _ _ g=>?_;refine yo [0,1,2,3,4,5,6,7] [(8,.one)] [] ?_;refine yY g ab.aI λx _ _ g=>?_;obtain⟨y,z,g⟩:=bj g (o.a.zH _ _);refine yl (yC z) ?_;refine aD g ?_ ?_<;>intro _ g
 iterate 2 (refine yk<|az.wU 6 (rows':=ab.rows ([y])) rfl zi (yz ?_);obtain⟨k,g⟩:=cD g;refine yk<|DO.re rfl rfl zg rfl rfl zg rfl rfl (ab.de _) rfl rfl rfl (zo k) (yz ?_);exact yk (yN (_,_,_) n ⟨by omega,g⟩))
 refine aD g ?_ ?_<;>intro _ g;refine yc g (o.a.Da _) λy g=>?_;cases g;exact zl;refine yk<|az.cH (t:=49) rfl rfl (eg rfl aW) (yz ?_)
 refine yc g (o.a.Db _ _) λy g=>?_;cases g;exact zl
theorem w65 {n} (o:Ou n):SB (vC (Gu n)):=by
 intro a0 a1 r g;rw[vC]at g;refine yw func65 ntmps65 ?_;refine Ok.stuck aW ?_;refine az.qO 5 32 12 3 rfl rfl ?_;refine yL (S:=(List ab)×Int) (G:=λm s=>nB (Gu m) a0 a1 s.1 s.2) (s0:=([],0)) 4 [2,3,4] [5,6] (λs=>[(5,.os 3 (ab.rows s.1).length),(6,.d (.v (.int .i64 s.2)))]) (λs=>[(3,.row 32 12 (ab.rows s.1))]) g ?_;rintro n ⟨s1,s2⟩ _ g;change ui (Gu n) a0 a1 s1 s2=_ at g;rw[ui]at g;refine yz ?_;refine aD g ?_ ?_<;>intro _ g;refine yo [0,1,2,3,4,5,6,7,8,9,10,11,12,13,14,15] [(16,.one)] [] ?_
 iterate 2 (refine yY g ab.aI λx _ _ g=>?_)
 refine yo [0,1,2,3,4,5,6,7,8] [(9,.one)] [] ?_;refine yY g ab.aI λx _ _ g=>?_;obtain⟨y,z,g⟩:=bj g (o.a.zH _ _);refine yl (yC z) ?_;refine aD g ?_ ?_<;>intro _ g;refine yo [0,1,2,3,4,5,6,7] (tk [25,27]) [] ?_;refine yY g ab.aI λx _ _ g=>?_;obtain⟨k,g⟩:=cD g;refine yk<|az.eJ (rows2:=(ab.rows ([x,y]))) aF.nil rfl rfl rfl rfl rfl zg rfl zi rfl rfl (ab.de _) rfl rfl (zo k) (yz ?_)
 iterate 2 (exact yk (yN (_,_) n ⟨by omega,g⟩))
 refine aD g ?_ ?_<;>intro _ g;refine yc g (o.a.Da _) λy g=>?_;cases g;exact zl;refine yk<|az.cH (t:=58) rfl rfl (eg rfl aW) (yz ?_)
 refine yc g (o.a.Db _ _) λy g=>?_;cases g;exact zl
theorem w10 {n} (o:Ou n):IN (z8 (Gu n)):=by
 intro a0 a1 r g;rw[z8]at g;refine yw func10 ntmps10 ?_;refine yc g (o.a.c28 _ _) λy g=>?_
 iterate 2 (refine aQ g λ_ g=>?_)
 refine yc g (o.a.zH _ _) λy g=>?_;cases g;exact zl
theorem w11 {n} (o:Ou n):IP (Aa (Gu n)):=by
 intro a0 a1 r g;rw[Aa]at g;refine yw func11 ntmps11 ?_
 iterate 4 (refine aQ g λ_ g=>?_)
 refine yc g (o.a.JM _ _) λy g=>?_;refine aQ g λ_ g=>?_;refine yk<|yL (S:=Int) (G:=λm s=>pU (Gu m) a0 a1 s) (s0:=0) 2 [2,3,4] [5] (λs=>[(5,.d (.v (.int .i64 s)))]) (λs=>[]) g ?_;rintro n s7 _ g;change uj (Gu n) a0 a1 s7=_ at g;rw[uj]at g;refine yz ?_
 refine bH g λ_ g=>?_;refine yo [0,1,2,3,4,5,6,7,8,9,10] [] [] ?_
 iterate 2 (refine yY g TParam.aI λx _ _ g=>?_)
 refine yl (bm.toP (bm.neS rfl rfl rfl zk Tryz.underlying63 rfl)) ?_;refine aQ g λ_ g=>?_;exact yk (yN _ n ⟨by omega,g⟩)
theorem w13 {n} (o:Ou n):SC (Dl (Gu n)):=by
 intro a0 r g;rw[Dl]at g;refine yw func13 ntmps13 ?_;refine yk<|yL (S:=Int×Int) (G:=λm s=>Fy (Gu m) a0 s.1 s.2) (s0:=(1,0)) 1 [2,7,8] [3,9] (λs=>[(3,.d (.v (.int .i64 s.1))),(9,.d (.v (.int .i64 s.2)))]) (λs=>[]) g ?_;rintro n ⟨s1,s2⟩ _ g;change Fx (Gu n) a0 s1 s2=_ at g;rw[Fx]at g;refine yz ?_
 refine bH g λ_ g=>?_;refine yX g ab.aI λx _ _ g=>?_;refine yc g (o.a.c13 _) λy g=>?_;exact yk (yN (_,_) n ⟨by omega,g⟩)
end Go.Proofs.YtnocmolegijmkaaGreat
end

section
set_option maxRecDepth 100000
noncomputable section
namespace Go.Proofs.YtnocmolegijmkaaGreat
open Go Go.Bw
theorem hu:∀n,Ku n:=by
 intro n
 induction n using Nat.strongRecOn with|_ n ih=>?_
 rcases n with _|n
 ·constructor<;>(repeat intro _)<;>contradiction
 ·have h:Ou n:=λm hm=>ih m (by omega);exact⟨w48 h,w23 h,w49 h,w24 h,w8 h,aat h,aau h,aav h,aaw h,w68 h,w93 h,aax h,aay h,aaz h,w92 h,aaA h,aaB h,aaC h,aaD h,aaE h,w67 h,w31 h,w70 h,VS h,WU h,w32 h,w71 h,w72 h,w73 h,w33 h,w79 h,w80 h,w35 h,aaF h,U7 h,aaG h,aaH h,aaI h,aaJ h,aaK h,aaL h,aaM h,ZH h,ZI h,aaN h,aaO h,aaP h,aaQ h,VT h,aaR h,VU h,w81 h,w78 h,aaS h,aaT h,aaU h,aaV h,aaW h,aaX h,aaY h,aaZ h,aa0 h,w34 h,w36 h,XO h,w12 h,w25 h,w50 h,XP h,w51 h,w53 h,w27 h,w26 h,w9 h,aa1 h,aa2 h,aa3 h,aa4 h,aa5 h,aa6 h,aa7 h,aa8 h,w54 h,aa9 h,w55 h,w56 h,w57 h,w58 h,aa' h,aba h,w59 h,abb h,abc h,abd h,abe h,abf h,abg h,w66 h,abh h,abi h,abj h,abk h,abl h,abm h,abn h,w60 h,w30 h,w28 h,w61 h,w62 h,w63 h,w29 h,w64 h,w65 h,w10 h,w11 h,w13 h⟩
