/- Printed by a program: what functions answer, and that they do. -/
import Derived.Test.YtfgnmgbiijpkiaaGreatKG3
import Derived.Test.YtfgnmgbiijpkiaaGreatKG6
import Derived.Test.YtfgnmgbiijpkiaaGreatKG7
set_option linter.all false
section
set_option maxRecDepth 100000
noncomputable section
namespace Go.Proofs.YtfgnmgbiijpkiaaGreat
open Go Go.Bw Go.Proofs.Tryz
/-(plexus.plexusref18.Scope).list-/
theorem abw {n} (o:Of n):Rj (pU (Gf n)):=by
 intro a0 a1 a2 r g;rw[pU]at g;refine yw func163 ntmps163 ?_;refine Ok.stuck aW ?_;refine ak.km 6 52 12 3 rfl rfl ?_;refine yL (S:=(List ae)×(List ae)×Int) (G:=λm s=>kn (Gf m) a0 a1 a2 s.1 s.2.1 s.2.2) (s0:=([],[],0)) 4 [1,2,3,7] [6,8,9] (λs=>[(6,.os 3 (ae.rows s.1).length),(8,.os 2 (ae.rows s.2.1).length),(9,.d (.v (.int .i64 s.2.2)))]) (λs=>[(3,.row 52 12 (ae.rows s.1)),(2,.row 52 12 (ae.rows s.2.1))]) g ?_;rintro n ⟨s1,s2,s3⟩ _ g;change sU (Gf n) a0 a1 a2 s1 s2 s3=_ at g;rw[sU]at g;refine yz ?_;refine br g λ_ g=>?_;refine yo [] (tk [0,3,6,9,12,15,18,21,24,27,30,33,36,46,49]) [13,14] ?_
 iterate 2 (refine yt zp ?_)
 obtain⟨x,w,j,g⟩:=a8 g;refine yu zp (yi j (ab.aF w)) ?_
 iterate 3 (refine yt zp ?_)
 obtain⟨x,w,j,g⟩:=a8 g;refine yu zp (yi j (az.aF w)) ?_;refine yt zp ?_;obtain⟨y,z,g⟩:=ay g (o.a.gM _ _ _);refine yu zp (aQ.call z rfl rfl) ?_
 iterate 4 (refine yt zp ?_)
 refine ao g ?_ ?_<;>intro _ g;refine yo [0,1] [(2,.one)] [] ?_;cases g;exact yj;refine yk<|ak.dY 6 (rows':=ae.rows ([y.fst])) rfl zi (yz ?_)
 obtain⟨k,g⟩:=bz g;refine yk<|DO.cW rfl rfl zg rfl rfl zg rfl rfl (ae.bU _) rfl rfl rfl (zo k) (yz ?_)
 exact yk (yN (_,_,_) n ⟨by omega,g⟩)
/-(plexus.plexusref18.Scope).call-/
theorem abx {n} (o:Of n):Rk (kC (Gf n)):=by
 intro a0 a1 a2 r g;rw[kC]at g;refine yw func164 ntmps164 ?_;refine yc g (o.a.abT _ _) λy g=>?_;refine ao g ?_ ?_<;>intro _ g;refine yc g (o.a.dv _ _) λy g=>?_;cases g;exact yj;refine yc g (o.a.lg _) λy g=>?_;refine ao g ?_ ?_<;>intro _ g;refine yc g (o.a.abV _ _ _) λy g=>?_;cases g;exact zl;refine ao g ?_ ?_<;>intro _ g;refine yc g (o.a.kL _) λy g=>?_;refine yo [0,1,2,3,4,5,6,7,8,9,10,11,12] [(13,.one)] [] ?_
 iterate 2 (obtain⟨y,z,g⟩:=ay g (o.a.fw _);refine yl (yC z) ?_)
 obtain⟨y,z,g⟩:=ay g (o.a.gJ _ _ _);refine yl (yC z) ?_;refine yo [] (tk [0,3,6,9,13,16]) [] ?_
 iterate 5 (refine yt zp ?_)
 cases g;exact zl;refine yc g (o.a.abW _ _) λy g=>?_;cases g;exact zl
/-(plexus.plexusref18.Scope).construct-/
set_option maxHeartbeats 0 in
theorem aby {n} (o:Of n):Rl (me (Gf n)):=by
 intro a0 a1 a2 r g;rw[me]at g;refine yw func211 ntmps211 ?_;refine ao g ?_ ?_<;>intro _ g;refine yo [0,1,2,3,4] [] [] ?_;refine ao g ?_ ?_<;>intro _ g;refine yo [0,1,2,3] (tk [13,16]) [] ?_;obtain⟨y,z,g⟩:=ay g (o.a.dv _ _);refine yl (yC z) ?_;cases g;exact yj;refine yo [0,1,2,3,4,5,6] (tk [21,24,27,31,34]) [] ?_;obtain⟨y,z,g⟩:=ay g (o.a.fw _);refine yl (yC z) ?_;obtain⟨y,z,g⟩:=ay g (o.a.gJ _ _ _);refine yl (yC z) ?_;refine yo [] (tk [0,3,7,10]) [] ?_
 iterate 3 (refine yt zp ?_)
 cases g;exact zl;refine ao g ?_ ?_<;>intro _ g;refine yo [0,1,2,3,4,5,6,7,8,9] [] [] ?_;refine ao g ?_ ?_<;>intro _ g;refine yo [0,1,2,3,4,5,6] (tk [21,24,27,31,34]) [] ?_;obtain⟨y,z,g⟩:=ay g (o.a.fw _);refine yl (yC z) ?_;obtain⟨y,z,g⟩:=ay g (o.a.gJ _ _ _);refine yl (yC z) ?_;refine yo [] (tk [0,3,7,10]) [] ?_
 iterate 3 (refine yt zp ?_)
 cases g;exact zl;refine ao g ?_ ?_<;>intro _ g;refine yo [0,1,2,3] (tk [13,16]) [] ?_;obtain⟨y,z,g⟩:=ay g (o.a.dv _ _);refine yl (yC z) ?_;cases g;exact yj;refine yo [0,1,2,3,4,5,6] (tk [21,24,27,31,34]) [] ?_;obtain⟨y,z,g⟩:=ay g (o.a.fw _);refine yl (yC z) ?_;obtain⟨y,z,g⟩:=ay g (o.a.gJ _ _ _);refine yl (yC z) ?_;refine yo [] (tk [0,3,7,10]) [] ?_
 iterate 3 (refine yt zp ?_)
 cases g;exact zl;refine ao g ?_ ?_<;>intro _ g;refine yo [0,1,2,3,4,5,6,7,8,9] [] [] ?_;refine ao g ?_ ?_<;>intro _ g;refine Ok.stuck aW ?_;refine ak.fP 6 11 52 12 8 rfl rfl rfl ?_;refine yL (S:=Int×(List ae)×aM) (G:=λm s=>kU (Gf m) a0 a1 a2 s.1 s.2.1 s.2.2) (s0:=(0,[],aM.z)) 9 [3,4,6,7,9,10] [13] (λs=>[(13,.d (.v (.int .i64 s.1)))]) (λs=>[(8,.row 52 12 (ae.rows s.2.1)),(7,.box ((aM.cs s.2.2).map .d)),(6,.box [.d (.v (.int .i64 23)),.d (.v (.int .i64 a2.aP)),.d (.v (.int .i64 a2.aj.Kind)),.d (.v (.int .i64 a2.aj.Lo)),.d (.v (.int .i64 a2.aj.Hi)),.d (.sl 1 (aN a2.aj.Names)),.d (.sl 6 (ah.rows a2.aj.ax)),.d (.sl 2 (aU.rows a2.aj.aZ)),.d (.v (.int .i64 0)),.d (.v (.string ⟨⟨([])⟩⟩)),.d (.v (.int .i64 0)),.os 8 (ae.rows s.2.1).length])]) g ?_;rintro n ⟨s16,s28,s29⟩ _ g;change qC (Gf n) a0 a1 a2 s16 s28 s29=_ at g;rw[qC]at g;refine yz ?_
 iterate 2 (refine ao g ?_ ?_<;>intro _ g)
 refine yo [] (tk [0,3,6,9,12,15,18,21,24,27,30,40,43]) [11,12] ?_
 iterate 3 (refine yt zp ?_)
 obtain⟨x,w,j,g⟩:=a8 g;refine yu zp (yi j (ab.aF w)) ?_
 iterate 2 (refine yt zp ?_)
 obtain⟨y,z,g⟩:=ay g (o.a.gM _ _ _);refine yu zp (aQ.wB z rfl rfl zi) ?_
 iterate 4 (refine yt zp ?_)
 iterate 3 (refine ao g ?_ ?_<;>intro _ g)
 refine yX g ab.aF λx _ _ g=>?_;refine yc g (o.a.dv _ _) λv g=>?_
 iterate 4 (refine yo [] (tk [0,3,6,9,15,13,18,22,25]) [] ?_;(iterate 3 (refine yt zp ?_));obtain⟨k,g⟩:=bz g;refine yk<|ak.cR (rows2:=(ae.rows ([y.fst]))) zp rfl rfl rfl rfl rfl zg rfl zi rfl rfl (ae.bU _) rfl rfl (zo k) (yz ?_);(iterate 3 (refine yt zp ?_));exact yk (yN (_,_,_) n ⟨by omega,g⟩))
 iterate 2 (refine yo [] (tk [0,3,7,10]) [] ?_;(iterate 3 (refine yt zp ?_));cases g;exact zl)
 refine ao g ?_ ?_<;>intro _ g;refine yo [0,1,2,3] (tk [13,16]) [] ?_;obtain⟨y,z,g⟩:=ay g (o.a.dv _ _);refine yl (yC z) ?_;cases g;exact yj;refine Ok.stuck aW ?_;refine ak.fP 6 11 52 12 8 rfl rfl rfl ?_;refine yL (S:=Int×(List ae)×aM) (G:=λm s=>kV (Gf m) a0 a1 a2 s.1 s.2.1 s.2.2) (s0:=(0,[],aM.z)) 9 [3,4,6,7,9,10] [13] (λs=>[(13,.d (.v (.int .i64 s.1)))]) (λs=>[(8,.row 52 12 (ae.rows s.2.1)),(7,.box ((aM.cs s.2.2).map .d)),(6,.box [.d (.v (.int .i64 23)),.d (.v (.int .i64 a2.aP)),.d (.v (.int .i64 a2.aj.Kind)),.d (.v (.int .i64 a2.aj.Lo)),.d (.v (.int .i64 a2.aj.Hi)),.d (.sl 1 (aN a2.aj.Names)),.d (.sl 6 (ah.rows a2.aj.ax)),.d (.sl 2 (aU.rows a2.aj.aZ)),.d (.v (.int .i64 0)),.d (.v (.string ⟨⟨([])⟩⟩)),.d (.v (.int .i64 0)),.os 8 (ae.rows s.2.1).length])]) g ?_;rintro n ⟨s47,s59,s60⟩ _ g;change qD (Gf n) a0 a1 a2 s47 s59 s60=_ at g;rw[qD]at g;refine yz ?_
 iterate 2 (refine ao g ?_ ?_<;>intro _ g)
 refine yo [] (tk [0,3,6,9,12,15,18,21,24,27,30,40,43]) [11,12] ?_
 iterate 3 (refine yt zp ?_)
 obtain⟨x,w,j,g⟩:=a8 g;refine yu zp (yi j (ab.aF w)) ?_
 iterate 2 (refine yt zp ?_)
 obtain⟨y,z,g⟩:=ay g (o.a.gM _ _ _);refine yu zp (aQ.wB z rfl rfl zi) ?_
 iterate 4 (refine yt zp ?_)
 iterate 3 (refine ao g ?_ ?_<;>intro _ g)
 refine yX g ab.aF λx _ _ g=>?_;refine yc g (o.a.dv _ _) λv g=>?_
 iterate 4 (refine yo [] (tk [0,3,6,9,15,13,18,22,25]) [] ?_;(iterate 3 (refine yt zp ?_));obtain⟨k,g⟩:=bz g;refine yk<|ak.cR (rows2:=(ae.rows ([y.fst]))) zp rfl rfl rfl rfl rfl zg rfl zi rfl rfl (ae.bU _) rfl rfl (zo k) (yz ?_);(iterate 3 (refine yt zp ?_));exact yk (yN (_,_,_) n ⟨by omega,g⟩))
 iterate 2 (refine yo [] (tk [0,3,7,10]) [] ?_;(iterate 3 (refine yt zp ?_));cases g;exact zl)
 refine ao g ?_ ?_<;>intro _ g;refine yo [0,1,2,3,4] [] [] ?_;refine ao g ?_ ?_<;>intro _ g;refine yo [0,1,2,3] (tk [13,16]) [] ?_;obtain⟨y,z,g⟩:=ay g (o.a.dv _ _);refine yl (yC z) ?_;cases g;exact yj;refine Ok.stuck aW ?_;refine ak.fP 6 11 52 12 8 rfl rfl rfl ?_;refine yL (S:=Int×(List ae)×aM) (G:=λm s=>qE (Gf m) a0 a1 a2 s.1 s.2.1 s.2.2) (s0:=(0,[],aM.z)) 9 [3,4,6,7,8,9,10] [16] (λs=>[(16,.d (.v (.int .i64 s.1)))]) (λs=>[(8,.row 52 12 (ae.rows s.2.1)),(7,.box ((aM.cs s.2.2).map .d)),(6,.box [.d (.v (.int .i64 24)),.d (.v (.int .i64 a2.aP)),.d (.v (.int .i64 a2.aj.Kind)),.d (.v (.int .i64 a2.aj.Lo)),.d (.v (.int .i64 a2.aj.Hi)),.d (.sl 1 (aN a2.aj.Names)),.d (.sl 6 (ah.rows a2.aj.ax)),.d (.sl 2 (aU.rows a2.aj.aZ)),.d (.v (.int .i64 0)),.d (.v (.string ⟨⟨([])⟩⟩)),.d (.v (.int .i64 0)),.os 8 (ae.rows s.2.1).length])]) g ?_;rintro n ⟨s79,s91,s92⟩ _ g;change qF (Gf n) a0 a1 a2 s79 s91 s92=_ at g;rw[qF]at g;refine yz ?_
 iterate 2 (refine ao g ?_ ?_<;>intro _ g)
 refine yo [0,1,2,3,4,5,6,7,8,9,10,11,12,13,14,15,16,17,18,19] [(20,.one)] [] ?_;refine yY g ab.aF λx _ _ g=>?_;obtain⟨y,z,g⟩:=ay g (o.a.fw _);refine yl (yC z) ?_;refine yY g ah.aF λx _ _ g=>?_;obtain⟨y,z,g⟩:=ay g (o.a.kL _);refine yl (yC z) ?_;obtain⟨y,z,g⟩:=ay g (o.a.gJ _ _ _);refine yl (yC z) ?_;refine yo [] (tk [0,3,6,12,10,15,19,22]) [] ?_
 iterate 2 (refine yt zp ?_)
 obtain⟨k,g⟩:=bz g;refine yk<|ak.cR (rows2:=(ae.rows y.fst)) zp rfl rfl rfl rfl rfl zg rfl (b4.refl _) rfl rfl (ae.bU _) rfl rfl (zo k) (yz ?_)
 iterate 3 (refine yt zp ?_)
 exact yk (yN (_,_,_) n ⟨by omega,g⟩)
 iterate 2 (refine yo [] (tk [0,3,7,10]) [] ?_;(iterate 3 (refine yt zp ?_));cases g;exact zl)
 refine ao g ?_ ?_<;>intro _ g;refine yo [0,1,2,3,4] [] [] ?_;refine ao g ?_ ?_<;>intro _ g;refine yo [0,1,2,3] (tk [13,16]) [] ?_;obtain⟨y,z,g⟩:=ay g (o.a.dv _ _);refine yl (yC z) ?_;cases g;exact yj;refine Ok.stuck aW ?_;refine ak.fP 6 11 52 12 9 rfl rfl rfl ?_;refine yL (S:=Int×(List ae)) (G:=λm s=>qH (Gf m) a0 a1 a2 s.1 s.2) (s0:=(0,[])) 10 [3,4,6,7,8,9,10,19] [20] (λs=>[(20,.d (.v (.int .i64 s.1)))]) (λs=>[(9,.row 52 12 (ae.rows s.2)),(6,.box [.d (.v (.int .i64 25)),.d (.v (.int .i64 a2.aP)),.d (.v (.int .i64 a2.aj.Kind)),.d (.v (.int .i64 a2.aj.Lo)),.d (.v (.int .i64 a2.aj.Hi)),.d (.sl 1 (aN a2.aj.Names)),.d (.sl 6 (ah.rows a2.aj.ax)),.d (.sl 2 (aU.rows a2.aj.aZ)),.d (.v (.int .i64 0)),.d (.v (.string ⟨⟨([])⟩⟩)),.d (.v (.int .i64 0)),.os 9 (ae.rows s.2).length])]) g ?_;rintro n ⟨s106,s118⟩ _ g;change sW (Gf n) a0 a1 a2 s106 s118=_ at g;rw[sW]at g;refine yz ?_;refine ao g ?_ ?_<;>intro _ g;refine yo [0,1,2,3,4,5,6,7,8,9,10,11] (tk [37,39,43]) [] ?_;refine yY g ah.aF λx _ _ g=>?_;obtain⟨y,z,g⟩:=ay g (o.a.kL _);refine yl (yC z) ?_;obtain⟨k,g⟩:=bz g;refine yk<|ak.cR (rows2:=(ae.rows ([{Op:=6,ai:=y,N:=0,Text:=[],At:=a1.At,Kids:=[]:ae}]))) aG.nil rfl rfl rfl rfl rfl zg rfl zi rfl rfl (ae.bU _) rfl rfl (zo k) (yz ?_)
 exact yk (yN (_,_) n ⟨by omega,g⟩);refine yk<|yL (S:=(List (List UInt8))×Int×(List ae)×aM) (G:=λm s=>mR (Gf m) a0 a1 a2 s106 s118 s.1 s.2.1 s.2.2.1 s.2.2.2) (s0:=([],0,s118,aM.z)) 10 [3,4,6,7,8,9,10,20] [19,21] (λs=>[(19,.os 8 (aN s.1).length),(21,.d (.v (.int .i64 s.2.1)))]) (λs=>[(8,.row 9 1 (aN s.1)),(9,.row 52 12 (ae.rows s.2.2.1)),(7,.box ((aM.cs s.2.2.2).map .d)),(6,.box [.d (.v (.int .i64 25)),.d (.v (.int .i64 a2.aP)),.d (.v (.int .i64 a2.aj.Kind)),.d (.v (.int .i64 a2.aj.Lo)),.d (.v (.int .i64 a2.aj.Hi)),.d (.sl 1 (aN a2.aj.Names)),.d (.sl 6 (ah.rows a2.aj.ax)),.d (.sl 2 (aU.rows a2.aj.aZ)),.d (.v (.int .i64 0)),.d (.v (.string ⟨⟨([])⟩⟩)),.d (.v (.int .i64 0)),.os 9 (ae.rows s.2.2.1).length])]) g ?_;rintro n ⟨s124,s125,s137,s138⟩ _ g;change qG (Gf n) a0 a1 a2 s106 s118 s124 s125 s137 s138=_ at g;rw[qG]at g;refine yz ?_
 iterate 2 (refine ao g ?_ ?_<;>intro _ g)
 refine yk<|yL (S:=Int) (G:=λm s=>po (Gf m) a0 a1 a2 s106 s118 s124 s125 s137 s138 s) (s0:=0) 10 [3,4,6,7,8,9,10,19,20,21] [22] (λs=>[(22,.d (.v (.int .i64 s)))]) (λs=>[]) g ?_;rintro n s141 _ g;change sV (Gf n) a0 a1 a2 s106 s118 s124 s125 s137 s138 s141=_ at g;rw[sV]at g;refine yz ?_
 refine yo [0,1,2,3,4,5,6,7,8,9,10,11,12,13,14,15,16,17,18] [] [] ?_;refine ao g ?_ ?_<;>intro _ g;refine yY g dQ λx _ _ g=>?_;refine yY g ab.aF λx _ _ g=>?_;refine ao g ?_ ?_<;>intro _ g;exact yk (yN _ n ⟨by omega,g⟩);refine ao g ?_ ?_<;>intro _ g;refine yo [0,1,2,3,4,5,6,7] (tk [25,28]) [] ?_;refine yY g ab.aF λx _ _ g=>?_;obtain⟨y,z,g⟩:=ay g (o.a.dv _ _);refine yl (yC z) ?_;cases g;exact zl;refine yX g ab.aF λx _ _ g=>?_;refine yc g (o.a.xi _ _) λy g=>?_;refine ao g ?_ ?_<;>intro _ g;refine yo [0,1,2,3,4,5,6,7] (tk [25,28]) [] ?_;refine yY g ab.aF λx _ _ g=>?_;obtain⟨y,z,g⟩:=ay g (o.a.dv _ _);refine yl (yC z) ?_;cases g;exact zl;refine yX g ab.aF λx _ _ g=>?_;obtain⟨k,g⟩:=bz g;refine yk<|DO.cW rfl rfl zg rfl rfl zg rfl rfl rfl rfl rfl rfl (zo k) (yz ?_)
 refine yo [] (tk [0,3,6,9,12,15,18,21,24,27,30,33,36,39,42,45,48,51,54,57,60,63,66,70,73]) [] ?_
 iterate 5 (refine yt zp ?_)
 iterate 2 (obtain⟨x,w,j,g⟩:=a8 g;refine yu zp (yi j (ab.aF w)) ?_;(iterate 2 (refine yt zp ?_)))
 iterate 2 (refine yt zp ?_)
 obtain⟨x,w,j,g⟩:=a8 g;refine yu zp (yi j (ah.aF w)) ?_;refine yt zp ?_;obtain⟨y,z,g⟩:=ay g (o.a.kL _);refine yu zp (aQ.call z rfl rfl) ?_;obtain⟨y,z,g⟩:=ay g (o.a.gM _ _ _);refine yu zp (aQ.call z rfl rfl) ?_
 iterate 3 (refine yt zp ?_)
 obtain⟨x,w,j,g⟩:=a8 g;refine yU zp (yr j w) ?_;refine yk<|ak.qg s141.toNat 0 (by repeat(first|exact aG.nil|refine aG.cons rfl (bg.du (cl:=false) rfl aW) ?_|refine aG.skip rfl ?_|refine aG.cons rfl (yr j w) ?_|refine aG.cons rfl (dX (cl:=false) rfl aW) ?_)) (by rfl) (by rfl) (by rfl) (by rfl) (by rfl) (by rfl) (by rfl) (by rfl) zg (by rfl) (yg (ae.aF w)) (by rfl) (by rfl) (by rfl) (by rfl) (yz ?_)
 exact yk (yN (_,_,_,_) n ⟨by omega,g⟩);refine ao g ?_ ?_<;>intro _ g;refine yo [0,1,2,3,4,5,6,7] (tk [25,28]) [] ?_;refine yY g ab.aF λx _ _ g=>?_;obtain⟨y,z,g⟩:=ay g (o.a.dv _ _);refine yl (yC z) ?_;cases g;exact zl;refine yX g ab.aF λx _ _ g=>?_;refine yc g (o.a.xi _ _) λy g=>?_;refine ao g ?_ ?_<;>intro _ g;refine yo [0,1,2,3,4,5,6,7] (tk [25,28]) [] ?_;refine yY g ab.aF λx _ _ g=>?_;obtain⟨y,z,g⟩:=ay g (o.a.dv _ _);refine yl (yC z) ?_;cases g;exact zl;refine yX g ab.aF λx _ _ g=>?_;obtain⟨k,g⟩:=bz g;refine yk<|DO.cW rfl rfl zg rfl rfl zg rfl rfl rfl rfl rfl rfl (zo k) (yz ?_)
 refine yo [] (tk [0,3,6,9,12,15,18,21,24,27,30,33,36,39,42,45,48,51,54,57,60,63,66,70,73]) [] ?_
 iterate 5 (refine yt zp ?_)
 iterate 2 (obtain⟨x,w,j,g⟩:=a8 g;refine yu zp (yi j (ab.aF w)) ?_;(iterate 2 (refine yt zp ?_)))
 iterate 2 (refine yt zp ?_)
 obtain⟨x,w,j,g⟩:=a8 g;refine yu zp (yi j (ah.aF w)) ?_;refine yt zp ?_;obtain⟨y,z,g⟩:=ay g (o.a.kL _);refine yu zp (aQ.call z rfl rfl) ?_;obtain⟨y,z,g⟩:=ay g (o.a.gM _ _ _);refine yu zp (aQ.call z rfl rfl) ?_
 iterate 3 (refine yt zp ?_)
 obtain⟨x,w,j,g⟩:=a8 g;refine yU zp (yr j w) ?_;refine yk<|ak.qg s141.toNat 0 (by repeat(first|exact aG.nil|refine aG.cons rfl (bg.du (cl:=false) rfl aW) ?_|refine aG.skip rfl ?_|refine aG.cons rfl (yr j w) ?_|refine aG.cons rfl (dX (cl:=false) rfl aW) ?_)) (by rfl) (by rfl) (by rfl) (by rfl) (by rfl) (by rfl) (by rfl) (by rfl) zg (by rfl) (yg (ae.aF w)) (by rfl) (by rfl) (by rfl) (by rfl) (yz ?_)
 exact yk (yN (_,_,_,_) n ⟨by omega,g⟩)
 iterate 2 (refine yo [] (tk [0,3,7,10]) [] ?_;(iterate 3 (refine yt zp ?_));cases g;exact zl)
 refine ao g ?_ ?_<;>intro _ g;refine yo [0,1,2,3,4] [] [] ?_;refine ao g ?_ ?_<;>intro _ g;refine yo [0,1,2,3] (tk [13,16]) [] ?_;obtain⟨y,z,g⟩:=ay g (o.a.dv _ _);refine yl (yC z) ?_;cases g;exact yj;refine yo [0,1,2,3,4,5,6,7,8,9,10,11,12,13,14,15] (tk [48,51,54,58,61]) [] ?_
 iterate 2 (refine yY g ah.aF λx _ _ g=>?_;obtain⟨y,z,g⟩:=ay g (o.a.kL _);refine yl (yC z) ?_)
 obtain⟨y,z,g⟩:=ay g (o.a.gJ _ _ _);refine yl (yC z) ?_;refine yo [] (tk [0,3,7,10]) [] ?_
 iterate 3 (refine yt zp ?_)
 cases g;exact zl;refine ao g ?_ ?_<;>intro _ g;refine yo [0,1,2,3,4] [] [] ?_;refine ao g ?_ ?_<;>intro _ g;refine yo [0,1,2,3] (tk [13,16]) [] ?_;obtain⟨y,z,g⟩:=ay g (o.a.dv _ _);refine yl (yC z) ?_;cases g;exact yj;refine yo [0,1,2,3,4,5,6] (tk [21,24,27,31,34]) [] ?_;obtain⟨y,z,g⟩:=ay g (o.a.fw _);refine yl (yC z) ?_;obtain⟨y,z,g⟩:=ay g (o.a.gJ _ _ _);refine yl (yC z) ?_;refine yo [] (tk [0,3,7,10]) [] ?_
 iterate 3 (refine yt zp ?_)
 cases g;exact zl;refine yo [0,1,2,3] (tk [13,16]) [] ?_;obtain⟨y,z,g⟩:=ay g (o.a.dv _ _);refine yl (yC z) ?_;cases g;exact yj
/-(plexus.plexusref18.Scope).observe-/
set_option maxHeartbeats 0 in
theorem abz {n} (o:Of n):Rm (wX (Gf n)):=by
 intro a0 a1 r g;rw[wX]at g;refine yw func212 ntmps212 ?_;refine yo [] (tk [0,3,6,9,12,15,18,21,24,27,37,40]) [10,11] ?_
 iterate 2 (refine yt zp ?_)
 obtain⟨x,w,j,g⟩:=a8 g;refine yu zp (yi j (ab.aF w)) ?_
 iterate 2 (refine yt zp ?_)
 obtain⟨y,z,g⟩:=ay g (o.a.gM _ _ _);refine yu zp (aQ.wB z rfl rfl zi) ?_
 iterate 4 (refine yt zp ?_)
 refine ao g ?_ ?_<;>intro _ g;refine yo [] (tk [0,3,7,10]) [] ?_
 iterate 2 (refine yt zp ?_)
 cases g;exact yj;refine ao g ?_ ?_<;>intro _ g;refine yc g (o.a.fw _) λy g=>?_
 iterate 4 (refine ao g ?_ ?_<;>intro _ g;refine yo [] (tk [0,3,7,10]) [] ?_;(iterate 3 (refine yt zp ?_));cases g;exact yj)
 refine ao g ?_ ?_<;>intro _ g;refine yc g (o.a.dv _ _) λy g=>?_;cases g;exact yj;refine yo [] (tk [0,3,7,10]) [] ?_
 iterate 3 (refine yt zp ?_)
 cases g;exact yj;refine ao g ?_ ?_<;>intro _ g;refine yc g (o.a.fw _) λy g=>?_;refine ao g ?_ ?_<;>intro _ g;refine yX g ah.aF λx _ _ g=>?_;refine ao g ?_ ?_<;>intro _ g;refine yo [] (tk [0,3,7,10]) [] ?_
 iterate 3 (refine yt zp ?_)
 cases g;exact yj;refine yX g ah.aF λx _ _ g=>?_;refine ao g ?_ ?_<;>intro _ g;refine yc g (o.a.dv _ _) λy g=>?_;cases g;exact yj;refine yo [] (tk [0,3,7,10]) [] ?_
 iterate 3 (refine yt zp ?_)
 cases g;exact yj;refine yc g (o.a.dv _ _) λy g=>?_;cases g;exact yj;refine ao g ?_ ?_<;>intro _ g;refine yc g (o.a.fw _) λy g=>?_;refine ao g ?_ ?_<;>intro _ g;refine yo [] (tk [0,3,7,10]) [] ?_
 iterate 3 (refine yt zp ?_)
 cases g;exact yj
 iterate 2 (refine ao g ?_ ?_<;>intro _ g;refine yc g (o.a.dv _ _) λy g=>?_;cases g;exact yj;refine yo [] (tk [0,3,7,10]) [] ?_;(iterate 3 (refine yt zp ?_));cases g;exact yj;refine ao g ?_ ?_<;>intro _ g;refine yc g (o.a.fw _) λy g=>?_)
 iterate 2 (refine ao g ?_ ?_<;>intro _ g;refine yo [] (tk [0,3,7,10]) [] ?_;(iterate 3 (refine yt zp ?_));cases g;exact yj)
 iterate 2 (refine ao g ?_ ?_<;>intro _ g;refine yc g (o.a.dv _ _) λy g=>?_;cases g;exact yj;refine yo [] (tk [0,3,7,10]) [] ?_;(iterate 3 (refine yt zp ?_));cases g;exact yj;refine ao g ?_ ?_<;>intro _ g;refine yc g (o.a.fw _) λy g=>?_;refine ao g ?_ ?_<;>intro _ g;refine yo [] (tk [0,3,7,10]) [] ?_;(iterate 3 (refine yt zp ?_));cases g;exact yj)
 refine ao g ?_ ?_<;>intro _ g;refine yc g (o.a.dv _ _) λy g=>?_;cases g;exact yj;refine yo [] (tk [0,3,7,10]) [] ?_
 iterate 3 (refine yt zp ?_)
 iterate 2 (cases g;exact yj;refine ao g ?_ ?_<;>intro _ g;refine ao g (λk g=>?_) λk g=>?_;refine yX g ah.aF λx _ _ g=>?_;refine yc g (o.a.kL _) λy g=>?_;(refine Ok.fm (w4 k) ?_;conv=>(arg 3;whnf));refine yo [] (tk [0,3,7,10]) [] ?_;(iterate 3 (refine yt zp ?_));cases g;exact yj;(refine Ok.eH (Be k) ?_;conv=>(arg 3;whnf));refine yc g (o.a.dv _ _) λy g=>?_)
 cases g;exact yj;refine yc g (o.a.dv _ _) λy g=>?_;cases g;exact yj
theorem w19 {n} (o:Of n):Tk (xp (Gf n)):=by
 intro a0 a1 a2 a3 r g;rw[xp]at g;refine yw func19 ntmps19 ?_;refine yc g (o.a.gM _ _ _) λy g=>?_;cases g;exact zl
theorem w20 {n} (o:Of n):Tl (xq (Gf n)):=by
 intro a0 a1 r g;rw[xq]at g;refine yw func20 ntmps20 ?_;refine aK g λ_ g=>?_;refine yc g (o.a.TA _ _) λy g=>?_
 iterate 5 (refine aK g λ_ g=>?_)
 refine yk<|yL (S:=Int) (G:=λm s=>tE (Gf m) a0 a1 s) (s0:=0) 2 [2,3,4] [5] (λs=>[(5,.d (.v (.int .i64 s)))]) (λs=>[]) g ?_;rintro n s8 _ g;change tG (Gf n) a0 a1 s8=_ at g;rw[tG]at g;refine yz ?_
 refine br g λ_ g=>?_;refine yo [0,1,2,3,4,5,6,7,8,9,10,11] [] [] ?_
 iterate 2 (refine yY g ae.aF λx _ _ g=>?_)
 obtain⟨y,z,g⟩:=ay g (o.a.IV _ _);refine yl (yC z) ?_;refine aK g λ_ g=>?_;exact yk (yN _ n ⟨by omega,g⟩)
theorem w60 {n} (o:Of n):Tm (xr (Gf n)):=by
 intro a0 a1 r g;rw[xr]at g;refine yw func60 ntmps60 ?_;refine yc g (o.a.IT _) λy g=>?_
 iterate 2 (refine aK g λ_ g=>?_;refine yc g (o.a.p3 _) λy g=>?_)
 iterate 4 (refine aK g λ_ g=>?_)
 refine yk<|yL (S:=(List (List UInt8))×Int) (G:=λm s=>qR (Gf m) a0 a1 s.1 s.2) (s0:=([],0)) 3 [2,3,4] [5,6] (λs=>[(5,.os 2 (aN s.1).length),(6,.d (.v (.int .i64 s.2)))]) (λs=>[(2,.row 9 1 (aN s.1))]) g ?_;rintro n ⟨s10,s11⟩ _ g;change tH (Gf n) a0 a1 s10 s11=_ at g;rw[tH]at g;refine yz ?_
 refine ao g ?_ ?_<;>intro _ g;refine yX g TParam.aF λx _ _ g=>?_;refine yc g (o.a.p3 _) λy g=>?_;refine aK g λ_ g=>?_;refine yX g TParam.aF λx _ _ g=>?_;refine yc g (o.a.xi _ _) λy g=>?_
 iterate 3 (refine aK g λ_ g=>?_;refine yX g TParam.aF λx _ _ g=>?_)
 obtain⟨k,g⟩:=bz g;refine yk<|DO.cW rfl rfl zg rfl rfl zg rfl rfl rfl rfl rfl rfl (zo k) (yz ?_)
 exact yk (yN (_,_) n ⟨by omega,g⟩);refine yc g (o.a.fw _) λy g=>?_;refine ao g ?_ ?_<;>intro _ g;refine yc g (o.a.kL _) λy g=>?_
 iterate 2 (refine yc g (o.a.GH _ _) λy g=>?_;refine aK g λ_ g=>?_;refine yc g (o.a.TB _ _ _ _) λy g=>?_;refine br g λ_ g=>?_;refine yc g (o.a.IV _ _) λy g=>?_;cases g;exact zl)
theorem w23 {n} (o:Of n):Tn (xu (Gf n)):=by
 intro a0 r g;rw[xu]at g;refine yw func23 ntmps23 ?_
 iterate 4 (refine aK g λ_ g=>?_)
 refine yk<|yL (S:=Bool×(List (List UInt8))×Int) (G:=λm s=>nT (Gf m) a0 s.1 s.2.1 s.2.2) (s0:=(false,[],0)) 2 [1] [2,3,4] (λs=>[(2,.d (.v (.bool s.1))),(3,.os 1 (aN s.2.1).length),(4,.d (.v (.int .i64 s.2.2)))]) (λs=>[(1,.row 9 1 (aN s.2.1))]) g ?_;rintro n ⟨s5,s6,s7⟩ _ g;change tM (Gf n) a0 s5 s6 s7=_ at g;rw[tM]at g;refine yz ?_
 refine ao g ?_ ?_<;>intro _ g;refine yo [0,1,2,3,4,5,6,7,8,9,10,11,12,13,14,15,16,17,18,19,20,21,22,23,24,25,26,27,28,29,30,31,32,33,34,35,36,37] [] [] ?_;refine yY g bt.aF λx _ _ g=>?_;obtain⟨y,z,g⟩:=ay g (o.a.p3 _);refine yl (yC z) ?_;refine aK g λ_ g=>?_;refine ao g ?_ ?_<;>intro _ g
 iterate 2 (refine yY g bt.aF λx _ _ g=>?_)
 refine aK g λ_ g=>?_
 iterate 2 (refine yY g bt.aF λx _ _ g=>?_;obtain⟨y,z,g⟩:=ay g (o.a.IT _);refine yl (yC z) ?_;refine aK g λ_ g=>?_;refine yX g bt.aF λx _ _ g=>?_;obtain⟨k,g⟩:=bz g;refine yk<|DO.cW rfl rfl zg rfl rfl zg rfl rfl rfl rfl rfl rfl (zo k) (yz ?_);exact yk (yN (_,_,_) n ⟨by omega,g⟩))
 refine yk<|yL (S:=Bool×(List (List UInt8))×Int) (G:=λm s=>tK (Gf m) a0 s5 s6 s7 s.1 s.2.1 s.2.2) (s0:=(s5,s6,0)) 3 [1,4,5] [2,3,6] (λs=>[(2,.d (.v (.bool s.1))),(3,.os 1 (aN s.2.1).length),(6,.d (.v (.int .i64 s.2.2)))]) (λs=>[(1,.row 9 1 (aN s.2.1))]) g ?_;rintro n ⟨s33,s34,s35⟩ _ g;change qS (Gf n) a0 s5 s6 s7 s33 s34 s35=_ at g;rw[qS]at g;refine yz ?_
 refine br g λ_ g=>?_;refine yk<|yL (S:=Bool×Int) (G:=λm s=>mX (Gf m) a0 s5 s6 s7 s33 s34 s35 s.1 s.2) (s0:=(s33,0)) 3 [1,3,4,5,6] [2,7] (λs=>[(2,.d (.v (.bool s.1))),(7,.d (.v (.int .i64 s.2)))]) (λs=>[]) g ?_;rintro n ⟨s37,s38⟩ _ g;change tJ (Gf n) a0 s5 s6 s7 s33 s34 s35 s37 s38=_ at g;rw[tJ]at g;refine yz ?_
 obtain⟨x,w,j,g⟩:=a8 g;refine yv (yr j w) ?_;refine yv (ym s35.toNat 0 (sA w)) ?_;refine ao g ?_ ?_<;>intro _ g;obtain⟨t,w,j,g⟩:=a8 g;refine yv (yr j w) ?_;refine yv (ym s35.toNat 0 (sA w)) ?_;refine yX g bl.aF λt _ _ g=>?_;refine yc g (o.a.c59 _ _) λy g=>?_;refine yo [0,1,2,3,4,5,6,7,8,9,10,11,12,13,14,15,16,17,18,19,20,21,22,23,24,25,26,27,28,29,30,31,32,33,34,35,36,37,38,39] [] [] ?_;refine aK g λ_ g=>?_;refine yl (aQ.toP (aQ.OT rfl zk rfl rfl)) ?_;refine aK g λ_ g=>?_;refine ao g ?_ ?_<;>intro _ g;obtain⟨t,w,j,g⟩:=a8 g;refine yl (yr j w) ?_;refine yl (ym s35.toNat 0 (sA w)) ?_;refine yY g bl.aF λt _ _ g=>?_;refine aK g λ_ g=>?_
 iterate 2 (obtain⟨y,z,g⟩:=ay g (o.a.xi _ _);refine yl (yC z) ?_;refine aK g λ_ g=>?_;obtain⟨y,z,g⟩:=ay g (o.a.TE _ _);refine yl (yC z) ?_;refine aK g λ_ g=>?_;exact yk (yN (_,_) n ⟨by omega,g⟩))
 refine yk<|yL (S:=(List (List UInt8))×Int) (G:=λm s=>pE (Gf m) a0 s5 s6 s7 s33 s34 s35 s37 s38 x s.1 s.2) (s0:=(s34,0)) 3 [1,2,4,5,6,7] [3,11] (λs=>[(3,.os 1 (aN s.1).length),(11,.d (.v (.int .i64 s.2)))]) (λs=>[(1,.row 9 1 (aN s.1))]) g ?_;rintro n ⟨s63,s64⟩ _ g;change tI (Gf n) a0 s5 s6 s7 s33 s34 s35 s37 s38 x s63 s64=_ at g;rw[tI]at g;refine yz ?_
 obtain⟨x,w,j,g⟩:=a8 g;refine yv (yr j w) ?_;refine yv (ym s35.toNat 0 (sA w)) ?_;refine ao g ?_ ?_<;>intro _ g;obtain⟨x,w,j,g⟩:=a8 g;refine yv (yr j w) ?_;refine yv (ym s35.toNat 0 (sA w)) ?_;refine yX g bl.aF λx _ _ g=>?_;obtain⟨k,g⟩:=bz g;refine yk<|DO.cW rfl rfl zg rfl rfl zg rfl rfl rfl rfl rfl rfl (zo k) (yz ?_)
 exact yk (yN (_,_) n ⟨by omega,g⟩);exact yk (yN (_,_,_) n ⟨by omega,g⟩)
theorem abA {n} (o:Of n):Rn (wY (Gf n)):=by
 intro a0 a1 r g;rw[wY]at g;refine yw func165 ntmps165 ?_
 iterate 2 (refine ao g ?_ ?_<;>intro _ g)
 refine yk<|yL (S:=Int×Int) (G:=λm s=>vE (Gf m) a0 s.1 s.2) (s0:=(IntKind.i64.wrap (IntKind.i64.wrap (IntKind.i64.wrap (a1-1)-(↑(aN a0.Names).length:Int))-IntKind.i64.wrap ((↑(aN a0.Names).length:Int)*(↑(aU.rows a0.aZ).length:Int))),0)) 1 [2,4] [1,5] (λs=>[(1,.d (.v (.int .i64 s.1))),(5,.d (.v (.int .i64 s.2)))]) (λs=>[]) g ?_;rintro n ⟨s3,s4⟩ _ g;change vF (Gf n) a0 s3 s4=_ at g;rw[vF]at g;refine yz ?_
 iterate 2 (refine br g λ_ g=>?_)
 refine yX g ah.aF λx _ _ g=>?_;refine yc g (o.a.Bc _ _) λy g=>?_;exact yk (yN (_,_) n ⟨by omega,g⟩);refine yk<|yL (S:=Int×Int) (G:=λm s=>vG (Gf m) a0 s.1 s.2) (s0:=(IntKind.i64.wrap (IntKind.i64.wrap (a1-1)-(↑(aN a0.Names).length:Int)),0)) 1 [2,4] [1,5] (λs=>[(1,.d (.v (.int .i64 s.1))),(5,.d (.v (.int .i64 s.2)))]) (λs=>[]) g ?_;rintro n ⟨s10,s11⟩ _ g;change vH (Gf n) a0 s10 s11=_ at g;rw[vH]at g;refine yz ?_
 iterate 2 (refine br g λ_ g=>?_)
 refine yX g ah.aF λx _ _ g=>?_;refine yc g (o.a.Bc _ _) λy g=>?_;exact yk (yN (_,_) n ⟨by omega,g⟩);refine yk<|yL (S:=Int×Int) (G:=λm s=>vI (Gf m) a0 s.1 s.2) (s0:=(IntKind.i64.wrap (IntKind.i64.wrap (a1-1)-(↑(aN a0.Names).length:Int)),0)) 1 [2,4] [1,5] (λs=>[(1,.d (.v (.int .i64 s.1))),(5,.d (.v (.int .i64 s.2)))]) (λs=>[]) g ?_;rintro n ⟨s17,s18⟩ _ g;change vJ (Gf n) a0 s17 s18=_ at g;rw[vJ]at g;refine yz ?_
 iterate 2 (refine br g λ_ g=>?_)
 refine yX g ah.aF λx _ _ g=>?_;refine yc g (o.a.Bc _ _) λy g=>?_;exact yk (yN (_,_) n ⟨by omega,g⟩)
theorem w96 {n} (o:Of n):To (xv (Gf n)):=by
 intro a0 r g;rw[xv]at g;refine yw func96 ntmps96 ?_;refine yc g (o.a.Bc _ _) λy g=>?_;cases g;exact zl
theorem w51 {n} (o:Of n):Tp (uR (Gf n)):=by
 intro a0 r g;rw[uR]at g;refine yw func51 ntmps51 ?_;refine yk<|yL (S:=Int) (G:=λm s=>qT (Gf m) a0 s) (s0:=0) 0 [0,2] [3] (λs=>[(3,.d (.v (.int .i64 s)))]) (λs=>[]) g ?_;rintro n s1 _ g;change tN (Gf n) a0 s1=_ at g;rw[tN]at g;refine yz ?_
 refine br g λ_ g=>?_;refine yX g bt.aF λx _ _ g=>?_;refine yc g (o.a.c96 _) λy g=>?_;refine aK g λ_ g=>?_;exact yk (yN _ n ⟨by omega,g⟩)
theorem w97 {n} (o:Of n):Tq (xw (Gf n)):=by
 intro a0 a1 r g;rw[xw]at g;refine yw func97 ntmps97 ?_
 iterate 2 (refine aK g λ_ g=>?_)
 refine yk<|yL (S:=Int×Int) (G:=λm s=>qU (Gf m) a0 s.1 s.2) (s0:=(IntKind.i64.wrap (a1-1),0)) 1 [2,4] [1,5] (λs=>[(1,.d (.v (.int .i64 s.1))),(5,.d (.v (.int .i64 s.2)))]) (λs=>[]) g ?_;rintro n ⟨s3,s4⟩ _ g;change tO (Gf n) a0 s3 s4=_ at g;rw[tO]at g;refine yz ?_
 iterate 2 (refine br g λ_ g=>?_)
 refine yX g ae.aF λx _ _ g=>?_;refine yc g (o.a.TF _ _) λy g=>?_;exact yk (yN (_,_) n ⟨by omega,g⟩)
theorem w52 {n} (o:Of n):Ts (xx (Gf n)):=by
 intro a0 a1 r g;rw[xx]at g;refine yw func52 ntmps52 ?_;refine yc g (o.a.TF _ _) λy g=>?_;cases g;exact zl
theorem w21 {n} (o:Of n):Tt (xy (Gf n)):=by
 intro a0 r g;rw[xy]at g;refine yw func21 ntmps21 ?_;refine aK g λ_ g=>?_;refine yc g (o.a.c51 _) λy g=>?_
 iterate 3 (refine aK g λ_ g=>?_)
 refine yk<|yL (S:=Bool×Int) (G:=λm s=>qV (Gf m) a0 s.1 s.2) (s0:=(false,0)) 1 [1] [2,3] (λs=>[(2,.d (.v (.bool s.1))),(3,.d (.v (.int .i64 s.2)))]) (λs=>[]) g ?_;rintro n ⟨s6,s7⟩ _ g;change tR (Gf n) a0 s6 s7=_ at g;rw[tR]at g;refine yz ?_
 refine ao g ?_ ?_<;>intro _ g;refine yX g bl.aF λx _ _ g=>?_;refine yc g (o.a.TG _ _) λy g=>?_;refine aK g λ_ g=>?_;refine yX g bl.aF λx _ _ g=>?_;refine aK g λ_ g=>?_;exact yk (yN (_,_) n ⟨by omega,g⟩);refine yk<|yL (S:=Int) (G:=λm s=>pF (Gf m) a0 s) (s0:=0) 1 [1,2,3] [4] (λs=>[(4,.d (.v (.int .i64 s)))]) (λs=>[]) g ?_;rintro n s16 _ g;change tP (Gf n) a0 s16=_ at g;rw[tP]at g;refine yz ?_
 refine br g λ_ g=>?_;refine yX g bl.aF λx _ _ g=>?_;refine yc g (o.a.TG _ _) λy g=>?_;refine aK g λ_ g=>?_;refine yX g bl.aF λx _ _ g=>?_;refine aK g λ_ g=>?_;exact yk (yN _ n ⟨by omega,g⟩)
theorem w5 {n} (o:Of n):C5 (B5 (Gf n)):=by
 intro a0 r g;rw[B5]at g;refine yw func5 ntmps5 ?_;refine yc g (o.a.c21 _) λy g=>?_;refine ao g ?_ ?_<;>intro _ g;refine yc g o.a.c9 λy g=>?_;cases g;exact zl;refine yo [0,1,2,3,4,5,6,7,8] [] [] ?_;obtain⟨y,z,g⟩:=ay g o.a.c9;refine yl (yC z) ?_;refine br g λ_ g=>?_;obtain⟨y,z,g⟩:=ay g (o.a.c22 _);refine yl (yC z) ?_;obtain⟨y,z,g⟩:=ay g (o.a.c23 _);refine yl (yC z) ?_;refine yl (aQ.toP (aQ.Y3 rfl zk rfl rfl)) ?_;cases g;exact zl
end Go.Proofs.YtfgnmgbiijpkiaaGreat
end

section
set_option maxRecDepth 100000
noncomputable section
namespace Go.Proofs.YtfgnmgbiijpkiaaGreat
open Go Go.Bw
theorem hf:∀n,Kf n:=by
 intro n
 induction n using Nat.strongRecOn with|_ n ih=>?_
 rcases n with _|n
 ·constructor<;>(repeat intro _)<;>contradiction
 ·have h:Of n:=λm hm=>ih m (by omega);exact⟨w98 h,w53 h,aaK h,aaL h,aaM h,aaN h,aaO h,aaP h,w81 h,aaQ h,aaR h,aaS h,aaT h,aaU h,aaV h,w99 h,w54 h,w56 h,XS h,aaW h,V2 h,V3 h,w61 h,aaX h,aaY h,aaZ h,w62 h,aa0 h,aa1 h,w63 h,aa2 h,V4 h,w80 h,w92 h,aa3 h,aa4 h,aa5 h,aa6 h,aa7 h,ZR h,ZS h,w66 h,aa8 h,aa9 h,aa' h,W0 h,aba h,W1 h,w93 h,w48 h,w91 h,abb h,abc h,abd h,abe h,abf h,abg h,abh h,abi h,w18 h,w64 h,XT h,w25 h,w22 h,abj h,abk h,abl h,abm h,abn h,abo h,w90 h,w46 h,w15 h,w59 h,w42 h,w88 h,w87 h,abp h,abq h,abr h,w41 h,w95 h,abt h,abu h,w69 h,w29 h,w50 h,w49 h,w94 h,abv h,abw h,abx h,aby h,abz h,w19 h,w20 h,w60 h,w23 h,abA h,w96 h,w51 h,w97 h,w52 h,w21 h,w5 h,H4,c9,(hu n).p3⟩
theorem p5:C5 (f5 Pf):=λa0 r h=>by
 obtain⟨n,hn⟩:=PF.ex (PF.ap l5 a0) h;exact(hf n).c5 a0 _ hn
