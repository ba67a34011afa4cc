/- Printed by a program: what functions answer, and that they do. -/
import Derived.Test.YtfgnmgbiijpkiaaGreatKGA3
import Derived.Test.YtfgnmgbiijpkiaaGreatKGA5
set_option linter.all false
section
set_option maxRecDepth 100000
noncomputable section
namespace Go.Proofs.YtfgnmgbiijpkiaaGreat
open Go Go.Bw Go.Proofs.Tryz
theorem w32 {n} (o:Ou n):Ua (Jr (Gu n)):=by
 intro a0 a1 r g;rw[Jr]at g;refine yw func32 ntmps32 ?_;refine yc g (o.a.c73 _) λy g=>?_;refine ao g ?_ ?_<;>intro _ g;refine yo [] (tk [0,3,7,10]) [] ?_
 iterate 2 (refine yt zp ?_)
 cases g;exact yj;refine ao g ?_ ?_<;>intro _ g;obtain⟨v,z,g⟩:=ay g (o.a.iw _);refine yk<|ak.ib 3 z rfl rfl (by first|rfl|(simp only[fE];rfl)) rfl (dc.box rfl zi) rfl (yz ?_)
 refine ao g (λk g=>?_) λk g=>?_;refine yc g (o.a.cI _) λv g=>?_;refine ao g ?_ ?_<;>intro _ g;obtain⟨v,z,g⟩:=ay g (o.a.lz _ _);refine yk<|ak.ib 3 z rfl rfl (by first|rfl|(simp only[fE];rfl)) rfl (dc.box rfl zi) rfl (yz ?_)
 refine br g λ_ g=>?_;refine yo [] (tk [0,3,6,9,12,16,19]) [] ?_
 iterate 2 (refine yt zp ?_)
 cases g;exact yj;refine Ok.fm (ra k) ?_;conv=>(arg 3;whnf)
 cases g;exact zl;refine Ok.eH (nc k) ?_;conv=>(arg 3;whnf)
 refine yo [] (tk [0,3,6,9,12,16,19]) [] ?_
 iterate 2 (refine yt zp ?_)
 cases g;exact yj;refine ao g ?_ ?_<;>intro _ g;obtain⟨v,z,g⟩:=ay g (o.a.oM _);refine yk<|ak.ib 3 z rfl rfl (by first|rfl|(simp only[fE];rfl)) rfl (dc.box rfl zi) rfl (yz ?_)
 refine ao g (λk g=>?_) λk g=>?_;refine yc g (o.a.cI _) λv g=>?_;refine ao g ?_ ?_<;>intro _ g;obtain⟨v,z,g⟩:=ay g (o.a.lz _ _);refine yk<|ak.ib 3 z rfl rfl (by first|rfl|(simp only[fE];rfl)) rfl (dc.box rfl zi) rfl (yz ?_)
 refine br g λ_ g=>?_;refine yo [] (tk [0,3,6,9,12,16,19]) [] ?_
 iterate 2 (refine yt zp ?_)
 cases g;exact yj;refine Ok.fm (ra k) ?_;conv=>(arg 3;whnf)
 cases g;exact zl;refine Ok.eH (nc k) ?_;conv=>(arg 3;whnf)
 refine yo [] (tk [0,3,6,9,12,16,19]) [] ?_
 iterate 2 (refine yt zp ?_)
 cases g;exact yj;refine Ok.stuck aW ?_;refine ak.fP 4 4 25 5 5 rfl rfl rfl ?_;refine yL (S:=aC×(List ab)) (G:=λm s=>E0 (Gu m) s.1 s.2) (s0:=({T:=y.fst,I:=0,Open:=0,aR:=false,aT:=aM.z:aC},[])) 6 [4,5,8,9] [] (λs=>[]) (λs=>[(3,.box ((aC.cs s.1).map .d)),(5,.row 25 5 (ab.rows s.2)),(4,.box [.d (.v (.int .i64 1)),.d (.v (.string ⟨⟨([])⟩⟩)),.d (.v (.int .i64 0)),.d (.v (.int .i64 0)),.os 5 (ab.rows s.2).length])]) g ?_;rintro n ⟨s17,s22⟩ _ g;change EZ (Gu n) s17 s22=_ at g;rw[EZ]at g;refine yz ?_;refine ao g (λk g=>?_) λk g=>?_;refine yc g (o.a.cI _) λy g=>?_;refine ao g ?_ ?_<;>intro _ g;refine yo [] (tk [0,3,6,10,12,16,18,22]) [] ?_;refine yt zp ?_;obtain⟨y,z,g⟩:=ay g (o.a.c77 _);refine yk<|ak.iD 3 zp rfl rfl rfl rfl rfl z rfl rfl (by first|rfl|(simp only[fE];rfl)) rfl (dc.box rfl zi) (yz ?_)
 refine yt zp ?_;obtain⟨l,g⟩:=bz g;refine yk<|ak.cR (rows2:=(ab.rows ([y.fst]))) zp rfl rfl rfl rfl rfl zg rfl zi rfl rfl (ab.bU _) rfl rfl (zo l) (yz ?_)
 exact yk (yN (_,_) n ⟨by omega,g⟩);refine Ok.eH (Be (ra k)) ?_;conv=>(arg 3;whnf)
 refine yc g (o.a.cI _) λy g=>?_;refine ao g ?_ ?_<;>intro _ g;obtain⟨y,z,g⟩:=ay g (o.a.lz _ _);refine yk<|ak.ib 3 z rfl rfl (by first|rfl|(simp only[fE];rfl)) rfl (dc.box rfl zi) rfl (yz ?_)
 refine br g λ_ g=>?_;refine yo [] (tk [0,3,6,9,12,16,19]) [] ?_
 iterate 2 (refine yt zp ?_)
 cases g;exact yj;refine Ok.fm (ra k) ?_;conv=>(arg 3;whnf)
 cases g;exact zl;refine Ok.fm (w4 (nc k)) ?_;conv=>(arg 3;whnf)
 refine Ok.eH (nc k) ?_;conv=>(arg 3;whnf)
 refine yo [] (tk [0,3,6,9,12,16,19]) [] ?_
 iterate 2 (refine yt zp ?_)
 cases g;exact yj
theorem w10 {n} (o:Ou n):Ub (Js (Gu n)):=by
 intro a0 r g;rw[Js]at g;refine yw func10 ntmps10 ?_;refine yc g (o.a.nL _ _) λy g=>?_;cases g;exact zl
theorem w17 {n} (o:Ou n):Uc (Jt (Gu n)):=by
 intro a0 r g;rw[Jt]at g;refine yw func17 ntmps17 ?_;refine yc g (o.a.nL _ _) λy g=>?_;cases g;exact zl
theorem w26 {n} (o:Ou n):Ud (Ju (Gu n)):=by
 intro a0 r g;rw[Ju]at g;refine yw func26 ntmps26 ?_;refine yc g (o.a.nL _ _) λy g=>?_;cases g;exact zl
theorem aaj {n} (o:Ou n):Fl (wy (Gu n)):=by
 intro a0 r g;rw[wy]at g;refine jE.walk (E:=env) func100 rfl zk (rs:=_) rfl ntmps100 rfl (yz ?_);refine Ok.stuck aW<|ak.ua 3 rfl ?_ ?_
 intro cap k;replace g:(some [])=some r:=(by have l:a0=[]:=Jv.1 (by have k:=congrArg List.length k;simpa only[cj,oP]using k);subst l;simpa using g);refine yz ?_;refine yv (aQ.toP (aQ.pQ (et:=9) rfl zk rfl rfl)) ?_;refine Ok.fin aW ?_;obtain rfl:=jm g;exact RD.Da rfl rfl (by simp only[fE]);intro ad n0 cap;refine yz ?_;refine yv (aQ.toP (aQ.pQ (et:=9) rfl zk rfl rfl)) ?_;obtain⟨k,g⟩:=bz g;refine yk<|DO.Ba (rows2:=(aN a0)) rfl rfl zg rfl (b4.refl _) rfl rfl (Kk _) rfl rfl rfl (zo k) (yz ?_)
 refine Ok.fin aW ?_;obtain rfl:=jm g;exact RD.E8 rfl rfl rfl rfl zi
end Go.Proofs.YtfgnmgbiijpkiaaGreat
end

section
set_option maxRecDepth 100000
noncomputable section
namespace Go.Proofs.YtfgnmgbiijpkiaaGreat
open Go Go.Bw
theorem hu:∀n,Ku n:=by
 intro n
 induction n using Nat.strongRecOn with|_ n ih=>?_
 rcases n with _|n
 ·constructor<;>(repeat intro _)<;>contradiction
 ·have h:Ou n:=λm hm=>ih m (by omega);exact⟨acw h,acx h,acy h,acz h,acA h,acB h,acC h,acD h,acE h,acF h,acG h,acH h,w58 h,acI h,acJ h,acK h,w73 h,w76 h,acL h,w78 h,acM h,acN h,acO h,acP h,acQ h,acR h,acS h,w74 h,acT h,acU h,acV h,acW h,acX h,w75 h,acY h,w77 h,w32 h,w10 h,w17 h,w26 h,aaj h⟩
theorem ZX:Fl (wG Pu):=λa0 r h=>by
 obtain⟨n,hn⟩:=PF.ex (PF.ap aak a0) h;exact(hu n).aal a0 _ hn
