/- Printed by a program: what functions answer, and that they do. -/
import Derived.Test.YtfgnmgbiijpkiaaGreatKGA3
import Derived.Test.YtfgnmgbiijpkiaaGreatKGA5
set_option linter.all false
section
set_option maxRecDepth 100000
noncomputable section
namespace Go.Proofs.YtfgnmgbiijpkiaaGreat
open Go Go.Bw Go.Proofs.Tryz
/-plexus.plexusref16.parse-/
theorem VS {n} (o:Ou n):Me (uh (Gu n)):=by
 intro a0 a1 r g;rw[uh]at g;refine yw func32 ntmps32 ?_;refine yc g (o.a.VX _) λy1 g=>?_;refine aq g (λ_ g=>?_) λ_ g=>?_;refine yo [] (tk [0,3,7,10]) [] ?_
 iterate 2 (refine yt zp ?_)
 cases g;exact yj;refine aq g (λ_ g=>?_) λ_ g=>?_;obtain⟨y4,ey4,g⟩:=au g (o.a.gu _);refine yk<|af.aL 3 ey4 rfl rfl (by first|rfl|(simp only[aG];rfl)) rfl (aJ.box rfl zi) rfl (yz ?_)
 refine aq g (λh5 g=>?_) λh5 g=>?_;refine yc g (o.a.cG _) λy6 g=>?_;refine aq g (λ_ g=>?_) λ_ g=>?_;obtain⟨y8,ey8,g⟩:=au g (o.a.jJ _ _);refine yk<|af.aL 3 ey8 rfl rfl (by first|rfl|(simp only[aG];rfl)) rfl (aJ.box rfl zi) rfl (yz ?_)
 refine bU g λ_ g=>?_;refine yo [] (tk [0,3,6,9,12,16,19]) [] ?_
 iterate 2 (refine yt zp ?_)
 cases g;exact yj;refine Ok.fO (nS h5) ?_;conv=>(arg 3;whnf)
 cases g;exact zl;refine Ok.fY (kS h5) ?_;conv=>(arg 3;whnf)
 refine yo [] (tk [0,3,6,9,12,16,19]) [] ?_
 iterate 2 (refine yt zp ?_)
 cases g;exact yj;refine aq g (λ_ g=>?_) λ_ g=>?_;obtain⟨y11,ey11,g⟩:=au g (o.a.lV _);refine yk<|af.aL 3 ey11 rfl rfl (by first|rfl|(simp only[aG];rfl)) rfl (aJ.box rfl zi) rfl (yz ?_)
 refine aq g (λh12 g=>?_) λh12 g=>?_;refine yc g (o.a.cG _) λy13 g=>?_;refine aq g (λ_ g=>?_) λ_ g=>?_;obtain⟨y15,ey15,g⟩:=au g (o.a.jJ _ _);refine yk<|af.aL 3 ey15 rfl rfl (by first|rfl|(simp only[aG];rfl)) rfl (aJ.box rfl zi) rfl (yz ?_)
 refine bU g λ_ g=>?_;refine yo [] (tk [0,3,6,9,12,16,19]) [] ?_
 iterate 2 (refine yt zp ?_)
 cases g;exact yj;refine Ok.fO (nS h12) ?_;conv=>(arg 3;whnf)
 cases g;exact zl;refine Ok.fY (kS h12) ?_;conv=>(arg 3;whnf)
 refine yo [] (tk [0,3,6,9,12,16,19]) [] ?_
 iterate 2 (refine yt zp ?_)
 cases g;exact yj;refine Ok.stuck aT ?_;refine af.fW 4 4 25 5 5 rfl rfl rfl ?_;refine yL (S:=ay×(List ae)) (G:=λm s=>AS (Gu m) s.1 s.2) (s0:=({T:=y1.fst,I:=0,Open:=0,aI:=false,aP:=aK.z:ay},[])) 6 [4,5,8,9] [] (λs=>[]) (λs=>[(3,.box ((ay.cs s.1).map .d)),(5,.row 25 5 (ae.rows s.2)),(4,.box [.d (.v (.int .i64 1)),.d (.v (.string ⟨⟨([])⟩⟩)),.d (.v (.int .i64 0)),.d (.v (.int .i64 0)),.os 5 (ae.rows s.2).length])]) g ?_;rintro n ⟨s17,s22⟩ _ g;change AO (Gu n) s17 s22=_ at g;rw[AO]at g;refine yz ?_;refine aq g (λh23 g=>?_) λh23 g=>?_;refine yc g (o.a.cG _) λy24 g=>?_;refine aq g (λ_ g=>?_) λ_ g=>?_;refine yo [] (tk [0,3,6,10,12,16,18,22]) [] ?_;refine yt zp ?_;obtain⟨y26,ey26,g⟩:=au g (o.a.VY _);refine yk<|af.gy 3 zp rfl rfl rfl rfl rfl ey26 rfl rfl (by first|rfl|(simp only[aG];rfl)) rfl (aJ.box rfl zi) (yz ?_)
 refine yt zp ?_;obtain⟨h27,g⟩:=bG g;refine yk<|af.di (rows2:=(ae.rows ([y26.fst]))) zp rfl rfl rfl rfl rfl zg rfl zi rfl rfl (ae.bS _) rfl rfl (zo h27) (yz ?_)
 exact yk (yN (_,_) n ⟨by omega,g⟩);refine Ok.fY (v7 (nS h23)) ?_;conv=>(arg 3;whnf)
 refine yc g (o.a.cG _) λy28 g=>?_;refine aq g (λ_ g=>?_) λ_ g=>?_;obtain⟨y30,ey30,g⟩:=au g (o.a.jJ _ _);refine yk<|af.aL 3 ey30 rfl rfl (by first|rfl|(simp only[aG];rfl)) rfl (aJ.box rfl zi) rfl (yz ?_)
 refine bU g λ_ g=>?_;refine yo [] (tk [0,3,6,9,12,16,19]) [] ?_
 iterate 2 (refine yt zp ?_)
 cases g;exact yj;refine Ok.fO (nS h23) ?_;conv=>(arg 3;whnf)
 cases g;exact zl;refine Ok.fO (s6 (kS h23)) ?_;conv=>(arg 3;whnf)
 refine Ok.fY (kS h23) ?_;conv=>(arg 3;whnf)
 refine yo [] (tk [0,3,6,9,12,16,19]) [] ?_
 iterate 2 (refine yt zp ?_)
 cases g;exact yj
/-plexus.plexusref16.Parse-/
theorem VT {n} (o:Ou n):Mf (DU (Gu n)):=by
 intro a0 r g;rw[DU]at g;refine yw func10 ntmps10 ?_;refine yc g (o.a.lq _ _) λy1 g=>?_;cases g;exact zl
/-plexus.plexusref16.Expression-/
theorem VU {n} (o:Ou n):Dq (ui (Gu n)):=by
 intro a0 r g;rw[ui]at g;refine yw func17 ntmps17 ?_;refine yc g (o.a.lq _ _) λy1 g=>?_;cases g;exact zl
/-plexus.plexusref16.aj-/
theorem VV {n} (o:Ou n):Mg (DV (Gu n)):=by
 intro a0 r g;rw[DV]at g;refine yw func26 ntmps26 ?_;refine yc g (o.a.lq _ _) λy1 g=>?_;cases g;exact zl
/-slices.Clone[[]string,string]-/
theorem RF {n} (o:Ou n):JA (Bh (Gu n)):=by
 intro a0 r g;rw[Bh]at g;refine ki.walk (E:=env) func100 rfl zk (rs:=_) rfl ntmps100 rfl (yz ?_);refine Ok.stuck aT<|af.qg 3 rfl ?_ ?_
 intro cap h1;replace g:(some [])=some r:=(by have h0:a0=[]:=DW.1 (by have h1:=congrArg List.length h1;simpa only[du,lW]using h1);subst h0;simpa using g);refine yz ?_;refine yv (aR.toP (aR.mB (et:=9) rfl zk rfl rfl)) ?_;refine Ok.fin aT ?_;obtain rfl:=gV g;exact RD.yG rfl rfl (by simp only[aG]);intro ad n0 cap;refine yz ?_;refine yv (aR.toP (aR.mB (et:=9) rfl zk rfl rfl)) ?_;obtain⟨h2,g⟩:=bG g;refine yk<|DO.vX (rows2:=(bn a0)) rfl rfl zg rfl (bQ.refl _) rfl rfl (EI _) rfl rfl rfl (zo h2) (yz ?_)
 refine Ok.fin aT ?_;obtain rfl:=gV g;exact RD.AX rfl rfl rfl rfl zi
end Go.Proofs.YtfgnmgbiijpkiaaGreat
end

section
set_option maxRecDepth 100000
noncomputable section
namespace Go.Proofs.YtfgnmgbiijpkiaaGreat
open Go Go.Bw
theorem hu:∀n,Ku n:=by
 intro n
 induction n using Nat.strongRecOn with|_ n ih=>?_
 rcases n with _|n
 ·constructor<;>(repeat intro _)<;>contradiction
 ·have h:Ou n:=λm hm=>ih m (by omega);exact⟨S7 h,S8 h,S9 h,S' h,Ta h,Tb h,Tc h,Td h,Te h,Tf h,Tg h,Th h,VL h,Ti h,Tj h,Tk h,VM h,VN h,Tl h,VO h,Tm h,Tn h,To h,Tp h,Tq h,Ts h,Tt h,VP h,Tu h,Tv h,Tw h,Tx h,Ty h,VQ h,Tz h,VR h,VS h,VT h,VU h,VV h,RF h⟩
