/- Printed by a program: what functions answer, and that they do. -/
import Derived.Test.YtfgnmgbiijpkiaaGreatKG3
set_option linter.all false
set_option maxRecDepth 100000
noncomputable section
namespace Go.Proofs.YtfgnmgbiijpkiaaGreat
open Go Go.Bw Go.Proofs.Tryz
/-plexus.types.sort-/
theorem RK {n} (o:Of n):JG (vV (Gf n)):=by
 intro a0 r g;rw[vV]at g;refine yw func113 ntmps113 ?_;cases g;exact yj
/-(*plexus.types.elaborator).any$1-/
theorem RL {n} (o:Of n):JH (sM (Gf n)):=by
 intro a0 a1 r g;rw[sM]at g;refine yw func157 ntmps157 ?_;cases g;exact zl
/-slices.IndexFunc[[]plexus.api.Param,plexus.api.Param]-/
theorem NG {n} (o:Of n):E4 (pd (Gf n)):=by
 intro a0 a1 r g;rw[pd]at g;refine yw func156 ntmps156 ?_;refine yk<|yL (S:=Int) (G:=λm s=>uD (Gf m) a0 a1 s) (s0:=0) 0 [0,1,4,7] [8] (λs=>[(8,.d (.v (.int .i64 s)))]) (λs=>[]) g ?_;rintro n s1 _ g;change oR (Gf n) a0 a1 s1=_ at g;rw[oR]at g;refine yz ?_
 refine bU g λ_ g=>?_;refine yX g TParam.aM λx3 _ _ g=>?_;refine yc g (o.a.Sq _ _) λy5 g=>?_;refine bp g λ_ g=>?_;exact yk (yN _ n ⟨by omega,g⟩)
/-plexus.types.fail-/
theorem UK {n} (o:Of n):Lp (gD (Gf n)):=by
 intro a0 a1 r g;rw[gD]at g;refine yw func80 ntmps80 ?_;refine Ok.fin aT ?_;obtain rfl:=gV g;exact RD.sB rfl aT rfl zi
/-plexus.types.of-/
theorem RM {n} (o:Of n):JI (vW (Gf n)):=by
 intro a0 r g;rw[vW]at g;refine yw func112 ntmps112 ?_;cases g;exact zl
/-plexus.types.none-/
theorem UL {n} (o:Of n):Lq (tO (Gf n)):=by
 intro a0 r g;rw[tO]at g;refine yw func92 ntmps92 ?_;exact eH g
/-plexus.types.arguments-/
theorem RN {n} (o:Of n):JJ (iq (Gf n)):=by
 intro a0 r g;rw[iq]at g;refine yw func197 ntmps197 ?_
 iterate 4 (refine bp g λ_ g=>?_)
 exact eH g
/-slices.Index[[]int,int]-/
theorem RO {n} (o:Of n):JK (qw (Gf n)):=by
 intro a0 a1 r g;rw[qw]at g;refine yw func236 ntmps236 ?_;refine yk<|yL (S:=Int) (G:=λm s=>ve (Gf m) a0 a1 s) (s0:=0) 0 [0,1,4,7] [8] (λs=>[(8,.d (.v (.int .i64 s)))]) (λs=>[]) g ?_;rintro n s1 _ g;change pv (Gf n) a0 a1 s1=_ at g;rw[pv]at g;refine yz ?_
 refine bU g λ_ g=>?_;refine yX g NH λx3 _ _ g=>?_;refine bp g λ_ g=>?_;exact yk (yN _ n ⟨by omega,g⟩)
/-slices.Contains[[]int,int]-/
theorem RS {n} (o:Of n):JL (sN (Gf n)):=by
 intro a0 a1 r g;rw[sN]at g;refine yw func199 ntmps199 ?_;refine yc g (o.a.Sr _ _) λy1 g=>?_;cases g;exact zl
/-(*plexus.types.elaborator).call$1-/
theorem RT {n} (o:Of n):JM (qx (Gf n)):=by
 intro a0 a1 a2 r g;rw[qx]at g;refine yw func198 ntmps198 ?_;refine aq g (λ_ g=>?_) λ_ g=>?_;exact yP g (o.a.eI _ _);refine yc g (o.a.Bj _ _) λy3 g=>?_;refine aq g (λ_ g=>?_) λ_ g=>?_;exact yP g (o.a.eI _ _);refine Ok.fin aT ?_;obtain rfl:=gV g;exact RD.vH rfl rfl aT rfl (bQ.refl _)
/-slices.Index[[]string,string]-/
theorem RU {n} (o:Of n):JN (qy (Gf n)):=by
 intro a0 a1 r g;rw[qy]at g;refine yw func185 ntmps185 ?_;refine yk<|yL (S:=Int) (G:=λm s=>vf (Gf m) a0 a1 s) (s0:=0) 0 [0,1,4,7] [8] (λs=>[(8,.d (.v (.int .i64 s)))]) (λs=>[]) g ?_;rintro n s1 _ g;change pw (Gf n) a0 a1 s1=_ at g;rw[pw]at g;refine yz ?_
 refine bU g λ_ g=>?_;refine yX g eM λx3 _ _ g=>?_;refine bp g λ_ g=>?_;exact yk (yN _ n ⟨by omega,g⟩)
/-slices.Clone[[]string,string]-/
theorem RV {n} (o:Of n):JO (sO (Gf n)):=by
 intro a0 r g;rw[sO]at g;refine yw func100 ntmps100 ?_;refine Ok.stuck aT<|af.qg 3 rfl ?_ ?_
 intro cap h1;replace g:(some ([]))=some r:=(by have h0:a0=[]:=DW.1 (by have h1:=congrArg List.length h1;simpa only[du,lW]using h1);subst h0;simpa using g);refine yz ?_;refine yv (aR.toP (aR.mB (et:=9) rfl zk rfl rfl)) ?_;cases g;exact yj;intro ad n0 cap;refine yz ?_;refine yv (aR.toP (aR.mB (et:=9) rfl zk rfl rfl)) ?_;obtain⟨h2,g⟩:=bG g;refine yk<|DO.vX (rows2:=(bn a0)) rfl rfl zg rfl (bQ.refl _) rfl rfl (EI _) rfl rfl rfl (zo h2) (yz ?_)
 cases g;exact zl
/-slices.Clone[[]plexus.api.Rule,plexus.api.Rule]-/
theorem QT {n} (o:Of n):I8 (sC (Gf n)):=by
 intro a0 r g;rw[sC]at g;refine ki.walk (E:=env) func115 rfl zk (rs:=_) rfl ntmps115 rfl (yz ?_);refine Ok.stuck aT<|af.qg 3 rfl ?_ ?_
 intro cap h1;replace g:(some [])=some r:=(by have h0:a0=[]:=DW.1 (by have h1:=congrArg List.length h1;simpa only[aV.bc,lW]using h1);subst h0;simpa using g);refine yz ?_;refine yv (aR.toP (aR.mB (et:=119) rfl zk rfl rfl)) ?_;refine Ok.fin aT ?_;obtain rfl:=gV g;exact RD.yG rfl rfl (by simp only[aG]);intro ad n0 cap;refine yz ?_;refine yv (aR.toP (aR.mB (et:=119) rfl zk rfl rfl)) ?_;obtain⟨h2,g⟩:=bG g;refine yk<|DO.vX (rows2:=(aV.rows a0)) rfl rfl zg rfl (bQ.refl _) rfl rfl (aV.bS _) rfl rfl rfl (zo h2) (yz ?_)
 refine Ok.fin aT ?_;obtain rfl:=gV g;exact RD.AX rfl rfl rfl rfl zi
/-slices.Clone[[]plexus.api.aj,plexus.api.aj]-/
theorem QU {n} (o:Of n):I9 (sD (Gf n)):=by
 intro a0 r g;rw[sD]at g;refine ki.walk (E:=env) func116 rfl zk (rs:=_) rfl ntmps116 rfl (yz ?_);refine Ok.stuck aT<|af.qg 3 rfl ?_ ?_
 intro cap h1;replace g:(some [])=some r:=(by have h0:a0=[]:=DW.1 (by have h1:=congrArg List.length h1;simpa only[ai.bc,lW]using h1);subst h0;simpa using g);refine yz ?_;refine yv (aR.toP (aR.mB (et:=43) rfl zk rfl rfl)) ?_;refine Ok.fin aT ?_;obtain rfl:=gV g;exact RD.yG rfl rfl (by simp only[aG]);intro ad n0 cap;refine yz ?_;refine yv (aR.toP (aR.mB (et:=43) rfl zk rfl rfl)) ?_;obtain⟨h2,g⟩:=bG g;refine yk<|DO.vX (rows2:=(ai.rows a0)) rfl rfl zg rfl (bQ.refl _) rfl rfl (ai.bS _) rfl rfl rfl (zo h2) (yz ?_)
 refine Ok.fin aT ?_;obtain rfl:=gV g;exact RD.AX rfl rfl rfl rfl zi
/-plexus.types.copied-/
theorem UM {n} (o:Of n):Lr (tP (Gf n)):=by
 intro a0 r g;rw[tP]at g;refine yw func66 ntmps66 ?_;refine yc g (o.a.JP _) λy1 g=>?_;obtain⟨y2,ey2,g⟩:=au g (o.a.QV _);refine yk<|af.I' ey2 rfl rfl (by first|rfl|(simp only[aG];rfl)) rfl (yz ?_)
 refine yk<|yL (S:=Int×(List aV)) (G:=λm s=>sd (Gf m) a0 y1 y2 s.1 s.2) (s0:=(0,y2)) 3 [1,2,15] [16] (λs=>[(16,.d (.v (.int .i64 s.1)))]) (λs=>[(2,.row 119 2 (aV.rows s.2)),(0,.box [.d (.v (.int .i64 a0.Kind)),.d (.v (.int .i64 a0.Lo)),.d (.v (.int .i64 a0.Hi)),.d (.sl 1 (bn y1)),.d (.sl 6 (ai.rows a0.aB)),.os 2 (aV.rows s.2).length])]) g ?_;rintro n ⟨s3,s9⟩ _ g;change pX (Gf n) a0 y1 y2 s3 s9=_ at g;rw[pX]at g;refine yz ?_
 refine aq g (λ_ g=>?_) λ_ g=>?_;refine yo [] (tk [0,3,6,9,12,15,18,21,24,28,30,33,37]) [] ?_
 iterate 4 (refine yt zp ?_)
 obtain⟨x11,ex11,j12h,g⟩:=bo g;refine yU zp (yr j12h ex11) ?_;refine yt (dE j12h ex11) ?_;refine yU (dE j12h ex11) (ym s3.toNat 0 (aV.aM ex11)) ?_;refine yd g (o.a.JP _) (by repeat(first|exact aD.nil|refine aD.cons rfl (a8.dk (cl:=false) rfl aT) ?_|refine aD.skip rfl ?_|refine aD.cons rfl (yr j12h ex11) ?_|refine aD.cons rfl (ym s3.toNat 0 (aV.aM ex11)) ?_|refine aD.cons rfl (dK (cl:=false) rfl aT) ?_)) λy13 g=>?_;obtain⟨x14,ex14,j15h,g⟩:=bo g;refine yU (by repeat(first|exact aD.nil|refine aD.cons rfl (a8.dk (cl:=false) rfl aT) ?_|refine aD.skip rfl ?_|refine aD.cons rfl (yr j12h ex11) ?_|refine aD.cons rfl (ym s3.toNat 0 (aV.aM ex11)) ?_|refine aD.cons rfl (dK (cl:=false) rfl aT) ?_)) (yr j15h ex14) ?_;refine yt (by repeat(first|exact aD.nil|refine aD.cons rfl (a8.dk (cl:=false) rfl aT) ?_|refine aD.skip rfl ?_|refine aD.cons rfl (yr j12h ex11) ?_|refine aD.cons rfl (ym s3.toNat 0 (aV.aM ex11)) ?_|refine aD.cons rfl (yr j15h ex14) ?_|refine aD.cons rfl (dK (cl:=false) rfl aT) ?_)) ?_;refine yk<|af.oX s3.toNat 0 (by repeat(first|exact aD.nil|refine aD.cons rfl (a8.dk (cl:=false) rfl aT) ?_|refine aD.skip rfl ?_|refine aD.cons rfl (yr j12h ex11) ?_|refine aD.cons rfl (ym s3.toNat 0 (aV.aM ex11)) ?_|refine aD.cons rfl (yr j15h ex14) ?_|refine aD.cons rfl (dK (cl:=false) rfl aT) ?_)) (by rfl) (by rfl) (by rfl) (by rfl) (by rfl) (by rfl) (by rfl) (by rfl) zg (by rfl) (yg (aV.aM ex14)) (by rfl) (by rfl) (by rfl) (by rfl) (yz ?_)
 refine yt (by repeat(first|exact aD.nil|refine aD.cons rfl (a8.dk (cl:=false) rfl aT) ?_|refine aD.skip rfl ?_|refine aD.cons rfl (yr j12h ex11) ?_|refine aD.cons rfl (ym s3.toNat 0 (aV.aM ex11)) ?_|refine aD.cons rfl (yr j15h ex14) ?_|refine aD.cons rfl (dK (cl:=false) rfl aT) ?_)) ?_;exact yk (yN (_,_) n ⟨by omega,g⟩);obtain⟨y16,ey16,g⟩:=au g (o.a.QW _);refine yk<|af.I' ey16 rfl rfl (by first|rfl|(simp only[aG];rfl)) rfl (yz ?_)
 refine yk<|yL (S:=Int×(List ai)×(List aV)) (G:=λm s=>se (Gf m) a0 y1 y16 s.1 s.2.1 s.2.2) (s0:=(0,y16,s9)) 4 [1,2,15,16,38] [39] (λs=>[(39,.d (.v (.int .i64 s.1)))]) (λs=>[(3,.row 43 6 (ai.rows s.2.1)),(2,.row 119 2 (aV.rows s.2.2)),(0,.box [.d (.v (.int .i64 a0.Kind)),.d (.v (.int .i64 a0.Lo)),.d (.v (.int .i64 a0.Hi)),.d (.sl 1 (bn y1)),.os 3 (ai.rows s.2.1).length,.os 2 (aV.rows s.2.2).length])]) g ?_;rintro n ⟨s17,s22,s23⟩ _ g;change pY (Gf n) a0 y1 y16 s17 s22 s23=_ at g;rw[pY]at g;refine yz ?_
 refine bU g λ_ g=>?_;refine yo [0,1,2,3,4,5,6,7,8,9] [(10,.one)] [] ?_;obtain⟨x25,ex25,j26h,g⟩:=bo g;refine yl (yr j26h ex25) ?_;refine yl (ym s17.toNat 0 (ai.aM ex25)) ?_;obtain⟨y27,ey27,g⟩:=au g (o.a.CX _);refine yl (yC ey27) ?_;obtain⟨x28,ex28,j29h,g⟩:=bo g;refine yl (yr j29h ex28) ?_;refine yk<|af.oX s17.toNat 0 aD.nil (by rfl) (by rfl) (by rfl) (by rfl) (by rfl) (by rfl) (by rfl) (by rfl) zg (by rfl) (yg (ai.aM ex28)) (by rfl) (by rfl) (by rfl) (by rfl) (yz ?_)
 exact yk (yN (_,_,_) n ⟨by omega,g⟩)
/-plexus.types.open-/
theorem RW {n} (o:Of n):JQ (qz (Gf n)):=by
 intro a0 r g;rw[qz]at g;refine yw func238 ntmps238 ?_;refine bp g λ_ g=>?_;refine aq g (λ_ g=>?_) λ_ g=>?_
 iterate 6 (refine bp g λ_ g=>?_)
 exact eH g;refine aq g (λ_ g=>?_) λ_ g=>?_;refine yX g ae.aM λx11 _ _ g=>?_;refine yc g (o.a.qA _) λy13 g=>?_;refine bU g λ_ g=>?_;refine yX g ae.aM λx15 _ _ g=>?_;refine yc g (o.a.qA _) λy17 g=>?_;cases g;exact zl;refine bU g λ_ g=>?_;refine yX g ae.aM λx19 _ _ g=>?_;refine yc g (o.a.qA _) λy21 g=>?_;refine bU g λ_ g=>?_;refine yX g ae.aM λx23 _ _ g=>?_;refine yc g (o.a.qA _) λy25 g=>?_;cases g;exact zl
/-slices.Equal[[]string,string]-/
theorem RX {n} (o:Of n):JR (vY (Gf n)):=by
 intro a0 a1 r g;rw[vY]at g;refine yw func205 ntmps205 ?_;refine bp g λ_ g=>?_;refine yk<|yL (S:=Int) (G:=λm s=>vg (Gf m) a0 a1 s) (s0:=0) 0 [0,1,4,12] [13] (λs=>[(13,.d (.v (.int .i64 s)))]) (λs=>[]) g ?_;rintro n s2 _ g;change vh (Gf n) a0 a1 s2=_ at g;rw[vh]at g;refine yz ?_
 refine bU g λ_ g=>?_;refine yo [0,1,2,3,4,5,6,7,8] [] [] ?_;refine yY g eM λx4 _ _ g=>?_;refine yY g eM λx6 _ _ g=>?_;refine bp g λ_ g=>?_;exact yk (yN _ n ⟨by omega,g⟩)
/-plexus.lattice.sameRule-/
theorem RY {n} (o:Of n):JS (sP (Gf n)):=by
 intro a0 a1 r g;rw[sP]at g;refine yw func207 ntmps207 ?_;refine bU g λ_ g=>?_;refine yc g (o.a.JT _ _) λy2 g=>?_;cases g;exact zl
/-slices.EqualFunc[[]plexus.api.Rule,[]plexus.api.Rule,plexus.api.Rule,plexus.api.Rule]-/
theorem Om {n} (o:Of n):FJ (rI (Gf n)):=by
 intro a0 a1 r g;rw[rI]at g;refine yw func206 ntmps206 ?_;refine bp g λ_ g=>?_;refine yk<|yL (S:=Int) (G:=λm s=>oT (Gf m) a0 a1 s) (s0:=0) 0 [1,2,6,15,16] [17] (λs=>[(17,.d (.v (.int .i64 s)))]) (λs=>[]) g ?_;rintro n s2 _ g;change oU (Gf n) a0 a1 s2=_ at g;rw[oU]at g;refine yz ?_
 refine bU g λ_ g=>?_;refine yX g aV.aM λx4 _ _ g=>?_;refine yX g aV.aM λx6 _ _ g=>?_;refine yc g (o.a.Ss _ _) λy8 g=>?_;refine bp g λ_ g=>?_;exact yk (yN _ n ⟨by omega,g⟩)
/-plexus.lattice.Equal-/
theorem RZ {n} (o:Of n):JU (sQ (Gf n)):=by
 intro a0 a1 r g;rw[sQ]at g;refine yw func161 ntmps161 ?_
 iterate 3 (refine bU g λ_ g=>?_)
 refine yc g (o.a.JT _ _) λy4 g=>?_;refine bU g λ_ g=>?_;refine yc g (o.a.Oq _ _) λy6 g=>?_;refine bU g λ_ g=>?_;refine yc g (o.a.Ot _ _) λy8 g=>?_;cases g;exact zl
/-slices.EqualFunc[[]plexus.api.aj,[]plexus.api.aj,plexus.api.aj,plexus.api.aj]-/
theorem Oo {n} (o:Of n):FK (rJ (Gf n)):=by
 intro a0 a1 r g;rw[rJ]at g;refine yw func208 ntmps208 ?_;refine bp g λ_ g=>?_;refine yk<|yL (S:=Int) (G:=λm s=>oV (Gf m) a0 a1 s) (s0:=0) 0 [1,2,6,15,16] [17] (λs=>[(17,.d (.v (.int .i64 s)))]) (λs=>[]) g ?_;rintro n s2 _ g;change oW (Gf n) a0 a1 s2=_ at g;rw[oW]at g;refine yz ?_
 refine bU g λ_ g=>?_;refine yX g ai.aM λx4 _ _ g=>?_;refine yX g ai.aM λx6 _ _ g=>?_;refine yc g (o.a.JV _ _) λy8 g=>?_;refine bp g λ_ g=>?_;exact yk (yN _ n ⟨by omega,g⟩)
/-plexus.types.Same-/
theorem UN {n} (o:Of n):Ls (tQ (Gf n)):=by
 intro a0 a1 r g;rw[tQ]at g;refine yw func93 ntmps93 ?_;refine bU g λ_ g=>?_;refine yc g (o.a.JV _ _) λy2 g=>?_;cases g;exact zl
/-(*plexus.types.elaborator).expr-/
theorem UO {n} (o:Of n):Lt (qV (Gf n)):=by
 intro a0 a1 a2 r g;rw[qV]at g;refine yw func48 ntmps48 ?_;refine yp g (o.a.U9 _ _ _) λy1 g=>?_;refine yc g (o.a.CX _) λy2 g=>?_;refine yc g (o.a.wG _) λy3 g=>?_;refine bU g λ_ g=>?_;refine yc g (o.a.U' _ _) λy5 g=>?_;refine bU g λ_ g=>?_;exact yP g (o.a.eI _ _)
/-(*plexus.types.elaborator).any-/
theorem UP {n} (o:Of n):Lu (oE (Gf n)):=by
 intro a0 a1 a2 r g;rw[oE]at g;refine yw func91 ntmps91 ?_;refine yc g (o.a.eE _) λy1 g=>?_;refine yc g (o.a.eE _) λy2 g=>?_;refine yc g (o.a.eE _) λy3 g=>?_
 iterate 4 (refine bp g λ_ g=>?_)
 refine aq g (λ_ g=>?_) λ_ g=>?_;refine yc g (o.a.NI _ _) λy9 g=>?_;refine aq g (λ_ g=>?_) λ_ g=>?_;exact yP g (o.a.eI _ _);refine yX g TParam.aM λx12 _ _ g=>?_;refine yc g (o.a.eE _) λy14 g=>?_;cases g;exact yj;refine aq g (λ_ g=>?_) λ_ g=>?_;refine yc g (o.a.gQ _) λy16 g=>?_;cases g;exact yj
 iterate 2 (refine aq g (λ_ g=>?_) λ_ g=>?_)
 exact yP g (o.a.eI _ _);refine yc g (o.a.wG _) λy20 g=>?_;refine bU g λ_ g=>?_;exact yP g (o.a.eI _ _);refine aq g (λ_ g=>?_) λ_ g=>?_;refine yp g (o.a.mC _ _ _ _ _ _) λy24 g=>?_;cases g;exact zl;refine aq g (λ_ g=>?_) λ_ g=>?_;refine yp g (o.a.mC _ _ _ _ _ _) λy26 g=>?_;cases g;exact zl;refine aq g (λ_ g=>?_) λ_ g=>?_;refine yo [] (tk [0,3,6,9,12,15,18,22,24,27,31]) [] ?_
 iterate 3 (refine yt zp ?_)
 obtain⟨x28,ex28,j29h,g⟩:=bo g;refine yu zp (yi j29h (ae.aM ex28)) ?_
 iterate 2 (refine yt zp ?_)
 refine yq g (o.a.cL _ _ _) zp λy30 g=>?_
 iterate 3 (refine yt zp ?_)
 cases g;exact yj;refine aq g (λ_ g=>?_) λ_ g=>?_;refine yp g (o.a.mC _ _ _ _ _ _) λy32 g=>?_;cases g;exact zl;refine aq g (λ_ g=>?_) λ_ g=>?_;refine yp g (o.a.mC _ _ _ _ _ _) λy34 g=>?_;cases g;exact zl;refine aq g (λ_ g=>?_) λ_ g=>?_;refine yo [0,1,2,3,4] (tk [16,19]) [] ?_;obtain⟨y36,ey36,g⟩:=au g (o.a.eE _);refine yl (yC ey36) ?_;refine yq g (o.a.mC _ _ _ _ _ _) zp λy37 g=>?_;cases g;exact zl;refine aq g (λ_ g=>?_) λ_ g=>?_;refine yp g (o.a.mC _ _ _ _ _ _) λy39 g=>?_;cases g;exact zl;refine aq g (λ_ g=>?_) λ_ g=>?_;refine yp g (o.a.mC _ _ _ _ _ _) λy41 g=>?_;cases g;exact zl;refine aq g (λ_ g=>?_) λ_ g=>?_;refine yp g (o.a.Su _ _ _) λy43 g=>?_;cases g;exact zl;refine yp g (o.a.Sv _ _ _) λy44 g=>?_;cases g;exact zl
/-(*plexus.types.elaborator).pair-/
theorem R1 {n} (o:Of n):JW (qB (Gf n)):=by
 intro a0 a1 a2 a3 a4 a5 r g;rw[qB]at g;refine yw func158 ntmps158 ?_;refine yo [] (tk [0,3,6,9,12,15,19,25]) [7] ?_;obtain⟨x1,ex1,j2h,g⟩:=bo g;refine yu zp (yi j2h (ae.aM ex1)) ?_
 iterate 2 (refine yt zp ?_)
 refine yq g (o.a.cL _ _ _) zp λy3 g=>?_;refine yt zp ?_;refine yo [] (tk [0,3,6,9,12,15,19,25]) [7] ?_;obtain⟨x4,ex4,j5h,g⟩:=bo g;refine yu zp (yi j5h (ae.aM ex4)) ?_
 iterate 2 (refine yt zp ?_)
 refine yq g (o.a.cL _ _ _) zp λy6 g=>?_;refine yt zp ?_;cases g;exact yj
/-(*plexus.types.elaborator).call-/
set_option maxHeartbeats 0 in
theorem R2 {n} (o:Of n):JX (ir (Gf n)):=by
 intro a0 a1 a2 r g;rw[ir]at g;refine yw func159 ntmps159 ?_;refine yc g (o.a.Sw _) λy1 g=>?_
 iterate 2 (refine aq g (λ_ g=>?_) λ_ g=>?_)
 exact yP g (o.a.eI _ _);refine aq g (λ_ g=>?_) λ_ g=>?_;refine yf g (o.a.iu _ _ _) λy6 g=>?_;refine yo [0,1,2,3,4,5] [(6,.one)] [] ?_;refine yY g ae.aM λx7 _ _ g=>?_;obtain⟨y9,ey9,g⟩:=au g (o.a.eE _);refine yl (yC ey9) ?_;refine yk<|af.eT (rs:=_) rfl (λ_=>aD.nil) rfl rfl rfl rfl func200 rfl zk rfl ntmps200 rfl rfl (yz ?_)
 refine yo [] (tk [0,3,6,9,12,18,21,16,25,27,33,32,37]) [] ?_
 iterate 5 (refine yt zp ?_)
 refine yq g (o.a.cL _ _ _) zp λy10 g=>?_;obtain⟨h11,g⟩:=bG g;refine yk<|af.jW 9 zp rfl rfl rfl rfl rfl rfl rfl rfl rfl rfl rfl rfl rfl (zo h11) (yz ?_)
 obtain⟨x12,ex12,j13h,g⟩:=bo g;refine yU zp (yr j13h ex12) ?_;refine yt (dE j13h ex12) ?_;refine iC (Int.toNat 0) 0 (ab.aM ex12) j13h ex12 ?_;cases g;exact yj;refine aq g (λ_ g=>?_) λ_ g=>?_;refine yf g (o.a.iu _ _ _) λy15 g=>?_;refine yo [0,1,2,3,4,5] [(6,.one)] [] ?_;refine yY g ae.aM λx16 _ _ g=>?_;obtain⟨y18,ey18,g⟩:=au g (o.a.eE _);refine yl (yC ey18) ?_;refine yk<|af.eT (rs:=_) rfl (λ_=>aD.nil) rfl rfl rfl rfl func200 rfl zk rfl ntmps200 rfl rfl (yz ?_)
 refine yo [] (tk [0,3,6,9,12,18,21,16,25,27,33,32,37]) [] ?_
 iterate 5 (refine yt zp ?_)
 refine yq g (o.a.cL _ _ _) zp λy19 g=>?_;obtain⟨h20,g⟩:=bG g;refine yk<|af.jW 9 zp rfl rfl rfl rfl rfl rfl rfl rfl rfl rfl rfl rfl rfl (zo h20) (yz ?_)
 obtain⟨x21,ex21,j22h,g⟩:=bo g;refine yU zp (yr j22h ex21) ?_;refine yt (dE j22h ex21) ?_;refine iC (Int.toNat 0) 0 (ab.aM ex21) j22h ex21 ?_;cases g;exact yj;refine aq g (λ_ g=>?_) λ_ g=>?_;refine yf g (o.a.iu _ _ _) λy24 g=>?_;refine Ok.stuck aT ?_;refine af.fW 5 11 52 12 7 rfl rfl rfl ?_;refine yL (S:=Int×(List ab)) (G:=λm s=>vi (Gf m) a0 a1 a2 s.1 s.2) (s0:=(0,[])) 8 [6,10,11,76,77] [78] (λs=>[(78,.d (.v (.int .i64 s.1)))]) (λs=>[(7,.row 52 12 (ab.rows s.2)),(5,.box [.d (.v (.int .i64 23)),.d (.v (.int .i64 a2.aS)),.d (.v (.int .i64 a2.aj.Kind)),.d (.v (.int .i64 a2.aj.Lo)),.d (.v (.int .i64 a2.aj.Hi)),.d (.sl 1 (bn a2.aj.Names)),.d (.sl 6 (ai.rows a2.aj.aB)),.d (.sl 2 (aV.rows a2.aj.bw)),.d (.v (.int .i64 0)),.d (.v (.string ⟨⟨([])⟩⟩)),.d (.v (.int .i64 0)),.os 7 (ab.rows s.2).length])]) g ?_;rintro n ⟨s25,s37⟩ _ g;change zw (Gf n) a0 a1 a2 s25 s37=_ at g;rw[zw]at g;refine yz ?_;refine bU g λ_ g=>?_;refine yX g ae.aM λx39 _ _ g=>?_;refine yk<|af.inl (rs:=_) rfl func200 rfl zk rfl ntmps200 rfl rfl (yz ?_)
 refine yo [] (tk [0,3,6,9,12,18,21,16,25,27,33,32,37]) [] ?_
 iterate 5 (refine yt zp ?_)
 refine yq g (o.a.cL _ _ _) zp λy41 g=>?_;obtain⟨h42,g⟩:=bG g;refine yk<|af.di (rows2:=(ab.rows ([ab.z]))) zp rfl rfl rfl rfl rfl zg rfl zi rfl rfl (ab.bS _) rfl rfl (zo h42) (yz ?_)
 obtain⟨x43,ex43,j44h,g⟩:=bo g;refine yU zp (yr j44h ex43) ?_;refine yt (dE j44h ex43) ?_;refine iC ((↑(ab.rows s37).length:Int).toNat) 0 (ab.aM ex43) j44h ex43 ?_;obtain⟨x45,ex45,j46h,g⟩:=bo g;refine yv (yr j46h ex45) ?_;refine yv (ym ((IntKind.i64.wrap ((↑(ab.rows s37++ab.rows [ab.z]).length:Int)-1)).toNat) 1 (ab.aM ex45)) ?_
 iterate 2 (refine aq g (λ_ g=>?_) λ_ g=>?_)
 exact yP g (o.a.eI _ _)
 iterate 2 (exact yk (yN (_,_) n ⟨by omega,g⟩))
 refine aq g (λ_ g=>?_) λ_ g=>?_;refine yf g (o.a.iu _ _ _) λy51 g=>?_;refine Ok.stuck aT ?_;refine af.fW 5 11 52 12 7 rfl rfl rfl ?_;refine yL (S:=Int×(List ab)) (G:=λm s=>zx (Gf m) a0 a1 a2 s.1 s.2) (s0:=(0,[])) 8 [6,9,10,11,114,115] [116] (λs=>[(116,.d (.v (.int .i64 s.1)))]) (λs=>[(7,.row 52 12 (ab.rows s.2)),(5,.box [.d (.v (.int .i64 24)),.d (.v (.int .i64 a2.aS)),.d (.v (.int .i64 a2.aj.Kind)),.d (.v (.int .i64 a2.aj.Lo)),.d (.v (.int .i64 a2.aj.Hi)),.d (.sl 1 (bn a2.aj.Names)),.d (.sl 6 (ai.rows a2.aj.aB)),.d (.sl 2 (aV.rows a2.aj.bw)),.d (.v (.int .i64 0)),.d (.v (.string ⟨⟨([])⟩⟩)),.d (.v (.int .i64 0)),.os 7 (ab.rows s.2).length])]) g ?_;rintro n ⟨s52,s64⟩ _ g;change zy (Gf n) a0 a1 a2 s52 s64=_ at g;rw[zy]at g;refine yz ?_;refine bU g λ_ g=>?_;refine yX g ae.aM λx66 _ _ g=>?_;refine yo [0,1,2,3,4,5] [(6,.one)] [] ?_;refine yY g ae.aM λx68 _ _ g=>?_;obtain⟨y70,ey70,g⟩:=au g (o.a.eE _);refine yl (yC ey70) ?_;refine yk<|af.eT (rs:=_) rfl (λ_=>aD.nil) rfl rfl rfl rfl func200 rfl zk rfl ntmps200 rfl rfl (yz ?_)
 refine yo [] (tk [0,3,6,9,12,18,21,16,25,27,33,32,37]) [] ?_
 iterate 5 (refine yt zp ?_)
 refine yq g (o.a.cL _ _ _) zp λy71 g=>?_;obtain⟨h72,g⟩:=bG g;refine yk<|af.di (rows2:=(ab.rows ([ab.z]))) zp rfl rfl rfl rfl rfl zg rfl zi rfl rfl (ab.bS _) rfl rfl (zo h72) (yz ?_)
 obtain⟨x73,ex73,j74h,g⟩:=bo g;refine yU zp (yr j74h ex73) ?_;refine yt (dE j74h ex73) ?_;refine iC ((↑(ab.rows s64).length:Int).toNat) 0 (ab.aM ex73) j74h ex73 ?_;refine yo [0,1,2,3,4,5,6,7,8,9] [(10,.one)] [] ?_;refine yY g ae.aM λx75 _ _ g=>?_;refine yY g ai.aM λx77 _ _ g=>?_;obtain⟨y79,ey79,g⟩:=au g (o.a.gQ _);refine yl (yC ey79) ?_;refine yk<|af.eT (rs:=_) rfl (λ_=>aD.nil) rfl rfl rfl rfl func200 rfl zk rfl ntmps200 rfl rfl (yz ?_)
 refine yo [] (tk [0,3,6,9,12,18,21,16,25,27,33,32,37]) [] ?_
 iterate 5 (refine yt (dE j74h ex73) ?_)
 refine yq g (o.a.cL _ _ _) (dE j74h ex73) λy80 g=>?_;obtain⟨h81,g⟩:=bG g;refine yk<|af.di (rows2:=(ab.rows ([ab.z]))) (by repeat(first|exact aD.nil|refine aD.cons rfl (a8.dk (cl:=false) rfl aT) ?_|refine aD.skip rfl ?_|refine aD.cons rfl (yr j74h ex73) ?_|refine aD.cons rfl (dK (cl:=false) rfl aT) ?_)) rfl rfl rfl rfl rfl zg rfl zi rfl rfl (ab.bS _) rfl rfl (zo h81) (yz ?_)
 obtain⟨x82,ex82,j83h,g⟩:=bo g;refine yU zp (yr j83h ex82) ?_;refine yt (jd j74h ex73 j83h ex82) ?_;refine qW ((↑(ab.rows s64++ab.rows [ab.z]).length:Int).toNat) 0 (ab.aM ex82) j74h ex73 j83h ex82 ?_;exact yk (yN (_,_) n ⟨by omega,g⟩);refine aq g (λ_ g=>?_) λ_ g=>?_;refine yf g (o.a.iu _ _ _) λy85 g=>?_;refine yp g (o.a.JY _ _ _) λy86 g=>?_;cases g;exact zl;refine aq g (λ_ g=>?_) λ_ g=>?_;refine yf g (o.a.iu _ _ _) λy88 g=>?_;refine yo [0,1,2,3,4,5,6,7,8,9] [(10,.one)] [] ?_;refine yY g ae.aM λx89 _ _ g=>?_;refine yY g ai.aM λx91 _ _ g=>?_;obtain⟨y93,ey93,g⟩:=au g (o.a.gQ _);refine yl (yC ey93) ?_;refine yk<|af.eT (rs:=_) rfl (λ_=>aD.nil) rfl rfl rfl rfl func200 rfl zk rfl ntmps200 rfl rfl (yz ?_)
 refine yo [] (tk [0,3,6,9,12,18,21,16,25,27,33,32,37]) [] ?_
 iterate 5 (refine yt zp ?_)
 refine yq g (o.a.cL _ _ _) zp λy94 g=>?_;obtain⟨h95,g⟩:=bG g;refine yk<|af.jW 9 zp rfl rfl rfl rfl rfl rfl rfl rfl rfl rfl rfl rfl rfl (zo h95) (yz ?_)
 obtain⟨x96,ex96,j97h,g⟩:=bo g;refine yU zp (yr j97h ex96) ?_;refine yt (dE j97h ex96) ?_;refine iC (Int.toNat 0) 0 (ab.aM ex96) j97h ex96 ?_;refine yo [0,1,2,3,4,5,6,7,8,9] [(10,.one)] [] ?_;refine yY g ae.aM λx98 _ _ g=>?_;refine yY g ai.aM λx100 _ _ g=>?_;obtain⟨y102,ey102,g⟩:=au g (o.a.gQ _);refine yl (yC ey102) ?_;refine yk<|af.eT (rs:=_) rfl (λ_=>aD.nil) rfl rfl rfl rfl func200 rfl zk rfl ntmps200 rfl rfl (yz ?_)
 refine yo [] (tk [0,3,6,9,12,18,21,16,25,27,33,32,37]) [] ?_
 iterate 5 (refine yt (dE j97h ex96) ?_)
 refine yq g (o.a.cL _ _ _) (dE j97h ex96) λy103 g=>?_;obtain⟨h104,g⟩:=bG g;refine yk<|af.di (rows2:=(ab.rows ([ab.z]))) (by repeat(first|exact aD.nil|refine aD.cons rfl (a8.dk (cl:=false) rfl aT) ?_|refine aD.skip rfl ?_|refine aD.cons rfl (yr j97h ex96) ?_|refine aD.cons rfl (dK (cl:=false) rfl aT) ?_)) rfl rfl rfl rfl rfl zg rfl zi rfl rfl (ab.bS _) rfl rfl (zo h104) (yz ?_)
 obtain⟨x105,ex105,j106h,g⟩:=bo g;refine yU zp (yr j106h ex105) ?_;refine yt (jd j97h ex96 j106h ex105) ?_;refine qW (Int.toNat 1) 0 (ab.aM ex105) j97h ex96 j106h ex105 ?_;cases g;exact yj;refine aq g (λ_ g=>?_) λ_ g=>?_;refine yf g (o.a.iu _ _ _) λy108 g=>?_;refine yo [0,1,2,3,4,5] [(6,.one)] [] ?_;refine yY g ae.aM λx109 _ _ g=>?_;obtain⟨y111,ey111,g⟩:=au g (o.a.eE _);refine yl (yC ey111) ?_;refine yk<|af.eT (rs:=_) rfl (λ_=>aD.nil) rfl rfl rfl rfl func200 rfl zk rfl ntmps200 rfl rfl (yz ?_)
 refine yo [] (tk [0,3,6,9,12,18,21,16,25,27,33,32,37]) [] ?_
 iterate 5 (refine yt zp ?_)
 refine yq g (o.a.cL _ _ _) zp λy112 g=>?_;obtain⟨h113,g⟩:=bG g;refine yk<|af.jW 9 zp rfl rfl rfl rfl rfl rfl rfl rfl rfl rfl rfl rfl rfl (zo h113) (yz ?_)
 obtain⟨x114,ex114,j115h,g⟩:=bo g;refine yU zp (yr j115h ex114) ?_;refine yt (dE j115h ex114) ?_;refine iC (Int.toNat 0) 0 (ab.aM ex114) j115h ex114 ?_;cases g;exact yj;refine aq g (λ_ g=>?_) λ_ g=>?_;refine yc g (o.a.gQ _) λy117 g=>?_;refine yo [0,1,2,3,4,5,6] [(7,.one)] [] ?_;refine yY g ae.aM λx118 _ _ g=>?_;refine yk<|af.eT (rs:=_) rfl (λ_=>aD.nil) rfl rfl rfl rfl func200 rfl zk rfl ntmps200 rfl rfl (yz ?_)
 refine yo [] (tk [0,3,6,9,12,18,21,16,25,27,33,32,37]) [] ?_
 iterate 5 (refine yt zp ?_)
 refine yq g (o.a.cL _ _ _) zp λy120 g=>?_;obtain⟨h121,g⟩:=bG g;refine yk<|af.jW 8 zp rfl rfl rfl rfl rfl rfl rfl rfl rfl rfl rfl rfl rfl (zo h121) (yz ?_)
 obtain⟨x122,ex122,j123h,g⟩:=bo g;refine yU zp (yr j123h ex122) ?_;refine yt (dE j123h ex122) ?_;refine iC (Int.toNat 0) 0 (ab.aM ex122) j123h ex122 ?_;refine yo [0,1,2,3,4,5] [(6,.one)] [] ?_;refine yY g ae.aM λx124 _ _ g=>?_;obtain⟨y126,ey126,g⟩:=au g (o.a.eE _);refine yl (yC ey126) ?_;refine yk<|af.eT (rs:=_) rfl (λ_=>aD.nil) rfl rfl rfl rfl func200 rfl zk rfl ntmps200 rfl rfl (yz ?_)
 refine yo [] (tk [0,3,6,9,12,18,21,16,25,27,33,32,37]) [] ?_
 iterate 5 (refine yt (dE j123h ex122) ?_)
 refine yq g (o.a.cL _ _ _) (dE j123h ex122) λy127 g=>?_;obtain⟨h128,g⟩:=bG g;refine yk<|af.di (rows2:=(ab.rows ([ab.z]))) (by repeat(first|exact aD.nil|refine aD.cons rfl (a8.dk (cl:=false) rfl aT) ?_|refine aD.skip rfl ?_|refine aD.cons rfl (yr j123h ex122) ?_|refine aD.cons rfl (dK (cl:=false) rfl aT) ?_)) rfl rfl rfl rfl rfl zg rfl zi rfl rfl (ab.bS _) rfl rfl (zo h128) (yz ?_)
 obtain⟨x129,ex129,j130h,g⟩:=bo g;refine yU zp (yr j130h ex129) ?_;refine yt (jd j123h ex122 j130h ex129) ?_;refine qW (Int.toNat 1) 0 (ab.aM ex129) j123h ex122 j130h ex129 ?_;refine yo [0,1,2,3,4,5] [(6,.one)] [] ?_;refine yY g ae.aM λx131 _ _ g=>?_;obtain⟨y133,ey133,g⟩:=au g (o.a.eE _);refine yl (yC ey133) ?_;refine yk<|af.eT (rs:=_) rfl (λ_=>aD.nil) rfl rfl rfl rfl func200 rfl zk rfl ntmps200 rfl rfl (yz ?_)
 refine yo [] (tk [0,3,6,9,12,18,21,16,25,27,33,32,37]) [] ?_
 iterate 5 (refine yt (jd j123h ex122 j130h ex129) ?_)
 refine yq g (o.a.cL _ _ _) (jd j123h ex122 j130h ex129) λy134 g=>?_;obtain⟨h135,g⟩:=bG g;refine yk<|af.di (rows2:=(ab.rows ([ab.z]))) (by repeat(first|exact aD.nil|refine aD.cons rfl (a8.dk (cl:=false) rfl aT) ?_|refine aD.skip rfl ?_|refine aD.cons rfl (yr j123h ex122) ?_|refine aD.cons rfl (yr j130h ex129) ?_|refine aD.cons rfl (dK (cl:=false) rfl aT) ?_)) rfl rfl rfl rfl rfl zg rfl zi rfl rfl (ab.bS _) rfl rfl (zo h135) (yz ?_)
 obtain⟨x136,ex136,j137h,g⟩:=bo g;refine yU zp (yr j137h ex136) ?_;refine yt (Lv j123h ex122 j130h ex129 j137h ex136) ?_;refine yk<|af.u0 (Int.toNat 2) 0 (by repeat(first|exact aD.nil|refine aD.cons rfl (a8.dk (cl:=false) rfl aT) ?_|refine aD.skip rfl ?_|refine aD.cons rfl (yr j123h ex122) ?_|refine aD.cons rfl (yr j130h ex129) ?_|refine aD.cons rfl (yr j137h ex136) ?_|refine aD.cons rfl (dK (cl:=false) rfl aT) ?_)) (by rfl) (by rfl) (by rfl) (by rfl) (by rfl) (by rfl) (by rfl) (by rfl) (by rfl) (by rfl) (yg (ab.aM ex136)) (by rfl) (by rfl) (by rfl) (by rfl) (by rfl) (by rfl) (by rfl) (by rfl) (by rfl) (by rfl) (by rfl) (by rfl) (by rfl) (by rfl) (by rfl) (by repeat(first|exact aD.nil|refine aD.cons rfl (a8.dk (cl:=false) rfl aT) ?_|refine aD.skip rfl ?_|refine aD.cons rfl (yr j123h ex122) ?_|refine aD.cons rfl (yr j130h ex129) ?_|refine aD.cons rfl (yr j137h ex136) ?_|refine aD.cons rfl (dK (cl:=false) rfl aT) ?_)) (by repeat(first|exact aD.nil|refine aD.cons rfl (a8.dk (cl:=false) rfl aT) ?_|refine aD.skip rfl ?_|refine aD.cons rfl (yr j123h ex122) ?_|refine aD.cons rfl (yr j130h ex129) ?_|refine aD.cons rfl (yr j137h ex136) ?_|refine aD.cons rfl (dK (cl:=false) rfl aT) ?_)) (yz ?_)
 cases g;exact yj;refine yp g (o.a.JZ _ _) λy138 g=>?_;cases g;exact zl;refine aq g (λ_ g=>?_) λ_ g=>?_;refine yf g (o.a.iu _ _ _) λy140 g=>?_;refine yo [0,1,2,3,4,5] [(6,.one)] [] ?_;refine yY g ae.aM λx141 _ _ g=>?_;obtain⟨y143,ey143,g⟩:=au g (o.a.eE _);refine yl (yC ey143) ?_;refine yk<|af.eT (rs:=_) rfl (λ_=>aD.nil) rfl rfl rfl rfl func200 rfl zk rfl ntmps200 rfl rfl (yz ?_)
 refine yo [] (tk [0,3,6,9,12,18,21,16,25,27,33,32,37]) [] ?_
 iterate 5 (refine yt zp ?_)
 refine yq g (o.a.cL _ _ _) zp λy144 g=>?_;obtain⟨h145,g⟩:=bG g;refine yk<|af.jW 9 zp rfl rfl rfl rfl rfl rfl rfl rfl rfl rfl rfl rfl rfl (zo h145) (yz ?_)
 obtain⟨x146,ex146,j147h,g⟩:=bo g;refine yU zp (yr j147h ex146) ?_;refine yt (dE j147h ex146) ?_;refine iC (Int.toNat 0) 0 (ab.aM ex146) j147h ex146 ?_;cases g;exact yj;refine aq g (λ_ g=>?_) λ_ g=>?_;refine yf g (o.a.iu _ _ _) λy149 g=>?_;refine yo [0,1,2,3,4,5] [(6,.one)] [] ?_;refine yY g ae.aM λx150 _ _ g=>?_;obtain⟨y152,ey152,g⟩:=au g (o.a.eE _);refine yl (yC ey152) ?_;refine yk<|af.eT (rs:=_) rfl (λ_=>aD.nil) rfl rfl rfl rfl func200 rfl zk rfl ntmps200 rfl rfl (yz ?_)
 refine yo [] (tk [0,3,6,9,12,18,21,16,25,27,33,32,37]) [] ?_
 iterate 5 (refine yt zp ?_)
 refine yq g (o.a.cL _ _ _) zp λy153 g=>?_;obtain⟨h154,g⟩:=bG g;refine yk<|af.jW 9 zp rfl rfl rfl rfl rfl rfl rfl rfl rfl rfl rfl rfl rfl (zo h154) (yz ?_)
 obtain⟨x155,ex155,j156h,g⟩:=bo g;refine yU zp (yr j156h ex155) ?_;refine yt (dE j156h ex155) ?_;refine iC (Int.toNat 0) 0 (ab.aM ex155) j156h ex155 ?_;cases g;exact yj;refine aq g (λ_ g=>?_) λ_ g=>?_;refine yf g (o.a.iu _ _ _) λy158 g=>?_;refine Ok.stuck aT ?_;refine af.fW 5 11 52 12 7 rfl rfl rfl ?_;refine yL (S:=Int×(List ab)) (G:=λm s=>gZ (Gf m) a0 a1 a2 s.1 s.2) (s0:=(0,[])) 8 [6,10,11,76,77] [78] (λs=>[(78,.d (.v (.int .i64 s.1)))]) (λs=>[(7,.row 52 12 (ab.rows s.2)),(5,.box [.d (.v (.int .i64 23)),.d (.v (.int .i64 a2.aS)),.d (.v (.int .i64 a2.aj.Kind)),.d (.v (.int .i64 a2.aj.Lo)),.d (.v (.int .i64 a2.aj.Hi)),.d (.sl 1 (bn a2.aj.Names)),.d (.sl 6 (ai.rows a2.aj.aB)),.d (.sl 2 (aV.rows a2.aj.bw)),.d (.v (.int .i64 0)),.d (.v (.string ⟨⟨([])⟩⟩)),.d (.v (.int .i64 0)),.os 7 (ab.rows s.2).length])]) g ?_;rintro n ⟨s159,s171⟩ _ g;change kH (Gf n) a0 a1 a2 s159 s171=_ at g;rw[kH]at g;refine yz ?_;refine bU g λ_ g=>?_;refine yX g ae.aM λx173 _ _ g=>?_;refine yk<|af.inl (rs:=_) rfl func200 rfl zk rfl ntmps200 rfl rfl (yz ?_)
 refine yo [] (tk [0,3,6,9,12,18,21,16,25,27,33,32,37]) [] ?_
 iterate 5 (refine yt zp ?_)
 refine yq g (o.a.cL _ _ _) zp λy175 g=>?_;obtain⟨h176,g⟩:=bG g;refine yk<|af.di (rows2:=(ab.rows ([ab.z]))) zp rfl rfl rfl rfl rfl zg rfl zi rfl rfl (ab.bS _) rfl rfl (zo h176) (yz ?_)
 obtain⟨x177,ex177,j178h,g⟩:=bo g;refine yU zp (yr j178h ex177) ?_;refine yt (dE j178h ex177) ?_;refine iC ((↑(ab.rows s171).length:Int).toNat) 0 (ab.aM ex177) j178h ex177 ?_;obtain⟨x179,ex179,j180h,g⟩:=bo g;refine yv (yr j180h ex179) ?_;refine yv (ym ((IntKind.i64.wrap ((↑(ab.rows s171++ab.rows [ab.z]).length:Int)-1)).toNat) 1 (ab.aM ex179)) ?_
 iterate 2 (refine aq g (λ_ g=>?_) λ_ g=>?_)
 exact yP g (o.a.eI _ _)
 iterate 2 (exact yk (yN (_,_) n ⟨by omega,g⟩))
 refine aq g (λ_ g=>?_) λ_ g=>?_;refine yf g (o.a.iu _ _ _) λy185 g=>?_;refine Ok.stuck aT ?_;refine af.fW 5 11 52 12 7 rfl rfl rfl ?_;refine yL (S:=Int×(List ab)) (G:=λm s=>kI (Gf m) a0 a1 a2 s.1 s.2) (s0:=(0,[])) 8 [6,9,10,11,114,115] [116] (λs=>[(116,.d (.v (.int .i64 s.1)))]) (λs=>[(7,.row 52 12 (ab.rows s.2)),(5,.box [.d (.v (.int .i64 24)),.d (.v (.int .i64 a2.aS)),.d (.v (.int .i64 a2.aj.Kind)),.d (.v (.int .i64 a2.aj.Lo)),.d (.v (.int .i64 a2.aj.Hi)),.d (.sl 1 (bn a2.aj.Names)),.d (.sl 6 (ai.rows a2.aj.aB)),.d (.sl 2 (aV.rows a2.aj.bw)),.d (.v (.int .i64 0)),.d (.v (.string ⟨⟨([])⟩⟩)),.d (.v (.int .i64 0)),.os 7 (ab.rows s.2).length])]) g ?_;rintro n ⟨s186,s198⟩ _ g;change mc (Gf n) a0 a1 a2 s186 s198=_ at g;rw[mc]at g;refine yz ?_;refine bU g λ_ g=>?_;refine yX g ae.aM λx200 _ _ g=>?_;refine yo [0,1,2,3,4,5] [(6,.one)] [] ?_;refine yY g ae.aM λx202 _ _ g=>?_;obtain⟨y204,ey204,g⟩:=au g (o.a.eE _);refine yl (yC ey204) ?_;refine yk<|af.eT (rs:=_) rfl (λ_=>aD.nil) rfl rfl rfl rfl func200 rfl zk rfl ntmps200 rfl rfl (yz ?_)
 refine yo [] (tk [0,3,6,9,12,18,21,16,25,27,33,32,37]) [] ?_
 iterate 5 (refine yt zp ?_)
 refine yq g (o.a.cL _ _ _) zp λy205 g=>?_;obtain⟨h206,g⟩:=bG g;refine yk<|af.di (rows2:=(ab.rows ([ab.z]))) zp rfl rfl rfl rfl rfl zg rfl zi rfl rfl (ab.bS _) rfl rfl (zo h206) (yz ?_)
 obtain⟨x207,ex207,j208h,g⟩:=bo g;refine yU zp (yr j208h ex207) ?_;refine yt (dE j208h ex207) ?_;refine iC ((↑(ab.rows s198).length:Int).toNat) 0 (ab.aM ex207) j208h ex207 ?_;refine yo [0,1,2,3,4,5,6,7,8,9] [(10,.one)] [] ?_;refine yY g ae.aM λx209 _ _ g=>?_;refine yY g ai.aM λx211 _ _ g=>?_;obtain⟨y213,ey213,g⟩:=au g (o.a.gQ _);refine yl (yC ey213) ?_;refine yk<|af.eT (rs:=_) rfl (λ_=>aD.nil) rfl rfl rfl rfl func200 rfl zk rfl ntmps200 rfl rfl (yz ?_)
 refine yo [] (tk [0,3,6,9,12,18,21,16,25,27,33,32,37]) [] ?_
 iterate 5 (refine yt (dE j208h ex207) ?_)
 refine yq g (o.a.cL _ _ _) (dE j208h ex207) λy214 g=>?_;obtain⟨h215,g⟩:=bG g;refine yk<|af.di (rows2:=(ab.rows ([ab.z]))) (by repeat(first|exact aD.nil|refine aD.cons rfl (a8.dk (cl:=false) rfl aT) ?_|refine aD.skip rfl ?_|refine aD.cons rfl (yr j208h ex207) ?_|refine aD.cons rfl (dK (cl:=false) rfl aT) ?_)) rfl rfl rfl rfl rfl zg rfl zi rfl rfl (ab.bS _) rfl rfl (zo h215) (yz ?_)
 obtain⟨x216,ex216,j217h,g⟩:=bo g;refine yU zp (yr j217h ex216) ?_;refine yt (jd j208h ex207 j217h ex216) ?_;refine qW ((↑(ab.rows s198++ab.rows [ab.z]).length:Int).toNat) 0 (ab.aM ex216) j208h ex207 j217h ex216 ?_;exact yk (yN (_,_) n ⟨by omega,g⟩);refine aq g (λ_ g=>?_) λ_ g=>?_;refine yf g (o.a.iu _ _ _) λy219 g=>?_;refine yp g (o.a.JY _ _ _) λy220 g=>?_;cases g;exact zl;refine aq g (λ_ g=>?_) λ_ g=>?_;refine yf g (o.a.iu _ _ _) λy222 g=>?_;refine yo [0,1,2,3,4,5,6,7,8,9] [(10,.one)] [] ?_;refine yY g ae.aM λx223 _ _ g=>?_;refine yY g ai.aM λx225 _ _ g=>?_;obtain⟨y227,ey227,g⟩:=au g (o.a.gQ _);refine yl (yC ey227) ?_;refine yk<|af.eT (rs:=_) rfl (λ_=>aD.nil) rfl rfl rfl rfl func200 rfl zk rfl ntmps200 rfl rfl (yz ?_)
 refine yo [] (tk [0,3,6,9,12,18,21,16,25,27,33,32,37]) [] ?_
 iterate 5 (refine yt zp ?_)
 refine yq g (o.a.cL _ _ _) zp λy228 g=>?_;obtain⟨h229,g⟩:=bG g;refine yk<|af.jW 9 zp rfl rfl rfl rfl rfl rfl rfl rfl rfl rfl rfl rfl rfl (zo h229) (yz ?_)
 obtain⟨x230,ex230,j231h,g⟩:=bo g;refine yU zp (yr j231h ex230) ?_;refine yt (dE j231h ex230) ?_;refine iC (Int.toNat 0) 0 (ab.aM ex230) j231h ex230 ?_;refine yo [0,1,2,3,4,5,6,7,8,9] [(10,.one)] [] ?_;refine yY g ae.aM λx232 _ _ g=>?_;refine yY g ai.aM λx234 _ _ g=>?_;obtain⟨y236,ey236,g⟩:=au g (o.a.gQ _);refine yl (yC ey236) ?_;refine yk<|af.eT (rs:=_) rfl (λ_=>aD.nil) rfl rfl rfl rfl func200 rfl zk rfl ntmps200 rfl rfl (yz ?_)
 refine yo [] (tk [0,3,6,9,12,18,21,16,25,27,33,32,37]) [] ?_
 iterate 5 (refine yt (dE j231h ex230) ?_)
 refine yq g (o.a.cL _ _ _) (dE j231h ex230) λy237 g=>?_;obtain⟨h238,g⟩:=bG g;refine yk<|af.di (rows2:=(ab.rows ([ab.z]))) (by repeat(first|exact aD.nil|refine aD.cons rfl (a8.dk (cl:=false) rfl aT) ?_|refine aD.skip rfl ?_|refine aD.cons rfl (yr j231h ex230) ?_|refine aD.cons rfl (dK (cl:=false) rfl aT) ?_)) rfl rfl rfl rfl rfl zg rfl zi rfl rfl (ab.bS _) rfl rfl (zo h238) (yz ?_)
 obtain⟨x239,ex239,j240h,g⟩:=bo g;refine yU zp (yr j240h ex239) ?_;refine yt (jd j231h ex230 j240h ex239) ?_;refine qW (Int.toNat 1) 0 (ab.aM ex239) j231h ex230 j240h ex239 ?_;cases g;exact yj;refine aq g (λ_ g=>?_) λ_ g=>?_;refine yf g (o.a.iu _ _ _) λy242 g=>?_;refine yo [0,1,2,3,4,5] [(6,.one)] [] ?_;refine yY g ae.aM λx243 _ _ g=>?_;obtain⟨y245,ey245,g⟩:=au g (o.a.eE _);refine yl (yC ey245) ?_;refine yk<|af.eT (rs:=_) rfl (λ_=>aD.nil) rfl rfl rfl rfl func200 rfl zk rfl ntmps200 rfl rfl (yz ?_)
 refine yo [] (tk [0,3,6,9,12,18,21,16,25,27,33,32,37]) [] ?_
 iterate 5 (refine yt zp ?_)
 refine yq g (o.a.cL _ _ _) zp λy246 g=>?_;obtain⟨h247,g⟩:=bG g;refine yk<|af.jW 9 zp rfl rfl rfl rfl rfl rfl rfl rfl rfl rfl rfl rfl rfl (zo h247) (yz ?_)
 obtain⟨x248,ex248,j249h,g⟩:=bo g;refine yU zp (yr j249h ex248) ?_;refine yt (dE j249h ex248) ?_;refine iC (Int.toNat 0) 0 (ab.aM ex248) j249h ex248 ?_;cases g;exact yj;refine aq g (λ_ g=>?_) λ_ g=>?_;refine yc g (o.a.gQ _) λy251 g=>?_;refine yo [0,1,2,3,4,5,6] [(7,.one)] [] ?_;refine yY g ae.aM λx252 _ _ g=>?_;refine yk<|af.eT (rs:=_) rfl (λ_=>aD.nil) rfl rfl rfl rfl func200 rfl zk rfl ntmps200 rfl rfl (yz ?_)
 refine yo [] (tk [0,3,6,9,12,18,21,16,25,27,33,32,37]) [] ?_
 iterate 5 (refine yt zp ?_)
 refine yq g (o.a.cL _ _ _) zp λy254 g=>?_;obtain⟨h255,g⟩:=bG g;refine yk<|af.jW 8 zp rfl rfl rfl rfl rfl rfl rfl rfl rfl rfl rfl rfl rfl (zo h255) (yz ?_)
 obtain⟨x256,ex256,j257h,g⟩:=bo g;refine yU zp (yr j257h ex256) ?_;refine yt (dE j257h ex256) ?_;refine iC (Int.toNat 0) 0 (ab.aM ex256) j257h ex256 ?_;refine yo [0,1,2,3,4,5] [(6,.one)] [] ?_;refine yY g ae.aM λx258 _ _ g=>?_;obtain⟨y260,ey260,g⟩:=au g (o.a.eE _);refine yl (yC ey260) ?_;refine yk<|af.eT (rs:=_) rfl (λ_=>aD.nil) rfl rfl rfl rfl func200 rfl zk rfl ntmps200 rfl rfl (yz ?_)
 refine yo [] (tk [0,3,6,9,12,18,21,16,25,27,33,32,37]) [] ?_
 iterate 5 (refine yt (dE j257h ex256) ?_)
 refine yq g (o.a.cL _ _ _) (dE j257h ex256) λy261 g=>?_;obtain⟨h262,g⟩:=bG g;refine yk<|af.di (rows2:=(ab.rows ([ab.z]))) (by repeat(first|exact aD.nil|refine aD.cons rfl (a8.dk (cl:=false) rfl aT) ?_|refine aD.skip rfl ?_|refine aD.cons rfl (yr j257h ex256) ?_|refine aD.cons rfl (dK (cl:=false) rfl aT) ?_)) rfl rfl rfl rfl rfl zg rfl zi rfl rfl (ab.bS _) rfl rfl (zo h262) (yz ?_)
 obtain⟨x263,ex263,j264h,g⟩:=bo g;refine yU zp (yr j264h ex263) ?_;refine yt (jd j257h ex256 j264h ex263) ?_;refine qW (Int.toNat 1) 0 (ab.aM ex263) j257h ex256 j264h ex263 ?_;refine yo [0,1,2,3,4,5] [(6,.one)] [] ?_;refine yY g ae.aM λx265 _ _ g=>?_;obtain⟨y267,ey267,g⟩:=au g (o.a.eE _);refine yl (yC ey267) ?_;refine yk<|af.eT (rs:=_) rfl (λ_=>aD.nil) rfl rfl rfl rfl func200 rfl zk rfl ntmps200 rfl rfl (yz ?_)
 refine yo [] (tk [0,3,6,9,12,18,21,16,25,27,33,32,37]) [] ?_
 iterate 5 (refine yt (jd j257h ex256 j264h ex263) ?_)
 refine yq g (o.a.cL _ _ _) (jd j257h ex256 j264h ex263) λy268 g=>?_;obtain⟨h269,g⟩:=bG g;refine yk<|af.di (rows2:=(ab.rows ([ab.z]))) (by repeat(first|exact aD.nil|refine aD.cons rfl (a8.dk (cl:=false) rfl aT) ?_|refine aD.skip rfl ?_|refine aD.cons rfl (yr j257h ex256) ?_|refine aD.cons rfl (yr j264h ex263) ?_|refine aD.cons rfl (dK (cl:=false) rfl aT) ?_)) rfl rfl rfl rfl rfl zg rfl zi rfl rfl (ab.bS _) rfl rfl (zo h269) (yz ?_)
 obtain⟨x270,ex270,j271h,g⟩:=bo g;refine yU zp (yr j271h ex270) ?_;refine yt (Lv j257h ex256 j264h ex263 j271h ex270) ?_;refine yk<|af.u0 (Int.toNat 2) 0 (by repeat(first|exact aD.nil|refine aD.cons rfl (a8.dk (cl:=false) rfl aT) ?_|refine aD.skip rfl ?_|refine aD.cons rfl (yr j257h ex256) ?_|refine aD.cons rfl (yr j264h ex263) ?_|refine aD.cons rfl (yr j271h ex270) ?_|refine aD.cons rfl (dK (cl:=false) rfl aT) ?_)) (by rfl) (by rfl) (by rfl) (by rfl) (by rfl) (by rfl) (by rfl) (by rfl) (by rfl) (by rfl) (yg (ab.aM ex270)) (by rfl) (by rfl) (by rfl) (by rfl) (by rfl) (by rfl) (by rfl) (by rfl) (by rfl) (by rfl) (by rfl) (by rfl) (by rfl) (by rfl) (by rfl) (by repeat(first|exact aD.nil|refine aD.cons rfl (a8.dk (cl:=false) rfl aT) ?_|refine aD.skip rfl ?_|refine aD.cons rfl (yr j257h ex256) ?_|refine aD.cons rfl (yr j264h ex263) ?_|refine aD.cons rfl (yr j271h ex270) ?_|refine aD.cons rfl (dK (cl:=false) rfl aT) ?_)) (by repeat(first|exact aD.nil|refine aD.cons rfl (a8.dk (cl:=false) rfl aT) ?_|refine aD.skip rfl ?_|refine aD.cons rfl (yr j257h ex256) ?_|refine aD.cons rfl (yr j264h ex263) ?_|refine aD.cons rfl (yr j271h ex270) ?_|refine aD.cons rfl (dK (cl:=false) rfl aT) ?_)) (yz ?_)
 cases g;exact yj;refine yp g (o.a.JZ _ _) λy272 g=>?_;cases g;exact zl
/-(*plexus.types.elaborator).record-/
theorem R3 {n} (o:Of n):J0 (qC (Gf n)):=by
 intro a0 a1 a2 r g;rw[qC]at g;refine yw func201 ntmps201 ?_;obtain⟨m1,em1,g⟩:=eQ g;obtain⟨hm1,bm1⟩:=EJ em1;refine yk<|af.Ja m1 (ab.rows (List.replicate m1 ab.z)) rfl hm1 rfl hm1 rfl rfl rfl rfl rfl (by omega) (by simp only[ab.bL,We];exact de.replicate zi _) rfl (yz ?_)
 obtain⟨m2,em2,g⟩:=eQ g;obtain⟨hm2,bm2⟩:=EJ em2;refine yk<|af.Ja m2 (gL (List.replicate m2 false)) rfl hm2 rfl hm2 rfl rfl rfl rfl rfl (by omega) (by simp only[gL,We];exact de.replicate zi _) rfl (yz ?_)
 refine yk<|yL (S:=(List ab)×(List Bool)×Int) (G:=λm s=>me (Gf m) a0 a1 a2 s.1 s.2.1 s.2.2) (s0:=(List.replicate m1 ab.z,List.replicate m2 false,0)) 4 [0,4,5,6,23,24] [7,8,25] (λs=>[(7,.os 2 (ab.rows s.1).length),(8,.os 3 (gL s.2.1).length),(25,.d (.v (.int .i64 s.2.2)))]) (λs=>[(2,.row 52 12 (ab.rows s.1)),(3,.row 4 1 (gL s.2.1))]) g ?_;rintro n ⟨s3,s4,s5⟩ _ g;change mf (Gf n) a0 a1 a2 s3 s4 s5=_ at g;rw[mf]at g;refine yz ?_
 refine aq g (λ_ g=>?_) λ_ g=>?_;refine yX g ae.aM λx7 _ _ g=>?_;refine yc g (o.a.J1 _ _) λy9 g=>?_;refine aq g (λ_ g=>?_) λ_ g=>?_;exact yP g (o.a.eI _ _);obtain⟨x12,ex12,j13h,g⟩:=bo g;refine yv (yr j13h ex12) ?_;refine yv (ym y9.toNat 0 (xV ex12)) ?_;refine aq g (λ_ g=>?_) λ_ g=>?_;exact yP g (o.a.eI _ _);refine yo [] (tk [0,3,6,9,12,15,18,21,24,27,30,33,36,39,42,46,48,52,54,58]) [] ?_;obtain⟨x16,ex16,j17h,g⟩:=bo g;refine yu zp (yi j17h (ae.aM ex16)) ?_
 iterate 4 (refine yt zp ?_)
 obtain⟨x18,ex18,j19h,g⟩:=bo g;refine yu zp (yi j19h (ai.aM ex18)) ?_;refine yt zp ?_;obtain⟨y20,ey20,g⟩:=au g (o.a.gQ _);refine yu zp (aR.call ey20 rfl rfl) ?_;refine yq g (o.a.cL _ _ _) zp λy21 g=>?_;obtain⟨x22,ex22,j23h,g⟩:=bo g;refine yU zp (yr j23h ex22) ?_;refine yk<|af.oX y9.toNat 0 (by repeat(first|exact aD.nil|refine aD.cons rfl (a8.dk (cl:=false) rfl aT) ?_|refine aD.skip rfl ?_|refine aD.cons rfl (yr j23h ex22) ?_|refine aD.cons rfl (dK (cl:=false) rfl aT) ?_)) (by rfl) (by rfl) (by rfl) (by rfl) (by rfl) (by rfl) (by rfl) (by rfl) zg (by rfl) (yg (ab.aM ex22)) (by rfl) (by rfl) (by rfl) (by rfl) (yz ?_)
 obtain⟨x24,ex24,j25h,g⟩:=bo g;refine yU zp (yr j25h ex24) ?_;refine yk<|af.oX y9.toNat 0 (by repeat(first|exact aD.nil|refine aD.cons rfl (a8.dk (cl:=false) rfl aT) ?_|refine aD.skip rfl ?_|refine aD.cons rfl (yr j23h ex22) ?_|refine aD.cons rfl (yr j25h ex24) ?_|refine aD.cons rfl (dK (cl:=false) rfl aT) ?_)) (by rfl) (by rfl) (by rfl) (by rfl) (by rfl) (by rfl) (by rfl) (by rfl) zg (by rfl) (yg (xV ex24)) (by rfl) (by rfl) (by rfl) (by rfl) (yz ?_)
 exact yk (yN (_,_,_) n ⟨by omega,g⟩);refine yk<|yL (S:=(List ab)×Int) (G:=λm s=>kJ (Gf m) a1 a2 s4 s.1 s.2) (s0:=(s3,0)) 4 [0,4,5,6,8,23,24,25,65,66] [7,67] (λs=>[(7,.os 2 (ab.rows s.1).length),(67,.d (.v (.int .i64 s.2)))]) (λs=>[(2,.row 52 12 (ab.rows s.1))]) g ?_;rintro n ⟨s26,s27⟩ _ g;change mg (Gf n) a1 a2 s4 s26 s27=_ at g;rw[mg]at g;refine yz ?_
 refine bU g λ_ g=>?_;refine yX g ai.aM λx29 _ _ g=>?_;obtain⟨x31,ex31,j32h,g⟩:=bo g;refine yv (yr j32h ex31) ?_;refine yv (ym s27.toNat 0 (xV ex31)) ?_;refine aq g (λ_ g=>?_) λ_ g=>?_;refine yo [0,1,2,3,4,5,6,7,8] [(9,.one)] [] ?_;obtain⟨y34,ey34,g⟩:=au g (o.a.CX _);refine yl (yC ey34) ?_;obtain⟨y35,ey35,g⟩:=au g (o.a.gQ _);refine yl (yC ey35) ?_;obtain⟨x36,ex36,j37h,g⟩:=bo g;refine yl (yr j37h ex36) ?_;refine yk<|af.M5 84 (.agg (ab.cs ({Op:=6,ak:=y35,N:=0,Text:=[],At:=a1.At,Kids:=[]:ab}))) s27.toNat 0 aD.nil (by rfl) (by rfl) (by rfl) (by rfl) (by rfl) (by rfl) zi (by rfl) (by rfl) (by rfl) zg (by rfl) (yg (ab.aM ex36)) (by rfl) (by rfl) (by rfl) (by rfl) (yz ?_)
 iterate 2 (exact yk (yN (_,_) n ⟨by omega,g⟩))
/-(*plexus.types.elaborator).observer-/
theorem R4 {n} (o:Of n):J2 (qD (Gf n)):=by
 intro a0 a1 r g;rw[qD]at g;refine yw func202 ntmps202 ?_;refine yX g ae.aM λx1 _ _ g=>?_;refine yc g (o.a.eE _) λy3 g=>?_;refine yc g (o.a.eE _) λy4 g=>?_;refine yc g (o.a.eE _) λy5 g=>?_;refine aq g (λ_ g=>?_) λ_ g=>?_;refine yp g (o.a.cL _ _ _) λy7 g=>?_;refine bU g λ_ g=>?_;refine aq g (λ_ g=>?_) λ_ g=>?_;exact yP g (o.a.eI _ _);refine yc g (o.a.Bj _ _) λy11 g=>?_;refine bU g λ_ g=>?_;exact yP g (o.a.eI _ _);refine aq g (λ_ g=>?_) λ_ g=>?_;refine yk<|af.cH (t:=62) rfl rfl (dX rfl aT) (yz ?_)
 refine yk<|af.cH (t:=60) rfl rfl aT (yz ?_)
 refine yp g (o.a.mD _ _ _ _ _ _) λy17 g=>?_;refine yX g ab.aM λx18 _ _ g=>?_;refine yX g ai.aM λx20 _ _ g=>?_
 iterate 2 (refine bU g λ_ g=>?_)
 exact yP g (o.a.eI _ _);refine aq g (λ_ g=>?_) λ_ g=>?_;refine yk<|af.cH (t:=88) rfl rfl (dX rfl aT) (yz ?_)
 refine yk<|af.cH (t:=86) rfl rfl aT (yz ?_)
 refine yp g (o.a.mD _ _ _ _ _ _) λy28 g=>?_;cases g;exact zl;refine aq g (λ_ g=>?_) λ_ g=>?_;refine yk<|af.cH (t:=94) rfl rfl (dX rfl aT) (yz ?_)
 refine yk<|af.cH (t:=92) rfl rfl aT (yz ?_)
 refine yp g (o.a.mD _ _ _ _ _ _) λy32 g=>?_;cases g;exact zl;refine aq g (λ_ g=>?_) λ_ g=>?_;refine yk<|af.cH (t:=100) rfl rfl (dX rfl aT) (yz ?_)
 refine yk<|af.cH (t:=98) rfl rfl aT (yz ?_)
 refine yp g (o.a.mD _ _ _ _ _ _) λy36 g=>?_;cases g;exact zl;refine aq g (λ_ g=>?_) λ_ g=>?_;refine yk<|af.cH (t:=106) rfl rfl (dX rfl aT) (yz ?_)
 refine yk<|af.cH (t:=104) rfl rfl aT (yz ?_)
 refine yp g (o.a.mD _ _ _ _ _ _) λy40 g=>?_;cases g;exact zl;refine aq g (λ_ g=>?_) λ_ g=>?_;refine yk<|af.cH (t:=112) rfl rfl (dX rfl aT) (yz ?_)
 refine yk<|af.cH (t:=110) rfl rfl aT (yz ?_)
 refine yp g (o.a.mD _ _ _ _ _ _) λy44 g=>?_;cases g;exact zl;refine aq g (λ_ g=>?_) λ_ g=>?_;refine yk<|af.cH (t:=120) rfl rfl (dX rfl aT) (yz ?_)
 refine yk<|af.cH (t:=117) rfl rfl aT (yz ?_)
 refine yp g (o.a.mD _ _ _ _ _ _) λy48 g=>?_;refine yX g ab.aM λx49 _ _ g=>?_;refine yX g ai.aM λx51 _ _ g=>?_;refine yc g (o.a.gQ _) λy53 g=>?_;cases g;exact zl;refine yk<|af.cH (t:=120) rfl rfl (dX rfl aT) (yz ?_)
 refine yk<|af.cH (t:=117) rfl rfl aT (yz ?_)
 refine yp g (o.a.mD _ _ _ _ _ _) λy56 g=>?_;refine yX g ab.aM λx57 _ _ g=>?_;refine yX g ai.aM λx59 _ _ g=>?_;refine yc g (o.a.gQ _) λy61 g=>?_;cases g;exact zl
/-(*plexus.types.elaborator).observer$1-/
theorem R5 {n} (o:Of n):J3 (lG (Gf n)):=by
 intro a0 a1 a2 a3 a4 a5 r g;rw[lG]at g;refine yw func237 ntmps237 ?_;refine yo [] (tk [0,3,6,9,12,15,19,21,24,28]) [] ?_
 iterate 4 (refine yt zp ?_)
 refine yq g (o.a.Bk _ _ _ _) zp λy1 g=>?_
 iterate 3 (refine yt zp ?_)
 cases g;exact yj
/-(*plexus.types.elaborator).operand-/
theorem R6 {n} (o:Of n):J4 (mE (Gf n)):=by
 intro a0 a1 a2 a3 r g;rw[mE]at g;refine yw func204 ntmps204 ?_;refine yp g (o.a.cL _ _ _) λy1 g=>?_;refine aq g (λ_ g=>?_) λ_ g=>?_;exact yP g (o.a.eI _ _);refine yc g (o.a.Bj _ _) λy4 g=>?_;refine bU g λ_ g=>?_;exact yP g (o.a.eI _ _)
/-(*plexus.types.elaborator).operator-/
set_option maxHeartbeats 0 in
theorem R7 {n} (o:Of n):J5 (qE (Gf n)):=by
 intro a0 a1 a2 r g;rw[qE]at g;refine yw func160 ntmps160 ?_;refine yc g (o.a.eE _) λy1 g=>?_;refine aq g (λ_ g=>?_) λ_ g=>?_;refine yo [] (tk [0,3,6,9,12,15,19,25]) [7] ?_;obtain⟨x3,ex3,j4h,g⟩:=bo g;refine yu zp (yi j4h (ae.aM ex3)) ?_
 iterate 2 (refine yt zp ?_)
 refine yq g (o.a.cL _ _ _) zp λy5 g=>?_;refine yt zp ?_;refine yc g (o.a.wG _) λy6 g=>?_;refine aq g (λ_ g=>?_) λ_ g=>?_;refine yo [0,1,2,3,4,5,6,7,8,9] (tk [31,33,36,39,43,46]) [] ?_;refine yY g ae.aM λx8 _ _ g=>?_;refine yY g ae.aM λx10 _ _ g=>?_;refine yq g (o.a.Bl _ _ _ _ _) zp λy12 g=>?_;cases g;exact yj;refine yo [0,1,2,3,4,5] (tk [19,22]) [] ?_;refine yY g ae.aM λx13 _ _ g=>?_;refine yq g (o.a.cL _ _ _) zp λy15 g=>?_;refine yo [0,1,2,3,4,5] (tk [19,22]) [] ?_;refine yY g ae.aM λx16 _ _ g=>?_;refine yq g (o.a.cL _ _ _) zp λy18 g=>?_;cases g;exact yj;refine aq g (λ_ g=>?_) λ_ g=>?_;refine yX g ae.aM λx20 _ _ g=>?_;refine yp g (o.a.cL _ _ _) λy22 g=>?_;refine aq g (λ_ g=>?_) λ_ g=>?_;refine yX g ae.aM λx24 _ _ g=>?_;exact yP g (o.a.eI _ _);refine yo [] (tk [0,3,6,9,12,15,18,22,28]) [8] ?_;obtain⟨x27,ex27,j28h,g⟩:=bo g;refine yu zp (yi j28h (ae.aM ex27)) ?_
 iterate 3 (refine yt zp ?_)
 refine yq g (o.a.cL _ _ _) zp λy29 g=>?_;refine yt zp ?_;cases g;exact yj;refine aq g (λ_ g=>?_) λ_ g=>?_;refine yo [] (tk [0,3,6,9,12,15,18,21,24,27,31,33,36,39,49,52]) [14,15] ?_
 iterate 2 (refine yt zp ?_)
 obtain⟨x31,ex31,j32h,g⟩:=bo g;refine yu zp (yi j32h (ae.aM ex31)) ?_
 iterate 3 (refine yt zp ?_)
 obtain⟨x33,ex33,j34h,g⟩:=bo g;refine yu zp (yi j34h (ae.aM ex33)) ?_;refine yt zp ?_;refine yq g (o.a.Bl _ _ _ _ _) zp λy35 g=>?_
 iterate 4 (refine yt zp ?_)
 cases g;exact yj;refine aq g (λ_ g=>?_) λ_ g=>?_;refine yc g (o.a.wG _) λy37 g=>?_
 iterate 2 (refine aq g (λ_ g=>?_) λ_ g=>?_)
 exact yP g (o.a.eI _ _);refine yp g (o.a.mC _ _ _ _ _ _) λy41 g=>?_;cases g;exact zl;refine yo [] (tk [0,3,6,9,12,15,18,21,24,27,31,33,36,39,49,52]) [14,15] ?_
 iterate 2 (refine yt zp ?_)
 obtain⟨x42,ex42,j43h,g⟩:=bo g;refine yu zp (yi j43h (ae.aM ex42)) ?_
 iterate 3 (refine yt zp ?_)
 obtain⟨x44,ex44,j45h,g⟩:=bo g;refine yu zp (yi j45h (ae.aM ex44)) ?_;refine yt zp ?_;refine yq g (o.a.Bl _ _ _ _ _) zp λy46 g=>?_
 iterate 4 (refine yt zp ?_)
 cases g;exact yj;refine aq g (λ_ g=>?_) λ_ g=>?_;refine yo [] (tk [0,3,6,9,12,15,18,22,28]) [8] ?_
 iterate 2 (refine yt zp ?_)
 obtain⟨x48,ex48,j49h,g⟩:=bo g;refine yu zp (yi j49h (ae.aM ex48)) ?_
 iterate 2 (refine yt zp ?_)
 refine yq g (o.a.Bk _ _ _ _) zp λy50 g=>?_;refine yt zp ?_;refine yc g (o.a.J1 _ _) λy51 g=>?_;refine aq g (λ_ g=>?_) λ_ g=>?_;exact yP g (o.a.eI _ _);refine yo [0,1,2,3,4,5,6,7,8,9,10,11] [(12,.one)] [] ?_;refine yY g ai.aM λx54 _ _ g=>?_;obtain⟨y56,ey56,g⟩:=au g (o.a.gQ _);refine yl (yC ey56) ?_;cases g;exact yj;refine yo [] (tk [0,3,6,9,12,15,18,22,28]) [8] ?_
 iterate 2 (refine yt zp ?_)
 obtain⟨x57,ex57,j58h,g⟩:=bo g;refine yu zp (yi j58h (ae.aM ex57)) ?_
 iterate 2 (refine yt zp ?_)
 refine yq g (o.a.Bk _ _ _ _) zp λy59 g=>?_;refine yt zp ?_;refine yo [] (tk [0,3,6,9,12,15,19,25]) [7] ?_;obtain⟨x60,ex60,j61h,g⟩:=bo g;refine yu zp (yi j61h (ae.aM ex60)) ?_;refine yt zp ?_;obtain⟨y62,ey62,g⟩:=au g (o.a.eE _);refine yu zp (aR.call ey62 rfl rfl) ?_;refine yq g (o.a.cL _ _ _) zp λy63 g=>?_;refine yt zp ?_;refine yo [0,1,2,3,4,5,6,7,8,9,10] [(11,.one)] [] ?_;refine yY g ai.aM λx64 _ _ g=>?_;obtain⟨y66,ey66,g⟩:=au g (o.a.gQ _);refine yl (yC ey66) ?_;cases g;exact yj
