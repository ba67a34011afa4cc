/- Printed by a program: what functions answer, and that they do. -/
import Derived.Test.YtmbalfjhlngncaaGreatKG6
set_option linter.all false
set_option maxRecDepth 100000
noncomputable section
namespace Go.Proofs.YtmbalfjhlngncaaGreat
open Go Go.Bw Go.Proofs.Tryz
/-(*plexus.closure.system).chain-/
theorem acI {n} (o:Of n):Qm (xb (Gf n)):=by
 intro a0 a1 r g;rw[xb]at g;refine yw func300 ntmps300 ?_;obtain⟨m1,em1,g⟩:=ck g;obtain⟨hm1,bm1⟩:=Cc em1;refine yk<|ak.DZ m1 (c9 (List.replicate m1 false)) rfl hm1 rfl hm1 rfl rfl rfl rfl rfl (by omega) (by simp only[c9,BZ];exact du.replicate zi _) rfl (yz ?_)
 obtain⟨h2,g⟩:=bE g;refine yk<|ak.copy rfl rfl zg (.sl rfl) rfl (ZN _) (by have h0:=ig h2;simpa only[jB,kL,oh,kI,lA,sx]using h0) rfl (yz ?_)
 obtain⟨h3,g⟩:=bE g;refine yk<|ak.afe 8 rfl (ig h3) (yz ?_)
 refine Ok.stuck aV ?_;refine ak.kQ 6 4 1 1 rfl rfl ?_;refine ak.kQ 7 303 2 2 rfl rfl ?_;refine ak.kQ 9 303 2 3 rfl rfl ?_;refine yL (S:=(List Bool)×(List cQ)×(List Bool)×(List cQ)) (G:=λm s=>rZ (Gf m) a0 a1 m1 s.1 s.2.1 s.2.2.1 s.2.2.2) (s0:=([],[],a1,[])) 4 [0,2] [6,7,8,9] (λs=>[(6,.os 1 (c9 s.1).length),(7,.os 2 (cQ.rows s.2.1).length),(8,.os 0 (c9 s.2.2.1).length),(9,.os 3 (cQ.rows s.2.2.2).length)]) (λs=>[(1,.row 4 1 (c9 s.1)),(2,.row 303 2 (cQ.rows s.2.1)),(0,.row 4 1 (c9 s.2.2.1)),(3,.row 303 2 (cQ.rows s.2.2.2))]) g ?_;rintro n ⟨s4,s5,s6,s7⟩ _ g;change r6 (Gf n) a0 a1 m1 s4 s5 s6 s7=_ at g;rw[r6]at g;refine yz ?_;refine yk<|yL (S:=Int) (G:=λm s=>ov (Gf m) a0 a1 m1 s4 s5 s6 s7 s) (s0:=0) 5 [0,2,6,7,8,9,10,23,24] [25] (λs=>[(25,.d (.v (.int .i64 s)))]) (λs=>[]) g ?_;rintro n s8 _ g;change r7 (Gf n) a0 a1 m1 s4 s5 s6 s7 s8=_ at g;rw[r7]at g;refine yz ?_
 refine ay g (λ_ g=>?_) λ_ g=>?_;refine yX g cK.aA λx10 _ _ g=>?_;refine yc g (o.a.ajR _) λy12 g=>?_;refine ay g (λ_ g=>?_) λ_ g=>?_;refine yc g (o.a.ajS _ _) λy14 g=>?_;refine ay g (λ_ g=>?_) λ_ g=>?_;refine yv (bp.toP (bp.Xe rfl rfl rfl zk Tryz.underlying303 rfl)) ?_;refine aM g λ_ g=>?_;obtain⟨x17,ex17,j18h,g⟩:=b3 g;refine yv (yr j18h ex17) ?_;refine yk<|ak.kp x10.ky.toNat 0 (by rfl) (by rfl) (by rfl) (by rfl) (by rfl) (by rfl) zg (by rfl) (yg (oB ex17)) (by rfl) (by rfl) (by rfl) (by rfl) (yz ?_)
 refine yk<|ak.fu 6 (rows':=cQ.rows ([{yB:=s8,name:=x10.ky:cQ}])) rfl zi (yz ?_)
 obtain⟨h19,g⟩:=bE g;refine yk<|DO.dF rfl rfl zg rfl rfl zg rfl rfl (cQ.cm _) rfl rfl rfl (zo h19) (yz ?_)
 exact yk (yN (_,_,_,_) n ⟨by omega,g⟩)
 iterate 2 (exact yk (yN _ n ⟨by omega,g⟩))
 refine yv (bp.toP (bp.Xe rfl rfl rfl zk Tryz.underlying303 rfl)) ?_;cases g;exact zl
/-(*plexus.closure.system).close-/
theorem aiT {n} (o:Of n):Wv (zJ (Gf n)):=by
 intro a0 a1 r g;rw[zJ]at g;refine yw func266 ntmps266 ?_;refine yc g (o.a.acO _ _) λy1 g=>?_;cases g;exact zl
/-(*plexus.closure.system).list-/
theorem aiU {n} (o:Of n):Ww (u5 (Gf n)):=by
 intro a0 a1 r g;rw[u5]at g;refine yw func265 ntmps265 ?_;refine yk<|yL (S:=(List (List UInt8))×Int) (G:=λm s=>oP (Gf m) a0 a1 s.1 s.2) (s0:=([],0)) 1 [0,4,9,10] [5,11] (λs=>[(5,.os 0 (aB s.1).length),(11,.d (.v (.int .i64 s.2)))]) (λs=>[(0,.row 9 1 (aB s.1))]) g ?_;rintro n ⟨s1,s2⟩ _ g;change tz (Gf n) a0 a1 s1 s2=_ at g;rw[tz]at g;refine yz ?_
 refine bc g λ_ g=>?_;refine yX g oB λx4 _ _ g=>?_;refine ay g (λ_ g=>?_) λ_ g=>?_;refine yX g cL λx7 _ _ g=>?_;obtain⟨h9,g⟩:=bE g;refine yk<|DO.dF rfl rfl zg rfl rfl zg rfl rfl rfl rfl rfl rfl (zo h9) (yz ?_)
 iterate 2 (exact yk (yN (_,_) n ⟨by omega,g⟩))
/-plexus.closure.Close-/
theorem aiV {n} (o:Of n):Wx (u6 (Gf n)):=by
 intro a0 a1 a2 r g;rw[u6]at g;refine yw func207 ntmps207 ?_;refine yk<|ak.inl (rs:=_) rfl func263 rfl zk rfl ntmps263 rfl rfl (yz ?_)
 refine yk<|yL (S:=Int×Int) (G:=λm s=>qA (Gf m) a0 a1 a2 s.1 s.2) (s0:=(0,0)) 0 [0,1,4,10,11] [5,12] (λs=>[(5,.d (.v (.int .i64 s.1))),(12,.d (.v (.int .i64 s.2)))]) (λs=>[]) g ?_;rintro n ⟨s1,s2⟩ _ g;change tB (Gf n) a0 a1 a2 s1 s2=_ at g;rw[tB]at g;refine yz ?_
 refine ay g (λ_ g=>?_) λ_ g=>?_;refine yX g cL λx4 _ _ g=>?_;refine yc g (o.a.l4 _) λy6 g=>?_;refine aM g λ_ g=>?_;exact yk (yN (_,_) n ⟨by omega,g⟩);refine yc g (o.a.nQ _) λy8 g=>?_;refine aM g λ_ g=>?_;refine yk<|ak.inl (rs:=_) rfl func298 rfl zk rfl ntmps298 rfl rfl (yz ?_)
 refine Ok.stuck aV ?_;refine ak.gK 0 1 300 2 1 rfl rfl rfl ?_;refine yL (S:=Int×Int×(List cK)) (G:=λm s=>qB (Gf m) a0 a1 a2 s1 s2 y8 s.1 s.2.1 s.2.2) (s0:=(0,0,[])) 2 [0,1,11,12] [4,13] (λs=>[(4,.d (.v (.int .i64 s.1))),(13,.d (.v (.int .i64 s.2.1)))]) (λs=>[(1,.row 300 2 (cK.rows s.2.2)),(0,.box [.d (.sl 1 (aB a0)),.os 1 (cK.rows s.2.2).length])]) g ?_;rintro n ⟨s10,s11,s13⟩ _ g;change tC (Gf n) a0 a1 a2 s1 s2 y8 s10 s11 s13=_ at g;rw[tC]at g;refine yz ?_;refine ay g (λ_ g=>?_) λ_ g=>?_;refine yX g aU.aA λx15 _ _ g=>?_;refine yc g (o.a.nQ _) λy17 g=>?_;refine aM g λ_ g=>?_;refine yc g (o.a.Lq _ _) λy19 g=>?_;refine Ok.stuck aV ?_;refine ak.gK 3 0 3 1 4 rfl rfl rfl ?_;refine yL (S:=Int×Int×(List Int)) (G:=λm s=>qC (Gf m) a0 a1 a2 s1 s2 y8 s10 s11 s13 x15 y17 y19 s.1 s.2.1 s.2.2) (s0:=(s10,0,[])) 5 [0,1,7,11,12,13,14,15,16,17,18,19,20,21,22,23,24,25,26,27,28] [4,29] (λs=>[(4,.d (.v (.int .i64 s.1))),(29,.d (.v (.int .i64 s.2.1)))]) (λs=>[(4,.row 3 1 (dJ .i64 s.2.2)),(3,.box [.os 4 (dJ .i64 s.2.2).length,.d (.v (.int .i64 y19))])]) g ?_;rintro n ⟨s20,s21,s22⟩ _ g;change tD (Gf n) a0 a1 a2 s1 s2 y8 s10 s11 s13 x15 y17 y19 s20 s21 s22=_ at g;rw[tD]at g;refine yz ?_;refine ay g (λ_ g=>?_) λ_ g=>?_;refine yX g cL λx25 _ _ g=>?_;refine yc g (o.a.Lq _ _) λy27 g=>?_;refine aM g λ_ g=>?_;obtain⟨h29,g⟩:=bE g;refine yk<|DO.dF rfl rfl zg rfl rfl zg rfl rfl rfl rfl rfl rfl (zo h29) (yz ?_)
 exact yk (yN (_,_,_) n ⟨by omega,g⟩);refine aM g λ_ g=>?_;refine yk<|ak.Hq 3 0 rfl rfl rfl rfl (yz ?_)
 refine yo [] (tk [0,3,6,9,12,15,18,22,24,27,31]) [] ?_
 iterate 2 (refine yt zp ?_)
 obtain⟨h31,g⟩:=bE g;refine yk<|ak.dY (rows2:=(cK.rows ([{mu:=s22,ky:=y19:cK}]))) zp rfl rfl rfl rfl rfl zg rfl zi rfl rfl (cK.cm _) rfl rfl (zo h31) (yz ?_)
 iterate 3 (refine yt zp ?_)
 exact yk (yN (_,_,_) n ⟨by omega,g⟩);refine yk<|ak.cC (t:=21) rfl rfl (fp rfl aV) (yz ?_)
 refine yc g (o.a.ajQ _ _) λy33 g=>?_;refine aM g λ_ g=>?_;refine yc g (o.a.ajT _ _) λy35 g=>?_;refine yc g (o.a.ajU _ _) λy36 g=>?_;cases g;exact zl
/-plexus.join.merged$1-/
theorem aiW {n} (o:Of n):Wy (zw (Gf n)):=by
 intro a0 a1 r g;rw[zw]at g;refine yw func292 ntmps292 ?_;refine yc g (o.a.EV _ _) λy1 g=>?_;cases g;exact zl
/-slices.IndexFunc[[]plexus.api.Entry,plexus.api.Entry]-/
theorem abg {n} (o:Of n):Ph (sF (Gf n)):=by
 intro a0 a1 r g;rw[sF]at g;refine yw func295 ntmps295 ?_;refine yk<|yL (S:=Int) (G:=λm s=>wj (Gf m) a0 a1 s) (s0:=0) 0 [0,1,4,7] [8] (λs=>[(8,.d (.v (.int .i64 s)))]) (λs=>[]) g ?_;rintro n s1 _ g;change wm (Gf n) a0 a1 s1=_ at g;rw[wm]at g;refine yz ?_
 refine bc g λ_ g=>?_;refine yX g ax.aA λx3 _ _ g=>?_;refine yc g (o.a.ajV _ _) λy5 g=>?_;refine aM g λ_ g=>?_;exact yk (yN _ n ⟨by omega,g⟩)
/-slices.ContainsFunc[[]plexus.api.Entry,plexus.api.Entry]-/
theorem abh {n} (o:Of n):Pj (wN (Gf n)):=by
 intro a0 a1 r g;rw[wN]at g;refine yw func249 ntmps249 ?_;refine yc g (o.a.abo _ _) λy1 g=>?_;cases g;exact zl
/-plexus.join.merged-/
theorem aiX {n} (o:Of n):Wz (u0 (Gf n)):=by
 intro a0 a1 r g;rw[u0]at g;refine yw func248 ntmps248 ?_;refine Ok.stuck aV ?_;refine ak.kQ 5 116 2 0 rfl rfl ?_;refine yL (S:=(List ax)×Int) (G:=λm s=>oN (Gf m) a0 a1 s.1 s.2) (s0:=([],0)) 1 [0,1,4,10,11] [5,12] (λs=>[(5,.os 0 (ax.rows s.1).length),(12,.d (.v (.int .i64 s.2)))]) (λs=>[(0,.row 116 2 (ax.rows s.1))]) g ?_;rintro n ⟨s1,s2⟩ _ g;change tj (Gf n) a0 a1 s1 s2=_ at g;rw[tj]at g;refine yz ?_;refine zs g ?_ ?_<;>(clear g;intro h3 g);obtain⟨x4,ex4,j5h,g⟩:=b3 g;refine yv (yI j5h (ax.aA ex4)) ?_;refine yc g (o.a.W5 _ _) λy6 g=>?_;refine zs g ?_ ?_<;>(clear g;intro h7 g);refine yk<|ak.fu 2 (rows':=ax.rows ([x4])) rfl zi (yz ?_)
 obtain⟨h8,g⟩:=bE g;refine yk<|DO.dF rfl rfl zg rfl rfl zg rfl rfl (ax.cm _) rfl rfl rfl (zo h8) (yz ?_)
 iterate 2 (exact yk (yN (_,_) n ⟨by omega,g⟩))
 refine yk<|yL (S:=(List ax)×Int) (G:=λm s=>oO (Gf m) a0 a1 s.1 s.2) (s0:=(s1,0)) 1 [0,1,4,10,11,12,25,26] [5,27] (λs=>[(5,.os 0 (ax.rows s.1).length),(27,.d (.v (.int .i64 s.2)))]) (λs=>[(0,.row 116 2 (ax.rows s.1))]) g ?_;rintro n ⟨s9,s10⟩ _ g;change tm (Gf n) a0 a1 s9 s10=_ at g;rw[tm]at g;refine yz ?_
 refine zs g ?_ ?_<;>(clear g;intro h11 g);obtain⟨x12,ex12,j13h,g⟩:=b3 g;refine yv (yI j13h (ax.aA ex12)) ?_;refine yc g (o.a.abp _ _) λy14 g=>?_;refine zs g ?_ ?_<;>(clear g;intro h15 g);refine yk<|ak.fu 2 (rows':=ax.rows ([x12])) rfl zi (yz ?_)
 obtain⟨h16,g⟩:=bE g;refine yk<|DO.dF rfl rfl zg rfl rfl zg rfl rfl (ax.cm _) rfl rfl rfl (zo h16) (yz ?_)
 iterate 2 (exact yk (yN (_,_) n ⟨by omega,g⟩))
 obtain⟨y17,ey17,g⟩:=a8 g (o.a.Hk _);obtain⟨h18,g⟩:=bE g;refine yk<|ak.kX 0 ey17 rfl rfl (by first|rfl|(simp only[gW];rfl)) rfl (nK.row zi) rfl ?_;refine ak.mY (m:=(ax.rows y17.2).length) 5 rfl (ig h18) ?_;refine ak.mY (m:=(ax.rows y17.2).length) 40 rfl (ig h18) (yz ?_)
 cases g;exact zl
/-plexus.join.join-/
theorem aiY {n} (o:Of n):WA (zt (Gf n)):=by
 intro a0 a1 a2 r g;rw[zt]at g;refine yw func189 ntmps189 ?_;refine ay g (λ_ g=>?_) λ_ g=>?_;refine yc g (o.a.Lp _ _) λy2 g=>?_;cases g;exact yj;refine ay g (λ_ g=>?_) λ_ g=>?_;refine yo [0,1,2,3,4,5,6,7,8,9,10,11,12,13,14] [] [] ?_;obtain⟨y4,ey4,g⟩:=a8 g (o.a.Lp _ _);refine yl (yC ey4) ?_;obtain⟨y5,ey5,g⟩:=a8 g (o.a.W7 _ _ _);refine yl (yC ey5) ?_;cases g;exact yj;refine ay g (λ_ g=>?_) λ_ g=>?_;refine yc g (o.a.ajW _ _) λy7 g=>?_;cases g;exact yj;refine ay g (λ_ g=>?_) λ_ g=>?_;refine yc g (o.a.Lp _ _) λy9 g=>?_;refine Ok.stuck aV ?_;refine ak.gK 4 2 38 4 5 rfl rfl rfl ?_;refine yL (S:=Int×(List af)) (G:=λm s=>mD (Gf m) a0 a1 a2 y9 s.1 s.2) (s0:=(0,[])) 6 [3,4,5,6,9,61,62] [63] (λs=>[(63,.d (.v (.int .i64 s.1)))]) (λs=>[(5,.row 38 4 (af.rows s.2)),(4,.box [.d (.v (.int .i64 0)),.d (.sl 1 (aB y9)),.os 5 (af.rows s.2).length,.d (.v (.slice none 0 0))])]) g ?_;rintro n ⟨s10,s13⟩ _ g;change tf (Gf n) a0 a1 a2 y9 s10 s13=_ at g;rw[tf]at g;refine yz ?_;refine bc g λ_ g=>?_;refine yX g cL λx16 _ _ g=>?_;refine yo [0,1,2,3,4,5,6,7,8,9] [] [] ?_;obtain⟨y18,ey18,g⟩:=a8 g (o.a.rE _ _);refine yl (yC ey18) ?_;obtain⟨y19,ey19,g⟩:=a8 g (o.a.rE _ _);refine yl (yC ey19) ?_;refine ay g (λ_ g=>?_) λ_ g=>?_;refine yo [0,1,2,3,4,5,6,7] (tk [25,27,31]) [] ?_;refine yY g af.aA λx21 _ _ g=>?_;obtain⟨h23,g⟩:=bE g;refine yk<|ak.dY (rows2:=(af.rows ([x21]))) aE.nil rfl rfl rfl rfl rfl zg rfl zi rfl rfl (af.cm _) rfl rfl (zo h23) (yz ?_)
 exact yk (yN (_,_) n ⟨by omega,g⟩);refine ay g (λ_ g=>?_) λ_ g=>?_;refine yo [0,1,2,3,4,5,6,7] (tk [25,27,31]) [] ?_;refine yY g af.aA λx25 _ _ g=>?_;obtain⟨h27,g⟩:=bE g;refine yk<|ak.dY (rows2:=(af.rows ([x25]))) aE.nil rfl rfl rfl rfl rfl zg rfl zi rfl rfl (af.cm _) rfl rfl (zo h27) (yz ?_)
 exact yk (yN (_,_) n ⟨by omega,g⟩);refine yo [0,1,2,3,4,5,6,7,8,9,10,11,12,13,14,15,16,17] (tk [55,57,61]) [] ?_;refine yY g ah.aA λx28 _ _ g=>?_;refine yY g af.aA λx30 _ _ g=>?_;refine yY g af.aA λx32 _ _ g=>?_;obtain⟨y34,ey34,g⟩:=a8 g (o.a.EW _ _ _);refine yl (yC ey34) ?_;obtain⟨h35,g⟩:=bE g;refine yk<|ak.dY (rows2:=(af.rows ([y34]))) aE.nil rfl rfl rfl rfl rfl zg rfl zi rfl rfl (af.cm _) rfl rfl (zo h35) (yz ?_)
 exact yk (yN (_,_) n ⟨by omega,g⟩);refine ay g (λ_ g=>?_) λ_ g=>?_;refine Ok.stuck aV ?_;refine ak.gK 4 2 38 4 5 rfl rfl rfl ?_;refine yL (S:=Int×(List af)) (G:=λm s=>qu (Gf m) a0 a1 a2 s.1 s.2) (s0:=(0,[])) 6 [3,4,5,6,14,126,127] [128] (λs=>[(128,.d (.v (.int .i64 s.1)))]) (λs=>[(5,.row 38 4 (af.rows s.2)),(4,.box [.d (.v (.int .i64 0)),.d (.v (.slice none 0 0)),.os 5 (af.rows s.2).length,.d (.v (.slice none 0 0))])]) g ?_;rintro n ⟨s37,s40⟩ _ g;change th (Gf n) a0 a1 a2 s37 s40=_ at g;rw[th]at g;refine yz ?_;refine bc g λ_ g=>?_;refine yX g ah.aA λx43 _ _ g=>?_;refine yo [0,1,2,3,4,5,6,7,8,9,10,11,12,13,14] (tk [46,48,52]) [] ?_;refine yY g af.aA λx45 _ _ g=>?_;refine yY g af.aA λx47 _ _ g=>?_;obtain⟨y49,ey49,g⟩:=a8 g (o.a.EW _ _ _);refine yl (yC ey49) ?_;obtain⟨h50,g⟩:=bE g;refine yk<|ak.dY (rows2:=(af.rows ([y49]))) aE.nil rfl rfl rfl rfl rfl zg rfl zi rfl rfl (af.cm _) rfl rfl (zo h50) (yz ?_)
 exact yk (yN (_,_) n ⟨by omega,g⟩);refine ay g (λ_ g=>?_) λ_ g=>?_;refine yo [0,1,2,3,4,5,6,7,8] [] [] ?_;refine yY g af.aA λx52 _ _ g=>?_;refine yY g af.aA λx54 _ _ g=>?_;obtain⟨y56,ey56,g⟩:=a8 g (o.a.A7 _ _);refine yl (yC ey56) ?_;refine ay g (λ_ g=>?_) λ_ g=>?_;refine yo [0,1,2,3,4,5,6,7,8,9,10,11,12,13,14,15,16,17,18] [(19,.one)] [] ?_;refine yY g af.aA λx58 _ _ g=>?_;refine yY g ah.aA λx60 _ _ g=>?_;refine yY g af.aA λx62 _ _ g=>?_;refine yY g af.aA λx64 _ _ g=>?_;obtain⟨y66,ey66,g⟩:=a8 g (o.a.EW _ _ _);refine yl (yC ey66) ?_;cases g;exact yj;refine yc g (o.a.nT _ _ _) λy67 g=>?_;refine aM g λ_ g=>?_;refine yc g (o.a.nT _ _ _) λy69 g=>?_;exact cO g;refine yc g (o.a.nT _ _ _) λy71 g=>?_;refine aM g λ_ g=>?_;refine yc g (o.a.nT _ _ _) λy73 g=>?_;exact cO g
/-slices.Clone[[]plexus.api.Tick,plexus.api.Tick]-/
theorem w92 {n} (o:Of n):XJ (vL (Gf n)):=by
 intro a0 r g;rw[vL]at g;refine yw func92 ntmps92 ?_;refine Ok.stuck aV<|ak.iU 3 rfl ?_ ?_
 intro cap h1;replace g:(some ([]))=some r:=(by have h0:a0=[]:=FJ.1 (by have h1:=congrArg List.length h1;simpa only[ai.aI,lA]using h1);subst h0;simpa using g);refine yz ?_;refine yv (bp.toP (bp.mS (et:=133) rfl zk rfl rfl)) ?_;cases g;exact yj;intro ad n0 cap;refine yz ?_;refine yv (bp.toP (bp.mS (et:=133) rfl zk rfl rfl)) ?_;obtain⟨h2,g⟩:=bE g;refine yk<|DO.pw (rows2:=(ai.rows a0)) rfl rfl zg rfl (bV.refl _) rfl rfl (ai.cm _) rfl rfl rfl (zo h2) (yz ?_)
 cases g;exact zl
/-plexus.join.copied-/
theorem aiZ {n} (o:Of n):WB (zh (Gf n)):=by
 intro a0 r g;rw[zh]at g;refine yw func190 ntmps190 ?_;refine yo [0,1,2,3,4,5,6] [(7,.one)] [] ?_;obtain⟨y1,ey1,g⟩:=a8 g (o.a.rN _);refine yl (yC ey1) ?_;refine Ok.stuck aV ?_;refine ak.gK 2 2 38 4 3 rfl rfl rfl ?_;refine yL (S:=Int×(List af)) (G:=λm s=>qn (Gf m) a0 y1 s.1 s.2) (s0:=(0,[])) 4 [1,2,3,15,16] [17] (λs=>[(17,.d (.v (.int .i64 s.1)))]) (λs=>[(3,.row 38 4 (af.rows s.2)),(2,.box [.d (.v (.int .i64 a0.N)),.d (.sl 1 (aB y1)),.os 3 (af.rows s.2).length,.d (.v (.slice none 0 0))])]) g ?_;rintro n ⟨s2,s5⟩ _ g;change te (Gf n) a0 y1 s2 s5=_ at g;rw[te]at g;refine yz ?_;refine ay g (λ_ g=>?_) λ_ g=>?_;refine yX g af.aA λx8 _ _ g=>?_;refine yo [0,1,2,3,4] (tk [16,18,22]) [] ?_;obtain⟨y10,ey10,g⟩:=a8 g (o.a.W8 _);refine yl (yC ey10) ?_;obtain⟨h11,g⟩:=bE g;refine yk<|ak.dY (rows2:=(af.rows ([y10]))) aE.nil rfl rfl rfl rfl rfl zg rfl zi rfl rfl (af.cm _) rfl rfl (zo h11) (yz ?_)
 exact yk (yN (_,_) n ⟨by omega,g⟩);refine Ok.stuck aV ?_;refine ak.gK 2 3 116 2 4 rfl rfl rfl ?_;refine yL (S:=Int×(List af)×(List ax)) (G:=λm s=>oM (Gf m) a0 y1 s.1 s.2.1 s.2.2) (s0:=(0,s5,[])) 5 [1,2,3,15,16,17,30,31] [32] (λs=>[(32,.d (.v (.int .i64 s.1)))]) (λs=>[(3,.row 38 4 (af.rows s.2.1)),(4,.row 116 2 (ax.rows s.2.2)),(2,.box [.d (.v (.int .i64 a0.N)),.d (.sl 1 (aB y1)),.os 3 (af.rows s.2.1).length,.os 4 (ax.rows s.2.2).length])]) g ?_;rintro n ⟨s12,s15,s16⟩ _ g;change tc (Gf n) a0 y1 s12 s15 s16=_ at g;rw[tc]at g;refine yz ?_;refine bc g λ_ g=>?_;refine yX g ax.aA λx18 _ _ g=>?_;refine yo [0,1,2,3,4,5,6,7,8] (tk [28,30,34]) [] ?_;obtain⟨y20,ey20,g⟩:=a8 g (o.a.Ye _);refine yl (yC ey20) ?_;obtain⟨h21,g⟩:=bE g;refine yk<|ak.dY (rows2:=(ax.rows ([{aY:=y20,Name:=x18.Name:ax}]))) aE.nil rfl rfl rfl rfl rfl zg rfl zi rfl rfl (ax.cm _) rfl rfl (zo h21) (yz ?_)
 exact yk (yN (_,_,_) n ⟨by omega,g⟩)
/-plexus.join.JoinAll-/
theorem ai0 {n} (o:Of n):WC (zr (Gf n)):=by
 intro a0 a1 r g;rw[zr]at g;refine yw func126 ntmps126 ?_;refine yc g (o.a.W4 _ _) λy1 g=>?_;refine aM g λ_ g=>?_;refine yc g (o.a.ajM _) λy3 g=>?_;refine yk<|yL (S:=Int×af) (G:=λm s=>DA (Gf m) a0 a1 s.1 s.2) (s0:=(0,y3)) 3 [2,4,5,7,19,20] [21] (λs=>[(21,.d (.v (.int .i64 s.1)))]) (λs=>[(2,.box ((af.cs s.2).map .d))]) g ?_;rintro n ⟨s4,s5⟩ _ g;change qq (Gf n) a0 a1 s4 s5=_ at g;rw[qq]at g;refine yz ?_
 refine ay g (λ_ g=>?_) λ_ g=>?_;refine yX g af.aA λx7 _ _ g=>?_;refine yc g (o.a.EW _ _ _) λy9 g=>?_;exact yk (yN (_,_) n ⟨by omega,g⟩);refine yc g (o.a.W8 _) λy10 g=>?_;cases g;exact zl
/-plexus.join.Join-/
theorem w68 {n} (o:Of n):XK (Bp (Gf n)):=by
 intro a0 a1 a2 r g;rw[Bp]at g;refine yw func68 ntmps68 ?_;refine yk<|ak.cC (t:=11) rfl rfl (fp rfl aV) (yz ?_)
 refine yc g (o.a.ajX _ _) λy2 g=>?_;cases g;exact zl
/-plexus.eval.saturated-/
theorem ai1 {n} (o:Of n):WD (yV (Gf n)):=by
 intro a0 r g;rw[yV]at g;refine yw func144 ntmps144 ?_;refine yv (bp.toP (bp.min2 rfl rfl rfl)) ?_;refine yv (bp.toP (bp.max2 rfl rfl rfl)) ?_;cases g;exact zl
/-plexus.eval.allowed-/
theorem ai2 {n} (o:Of n):WE (Af (Gf n)):=by
 intro a0 a1 r g;rw[Af]at g;refine yw func148 ntmps148 ?_;refine aM g λ_ g=>?_;refine yc g (o.a.Lg _ _) λy2 g=>?_;cases g;exact zl
/-plexus.eval.kept$1-/
theorem ai3 {n} (o:Of n):WG (zd (Gf n)):=by
 intro a0 a1 r g;rw[zd]at g;refine yw func262 ntmps262 ?_;refine yc g (o.a.Ls _ _) λy1 g=>?_;cases g;exact zl
/-slices.IndexFunc[[]string,string]-/
theorem abi {n} (o:Of n):Pk (sE (Gf n)):=by
 intro a0 a1 r g;rw[sE]at g;refine yw func187 ntmps187 ?_;refine yk<|yL (S:=Int) (G:=λm s=>pW (Gf m) a0 a1 s) (s0:=0) 0 [0,1,4,7] [8] (λs=>[(8,.d (.v (.int .i64 s)))]) (λs=>[]) g ?_;rintro n s1 _ g;change rV (Gf n) a0 a1 s1=_ at g;rw[rV]at g;refine yz ?_
 refine bc g λ_ g=>?_;refine yX g cL λx3 _ _ g=>?_;refine yc g (o.a.W9 _ _) λy5 g=>?_;refine aM g λ_ g=>?_;exact yk (yN _ n ⟨by omega,g⟩)
/-plexus.eval.kept-/
theorem ai4 {n} (o:Of n):WH (zf (Gf n)):=by
 intro a0 a1 r g;rw[zf]at g;refine yw func206 ntmps206 ?_;obtain⟨y1,ey1,g⟩:=a8 g (o.a.EL _);refine yk<|ak.Im ey1 rfl rfl (by first|rfl|(simp only[gW];rfl)) rfl (yz ?_)
 refine yk<|ak.inl (rs:=_) rfl func261 rfl zk rfl ntmps261 rfl rfl (yz ?_)
 refine yc g (o.a.abq _ _) λy2 g=>?_;refine zs g ?_ ?_<;>(clear g;intro h3 g);cases g;exact zl;refine yk<|ak.re (t:=1) rfl rfl aV (yz ?_)
 refine yk<|yL (S:=(List (List UInt8))×Int×Int) (G:=λm s=>oL (Gf m) a0 s.1 s.2.1 s.2.2) (s0:=(y1,y2,IntKind.i64.wrap (y2+1))) 2 [1,4] [0,5,6] (λs=>[(0,.os 1 (aB s.1).length),(5,.d (.v (.int .i64 s.2.1))),(6,.d (.v (.int .i64 s.2.2)))]) (λs=>[(1,.row 9 1 (aB s.1))]) g ?_;rintro n ⟨s4,s5,s6⟩ _ g;change sZ (Gf n) a0 s4 s5 s6=_ at g;rw[sZ]at g;refine yz ?_
 refine zs g ?_ ?_<;>(clear g;intro h7 g);obtain⟨x8,ex8,j9h,g⟩:=b3 g;refine yv (yr j9h ex8) ?_;refine yv (ym s6.toNat 0 (cL ex8)) ?_;refine yc g (o.a.W9 _ _) λy10 g=>?_;refine zs g ?_ ?_<;>(clear g;intro h11 g);obtain⟨x12,ex12,j13h,g⟩:=b3 g;refine yv (yr j13h ex12) ?_;refine yk<|ak.kp s5.toNat 0 (by rfl) (by rfl) (by rfl) (by rfl) (by rfl) (by rfl) zg (by rfl) (yg (cL ex12)) (by rfl) (by rfl) (by rfl) (by rfl) (yz ?_)
 iterate 2 (exact yk (yN (_,_,_) n ⟨by omega,g⟩))
 obtain⟨h14,g⟩:=bE g;refine yk<|ak.aam (rows2:=(aB (List.take (s5:Int).toNat s4++List.replicate ((s4).length-(s5:Int).toNat) []))) ((s5:Int).toNat) rfl rfl zg rfl (Int.toNat_of_nonneg (ig h14).1).symm (by simpa only[bD,kL]using(ig h14).2) rfl Tryz.zeroValue9 rfl rfl rfl (by first|(simp only[aB,pP,Fu,BZ,iK];done)|(simp only[aB,pP,Fu,BZ,iK];rfl)) ?_;refine ak.mY (m:=(aB (List.take (s5:Int).toNat s4++List.replicate ((s4).length-(s5:Int).toNat) [])).length) 0 rfl (by have h0:=(ig h14).2;simp only[bD,jB,gU,oh,kL]at h0⊢;omega) ?_;refine ak.mY (m:=(aB (List.take (s5:Int).toNat s4++List.replicate ((s4).length-(s5:Int).toNat) [])).length) 36 rfl (by have h0:=(ig h14).2;simp only[bD,jB,gU,oh,kL]at h0⊢;omega) ?_;refine ak.mY (m:=(aB (List.take (s5:Int).toNat s4++List.replicate ((s4).length-(s5:Int).toNat) [])).length) 17 rfl (by have h0:=(ig h14).2;simp only[bD,jB,gU,oh,kL]at h0⊢;omega) (yz ?_)
 obtain⟨x15,ex15,g⟩:=ck g;obtain⟨j16a,j16b,j16h,j16i,j16k,j16m,ex15⟩:=NU ex15;refine yv (bp.toP (bp.conv (bp.part j16a j16b rfl rfl rfl (Hs (by omega)) (Hr j16i rfl) j16k (by simpa only[bD]using j16m)) (by rw[<-ex15];simp only[NP,NQ])) (x:= .d (.sl 1 (aB x15)))) ?_;cases g;exact zl
/-plexus.value.IsBottom-/
theorem ai5 {n} (o:Of n):WI (zK (Gf n)):=by
 intro a0 a1 r g;rw[zK]at g;refine yw func149 ntmps149 ?_;refine yo [0,1,2,3,4,5,6,7,8,9] [] [] ?_;obtain⟨y1,ey1,g⟩:=a8 g (o.a.BI _);refine yl (yC ey1) ?_;refine bc g λ_ g=>?_;obtain⟨y3,ey3,g⟩:=a8 g (o.a.A6 _);refine yl (yC ey3) ?_;obtain⟨y4,ey4,g⟩:=a8 g (o.a.A7 _ _);refine yl (yC ey4) ?_;cases g;exact zl
/-plexus.register.lattice-/
theorem ai6 {n} (o:Of n):WJ (yZ (Gf n)):=by
 intro r g;rw[yZ]at g;refine yw func267 ntmps267 ?_;cases g;exact yj
/-plexus.clock.Merge$1-/
theorem ai7 {n} (o:Of n):WK (zW (Gf n)):=by
 intro a0 a1 r g;rw[zW]at g;refine yw func272 ntmps272 ?_;refine yv (bp.toP (bp.max2 rfl rfl rfl)) ?_;cases g;exact zl
/-plexus.clock.walk-/
set_option maxHeartbeats 0 in
theorem acJ {n} (o:Of n):Qo (xe (Gf n)):=by
 intro a0 a1 r g;rw[xe]at g;refine yw func271 ntmps271 ?_;refine yc g (o.a.nR _) λy1 g=>?_;refine aM g λ_ g=>?_;refine yc g (o.a.nR _) λy3 g=>?_;refine aM g λ_ g=>?_;refine Ok.stuck aV ?_;refine ak.kQ 7 133 2 0 rfl rfl ?_;refine yL (S:=(List ai)×(List ai)×(List ai)) (G:=λm s=>fG (Gf m) s.1 s.2.1 s.2.2) (s0:=(a0,a1,[])) 1 [2,6] [0,1,7] (λs=>[(0,.d (.sl 2 (ai.rows s.1))),(1,.d (.sl 2 (ai.rows s.2.1))),(7,.os 0 (ai.rows s.2.2).length)]) (λs=>[(0,.row 133 2 (ai.rows s.2.2))]) g ?_;rintro n ⟨s5,s6,s7⟩ _ g;change Cb (Gf n) s5 s6 s7=_ at g;rw[Cb]at g;refine yz ?_;refine ay g (λh8 g=>?_) λh8 g=>?_;refine yo [0,1,2,3,4,5,6,7,8,9,10,11,12,13,14,15,16,17,18,19] [] [] ?_;refine ay g (λ_ g=>?_) λ_ g=>?_;refine yo [0,1,2,3,4,5,6,7,8,9,10,11,12] [] [] ?_;refine yY g ai.aA λx10 _ _ g=>?_;refine yY g ai.aA λx12 _ _ g=>?_;obtain⟨x14,ex14,g⟩:=ck g;refine yl (yQ ai.bh ex14) ?_;refine yc g (o.a.nU _ _) λy16 g=>?_;refine ay g (λ_ g=>?_) λ_ g=>?_;refine yk<|ak.fu 1 (rows':=ai.rows ([{Process:=x10.Process,N:=y16:ai}])) rfl zi (yz ?_)
 obtain⟨h18,g⟩:=bE g;refine yk<|DO.dF rfl rfl zg rfl rfl zg rfl rfl (ai.cm _) rfl rfl rfl (zo h18) (yz ?_)
 exact yk (yN (_,_,_) n ⟨by omega,g⟩);exact yk (yN (x14,s6,s7) n ⟨by omega,g⟩);refine Ok.iQ h8 ?_;conv=>(arg 3;whnf)
 refine yY g ai.aA λx19 _ _ g=>?_;refine yY g ai.aA λx21 _ _ g=>?_;refine ay g (λ_ g=>?_) λ_ g=>?_;refine yo [0,1,2,3,4,5,6,7,8,9,10,11,12] [] [] ?_;refine yY g ai.aA λx24 _ _ g=>?_;refine yY g ai.aA λx26 _ _ g=>?_;obtain⟨x28,ex28,g⟩:=ck g;refine yl (yQ ai.bh ex28) ?_;refine yc g (o.a.nU _ _) λy30 g=>?_;refine ay g (λ_ g=>?_) λ_ g=>?_;refine yk<|ak.fu 1 (rows':=ai.rows ([{Process:=x24.Process,N:=y30:ai}])) rfl zi (yz ?_)
 obtain⟨h32,g⟩:=bE g;refine yk<|DO.dF rfl rfl zg rfl rfl zg rfl rfl (ai.cm _) rfl rfl rfl (zo h32) (yz ?_)
 exact yk (yN (_,_,_) n ⟨by omega,g⟩);exact yk (yN (x28,s6,s7) n ⟨by omega,g⟩);refine yo [0,1,2,3,4,5,6,7,8,9,10,11,12,13,14] [] [] ?_;refine ay g (λ_ g=>?_) λ_ g=>?_;refine yo [0,1,2,3,4,5,6,7,8,9,10,11,12] [] [] ?_;refine yY g ai.aA λx34 _ _ g=>?_;refine yY g ai.aA λx36 _ _ g=>?_;obtain⟨x38,ex38,g⟩:=ck g;refine yl (yQ ai.bh ex38) ?_;refine yc g (o.a.nU _ _) λy40 g=>?_;refine ay g (λ_ g=>?_) λ_ g=>?_;refine yk<|ak.fu 1 (rows':=ai.rows ([{Process:=x34.Process,N:=y40:ai}])) rfl zi (yz ?_)
 obtain⟨h42,g⟩:=bE g;refine yk<|DO.dF rfl rfl zg rfl rfl zg rfl rfl (ai.cm _) rfl rfl rfl (zo h42) (yz ?_)
 exact yk (yN (_,_,_) n ⟨by omega,g⟩);exact yk (yN (s5,x38,s7) n ⟨by omega,g⟩);refine yY g ai.aA λx43 _ _ g=>?_;refine yY g ai.aA λx45 _ _ g=>?_;refine ay g (λ_ g=>?_) λ_ g=>?_;refine yo [0,1,2,3,4,5,6,7,8,9,10,11,12] [] [] ?_;refine yY g ai.aA λx48 _ _ g=>?_;refine yY g ai.aA λx50 _ _ g=>?_;obtain⟨x52,ex52,g⟩:=ck g;refine yl (yQ ai.bh ex52) ?_;refine yc g (o.a.nU _ _) λy54 g=>?_;refine ay g (λ_ g=>?_) λ_ g=>?_;refine yk<|ak.fu 1 (rows':=ai.rows ([{Process:=x48.Process,N:=y54:ai}])) rfl zi (yz ?_)
 obtain⟨h56,g⟩:=bE g;refine yk<|DO.dF rfl rfl zg rfl rfl zg rfl rfl (ai.cm _) rfl rfl rfl (zo h56) (yz ?_)
 exact yk (yN (_,_,_) n ⟨by omega,g⟩);exact yk (yN (s5,x52,s7) n ⟨by omega,g⟩);refine yo [0,1,2,3,4,5,6,7,8,9,10,11,12,13,14,15,16,17,18,19,20] [] [] ?_;refine yY g ai.aA λx57 _ _ g=>?_;refine yY g ai.aA λx59 _ _ g=>?_;refine yY g ai.aA λx61 _ _ g=>?_;obtain⟨x63,ex63,g⟩:=ck g;refine yl (yQ ai.bh ex63) ?_;obtain⟨x65,ex65,g⟩:=ck g;refine yl (yQ ai.bh ex65) ?_;refine yc g (o.a.nU _ _) λy67 g=>?_;refine ay g (λ_ g=>?_) λ_ g=>?_;refine yk<|ak.fu 1 (rows':=ai.rows ([{Process:=x57.Process,N:=y67:ai}])) rfl zi (yz ?_)
 obtain⟨h69,g⟩:=bE g;refine yk<|DO.dF rfl rfl zg rfl rfl zg rfl rfl (ai.cm _) rfl rfl rfl (zo h69) (yz ?_)
 exact yk (yN (_,_,_) n ⟨by omega,g⟩);exact yk (yN (x63,x65,s7) n ⟨by omega,g⟩);refine bc g λ_ g=>?_;refine yo [0,1,2,3,4,5,6,7,8,9,10,11,12,13,14,15,16,17,18,19] [] [] ?_;refine ay g (λ_ g=>?_) λ_ g=>?_;refine yo [0,1,2,3,4,5,6,7,8,9,10,11,12] [] [] ?_;refine yY g ai.aA λx72 _ _ g=>?_;refine yY g ai.aA λx74 _ _ g=>?_;obtain⟨x76,ex76,g⟩:=ck g;refine yl (yQ ai.bh ex76) ?_;refine yc g (o.a.nU _ _) λy78 g=>?_;refine ay g (λ_ g=>?_) λ_ g=>?_;refine yk<|ak.fu 1 (rows':=ai.rows ([{Process:=x72.Process,N:=y78:ai}])) rfl zi (yz ?_)
 obtain⟨h80,g⟩:=bE g;refine yk<|DO.dF rfl rfl zg rfl rfl zg rfl rfl (ai.cm _) rfl rfl rfl (zo h80) (yz ?_)
 exact yk (yN (_,_,_) n ⟨by omega,g⟩);exact yk (yN (x76,s6,s7) n ⟨by omega,g⟩);refine Ok.jI h8 ?_;conv=>(arg 3;whnf)
 refine yo [0,1,2,3,4,5,6,7,8,9,10,11,12,13,14] [] [] ?_;refine ay g (λ_ g=>?_) λ_ g=>?_;refine yo [0,1,2,3,4,5,6,7,8,9,10,11,12] [] [] ?_;refine yY g ai.aA λx82 _ _ g=>?_;refine yY g ai.aA λx84 _ _ g=>?_;obtain⟨x86,ex86,g⟩:=ck g;refine yl (yQ ai.bh ex86) ?_;refine yc g (o.a.nU _ _) λy88 g=>?_;refine ay g (λ_ g=>?_) λ_ g=>?_;refine yk<|ak.fu 1 (rows':=ai.rows ([{Process:=x82.Process,N:=y88:ai}])) rfl zi (yz ?_)
 obtain⟨h90,g⟩:=bE g;refine yk<|DO.dF rfl rfl zg rfl rfl zg rfl rfl (ai.cm _) rfl rfl rfl (zo h90) (yz ?_)
 exact yk (yN (_,_,_) n ⟨by omega,g⟩);exact yk (yN (s5,x86,s7) n ⟨by omega,g⟩);refine yY g ai.aA λx91 _ _ g=>?_;refine yY g ai.aA λx93 _ _ g=>?_;refine ay g (λ_ g=>?_) λ_ g=>?_;refine yo [0,1,2,3,4,5,6,7,8,9,10,11,12] [] [] ?_;refine yY g ai.aA λx96 _ _ g=>?_;refine yY g ai.aA λx98 _ _ g=>?_;obtain⟨x100,ex100,g⟩:=ck g;refine yl (yQ ai.bh ex100) ?_;refine yc g (o.a.nU _ _) λy102 g=>?_;refine ay g (λ_ g=>?_) λ_ g=>?_;refine yk<|ak.fu 1 (rows':=ai.rows ([{Process:=x96.Process,N:=y102:ai}])) rfl zi (yz ?_)
 obtain⟨h104,g⟩:=bE g;refine yk<|DO.dF rfl rfl zg rfl rfl zg rfl rfl (ai.cm _) rfl rfl rfl (zo h104) (yz ?_)
 exact yk (yN (_,_,_) n ⟨by omega,g⟩);exact yk (yN (s5,x100,s7) n ⟨by omega,g⟩);refine yo [0,1,2,3,4,5,6,7,8,9,10,11,12,13,14,15,16,17,18,19,20] [] [] ?_;refine yY g ai.aA λx105 _ _ g=>?_;refine yY g ai.aA λx107 _ _ g=>?_;refine yY g ai.aA λx109 _ _ g=>?_;obtain⟨x111,ex111,g⟩:=ck g;refine yl (yQ ai.bh ex111) ?_;obtain⟨x113,ex113,g⟩:=ck g;refine yl (yQ ai.bh ex113) ?_;refine yc g (o.a.nU _ _) λy115 g=>?_;refine ay g (λ_ g=>?_) λ_ g=>?_;refine yk<|ak.fu 1 (rows':=ai.rows ([{Process:=x105.Process,N:=y115:ai}])) rfl zi (yz ?_)
 obtain⟨h117,g⟩:=bE g;refine yk<|DO.dF rfl rfl zg rfl rfl zg rfl rfl (ai.cm _) rfl rfl rfl (zo h117) (yz ?_)
 exact yk (yN (_,_,_) n ⟨by omega,g⟩);exact yk (yN (x111,x113,s7) n ⟨by omega,g⟩)
/-plexus.clock.Merge-/
theorem ai8 {n} (o:Of n):WL (zY (Gf n)):=by
 intro a0 a1 r g;rw[zY]at g;refine yw func209 ntmps209 ?_;refine yc g (o.a.acP _ _) λy1 g=>?_;cases g;exact zl
/-plexus.register.aY-/
theorem ai9 {n} (o:Of n):WM (uX (Gf n)):=by
 intro a0 r g;rw[uX]at g;refine yw func269 ntmps269 ?_;refine Ok.stuck aV ?_;refine ak.uG 3 rfl (bV.nil 2) ?_;refine yL (S:=(List ai)×Int) (G:=λm s=>xn (Gf m) a0 s.1 s.2) (s0:=([],0)) 1 [2,7,8] [3,9] (λs=>[(3,.d (.sl 2 (ai.rows s.1))),(9,.d (.v (.int .i64 s.2)))]) (λs=>[]) g ?_;rintro n ⟨s1,s2⟩ _ g;change xo (Gf n) a0 s1 s2=_ at g;rw[xo]at g;refine yz ?_;refine bc g λ_ g=>?_;refine yX g ax.aA λx4 _ _ g=>?_;refine yc g (o.a.Lt _ _) λy6 g=>?_;exact yk (yN (_,_) n ⟨by omega,g⟩)
/-plexus.clock.Get-/
theorem ai' {n} (o:Of n):WO (z7 (Gf n)):=by
 intro a0 a1 r g;rw[z7]at g;refine yw func302 ntmps302 ?_;refine yc g (o.a.nR _) λy1 g=>?_;refine aM g λ_ g=>?_;refine yk<|yL (S:=Int) (G:=λm s=>xx (Gf m) a0 a1 s) (s0:=0) 0 [1,4,10,11] [12] (λs=>[(12,.d (.v (.int .i64 s)))]) (λs=>[]) g ?_;rintro n s3 _ g;change tG (Gf n) a0 a1 s3=_ at g;rw[tG]at g;refine yz ?_
 refine bc g λ_ g=>?_;refine yX g ai.aA λx5 _ _ g=>?_;refine aM g λ_ g=>?_;exact yk (yN _ n ⟨by omega,g⟩)
/-plexus.clock.Inc-/
theorem aja {n} (o:Of n):WQ (z8 (Gf n)):=by
 intro a0 a1 r g;rw[z8]at g;refine yw func268 ntmps268 ?_;refine yc g (o.a.nR _) λy1 g=>?_
 iterate 3 (refine aM g λ_ g=>?_)
 refine yc g (o.a.aj2 _ _) λy5 g=>?_;refine aM g λ_ g=>?_;refine yk<|ak.cC (t:=28) rfl rfl (fp rfl aV) (yz ?_)
 refine yc g (o.a.Lt _ _) λy8 g=>?_;cases g;exact zl
/-plexus.register.single-/
theorem ajb {n} (o:Of n):WR (zc (Gf n)):=by
 intro a0 a1 r g;rw[zc]at g;refine yw func270 ntmps270 ?_;cases g;exact yj
/-plexus.register.Write-/
theorem ajc {n} (o:Of n):WS (za (Gf n)):=by
 intro a0 a1 a2 r g;rw[za]at g;refine yw func208 ntmps208 ?_;refine yo [0,1,2,3,4] [] [] ?_;obtain⟨y1,ey1,g⟩:=a8 g o.a.aj0;refine yl (yC ey1) ?_;obtain⟨y2,ey2,g⟩:=a8 g (o.a.rO _ _);refine yl (yC ey2) ?_
 iterate 3 (refine aM g λ_ g=>?_)
 refine yc g (o.a.l4 _) λy6 g=>?_;refine aM g λ_ g=>?_;refine yc g (o.a.aj1 _) λy8 g=>?_;refine yc g (o.a.aj3 _ _) λy9 g=>?_;refine aM g λ_ g=>?_;refine yc g (o.a.aj4 _ _) λy11 g=>?_;cases g;exact zl
/-plexus.eval.write-/
theorem ajd {n} (o:Of n):WT (yW (Gf n)):=by
 intro a0 a1 a2 r g;rw[yW]at g;refine yw func150 ntmps150 ?_;refine yv (bp.toP (bp.min2 rfl rfl rfl)) ?_;refine yv (bp.toP (bp.max2 rfl rfl rfl)) ?_;refine yc g (o.a.aj5 _ _ _) λy1 g=>?_;refine aM g λ_ g=>?_;refine Ok.stuck aV ?_;refine ak.uG 10 rfl (bV.nil 2) ?_;refine yL (S:=(List ai)×Int) (G:=λm s=>sY (Gf m) a0 a2 s.1 s.2) (s0:=([],0)) 3 [2,3,6,8,27,28] [10,29] (λs=>[(10,.d (.sl 2 (ai.rows s.1))),(29,.d (.v (.int .i64 s.2)))]) (λs=>[]) g ?_;rintro n ⟨s3,s4⟩ _ g;change DB (Gf n) a0 a2 s3 s4=_ at g;rw[DB]at g;refine yz ?_;refine ay g (λ_ g=>?_) λ_ g=>?_;refine yX g ax.aA λx6 _ _ g=>?_;refine yc g (o.a.Lt _ _) λy8 g=>?_;exact yk (yN (_,_) n ⟨by omega,g⟩);refine yc g (o.a.Mz _ _ _) λy9 g=>?_;cases g;exact zl
/-plexus.eval.size-/
theorem aje {n} (o:Of n):WU (yO (Gf n)):=by
 intro a0 r g;rw[yO]at g;refine yw func151 ntmps151 ?_;cases g;exact zl
/-plexus.eval.total-/
theorem ajf {n} (o:Of n):WV (uT (Gf n)):=by
 intro a0 r g;rw[uT]at g;refine yw func152 ntmps152 ?_;refine yk<|yL (S:=Int×Int) (G:=λm s=>ql (Gf m) a0 s.1 s.2) (s0:=(0,0)) 1 [2,7,8] [3,9] (λs=>[(3,.d (.v (.int .i64 s.1))),(9,.d (.v (.int .i64 s.2)))]) (λs=>[]) g ?_;rintro n ⟨s1,s2⟩ _ g;change sT (Gf n) a0 s1 s2=_ at g;rw[sT]at g;refine yz ?_
 refine bc g λ_ g=>?_;refine yX g af.aA λx4 _ _ g=>?_;refine yc g (o.a.Lr _) λy6 g=>?_;exact yk (yN (_,_) n ⟨by omega,g⟩)
/-plexus.eval.set-/
theorem ajg {n} (o:Of n):WW (uU (Gf n)):=by
 intro a0 r g;rw[uU]at g;refine yw func153 ntmps153 ?_;cases g;exact yj
/-plexus.register.Names-/
theorem ajh {n} (o:Of n):WX (uV (Gf n)):=by
 intro a0 r g;rw[uV]at g;refine yw func154 ntmps154 ?_;refine yk<|ak.makeMap rfl rfl (yz ?_)
 refine Ok.stuck aV ?_;refine ak.kQ 4 9 1 2 rfl rfl ?_;refine yL (S:=(List (List UInt8))×Int×(List (List UInt8))) (G:=λm s=>oK (Gf m) a0 s.1 s.2.1 s.2.2) (s0:=([],0,[])) 3 [2,3,9,10] [4,11] (λs=>[(4,.os 2 (aB s.1).length),(11,.d (.v (.int .i64 s.2.1)))]) (λs=>[(2,.row 9 1 (aB s.1)),(1,.set s.2.2)]) g ?_;rintro n ⟨s1,s2,s3⟩ _ g;change sW (Gf n) a0 s1 s2 s3=_ at g;rw[sW]at g;refine yz ?_;refine zs g ?_ ?_<;>(clear g;intro h4 g);obtain⟨x5,ex5,j6h,g⟩:=b3 g;refine yv (yI j6h (ax.aA ex5)) ?_;refine yv (bd.aan rfl Tryz.underlying210 Tryz.underlying9 Tryz.zeroValue4 rfl rfl rfl) ?_;refine zs g ?_ ?_<;>(clear g;intro h7 g);obtain⟨h8,g⟩:=bE g;refine yk<|ak.aeh Tryz.underlying210 Tryz.underlying9 rfl rfl rfl rfl (by simpa only[jC]using h8) (yz ?_)
 obtain⟨h9,g⟩:=bE g;refine yk<|DO.dF rfl rfl zg rfl rfl zg rfl rfl rfl rfl rfl rfl (zo h9) (yz ?_)
 iterate 2 (exact yk (yN (_,_,_) n ⟨by omega,g⟩))
 obtain⟨y10,ey10,g⟩:=a8 g (o.a.Lf _);obtain⟨h11,g⟩:=bE g;refine yk<|ak.kX 2 ey10 rfl rfl (by first|rfl|(simp only[gW];rfl)) rfl (nK.row zi) rfl ?_;refine ak.mY (m:=(aB y10.2).length) 4 rfl (ig h11) ?_;refine ak.mY (m:=(aB y10.2).length) 29 rfl (ig h11) (yz ?_)
 cases g;exact zl
/-(plexus.eval.frame).eval-/
theorem w50 {n} (o:Of n):XL (me (Gf n)):=by
 intro a0 a1 r g;rw[me]at g;refine yw func50 ntmps50 ?_;refine ay g (λ_ g=>?_) λ_ g=>?_;refine yc g (o.a.c87 _ _) λy2 g=>?_;cases g;exact zl;refine ay g (λ_ g=>?_) λ_ g=>?_;refine yc g (o.a.c88 _ _) λy4 g=>?_;cases g;exact zl;refine ay g (λ_ g=>?_) λ_ g=>?_;refine yc g (o.a.MA _ _) λy6 g=>?_;cases g;exact zl;refine ay g (λ_ g=>?_) λ_ g=>?_;refine yc g (o.a.MA _ _) λy8 g=>?_;cases g;exact zl;refine ay g (λ_ g=>?_) λ_ g=>?_;refine yc g (o.a.MA _ _) λy10 g=>?_;cases g;exact zl;refine ay g (λ_ g=>?_) λ_ g=>?_;refine yc g (o.a.c90 _ _) λy12 g=>?_;cases g;exact zl;refine yc g (o.a.c91 _ _) λy13 g=>?_;cases g;exact zl
/-(plexus.eval.frame).operator-/
set_option maxHeartbeats 0 in
theorem w88 {n} (o:Of n):XM (gu (Gf n)):=by
 intro a0 a1 r g;rw[gu]at g;refine yw func88 ntmps88 ?_;refine ay g (λ_ g=>?_) λ_ g=>?_;refine yk<|ak.cC (t:=15) rfl rfl aV (yz ?_)
 refine yc g (o.a.eT _ _ _) λy3 g=>?_;refine ay g (λ_ g=>?_) λ_ g=>?_;refine yc g (o.a.eT _ _ _) λy5 g=>?_;cases g;exact zl;refine yc g (o.a.eT _ _ _) λy6 g=>?_;cases g;exact zl;refine ay g (λ_ g=>?_) λ_ g=>?_;refine yk<|ak.cC (t:=26) rfl rfl aV (yz ?_)
 refine yc g (o.a.eT _ _ _) λy9 g=>?_;refine ay g (λ_ g=>?_) λ_ g=>?_;refine yc g (o.a.jc _) λy11 g=>?_;cases g;exact zl;refine yc g (o.a.eT _ _ _) λy12 g=>?_;refine yc g (o.a.jc _) λy13 g=>?_;cases g;exact zl;refine ay g (λ_ g=>?_) λ_ g=>?_;refine yk<|ak.cC (t:=41) rfl rfl aV (yz ?_)
 refine yc g (o.a.eT _ _ _) λy16 g=>?_;refine ay g (λ_ g=>?_) λ_ g=>?_;refine yc g (o.a.eT _ _ _) λy18 g=>?_;refine yc g (o.a.jc _) λy19 g=>?_;cases g;exact zl;refine yc g (o.a.jc _) λy20 g=>?_;cases g;exact zl;refine ay g (λ_ g=>?_) λ_ g=>?_;refine yk<|ak.cC (t:=56) rfl rfl aV (yz ?_)
 refine yc g (o.a.eT _ _ _) λy23 g=>?_;refine yc g (o.a.jc _) λy24 g=>?_;cases g;exact zl;refine ay g (λ_ g=>?_) λ_ g=>?_;refine yk<|ak.cC (t:=64) rfl rfl aV (yz ?_)
 refine yc g (o.a.eT _ _ _) λy27 g=>?_;refine yc g (o.a.eT _ _ _) λy28 g=>?_;refine yc g (o.a.jc _) λy29 g=>?_;cases g;exact zl;refine ay g (λ_ g=>?_) λ_ g=>?_;refine yk<|ak.cC (t:=76) rfl rfl aV (yz ?_)
 refine yc g (o.a.eT _ _ _) λy32 g=>?_;refine yc g (o.a.eT _ _ _) λy33 g=>?_;refine yc g (o.a.jc _) λy34 g=>?_;cases g;exact zl;refine ay g (λ_ g=>?_) λ_ g=>?_;refine yk<|ak.cC (t:=88) rfl rfl aV (yz ?_)
 refine yc g (o.a.eT _ _ _) λy37 g=>?_;refine yc g (o.a.eT _ _ _) λy38 g=>?_
 iterate 2 (refine ay g (λ_ g=>?_) λ_ g=>?_)
 refine yc g (o.a.ajI _ _) λy41 g=>?_;refine yc g (o.a.jc _) λy42 g=>?_;cases g;exact zl;refine yc g (o.a.jc _) λy43 g=>?_;cases g;exact zl;refine yc g (o.a.jc _) λy44 g=>?_;cases g;exact zl;refine ay g (λ_ g=>?_) λ_ g=>?_;refine yk<|ak.cC (t:=117) rfl rfl aV (yz ?_)
 refine yc g (o.a.eT _ _ _) λy47 g=>?_;refine yc g (o.a.eT _ _ _) λy48 g=>?_;refine yc g (o.a.vC _ _) λy49 g=>?_;refine yc g (o.a.jc _) λy50 g=>?_;cases g;exact zl;refine ay g (λ_ g=>?_) λ_ g=>?_;refine yk<|ak.re (t:=5) rfl rfl aV (yz ?_)
 refine yo [0,1,2,3,4,5,6,7,8,9,10,11,12,13] [(14,.one)] [] ?_;refine yY g ae.aA λx52 _ _ g=>?_;obtain⟨y54,ey54,g⟩:=a8 g (o.a.eT _ _ _);refine yl (yC ey54) ?_;obtain⟨y55,ey55,g⟩:=a8 g (o.a.eT _ _ _);refine yl (yC ey55) ?_;obtain⟨y56,ey56,g⟩:=a8 g (o.a.c69 _ _ _);refine yl (yC ey56) ?_;obtain⟨y57,ey57,g⟩:=a8 g (o.a.jc _);refine yl (yC ey57) ?_;cases g;exact zl;refine ay g (λ_ g=>?_) λ_ g=>?_;refine yk<|ak.re (t:=5) rfl rfl aV (yz ?_)
 refine yo [] (tk [0,3,6,9,12,15,18,21,24,27,30,33,36,40,43,45]) [] ?_;refine yt zp ?_;obtain⟨y59,ey59,g⟩:=a8 g (o.a.eT _ _ _);refine yu zp (bp.call ey59 rfl rfl) ?_
 iterate 2 (refine yt zp ?_)
 obtain⟨y60,ey60,g⟩:=a8 g (o.a.eT _ _ _);refine yu zp (bp.call ey60 rfl rfl) ?_;refine yt zp ?_;obtain⟨y61,ey61,g⟩:=a8 g (o.a.Mz _ _ _);refine yu zp (bp.call ey61 rfl rfl) ?_
 iterate 5 (refine yt zp ?_)
 cases g;exact yj;refine ay g (λ_ g=>?_) λ_ g=>?_;refine yk<|ak.cC (t:=162) rfl rfl aV (yz ?_)
 refine yc g (o.a.eT _ _ _) λy64 g=>?_;refine yc g (o.a.eT _ _ _) λy65 g=>?_;refine yc g (o.a.Lr _) λy66 g=>?_;refine yc g (o.a.vE _) λy67 g=>?_;cases g;exact zl;refine yk<|ak.cC (t:=173) rfl rfl aV (yz ?_)
 refine yc g (o.a.eT _ _ _) λy69 g=>?_;refine yc g (o.a.eT _ _ _) λy70 g=>?_;refine yc g (o.a.Lr _) λy71 g=>?_;refine yc g (o.a.vE _) λy72 g=>?_;cases g;exact zl
/-(plexus.eval.frame).operator$1-/
theorem aji {n} (o:Of n):WY (rp (Gf n)):=by
 intro a0 a1 a2 r g;rw[rp]at g;refine yw func141 ntmps141 ?_;refine yo [0,1,2,3,4,5,6] [(7,.one)] [] ?_;refine yY g ae.aA λx1 _ _ g=>?_;obtain⟨y3,ey3,g⟩:=a8 g (o.a.pM _ _);refine yl (yC ey3) ?_;cases g;exact zl
/-(plexus.eval.frame).part-/
theorem w89 {n} (o:Of n):XN (n9 (Gf n)):=by
 intro a0 a1 r g;rw[n9]at g;refine yw func89 ntmps89 ?_;refine yo [0,1,2,3,4,5,6,7] [(8,.one)] [] ?_;refine yY g ae.aA λx1 _ _ g=>?_;obtain⟨y3,ey3,g⟩:=a8 g (o.a.pM _ _);refine yl (yC ey3) ?_;refine ay g (λ_ g=>?_) λ_ g=>?_;refine yX g af.aA λx5 _ _ g=>?_;cases g;exact yj;refine ay g (λ_ g=>?_) λ_ g=>?_;refine yX g af.aA λx8 _ _ g=>?_;cases g;exact yj;refine ay g (λ_ g=>?_) λ_ g=>?_;refine yX g af.aA λx11 _ _ g=>?_;cases g;exact yj;refine yo [0,1,2,3,4,5,6,7,8,9,10,11] [] [] ?_;refine yY g ae.aA λx13 _ _ g=>?_;obtain⟨y15,ey15,g⟩:=a8 g (o.a.pM _ _);refine yl (yC ey15) ?_;obtain⟨y16,ey16,g⟩:=a8 g (o.a.rE _ _);refine yl (yC ey16) ?_;refine ay g (λ_ g=>?_) λ_ g=>?_;refine yX g af.aA λx18 _ _ g=>?_;cases g;exact yj;refine yc g (o.a.Ln _) λy20 g=>?_;cases g;exact yj
/-(plexus.eval.frame).constructor-/
theorem w90 {n} (o:Of n):XO (ka (Gf n)):=by
 intro a0 a1 r g;rw[ka]at g;refine yw func90 ntmps90 ?_;refine ay g (λ_ g=>?_) λ_ g=>?_;refine yk<|ak.cC (t:=22) rfl rfl aV (yz ?_)
 refine yc g (o.a.mW _ _ _) λy3 g=>?_;cases g;exact yj;refine ay g (λ_ g=>?_) λ_ g=>?_;refine yk<|ak.re (t:=6) rfl rfl aV (yz ?_)
 refine yo [] (tk [0,3,6,9,12,15,18,21,25,28,30,33,37]) [] ?_
 iterate 3 (refine yt zp ?_)
 obtain⟨y5,ey5,g⟩:=a8 g (o.a.mW _ _ _);refine yu zp (bp.call ey5 rfl rfl) ?_
 iterate 2 (refine yt zp ?_)
 refine ye zp (bp.toP (bp.min2 rfl rfl rfl)) ?_;refine ye zp (bp.toP (bp.max2 rfl rfl rfl)) ?_;cases g;exact yj;refine ay g (λ_ g=>?_) λ_ g=>?_;refine yc g (o.a.aj9 _ _) λy7 g=>?_;cases g;exact yj;refine ay g (λ_ g=>?_) λ_ g=>?_;refine yk<|ak.re (t:=6) rfl rfl aV (yz ?_)
 refine Ok.stuck aV ?_;refine ak.wT 4 1 1 rfl rfl ?_;refine ak.wT 4 2 4 rfl rfl ?_;refine ak.wT 4 3 2 rfl rfl ?_;refine yL (S:=Int×af) (G:=λm s=>kU (Gf m) a0 a1 s.1 s.2) (s0:=(0,af.z)) 5 [3,4,5,6,7] [8] (λs=>[(8,.d (.v (.int .i64 s.1)))]) (λs=>[(4,.box ((af.cs s.2).map .d))]) g ?_;rintro n ⟨s9,s10⟩ _ g;change pc (Gf n) a0 a1 s9 s10=_ at g;rw[pc]at g;refine yz ?_;refine bc g λ_ g=>?_;refine yc g (o.a.mW _ _ _) λy12 g=>?_;refine yc g (o.a.mW _ _ _) λy13 g=>?_;refine yo [0,1,2,3,4,5,6,7,8,9,10,11] [] [] ?_;obtain⟨y14,ey14,g⟩:=a8 g (o.a.Ls _ _);refine yl (yC ey14) ?_;refine ay g (λ_ g=>?_) λ_ g=>?_;exact yk (yN (_,_) n ⟨by omega,g⟩);refine yY g ah.aA λx16 _ _ g=>?_;obtain⟨y18,ey18,g⟩:=a8 g (o.a.ajZ _ _);refine yl (yC ey18) ?_;refine ay g (λ_ g=>?_) λ_ g=>?_;exact yk (yN (_,_) n ⟨by omega,g⟩);refine yc g (o.a.Mz _ _ _) λy20 g=>?_;exact yk (yN (_,_) n ⟨by omega,g⟩);refine ay g (λ_ g=>?_) λ_ g=>?_;refine yk<|ak.re (t:=6) rfl rfl aV (yz ?_)
 refine Ok.stuck aV ?_;refine ak.gK 4 2 38 4 5 rfl rfl rfl ?_;refine yL (S:=Int×(List af)) (G:=λm s=>nD (Gf m) a0 a1 s.1 s.2) (s0:=(0,[])) 6 [4,6,11,100] [101] (λs=>[(101,.d (.v (.int .i64 s.1)))]) (λs=>[(5,.row 38 4 (af.rows s.2)),(4,.box [.d (.v (.int .i64 0)),.d (.v (.slice none 0 0)),.os 5 (af.rows s.2).length,.d (.v (.slice none 0 0))])]) g ?_;rintro n ⟨s22,s25⟩ _ g;change pd (Gf n) a0 a1 s22 s25=_ at g;rw[pd]at g;refine yz ?_;refine bc g λ_ g=>?_;refine yo [0,1,2,3,4,5,6] (tk [22,24,28]) [] ?_;obtain⟨y28,ey28,g⟩:=a8 g (o.a.mW _ _ _);refine yl (yC ey28) ?_;obtain⟨h29,g⟩:=bE g;refine yk<|ak.dY (rows2:=(af.rows ([y28.v]))) aE.nil rfl rfl rfl rfl rfl zg rfl zi rfl rfl (af.cm _) rfl rfl (zo h29) (yz ?_)
 exact yk (yN (_,_) n ⟨by omega,g⟩);refine ay g (λ_ g=>?_) λ_ g=>?_;refine yk<|ak.re (t:=6) rfl rfl aV (yz ?_)
 refine Ok.stuck aV ?_;refine ak.gK 4 2 38 4 5 rfl rfl rfl ?_;refine yL (S:=Int×(List af)) (G:=λm s=>uA (Gf m) a0 a1 s.1 s.2) (s0:=(0,[])) 6 [4,6,11,100] [101] (λs=>[(101,.d (.v (.int .i64 s.1)))]) (λs=>[(5,.row 38 4 (af.rows s.2)),(4,.box [.d (.v (.int .i64 0)),.d (.v (.slice none 0 0)),.os 5 (af.rows s.2).length,.d (.v (.slice none 0 0))])]) g ?_;rintro n ⟨s31,s34⟩ _ g;change nE (Gf n) a0 a1 s31 s34=_ at g;rw[nE]at g;refine yz ?_;refine bc g λ_ g=>?_;refine yo [0,1,2,3,4,5,6] (tk [22,24,28]) [] ?_;obtain⟨y37,ey37,g⟩:=a8 g (o.a.mW _ _ _);refine yl (yC ey37) ?_;obtain⟨h38,g⟩:=bE g;refine yk<|ak.dY (rows2:=(af.rows ([y37.v]))) aE.nil rfl rfl rfl rfl rfl zg rfl zi rfl rfl (af.cm _) rfl rfl (zo h38) (yz ?_)
 exact yk (yN (_,_) n ⟨by omega,g⟩);refine ay g (λ_ g=>?_) λ_ g=>?_;refine yk<|ak.cC (t:=118) rfl rfl aV (yz ?_)
 refine yc g (o.a.mW _ _ _) λy41 g=>?_;refine yc g (o.a.Ls _ _) λy42 g=>?_;refine bc g λ_ g=>?_;refine yc g (o.a.Ln _) λy44 g=>?_;cases g;exact yj;refine yk<|ak.cC (t:=133) rfl rfl aV (yz ?_)
 refine yc g (o.a.mW _ _ _) λy46 g=>?_;refine yc g (o.a.mW _ _ _) λy47 g=>?_;refine yc g (o.a.mW _ _ _) λy48 g=>?_;refine yc g (o.a.aj6 _ _ _) λy49 g=>?_;cases g;exact yj
/-(plexus.eval.frame).constructor$1-/
theorem ajj {n} (o:Of n):WZ (rq (Gf n)):=by
 intro a0 a1 a2 r g;rw[rq]at g;refine yw func146 ntmps146 ?_;refine yo [0,1,2,3,4,5,6] [(7,.one)] [] ?_;refine yY g ae.aA λx1 _ _ g=>?_;obtain⟨y3,ey3,g⟩:=a8 g (o.a.pM _ _);refine yl (yC ey3) ?_;cases g;exact zl
/-(plexus.eval.frame).set-/
theorem ajk {n} (o:Of n):W0 (pB (Gf n)):=by
 intro a0 a1 r g;rw[pB]at g;refine yw func147 ntmps147 ?_;refine Ok.stuck aV ?_;refine ak.kQ 6 9 1 3 rfl rfl ?_;refine yL (S:=(List (List UInt8))×Int) (G:=λm s=>mC (Gf m) a0 a1 s.1 s.2) (s0:=([],0)) 4 [2,4,5,14,15] [6,16] (λs=>[(6,.os 3 (aB s.1).length),(16,.d (.v (.int .i64 s.2)))]) (λs=>[(3,.row 9 1 (aB s.1))]) g ?_;rintro n ⟨s1,s2⟩ _ g;change oJ (Gf n) a0 a1 s1 s2=_ at g;rw[oJ]at g;refine yz ?_;refine ay g (λ_ g=>?_) λ_ g=>?_;refine yX g ae.aA λx4 _ _ g=>?_;refine yc g (o.a.pM _ _) λy6 g=>?_;refine ay g (λ_ g=>?_) λ_ g=>?_;obtain⟨h8,g⟩:=bE g;refine yk<|DO.dF rfl rfl zg rfl rfl zg rfl rfl rfl rfl rfl rfl (zo h8) (yz ?_)
 obtain⟨h9,g⟩:=bE g;refine yk<|DO.pw (rows2:=(aB y6.d.Names)) rfl rfl zg rfl (bV.refl _) rfl rfl (Cd _) rfl rfl rfl (zo h9) (yz ?_)
 exact yk (yN (_,_) n ⟨by omega,g⟩);obtain⟨h10,g⟩:=bE g;refine yk<|DO.pw (rows2:=(aB y6.d.Names)) rfl rfl zg rfl (bV.refl _) rfl rfl (Cd _) rfl rfl rfl (zo h10) (yz ?_)
 exact yk (yN (_,_) n ⟨by omega,g⟩);refine yk<|ak.cC (t:=38) rfl rfl (fp rfl aV) (yz ?_)
 refine yc g (o.a.ajY _ _) λy12 g=>?_;refine yc g (o.a.rD _) λy13 g=>?_;refine bc g λ_ g=>?_;refine yc g (o.a.W7 _ _ _) λy15 g=>?_;cases g;exact zl
/-(plexus.eval.frame).observer-/
theorem w91 {n} (o:Of n):XP (oc (Gf n)):=by
 intro a0 a1 r g;rw[oc]at g;refine yw func91 ntmps91 ?_;refine yo [0,1,2,3,4,5,6] [(7,.one)] [] ?_;refine yY g ae.aA λx1 _ _ g=>?_;obtain⟨y3,ey3,g⟩:=a8 g (o.a.pM _ _);refine yl (yC ey3) ?_;refine ay g (λ_ g=>?_) λ_ g=>?_;refine yc g (o.a.aj7 _) λy5 g=>?_;refine yc g (o.a.vE _) λy6 g=>?_;cases g;exact zl;refine ay g (λ_ g=>?_) λ_ g=>?_;refine yc g (o.a.aj8 _) λy8 g=>?_;refine yc g (o.a.vE _) λy9 g=>?_;cases g;exact zl;refine ay g (λ_ g=>?_) λ_ g=>?_;refine yc g (o.a.vE _) λy11 g=>?_;cases g;exact zl;refine ay g (λ_ g=>?_) λ_ g=>?_;refine yc g (o.a.jc _) λy13 g=>?_;cases g;exact zl;refine ay g (λ_ g=>?_) λ_ g=>?_;refine yc g (o.a.rN _) λy15 g=>?_;refine yc g (o.a.Lu _) λy16 g=>?_;cases g;exact zl;refine ay g (λ_ g=>?_) λ_ g=>?_;refine yX g ae.aA λx18 _ _ g=>?_;refine ay g (λ_ g=>?_) λ_ g=>?_;refine yc g (o.a.Xa _) λy21 g=>?_;refine yc g (o.a.Lu _) λy22 g=>?_;cases g;exact zl;refine yc g (o.a.rN _) λy23 g=>?_;refine yc g (o.a.Lu _) λy24 g=>?_;cases g;exact zl;refine ay g (λ_ g=>?_) λ_ g=>?_;refine yc g (o.a.jc _) λy26 g=>?_;cases g;exact zl;refine yc g (o.a.Xa _) λy27 g=>?_;refine yc g (o.a.jc _) λy28 g=>?_;cases g;exact zl
/-plexus.eval.copied-/
theorem w52 {n} (o:Of n):XQ (Bn (Gf n)):=by
 intro a0 r g;rw[Bn]at g;refine yw func52 ntmps52 ?_;refine yo [0,1,2,3,4,5,6] [(7,.one)] [] ?_;obtain⟨y1,ey1,g⟩:=a8 g (o.a.rN _);refine yl (yC ey1) ?_;refine Ok.stuck aV ?_;refine ak.gK 2 2 38 4 3 rfl rfl rfl ?_;refine yL (S:=Int×(List af)) (G:=λm s=>qP (Gf m) a0 y1 s.1 s.2) (s0:=(0,[])) 4 [1,2,3,15,16] [17] (λs=>[(17,.d (.v (.int .i64 s.1)))]) (λs=>[(3,.row 38 4 (af.rows s.2)),(2,.box [.d (.v (.int .i64 a0.N)),.d (.sl 1 (aB y1)),.os 3 (af.rows s.2).length,.d (.v (.slice none 0 0))])]) g ?_;rintro n ⟨s2,s5⟩ _ g;change uo (Gf n) a0 y1 s2 s5=_ at g;rw[uo]at g;refine yz ?_;refine ay g (λ_ g=>?_) λ_ g=>?_;refine yX g af.aA λx8 _ _ g=>?_;refine yo [0,1,2,3,4] (tk [16,18,22]) [] ?_;obtain⟨y10,ey10,g⟩:=a8 g (o.a.Yf _);refine yl (yC ey10) ?_;obtain⟨h11,g⟩:=bE g;refine yk<|ak.dY (rows2:=(af.rows ([y10]))) aE.nil rfl rfl rfl rfl rfl zg rfl zi rfl rfl (af.cm _) rfl rfl (zo h11) (yz ?_)
 exact yk (yN (_,_) n ⟨by omega,g⟩);refine Ok.stuck aV ?_;refine ak.gK 2 3 116 2 4 rfl rfl rfl ?_;refine yL (S:=Int×(List af)×(List ax)) (G:=λm s=>pe (Gf m) a0 y1 s.1 s.2.1 s.2.2) (s0:=(0,s5,[])) 5 [1,2,3,15,16,17,30,31] [32] (λs=>[(32,.d (.v (.int .i64 s.1)))]) (λs=>[(3,.row 38 4 (af.rows s.2.1)),(4,.row 116 2 (ax.rows s.2.2)),(2,.box [.d (.v (.int .i64 a0.N)),.d (.sl 1 (aB y1)),.os 3 (af.rows s.2.1).length,.os 4 (ax.rows s.2.2).length])]) g ?_;rintro n ⟨s12,s15,s16⟩ _ g;change um (Gf n) a0 y1 s12 s15 s16=_ at g;rw[um]at g;refine yz ?_;refine bc g λ_ g=>?_;refine yX g ax.aA λx18 _ _ g=>?_;refine yo [0,1,2,3,4,5,6,7,8] (tk [28,30,34]) [] ?_;obtain⟨y20,ey20,g⟩:=a8 g (o.a.Ye _);refine yl (yC ey20) ?_;obtain⟨h21,g⟩:=bE g;refine yk<|ak.dY (rows2:=(ax.rows ([{aY:=y20,Name:=x18.Name:ax}]))) aE.nil rfl rfl rfl rfl rfl zg rfl zi rfl rfl (ax.cm _) rfl rfl (zo h21) (yz ?_)
 exact yk (yN (_,_,_) n ⟨by omega,g⟩)
/-plexus.eval.Value-/
theorem w23 {n} (o:Of n):XR (rJ (Gf n)):=by
 intro a0 a1 a2 r g;rw[rJ]at g;refine yw func23 ntmps23 ?_;refine aM g λ_ g=>?_;refine yc g (o.a.pM _ _) λy2 g=>?_;refine yc g (o.a.Yf _) λy3 g=>?_;cases g;exact zl
/-plexus.eval.Update-/
theorem w12 {n} (o:Of n):XS (rL (Gf n)):=by
 intro a0 a1 a2 a3 r g;rw[rL]at g;refine yw func12 ntmps12 ?_;refine yc g (o.a.Yd _ _ _ _ _) λy1 g=>?_;refine aM g λ_ g=>?_;refine yc g (o.a.Yg _ _ _) λy3 g=>?_;cases g;exact zl
/-plexus.eval.Datum-/
theorem w22 {n} (o:Of n):XT (rK (Gf n)):=by
 intro a0 a1 a2 r g;rw[rK]at g;refine yw func22 ntmps22 ?_;refine aM g λ_ g=>?_;refine yc g (o.a.pM _ _) λy2 g=>?_;refine yc g (o.a.rN _) λy3 g=>?_;cases g;exact zl
/-plexus.eval.Query-/
theorem w15 {n} (o:Of n):XU (rM (Gf n)):=by
 intro a0 a1 a2 a3 r g;rw[rM]at g;refine yw func15 ntmps15 ?_;refine yc g (o.a.Yd _ _ _ _ _) λy1 g=>?_;refine aM g λ_ g=>?_;refine yc g (o.a.Yh _ _ _) λy3 g=>?_;cases g;exact zl
/-plexus.eval.Reads-/
theorem w29 {n} (o:Of n):XV (BA (Gf n)):=by
 intro a0 r g;rw[BA]at g;refine yw func29 ntmps29 ?_;refine aM g λ_ g=>?_;refine yc g (o.a.aeJ _) λy2 g=>?_;cases g;exact zl
/-slices.ContainsFunc[[]plexus.api.Expr,plexus.api.Expr]-/
theorem aeI {n} (o:Of n):T5 (xS (Gf n)):=by
 intro a0 r g;rw[xS]at g;refine yw func67 ntmps67 ?_;refine yc g (o.a.adY _) λy1 g=>?_;cases g;exact zl
/-slices.IndexFunc[[]plexus.api.Expr,plexus.api.Expr]-/
theorem adW {n} (o:Of n):SL (tV (Gf n)):=by
 intro a0 r g;rw[tV]at g;refine yw func125 ntmps125 ?_;refine yk<|yL (S:=Int) (G:=λm s=>oA (Gf m) a0 s) (s0:=0) 0 [0,1,4,7] [8] (λs=>[(8,.d (.v (.int .i64 s)))]) (λs=>[]) g ?_;rintro n s1 _ g;change sw (Gf n) a0 s1=_ at g;rw[sw]at g;refine yz ?_
 refine bc g λ_ g=>?_;refine yX g ae.aA λx3 _ _ g=>?_;refine yc g (o.a.Fq _) λy5 g=>?_;refine aM g λ_ g=>?_;exact yk (yN _ n ⟨by omega,g⟩)
