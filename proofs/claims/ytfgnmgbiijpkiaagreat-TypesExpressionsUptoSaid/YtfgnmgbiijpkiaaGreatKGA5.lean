/- Printed by a program: what functions answer, and that they do. -/
import Derived.Test.YtfgnmgbiijpkiaaGreatKGA3
set_option linter.all false
set_option maxRecDepth 100000
noncomputable section
namespace Go.Proofs.YtfgnmgbiijpkiaaGreat
open Go Go.Bw Go.Proofs.Tryz
/-plexus.plexusref15.fault-/
theorem S7 {n} (o:Ou n):KF (te (Gu n)):=by
 intro a0 a1 r g;rw[te]at g;refine yw func180 ntmps180 ?_;cases g;exact zl
/-plexus.plexusref15.blank-/
theorem S8 {n} (o:Ou n):KG (tf (Gu n)):=by
 intro a0 r g;rw[tf]at g;refine yw func226 ntmps226 ?_
 iterate 2 (refine bp g λ_ g=>?_)
 exact eH g
/-plexus.plexusref15.skip-/
theorem S9 {n} (o:Ou n):KH (qM (Gu n)):=by
 intro a0 a1 r g;rw[qM]at g;refine yw func181 ntmps181 ?_;refine yk<|yL (S:=Int) (G:=λm s=>jm (Gu m) a0 a1 s) (s0:=a1) 0 [0,4] [1] (λs=>[(1,.d (.v (.int .i64 s)))]) (λs=>[]) g ?_;rintro n s1 _ g;change pN (Gu n) a0 a1 s1=_ at g;rw[pN]at g;refine yz ?_
 refine bU g λ_ g=>?_;obtain⟨x3,ex3,j4h,g⟩:=bo g;refine yv (aR.toP (aR.dQ ((s1:Int).toNat) rfl rfl rfl rfl j4h ex3)) ?_;refine yc g (o.a.TA _) λy5 g=>?_;refine aq g (λ_ g=>?_) λ_ g=>?_;obtain⟨x7,ex7,j8h,g⟩:=bo g;refine yv (aR.toP (aR.dQ ((s1:Int).toNat) rfl rfl rfl rfl j8h ex7)) ?_;refine aq g (λ_ g=>?_) λ_ g=>?_;exact yk (yN _ n ⟨by omega,g⟩);refine yk<|yL (S:=Int) (G:=λm s=>rV (Gu m) a0 a1 s1 x3 y5 x7 s) (s0:=s1) 0 [0,4] [1] (λs=>[(1,.d (.v (.int .i64 s)))]) (λs=>[]) g ?_;rintro n s10 _ g;change pO (Gu n) a0 a1 s1 x3 y5 x7 s10=_ at g;rw[pO]at g;refine yz ?_
 refine aq g (λ_ g=>?_) λ_ g=>?_;obtain⟨x12,ex12,j13h,g⟩:=bo g;refine yv (aR.toP (aR.dQ ((s10:Int).toNat) rfl rfl rfl rfl j13h ex12)) ?_;refine aq g (λ_ g=>?_) λ_ g=>?_;exact yk (yN _ n ⟨by omega,g⟩)
 iterate 2 (exact yk (yN s10 n ⟨by omega,g⟩))
 obtain⟨x15,ex15,j16h,g⟩:=bo g;refine yv (aR.toP (aR.dQ ((s1:Int).toNat) rfl rfl rfl rfl j16h ex15)) ?_;refine bU g λ_ g=>?_;obtain⟨x18,ex18,j19h,g⟩:=bo g;refine yv (aR.toP (aR.dQ ((s1:Int).toNat) rfl rfl rfl rfl j19h ex18)) ?_;refine aq g (λ_ g=>?_) λ_ g=>?_;exact yk (yN _ n ⟨by omega,g⟩);refine yk<|yL (S:=Int) (G:=λm s=>rW (Gu m) a0 a1 s1 x3 y5 x15 x18 s) (s0:=s1) 0 [0,4] [1] (λs=>[(1,.d (.v (.int .i64 s)))]) (λs=>[]) g ?_;rintro n s21 _ g;change nC (Gu n) a0 a1 s1 x3 y5 x15 x18 s21=_ at g;rw[nC]at g;refine yz ?_
 refine aq g (λ_ g=>?_) λ_ g=>?_;obtain⟨x23,ex23,j24h,g⟩:=bo g;refine yv (aR.toP (aR.dQ ((s21:Int).toNat) rfl rfl rfl rfl j24h ex23)) ?_;refine aq g (λ_ g=>?_) λ_ g=>?_;exact yk (yN _ n ⟨by omega,g⟩)
 iterate 2 (exact yk (yN s21 n ⟨by omega,g⟩))
/-plexus.plexusref15.letter-/
theorem S' {n} (o:Ou n):KI (th (Gu n)):=by
 intro a0 r g;rw[th]at g;refine yw func227 ntmps227 ?_;exact eH g
/-plexus.plexusref15.digit-/
theorem Ta {n} (o:Ou n):KJ (tj (Gu n)):=by
 intro a0 r g;rw[tj]at g;refine yw func230 ntmps230 ?_;exact eH g
/-plexus.plexusref15.part-/
theorem Tb {n} (o:Ou n):KK (tm (Gu n)):=by
 intro a0 r g;rw[tm]at g;refine yw func243 ntmps243 ?_;refine yc g (o.a.KL _) λy1 g=>?_;refine bp g λ_ g=>?_;refine yc g (o.a.Cc _) λy3 g=>?_;exact eH g
/-plexus.plexusref15.word-/
theorem Tc {n} (o:Ou n):KM (qN (Gu n)):=by
 intro a0 a1 r g;rw[qN]at g;refine yw func228 ntmps228 ?_;refine yk<|yL (S:=Int) (G:=λm s=>nD (Gu m) a0 s) (s0:=a1) 0 [0,4] [1] (λs=>[(1,.d (.v (.int .i64 s)))]) (λs=>[]) g ?_;rintro n s1 _ g;change pP (Gu n) a0 s1=_ at g;rw[pP]at g;refine yz ?_
 refine bU g λ_ g=>?_;obtain⟨x3,ex3,j4h,g⟩:=bo g;refine yv (aR.toP (aR.dQ ((s1:Int).toNat) rfl rfl rfl rfl j4h ex3)) ?_;refine yc g (o.a.TB _) λy5 g=>?_;refine bU g λ_ g=>?_;exact yk (yN _ n ⟨by omega,g⟩)
/-plexus.plexusref15.keywords-/
theorem Td {n} (o:Ou n):KN (tn (Gu n)):=by
 intro r g;rw[tn]at g;refine yw func245 ntmps245 ?_;cases g;exact zl
/-plexus.plexusref15.in-/
theorem Te {n} (o:Ou n):KO (qO (Gu n)):=by
 intro a0 a1 r g;rw[qO]at g;refine yw func244 ntmps244 ?_;refine yk<|yL (S:=Int) (G:=λm s=>nE (Gu m) a0 a1 s) (s0:=0) 0 [0,1,4] [5] (λs=>[(5,.d (.v (.int .i64 s)))]) (λs=>[]) g ?_;rintro n s1 _ g;change pQ (Gu n) a0 a1 s1=_ at g;rw[pQ]at g;refine yz ?_
 refine bU g λ_ g=>?_;refine yX g eM λx3 _ _ g=>?_;refine bp g λ_ g=>?_;exact yk (yN _ n ⟨by omega,g⟩)
/-plexus.plexusref15.Keyword-/
theorem Tf {n} (o:Ou n):KP (tp (Gu n)):=by
 intro a0 r g;rw[tp]at g;refine yw func229 ntmps229 ?_;refine yc g o.a.TC λy1 g=>?_;refine yc g (o.a.TE _ _) λy2 g=>?_;cases g;exact zl
/-plexus.plexusref15.integer-/
theorem Tg {n} (o:Ou n):KQ (qP (Gu n)):=by
 intro a0 a1 r g;rw[qP]at g;refine yw func231 ntmps231 ?_;refine yk<|yL (S:=Int×Int) (G:=λm s=>mn (Gu m) a0 a1 s.1 s.2) (s0:=(a1,0)) 2 [0,1,4,5,6] [7,8] (λs=>[(7,.d (.v (.int .i64 s.1))),(8,.d (.v (.int .i64 s.2)))]) (λs=>[]) g ?_;rintro n ⟨s1,s2⟩ _ g;change pR (Gu n) a0 a1 s1 s2=_ at g;rw[pR]at g;refine yz ?_
 refine aq g (λ_ g=>?_) λ_ g=>?_;obtain⟨x4,ex4,j5h,g⟩:=bo g;refine yv (aR.toP (aR.dQ ((s1:Int).toNat) rfl rfl rfl rfl j5h ex4)) ?_;refine yc g (o.a.Cc _) λy6 g=>?_
 iterate 2 (refine aq g (λ_ g=>?_) λ_ g=>?_)
 obtain⟨x9,ex9,j10h,g⟩:=bo g;refine yv (aR.toP (aR.dQ ((s1:Int).toNat) rfl rfl rfl rfl j10h ex9)) ?_
 iterate 2 (exact yk (yN (_,_) n ⟨by omega,g⟩))
 obtain⟨x11,ex11,j12h,g⟩:=bo g;refine yv (aR.toP (aR.dQ ((a1:Int).toNat) rfl rfl rfl rfl j12h ex11)) ?_
 iterate 2 (refine aq g (λ_ g=>?_) λ_ g=>?_)
 refine yc g (o.a.iA _ _) λy15 g=>?_;cases g;exact zl;refine bU g λ_ g=>?_;refine yc g (o.a.iA _ _) λy17 g=>?_;cases g;exact zl;refine bU g λ_ g=>?_;refine yc g (o.a.iA _ _) λy19 g=>?_;cases g;exact zl;obtain⟨x20,ex20,j21h,g⟩:=bo g;refine yv (aR.toP (aR.dQ ((a1:Int).toNat) rfl rfl rfl rfl j21h ex20)) ?_
 iterate 2 (refine aq g (λ_ g=>?_) λ_ g=>?_)
 refine yc g (o.a.iA _ _) λy24 g=>?_;cases g;exact zl;refine bU g λ_ g=>?_;refine yc g (o.a.iA _ _) λy26 g=>?_;cases g;exact zl;refine bU g λ_ g=>?_;refine yc g (o.a.iA _ _) λy28 g=>?_;cases g;exact zl
/-plexus.plexusref02.letter-/
theorem Th {n} (o:Ou n):KR (tq (Gu n)):=by
 intro a0 r g;rw[tq]at g;refine yw func103 ntmps103 ?_;refine aq g (λ_ g=>?_) λ_ g=>?_;refine bp g λ_ g=>?_;refine bU g λ_ g=>?_;exact eH g;refine bU g λ_ g=>?_;exact eH g
/-plexus.plexusref02.Valid-/
theorem VL {n} (o:Ou n):L8 (ue (Gu n)):=by
 intro a0 r g;rw[ue]at g;refine yw func58 ntmps58 ?_
 iterate 2 (refine bp g λ_ g=>?_)
 obtain⟨x3,ex3,j4h,g⟩:=bo g;refine yv (aR.toP (aR.dQ ((0:Int).toNat) rfl rfl rfl rfl j4h ex3)) ?_;refine bp g λ_ g=>?_;obtain⟨x6,ex6,j7h,g⟩:=bo g;refine yv (aR.toP (aR.dQ ((0:Int).toNat) rfl rfl rfl rfl j7h ex6)) ?_;refine bp g λ_ g=>?_;refine yk<|yL (S:=Int) (G:=λm s=>sv (Gu m) a0 s) (s0:=0) 0 [0,2] [3] (λs=>[(3,.d (.v (.int .i64 s)))]) (λs=>[]) g ?_;rintro n s9 _ g;change qd (Gu n) a0 s9=_ at g;rw[qd]at g;refine yz ?_
 refine bU g λ_ g=>?_;obtain⟨x11,ex11,j12h,g⟩:=bo g;refine yv (aR.toP (aR.dQ ((s9:Int).toNat) rfl rfl rfl rfl j12h ex11)) ?_;refine yc g (o.a.TF _) λy13 g=>?_;refine bp g λ_ g=>?_;exact yk (yN _ n ⟨by omega,g⟩)
/-plexus.plexusref15.signs-/
theorem Ti {n} (o:Ou n):KS (tr (Gu n)):=by
 intro r g;rw[tr]at g;refine yw func232 ntmps232 ?_;cases g;exact zl
/-plexus.plexusref15.token-/
theorem Tj {n} (o:Ou n):KT (tu (Gu n)):=by
 intro a0 a1 r g;rw[tu]at g;refine yw func182 ntmps182 ?_;obtain⟨x1,ex1,j2h,g⟩:=bo g;refine yv (aR.toP (aR.dQ ((a1:Int).toNat) rfl rfl rfl rfl j2h ex1)) ?_;refine yc g (o.a.KL _) λy3 g=>?_;refine aq g (λ_ g=>?_) λ_ g=>?_;refine yc g (o.a.KU _ _) λy5 g=>?_;refine aq g (λ_ g=>?_) λ_ g=>?_;refine yc g (o.a.iA _ _) λy7 g=>?_;cases g;exact zl;obtain⟨x8,ex8,g⟩:=eQ g;obtain⟨j9a,j9b,j9h,j9i,j9k,j9m,ex8⟩:=mX ex8;refine yv (aR.toP (aR.conv (aR.pK j9a j9b rfl rfl rfl (ib j9h rfl) (ib j9i rfl) j9k j9m) (by rw[ex8])) (x:= .d (.v (.string ⟨⟨x8⟩⟩)))) ?_;refine yc g (o.a.TG _) λy10 g=>?_;refine aq g (λ_ g=>?_) λ_ g=>?_;obtain⟨x12,ex12,g⟩:=eQ g;obtain⟨j13a,j13b,j13h,j13i,j13k,j13m,ex12⟩:=mX ex12;refine yv (aR.toP (aR.conv (aR.pK j13a j13b rfl rfl rfl (ib j13h rfl) (ib j13i rfl) j13k j13m) (by rw[ex12])) (x:= .d (.v (.string ⟨⟨x12⟩⟩)))) ?_;cases g;exact zl;obtain⟨x14,ex14,g⟩:=eQ g;obtain⟨j15a,j15b,j15h,j15i,j15k,j15m,ex14⟩:=mX ex14;refine yv (aR.toP (aR.conv (aR.pK j15a j15b rfl rfl rfl (ib j15h rfl) (ib j15i rfl) j15k j15m) (by rw[ex14])) (x:= .d (.v (.string ⟨⟨x14⟩⟩)))) ?_;cases g;exact zl;refine yc g (o.a.Cc _) λy16 g=>?_;refine aq g (λ_ g=>?_) λ_ g=>?_;refine yc g (o.a.TH _ _) λy18 g=>?_;cases g;exact zl;refine aq g (λ_ g=>?_) λ_ g=>?_;refine yc g (o.a.KU _ _) λy20 g=>?_;refine aq g (λ_ g=>?_) λ_ g=>?_;refine yc g (o.a.iA _ _) λy22 g=>?_;cases g;exact zl;obtain⟨x23,ex23,j24h,g⟩:=bo g;refine yv (aR.toP (aR.dQ ((y20:Int).toNat) rfl rfl rfl rfl j24h ex23)) ?_;refine aq g (λ_ g=>?_) λ_ g=>?_;refine yc g (o.a.iA _ _) λy26 g=>?_;cases g;exact zl;obtain⟨x27,ex27,g⟩:=eQ g;obtain⟨j28a,j28b,j28h,j28i,j28k,j28m,ex27⟩:=mX ex27;refine yv (aR.toP (aR.conv (aR.pK j28a j28b rfl rfl rfl (ib j28h rfl) (ib j28i rfl) j28k j28m) (by rw[ex27])) (x:= .d (.v (.string ⟨⟨x27⟩⟩)))) ?_;refine yc g (o.a.VW _) λy29 g=>?_;refine aq g (λ_ g=>?_) λ_ g=>?_;refine yc g (o.a.iA _ _) λy31 g=>?_;cases g;exact zl;obtain⟨x32,ex32,g⟩:=eQ g;obtain⟨j33a,j33b,j33h,j33i,j33k,j33m,ex32⟩:=mX ex32;refine yv (aR.toP (aR.conv (aR.pK j33a j33b rfl rfl rfl (ib j33h rfl) (ib j33i rfl) j33k j33m) (by rw[ex32])) (x:= .d (.v (.string ⟨⟨x32⟩⟩)))) ?_;cases g;exact zl;refine yc g o.a.TJ λy34 g=>?_;refine yk<|yL (S:=Int) (G:=λm s=>mo (Gu m) a0 a1 y34 s) (s0:=0) 2 [0,1,4,5,6,11] [12] (λs=>[(12,.d (.v (.int .i64 s)))]) (λs=>[]) g ?_;rintro n s35 _ g;change pS (Gu n) a0 a1 y34 s35=_ at g;rw[pS]at g;refine yz ?_
 refine aq g (λ_ g=>?_) λ_ g=>?_;refine yX g eM λx37 _ _ g=>?_;refine yo [0,1,2,3,4,5,6,7,8,9,10,11,12,13,14,15,16,17,18] [] [] ?_;refine aq g (λ_ g=>?_) λ_ g=>?_;obtain⟨x40,ex40,g⟩:=eQ g;obtain⟨j41a,j41b,j41h,j41i,j41k,j41m,ex40⟩:=mX ex40;refine yl (aR.toP (aR.conv (aR.pK j41a j41b rfl rfl rfl (ib j41h rfl) (ib j41i rfl) j41k j41m) (by rw[ex40])) (x:= .d (.v (.string ⟨⟨x40⟩⟩)))) ?_;refine yY g eM λx42 _ _ g=>?_;refine aq g (λ_ g=>?_) λ_ g=>?_;refine yX g eM λx45 _ _ g=>?_;cases g;exact zl
 iterate 2 (exact yk (yN _ n ⟨by omega,g⟩))
 refine yc g (o.a.iA _ _) λy47 g=>?_;cases g;exact zl
/-plexus.plexusref15.Next-/
theorem Tk {n} (o:Ou n):KV (tv (Gu n)):=by
 intro a0 a1 r g;rw[tv]at g;refine yw func121 ntmps121 ?_;refine aq g (λ_ g=>?_) λ_ g=>?_;refine yc g (o.a.iA _ _) λy2 g=>?_;cases g;exact zl;refine aq g (λ_ g=>?_) λ_ g=>?_;refine yc g (o.a.iA _ _) λy4 g=>?_;cases g;exact zl;refine aq g (λ_ g=>?_) λ_ g=>?_;refine yc g (o.a.iA _ _) λy6 g=>?_;cases g;exact zl;refine yc g (o.a.TL _ _) λy7 g=>?_;refine bp g λ_ g=>?_;refine yc g (o.a.TM _ _) λy9 g=>?_;cases g;exact zl
/-plexus.plexusref15.Lex-/
theorem VM {n} (o:Ou n):L9 (rf (Gu n)):=by
 intro a0 r g;rw[rf]at g;refine yw func73 ntmps73 ?_;refine Ok.stuck aT ?_;refine af.kM 2 131 4 1 rfl rfl ?_;refine af.kM 4 131 4 2 rfl rfl ?_;refine yL (S:=(List bl)×(List bl)×Int) (G:=λm s=>sw (Gu m) a0 s.1 s.2.1 s.2.2) (s0:=([],[],0)) 3 [0,3] [2,4,5] (λs=>[(2,.os 1 (bl.rows s.1).length),(4,.os 2 (bl.rows s.2.1).length),(5,.d (.v (.int .i64 s.2.2)))]) (λs=>[(1,.row 131 4 (bl.rows s.1)),(2,.row 131 4 (bl.rows s.2.1))]) g ?_;rintro n ⟨s1,s2,s3⟩ _ g;change sx (Gu n) a0 s1 s2 s3=_ at g;rw[sx]at g;refine yz ?_;refine yc g (o.a.TN _ _) λy4 g=>?_;refine aq g (λ_ g=>?_) λ_ g=>?_;refine yo [0,1] [(2,.one)] [] ?_;cases g;exact yj;refine yk<|af.dP 5 (rows':=bl.rows ([y4.fst])) rfl zi (yz ?_)
 obtain⟨h6,g⟩:=bG g;refine yk<|DO.dL rfl rfl zg rfl rfl zg rfl rfl (bl.bS _) rfl rfl rfl (zo h6) (yz ?_)
 refine bp g λ_ g=>?_;exact yk (yN (_,_,_) n ⟨by omega,g⟩)
/-(*plexus.plexusref16.P).token-/
theorem VN {n} (o:Ou n):L' (rh (Gu n)):=by
 intro a0 r g;rw[rh]at g;refine yw func76 ntmps76 ?_;refine yo [0,1,2,3,4,5,6,7,8,9] [(10,.one)] [] ?_;refine yY g bl.aM λx1 _ _ g=>?_;cases g;exact zl
/-(*plexus.plexusref16.P).is-/
theorem Tl {n} (o:Ou n):KW (tw (Gu n)):=by
 intro a0 a1 r g;rw[tw]at g;refine yw func122 ntmps122 ?_;refine yc g (o.a.cG _) λy1 g=>?_;refine bU g λ_ g=>?_;refine bp g λ_ g=>?_;exact eH g
/-(*plexus.plexusref16.P).fail-/
theorem VO {n} (o:Ou n):Ma (uf (Gu n)):=by
 intro a0 a1 r g;rw[uf]at g;refine dv.walk (E:=env) func78 rfl zk (rs:=_) rfl ntmps78 rfl (yz ?_);refine aq g (λ_ g=>?_) λ_ g=>?_;refine yc g (o.a.cG _) λy2 g=>?_;refine Ok.fin aT ?_;obtain rfl:=gV g;exact RD.rR rfl rfl rfl aT rfl zi zi;refine Ok.fin aT ?_;obtain rfl:=gV g;exact RD.rR rfl rfl rfl aT rfl zi zi
/-(*plexus.plexusref16.P).text-/
theorem Tm {n} (o:Ou n):KX (tx (Gu n)):=by
 intro a0 a1 r g;rw[tx]at g;refine dv.walk (E:=env) func126 rfl zk (rs:=_) rfl ntmps126 rfl (yz ?_);refine yc g (o.a.cG _) λy1 g=>?_;refine aq g (λ_ g=>?_) λ_ g=>?_;obtain⟨y3,ey3,g⟩:=au g (o.a.jJ _ _);refine yk<|af.aL 0 ey3 rfl rfl (by first|rfl|(simp only[aG];rfl)) rfl (aJ.box rfl zi) rfl (yz ?_)
 cases g;exact yJ;refine bU g λ_ g=>?_;obtain⟨y5,ey5,g⟩:=au g (o.a.jJ _ _);refine yk<|af.aL 0 ey5 rfl rfl (by first|rfl|(simp only[aG];rfl)) rfl (aJ.box rfl zi) rfl (yz ?_)
 cases g;exact yJ
/-(*plexus.plexusref16.P).integer-/
theorem Tn {n} (o:Ou n):KY (tz (Gu n)):=by
 intro a0 r g;rw[tz]at g;refine dv.walk (E:=env) func128 rfl zk (rs:=_) rfl ntmps128 rfl (yz ?_);refine yc g (o.a.cG _) λy1 g=>?_;refine yc g (o.a.bZ _ _) λy2 g=>?_;refine aq g (λ_ g=>?_) λ_ g=>?_;refine yc g (o.a.cG _) λy4 g=>?_;obtain⟨y5,ey5,g⟩:=au g (o.a.dg _ _);refine yk<|af.aL 0 ey5 rfl rfl (by first|rfl|(simp only[aG];rfl)) rfl (aJ.box rfl zi) rfl (yz ?_)
 cases g;exact yJ;refine yc g (o.a.cG _) λy6 g=>?_;obtain⟨y7,ey7,g⟩:=au g (o.a.dg _ _);refine yk<|af.aL 0 ey7 rfl rfl (by first|rfl|(simp only[aG];rfl)) rfl (aJ.box rfl zi) rfl (yz ?_)
 cases g;exact yJ
/-(*plexus.plexusref16.P).enter-/
theorem To {n} (o:Ou n):KZ (tA (Gu n)):=by
 intro a0 r g;rw[tA]at g;refine dv.walk (E:=env) func124 rfl zk (rs:=_) rfl ntmps124 rfl (yz ?_);refine aq g (λ_ g=>?_) λ_ g=>?_;obtain⟨y2,ey2,g⟩:=au g (o.a.jJ _ _);refine yk<|af.aL 0 ey2 rfl rfl (by first|rfl|(simp only[aG];rfl)) rfl (aJ.box rfl zi) rfl (yz ?_)
 refine Ok.fin aT ?_;obtain rfl:=gV g;exact RD.rR rfl rfl rfl aT rfl zi zi;refine Ok.fin aT ?_;obtain rfl:=gV g;exact RD.rR rfl rfl rfl aT rfl zi zi
/-(*plexus.plexusref16.P).take-/
theorem Tp {n} (o:Ou n):K0 (tB (Gu n)):=by
 intro a0 a1 r g;rw[tB]at g;refine dv.walk (E:=env) func125 rfl zk (rs:=_) rfl ntmps125 rfl (yz ?_);refine yc g (o.a.bZ _ _) λy1 g=>?_;refine bp g λ_ g=>?_;obtain⟨y3,ey3,g⟩:=au g (o.a.jJ _ _);refine yk<|af.aL 0 ey3 rfl rfl (by first|rfl|(simp only[aG];rfl)) rfl (aJ.box rfl zi) rfl (yz ?_)
 refine Ok.fin aT ?_;obtain rfl:=gV g;exact RD.rR rfl rfl rfl aT rfl zi zi
/-plexus.plexusref16.Functions-/
theorem Tq {n} (o:Ou n):K2 (tC (Gu n)):=by
 intro r g;rw[tC]at g;refine yw func249 ntmps249 ?_;cases g;exact zl
/-(*plexus.plexusref16.P).function-/
theorem Ts {n} (o:Ou n):K3 (tD (Gu n)):=by
 intro a0 r g;rw[tD]at g;refine yw func246 ntmps246 ?_;refine yc g o.a.TO λy1 g=>?_;refine yk<|yL (S:=Int) (G:=λm s=>nF (Gu m) a0 y1 s) (s0:=0) 0 [0,2,3] [4] (λs=>[(4,.d (.v (.int .i64 s)))]) (λs=>[]) g ?_;rintro n s2 _ g;change pT (Gu n) a0 y1 s2=_ at g;rw[pT]at g;refine yz ?_
 refine bU g λ_ g=>?_;refine yX g eM λx4 _ _ g=>?_;refine yc g (o.a.bZ _ _) λy6 g=>?_;refine bp g λ_ g=>?_;exact yk (yN _ n ⟨by omega,g⟩)
/-(*plexus.plexusref16.P).operator-/
theorem Tt {n} (o:Ou n):K4 (tE (Gu n)):=by
 intro a0 a1 r g;rw[tE]at g;refine yw func184 ntmps184 ?_;refine aq g (λh1 g=>?_) λ_ g=>?_;refine yc g (o.a.bZ _ _) λy2 g=>?_;refine bp g λ_ g=>?_
 iterate 9 (refine yF h1 ?_)
 cases g;exact zl;refine aq g (λh4 g=>?_) λ_ g=>?_;refine yc g (o.a.bZ _ _) λy5 g=>?_;refine bp g λ_ g=>?_
 iterate 8 (refine yF h4 ?_)
 cases g;exact zl;refine aq g (λh7 g=>?_) λh7 g=>?_;refine yc g (o.a.bZ _ _) λy8 g=>?_;refine bp g λ_ g=>?_;refine Ok.fY h7 ?_;conv=>(arg 3;whnf)
 refine yc g (o.a.bZ _ _) λy10 g=>?_;refine bp g λ_ g=>?_;refine Ok.fY h7 ?_;conv=>(arg 3;whnf)
 refine yc g (o.a.bZ _ _) λy12 g=>?_;refine bp g λ_ g=>?_;refine Ok.fY h7 ?_;conv=>(arg 3;whnf)
 refine yc g (o.a.bZ _ _) λy14 g=>?_;refine bp g λ_ g=>?_;refine Ok.fY h7 ?_;conv=>(arg 3;whnf)
 refine yc g (o.a.bZ _ _) λy16 g=>?_;refine bp g λ_ g=>?_
 iterate 3 (refine yF h7 ?_)
 cases g;exact zl
 iterate 4 (refine Ok.fO h7 ?_;conv=>(arg 3;whnf))
 refine aq g (λh18 g=>?_) λ_ g=>?_;refine yc g (o.a.bZ _ _) λy19 g=>?_;refine bp g λ_ g=>?_
 iterate 2 (refine yF h18 ?_)
 cases g;exact zl;refine aq g (λh21 g=>?_) λh21 g=>?_;refine yc g (o.a.bZ _ _) λy22 g=>?_;refine bp g λ_ g=>?_;refine Ok.fY h21 ?_;conv=>(arg 3;whnf)
 refine yc g (o.a.bZ _ _) λy24 g=>?_;exact eH g;refine Ok.fO h21 ?_;conv=>(arg 3;whnf)
 cases g;exact zl
/-(*plexus.plexusref16.P).expression-/
theorem VP {n} (o:Ou n):Mb (ug (Gu n)):=by
 intro a0 r g;rw[ug]at g;refine dv.walk (E:=env) func74 rfl zk (rs:=_) rfl ntmps74 rfl (yz ?_);refine yc g (o.a.bZ _ _) λy1 g=>?_;refine aq g (λ_ g=>?_) λ_ g=>?_;obtain⟨y3,ey3,g⟩:=au g (o.a.qQ _ _);refine yk<|af.aL 0 ey3 rfl rfl (by first|rfl|(simp only[aG];rfl)) rfl (aJ.box rfl zi) rfl (yz ?_)
 cases g;exact yJ;refine yc g (o.a.cG _) λy4 g=>?_;obtain⟨y5,ey5,g⟩:=au g (o.a.mJ _);refine yk<|af.aL 0 ey5 rfl rfl (by first|rfl|(simp only[aG];rfl)) rfl (aJ.box rfl zi) rfl (yz ?_)
 refine bp g λ_ g=>?_;obtain⟨y7,ey7,g⟩:=au g (o.a.gu _);refine yk<|af.aL 0 ey7 rfl rfl (by first|rfl|(simp only[aG];rfl)) rfl (aJ.box rfl zi) rfl (yz ?_)
 obtain⟨y8,ey8,g⟩:=au g (o.a.bC _ _);refine yk<|af.aL 0 ey8 rfl rfl (by first|rfl|(simp only[aG];rfl)) rfl (aJ.box rfl zi) rfl (yz ?_)
 obtain⟨y9,ey9,g⟩:=au g (o.a.gu _);refine yk<|af.aL 0 ey9 rfl rfl (by first|rfl|(simp only[aG];rfl)) rfl (aJ.box rfl zi) rfl (yz ?_)
 obtain⟨y10,ey10,g⟩:=au g (o.a.bC _ _);refine yk<|af.aL 0 ey10 rfl rfl (by first|rfl|(simp only[aG];rfl)) rfl (aJ.box rfl zi) rfl (yz ?_)
 obtain⟨y11,ey11,g⟩:=au g (o.a.gu _);refine yk<|af.aL 0 ey11 rfl rfl (by first|rfl|(simp only[aG];rfl)) rfl (aJ.box rfl zi) rfl (yz ?_)
 cases g;exact yJ
/-(*plexus.plexusref16.P).binary-/
theorem Tu {n} (o:Ou n):K5 (qR (Gu n)):=by
 intro a0 a1 r g;rw[qR]at g;refine dv.walk (E:=env) func123 rfl zk (rs:=_) rfl ntmps123 rfl (yz ?_);refine aq g (λ_ g=>?_) λ_ g=>?_;obtain⟨y2,ey2,g⟩:=au g (o.a.TQ _);refine yk<|af.aL 0 ey2 rfl rfl (by first|rfl|(simp only[aG];rfl)) rfl (aJ.box rfl zi) rfl (yz ?_)
 cases g;exact yJ;refine aq g (λh3 g=>?_) λh3 g=>?_;refine yc g (o.a.bZ _ _) λy4 g=>?_;refine aq g (λ_ g=>?_) λ_ g=>?_;refine yc g (o.a.cG _) λy6 g=>?_;obtain⟨y7,ey7,g⟩:=au g (o.a.mJ _);refine yk<|af.aL 0 ey7 rfl rfl (by first|rfl|(simp only[aG];rfl)) rfl (aJ.box rfl zi) rfl (yz ?_)
 refine bp g λ_ g=>?_;obtain⟨y9,ey9,g⟩:=au g (o.a.qQ _ _);refine yk<|af.aL 0 ey9 rfl rfl (by first|rfl|(simp only[aG];rfl)) rfl (aJ.box rfl zi) rfl (yz ?_)
 cases g;exact yJ;obtain⟨y10,ey10,g⟩:=au g (o.a.qQ _ _);refine yk<|af.aL 0 ey10 rfl rfl (by first|rfl|(simp only[aG];rfl)) rfl (aJ.box rfl zi) rfl (yz ?_)
 refine yk<|yL (S:=Unit) (G:=λm s=>zV (Gu m) a1 y10) (s0:=()) 3 [0,1,4,6] [] (λs=>[]) (λs=>[]) g ?_;rintro n s _ g;change rX (Gu n) a1 y10=_ at g;rw[rX]at g;refine yz ?_
 refine yc g (o.a.K6 _ _) λy11 g=>?_;refine bp g λ_ g=>?_;refine yc g (o.a.cG _) λy13 g=>?_;refine yo [] (tk [0,3,6,9,13,15,18,22]) [] ?_
 iterate 3 (refine yt zp ?_)
 obtain⟨y14,ey14,g⟩:=au g (o.a.qQ _ _);refine yk<|af.gy 0 zp rfl rfl rfl rfl rfl ey14 rfl rfl (by first|rfl|(simp only[aG];rfl)) rfl (aJ.box rfl zi) (yz ?_)
 iterate 3 (refine yt zp ?_)
 refine Ok.fY h3 ?_;conv=>(arg 3;whnf)
 cases g;exact yJ;obtain⟨y15,ey15,g⟩:=au g (o.a.qQ _ _);refine yk<|af.aL 0 ey15 rfl rfl (by first|rfl|(simp only[aG];rfl)) rfl (aJ.box rfl zi) rfl (yz ?_)
 refine yk<|yL (S:=ay×ae) (G:=λm s=>rY (Gu m) a1 s.1 s.2) (s0:=(y15.snd,y15.fst)) 3 [0,1,4,6] [] (λs=>[]) (λs=>[(0,.box ((ay.cs s.1).map .d)),(2,.box ((ae.cs s.2).map .d))]) g ?_;rintro n ⟨s16,s17⟩ _ g;change rZ (Gu n) a1 s16 s17=_ at g;rw[rZ]at g;refine yz ?_
 refine yc g (o.a.K6 _ _) λy18 g=>?_;refine bp g λ_ g=>?_;refine yc g (o.a.cG _) λy20 g=>?_;refine yo [] (tk [0,3,6,9,13,15,18,22]) [] ?_
 iterate 3 (refine yt zp ?_)
 obtain⟨y21,ey21,g⟩:=au g (o.a.qQ _ _);refine yk<|af.gy 0 zp rfl rfl rfl rfl rfl ey21 rfl rfl (by first|rfl|(simp only[aG];rfl)) rfl (aJ.box rfl zi) (yz ?_)
 iterate 3 (refine yt zp ?_)
 refine Ok.fO h3 ?_;conv=>(arg 3;whnf)
 exact yk (yN (_,_) n ⟨by omega,g⟩)
/-(*plexus.plexusref16.P).postfix-/
theorem Tv {n} (o:Ou n):K7 (tF (Gu n)):=by
 intro a0 r g;rw[tF]at g;refine dv.walk (E:=env) func183 rfl zk (rs:=_) rfl ntmps183 rfl (yz ?_);obtain⟨y1,ey1,g⟩:=au g (o.a.TR _);refine yk<|af.aL 0 ey1 rfl rfl (by first|rfl|(simp only[aG];rfl)) rfl (aJ.box rfl zi) rfl (yz ?_)
 refine yk<|yL (S:=ay×ae) (G:=λm s=>pU (Gu m) s.1 s.2) (s0:=(y1.snd,y1.fst)) 3 [0,2,3] [] (λs=>[]) (λs=>[(0,.box ((ay.cs s.1).map .d)),(2,.box ((ae.cs s.2).map .d))]) g ?_;rintro n ⟨s2,s3⟩ _ g;change r8 (Gu n) s2 s3=_ at g;rw[r8]at g;refine yz ?_
 refine yc g (o.a.cG _) λy4 g=>?_;refine yc g (o.a.bZ _ _) λy5 g=>?_;refine aq g (λ_ g=>?_) λ_ g=>?_;obtain⟨y7,ey7,g⟩:=au g (o.a.dg _ _);refine yk<|af.aL 0 ey7 rfl rfl (by first|rfl|(simp only[aG];rfl)) rfl (aJ.box rfl zi) rfl (yz ?_)
 exact yk (yN (_,_) n ⟨by omega,g⟩);refine yc g (o.a.bZ _ _) λy8 g=>?_;refine bU g λ_ g=>?_;obtain⟨y10,ey10,g⟩:=au g (o.a.mJ _);refine yk<|af.aL 0 ey10 rfl rfl (by first|rfl|(simp only[aG];rfl)) rfl (aJ.box rfl zi) rfl (yz ?_)
 refine bp g λ_ g=>?_;refine yo [] (tk [0,3,7,9,12,16]) [] ?_;refine yt zp ?_;obtain⟨y12,ey12,g⟩:=au g (o.a.gu _);refine yk<|af.gy 0 zp rfl rfl rfl rfl rfl ey12 rfl rfl (by first|rfl|(simp only[aG];rfl)) rfl (aJ.box rfl zi) (yz ?_)
 iterate 3 (refine yt zp ?_)
 obtain⟨y13,ey13,g⟩:=au g (o.a.bC _ _);refine yk<|af.aL 0 ey13 rfl rfl (by first|rfl|(simp only[aG];rfl)) rfl (aJ.box rfl zi) rfl (yz ?_)
 exact yk (yN (_,_) n ⟨by omega,g⟩)
/-(*plexus.plexusref16.P).primary-/
theorem Tw {n} (o:Ou n):K8 (tG (Gu n)):=by
 intro a0 r g;rw[tG]at g;refine dv.walk (E:=env) func233 rfl zk (rs:=_) rfl ntmps233 rfl (yz ?_);refine yc g (o.a.cG _) λy1 g=>?_;refine yc g (o.a.bZ _ _) λy2 g=>?_;refine aq g (λ_ g=>?_) λ_ g=>?_;obtain⟨y4,ey4,g⟩:=au g (o.a.lb _);refine yk<|af.aL 0 ey4 rfl rfl (by first|rfl|(simp only[aG];rfl)) rfl (aJ.box rfl zi) rfl (yz ?_)
 cases g;exact yJ;refine aq g (λ_ g=>?_) λ_ g=>?_;obtain⟨y6,ey6,g⟩:=au g (o.a.lb _);refine yk<|af.aL 0 ey6 rfl rfl (by first|rfl|(simp only[aG];rfl)) rfl (aJ.box rfl zi) rfl (yz ?_)
 cases g;exact yJ;refine aq g (λ_ g=>?_) λ_ g=>?_;obtain⟨y8,ey8,g⟩:=au g (o.a.dg _ _);refine yk<|af.aL 0 ey8 rfl rfl (by first|rfl|(simp only[aG];rfl)) rfl (aJ.box rfl zi) rfl (yz ?_)
 cases g;exact yJ;refine aq g (λ_ g=>?_) λ_ g=>?_;obtain⟨y10,ey10,g⟩:=au g (o.a.dg _ _);refine yk<|af.aL 0 ey10 rfl rfl (by first|rfl|(simp only[aG];rfl)) rfl (aJ.box rfl zi) rfl (yz ?_)
 cases g;exact yJ;refine yc g (o.a.bZ _ _) λy11 g=>?_;refine bp g λ_ g=>?_;refine yc g (o.a.bZ _ _) λy13 g=>?_;refine bp g λ_ g=>?_;refine yc g (o.a.bZ _ _) λy15 g=>?_;refine bp g λ_ g=>?_;refine yc g (o.a.bZ _ _) λy17 g=>?_;refine bp g λ_ g=>?_;refine yc g (o.a.bZ _ _) λy19 g=>?_;refine aq g (λ_ g=>?_) λ_ g=>?_;obtain⟨y21,ey21,g⟩:=au g (o.a.mJ _);refine yk<|af.aL 0 ey21 rfl rfl (by first|rfl|(simp only[aG];rfl)) rfl (aJ.box rfl zi) rfl (yz ?_)
 refine bp g λ_ g=>?_;obtain⟨y23,ey23,g⟩:=au g (o.a.gu _);refine yk<|af.aL 0 ey23 rfl rfl (by first|rfl|(simp only[aG];rfl)) rfl (aJ.box rfl zi) rfl (yz ?_)
 obtain⟨y24,ey24,g⟩:=au g (o.a.bC _ _);refine yk<|af.aL 0 ey24 rfl rfl (by first|rfl|(simp only[aG];rfl)) rfl (aJ.box rfl zi) rfl (yz ?_)
 cases g;exact yJ;refine yc g (o.a.TU _) λy25 g=>?_;refine aq g (λ_ g=>?_) λ_ g=>?_;refine yc g (o.a.bZ _ _) λy27 g=>?_;refine aq g (λ_ g=>?_) λ_ g=>?_;obtain⟨y29,ey29,g⟩:=au g (o.a.jJ _ _);refine yk<|af.aL 0 ey29 rfl rfl (by first|rfl|(simp only[aG];rfl)) rfl (aJ.box rfl zi) rfl (yz ?_)
 cases g;exact yJ;obtain⟨y30,ey30,g⟩:=au g (o.a.mJ _);refine yk<|af.aL 0 ey30 rfl rfl (by first|rfl|(simp only[aG];rfl)) rfl (aJ.box rfl zi) rfl (yz ?_)
 refine bp g λ_ g=>?_;refine yc g (o.a.bZ _ _) λy32 g=>?_;refine aq g (λ_ g=>?_) λ_ g=>?_;refine yo [] (tk [0,3,6,9,12,16,18,22,24,28]) [] ?_
 iterate 3 (refine yt zp ?_)
 obtain⟨y34,ey34,g⟩:=au g (o.a.K9 _ _);refine yk<|af.gy 0 zp rfl rfl rfl rfl rfl ey34 rfl rfl (by first|rfl|(simp only[aG];rfl)) rfl (aJ.box rfl zi) (yz ?_)
 refine yt zp ?_;obtain⟨h35,g⟩:=bG g;refine yk<|af.jW 4 zp rfl rfl rfl rfl rfl rfl rfl rfl rfl rfl rfl rfl rfl (zo h35) (yz ?_)
 refine yk<|yL (S:=ay×(List ae)) (G:=λm s=>r9 (Gu m) y1 s.1 s.2) (s0:=(y34.snd,[y34.fst])) 5 [0,2,3,4] [] (λs=>[]) (λs=>[(0,.box ((ay.cs s.1).map .d)),(4,.row 25 5 (ae.rows s.2)),(3,.box [.d (.v (.int .i64 51)),.d (.v (.string ⟨⟨(y1.Text)⟩⟩)),.d (.v (.int .i64 0)),.d (.v (.int .i64 y1.At)),.os 4 (ae.rows s.2).length])]) g ?_;rintro n ⟨s36,s41⟩ _ g;change sa (Gu n) y1 s36 s41=_ at g;rw[sa]at g;refine yz ?_
 refine yc g (o.a.bZ _ _) λy42 g=>?_;refine aq g (λ_ g=>?_) λ_ g=>?_;refine yo [] (tk [0,3,6,9,12,16,18,22,24,28]) [] ?_
 iterate 3 (refine yt zp ?_)
 obtain⟨y44,ey44,g⟩:=au g (o.a.K9 _ _);refine yk<|af.gy 0 zp rfl rfl rfl rfl rfl ey44 rfl rfl (by first|rfl|(simp only[aG];rfl)) rfl (aJ.box rfl zi) (yz ?_)
 refine yt zp ?_;obtain⟨h45,g⟩:=bG g;refine yk<|af.di (rows2:=(ae.rows ([y44.fst]))) zp rfl rfl rfl rfl rfl zg rfl zi rfl rfl (ae.bS _) rfl rfl (zo h45) (yz ?_)
 exact yk (yN (_,_) n ⟨by omega,g⟩);obtain⟨y46,ey46,g⟩:=au g (o.a.bC _ _);refine yk<|af.aL 0 ey46 rfl rfl (by first|rfl|(simp only[aG];rfl)) rfl (aJ.box rfl zi) rfl (yz ?_)
 cases g;exact yJ;obtain⟨y47,ey47,g⟩:=au g (o.a.bC _ _);refine yk<|af.aL 0 ey47 rfl rfl (by first|rfl|(simp only[aG];rfl)) rfl (aJ.box rfl zi) rfl (yz ?_)
 cases g;exact yJ;obtain⟨y48,ey48,g⟩:=au g (o.a.jJ _ _);refine yk<|af.aL 0 ey48 rfl rfl (by first|rfl|(simp only[aG];rfl)) rfl (aJ.box rfl zi) rfl (yz ?_)
 cases g;exact yJ
/-(*plexus.plexusref16.P).argument-/
theorem Tx {n} (o:Ou n):La (tH (Gu n)):=by
 intro a0 a1 r g;rw[tH]at g;refine dv.walk (E:=env) func247 rfl zk (rs:=_) rfl ntmps247 rfl (yz ?_);refine yc g (o.a.cG _) λy1 g=>?_;refine aq g (λ_ g=>?_) λ_ g=>?_;obtain⟨y3,ey3,g⟩:=au g (o.a.dg _ _);refine yk<|af.aL 0 ey3 rfl rfl (by first|rfl|(simp only[aG];rfl)) rfl (aJ.box rfl zi) rfl (yz ?_)
 obtain⟨y4,ey4,g⟩:=au g (o.a.bC _ _);refine yk<|af.aL 0 ey4 rfl rfl (by first|rfl|(simp only[aG];rfl)) rfl (aJ.box rfl zi) rfl (yz ?_)
 obtain⟨y5,ey5,g⟩:=au g (o.a.gu _);refine yk<|af.aL 0 ey5 rfl rfl (by first|rfl|(simp only[aG];rfl)) rfl (aJ.box rfl zi) rfl (yz ?_)
 cases g;exact yJ;obtain⟨y6,ey6,g⟩:=au g (o.a.gu _);refine yk<|af.aL 0 ey6 rfl rfl (by first|rfl|(simp only[aG];rfl)) rfl (aJ.box rfl zi) rfl (yz ?_)
 refine bp g λ_ g=>?_;obtain⟨y8,ey8,g⟩:=au g (o.a.bC _ _);refine yk<|af.aL 0 ey8 rfl rfl (by first|rfl|(simp only[aG];rfl)) rfl (aJ.box rfl zi) rfl (yz ?_)
 refine yo [] (tk [0,3,7,9,12,16]) [] ?_;refine yt zp ?_;obtain⟨y9,ey9,g⟩:=au g (o.a.gu _);refine yk<|af.gy 0 zp rfl rfl rfl rfl rfl ey9 rfl rfl (by first|rfl|(simp only[aG];rfl)) rfl (aJ.box rfl zi) (yz ?_)
 iterate 3 (refine yt zp ?_)
 cases g;exact yJ
/-(*plexus.plexusref16.P).allowed-/
theorem Ty {n} (o:Ou n):Lb (Cd (Gu n)):=by
 intro a0 r g;rw[Cd]at g;refine nO.walk (E:=env) func127 rfl zk (rs:=_) rfl ntmps127 rfl (yz ?_);refine yc g (o.a.bZ _ _) λy1 g=>?_;refine aq g (λ_ g=>?_) λ_ g=>?_;refine yk<|af.inl (rs:=_) rfl func129 rfl zk rfl ntmps129 rfl rfl (yz ?_)
 refine Ok.stuck aT ?_;refine af.kM 4 25 5 2 rfl rfl ?_;refine yL (S:=(List ae)×(List ae)×ay) (G:=λm s=>zW (Gu m) s.1 s.2.1 s.2.2) (s0:=([],[],{T:=a0.T,I:=IntKind.i64.wrap (a0.I+1),Open:=a0.Open,aI:=a0.aI,aP:=a0.aP:ay})) 3 [0] [1,4] (λs=>[(1,.os 1 (ae.rows s.1).length),(4,.os 2 (ae.rows s.2.1).length)]) (λs=>[(1,.row 25 5 (ae.rows s.1)),(2,.row 25 5 (ae.rows s.2.1)),(0,.box ((ay.cs s.2.2).map .d))]) g ?_;rintro n ⟨s3,s4,s5⟩ _ g;change zX (Gu n) s3 s4 s5=_ at g;rw[zX]at g;refine yz ?_;refine yc g (o.a.cG _) λy6 g=>?_;obtain⟨y7,ey7,g⟩:=au g (o.a.dg _ _);refine yk<|af.aL 0 ey7 rfl rfl (by first|rfl|(simp only[aG];rfl)) rfl (aJ.box rfl zi) rfl (yz ?_)
 refine yk<|af.dP 4 (rows':=ae.rows ([{Kind:=47,Text:=y7.fst,N:=0,At:=y6.At,Kids:=[]:ae}])) rfl zi (yz ?_)
 obtain⟨h8,g⟩:=bG g;refine yk<|DO.dL rfl rfl zg rfl rfl zg rfl rfl (ae.bS _) rfl rfl rfl (zo h8) (yz ?_)
 refine yc g (o.a.bZ _ _) λy9 g=>?_;refine aq g (λ_ g=>?_) λ_ g=>?_;obtain⟨y11,ey11,g⟩:=au g (o.a.bC _ _);refine yk<|af.aL 0 ey11 rfl rfl (by first|rfl|(simp only[aG];rfl)) rfl (aJ.box rfl zi) rfl (yz ?_)
 refine Ok.fin aT ?_;obtain rfl:=gV g;exact RD.Ij rfl rfl rfl rfl rfl rfl aT rfl rfl zi zi;exact yk (yN (_,_,_) n ⟨by omega,g⟩);refine Ok.fin aT ?_;obtain rfl:=gV g;exact RD.Ij rfl rfl rfl rfl rfl rfl aT rfl rfl zi zi
/-(*plexus.plexusref16.P).lattice-/
set_option maxHeartbeats 0 in
theorem VQ {n} (o:Ou n):Mc (DD (Gu n)):=by
 intro a0 r g;rw[DD]at g;refine dv.walk (E:=env) func75 rfl zk (rs:=_) rfl ntmps75 rfl (yz ?_);refine yc g (o.a.cG _) λy1 g=>?_;refine aq g (λ_ g=>?_) λ_ g=>?_;obtain⟨y3,ey3,g⟩:=au g (o.a.dg _ _);refine yk<|af.aL 0 ey3 rfl rfl (by first|rfl|(simp only[aG];rfl)) rfl (aJ.box rfl zi) rfl (yz ?_)
 cases g;exact yJ;refine yc g (o.a.bZ _ _) λy4 g=>?_;refine bp g λ_ g=>?_;refine yc g (o.a.bZ _ _) λy6 g=>?_;refine bp g λ_ g=>?_;refine yc g (o.a.bZ _ _) λy8 g=>?_;refine aq g (λ_ g=>?_) λ_ g=>?_;obtain⟨y10,ey10,g⟩:=au g (o.a.Ce _);refine yk<|af.Af 0 ey10 rfl rfl (by first|rfl|(simp only[aG];rfl)) rfl (aJ.box rfl zi) rfl (yz ?_)
 cases g;exact yJ;refine yc g (o.a.bZ _ _) λy11 g=>?_;refine aq g (λ_ g=>?_) λ_ g=>?_;obtain⟨y13,ey13,g⟩:=au g (o.a.Ce _);refine yk<|af.Af 0 ey13 rfl rfl (by first|rfl|(simp only[aG];rfl)) rfl (aJ.box rfl zi) rfl (yz ?_)
 cases g;exact yJ;refine yc g (o.a.bZ _ _) λy14 g=>?_;refine aq g (λ_ g=>?_) λ_ g=>?_;refine yc g (o.a.bZ _ _) λy16 g=>?_;refine aq g (λ_ g=>?_) λ_ g=>?_;obtain⟨y18,ey18,g⟩:=au g (o.a.bC _ _);refine yk<|af.aL 0 ey18 rfl rfl (by first|rfl|(simp only[aG];rfl)) rfl (aJ.box rfl zi) rfl (yz ?_)
 obtain⟨y19,ey19,g⟩:=au g (o.a.lb _);refine yk<|af.aL 0 ey19 rfl rfl (by first|rfl|(simp only[aG];rfl)) rfl (aJ.box rfl zi) rfl (yz ?_)
 obtain⟨y20,ey20,g⟩:=au g (o.a.bC _ _);refine yk<|af.aL 0 ey20 rfl rfl (by first|rfl|(simp only[aG];rfl)) rfl (aJ.box rfl zi) rfl (yz ?_)
 obtain⟨y21,ey21,g⟩:=au g (o.a.lb _);refine yk<|af.aL 0 ey21 rfl rfl (by first|rfl|(simp only[aG];rfl)) rfl (aJ.box rfl zi) rfl (yz ?_)
 obtain⟨y22,ey22,g⟩:=au g (o.a.bC _ _);refine yk<|af.aL 0 ey22 rfl rfl (by first|rfl|(simp only[aG];rfl)) rfl (aJ.box rfl zi) rfl (yz ?_)
 cases g;exact yJ;obtain⟨y23,ey23,g⟩:=au g (o.a.bC _ _);refine yk<|af.aL 0 ey23 rfl rfl (by first|rfl|(simp only[aG];rfl)) rfl (aJ.box rfl zi) rfl (yz ?_)
 obtain⟨y24,ey24,g⟩:=au g (o.a.lb _);refine yk<|af.aL 0 ey24 rfl rfl (by first|rfl|(simp only[aG];rfl)) rfl (aJ.box rfl zi) rfl (yz ?_)
 obtain⟨y25,ey25,g⟩:=au g (o.a.bC _ _);refine yk<|af.aL 0 ey25 rfl rfl (by first|rfl|(simp only[aG];rfl)) rfl (aJ.box rfl zi) rfl (yz ?_)
 obtain⟨y26,ey26,g⟩:=au g (o.a.lb _);refine yk<|af.aL 0 ey26 rfl rfl (by first|rfl|(simp only[aG];rfl)) rfl (aJ.box rfl zi) rfl (yz ?_)
 obtain⟨y27,ey27,g⟩:=au g (o.a.bC _ _);refine yk<|af.aL 0 ey27 rfl rfl (by first|rfl|(simp only[aG];rfl)) rfl (aJ.box rfl zi) rfl (yz ?_)
 cases g;exact yJ;refine yc g (o.a.bZ _ _) λy28 g=>?_;refine aq g (λ_ g=>?_) λ_ g=>?_;refine yc g (o.a.bZ _ _) λy30 g=>?_;refine aq g (λ_ g=>?_) λ_ g=>?_;obtain⟨y32,ey32,g⟩:=au g (o.a.bC _ _);refine yk<|af.aL 0 ey32 rfl rfl (by first|rfl|(simp only[aG];rfl)) rfl (aJ.box rfl zi) rfl (yz ?_)
 obtain⟨y33,ey33,g⟩:=au g (o.a.lb _);refine yk<|af.aL 0 ey33 rfl rfl (by first|rfl|(simp only[aG];rfl)) rfl (aJ.box rfl zi) rfl (yz ?_)
 obtain⟨y34,ey34,g⟩:=au g (o.a.bC _ _);refine yk<|af.aL 0 ey34 rfl rfl (by first|rfl|(simp only[aG];rfl)) rfl (aJ.box rfl zi) rfl (yz ?_)
 obtain⟨y35,ey35,g⟩:=au g (o.a.lb _);refine yk<|af.aL 0 ey35 rfl rfl (by first|rfl|(simp only[aG];rfl)) rfl (aJ.box rfl zi) rfl (yz ?_)
 obtain⟨y36,ey36,g⟩:=au g (o.a.bC _ _);refine yk<|af.aL 0 ey36 rfl rfl (by first|rfl|(simp only[aG];rfl)) rfl (aJ.box rfl zi) rfl (yz ?_)
 cases g;exact yJ;obtain⟨y37,ey37,g⟩:=au g (o.a.bC _ _);refine yk<|af.aL 0 ey37 rfl rfl (by first|rfl|(simp only[aG];rfl)) rfl (aJ.box rfl zi) rfl (yz ?_)
 obtain⟨y38,ey38,g⟩:=au g (o.a.lb _);refine yk<|af.aL 0 ey38 rfl rfl (by first|rfl|(simp only[aG];rfl)) rfl (aJ.box rfl zi) rfl (yz ?_)
 obtain⟨y39,ey39,g⟩:=au g (o.a.bC _ _);refine yk<|af.aL 0 ey39 rfl rfl (by first|rfl|(simp only[aG];rfl)) rfl (aJ.box rfl zi) rfl (yz ?_)
 obtain⟨y40,ey40,g⟩:=au g (o.a.lb _);refine yk<|af.aL 0 ey40 rfl rfl (by first|rfl|(simp only[aG];rfl)) rfl (aJ.box rfl zi) rfl (yz ?_)
 obtain⟨y41,ey41,g⟩:=au g (o.a.bC _ _);refine yk<|af.aL 0 ey41 rfl rfl (by first|rfl|(simp only[aG];rfl)) rfl (aJ.box rfl zi) rfl (yz ?_)
 cases g;exact yJ;refine yc g (o.a.bZ _ _) λy42 g=>?_;refine aq g (λ_ g=>?_) λ_ g=>?_;obtain⟨y44,ey44,g⟩:=au g (o.a.mJ _);refine yk<|af.aL 0 ey44 rfl rfl (by first|rfl|(simp only[aG];rfl)) rfl (aJ.box rfl zi) rfl (yz ?_)
 obtain⟨y45,ey45,g⟩:=au g (o.a.Ce _);refine yk<|af.Af 0 ey45 rfl rfl (by first|rfl|(simp only[aG];rfl)) rfl (aJ.box rfl zi) rfl (yz ?_)
 refine yo [] (tk [0,3,6,10,12,16,18,22]) [] ?_;refine yt zp ?_;obtain⟨y46,ey46,g⟩:=au g (o.a.lV _);refine yk<|af.gy 0 zp rfl rfl rfl rfl rfl ey46 rfl rfl (by first|rfl|(simp only[aG];rfl)) rfl (aJ.box rfl zi) (yz ?_)
 refine yt zp ?_;obtain⟨h47,g⟩:=bG g;refine yk<|af.di (rows2:=(ae.rows ([y46.fst]))) zp rfl rfl rfl rfl rfl zg rfl zi rfl rfl (ae.bS _) rfl rfl (zo h47) (yz ?_)
 cases g;exact yJ;refine yc g (o.a.bZ _ _) λy48 g=>?_;refine aq g (λ_ g=>?_) λ_ g=>?_;obtain⟨y50,ey50,g⟩:=au g (o.a.mJ _);refine yk<|af.aL 0 ey50 rfl rfl (by first|rfl|(simp only[aG];rfl)) rfl (aJ.box rfl zi) rfl (yz ?_)
 obtain⟨y51,ey51,g⟩:=au g (o.a.bC _ _);refine yk<|af.aL 0 ey51 rfl rfl (by first|rfl|(simp only[aG];rfl)) rfl (aJ.box rfl zi) rfl (yz ?_)
 obtain⟨y52,ey52,g⟩:=au g (o.a.lV _);refine yk<|af.aL 0 ey52 rfl rfl (by first|rfl|(simp only[aG];rfl)) rfl (aJ.box rfl zi) rfl (yz ?_)
 obtain⟨y53,ey53,g⟩:=au g (o.a.bC _ _);refine yk<|af.aL 0 ey53 rfl rfl (by first|rfl|(simp only[aG];rfl)) rfl (aJ.box rfl zi) rfl (yz ?_)
 obtain⟨y54,ey54,g⟩:=au g (o.a.lV _);refine yk<|af.aL 0 ey54 rfl rfl (by first|rfl|(simp only[aG];rfl)) rfl (aJ.box rfl zi) rfl (yz ?_)
 obtain⟨y55,ey55,g⟩:=au g (o.a.bC _ _);refine yk<|af.aL 0 ey55 rfl rfl (by first|rfl|(simp only[aG];rfl)) rfl (aJ.box rfl zi) rfl (yz ?_)
 cases g;exact yJ;refine yc g (o.a.bZ _ _) λy56 g=>?_;refine aq g (λ_ g=>?_) λ_ g=>?_;obtain⟨y58,ey58,g⟩:=au g (o.a.mJ _);refine yk<|af.aL 0 ey58 rfl rfl (by first|rfl|(simp only[aG];rfl)) rfl (aJ.box rfl zi) rfl (yz ?_)
 refine Ok.stuck aT ?_;refine af.fW 3 4 25 5 4 rfl rfl rfl ?_;refine yL (S:=ay×(List ae)) (G:=λm s=>Au (Gu m) y1 s.1 s.2) (s0:=({T:=y58.snd.T,I:=IntKind.i64.wrap (y58.snd.I+1),Open:=y58.snd.Open,aI:=y58.snd.aI,aP:=y58.snd.aP:ay},[])) 5 [0,2,4] [] (λs=>[]) (λs=>[(0,.box ((ay.cs s.1).map .d)),(4,.row 25 5 (ae.rows s.2)),(3,.box [.d (.v (.int .i64 15)),.d (.v (.string ⟨⟨([])⟩⟩)),.d (.v (.int .i64 0)),.d (.v (.int .i64 y1.At)),.os 4 (ae.rows s.2).length])]) g ?_;rintro n ⟨s59,s64⟩ _ g;change Av (Gu n) y1 s59 s64=_ at g;rw[Av]at g;refine yz ?_;refine yc g (o.a.cG _) λy65 g=>?_;obtain⟨y66,ey66,g⟩:=au g (o.a.dg _ _);refine yk<|af.aL 0 ey66 rfl rfl (by first|rfl|(simp only[aG];rfl)) rfl (aJ.box rfl zi) rfl (yz ?_)
 obtain⟨y67,ey67,g⟩:=au g (o.a.bC _ _);refine yk<|af.aL 0 ey67 rfl rfl (by first|rfl|(simp only[aG];rfl)) rfl (aJ.box rfl zi) rfl (yz ?_)
 obtain⟨y68,ey68,g⟩:=au g (o.a.lV _);refine yk<|af.aL 0 ey68 rfl rfl (by first|rfl|(simp only[aG];rfl)) rfl (aJ.box rfl zi) rfl (yz ?_)
 refine yk<|af.dP 7 (rows':=ae.rows ([{Kind:=22,Text:=y66.fst,N:=0,At:=y65.At,Kids:=[y68.fst]:ae}])) rfl zi (yz ?_)
 obtain⟨h69,g⟩:=bG g;refine yk<|DO.dL rfl rfl zg rfl rfl zg rfl rfl (ae.bS _) rfl rfl rfl (zo h69) (yz ?_)
 refine yc g (o.a.bZ _ _) λy70 g=>?_;refine aq g (λ_ g=>?_) λ_ g=>?_;obtain⟨y72,ey72,g⟩:=au g (o.a.bC _ _);refine yk<|af.aL 0 ey72 rfl rfl (by first|rfl|(simp only[aG];rfl)) rfl (aJ.box rfl zi) rfl (yz ?_)
 cases g;exact yJ;exact yk (yN (_,_) n ⟨by omega,g⟩);refine yc g (o.a.bZ _ _) λy73 g=>?_;refine aq g (λ_ g=>?_) λ_ g=>?_;obtain⟨y75,ey75,g⟩:=au g (o.a.bC _ _);refine yk<|af.aL 0 ey75 rfl rfl (by first|rfl|(simp only[aG];rfl)) rfl (aJ.box rfl zi) rfl (yz ?_)
 refine yc g (o.a.cG _) λy76 g=>?_;refine aq g (λ_ g=>?_) λ_ g=>?_;refine yk<|af.inl (rs:=_) rfl func129 rfl zk rfl ntmps129 rfl rfl (yz ?_)
 refine Ok.stuck aT ?_;refine af.kM 1 25 5 4 rfl rfl ?_;refine af.kM 4 25 5 5 rfl rfl ?_;refine yL (S:=(List ae)×(List ae)×ay) (G:=λm s=>Aw (Gu m) a0 y1 y4 y6 y8 y11 y14 y28 y42 y48 y56 y73 y75 y76 s.1 s.2.1 s.2.2) (s0:=([],[],y75.snd)) 6 [0] [1,4] (λs=>[(1,.os 4 (ae.rows s.1).length),(4,.os 5 (ae.rows s.2.1).length)]) (λs=>[(4,.row 25 5 (ae.rows s.1)),(5,.row 25 5 (ae.rows s.2.1)),(0,.box ((ay.cs s.2.2).map .d))]) g ?_;rintro n ⟨s78,s79,s80⟩ _ g;change Ax (Gu n) a0 y1 y4 y6 y8 y11 y14 y28 y42 y48 y56 y73 y75 y76 s78 s79 s80=_ at g;rw[Ax]at g;refine yz ?_;refine yc g (o.a.cG _) λy81 g=>?_;obtain⟨y82,ey82,g⟩:=au g (o.a.dg _ _);refine yk<|af.aL 0 ey82 rfl rfl (by first|rfl|(simp only[aG];rfl)) rfl (aJ.box rfl zi) rfl (yz ?_)
 refine yk<|af.dP 7 (rows':=ae.rows ([{Kind:=47,Text:=y82.fst,N:=0,At:=y81.At,Kids:=[]:ae}])) rfl zi (yz ?_)
 obtain⟨h83,g⟩:=bG g;refine yk<|DO.dL rfl rfl zg rfl rfl zg rfl rfl (ae.bS _) rfl rfl rfl (zo h83) (yz ?_)
 refine yc g (o.a.bZ _ _) λy84 g=>?_;refine aq g (λ_ g=>?_) λ_ g=>?_;refine yk<|yL (S:=ay×(List ae)) (G:=λm s=>vE (Gu m) a0 y1 y4 y6 y8 y11 y14 y28 y42 y48 y56 y73 y75 y76 s78 s79 s80 y81 y82 y84 s.1 s.2) (s0:=(y82.snd,s78++[{Kind:=47,Text:=y82.fst,N:=0,At:=y81.At,Kids:=[]:ae}])) 8 [0,2,4] [] (λs=>[]) (λs=>[(0,.box ((ay.cs s.1).map .d)),(4,.row 25 5 (ae.rows s.2)),(3,.box [.d (.v (.int .i64 19)),.d (.v (.string ⟨⟨([])⟩⟩)),.d (.v (.int .i64 0)),.d (.v (.int .i64 y1.At)),.os 4 (ae.rows s.2).length])]) g ?_;rintro n ⟨s86,s91⟩ _ g;change Ay (Gu n) a0 y1 y4 y6 y8 y11 y14 y28 y42 y48 y56 y73 y75 y76 s78 s79 s80 y81 y82 y84 s86 s91=_ at g;rw[Ay]at g;refine yz ?_
 refine yc g (o.a.bZ _ _) λy92 g=>?_;refine aq g (λ_ g=>?_) λ_ g=>?_;refine yc g (o.a.cG _) λy94 g=>?_;refine yc g (o.a.cG _) λy95 g=>?_;refine aq g (λ_ g=>?_) λ_ g=>?_;refine yk<|af.inl (rs:=_) rfl func129 rfl zk rfl ntmps129 rfl rfl (yz ?_)
 refine Ok.stuck aT ?_;refine af.kM 1 25 5 9 rfl rfl ?_;refine af.kM 4 25 5 10 rfl rfl ?_;refine yL (S:=(List ae)×(List ae)×ay) (G:=λm s=>Az (Gu m) a0 y1 y4 y6 y8 y11 y14 y28 y42 y48 y56 y73 y75 y76 s78 s79 s80 y81 y82 y84 s86 s91 y92 y94 y95 s.1 s.2.1 s.2.2) (s0:=([],[],{T:=s86.T,I:=IntKind.i64.wrap (s86.I+1),Open:=s86.Open,aI:=s86.aI,aP:=s86.aP:ay})) 11 [0] [1,4] (λs=>[(1,.os 9 (ae.rows s.1).length),(4,.os 10 (ae.rows s.2.1).length)]) (λs=>[(9,.row 25 5 (ae.rows s.1)),(10,.row 25 5 (ae.rows s.2.1)),(0,.box ((ay.cs s.2.2).map .d))]) g ?_;rintro n ⟨s97,s98,s99⟩ _ g;change AA (Gu n) a0 y1 y4 y6 y8 y11 y14 y28 y42 y48 y56 y73 y75 y76 s78 s79 s80 y81 y82 y84 s86 s91 y92 y94 y95 s97 s98 s99=_ at g;rw[AA]at g;refine yz ?_;refine yc g (o.a.cG _) λy100 g=>?_;obtain⟨y101,ey101,g⟩:=au g (o.a.dg _ _);refine yk<|af.aL 0 ey101 rfl rfl (by first|rfl|(simp only[aG];rfl)) rfl (aJ.box rfl zi) rfl (yz ?_)
 refine yk<|af.dP 12 (rows':=ae.rows ([{Kind:=47,Text:=y101.fst,N:=0,At:=y100.At,Kids:=[]:ae}])) rfl zi (yz ?_)
 obtain⟨h102,g⟩:=bG g;refine yk<|DO.dL rfl rfl zg rfl rfl zg rfl rfl (ae.bS _) rfl rfl rfl (zo h102) (yz ?_)
 refine yc g (o.a.bZ _ _) λy103 g=>?_;refine aq g (λ_ g=>?_) λ_ g=>?_;obtain⟨y105,ey105,g⟩:=au g (o.a.bC _ _);refine yk<|af.aL 0 ey105 rfl rfl (by first|rfl|(simp only[aG];rfl)) rfl (aJ.box rfl zi) rfl (yz ?_)
 refine yc g (o.a.cG _) λy106 g=>?_;obtain⟨y107,ey107,g⟩:=au g (o.a.dg _ _);refine yk<|af.aL 0 ey107 rfl rfl (by first|rfl|(simp only[aG];rfl)) rfl (aJ.box rfl zi) rfl (yz ?_)
 refine yk<|af.dP 14 (rows':=ae.rows ([{Kind:=47,Text:=y107.fst,N:=0,At:=y106.At,Kids:=[]:ae}])) rfl zi (yz ?_)
 obtain⟨h108,g⟩:=bG g;refine yk<|DO.dL rfl rfl zg rfl rfl zg rfl rfl (ae.bS _) rfl rfl rfl (zo h108) (yz ?_)
 refine yk<|af.dP 15 (rows':=ae.rows ([{Kind:=20,Text:=[],N:=0,At:=y94.At,Kids:=s97++[{Kind:=47,Text:=y101.fst,N:=0,At:=y100.At,Kids:=[]:ae}]++[{Kind:=47,Text:=y107.fst,N:=0,At:=y106.At,Kids:=[]:ae}]:ae}])) rfl zi (yz ?_)
 obtain⟨h109,g⟩:=bG g;refine yk<|DO.dL rfl rfl zg rfl rfl zg rfl rfl (ae.bS _) rfl rfl rfl (zo h109) (yz ?_)
 exact yk (yN (_,_) n ⟨by omega,g⟩);exact yk (yN (_,_,_) n ⟨by omega,g⟩);obtain⟨y110,ey110,g⟩:=au g (o.a.bC _ _);refine yk<|af.aL 0 ey110 rfl rfl (by first|rfl|(simp only[aG];rfl)) rfl (aJ.box rfl zi) rfl (yz ?_)
 refine yc g (o.a.cG _) λy111 g=>?_;obtain⟨y112,ey112,g⟩:=au g (o.a.dg _ _);refine yk<|af.aL 0 ey112 rfl rfl (by first|rfl|(simp only[aG];rfl)) rfl (aJ.box rfl zi) rfl (yz ?_)
 refine yk<|af.dP 10 (rows':=ae.rows ([{Kind:=47,Text:=y112.fst,N:=0,At:=y111.At,Kids:=[]:ae}])) rfl zi (yz ?_)
 obtain⟨h113,g⟩:=bG g;refine yk<|DO.dL rfl rfl zg rfl rfl zg rfl rfl (ae.bS _) rfl rfl rfl (zo h113) (yz ?_)
 refine yk<|af.dP 12 (rows':=ae.rows ([{Kind:=20,Text:=[],N:=0,At:=y94.At,Kids:=[]++[{Kind:=47,Text:=y112.fst,N:=0,At:=y111.At,Kids:=[]:ae}]:ae}])) rfl zi (yz ?_)
 obtain⟨h114,g⟩:=bG g;refine yk<|DO.dL rfl rfl zg rfl rfl zg rfl rfl (ae.bS _) rfl rfl rfl (zo h114) (yz ?_)
 exact yk (yN (_,_) n ⟨by omega,g⟩);obtain⟨y115,ey115,g⟩:=au g (o.a.bC _ _);refine yk<|af.aL 0 ey115 rfl rfl (by first|rfl|(simp only[aG];rfl)) rfl (aJ.box rfl zi) rfl (yz ?_)
 cases g;exact yJ;exact yk (yN (_,_,_) n ⟨by omega,g⟩);refine Ok.stuck aT ?_;refine af.fW 3 4 25 5 4 rfl rfl rfl ?_;refine yL (S:=ay×(List ae)) (G:=λm s=>vF (Gu m) a0 y1 y4 y6 y8 y11 y14 y28 y42 y48 y56 y73 y75 y76 s.1 s.2) (s0:=(y75.snd,[])) 5 [0,2,4] [] (λs=>[]) (λs=>[(0,.box ((ay.cs s.1).map .d)),(4,.row 25 5 (ae.rows s.2)),(3,.box [.d (.v (.int .i64 19)),.d (.v (.string ⟨⟨([])⟩⟩)),.d (.v (.int .i64 0)),.d (.v (.int .i64 y1.At)),.os 4 (ae.rows s.2).length])]) g ?_;rintro n ⟨s116,s121⟩ _ g;change AB (Gu n) a0 y1 y4 y6 y8 y11 y14 y28 y42 y48 y56 y73 y75 y76 s116 s121=_ at g;rw[AB]at g;refine yz ?_;refine yc g (o.a.bZ _ _) λy122 g=>?_;refine aq g (λ_ g=>?_) λ_ g=>?_;refine yc g (o.a.cG _) λy124 g=>?_;refine yc g (o.a.cG _) λy125 g=>?_;refine aq g (λ_ g=>?_) λ_ g=>?_;refine yk<|af.inl (rs:=_) rfl func129 rfl zk rfl ntmps129 rfl rfl (yz ?_)
 refine Ok.stuck aT ?_;refine af.kM 1 25 5 6 rfl rfl ?_;refine af.kM 4 25 5 7 rfl rfl ?_;refine yL (S:=(List ae)×(List ae)×ay) (G:=λm s=>AD (Gu m) a0 y1 y4 y6 y8 y11 y14 y28 y42 y48 y56 y73 y75 y76 s116 s121 y122 y124 y125 s.1 s.2.1 s.2.2) (s0:=([],[],{T:=s116.T,I:=IntKind.i64.wrap (s116.I+1),Open:=s116.Open,aI:=s116.aI,aP:=s116.aP:ay})) 8 [0] [1,4] (λs=>[(1,.os 6 (ae.rows s.1).length),(4,.os 7 (ae.rows s.2.1).length)]) (λs=>[(6,.row 25 5 (ae.rows s.1)),(7,.row 25 5 (ae.rows s.2.1)),(0,.box ((ay.cs s.2.2).map .d))]) g ?_;rintro n ⟨s127,s128,s129⟩ _ g;change AF (Gu n) a0 y1 y4 y6 y8 y11 y14 y28 y42 y48 y56 y73 y75 y76 s116 s121 y122 y124 y125 s127 s128 s129=_ at g;rw[AF]at g;refine yz ?_;refine yc g (o.a.cG _) λy130 g=>?_;obtain⟨y131,ey131,g⟩:=au g (o.a.dg _ _);refine yk<|af.aL 0 ey131 rfl rfl (by first|rfl|(simp only[aG];rfl)) rfl (aJ.box rfl zi) rfl (yz ?_)
 refine yk<|af.dP 9 (rows':=ae.rows ([{Kind:=47,Text:=y131.fst,N:=0,At:=y130.At,Kids:=[]:ae}])) rfl zi (yz ?_)
 obtain⟨h132,g⟩:=bG g;refine yk<|DO.dL rfl rfl zg rfl rfl zg rfl rfl (ae.bS _) rfl rfl rfl (zo h132) (yz ?_)
 refine yc g (o.a.bZ _ _) λy133 g=>?_;refine aq g (λ_ g=>?_) λ_ g=>?_;obtain⟨y135,ey135,g⟩:=au g (o.a.bC _ _);refine yk<|af.aL 0 ey135 rfl rfl (by first|rfl|(simp only[aG];rfl)) rfl (aJ.box rfl zi) rfl (yz ?_)
 refine yc g (o.a.cG _) λy136 g=>?_;obtain⟨y137,ey137,g⟩:=au g (o.a.dg _ _);refine yk<|af.aL 0 ey137 rfl rfl (by first|rfl|(simp only[aG];rfl)) rfl (aJ.box rfl zi) rfl (yz ?_)
 refine yk<|af.dP 11 (rows':=ae.rows ([{Kind:=47,Text:=y137.fst,N:=0,At:=y136.At,Kids:=[]:ae}])) rfl zi (yz ?_)
 obtain⟨h138,g⟩:=bG g;refine yk<|DO.dL rfl rfl zg rfl rfl zg rfl rfl (ae.bS _) rfl rfl rfl (zo h138) (yz ?_)
 refine yk<|af.dP 12 (rows':=ae.rows ([{Kind:=20,Text:=[],N:=0,At:=y124.At,Kids:=s127++[{Kind:=47,Text:=y131.fst,N:=0,At:=y130.At,Kids:=[]:ae}]++[{Kind:=47,Text:=y137.fst,N:=0,At:=y136.At,Kids:=[]:ae}]:ae}])) rfl zi (yz ?_)
 obtain⟨h139,g⟩:=bG g;refine yk<|DO.dL rfl rfl zg rfl rfl zg rfl rfl (ae.bS _) rfl rfl rfl (zo h139) (yz ?_)
 exact yk (yN (_,_) n ⟨by omega,g⟩);exact yk (yN (_,_,_) n ⟨by omega,g⟩);obtain⟨y140,ey140,g⟩:=au g (o.a.bC _ _);refine yk<|af.aL 0 ey140 rfl rfl (by first|rfl|(simp only[aG];rfl)) rfl (aJ.box rfl zi) rfl (yz ?_)
 refine yc g (o.a.cG _) λy141 g=>?_;obtain⟨y142,ey142,g⟩:=au g (o.a.dg _ _);refine yk<|af.aL 0 ey142 rfl rfl (by first|rfl|(simp only[aG];rfl)) rfl (aJ.box rfl zi) rfl (yz ?_)
 refine yk<|af.dP 7 (rows':=ae.rows ([{Kind:=47,Text:=y142.fst,N:=0,At:=y141.At,Kids:=[]:ae}])) rfl zi (yz ?_)
 obtain⟨h143,g⟩:=bG g;refine yk<|DO.dL rfl rfl zg rfl rfl zg rfl rfl (ae.bS _) rfl rfl rfl (zo h143) (yz ?_)
 refine yk<|af.dP 9 (rows':=ae.rows ([{Kind:=20,Text:=[],N:=0,At:=y124.At,Kids:=[]++[{Kind:=47,Text:=y142.fst,N:=0,At:=y141.At,Kids:=[]:ae}]:ae}])) rfl zi (yz ?_)
 obtain⟨h144,g⟩:=bG g;refine yk<|DO.dL rfl rfl zg rfl rfl zg rfl rfl (ae.bS _) rfl rfl rfl (zo h144) (yz ?_)
 exact yk (yN (_,_) n ⟨by omega,g⟩);obtain⟨y145,ey145,g⟩:=au g (o.a.bC _ _);refine yk<|af.aL 0 ey145 rfl rfl (by first|rfl|(simp only[aG];rfl)) rfl (aJ.box rfl zi) rfl (yz ?_)
 cases g;exact yJ;obtain⟨y146,ey146,g⟩:=au g (o.a.jJ _ _);refine yk<|af.aL 0 ey146 rfl rfl (by first|rfl|(simp only[aG];rfl)) rfl (aJ.box rfl zi) rfl (yz ?_)
 cases g;exact yJ
/-(*plexus.plexusref16.P).sort-/
theorem Tz {n} (o:Ou n):Lc (wk (Gu n)):=by
 intro a0 r g;rw[wk]at g;refine dv.walk (E:=env) func130 rfl zk (rs:=_) rfl ntmps130 rfl (yz ?_);refine yk<|yL (S:=Int) (G:=λm s=>zY (Gu m) a0 s) (s0:=0) 2 [0,2,3] [4] (λs=>[(4,.d (.v (.int .i64 s)))]) (λs=>[]) g ?_;rintro n s1 _ g;change zZ (Gu n) a0 s1=_ at g;rw[zZ]at g;refine yz ?_
 refine aq g (λ_ g=>?_) λ_ g=>?_;obtain⟨x3,ex3,j4h,g⟩:=bo g;refine yv (yr j4h ex3) ?_;refine yv (ym s1.toNat 0 (eM ex3)) ?_;refine yc g (o.a.bZ _ _) λy5 g=>?_;refine bp g λ_ g=>?_;exact yk (yN _ n ⟨by omega,g⟩);obtain⟨y7,ey7,g⟩:=au g (o.a.jJ _ _);refine yk<|af.aL 0 ey7 rfl rfl (by first|rfl|(simp only[aG];rfl)) rfl (aJ.box rfl zi) rfl (yz ?_)
 cases g;exact yJ
/-(*plexus.plexusref16.P).declaration-/
set_option maxHeartbeats 0 in
theorem VR {n} (o:Ou n):Md (DF (Gu n)):=by
 intro a0 r g;rw[DF]at g;refine dv.walk (E:=env) func77 rfl zk (rs:=_) rfl ntmps77 rfl (yz ?_);refine yc g (o.a.cG _) λy1 g=>?_;refine yc g (o.a.bZ _ _) λy2 g=>?_;refine aq g (λ_ g=>?_) λ_ g=>?_;refine yc g (o.a.bZ _ _) λy4 g=>?_;refine aq g (λ_ g=>?_) λ_ g=>?_;obtain⟨y6,ey6,g⟩:=au g (o.a.dg _ _);refine yk<|af.aL 0 ey6 rfl rfl (by first|rfl|(simp only[aG];rfl)) rfl (aJ.box rfl zi) rfl (yz ?_)
 obtain⟨y7,ey7,g⟩:=au g (o.a.bC _ _);refine yk<|af.aL 0 ey7 rfl rfl (by first|rfl|(simp only[aG];rfl)) rfl (aJ.box rfl zi) rfl (yz ?_)
 obtain⟨y8,ey8,g⟩:=au g (o.a.lV _);refine yk<|af.aL 0 ey8 rfl rfl (by first|rfl|(simp only[aG];rfl)) rfl (aJ.box rfl zi) rfl (yz ?_)
 obtain⟨y9,ey9,g⟩:=au g (o.a.bC _ _);refine yk<|af.aL 0 ey9 rfl rfl (by first|rfl|(simp only[aG];rfl)) rfl (aJ.box rfl zi) rfl (yz ?_)
 cases g;exact yJ;obtain⟨y10,ey10,g⟩:=au g (o.a.dg _ _);refine yk<|af.aL 0 ey10 rfl rfl (by first|rfl|(simp only[aG];rfl)) rfl (aJ.box rfl zi) rfl (yz ?_)
 obtain⟨y11,ey11,g⟩:=au g (o.a.bC _ _);refine yk<|af.aL 0 ey11 rfl rfl (by first|rfl|(simp only[aG];rfl)) rfl (aJ.box rfl zi) rfl (yz ?_)
 obtain⟨y12,ey12,g⟩:=au g (o.a.lV _);refine yk<|af.aL 0 ey12 rfl rfl (by first|rfl|(simp only[aG];rfl)) rfl (aJ.box rfl zi) rfl (yz ?_)
 obtain⟨y13,ey13,g⟩:=au g (o.a.bC _ _);refine yk<|af.aL 0 ey13 rfl rfl (by first|rfl|(simp only[aG];rfl)) rfl (aJ.box rfl zi) rfl (yz ?_)
 cases g;exact yJ;refine yc g (o.a.bZ _ _) λy14 g=>?_;refine aq g (λ_ g=>?_) λ_ g=>?_;refine yc g (o.a.bZ _ _) λy16 g=>?_;refine aq g (λ_ g=>?_) λ_ g=>?_;obtain⟨y18,ey18,g⟩:=au g (o.a.dg _ _);refine yk<|af.aL 0 ey18 rfl rfl (by first|rfl|(simp only[aG];rfl)) rfl (aJ.box rfl zi) rfl (yz ?_)
 obtain⟨y19,ey19,g⟩:=au g (o.a.bC _ _);refine yk<|af.aL 0 ey19 rfl rfl (by first|rfl|(simp only[aG];rfl)) rfl (aJ.box rfl zi) rfl (yz ?_)
 obtain⟨y20,ey20,g⟩:=au g (o.a.lV _);refine yk<|af.aL 0 ey20 rfl rfl (by first|rfl|(simp only[aG];rfl)) rfl (aJ.box rfl zi) rfl (yz ?_)
 obtain⟨y21,ey21,g⟩:=au g (o.a.bC _ _);refine yk<|af.aL 0 ey21 rfl rfl (by first|rfl|(simp only[aG];rfl)) rfl (aJ.box rfl zi) rfl (yz ?_)
 cases g;exact yJ;obtain⟨y22,ey22,g⟩:=au g (o.a.dg _ _);refine yk<|af.aL 0 ey22 rfl rfl (by first|rfl|(simp only[aG];rfl)) rfl (aJ.box rfl zi) rfl (yz ?_)
 obtain⟨y23,ey23,g⟩:=au g (o.a.bC _ _);refine yk<|af.aL 0 ey23 rfl rfl (by first|rfl|(simp only[aG];rfl)) rfl (aJ.box rfl zi) rfl (yz ?_)
 obtain⟨y24,ey24,g⟩:=au g (o.a.lV _);refine yk<|af.aL 0 ey24 rfl rfl (by first|rfl|(simp only[aG];rfl)) rfl (aJ.box rfl zi) rfl (yz ?_)
 obtain⟨y25,ey25,g⟩:=au g (o.a.bC _ _);refine yk<|af.aL 0 ey25 rfl rfl (by first|rfl|(simp only[aG];rfl)) rfl (aJ.box rfl zi) rfl (yz ?_)
 cases g;exact yJ;refine yc g (o.a.bZ _ _) λy26 g=>?_;refine aq g (λ_ g=>?_) λ_ g=>?_;refine yc g (o.a.bZ _ _) λy28 g=>?_;refine aq g (λ_ g=>?_) λ_ g=>?_;obtain⟨y30,ey30,g⟩:=au g (o.a.jJ _ _);refine yk<|af.aL 0 ey30 rfl rfl (by first|rfl|(simp only[aG];rfl)) rfl (aJ.box rfl zi) rfl (yz ?_)
 cases g;exact yJ;refine yc g (o.a.bZ _ _) λy31 g=>?_;refine aq g (λ_ g=>?_) λ_ g=>?_;obtain⟨y33,ey33,g⟩:=au g (o.a.dg _ _);refine yk<|af.aL 0 ey33 rfl rfl (by first|rfl|(simp only[aG];rfl)) rfl (aJ.box rfl zi) rfl (yz ?_)
 obtain⟨y34,ey34,g⟩:=au g (o.a.bC _ _);refine yk<|af.aL 0 ey34 rfl rfl (by first|rfl|(simp only[aG];rfl)) rfl (aJ.box rfl zi) rfl (yz ?_)
 refine yc g (o.a.bZ _ _) λy35 g=>?_;refine aq g (λ_ g=>?_) λ_ g=>?_;refine Ok.stuck aT ?_;refine af.fW 2 4 25 5 3 rfl rfl rfl ?_;refine yL (S:=ay×(List ae)) (G:=λm s=>AG (Gu m) y1 y33 s.1 s.2) (s0:=(y34.snd,[])) 4 [0,2,3] [] (λs=>[]) (λs=>[(0,.box ((ay.cs s.1).map .d)),(3,.row 25 5 (ae.rows s.2)),(2,.box [.d (.v (.int .i64 5)),.d (.v (.string ⟨⟨(y33.fst)⟩⟩)),.d (.v (.int .i64 0)),.d (.v (.int .i64 y1.At)),.os 3 (ae.rows s.2).length])]) g ?_;rintro n ⟨s37,s42⟩ _ g;change AH (Gu n) y1 y33 s37 s42=_ at g;rw[AH]at g;refine yz ?_;refine yc g (o.a.cG _) λy43 g=>?_;obtain⟨y44,ey44,g⟩:=au g (o.a.dg _ _);refine yk<|af.aL 0 ey44 rfl rfl (by first|rfl|(simp only[aG];rfl)) rfl (aJ.box rfl zi) rfl (yz ?_)
 obtain⟨y45,ey45,g⟩:=au g (o.a.bC _ _);refine yk<|af.aL 0 ey45 rfl rfl (by first|rfl|(simp only[aG];rfl)) rfl (aJ.box rfl zi) rfl (yz ?_)
 obtain⟨y46,ey46,g⟩:=au g (o.a.mK _);refine yk<|af.aL 0 ey46 rfl rfl (by first|rfl|(simp only[aG];rfl)) rfl (aJ.box rfl zi) rfl (yz ?_)
 refine yk<|af.dP 5 (rows':=ae.rows ([{Kind:=6,Text:=y44.fst,N:=y46.fst,At:=y43.At,Kids:=[]:ae}])) rfl zi (yz ?_)
 obtain⟨h47,g⟩:=bG g;refine yk<|DO.dL rfl rfl zg rfl rfl zg rfl rfl (ae.bS _) rfl rfl rfl (zo h47) (yz ?_)
 refine yc g (o.a.bZ _ _) λy48 g=>?_;refine aq g (λ_ g=>?_) λ_ g=>?_;obtain⟨y50,ey50,g⟩:=au g (o.a.bC _ _);refine yk<|af.aL 0 ey50 rfl rfl (by first|rfl|(simp only[aG];rfl)) rfl (aJ.box rfl zi) rfl (yz ?_)
 obtain⟨y51,ey51,g⟩:=au g (o.a.bC _ _);refine yk<|af.aL 0 ey51 rfl rfl (by first|rfl|(simp only[aG];rfl)) rfl (aJ.box rfl zi) rfl (yz ?_)
 refine yc g (o.a.cG _) λy52 g=>?_;obtain⟨y53,ey53,g⟩:=au g (o.a.dg _ _);refine yk<|af.aL 0 ey53 rfl rfl (by first|rfl|(simp only[aG];rfl)) rfl (aJ.box rfl zi) rfl (yz ?_)
 refine yk<|af.dP 7 (rows':=ae.rows ([{Kind:=48,Text:=y53.fst,N:=0,At:=y52.At,Kids:=[]:ae}])) rfl zi (yz ?_)
 obtain⟨h54,g⟩:=bG g;refine yk<|DO.dL rfl rfl zg rfl rfl zg rfl rfl (ae.bS _) rfl rfl rfl (zo h54) (yz ?_)
 obtain⟨y55,ey55,g⟩:=au g (o.a.bC _ _);refine yk<|af.aL 0 ey55 rfl rfl (by first|rfl|(simp only[aG];rfl)) rfl (aJ.box rfl zi) rfl (yz ?_)
 obtain⟨y56,ey56,g⟩:=au g (o.a.mK _);refine yk<|af.aL 0 ey56 rfl rfl (by first|rfl|(simp only[aG];rfl)) rfl (aJ.box rfl zi) rfl (yz ?_)
 obtain⟨y57,ey57,g⟩:=au g (o.a.bC _ _);refine yk<|af.aL 0 ey57 rfl rfl (by first|rfl|(simp only[aG];rfl)) rfl (aJ.box rfl zi) rfl (yz ?_)
 refine yo [] (tk [0,3,6,10,12,16,18,22]) [] ?_;refine yt zp ?_;obtain⟨y58,ey58,g⟩:=au g (o.a.gu _);refine yk<|af.gy 0 zp rfl rfl rfl rfl rfl ey58 rfl rfl (by first|rfl|(simp only[aG];rfl)) rfl (aJ.box rfl zi) (yz ?_)
 refine yt zp ?_;obtain⟨h59,g⟩:=bG g;refine yk<|af.di (rows2:=(ae.rows ([y58.fst]))) zp rfl rfl rfl rfl rfl zg rfl zi rfl rfl (ae.bS _) rfl rfl (zo h59) (yz ?_)
 obtain⟨y60,ey60,g⟩:=au g (o.a.bC _ _);refine yk<|af.aL 0 ey60 rfl rfl (by first|rfl|(simp only[aG];rfl)) rfl (aJ.box rfl zi) rfl (yz ?_)
 cases g;exact yJ;exact yk (yN (_,_) n ⟨by omega,g⟩);obtain⟨y61,ey61,g⟩:=au g (o.a.bC _ _);refine yk<|af.aL 0 ey61 rfl rfl (by first|rfl|(simp only[aG];rfl)) rfl (aJ.box rfl zi) rfl (yz ?_)
 obtain⟨y62,ey62,g⟩:=au g (o.a.bC _ _);refine yk<|af.aL 0 ey62 rfl rfl (by first|rfl|(simp only[aG];rfl)) rfl (aJ.box rfl zi) rfl (yz ?_)
 refine yc g (o.a.cG _) λy63 g=>?_;obtain⟨y64,ey64,g⟩:=au g (o.a.dg _ _);refine yk<|af.aL 0 ey64 rfl rfl (by first|rfl|(simp only[aG];rfl)) rfl (aJ.box rfl zi) rfl (yz ?_)
 refine yk<|af.dP 4 (rows':=ae.rows ([{Kind:=48,Text:=y64.fst,N:=0,At:=y63.At,Kids:=[]:ae}])) rfl zi (yz ?_)
 obtain⟨h65,g⟩:=bG g;refine yk<|DO.dL rfl rfl zg rfl rfl zg rfl rfl (ae.bS _) rfl rfl rfl (zo h65) (yz ?_)
 obtain⟨y66,ey66,g⟩:=au g (o.a.bC _ _);refine yk<|af.aL 0 ey66 rfl rfl (by first|rfl|(simp only[aG];rfl)) rfl (aJ.box rfl zi) rfl (yz ?_)
 obtain⟨y67,ey67,g⟩:=au g (o.a.mK _);refine yk<|af.aL 0 ey67 rfl rfl (by first|rfl|(simp only[aG];rfl)) rfl (aJ.box rfl zi) rfl (yz ?_)
 obtain⟨y68,ey68,g⟩:=au g (o.a.bC _ _);refine yk<|af.aL 0 ey68 rfl rfl (by first|rfl|(simp only[aG];rfl)) rfl (aJ.box rfl zi) rfl (yz ?_)
 refine yo [] (tk [0,3,6,10,12,16,18,22]) [] ?_;refine yt zp ?_;obtain⟨y69,ey69,g⟩:=au g (o.a.gu _);refine yk<|af.gy 0 zp rfl rfl rfl rfl rfl ey69 rfl rfl (by first|rfl|(simp only[aG];rfl)) rfl (aJ.box rfl zi) (yz ?_)
 refine yt zp ?_;obtain⟨h70,g⟩:=bG g;refine yk<|af.di (rows2:=(ae.rows ([y69.fst]))) zp rfl rfl rfl rfl rfl zg rfl zi rfl rfl (ae.bS _) rfl rfl (zo h70) (yz ?_)
 obtain⟨y71,ey71,g⟩:=au g (o.a.bC _ _);refine yk<|af.aL 0 ey71 rfl rfl (by first|rfl|(simp only[aG];rfl)) rfl (aJ.box rfl zi) rfl (yz ?_)
 cases g;exact yJ;obtain⟨y72,ey72,g⟩:=au g (o.a.dg _ _);refine yk<|af.aL 0 ey72 rfl rfl (by first|rfl|(simp only[aG];rfl)) rfl (aJ.box rfl zi) rfl (yz ?_)
 obtain⟨y73,ey73,g⟩:=au g (o.a.bC _ _);refine yk<|af.aL 0 ey73 rfl rfl (by first|rfl|(simp only[aG];rfl)) rfl (aJ.box rfl zi) rfl (yz ?_)
 refine yc g (o.a.bZ _ _) λy74 g=>?_;refine aq g (λ_ g=>?_) λ_ g=>?_;refine Ok.stuck aT ?_;refine af.fW 2 4 25 5 3 rfl rfl rfl ?_;refine yL (S:=ay×(List ae)) (G:=λm s=>AI (Gu m) y1 y72 s.1 s.2) (s0:=(y73.snd,[])) 4 [0,2,3] [] (λs=>[]) (λs=>[(0,.box ((ay.cs s.1).map .d)),(3,.row 25 5 (ae.rows s.2)),(2,.box [.d (.v (.int .i64 4)),.d (.v (.string ⟨⟨(y72.fst)⟩⟩)),.d (.v (.int .i64 0)),.d (.v (.int .i64 y1.At)),.os 3 (ae.rows s.2).length])]) g ?_;rintro n ⟨s76,s81⟩ _ g;change AJ (Gu n) y1 y72 s76 s81=_ at g;rw[AJ]at g;refine yz ?_;refine yc g (o.a.cG _) λy82 g=>?_;obtain⟨y83,ey83,g⟩:=au g (o.a.dg _ _);refine yk<|af.aL 0 ey83 rfl rfl (by first|rfl|(simp only[aG];rfl)) rfl (aJ.box rfl zi) rfl (yz ?_)
 obtain⟨y84,ey84,g⟩:=au g (o.a.bC _ _);refine yk<|af.aL 0 ey84 rfl rfl (by first|rfl|(simp only[aG];rfl)) rfl (aJ.box rfl zi) rfl (yz ?_)
 obtain⟨y85,ey85,g⟩:=au g (o.a.mK _);refine yk<|af.aL 0 ey85 rfl rfl (by first|rfl|(simp only[aG];rfl)) rfl (aJ.box rfl zi) rfl (yz ?_)
 refine yk<|af.dP 5 (rows':=ae.rows ([{Kind:=6,Text:=y83.fst,N:=y85.fst,At:=y82.At,Kids:=[]:ae}])) rfl zi (yz ?_)
 obtain⟨h86,g⟩:=bG g;refine yk<|DO.dL rfl rfl zg rfl rfl zg rfl rfl (ae.bS _) rfl rfl rfl (zo h86) (yz ?_)
 refine yc g (o.a.bZ _ _) λy87 g=>?_;refine aq g (λ_ g=>?_) λ_ g=>?_;obtain⟨y89,ey89,g⟩:=au g (o.a.bC _ _);refine yk<|af.aL 0 ey89 rfl rfl (by first|rfl|(simp only[aG];rfl)) rfl (aJ.box rfl zi) rfl (yz ?_)
 obtain⟨y90,ey90,g⟩:=au g (o.a.bC _ _);refine yk<|af.aL 0 ey90 rfl rfl (by first|rfl|(simp only[aG];rfl)) rfl (aJ.box rfl zi) rfl (yz ?_)
 refine yc g (o.a.cG _) λy91 g=>?_;obtain⟨y92,ey92,g⟩:=au g (o.a.dg _ _);refine yk<|af.aL 0 ey92 rfl rfl (by first|rfl|(simp only[aG];rfl)) rfl (aJ.box rfl zi) rfl (yz ?_)
 refine yk<|af.dP 7 (rows':=ae.rows ([{Kind:=48,Text:=y92.fst,N:=0,At:=y91.At,Kids:=[]:ae}])) rfl zi (yz ?_)
 obtain⟨h93,g⟩:=bG g;refine yk<|DO.dL rfl rfl zg rfl rfl zg rfl rfl (ae.bS _) rfl rfl rfl (zo h93) (yz ?_)
 obtain⟨y94,ey94,g⟩:=au g (o.a.bC _ _);refine yk<|af.aL 0 ey94 rfl rfl (by first|rfl|(simp only[aG];rfl)) rfl (aJ.box rfl zi) rfl (yz ?_)
 refine yo [] (tk [0,3,6,10,12,16,18,22]) [] ?_;refine yt zp ?_;obtain⟨y95,ey95,g⟩:=au g (o.a.gu _);refine yk<|af.gy 0 zp rfl rfl rfl rfl rfl ey95 rfl rfl (by first|rfl|(simp only[aG];rfl)) rfl (aJ.box rfl zi) (yz ?_)
 refine yt zp ?_;obtain⟨h96,g⟩:=bG g;refine yk<|af.di (rows2:=(ae.rows ([y95.fst]))) zp rfl rfl rfl rfl rfl zg rfl zi rfl rfl (ae.bS _) rfl rfl (zo h96) (yz ?_)
 obtain⟨y97,ey97,g⟩:=au g (o.a.bC _ _);refine yk<|af.aL 0 ey97 rfl rfl (by first|rfl|(simp only[aG];rfl)) rfl (aJ.box rfl zi) rfl (yz ?_)
 cases g;exact yJ;exact yk (yN (_,_) n ⟨by omega,g⟩);obtain⟨y98,ey98,g⟩:=au g (o.a.bC _ _);refine yk<|af.aL 0 ey98 rfl rfl (by first|rfl|(simp only[aG];rfl)) rfl (aJ.box rfl zi) rfl (yz ?_)
 obtain⟨y99,ey99,g⟩:=au g (o.a.bC _ _);refine yk<|af.aL 0 ey99 rfl rfl (by first|rfl|(simp only[aG];rfl)) rfl (aJ.box rfl zi) rfl (yz ?_)
 refine yc g (o.a.cG _) λy100 g=>?_;obtain⟨y101,ey101,g⟩:=au g (o.a.dg _ _);refine yk<|af.aL 0 ey101 rfl rfl (by first|rfl|(simp only[aG];rfl)) rfl (aJ.box rfl zi) rfl (yz ?_)
 refine yk<|af.dP 4 (rows':=ae.rows ([{Kind:=48,Text:=y101.fst,N:=0,At:=y100.At,Kids:=[]:ae}])) rfl zi (yz ?_)
 obtain⟨h102,g⟩:=bG g;refine yk<|DO.dL rfl rfl zg rfl rfl zg rfl rfl (ae.bS _) rfl rfl rfl (zo h102) (yz ?_)
 obtain⟨y103,ey103,g⟩:=au g (o.a.bC _ _);refine yk<|af.aL 0 ey103 rfl rfl (by first|rfl|(simp only[aG];rfl)) rfl (aJ.box rfl zi) rfl (yz ?_)
 refine yo [] (tk [0,3,6,10,12,16,18,22]) [] ?_;refine yt zp ?_;obtain⟨y104,ey104,g⟩:=au g (o.a.gu _);refine yk<|af.gy 0 zp rfl rfl rfl rfl rfl ey104 rfl rfl (by first|rfl|(simp only[aG];rfl)) rfl (aJ.box rfl zi) (yz ?_)
 refine yt zp ?_;obtain⟨h105,g⟩:=bG g;refine yk<|af.di (rows2:=(ae.rows ([y104.fst]))) zp rfl rfl rfl rfl rfl zg rfl zi rfl rfl (ae.bS _) rfl rfl (zo h105) (yz ?_)
 obtain⟨y106,ey106,g⟩:=au g (o.a.bC _ _);refine yk<|af.aL 0 ey106 rfl rfl (by first|rfl|(simp only[aG];rfl)) rfl (aJ.box rfl zi) rfl (yz ?_)
 cases g;exact yJ;refine yc g (o.a.bZ _ _) λy107 g=>?_;refine aq g (λ_ g=>?_) λ_ g=>?_;obtain⟨y109,ey109,g⟩:=au g (o.a.dg _ _);refine yk<|af.aL 0 ey109 rfl rfl (by first|rfl|(simp only[aG];rfl)) rfl (aJ.box rfl zi) rfl (yz ?_)
 obtain⟨y110,ey110,g⟩:=au g (o.a.bC _ _);refine yk<|af.aL 0 ey110 rfl rfl (by first|rfl|(simp only[aG];rfl)) rfl (aJ.box rfl zi) rfl (yz ?_)
 refine yc g (o.a.bZ _ _) λy111 g=>?_;refine aq g (λ_ g=>?_) λ_ g=>?_;refine Ok.stuck aT ?_;refine af.fW 2 4 25 5 3 rfl rfl rfl ?_;refine yL (S:=ay×(List ae)) (G:=λm s=>AK (Gu m) y1 y109 s.1 s.2) (s0:=(y110.snd,[])) 4 [0,2,3] [] (λs=>[]) (λs=>[(0,.box ((ay.cs s.1).map .d)),(3,.row 25 5 (ae.rows s.2)),(2,.box [.d (.v (.int .i64 5)),.d (.v (.string ⟨⟨(y109.fst)⟩⟩)),.d (.v (.int .i64 0)),.d (.v (.int .i64 y1.At)),.os 3 (ae.rows s.2).length])]) g ?_;rintro n ⟨s113,s118⟩ _ g;change AL (Gu n) y1 y109 s113 s118=_ at g;rw[AL]at g;refine yz ?_;refine yc g (o.a.cG _) λy119 g=>?_;obtain⟨y120,ey120,g⟩:=au g (o.a.dg _ _);refine yk<|af.aL 0 ey120 rfl rfl (by first|rfl|(simp only[aG];rfl)) rfl (aJ.box rfl zi) rfl (yz ?_)
 obtain⟨y121,ey121,g⟩:=au g (o.a.bC _ _);refine yk<|af.aL 0 ey121 rfl rfl (by first|rfl|(simp only[aG];rfl)) rfl (aJ.box rfl zi) rfl (yz ?_)
 obtain⟨y122,ey122,g⟩:=au g (o.a.mK _);refine yk<|af.aL 0 ey122 rfl rfl (by first|rfl|(simp only[aG];rfl)) rfl (aJ.box rfl zi) rfl (yz ?_)
 refine yk<|af.dP 5 (rows':=ae.rows ([{Kind:=6,Text:=y120.fst,N:=y122.fst,At:=y119.At,Kids:=[]:ae}])) rfl zi (yz ?_)
 obtain⟨h123,g⟩:=bG g;refine yk<|DO.dL rfl rfl zg rfl rfl zg rfl rfl (ae.bS _) rfl rfl rfl (zo h123) (yz ?_)
 refine yc g (o.a.bZ _ _) λy124 g=>?_;refine aq g (λ_ g=>?_) λ_ g=>?_;obtain⟨y126,ey126,g⟩:=au g (o.a.bC _ _);refine yk<|af.aL 0 ey126 rfl rfl (by first|rfl|(simp only[aG];rfl)) rfl (aJ.box rfl zi) rfl (yz ?_)
 obtain⟨y127,ey127,g⟩:=au g (o.a.bC _ _);refine yk<|af.aL 0 ey127 rfl rfl (by first|rfl|(simp only[aG];rfl)) rfl (aJ.box rfl zi) rfl (yz ?_)
 refine yc g (o.a.cG _) λy128 g=>?_;obtain⟨y129,ey129,g⟩:=au g (o.a.dg _ _);refine yk<|af.aL 0 ey129 rfl rfl (by first|rfl|(simp only[aG];rfl)) rfl (aJ.box rfl zi) rfl (yz ?_)
 refine yk<|af.dP 7 (rows':=ae.rows ([{Kind:=48,Text:=y129.fst,N:=0,At:=y128.At,Kids:=[]:ae}])) rfl zi (yz ?_)
 obtain⟨h130,g⟩:=bG g;refine yk<|DO.dL rfl rfl zg rfl rfl zg rfl rfl (ae.bS _) rfl rfl rfl (zo h130) (yz ?_)
 obtain⟨y131,ey131,g⟩:=au g (o.a.bC _ _);refine yk<|af.aL 0 ey131 rfl rfl (by first|rfl|(simp only[aG];rfl)) rfl (aJ.box rfl zi) rfl (yz ?_)
 obtain⟨y132,ey132,g⟩:=au g (o.a.mK _);refine yk<|af.aL 0 ey132 rfl rfl (by first|rfl|(simp only[aG];rfl)) rfl (aJ.box rfl zi) rfl (yz ?_)
 obtain⟨y133,ey133,g⟩:=au g (o.a.bC _ _);refine yk<|af.aL 0 ey133 rfl rfl (by first|rfl|(simp only[aG];rfl)) rfl (aJ.box rfl zi) rfl (yz ?_)
 refine yo [] (tk [0,3,6,10,12,16,18,22]) [] ?_;refine yt zp ?_;obtain⟨y134,ey134,g⟩:=au g (o.a.gu _);refine yk<|af.gy 0 zp rfl rfl rfl rfl rfl ey134 rfl rfl (by first|rfl|(simp only[aG];rfl)) rfl (aJ.box rfl zi) (yz ?_)
 refine yt zp ?_;obtain⟨h135,g⟩:=bG g;refine yk<|af.di (rows2:=(ae.rows ([y134.fst]))) zp rfl rfl rfl rfl rfl zg rfl zi rfl rfl (ae.bS _) rfl rfl (zo h135) (yz ?_)
 obtain⟨y136,ey136,g⟩:=au g (o.a.bC _ _);refine yk<|af.aL 0 ey136 rfl rfl (by first|rfl|(simp only[aG];rfl)) rfl (aJ.box rfl zi) rfl (yz ?_)
 cases g;exact yJ;exact yk (yN (_,_) n ⟨by omega,g⟩);obtain⟨y137,ey137,g⟩:=au g (o.a.bC _ _);refine yk<|af.aL 0 ey137 rfl rfl (by first|rfl|(simp only[aG];rfl)) rfl (aJ.box rfl zi) rfl (yz ?_)
 obtain⟨y138,ey138,g⟩:=au g (o.a.bC _ _);refine yk<|af.aL 0 ey138 rfl rfl (by first|rfl|(simp only[aG];rfl)) rfl (aJ.box rfl zi) rfl (yz ?_)
 refine yc g (o.a.cG _) λy139 g=>?_;obtain⟨y140,ey140,g⟩:=au g (o.a.dg _ _);refine yk<|af.aL 0 ey140 rfl rfl (by first|rfl|(simp only[aG];rfl)) rfl (aJ.box rfl zi) rfl (yz ?_)
 refine yk<|af.dP 4 (rows':=ae.rows ([{Kind:=48,Text:=y140.fst,N:=0,At:=y139.At,Kids:=[]:ae}])) rfl zi (yz ?_)
 obtain⟨h141,g⟩:=bG g;refine yk<|DO.dL rfl rfl zg rfl rfl zg rfl rfl (ae.bS _) rfl rfl rfl (zo h141) (yz ?_)
 obtain⟨y142,ey142,g⟩:=au g (o.a.bC _ _);refine yk<|af.aL 0 ey142 rfl rfl (by first|rfl|(simp only[aG];rfl)) rfl (aJ.box rfl zi) rfl (yz ?_)
 obtain⟨y143,ey143,g⟩:=au g (o.a.mK _);refine yk<|af.aL 0 ey143 rfl rfl (by first|rfl|(simp only[aG];rfl)) rfl (aJ.box rfl zi) rfl (yz ?_)
 obtain⟨y144,ey144,g⟩:=au g (o.a.bC _ _);refine yk<|af.aL 0 ey144 rfl rfl (by first|rfl|(simp only[aG];rfl)) rfl (aJ.box rfl zi) rfl (yz ?_)
 refine yo [] (tk [0,3,6,10,12,16,18,22]) [] ?_;refine yt zp ?_;obtain⟨y145,ey145,g⟩:=au g (o.a.gu _);refine yk<|af.gy 0 zp rfl rfl rfl rfl rfl ey145 rfl rfl (by first|rfl|(simp only[aG];rfl)) rfl (aJ.box rfl zi) (yz ?_)
 refine yt zp ?_;obtain⟨h146,g⟩:=bG g;refine yk<|af.di (rows2:=(ae.rows ([y145.fst]))) zp rfl rfl rfl rfl rfl zg rfl zi rfl rfl (ae.bS _) rfl rfl (zo h146) (yz ?_)
 obtain⟨y147,ey147,g⟩:=au g (o.a.bC _ _);refine yk<|af.aL 0 ey147 rfl rfl (by first|rfl|(simp only[aG];rfl)) rfl (aJ.box rfl zi) rfl (yz ?_)
 cases g;exact yJ;obtain⟨y148,ey148,g⟩:=au g (o.a.dg _ _);refine yk<|af.aL 0 ey148 rfl rfl (by first|rfl|(simp only[aG];rfl)) rfl (aJ.box rfl zi) rfl (yz ?_)
 obtain⟨y149,ey149,g⟩:=au g (o.a.bC _ _);refine yk<|af.aL 0 ey149 rfl rfl (by first|rfl|(simp only[aG];rfl)) rfl (aJ.box rfl zi) rfl (yz ?_)
 refine yc g (o.a.bZ _ _) λy150 g=>?_;refine aq g (λ_ g=>?_) λ_ g=>?_;refine Ok.stuck aT ?_;refine af.fW 2 4 25 5 3 rfl rfl rfl ?_;refine yL (S:=ay×(List ae)) (G:=λm s=>AM (Gu m) y1 y148 s.1 s.2) (s0:=(y149.snd,[])) 4 [0,2,3] [] (λs=>[]) (λs=>[(0,.box ((ay.cs s.1).map .d)),(3,.row 25 5 (ae.rows s.2)),(2,.box [.d (.v (.int .i64 4)),.d (.v (.string ⟨⟨(y148.fst)⟩⟩)),.d (.v (.int .i64 0)),.d (.v (.int .i64 y1.At)),.os 3 (ae.rows s.2).length])]) g ?_;rintro n ⟨s152,s157⟩ _ g;change AN (Gu n) y1 y148 s152 s157=_ at g;rw[AN]at g;refine yz ?_;refine yc g (o.a.cG _) λy158 g=>?_;obtain⟨y159,ey159,g⟩:=au g (o.a.dg _ _);refine yk<|af.aL 0 ey159 rfl rfl (by first|rfl|(simp only[aG];rfl)) rfl (aJ.box rfl zi) rfl (yz ?_)
 obtain⟨y160,ey160,g⟩:=au g (o.a.bC _ _);refine yk<|af.aL 0 ey160 rfl rfl (by first|rfl|(simp only[aG];rfl)) rfl (aJ.box rfl zi) rfl (yz ?_)
 obtain⟨y161,ey161,g⟩:=au g (o.a.mK _);refine yk<|af.aL 0 ey161 rfl rfl (by first|rfl|(simp only[aG];rfl)) rfl (aJ.box rfl zi) rfl (yz ?_)
 refine yk<|af.dP 5 (rows':=ae.rows ([{Kind:=6,Text:=y159.fst,N:=y161.fst,At:=y158.At,Kids:=[]:ae}])) rfl zi (yz ?_)
 obtain⟨h162,g⟩:=bG g;refine yk<|DO.dL rfl rfl zg rfl rfl zg rfl rfl (ae.bS _) rfl rfl rfl (zo h162) (yz ?_)
 refine yc g (o.a.bZ _ _) λy163 g=>?_;refine aq g (λ_ g=>?_) λ_ g=>?_;obtain⟨y165,ey165,g⟩:=au g (o.a.bC _ _);refine yk<|af.aL 0 ey165 rfl rfl (by first|rfl|(simp only[aG];rfl)) rfl (aJ.box rfl zi) rfl (yz ?_)
 obtain⟨y166,ey166,g⟩:=au g (o.a.bC _ _);refine yk<|af.aL 0 ey166 rfl rfl (by first|rfl|(simp only[aG];rfl)) rfl (aJ.box rfl zi) rfl (yz ?_)
 refine yc g (o.a.cG _) λy167 g=>?_;obtain⟨y168,ey168,g⟩:=au g (o.a.dg _ _);refine yk<|af.aL 0 ey168 rfl rfl (by first|rfl|(simp only[aG];rfl)) rfl (aJ.box rfl zi) rfl (yz ?_)
 refine yk<|af.dP 7 (rows':=ae.rows ([{Kind:=48,Text:=y168.fst,N:=0,At:=y167.At,Kids:=[]:ae}])) rfl zi (yz ?_)
 obtain⟨h169,g⟩:=bG g;refine yk<|DO.dL rfl rfl zg rfl rfl zg rfl rfl (ae.bS _) rfl rfl rfl (zo h169) (yz ?_)
 obtain⟨y170,ey170,g⟩:=au g (o.a.bC _ _);refine yk<|af.aL 0 ey170 rfl rfl (by first|rfl|(simp only[aG];rfl)) rfl (aJ.box rfl zi) rfl (yz ?_)
 refine yo [] (tk [0,3,6,10,12,16,18,22]) [] ?_;refine yt zp ?_;obtain⟨y171,ey171,g⟩:=au g (o.a.gu _);refine yk<|af.gy 0 zp rfl rfl rfl rfl rfl ey171 rfl rfl (by first|rfl|(simp only[aG];rfl)) rfl (aJ.box rfl zi) (yz ?_)
 refine yt zp ?_;obtain⟨h172,g⟩:=bG g;refine yk<|af.di (rows2:=(ae.rows ([y171.fst]))) zp rfl rfl rfl rfl rfl zg rfl zi rfl rfl (ae.bS _) rfl rfl (zo h172) (yz ?_)
 obtain⟨y173,ey173,g⟩:=au g (o.a.bC _ _);refine yk<|af.aL 0 ey173 rfl rfl (by first|rfl|(simp only[aG];rfl)) rfl (aJ.box rfl zi) rfl (yz ?_)
 cases g;exact yJ;exact yk (yN (_,_) n ⟨by omega,g⟩);obtain⟨y174,ey174,g⟩:=au g (o.a.bC _ _);refine yk<|af.aL 0 ey174 rfl rfl (by first|rfl|(simp only[aG];rfl)) rfl (aJ.box rfl zi) rfl (yz ?_)
 obtain⟨y175,ey175,g⟩:=au g (o.a.bC _ _);refine yk<|af.aL 0 ey175 rfl rfl (by first|rfl|(simp only[aG];rfl)) rfl (aJ.box rfl zi) rfl (yz ?_)
 refine yc g (o.a.cG _) λy176 g=>?_;obtain⟨y177,ey177,g⟩:=au g (o.a.dg _ _);refine yk<|af.aL 0 ey177 rfl rfl (by first|rfl|(simp only[aG];rfl)) rfl (aJ.box rfl zi) rfl (yz ?_)
 refine yk<|af.dP 4 (rows':=ae.rows ([{Kind:=48,Text:=y177.fst,N:=0,At:=y176.At,Kids:=[]:ae}])) rfl zi (yz ?_)
 obtain⟨h178,g⟩:=bG g;refine yk<|DO.dL rfl rfl zg rfl rfl zg rfl rfl (ae.bS _) rfl rfl rfl (zo h178) (yz ?_)
 obtain⟨y179,ey179,g⟩:=au g (o.a.bC _ _);refine yk<|af.aL 0 ey179 rfl rfl (by first|rfl|(simp only[aG];rfl)) rfl (aJ.box rfl zi) rfl (yz ?_)
 refine yo [] (tk [0,3,6,10,12,16,18,22]) [] ?_;refine yt zp ?_;obtain⟨y180,ey180,g⟩:=au g (o.a.gu _);refine yk<|af.gy 0 zp rfl rfl rfl rfl rfl ey180 rfl rfl (by first|rfl|(simp only[aG];rfl)) rfl (aJ.box rfl zi) (yz ?_)
 refine yt zp ?_;obtain⟨h181,g⟩:=bG g;refine yk<|af.di (rows2:=(ae.rows ([y180.fst]))) zp rfl rfl rfl rfl rfl zg rfl zi rfl rfl (ae.bS _) rfl rfl (zo h181) (yz ?_)
 obtain⟨y182,ey182,g⟩:=au g (o.a.bC _ _);refine yk<|af.aL 0 ey182 rfl rfl (by first|rfl|(simp only[aG];rfl)) rfl (aJ.box rfl zi) rfl (yz ?_)
 cases g;exact yJ
