/- Printed by a program: what functions answer, and that they do. -/
import Derived.Test.YtnocmolegijmkaaGreatKG6
set_option linter.all false
set_option maxRecDepth 100000
noncomputable section
namespace Go.Proofs.YtnocmolegijmkaaGreat
open Go Go.Bw Go.Proofs.Tryz
theorem al7 {n} (o:Of n):Za (AT (Gf n)):=by
 intro a0 r g;rw[AT]at g;refine yw func137 ntmps137 ?_;refine yc g (o.a.ZS _) λy g=>?_;cases g;exact zl
set_option maxHeartbeats 0 in
theorem al8 {n} (o:Of n):Zb (Bh (Gf n)):=by
 intro a0 a1 a2 a3 a4 r g;rw[Bh]at g;refine yw func237 ntmps237 ?_;refine yc g (o.a.wY _) λy g=>?_;refine yc g (o.a.wY _) λv g=>?_;refine Ok.stuck aU ?_;refine au.kv 13 9 1 0 rfl rfl ?_;refine yL (S:=(List (List UInt8))×(List (List UInt8))×(List (List UInt8))) (G:=λm s=>fV (Gf m) a2 a3 a4 s.1 s.2.1 s.2.2) (s0:=(y,v,[])) 1 [2,3,4,10] [11,12,13] (λs=>[(11,.d (.sl 1 (aG s.1))),(12,.d (.sl 1 (aG s.2.1))),(13,.os 0 (aG s.2.2).length)]) (λs=>[(0,.row 9 1 (aG s.2.2))]) g ?_;rintro n ⟨s3,s4,s5⟩ _ g;change nw (Gf n) a2 a3 a4 s3 s4 s5=_ at g;rw[nw]at g;refine yz ?_;refine aA g (λk g=>?_) λk g=>?_;refine yo [0,1,2,3,4,5,6,7,8,9,10,11,12,13,14,15,16,17] [] [] ?_
 iterate 2 (refine aA g ?_ ?_<;>intro _ g)
 refine yX g dF λx _ _ g=>?_;obtain⟨l,g⟩:=bL g;refine yk<|DO.dQ rfl rfl zg rfl rfl zg rfl rfl rfl rfl rfl rfl (zo l) (yz ?_)
 obtain⟨x,w,g⟩:=cy g;refine yv (yQ gu w) ?_;exact yk (yN (_,_,_) n ⟨by omega,g⟩);obtain⟨x,w,g⟩:=cy g;refine yv (yQ gu w) ?_;exact yk (yN (x,s4,s5) n ⟨by omega,g⟩);refine Ok.kZ k ?_;conv=>(arg 3;whnf)
 iterate 2 (refine yY g dF λx _ _ g=>?_)
 iterate 2 (refine aA g ?_ ?_<;>intro _ g)
 refine yX g dF λx _ _ g=>?_;obtain⟨l,g⟩:=bL g;refine yk<|DO.dQ rfl rfl zg rfl rfl zg rfl rfl rfl rfl rfl rfl (zo l) (yz ?_)
 obtain⟨x,w,g⟩:=cy g;refine yv (yQ gu w) ?_;exact yk (yN (_,_,_) n ⟨by omega,g⟩);obtain⟨x,w,g⟩:=cy g;refine yv (yQ gu w) ?_;exact yk (yN (x,s4,s5) n ⟨by omega,g⟩);refine yo [0,1,2,3,4,5,6,7,8,9,10,11,12] [] [] ?_
 iterate 2 (refine aA g ?_ ?_<;>intro _ g)
 refine yX g dF λx _ _ g=>?_;obtain⟨l,g⟩:=bL g;refine yk<|DO.dQ rfl rfl zg rfl rfl zg rfl rfl rfl rfl rfl rfl (zo l) (yz ?_)
 obtain⟨x,w,g⟩:=cy g;refine yv (yQ gu w) ?_;exact yk (yN (_,_,_) n ⟨by omega,g⟩);obtain⟨x,w,g⟩:=cy g;refine yv (yQ gu w) ?_;exact yk (yN (s3,x,s5) n ⟨by omega,g⟩)
 iterate 2 (refine yY g dF λx _ _ g=>?_)
 iterate 2 (refine aA g ?_ ?_<;>intro _ g)
 refine yX g dF λx _ _ g=>?_;obtain⟨l,g⟩:=bL g;refine yk<|DO.dQ rfl rfl zg rfl rfl zg rfl rfl rfl rfl rfl rfl (zo l) (yz ?_)
 obtain⟨x,w,g⟩:=cy g;refine yv (yQ gu w) ?_;exact yk (yN (_,_,_) n ⟨by omega,g⟩);obtain⟨x,w,g⟩:=cy g;refine yv (yQ gu w) ?_;exact yk (yN (s3,x,s5) n ⟨by omega,g⟩);refine aA g ?_ ?_<;>intro _ g;refine yX g dF λx _ _ g=>?_;obtain⟨l,g⟩:=bL g;refine yk<|DO.dQ rfl rfl zg rfl rfl zg rfl rfl rfl rfl rfl rfl (zo l) (yz ?_)
 refine yo [0,1,2,3,4,5] [] [] ?_
 iterate 2 (obtain⟨x,w,g⟩:=cy g;refine yl (yQ gu w) ?_)
 exact yk (yN (_,_,_) n ⟨by omega,g⟩);refine yo [0,1,2,3,4,5] [] [] ?_;obtain⟨x,w,g⟩:=cy g;refine yl (yQ gu w) ?_;obtain⟨t,w,g⟩:=cy g;refine yl (yQ gu w) ?_;exact yk (yN (x,t,s5) n ⟨by omega,g⟩);refine bp g λ_ g=>?_;refine yo [0,1,2,3,4,5,6,7,8,9,10,11,12,13,14,15,16,17] [] [] ?_
 iterate 2 (refine aA g ?_ ?_<;>intro _ g)
 refine yX g dF λx _ _ g=>?_;obtain⟨l,g⟩:=bL g;refine yk<|DO.dQ rfl rfl zg rfl rfl zg rfl rfl rfl rfl rfl rfl (zo l) (yz ?_)
 obtain⟨x,w,g⟩:=cy g;refine yv (yQ gu w) ?_;exact yk (yN (_,_,_) n ⟨by omega,g⟩);obtain⟨x,w,g⟩:=cy g;refine yv (yQ gu w) ?_;exact yk (yN (x,s4,s5) n ⟨by omega,g⟩);refine Ok.la k ?_;conv=>(arg 3;whnf)
 refine yo [0,1,2,3,4,5,6,7,8,9,10,11,12] [] [] ?_
 iterate 2 (refine aA g ?_ ?_<;>intro _ g)
 refine yX g dF λx _ _ g=>?_;obtain⟨k,g⟩:=bL g;refine yk<|DO.dQ rfl rfl zg rfl rfl zg rfl rfl rfl rfl rfl rfl (zo k) (yz ?_)
 obtain⟨x,w,g⟩:=cy g;refine yv (yQ gu w) ?_;exact yk (yN (_,_,_) n ⟨by omega,g⟩);obtain⟨x,w,g⟩:=cy g;refine yv (yQ gu w) ?_;exact yk (yN (s3,x,s5) n ⟨by omega,g⟩)
 iterate 2 (refine yY g dF λx _ _ g=>?_)
 iterate 2 (refine aA g ?_ ?_<;>intro _ g)
 refine yX g dF λx _ _ g=>?_;obtain⟨k,g⟩:=bL g;refine yk<|DO.dQ rfl rfl zg rfl rfl zg rfl rfl rfl rfl rfl rfl (zo k) (yz ?_)
 obtain⟨x,w,g⟩:=cy g;refine yv (yQ gu w) ?_;exact yk (yN (_,_,_) n ⟨by omega,g⟩);obtain⟨x,w,g⟩:=cy g;refine yv (yQ gu w) ?_;exact yk (yN (s3,x,s5) n ⟨by omega,g⟩);refine aA g ?_ ?_<;>intro _ g;refine yX g dF λx _ _ g=>?_;obtain⟨k,g⟩:=bL g;refine yk<|DO.dQ rfl rfl zg rfl rfl zg rfl rfl rfl rfl rfl rfl (zo k) (yz ?_)
 refine yo [0,1,2,3,4,5] [] [] ?_
 iterate 2 (obtain⟨x,w,g⟩:=cy g;refine yl (yQ gu w) ?_)
 exact yk (yN (_,_,_) n ⟨by omega,g⟩);refine yo [0,1,2,3,4,5] [] [] ?_;obtain⟨x,w,g⟩:=cy g;refine yl (yQ gu w) ?_;obtain⟨t,w,g⟩:=cy g;refine yl (yQ gu w) ?_;exact yk (yN (x,t,s5) n ⟨by omega,g⟩)
theorem al9 {n} (o:Of n):Zc (Bg (Gf n)):=by
 intro a0 a1 r g;rw[Bg]at g;refine yw func191 ntmps191 ?_;refine yc g (o.a.anb _ _ _ _ _) λy g=>?_;cases g;exact zl
theorem al' {n} (o:Of n):Zd (AY (Gf n)):=by
 intro a0 a1 r g;rw[AY]at g;refine yw func204 ntmps204 ?_;refine yc g (o.a.BZ _) λy g=>?_;refine bp g λ_ g=>?_;refine yc g (o.a.BZ _) λy g=>?_;exact dM g
theorem ama {n} (o:Of n):Ze (Ly (Gf n)):=by
 intro a0 r g;rw[Ly]at g;refine yw func205 ntmps205 ?_;cases g;exact zl
theorem amb {n} (o:Of n):Zf (wB (Gf n)):=by
 intro a0 a1 r g;rw[wB]at g;refine yw func150 ntmps150 ?_;refine yk<|yL (S:=Int×Int) (G:=λm s=>uy (Gf m) a0 a1 s.1 s.2) (s0:=(0,(↑(aG a0).length:Int))) 0 [0,1,4,5,6] [7,8] (λs=>[(7,.d (.v (.int .i64 s.1))),(8,.d (.v (.int .i64 s.2)))]) (λs=>[]) g ?_;rintro n ⟨s1,s2⟩ _ g;change uz (Gf n) a0 a1 s1 s2=_ at g;rw[uz]at g;refine yz ?_
 refine aA g ?_ ?_<;>intro _ g;refine yX g dF λx _ _ g=>?_;refine yc g (o.a.anc _ _) λy g=>?_;refine aA g ?_ ?_<;>intro _ g
 iterate 2 (exact yk (yN (_,_) n ⟨by omega,g⟩))
 refine bp g λ_ g=>?_;refine yX g dF λx _ _ g=>?_;refine aQ g λ_ g=>?_;refine yX g dF λx _ _ g=>?_;refine yc g (o.a.ZT _) λy g=>?_;refine bp g λ_ g=>?_;refine yc g (o.a.ZT _) λy g=>?_;cases g;exact zl
/-(*plexus.closure.system).at-/
theorem amc {n} (o:Of n):Zg (AZ (Gf n)):=by
 intro a0 a1 r g;rw[AZ]at g;refine yw func278 ntmps278 ?_;refine yc g (o.a.ane _ _) λy g=>?_;exact dM g
/-(*plexus.closure.system).set-/
theorem amd {n} (o:Of n):Zh (A0 (Gf n)):=by
 intro a0 a1 r g;rw[A0]at g;refine yw func239 ntmps239 ?_;refine yc g (o.a.oM _) λy g=>?_;refine aQ g λ_ g=>?_;obtain⟨m3,em3,g⟩:=cy g;obtain⟨hm3,bm3⟩:=DS em3;refine yk<|au.FC m3 (du (List.replicate m3 false)) rfl hm3 rfl hm3 rfl rfl rfl rfl rfl (by omega) (by simp only[du,DB];exact ea.replicate zi _) rfl (yz ?_)
 refine Ok.stuck aU ?_;refine au.kv 4 4 1 1 rfl rfl ?_;refine yL (S:=(List Bool)×(List Bool)×Int) (G:=λm s=>rf (Gf m) a0 a1 s.1 s.2.1 s.2.2) (s0:=([],List.replicate m3 false,0)) 2 [0,5,19,20] [4,6,21] (λs=>[(4,.os 1 (du s.1).length),(6,.os 0 (du s.2.1).length),(21,.d (.v (.int .i64 s.2.2)))]) (λs=>[(1,.row 4 1 (du s.1)),(0,.row 4 1 (du s.2.1))]) g ?_;rintro n ⟨s4,s5,s6⟩ _ g;change uA (Gf n) a0 a1 s4 s5 s6=_ at g;rw[uA]at g;refine yz ?_;refine bp g λ_ g=>?_;refine yX g dF λx _ _ g=>?_;refine yc g (o.a.Oq _ _) λy g=>?_;refine aQ g λ_ g=>?_;obtain⟨x,w,j,g⟩:=cE g;refine yv (yr j w) ?_;refine yk<|au.lL y.toNat 0 (by rfl) (by rfl) (by rfl) (by rfl) (by rfl) (by rfl) zg (by rfl) (yg (pf w)) (by rfl) (by rfl) (by rfl) (by rfl) (yz ?_)
 exact yk (yN (_,_,_) n ⟨by omega,g⟩)
theorem ame {n} (o:Of n):Zi (A2 (Gf n)):=by
 intro a0 r g;rw[A2]at g;refine yw func280 ntmps280 ?_;cases g;exact zl
/-(plexus.closure.horn).fires-/
theorem amf {n} (o:Of n):Zj (A1 (Gf n)):=by
 intro a0 a1 r g;rw[A1]at g;refine yw func295 ntmps295 ?_;refine yX g pf λx _ _ g=>?_;refine aQ g λ_ g=>?_;refine yk<|yL (S:=Int) (G:=λm s=>rh (Gf m) a0 a1 s) (s0:=0) 1 [1,4,13,14] [15] (λs=>[(15,.d (.v (.int .i64 s)))]) (λs=>[]) g ?_;rintro n s4 _ g;change uC (Gf n) a0 a1 s4=_ at g;rw[uC]at g;refine yz ?_
 refine bp g λ_ g=>?_;refine yX g D4 λx _ _ g=>?_;refine yX g pf λx _ _ g=>?_;refine aQ g λ_ g=>?_;exact yk (yN _ n ⟨by omega,g⟩)
/-(*plexus.closure.system).chain-/
theorem aeA {n} (o:Of n):Tx (yE (Gf n)):=by
 intro a0 a1 r g;rw[yE]at g;refine yw func279 ntmps279 ?_;obtain⟨m1,em1,g⟩:=cy g;obtain⟨hm1,bm1⟩:=DS em1;refine yk<|au.FC m1 (du (List.replicate m1 false)) rfl hm1 rfl hm1 rfl rfl rfl rfl rfl (by omega) (by simp only[du,DB];exact ea.replicate zi _) rfl (yz ?_)
 obtain⟨k,g⟩:=bL g;refine yk<|au.copy rfl rfl zg (.sl rfl) rfl (abC _) (by have l:=iV k;simpa only[jS,lF,oY,gD,lG,tp]using l) rfl (yz ?_)
 obtain⟨k,g⟩:=bL g;refine yk<|au.ain 8 rfl (iV k) (yz ?_)
 refine Ok.stuck aU ?_;refine au.kv 6 4 1 1 rfl rfl ?_;refine au.kv 7 302 2 2 rfl rfl ?_;refine au.kv 9 302 2 3 rfl rfl ?_;refine yL (S:=(List Bool)×(List dm)×(List Bool)×(List dm)) (G:=λm s=>sW (Gf m) a0 a1 m1 s.1 s.2.1 s.2.2.1 s.2.2.2) (s0:=([],[],a1,[])) 4 [0,2] [6,7,8,9] (λs=>[(6,.os 1 (du s.1).length),(7,.os 2 (dm.rows s.2.1).length),(8,.os 0 (du s.2.2.1).length),(9,.os 3 (dm.rows s.2.2.2).length)]) (λs=>[(1,.row 4 1 (du s.1)),(2,.row 302 2 (dm.rows s.2.1)),(0,.row 4 1 (du s.2.2.1)),(3,.row 302 2 (dm.rows s.2.2.2))]) g ?_;rintro n ⟨s4,s5,s6,s7⟩ _ g;change sX (Gf n) a0 a1 m1 s4 s5 s6 s7=_ at g;rw[sX]at g;refine yz ?_;refine yk<|yL (S:=Int) (G:=λm s=>o7 (Gf m) a0 a1 m1 s4 s5 s6 s7 s) (s0:=0) 5 [0,2,6,7,8,9,10,23,24] [25] (λs=>[(25,.d (.v (.int .i64 s)))]) (λs=>[]) g ?_;rintro n s8 _ g;change sY (Gf n) a0 a1 m1 s4 s5 s6 s7 s8=_ at g;rw[sY]at g;refine yz ?_
 refine aA g ?_ ?_<;>intro _ g;refine yX g dd.aE λx _ _ g=>?_;refine yc g (o.a.ang _) λy g=>?_;refine aA g ?_ ?_<;>intro _ g;refine yc g (o.a.anh _ _) λy g=>?_;refine aA g ?_ ?_<;>intro _ g;refine yv (bA.toP (bA.Z1 rfl rfl rfl zk Tryz.underlying302 rfl)) ?_;refine aQ g λ_ g=>?_;obtain⟨t,w,j,g⟩:=cE g;refine yv (yr j w) ?_;refine yk<|au.lL x.lR.toNat 0 (by rfl) (by rfl) (by rfl) (by rfl) (by rfl) (by rfl) zg (by rfl) (yg (pf w)) (by rfl) (by rfl) (by rfl) (by rfl) (yz ?_)
 refine yk<|au.fM 6 (rows':=dm.rows ([{FR:=s8,name:=x.lR:dm}])) rfl zi (yz ?_)
 obtain⟨k,g⟩:=bL g;refine yk<|DO.dQ rfl rfl zg rfl rfl zg rfl rfl (dm.cv _) rfl rfl rfl (zo k) (yz ?_)
 exact yk (yN (_,_,_,_) n ⟨by omega,g⟩)
 iterate 2 (exact yk (yN _ n ⟨by omega,g⟩))
 refine yv (bA.toP (bA.Z1 rfl rfl rfl zk Tryz.underlying302 rfl)) ?_;cases g;exact zl
/-(*plexus.closure.system).close-/
theorem amg {n} (o:Of n):Zk (A3 (Gf n)):=by
 intro a0 a1 r g;rw[A3]at g;refine yw func241 ntmps241 ?_;refine yc g (o.a.aeH _ _) λy g=>?_;cases g;exact zl
/-(*plexus.closure.system).list-/
theorem amh {n} (o:Of n):Zl (wC (Gf n)):=by
 intro a0 a1 r g;rw[wC]at g;refine yw func240 ntmps240 ?_;refine yk<|yL (S:=(List (List UInt8))×Int) (G:=λm s=>pE (Gf m) a0 a1 s.1 s.2) (s0:=([],0)) 1 [0,4,9,10] [5,11] (λs=>[(5,.os 0 (aG s.1).length),(11,.d (.v (.int .i64 s.2)))]) (λs=>[(0,.row 9 1 (aG s.1))]) g ?_;rintro n ⟨s1,s2⟩ _ g;change uB (Gf n) a0 a1 s1 s2=_ at g;rw[uB]at g;refine yz ?_
 refine bp g λ_ g=>?_;refine yX g pf λx _ _ g=>?_;refine aA g ?_ ?_<;>intro _ g;refine yX g dF λx _ _ g=>?_;obtain⟨k,g⟩:=bL g;refine yk<|DO.dQ rfl rfl zg rfl rfl zg rfl rfl rfl rfl rfl rfl (zo k) (yz ?_)
 iterate 2 (exact yk (yN (_,_) n ⟨by omega,g⟩))
theorem ami {n} (o:Of n):Zm (wD (Gf n)):=by
 intro a0 a1 a2 r g;rw[wD]at g;refine yw func192 ntmps192 ?_;refine yk<|au.inl (rs:=_) rfl func238 rfl zk rfl ntmps238 rfl rfl (yz ?_)
 refine yk<|yL (S:=Int×Int) (G:=λm s=>ri (Gf m) a0 a1 a2 s.1 s.2) (s0:=(0,0)) 0 [0,1,4,10,11] [5,12] (λs=>[(5,.d (.v (.int .i64 s.1))),(12,.d (.v (.int .i64 s.2)))]) (λs=>[]) g ?_;rintro n ⟨s1,s2⟩ _ g;change uD (Gf n) a0 a1 a2 s1 s2=_ at g;rw[uD]at g;refine yz ?_
 refine aA g ?_ ?_<;>intro _ g;refine yX g dF λx _ _ g=>?_;refine yc g (o.a.nT _) λy g=>?_;refine aQ g λ_ g=>?_;exact yk (yN (_,_) n ⟨by omega,g⟩);refine yc g (o.a.oM _) λy g=>?_;refine aQ g λ_ g=>?_;refine yk<|au.inl (rs:=_) rfl func277 rfl zk rfl ntmps277 rfl rfl (yz ?_)
 refine Ok.stuck aU ?_;refine au.gH 0 1 300 2 1 rfl rfl rfl ?_;refine yL (S:=Int×Int×(List dd)) (G:=λm s=>rj (Gf m) a0 a1 a2 s1 s2 y s.1 s.2.1 s.2.2) (s0:=(0,0,[])) 2 [0,1,11,12] [4,13] (λs=>[(4,.d (.v (.int .i64 s.1))),(13,.d (.v (.int .i64 s.2.1)))]) (λs=>[(1,.row 300 2 (dd.rows s.2.2)),(0,.box [.d (.sl 1 (aG a0)),.os 1 (dd.rows s.2.2).length])]) g ?_;rintro n ⟨s10,s11,s13⟩ _ g;change uE (Gf n) a0 a1 a2 s1 s2 y s10 s11 s13=_ at g;rw[uE]at g;refine yz ?_;refine aA g ?_ ?_<;>intro _ g;refine yX g aV.aE λx _ _ g=>?_;refine yc g (o.a.oM _) λv g=>?_;refine aQ g λ_ g=>?_;refine yc g (o.a.Oq _ _) λy2 g=>?_;refine Ok.stuck aU ?_;refine au.gH 3 0 3 1 4 rfl rfl rfl ?_;refine yL (S:=Int×Int×(List Int)) (G:=λm s=>rk (Gf m) a0 a1 a2 s1 s2 y s10 s11 s13 x v y2 s.1 s.2.1 s.2.2) (s0:=(s10,0,[])) 5 [0,1,7,11,12,13,14,15,16,17,18,19,20,21,22,23,24,25,26,27,28] [4,29] (λs=>[(4,.d (.v (.int .i64 s.1))),(29,.d (.v (.int .i64 s.2.1)))]) (λs=>[(4,.row 3 1 (dS .i64 s.2.2)),(3,.box [.os 4 (dS .i64 s.2.2).length,.d (.v (.int .i64 y2))])]) g ?_;rintro n ⟨s20,s21,s22⟩ _ g;change uF (Gf n) a0 a1 a2 s1 s2 y s10 s11 s13 x v y2 s20 s21 s22=_ at g;rw[uF]at g;refine yz ?_;refine aA g ?_ ?_<;>intro _ g;refine yX g dF λx _ _ g=>?_;refine yc g (o.a.Oq _ _) λy g=>?_;refine aQ g λ_ g=>?_;obtain⟨k,g⟩:=bL g;refine yk<|DO.dQ rfl rfl zg rfl rfl zg rfl rfl rfl rfl rfl rfl (zo k) (yz ?_)
 exact yk (yN (_,_,_) n ⟨by omega,g⟩);refine aQ g λ_ g=>?_;refine yk<|au.I8 3 0 rfl rfl rfl rfl (yz ?_)
 refine yo [] (tk [0,3,6,9,12,15,18,22,24,27,31]) [] ?_
 iterate 2 (refine yt zp ?_)
 obtain⟨k,g⟩:=bL g;refine yk<|au.eG (rows2:=(dd.rows ([{oh:=s22,lR:=y2:dd}]))) zp rfl rfl rfl rfl rfl zg rfl zi rfl rfl (dd.cv _) rfl rfl (zo k) (yz ?_)
 iterate 3 (refine yt zp ?_)
 exact yk (yN (_,_,_) n ⟨by omega,g⟩);refine yk<|au.cO (t:=21) rfl rfl (gG rfl aU) (yz ?_)
 refine yc g (o.a.anf _ _) λy g=>?_;refine aQ g λ_ g=>?_;refine yc g (o.a.ani _ _) λy g=>?_;refine yc g (o.a.anj _ _) λy g=>?_;cases g;exact zl
theorem amj {n} (o:Of n):Zn (AW (Gf n)):=by
 intro a0 a1 r g;rw[AW]at g;refine yw func242 ntmps242 ?_;refine yc g (o.a.Gz _ _) λy g=>?_;cases g;exact zl
theorem ac6 {n} (o:Of n):Sk (tC (Gf n)):=by
 intro a0 a1 r g;rw[tC]at g;refine yw func199 ntmps199 ?_;refine yk<|yL (S:=Int) (G:=λm s=>xB (Gf m) a0 a1 s) (s0:=0) 0 [0,1,4,7] [8] (λs=>[(8,.d (.v (.int .i64 s)))]) (λs=>[]) g ?_;rintro n s1 _ g;change xC (Gf n) a0 a1 s1=_ at g;rw[xC]at g;refine yz ?_
 refine bp g λ_ g=>?_;refine yX g az.aE λx _ _ g=>?_;refine yc g (o.a.ank _ _) λy g=>?_;refine aQ g λ_ g=>?_;exact yk (yN _ n ⟨by omega,g⟩)
theorem ac7 {n} (o:Of n):Sm (xU (Gf n)):=by
 intro a0 a1 r g;rw[xU]at g;refine yw func142 ntmps142 ?_;refine yc g (o.a.adb _ _) λy g=>?_;cases g;exact zl
theorem amk {n} (o:Of n):Zo (wA (Gf n)):=by
 intro a0 a1 r g;rw[wA]at g;refine yw func193 ntmps193 ?_;refine Ok.stuck aU ?_;refine au.kv 5 126 2 0 rfl rfl ?_;refine yL (S:=(List az)×Int) (G:=λm s=>pC (Gf m) a0 a1 s.1 s.2) (s0:=([],0)) 1 [0,1,4,10,11] [5,12] (λs=>[(5,.os 0 (az.rows s.1).length),(12,.d (.v (.int .i64 s.2)))]) (λs=>[(0,.row 126 2 (az.rows s.1))]) g ?_;rintro n ⟨s1,s2⟩ _ g;change uw (Gf n) a0 a1 s1 s2=_ at g;rw[uw]at g;refine yz ?_;refine zs g ?_ ?_<;>(clear g;intro k g);obtain⟨x,w,j,g⟩:=cE g;refine yv (yI j (az.aE w)) ?_;refine yc g (o.a.c95 _ _) λy g=>?_;refine zs g ?_ ?_<;>(clear g;intro k g);refine yk<|au.fM 2 (rows':=az.rows ([x])) rfl zi (yz ?_)
 obtain⟨k,g⟩:=bL g;refine yk<|DO.dQ rfl rfl zg rfl rfl zg rfl rfl (az.cv _) rfl rfl rfl (zo k) (yz ?_)
 iterate 2 (exact yk (yN (_,_) n ⟨by omega,g⟩))
 refine yk<|yL (S:=(List az)×Int) (G:=λm s=>pD (Gf m) a0 a1 s.1 s.2) (s0:=(s1,0)) 1 [0,1,4,10,11,12,25,26] [5,27] (λs=>[(5,.os 0 (az.rows s.1).length),(27,.d (.v (.int .i64 s.2)))]) (λs=>[(0,.row 126 2 (az.rows s.1))]) g ?_;rintro n ⟨s9,s10⟩ _ g;change ux (Gf n) a0 a1 s9 s10=_ at g;rw[ux]at g;refine yz ?_
 refine zs g ?_ ?_<;>(clear g;intro k g);obtain⟨x,w,j,g⟩:=cE g;refine yv (yI j (az.aE w)) ?_;refine yc g (o.a.ade _ _) λy g=>?_;refine zs g ?_ ?_<;>(clear g;intro k g);refine yk<|au.fM 2 (rows':=az.rows ([x])) rfl zi (yz ?_)
 obtain⟨k,g⟩:=bL g;refine yk<|DO.dQ rfl rfl zg rfl rfl zg rfl rfl (az.cv _) rfl rfl rfl (zo k) (yz ?_)
 iterate 2 (exact yk (yN (_,_) n ⟨by omega,g⟩))
 obtain⟨y,z,g⟩:=bx g (o.a.I2 _);obtain⟨k,g⟩:=bL g;refine yk<|au.mF 0 z rfl rfl (by first|rfl|(simp only[iQ];rfl)) rfl (oF.row zi) rfl ?_;refine au.nP (m:=(az.rows y.2).length) 5 rfl (iV k) ?_;refine au.nP (m:=(az.rows y.2).length) 40 rfl (iV k) (yz ?_)
 cases g;exact zl
theorem aml {n} (o:Of n):Zp (AU (Gf n)):=by
 intro a0 a1 a2 r g;rw[AU]at g;refine yw func138 ntmps138 ?_;refine aA g ?_ ?_<;>intro _ g;refine yc g (o.a.Oo _ _) λy g=>?_;cases g;exact yj;refine aA g ?_ ?_<;>intro _ g;refine yo [0,1,2,3,4,5,6,7,8,9,10,11,12,13,14] [] [] ?_;obtain⟨y,z,g⟩:=bx g (o.a.Oo _ _);refine yl (yC z) ?_;obtain⟨y,z,g⟩:=bx g (o.a.ZU _ _ _);refine yl (yC z) ?_;cases g;exact yj;refine aA g ?_ ?_<;>intro _ g;refine yc g (o.a.anl _ _) λy g=>?_;cases g;exact yj;refine aA g ?_ ?_<;>intro _ g;refine yc g (o.a.Oo _ _) λy g=>?_;refine Ok.stuck aU ?_;refine au.gH 4 2 40 4 5 rfl rfl rfl ?_;refine yL (S:=Int×(List ah)) (G:=λm s=>nr (Gf m) a0 a1 a2 y s.1 s.2) (s0:=(0,[])) 6 [3,4,5,6,9,61,62] [63] (λs=>[(63,.d (.v (.int .i64 s.1)))]) (λs=>[(5,.row 40 4 (ah.rows s.2)),(4,.box [.d (.v (.int .i64 0)),.d (.sl 1 (aG y)),.os 5 (ah.rows s.2).length,.d (.v (.slice none 0 0))])]) g ?_;rintro n ⟨s10,s13⟩ _ g;change uq (Gf n) a0 a1 a2 y s10 s13=_ at g;rw[uq]at g;refine yz ?_;refine bp g λ_ g=>?_;refine yX g dF λx _ _ g=>?_;refine yo [0,1,2,3,4,5,6,7,8,9] [] [] ?_
 iterate 2 (obtain⟨y,z,g⟩:=bx g (o.a.xm _ _);refine yl (yC z) ?_)
 iterate 2 (refine aA g ?_ ?_<;>intro _ g;refine yo [0,1,2,3,4,5,6,7] (tk [25,27,31]) [] ?_;refine yY g ah.aE λx _ _ g=>?_;obtain⟨k,g⟩:=bL g;refine yk<|au.eG (rows2:=(ah.rows ([x]))) aI.nil rfl rfl rfl rfl rfl zg rfl zi rfl rfl (ah.cv _) rfl rfl (zo k) (yz ?_);exact yk (yN (_,_) n ⟨by omega,g⟩))
 refine yo [0,1,2,3,4,5,6,7,8,9,10,11,12,13,14,15,16,17] (tk [55,57,61]) [] ?_;refine yY g ai.aE λx _ _ g=>?_
 iterate 2 (refine yY g ah.aE λx _ _ g=>?_)
 obtain⟨y,z,g⟩:=bx g (o.a.GA _ _ _);refine yl (yC z) ?_;obtain⟨k,g⟩:=bL g;refine yk<|au.eG (rows2:=(ah.rows ([y]))) aI.nil rfl rfl rfl rfl rfl zg rfl zi rfl rfl (ah.cv _) rfl rfl (zo k) (yz ?_)
 exact yk (yN (_,_) n ⟨by omega,g⟩);refine aA g ?_ ?_<;>intro _ g;refine Ok.stuck aU ?_;refine au.gH 4 2 40 4 5 rfl rfl rfl ?_;refine yL (S:=Int×(List ah)) (G:=λm s=>re (Gf m) a0 a1 a2 s.1 s.2) (s0:=(0,[])) 6 [3,4,5,6,14,126,127] [128] (λs=>[(128,.d (.v (.int .i64 s.1)))]) (λs=>[(5,.row 40 4 (ah.rows s.2)),(4,.box [.d (.v (.int .i64 0)),.d (.v (.slice none 0 0)),.os 5 (ah.rows s.2).length,.d (.v (.slice none 0 0))])]) g ?_;rintro n ⟨s37,s40⟩ _ g;change uv (Gf n) a0 a1 a2 s37 s40=_ at g;rw[uv]at g;refine yz ?_;refine bp g λ_ g=>?_;refine yX g ai.aE λx _ _ g=>?_;refine yo [0,1,2,3,4,5,6,7,8,9,10,11,12,13,14] (tk [46,48,52]) [] ?_
 iterate 2 (refine yY g ah.aE λx _ _ g=>?_)
 obtain⟨y,z,g⟩:=bx g (o.a.GA _ _ _);refine yl (yC z) ?_;obtain⟨k,g⟩:=bL g;refine yk<|au.eG (rows2:=(ah.rows ([y]))) aI.nil rfl rfl rfl rfl rfl zg rfl zi rfl rfl (ah.cv _) rfl rfl (zo k) (yz ?_)
 exact yk (yN (_,_) n ⟨by omega,g⟩);refine aA g ?_ ?_<;>intro _ g;refine yo [0,1,2,3,4,5,6,7,8] [] [] ?_
 iterate 2 (refine yY g ah.aE λx _ _ g=>?_)
 obtain⟨y,z,g⟩:=bx g (o.a.De _ _);refine yl (yC z) ?_;refine aA g ?_ ?_<;>intro _ g;refine yo [0,1,2,3,4,5,6,7,8,9,10,11,12,13,14,15,16,17,18] [(19,.one)] [] ?_;refine yY g ah.aE λx _ _ g=>?_;refine yY g ai.aE λx _ _ g=>?_
 iterate 2 (refine yY g ah.aE λx _ _ g=>?_)
 obtain⟨y,z,g⟩:=bx g (o.a.GA _ _ _);refine yl (yC z) ?_;cases g;exact yj
 iterate 2 (refine yc g (o.a.xn _ _ _) λy g=>?_;refine aQ g λ_ g=>?_;refine yc g (o.a.xn _ _ _) λy g=>?_;exact dM g)
theorem amm {n} (o:Of n):Zq (wu (Gf n)):=by
 intro a0 r g;rw[wu]at g;refine yw func130 ntmps130 ?_;refine Ok.stuck aU<|au.jg 3 rfl ?_ ?_
 intro cap k;replace g:(some ([]))=some r:=(by have l:a0=[]:=DA.1 (by have k:=congrArg List.length k;simpa only[aj.aF,lG]using k);subst l;simpa using g);refine yz ?_;refine yv (bA.toP (bA.lY (et:=161) rfl zk rfl rfl)) ?_;cases g;exact yj;intro ad n0 cap;refine yz ?_;refine yv (bA.toP (bA.lY (et:=161) rfl zk rfl rfl)) ?_;obtain⟨k,g⟩:=bL g;refine yk<|DO.r9 (rows2:=(aj.rows a0)) rfl rfl zg rfl (cq.refl _) rfl rfl (aj.cv _) rfl rfl rfl (zo k) (yz ?_)
 cases g;exact zl
theorem amn {n} (o:Of n):Zr (AS (Gf n)):=by
 intro a0 r g;rw[AS]at g;refine yw func139 ntmps139 ?_;refine yo [0,1,2,3,4,5,6] [(7,.one)] [] ?_;obtain⟨y,z,g⟩:=bx g (o.a.w4 _);refine yl (yC z) ?_;refine Ok.stuck aU ?_;refine au.gH 2 2 40 4 3 rfl rfl rfl ?_;refine yL (S:=Int×(List ah)) (G:=λm s=>ra (Gf m) a0 y s.1 s.2) (s0:=(0,[])) 4 [1,2,3,15,16] [17] (λs=>[(17,.d (.v (.int .i64 s.1)))]) (λs=>[(3,.row 40 4 (ah.rows s.2)),(2,.box [.d (.v (.int .i64 a0.N)),.d (.sl 1 (aG y)),.os 3 (ah.rows s.2).length,.d (.v (.slice none 0 0))])]) g ?_;rintro n ⟨s2,s5⟩ _ g;change uo (Gf n) a0 y s2 s5=_ at g;rw[uo]at g;refine yz ?_;refine aA g ?_ ?_<;>intro _ g;refine yX g ah.aE λx _ _ g=>?_;refine yo [0,1,2,3,4] (tk [16,18,22]) [] ?_;obtain⟨v,z,g⟩:=bx g (o.a.ZW _);refine yl (yC z) ?_;obtain⟨k,g⟩:=bL g;refine yk<|au.eG (rows2:=(ah.rows ([v]))) aI.nil rfl rfl rfl rfl rfl zg rfl zi rfl rfl (ah.cv _) rfl rfl (zo k) (yz ?_)
 exact yk (yN (_,_) n ⟨by omega,g⟩);refine Ok.stuck aU ?_;refine au.gH 2 3 126 2 4 rfl rfl rfl ?_;refine yL (S:=Int×(List ah)×(List az)) (G:=λm s=>pB (Gf m) a0 y s.1 s.2.1 s.2.2) (s0:=(0,s5,[])) 5 [1,2,3,15,16,17,30,31] [32] (λs=>[(32,.d (.v (.int .i64 s.1)))]) (λs=>[(3,.row 40 4 (ah.rows s.2.1)),(4,.row 126 2 (az.rows s.2.2)),(2,.box [.d (.v (.int .i64 a0.N)),.d (.sl 1 (aG y)),.os 3 (ah.rows s.2.1).length,.os 4 (az.rows s.2.2).length])]) g ?_;rintro n ⟨s12,s15,s16⟩ _ g;change um (Gf n) a0 y s12 s15 s16=_ at g;rw[um]at g;refine yz ?_;refine bp g λ_ g=>?_;refine yX g az.aE λx _ _ g=>?_;refine yo [0,1,2,3,4,5,6,7,8] (tk [28,30,34]) [] ?_;obtain⟨y,z,g⟩:=bx g (o.a.ZV _);refine yl (yC z) ?_;obtain⟨k,g⟩:=bL g;refine yk<|au.eG (rows2:=(az.rows ([{a8:=y,Name:=x.Name:az}]))) aI.nil rfl rfl rfl rfl rfl zg rfl zi rfl rfl (az.cv _) rfl rfl (zo k) (yz ?_)
 exact yk (yN (_,_,_) n ⟨by omega,g⟩)
theorem w90 {n} (o:Of n):C90 (CL (Gf n)):=by
 intro a0 a1 r g;rw[CL]at g;refine yw func90 ntmps90 ?_;refine yc g (o.a.c44 _ _) λy g=>?_;refine aQ g λ_ g=>?_;refine yc g (o.a.ana _) λy g=>?_;refine yk<|yL (S:=Int×ah) (G:=λm s=>Fz (Gf m) a0 a1 s.1 s.2) (s0:=(0,y)) 3 [2,4,5,7,19,20] [21] (λs=>[(21,.d (.v (.int .i64 s.1)))]) (λs=>[(2,.box ((ah.cs s.2).map .d))]) g ?_;rintro n ⟨s4,s5⟩ _ g;change rF (Gf n) a0 a1 s4 s5=_ at g;rw[rF]at g;refine yz ?_
 refine aA g ?_ ?_<;>intro _ g;refine yX g ah.aE λx _ _ g=>?_;refine yc g (o.a.GA _ _ _) λy g=>?_;exact yk (yN (_,_) n ⟨by omega,g⟩);refine yc g (o.a.ZW _) λy g=>?_;cases g;exact zl
theorem w43 {n} (o:Of n):C43 (CK (Gf n)):=by
 intro a0 a1 a2 r g;rw[CK]at g;refine yw func43 ntmps43 ?_;refine yk<|au.cO (t:=11) rfl rfl (gG rfl aU) (yz ?_)
 refine yc g (o.a.c90 _ _) λy g=>?_;cases g;exact zl
theorem amo {n} (o:Of n):Zs (AI (Gf n)):=by
 intro a0 r g;rw[AI]at g;refine yw func181 ntmps181 ?_;refine yv (bA.toP (bA.min2 rfl rfl rfl)) ?_;refine yv (bA.toP (bA.max2 rfl rfl rfl)) ?_;cases g;exact zl
theorem amp {n} (o:Of n):Zt (Bl (Gf n)):=by
 intro a0 a1 r g;rw[Bl]at g;refine yw func184 ntmps184 ?_;refine aQ g λ_ g=>?_;refine yc g (o.a.Oe _ _) λy g=>?_;cases g;exact zl
theorem amq {n} (o:Of n):Zu (AN (Gf n)):=by
 intro a0 a1 r g;rw[AN]at g;refine yw func269 ntmps269 ?_;refine yc g (o.a.Ov _ _) λy g=>?_;cases g;exact zl
theorem ac8 {n} (o:Of n):Sn (tB (Gf n)):=by
 intro a0 a1 r g;rw[tB]at g;refine yw func175 ntmps175 ?_;refine yk<|yL (S:=Int) (G:=λm s=>qH (Gf m) a0 a1 s) (s0:=0) 0 [0,1,4,7] [8] (λs=>[(8,.d (.v (.int .i64 s)))]) (λs=>[]) g ?_;rintro n s1 _ g;change sT (Gf n) a0 a1 s1=_ at g;rw[sT]at g;refine yz ?_
 refine bp g λ_ g=>?_;refine yX g dF λx _ _ g=>?_;refine yc g (o.a.ZX _ _) λy g=>?_;refine aQ g λ_ g=>?_;exact yk (yN _ n ⟨by omega,g⟩)
theorem amr {n} (o:Of n):Zv (AO (Gf n)):=by
 intro a0 a1 r g;rw[AO]at g;refine yw func233 ntmps233 ?_;obtain⟨y,z,g⟩:=bx g (o.a.FQ _);refine yk<|au.J2 z rfl rfl (by first|rfl|(simp only[iQ];rfl)) rfl (yz ?_)
 refine yk<|au.inl (rs:=_) rfl func268 rfl zk rfl ntmps268 rfl rfl (yz ?_)
 refine yc g (o.a.adf _ _) λv g=>?_;refine zs g ?_ ?_<;>(clear g;intro k g);cases g;exact zl;refine yk<|au.r8 (t:=1) rfl rfl aU (yz ?_)
 refine yk<|yL (S:=(List (List UInt8))×Int×Int) (G:=λm s=>pA (Gf m) a0 s.1 s.2.1 s.2.2) (s0:=(y,v,IntKind.i64.wrap (v+1))) 2 [1,4] [0,5,6] (λs=>[(0,.os 1 (aG s.1).length),(5,.d (.v (.int .i64 s.2.1))),(6,.d (.v (.int .i64 s.2.2)))]) (λs=>[(1,.row 9 1 (aG s.1))]) g ?_;rintro n ⟨s4,s5,s6⟩ _ g;change uj (Gf n) a0 s4 s5 s6=_ at g;rw[uj]at g;refine yz ?_
 refine zs g ?_ ?_<;>(clear g;intro k g);obtain⟨x,w,j,g⟩:=cE g;refine yv (yr j w) ?_;refine yv (ym s6.toNat 0 (dF w)) ?_;refine yc g (o.a.ZX _ _) λy g=>?_;refine zs g ?_ ?_<;>(clear g;intro k g);obtain⟨x,w,j,g⟩:=cE g;refine yv (yr j w) ?_;refine yk<|au.lL s5.toNat 0 (by rfl) (by rfl) (by rfl) (by rfl) (by rfl) (by rfl) zg (by rfl) (yg (dF w)) (by rfl) (by rfl) (by rfl) (by rfl) (yz ?_)
 iterate 2 (exact yk (yN (_,_,_) n ⟨by omega,g⟩))
 obtain⟨k,g⟩:=bL g;refine yk<|au.acd (rows2:=(aG (List.take (s5:Int).toNat s4++List.replicate ((s4).length-(s5:Int).toNat) []))) ((s5:Int).toNat) rfl rfl zg rfl (Int.toNat_of_nonneg (iV k).1).symm (by simpa only[bH,lF]using(iV k).2) rfl Tryz.zeroValue9 rfl rfl rfl (by first|(simp only[aG,oX,Hb,DB,jy];done)|(simp only[aG,oX,Hb,DB,jy];rfl)) ?_;refine au.nP (m:=(aG (List.take (s5:Int).toNat s4++List.replicate ((s4).length-(s5:Int).toNat) [])).length) 0 rfl (by have l:=(iV k).2;simp only[bH,jS,iv,oY,lF]at l⊢;omega) ?_;refine au.nP (m:=(aG (List.take (s5:Int).toNat s4++List.replicate ((s4).length-(s5:Int).toNat) [])).length) 36 rfl (by have l:=(iV k).2;simp only[bH,jS,iv,oY,lF]at l⊢;omega) ?_;refine au.nP (m:=(aG (List.take (s5:Int).toNat s4++List.replicate ((s4).length-(s5:Int).toNat) [])).length) 17 rfl (by have l:=(iV k).2;simp only[bH,jS,iv,oY,lF]at l⊢;omega) (yz ?_)
 obtain⟨x,w,g⟩:=cy g;obtain⟨j16a,j16b,j,j16i,j16k,j16m,w⟩:=QY w;refine yv (bA.toP (bA.conv (bA.part j16a j16b rfl rfl rfl (I' (by omega)) (I9 j16i rfl) j16k (by simpa only[bH]using j16m)) (by rw[<-w];simp only[QT,QU])) (x:= .d (.sl 1 (aG x)))) ?_;cases g;exact zl
theorem ams {n} (o:Of n):Zw (A4 (Gf n)):=by
 intro a0 a1 r g;rw[A4]at g;refine yw func151 ntmps151 ?_;refine yo [0,1,2,3,4,5,6,7,8,9] [] [] ?_;obtain⟨y,z,g⟩:=bx g (o.a.Dd _);refine yl (yC z) ?_;refine bp g λ_ g=>?_;obtain⟨y,z,g⟩:=bx g (o.a.Ci _);refine yl (yC z) ?_;obtain⟨y,z,g⟩:=bx g (o.a.De _ _);refine yl (yC z) ?_;cases g;exact zl
theorem amt {n} (o:Of n):Zx (AK (Gf n)):=by
 intro r g;rw[AK]at g;refine yw func270 ntmps270 ?_;cases g;exact yj
theorem amu {n} (o:Of n):Zy (A9 (Gf n)):=by
 intro a0 a1 r g;rw[A9]at g;refine yw func274 ntmps274 ?_;refine yv (bA.toP (bA.max2 rfl rfl rfl)) ?_;cases g;exact zl
set_option maxHeartbeats 0 in
theorem aeB {n} (o:Of n):Ty (yK (Gf n)):=by
 intro a0 a1 r g;rw[yK]at g;refine yw func265 ntmps265 ?_
 iterate 2 (refine yc g (o.a.w5 _) λy g=>?_;refine aQ g λ_ g=>?_)
 refine Ok.stuck aU ?_;refine au.kv 7 161 2 0 rfl rfl ?_;refine yL (S:=(List aj)×(List aj)×(List aj)) (G:=λm s=>gr (Gf m) s.1 s.2.1 s.2.2) (s0:=(a0,a1,[])) 1 [2,6] [0,1,7] (λs=>[(0,.d (.sl 2 (aj.rows s.1))),(1,.d (.sl 2 (aj.rows s.2.1))),(7,.os 0 (aj.rows s.2.2).length)]) (λs=>[(0,.row 161 2 (aj.rows s.2.2))]) g ?_;rintro n ⟨s5,s6,s7⟩ _ g;change DP (Gf n) s5 s6 s7=_ at g;rw[DP]at g;refine yz ?_;refine aA g (λk g=>?_) λk g=>?_;refine yo [0,1,2,3,4,5,6,7,8,9,10,11,12,13,14,15,16,17,18,19] [] [] ?_;refine aA g ?_ ?_<;>intro _ g;refine yo [0,1,2,3,4,5,6,7,8,9,10,11,12] [] [] ?_;refine yY g aj.aE λx _ _ g=>?_;refine yY g aj.aE λt _ _ g=>?_;obtain⟨t,w,g⟩:=cy g;refine yl (yQ aj.bg w) ?_;refine yc g (o.a.oP _ _) λy g=>?_;refine aA g ?_ ?_<;>intro _ g;refine yk<|au.fM 1 (rows':=aj.rows ([{Process:=x.Process,N:=y:aj}])) rfl zi (yz ?_)
 obtain⟨l,g⟩:=bL g;refine yk<|DO.dQ rfl rfl zg rfl rfl zg rfl rfl (aj.cv _) rfl rfl rfl (zo l) (yz ?_)
 exact yk (yN (_,_,_) n ⟨by omega,g⟩);exact yk (yN (t,s6,s7) n ⟨by omega,g⟩);refine Ok.kZ k ?_;conv=>(arg 3;whnf)
 iterate 2 (refine yY g aj.aE λx _ _ g=>?_)
 refine aA g ?_ ?_<;>intro _ g;refine yo [0,1,2,3,4,5,6,7,8,9,10,11,12] [] [] ?_;refine yY g aj.aE λx _ _ g=>?_;refine yY g aj.aE λt _ _ g=>?_;obtain⟨t,w,g⟩:=cy g;refine yl (yQ aj.bg w) ?_;refine yc g (o.a.oP _ _) λy g=>?_;refine aA g ?_ ?_<;>intro _ g;refine yk<|au.fM 1 (rows':=aj.rows ([{Process:=x.Process,N:=y:aj}])) rfl zi (yz ?_)
 obtain⟨l,g⟩:=bL g;refine yk<|DO.dQ rfl rfl zg rfl rfl zg rfl rfl (aj.cv _) rfl rfl rfl (zo l) (yz ?_)
 exact yk (yN (_,_,_) n ⟨by omega,g⟩);exact yk (yN (t,s6,s7) n ⟨by omega,g⟩);refine yo [0,1,2,3,4,5,6,7,8,9,10,11,12,13,14] [] [] ?_;refine aA g ?_ ?_<;>intro _ g;refine yo [0,1,2,3,4,5,6,7,8,9,10,11,12] [] [] ?_;refine yY g aj.aE λx _ _ g=>?_;refine yY g aj.aE λt _ _ g=>?_;obtain⟨t,w,g⟩:=cy g;refine yl (yQ aj.bg w) ?_;refine yc g (o.a.oP _ _) λy g=>?_;refine aA g ?_ ?_<;>intro _ g;refine yk<|au.fM 1 (rows':=aj.rows ([{Process:=x.Process,N:=y:aj}])) rfl zi (yz ?_)
 obtain⟨l,g⟩:=bL g;refine yk<|DO.dQ rfl rfl zg rfl rfl zg rfl rfl (aj.cv _) rfl rfl rfl (zo l) (yz ?_)
 exact yk (yN (_,_,_) n ⟨by omega,g⟩);exact yk (yN (s5,t,s7) n ⟨by omega,g⟩)
 iterate 2 (refine yY g aj.aE λx _ _ g=>?_)
 refine aA g ?_ ?_<;>intro _ g;refine yo [0,1,2,3,4,5,6,7,8,9,10,11,12] [] [] ?_;refine yY g aj.aE λx _ _ g=>?_;refine yY g aj.aE λt _ _ g=>?_;obtain⟨t,w,g⟩:=cy g;refine yl (yQ aj.bg w) ?_;refine yc g (o.a.oP _ _) λy g=>?_;refine aA g ?_ ?_<;>intro _ g;refine yk<|au.fM 1 (rows':=aj.rows ([{Process:=x.Process,N:=y:aj}])) rfl zi (yz ?_)
 obtain⟨l,g⟩:=bL g;refine yk<|DO.dQ rfl rfl zg rfl rfl zg rfl rfl (aj.cv _) rfl rfl rfl (zo l) (yz ?_)
 exact yk (yN (_,_,_) n ⟨by omega,g⟩);exact yk (yN (s5,t,s7) n ⟨by omega,g⟩);refine yo [0,1,2,3,4,5,6,7,8,9,10,11,12,13,14,15,16,17,18,19,20] [] [] ?_;refine yY g aj.aE λx _ _ g=>?_
 iterate 2 (refine yY g aj.aE λt _ _ g=>?_)
 obtain⟨t,w,g⟩:=cy g;refine yl (yQ aj.bg w) ?_;obtain⟨x2,w,g⟩:=cy g;refine yl (yQ aj.bg w) ?_;refine yc g (o.a.oP _ _) λy g=>?_;refine aA g ?_ ?_<;>intro _ g;refine yk<|au.fM 1 (rows':=aj.rows ([{Process:=x.Process,N:=y:aj}])) rfl zi (yz ?_)
 obtain⟨l,g⟩:=bL g;refine yk<|DO.dQ rfl rfl zg rfl rfl zg rfl rfl (aj.cv _) rfl rfl rfl (zo l) (yz ?_)
 exact yk (yN (_,_,_) n ⟨by omega,g⟩);exact yk (yN (t,x2,s7) n ⟨by omega,g⟩);refine bp g λ_ g=>?_;refine yo [0,1,2,3,4,5,6,7,8,9,10,11,12,13,14,15,16,17,18,19] [] [] ?_;refine aA g ?_ ?_<;>intro _ g;refine yo [0,1,2,3,4,5,6,7,8,9,10,11,12] [] [] ?_;refine yY g aj.aE λx _ _ g=>?_;refine yY g aj.aE λt _ _ g=>?_;obtain⟨t,w,g⟩:=cy g;refine yl (yQ aj.bg w) ?_;refine yc g (o.a.oP _ _) λy g=>?_;refine aA g ?_ ?_<;>intro _ g;refine yk<|au.fM 1 (rows':=aj.rows ([{Process:=x.Process,N:=y:aj}])) rfl zi (yz ?_)
 obtain⟨l,g⟩:=bL g;refine yk<|DO.dQ rfl rfl zg rfl rfl zg rfl rfl (aj.cv _) rfl rfl rfl (zo l) (yz ?_)
 exact yk (yN (_,_,_) n ⟨by omega,g⟩);exact yk (yN (t,s6,s7) n ⟨by omega,g⟩);refine Ok.la k ?_;conv=>(arg 3;whnf)
 refine yo [0,1,2,3,4,5,6,7,8,9,10,11,12,13,14] [] [] ?_;refine aA g ?_ ?_<;>intro _ g;refine yo [0,1,2,3,4,5,6,7,8,9,10,11,12] [] [] ?_;refine yY g aj.aE λx _ _ g=>?_;refine yY g aj.aE λt _ _ g=>?_;obtain⟨t,w,g⟩:=cy g;refine yl (yQ aj.bg w) ?_;refine yc g (o.a.oP _ _) λy g=>?_;refine aA g ?_ ?_<;>intro _ g;refine yk<|au.fM 1 (rows':=aj.rows ([{Process:=x.Process,N:=y:aj}])) rfl zi (yz ?_)
 obtain⟨k,g⟩:=bL g;refine yk<|DO.dQ rfl rfl zg rfl rfl zg rfl rfl (aj.cv _) rfl rfl rfl (zo k) (yz ?_)
 exact yk (yN (_,_,_) n ⟨by omega,g⟩);exact yk (yN (s5,t,s7) n ⟨by omega,g⟩)
 iterate 2 (refine yY g aj.aE λx _ _ g=>?_)
 refine aA g ?_ ?_<;>intro _ g;refine yo [0,1,2,3,4,5,6,7,8,9,10,11,12] [] [] ?_;refine yY g aj.aE λx _ _ g=>?_;refine yY g aj.aE λt _ _ g=>?_;obtain⟨t,w,g⟩:=cy g;refine yl (yQ aj.bg w) ?_;refine yc g (o.a.oP _ _) λy g=>?_;refine aA g ?_ ?_<;>intro _ g;refine yk<|au.fM 1 (rows':=aj.rows ([{Process:=x.Process,N:=y:aj}])) rfl zi (yz ?_)
 obtain⟨k,g⟩:=bL g;refine yk<|DO.dQ rfl rfl zg rfl rfl zg rfl rfl (aj.cv _) rfl rfl rfl (zo k) (yz ?_)
 exact yk (yN (_,_,_) n ⟨by omega,g⟩);exact yk (yN (s5,t,s7) n ⟨by omega,g⟩);refine yo [0,1,2,3,4,5,6,7,8,9,10,11,12,13,14,15,16,17,18,19,20] [] [] ?_;refine yY g aj.aE λx _ _ g=>?_
 iterate 2 (refine yY g aj.aE λt _ _ g=>?_)
 obtain⟨t,w,g⟩:=cy g;refine yl (yQ aj.bg w) ?_;obtain⟨x2,w,g⟩:=cy g;refine yl (yQ aj.bg w) ?_;refine yc g (o.a.oP _ _) λy g=>?_;refine aA g ?_ ?_<;>intro _ g;refine yk<|au.fM 1 (rows':=aj.rows ([{Process:=x.Process,N:=y:aj}])) rfl zi (yz ?_)
 obtain⟨k,g⟩:=bL g;refine yk<|DO.dQ rfl rfl zg rfl rfl zg rfl rfl (aj.cv _) rfl rfl rfl (zo k) (yz ?_)
 exact yk (yN (_,_,_) n ⟨by omega,g⟩);exact yk (yN (t,x2,s7) n ⟨by omega,g⟩)
theorem amv {n} (o:Of n):Zz (Bb (Gf n)):=by
 intro a0 a1 r g;rw[Bb]at g;refine yw func235 ntmps235 ?_;refine yc g (o.a.aeI _ _) λy g=>?_;cases g;exact zl
theorem amw {n} (o:Of n):ZA (wo (Gf n)):=by
 intro a0 r g;rw[wo]at g;refine yw func272 ntmps272 ?_;refine Ok.stuck aU ?_;refine au.vC 3 rfl (cq.nil 2) ?_;refine yL (S:=(List aj)×Int) (G:=λm s=>zf (Gf m) a0 s.1 s.2) (s0:=([],0)) 1 [2,7,8] [3,9] (λs=>[(3,.d (.sl 2 (aj.rows s.1))),(9,.d (.v (.int .i64 s.2)))]) (λs=>[]) g ?_;rintro n ⟨s1,s2⟩ _ g;change zh (Gf n) a0 s1 s2=_ at g;rw[zh]at g;refine yz ?_;refine bp g λ_ g=>?_;refine yX g az.aE λx _ _ g=>?_;refine yc g (o.a.Ow _ _) λy g=>?_;exact yk (yN (_,_) n ⟨by omega,g⟩)
theorem amx {n} (o:Of n):ZB (Be (Gf n)):=by
 intro a0 a1 r g;rw[Be]at g;refine yw func284 ntmps284 ?_;refine yc g (o.a.w5 _) λy g=>?_;refine aQ g λ_ g=>?_;refine yk<|yL (S:=Int) (G:=λm s=>zy (Gf m) a0 a1 s) (s0:=0) 0 [1,4,10,11] [12] (λs=>[(12,.d (.v (.int .i64 s)))]) (λs=>[]) g ?_;rintro n s3 _ g;change uI (Gf n) a0 a1 s3=_ at g;rw[uI]at g;refine yz ?_
 refine bp g λ_ g=>?_;refine yX g aj.aE λx _ _ g=>?_;refine aQ g λ_ g=>?_;exact yk (yN _ n ⟨by omega,g⟩)
theorem amy {n} (o:Of n):ZC (Bf (Gf n)):=by
 intro a0 a1 r g;rw[Bf]at g;refine yw func271 ntmps271 ?_;refine yc g (o.a.w5 _) λy g=>?_
 iterate 3 (refine aQ g λ_ g=>?_)
 refine yc g (o.a.anq _ _) λy g=>?_;refine aQ g λ_ g=>?_;refine yk<|au.cO (t:=28) rfl rfl (gG rfl aU) (yz ?_)
 refine yc g (o.a.Ow _ _) λy g=>?_;cases g;exact zl
theorem amz {n} (o:Of n):ZD (AM (Gf n)):=by
 intro a0 a1 r g;rw[AM]at g;refine yw func273 ntmps273 ?_;cases g;exact yj
theorem amA {n} (o:Of n):ZE (AL (Gf n)):=by
 intro a0 a1 a2 r g;rw[AL]at g;refine yw func234 ntmps234 ?_;refine yo [0,1,2,3,4] [] [] ?_;obtain⟨y,z,g⟩:=bx g o.a.ano;refine yl (yC z) ?_;obtain⟨y,z,g⟩:=bx g (o.a.Dg _ _);refine yl (yC z) ?_
 iterate 3 (refine aQ g λ_ g=>?_)
 refine yc g (o.a.nT _) λy g=>?_;refine aQ g λ_ g=>?_;refine yc g (o.a.anp _) λy g=>?_;refine yc g (o.a.anr _ _) λy g=>?_;refine aQ g λ_ g=>?_;refine yc g (o.a.ans _ _) λy g=>?_;cases g;exact zl
theorem amB {n} (o:Of n):ZF (AJ (Gf n)):=by
 intro a0 a1 a2 r g;rw[AJ]at g;refine yw func185 ntmps185 ?_;refine yv (bA.toP (bA.min2 rfl rfl rfl)) ?_;refine yv (bA.toP (bA.max2 rfl rfl rfl)) ?_;refine yc g (o.a.ant _ _ _) λy g=>?_;refine aQ g λ_ g=>?_;refine Ok.stuck aU ?_;refine au.vC 10 rfl (cq.nil 2) ?_;refine yL (S:=(List aj)×Int) (G:=λm s=>ui (Gf m) a0 a2 s.1 s.2) (s0:=([],0)) 3 [2,3,6,8,27,28] [10,29] (λs=>[(10,.d (.sl 2 (aj.rows s.1))),(29,.d (.v (.int .i64 s.2)))]) (λs=>[]) g ?_;rintro n ⟨s3,s4⟩ _ g;change Fb (Gf n) a0 a2 s3 s4=_ at g;rw[Fb]at g;refine yz ?_;refine aA g ?_ ?_<;>intro _ g;refine yX g az.aE λx _ _ g=>?_;refine yc g (o.a.Ow _ _) λy g=>?_;exact yk (yN (_,_) n ⟨by omega,g⟩);refine yc g (o.a.PH _ _ _) λy g=>?_;cases g;exact zl
theorem amC {n} (o:Of n):ZG (AD (Gf n)):=by
 intro a0 r g;rw[AD]at g;refine yw func186 ntmps186 ?_;cases g;exact zl
theorem amD {n} (o:Of n):ZH (wg (Gf n)):=by
 intro a0 r g;rw[wg]at g;refine yw func187 ntmps187 ?_;refine yk<|yL (S:=Int×Int) (G:=λm s=>q8 (Gf m) a0 s.1 s.2) (s0:=(0,0)) 1 [2,7,8] [3,9] (λs=>[(3,.d (.v (.int .i64 s.1))),(9,.d (.v (.int .i64 s.2)))]) (λs=>[]) g ?_;rintro n ⟨s1,s2⟩ _ g;change ub (Gf n) a0 s1 s2=_ at g;rw[ub]at g;refine yz ?_
 refine bp g λ_ g=>?_;refine yX g ah.aE λx _ _ g=>?_;refine yc g (o.a.Ot _) λy g=>?_;exact yk (yN (_,_) n ⟨by omega,g⟩)
theorem amE {n} (o:Of n):ZI (wh (Gf n)):=by
 intro a0 r g;rw[wh]at g;refine yw func188 ntmps188 ?_;cases g;exact yj
theorem amF {n} (o:Of n):ZJ (wj (Gf n)):=by
 intro a0 r g;rw[wj]at g;refine yw func189 ntmps189 ?_;refine yk<|au.makeMap rfl rfl (yz ?_)
 refine Ok.stuck aU ?_;refine au.kv 4 9 1 2 rfl rfl ?_;refine yL (S:=(List (List UInt8))×Int×(List (List UInt8))) (G:=λm s=>pz (Gf m) a0 s.1 s.2.1 s.2.2) (s0:=([],0,[])) 3 [2,3,9,10] [4,11] (λs=>[(4,.os 2 (aG s.1).length),(11,.d (.v (.int .i64 s.2.1)))]) (λs=>[(2,.row 9 1 (aG s.1)),(1,.set s.2.2)]) g ?_;rintro n ⟨s1,s2,s3⟩ _ g;change ug (Gf n) a0 s1 s2 s3=_ at g;rw[ug]at g;refine yz ?_;refine zs g ?_ ?_<;>(clear g;intro k g);obtain⟨x,w,j,g⟩:=cE g;refine yv (yI j (az.aE w)) ?_;refine yv (bh.ace rfl Tryz.underlying247 Tryz.underlying9 Tryz.zeroValue4 rfl rfl rfl) ?_;refine zs g ?_ ?_<;>(clear g;intro k g);obtain⟨k,g⟩:=bL g;refine yk<|au.af3 Tryz.underlying247 Tryz.underlying9 rfl rfl rfl rfl (by simpa only[kn]using k) (yz ?_)
 obtain⟨k,g⟩:=bL g;refine yk<|DO.dQ rfl rfl zg rfl rfl zg rfl rfl rfl rfl rfl rfl (zo k) (yz ?_)
 iterate 2 (exact yk (yN (_,_,_) n ⟨by omega,g⟩))
 obtain⟨y,z,g⟩:=bx g (o.a.Ns _);obtain⟨k,g⟩:=bL g;refine yk<|au.mF 2 z rfl rfl (by first|rfl|(simp only[iQ];rfl)) rfl (oF.row zi) rfl ?_;refine au.nP (m:=(aG y.2).length) 4 rfl (iV k) ?_;refine au.nP (m:=(aG y.2).length) 29 rfl (iV k) (yz ?_)
 cases g;exact zl
/-(plexus.eval.frame).eval-/
theorem w86 {n} (o:Of n):C86 (mb (Gf n)):=by
 intro a0 a1 r g;rw[mb]at g;refine yw func86 ntmps86 ?_;refine aA g ?_ ?_<;>intro _ g;refine yc g (o.a.am6 _ _) λy g=>?_;cases g;exact zl;refine aA g ?_ ?_<;>intro _ g;refine yc g (o.a.anx _ _) λy g=>?_
 iterate 3 (cases g;exact zl;refine aA g ?_ ?_<;>intro _ g;refine yc g (o.a.anz _ _) λy g=>?_)
 cases g;exact zl;refine aA g ?_ ?_<;>intro _ g;refine yc g (o.a.anA _ _) λy g=>?_;cases g;exact zl;refine yc g (o.a.anC _ _) λy g=>?_;cases g;exact zl
/-(plexus.eval.frame).operator-/
set_option maxHeartbeats 0 in
theorem amG {n} (o:Of n):ZK (gO (Gf n)):=by
 intro a0 a1 r g;rw[gO]at g;refine yw func132 ntmps132 ?_;refine aA g ?_ ?_<;>intro _ g;refine yk<|au.cO (t:=15) rfl rfl aU (yz ?_)
 refine yc g (o.a.ke _ _ _) λy g=>?_;refine aA g ?_ ?_<;>intro _ g
 iterate 2 (refine yc g (o.a.ke _ _ _) λy g=>?_;cases g;exact zl)
 refine aA g ?_ ?_<;>intro _ g;refine yk<|au.cO (t:=26) rfl rfl aU (yz ?_)
 refine yc g (o.a.ke _ _ _) λy g=>?_;refine aA g ?_ ?_<;>intro _ g;refine yc g (o.a.lx _) λy g=>?_;cases g;exact zl;refine yc g (o.a.ke _ _ _) λy g=>?_;refine yc g (o.a.lx _) λy g=>?_;cases g;exact zl;refine aA g ?_ ?_<;>intro _ g;refine yk<|au.cO (t:=41) rfl rfl aU (yz ?_)
 refine yc g (o.a.ke _ _ _) λy g=>?_;refine aA g ?_ ?_<;>intro _ g;refine yc g (o.a.ke _ _ _) λy g=>?_
 iterate 2 (refine yc g (o.a.lx _) λy g=>?_;cases g;exact zl)
 refine aA g ?_ ?_<;>intro _ g;refine yk<|au.cO (t:=56) rfl rfl aU (yz ?_)
 refine yc g (o.a.ke _ _ _) λy g=>?_;refine yc g (o.a.lx _) λy g=>?_;cases g;exact zl;refine aA g ?_ ?_<;>intro _ g;refine yk<|au.cO (t:=64) rfl rfl aU (yz ?_)
 iterate 2 (refine yc g (o.a.ke _ _ _) λy g=>?_)
 refine yc g (o.a.lx _) λy g=>?_;cases g;exact zl;refine aA g ?_ ?_<;>intro _ g;refine yk<|au.cO (t:=76) rfl rfl aU (yz ?_)
 iterate 2 (refine yc g (o.a.ke _ _ _) λy g=>?_)
 refine yc g (o.a.lx _) λy g=>?_;cases g;exact zl;refine aA g ?_ ?_<;>intro _ g;refine yk<|au.cO (t:=88) rfl rfl aU (yz ?_)
 iterate 2 (refine yc g (o.a.ke _ _ _) λy g=>?_)
 iterate 2 (refine aA g ?_ ?_<;>intro _ g)
 refine yc g (o.a.am8 _ _) λy g=>?_
 iterate 3 (refine yc g (o.a.lx _) λy g=>?_;cases g;exact zl)
 refine aA g ?_ ?_<;>intro _ g;refine yk<|au.cO (t:=117) rfl rfl aU (yz ?_)
 iterate 2 (refine yc g (o.a.ke _ _ _) λy g=>?_)
 refine yc g (o.a.wZ _ _) λy g=>?_;refine yc g (o.a.lx _) λy g=>?_;cases g;exact zl;refine aA g ?_ ?_<;>intro _ g;refine yk<|au.r8 (t:=5) rfl rfl aU (yz ?_)
 refine yo [0,1,2,3,4,5,6,7,8,9,10,11,12,13] [(14,.one)] [] ?_;refine yY g ab.aE λx _ _ g=>?_
 iterate 2 (obtain⟨y,z,g⟩:=bx g (o.a.ke _ _ _);refine yl (yC z) ?_)
 obtain⟨y,z,g⟩:=bx g (o.a.c19 _ _ _);refine yl (yC z) ?_;obtain⟨y,z,g⟩:=bx g (o.a.lx _);refine yl (yC z) ?_;cases g;exact zl;refine aA g ?_ ?_<;>intro _ g;refine yk<|au.r8 (t:=5) rfl rfl aU (yz ?_)
 refine yo [] (tk [0,3,6,9,12,15,18,21,24,27,30,33,36,40,43,45]) [] ?_
 iterate 2 (refine yt zp ?_;obtain⟨y,z,g⟩:=bx g (o.a.ke _ _ _);refine yu zp (bA.call z rfl rfl) ?_;refine yt zp ?_)
 obtain⟨y,z,g⟩:=bx g (o.a.PH _ _ _);refine yu zp (bA.call z rfl rfl) ?_
 iterate 5 (refine yt zp ?_)
 cases g;exact yj;refine aA g ?_ ?_<;>intro _ g;refine yk<|au.cO (t:=162) rfl rfl aU (yz ?_)
 iterate 2 (refine yc g (o.a.ke _ _ _) λy g=>?_)
 refine yc g (o.a.Ot _) λy g=>?_;refine yc g (o.a.Cj _) λy g=>?_;cases g;exact zl;refine yk<|au.cO (t:=173) rfl rfl aU (yz ?_)
 iterate 2 (refine yc g (o.a.ke _ _ _) λy g=>?_)
 refine yc g (o.a.Ot _) λy g=>?_;refine yc g (o.a.Cj _) λy g=>?_;cases g;exact zl
/-(plexus.eval.frame).operator$1-/
theorem amH {n} (o:Of n):ZL (vZ (Gf n)):=by
 intro a0 a1 a2 r g;rw[vZ]at g;refine yw func179 ntmps179 ?_;refine yo [0,1,2,3,4,5,6] [(7,.one)] [] ?_;refine yY g ab.aE λx _ _ g=>?_;obtain⟨y,z,g⟩:=bx g (o.a.sM _ _);refine yl (yC z) ?_;cases g;exact zl
/-(plexus.eval.frame).part-/
theorem amI {n} (o:Of n):ZM (sr (Gf n)):=by
 intro a0 a1 r g;rw[sr]at g;refine yw func133 ntmps133 ?_;refine yo [0,1,2,3,4,5,6,7] [(8,.one)] [] ?_;refine yY g ab.aE λx _ _ g=>?_;obtain⟨y,z,g⟩:=bx g (o.a.sM _ _);refine yl (yC z) ?_
 iterate 3 (refine aA g ?_ ?_<;>intro _ g;refine yX g ah.aE λx _ _ g=>?_;cases g;exact yj)
 refine yo [0,1,2,3,4,5,6,7,8,9,10,11] [] [] ?_;refine yY g ab.aE λx _ _ g=>?_;obtain⟨y,z,g⟩:=bx g (o.a.sM _ _);refine yl (yC z) ?_;obtain⟨y,z,g⟩:=bx g (o.a.xm _ _);refine yl (yC z) ?_;refine aA g ?_ ?_<;>intro _ g;refine yX g ah.aE λx _ _ g=>?_;cases g;exact yj;refine yc g (o.a.Om _) λy g=>?_;cases g;exact yj
/-(plexus.eval.frame).constructor-/
theorem amJ {n} (o:Of n):ZN (jK (Gf n)):=by
 intro a0 a1 r g;rw[jK]at g;refine yw func134 ntmps134 ?_;refine aA g ?_ ?_<;>intro _ g;refine yk<|au.cO (t:=22) rfl rfl aU (yz ?_)
 refine yc g (o.a.sG _ _ _) λy g=>?_;cases g;exact yj;refine aA g ?_ ?_<;>intro _ g;refine yk<|au.r8 (t:=6) rfl rfl aU (yz ?_)
 refine yo [] (tk [0,3,6,9,12,15,18,21,25,28,30,33,37]) [] ?_
 iterate 3 (refine yt zp ?_)
 obtain⟨y,z,g⟩:=bx g (o.a.sG _ _ _);refine yu zp (bA.call z rfl rfl) ?_
 iterate 2 (refine yt zp ?_)
 refine ye zp (bA.toP (bA.min2 rfl rfl rfl)) ?_;refine ye zp (bA.toP (bA.max2 rfl rfl rfl)) ?_;cases g;exact yj;refine aA g ?_ ?_<;>intro _ g;refine yc g (o.a.anB _ _) λy g=>?_;cases g;exact yj;refine aA g ?_ ?_<;>intro _ g;refine yk<|au.r8 (t:=6) rfl rfl aU (yz ?_)
 refine Ok.stuck aU ?_;refine au.xZ 4 1 1 rfl rfl ?_;refine au.xZ 4 2 4 rfl rfl ?_;refine au.xZ 4 3 2 rfl rfl ?_;refine yL (S:=Int×ah) (G:=λm s=>kX (Gf m) a0 a1 s.1 s.2) (s0:=(0,ah.z)) 5 [3,4,5,6,7] [8] (λs=>[(8,.d (.v (.int .i64 s.1)))]) (λs=>[(4,.box ((ah.cs s.2).map .d))]) g ?_;rintro n ⟨s9,s10⟩ _ g;change px (Gf n) a0 a1 s9 s10=_ at g;rw[px]at g;refine yz ?_;refine bp g λ_ g=>?_
 iterate 2 (refine yc g (o.a.sG _ _ _) λy g=>?_)
 refine yo [0,1,2,3,4,5,6,7,8,9,10,11] [] [] ?_;obtain⟨y,z,g⟩:=bx g (o.a.Ov _ _);refine yl (yC z) ?_;refine aA g ?_ ?_<;>intro _ g;exact yk (yN (_,_) n ⟨by omega,g⟩);refine yY g ai.aE λx _ _ g=>?_;obtain⟨y,z,g⟩:=bx g (o.a.ann _ _);refine yl (yC z) ?_;refine aA g ?_ ?_<;>intro _ g;exact yk (yN (_,_) n ⟨by omega,g⟩);refine yc g (o.a.PH _ _ _) λy g=>?_;exact yk (yN (_,_) n ⟨by omega,g⟩);refine aA g ?_ ?_<;>intro _ g;refine yk<|au.r8 (t:=6) rfl rfl aU (yz ?_)
 refine Ok.stuck aU ?_;refine au.gH 4 2 40 4 5 rfl rfl rfl ?_;refine yL (S:=Int×(List ah)) (G:=λm s=>ky (Gf m) a0 a1 s.1 s.2) (s0:=(0,[])) 6 [4,6,11,100] [101] (λs=>[(101,.d (.v (.int .i64 s.1)))]) (λs=>[(5,.row 40 4 (ah.rows s.2)),(4,.box [.d (.v (.int .i64 0)),.d (.v (.slice none 0 0)),.os 5 (ah.rows s.2).length,.d (.v (.slice none 0 0))])]) g ?_;rintro n ⟨s22,s25⟩ _ g;change lP (Gf n) a0 a1 s22 s25=_ at g;rw[lP]at g;refine yz ?_;refine bp g λ_ g=>?_;refine yo [0,1,2,3,4,5,6] (tk [22,24,28]) [] ?_;obtain⟨y,z,g⟩:=bx g (o.a.sG _ _ _);refine yl (yC z) ?_;obtain⟨k,g⟩:=bL g;refine yk<|au.eG (rows2:=(ah.rows ([y.v]))) aI.nil rfl rfl rfl rfl rfl zg rfl zi rfl rfl (ah.cv _) rfl rfl (zo k) (yz ?_)
 exact yk (yN (_,_) n ⟨by omega,g⟩);refine aA g ?_ ?_<;>intro _ g;refine yk<|au.r8 (t:=6) rfl rfl aU (yz ?_)
 refine Ok.stuck aU ?_;refine au.gH 4 2 40 4 5 rfl rfl rfl ?_;refine yL (S:=Int×(List ah)) (G:=λm s=>ua (Gf m) a0 a1 s.1 s.2) (s0:=(0,[])) 6 [4,6,11,100] [101] (λs=>[(101,.d (.v (.int .i64 s.1)))]) (λs=>[(5,.row 40 4 (ah.rows s.2)),(4,.box [.d (.v (.int .i64 0)),.d (.v (.slice none 0 0)),.os 5 (ah.rows s.2).length,.d (.v (.slice none 0 0))])]) g ?_;rintro n ⟨s31,s34⟩ _ g;change q9 (Gf n) a0 a1 s31 s34=_ at g;rw[q9]at g;refine yz ?_;refine bp g λ_ g=>?_;refine yo [0,1,2,3,4,5,6] (tk [22,24,28]) [] ?_;obtain⟨y,z,g⟩:=bx g (o.a.sG _ _ _);refine yl (yC z) ?_;obtain⟨k,g⟩:=bL g;refine yk<|au.eG (rows2:=(ah.rows ([y.v]))) aI.nil rfl rfl rfl rfl rfl zg rfl zi rfl rfl (ah.cv _) rfl rfl (zo k) (yz ?_)
 exact yk (yN (_,_) n ⟨by omega,g⟩);refine aA g ?_ ?_<;>intro _ g;refine yk<|au.cO (t:=118) rfl rfl aU (yz ?_)
 refine yc g (o.a.sG _ _ _) λy g=>?_;refine yc g (o.a.Ov _ _) λy g=>?_;refine bp g λ_ g=>?_;refine yc g (o.a.Om _) λy g=>?_;cases g;exact yj;refine yk<|au.cO (t:=133) rfl rfl aU (yz ?_)
 iterate 3 (refine yc g (o.a.sG _ _ _) λy g=>?_)
 refine yc g (o.a.anu _ _ _) λy g=>?_;cases g;exact yj
