/- Printed by a program: what functions answer, and that they do. -/
import Derived.Test.YtnocmolegijmkaaGreatKG6
set_option linter.all false
set_option maxRecDepth 100000
noncomputable section
namespace Go.Proofs.YtnocmolegijmkaaGreat
open Go Go.Bw Go.Proofs.Tryz
section
variable {n:Nat} (o:Of n)
include o
theorem amd:X8 (By (Gf n)):=by
 intro a0 a1 r g;rw[By]at g;refine yw func191 ntmps191 ?_;refine yc g (o.a.anh _ _ _ _ _) λy g=>?_;cases g;exact zl
theorem ame:X9 (Bf (Gf n)):=by
 intro a0 a1 r g;rw[Bf]at g;refine yw func204 ntmps204 ?_;refine yc g (o.a.Ci _) λy g=>?_;refine bw g λ_ g=>?_;refine yc g (o.a.Ci _) λy g=>?_;exact dO g
theorem amf:X' (K4 (Gf n)):=by
 intro a0 r g;rw[K4]at g;refine yw func205 ntmps205 ?_;cases g;exact zl
theorem amg:Ya (wU (Gf n)):=by
 intro a0 a1 r g;rw[wU]at g;refine yw func150 ntmps150 ?_;refine yk<|yL (S:=Int×Int) (G:=λm s=>uT (Gf m) a0 a1 s.1 s.2) (s0:=(0,(↑(aG a0).length:Int))) 0 [0,1,4,5,6] [7,8] (λs=>[(7,dI s.1),(8,dI s.2)]) (λs=>[]) g ?_;rintro n ⟨s1,s2⟩ _ g;change uU (Gf n) a0 a1 s1 s2=_ at g;rw[uU]at g;refine yz ?_
 apply aA g<;>intro _ g;refine yX g dJ λx _ _ g=>?_;refine yc g (o.a.ani _ _) λy g=>?_;apply aA g<;>intro _ g
 iterate 2 (exact aZ (_,_) n g)
 refine bw g λ_ g=>?_;refine yX g dJ λx _ _ g=>?_;refine aR g λ_ g=>?_;refine yX g dJ λx _ _ g=>?_;refine yc g (o.a.YO _) λy g=>?_;refine bw g λ_ g=>?_;refine yc g (o.a.YO _) λy g=>?_;cases g;exact zl
/-(*plexus.closure.system).at-/
theorem amh:Yb (Bg (Gf n)):=by
 intro a0 a1 r g;rw[Bg]at g;refine yw func278 ntmps278 ?_;refine yc g (o.a.anj _ _) λy g=>?_;exact dO g
/-(*plexus.closure.system).set-/
theorem ami:Yc (Bh (Gf n)):=by
 intro a0 a1 r g;rw[Bh]at g;refine yw func239 ntmps239 ?_;refine yc g (o.a.pj _) λy g=>?_;refine aR g λ_ g=>?_;obtain⟨m3,em3,g⟩:=cE g;obtain⟨hm3,bm3⟩:=D3 em3;refine yk<|ao.FO m3 (dA (List.replicate m3 false)) rfl hm3 rfl hm3 rfl rfl rfl rfl rfl (by omega) (by simp only[dA,DN];exact eu.replicate zi _) rfl (yz ?_)
 refine Ok.stuck aW ?_;refine ao.kR 4 4 1 1 rfl rfl ?_;refine yL (S:=(List Bool)×(List Bool)×Int) (G:=λm s=>rK (Gf m) a0 a1 s.1 s.2.1 s.2.2) (s0:=([],List.replicate m3 false,0)) 2 [0,5,19,20] [4,6,21] (λs=>[(4,.os 1 (dA s.1).length),(6,.os 0 (dA s.2.1).length),(21,dI s.2.2)]) (λs=>[(1,.row 4 1 (dA s.1)),(0,.row 4 1 (dA s.2.1))]) g ?_;rintro n ⟨s4,s5,s6⟩ _ g;change uV (Gf n) a0 a1 s4 s5 s6=_ at g;rw[uV]at g;refine yz ?_;refine bw g λ_ g=>?_;refine yX g dJ λx _ _ g=>?_;refine yc g (o.a.Na _ _) λy g=>?_;refine aR g λ_ g=>?_;obtain⟨x,w,j,g⟩:=cL g;refine yv (yr j w) ?_;refine yk<|ao.l9 y.toNat 0 (by rfl) (by rfl) (by rfl) (by rfl) (by rfl) (by rfl) zg (by rfl) (yg (pM w)) (by rfl) (by rfl) (by rfl) (by rfl) (yz ?_)
 exact aZ (_,_,_) n g
theorem amj:Yd (Bj (Gf n)):=by
 intro a0 r g;rw[Bj]at g;refine yw func280 ntmps280 ?_;cases g;exact zl
/-(plexus.closure.horn).fires-/
theorem amk:Ye (Bi (Gf n)):=by
 intro a0 a1 r g;rw[Bi]at g;refine yw func295 ntmps295 ?_;refine yX g pM λx _ _ g=>?_;refine aR g λ_ g=>?_;refine yk<|yL (S:=Int) (G:=λm s=>rL (Gf m) a0 a1 s) (s0:=0) 1 [1,4,13,14] [15] (λs=>[(15,dI s)]) (λs=>[]) g ?_;rintro n s4 _ g;change uX (Gf n) a0 a1 s4=_ at g;rw[uX]at g;refine yz ?_
 refine bw g λ_ g=>?_;refine yX g Ec λx _ _ g=>?_;refine yX g pM λx _ _ g=>?_;refine aR g λ_ g=>?_;exact aZ _ n g
/-(*plexus.closure.system).chain-/
theorem aes:Sk (zw (Gf n)):=by
 intro a0 a1 r g;rw[zw]at g;refine yw func279 ntmps279 ?_;obtain⟨m1,em1,g⟩:=cE g;obtain⟨hm1,bm1⟩:=D3 em1;refine yk<|ao.FO m1 (dA (List.replicate m1 false)) rfl hm1 rfl hm1 rfl rfl rfl rfl rfl (by omega) (by simp only[dA,DN];exact eu.replicate zi _) rfl (yz ?_)
 obtain⟨k,g⟩:=bR g;refine yk<|ao.copy rfl rfl zg (.sl rfl) rfl (abB _) (by have l:=jl k;simpa only[kp,lZ,pB,gP,l4,tV]using l) rfl (yz ?_)
 obtain⟨k,g⟩:=bR g;refine yk<|ao.aij 8 rfl (jl k) (yz ?_)
 refine Ok.stuck aW ?_;refine ao.kR 6 4 1 1 rfl rfl ?_;refine ao.kR 7 302 2 2 rfl rfl ?_;refine ao.kR 9 302 2 3 rfl rfl ?_;refine yL (S:=(List Bool)×(List dt)×(List Bool)×(List dt)) (G:=λm s=>tH (Gf m) a0 a1 m1 s.1 s.2.1 s.2.2.1 s.2.2.2) (s0:=([],[],a1,[])) 4 [0,2] [6,7,8,9] (λs=>[(6,.os 1 (dA s.1).length),(7,.os 2 (dt.rows s.2.1).length),(8,.os 0 (dA s.2.2.1).length),(9,.os 3 (dt.rows s.2.2.2).length)]) (λs=>[(1,.row 4 1 (dA s.1)),(2,.row 302 2 (dt.rows s.2.1)),(0,.row 4 1 (dA s.2.2.1)),(3,.row 302 2 (dt.rows s.2.2.2))]) g ?_;rintro n ⟨s4,s5,s6,s7⟩ _ g;change tI (Gf n) a0 a1 m1 s4 s5 s6 s7=_ at g;rw[tI]at g;refine yz ?_;refine yk<|yL (S:=Int) (G:=λm s=>pF (Gf m) a0 a1 m1 s4 s5 s6 s7 s) (s0:=0) 5 [0,2,6,7,8,9,10,23,24] [25] (λs=>[(25,dI s)]) (λs=>[]) g ?_;rintro n s8 _ g;change tJ (Gf n) a0 a1 m1 s4 s5 s6 s7 s8=_ at g;rw[tJ]at g;refine yz ?_
 apply aA g<;>intro _ g;refine yX g de.aF λx _ _ g=>?_;refine yc g (o.a.anl _) λy g=>?_;apply aA g<;>intro _ g;refine yc g (o.a.anm _ _) λy g=>?_;apply aA g<;>intro _ g;refine yv (bE.toP (bE.YW rfl rfl rfl zk Tryz.underlying302 rfl)) ?_;refine aR g λ_ g=>?_;obtain⟨t,w,j,g⟩:=cL g;refine yv (yr j w) ?_;refine yk<|ao.l9 x.me.toNat 0 (by rfl) (by rfl) (by rfl) (by rfl) (by rfl) (by rfl) zg (by rfl) (yg (pM w)) (by rfl) (by rfl) (by rfl) (by rfl) (yz ?_)
 refine yk<|ao.fX 6 (rows':=dt.rows ([{F6:=s8,name:=x.me:dt}])) rfl zi (yz ?_)
 obtain⟨k,g⟩:=bR g;refine yk<|DO.dV rfl rfl zg rfl rfl zg rfl rfl (dt.cC _) rfl rfl rfl (zo k) (yz ?_)
 exact aZ (_,_,_,_) n g
 iterate 2 (exact aZ _ n g)
 refine yv (bE.toP (bE.YW rfl rfl rfl zk Tryz.underlying302 rfl)) ?_;cases g;exact zl
/-(*plexus.closure.system).close-/
theorem aml:Yf (Bk (Gf n)):=by
 intro a0 a1 r g;rw[Bk]at g;refine yw func241 ntmps241 ?_;refine yc g (o.a.aez _ _) λy g=>?_;cases g;exact zl
/-(*plexus.closure.system).list-/
theorem amm:Yg (wV (Gf n)):=by
 intro a0 a1 r g;rw[wV]at g;refine yw func240 ntmps240 ?_;refine yk<|yL (S:=(List (List UInt8))×Int) (G:=λm s=>p4 (Gf m) a0 a1 s.1 s.2) (s0:=([],0)) 1 [0,4,9,10] [5,11] (λs=>[(5,.os 0 (aG s.1).length),(11,dI s.2)]) (λs=>[(0,.row 9 1 (aG s.1))]) g ?_;rintro n ⟨s1,s2⟩ _ g;change uW (Gf n) a0 a1 s1 s2=_ at g;rw[uW]at g;refine yz ?_
 refine bw g λ_ g=>?_;refine yX g pM λx _ _ g=>?_;apply aA g<;>intro _ g;refine yX g dJ λx _ _ g=>?_;obtain⟨k,g⟩:=bR g;refine yk<|DO.dV rfl rfl zg rfl rfl zg rfl rfl rfl rfl rfl rfl (zo k) (yz ?_)
 iterate 2 (exact aZ (_,_) n g)
theorem amn:Yh (wW (Gf n)):=by
 intro a0 a1 a2 r g;rw[wW]at g;refine yw func192 ntmps192 ?_;refine yk<|ao.inl (rs:=_) rfl func238 rfl zk rfl ntmps238 rfl rfl (yz ?_)
 refine yk<|yL (S:=Int×Int) (G:=λm s=>rM (Gf m) a0 a1 a2 s.1 s.2) (s0:=(0,0)) 0 [0,1,4,10,11] [5,12] (λs=>[(5,dI s.1),(12,dI s.2)]) (λs=>[]) g ?_;rintro n ⟨s1,s2⟩ _ g;change uY (Gf n) a0 a1 a2 s1 s2=_ at g;rw[uY]at g;refine yz ?_
 apply aA g<;>intro _ g;refine yX g dJ λx _ _ g=>?_;refine yc g (o.a.oF _) λy g=>?_;refine aR g λ_ g=>?_;exact aZ (_,_) n g;refine yc g (o.a.pj _) λy g=>?_;refine aR g λ_ g=>?_;refine yk<|ao.inl (rs:=_) rfl func277 rfl zk rfl ntmps277 rfl rfl (yz ?_)
 refine Ok.stuck aW ?_;refine ao.gS 0 1 300 2 1 rfl rfl rfl ?_;refine yL (S:=Int×Int×(List de)) (G:=λm s=>rN (Gf m) a0 a1 a2 s1 s2 y s.1 s.2.1 s.2.2) (s0:=(0,0,[])) 2 [0,1,11,12] [4,13] (λs=>[(4,dI s.1),(13,dI s.2.1)]) (λs=>[(1,.row 300 2 (de.rows s.2.2)),(0,.box [.d (.sl 1 (aG a0)),.os 1 (de.rows s.2.2).length])]) g ?_;rintro n ⟨s10,s11,s13⟩ _ g;change uZ (Gf n) a0 a1 a2 s1 s2 y s10 s11 s13=_ at g;rw[uZ]at g;refine yz ?_;apply aA g<;>intro _ g;refine yX g aX.aF λx _ _ g=>?_;refine yc g (o.a.pj _) λv g=>?_;refine aR g λ_ g=>?_;refine yc g (o.a.Na _ _) λy2 g=>?_;refine Ok.stuck aW ?_;refine ao.gS 3 0 3 1 4 rfl rfl rfl ?_;refine yL (S:=Int×Int×(List Int)) (G:=λm s=>rO (Gf m) a0 a1 a2 s1 s2 y s10 s11 s13 x v y2 s.1 s.2.1 s.2.2) (s0:=(s10,0,[])) 5 [0,1,7,11,12,13,14,15,16,17,18,19,20,21,22,23,24,25,26,27,28] [4,29] (λs=>[(4,dI s.1),(29,dI s.2.1)]) (λs=>[(4,.row 3 1 (dX .i64 s.2.2)),(3,.box [.os 4 (dX .i64 s.2.2).length,dI y2])]) g ?_;rintro n ⟨s20,s21,s22⟩ _ g;change u0 (Gf n) a0 a1 a2 s1 s2 y s10 s11 s13 x v y2 s20 s21 s22=_ at g;rw[u0]at g;refine yz ?_;apply aA g<;>intro _ g;refine yX g dJ λx _ _ g=>?_;refine yc g (o.a.Na _ _) λy g=>?_;refine aR g λ_ g=>?_;obtain⟨k,g⟩:=bR g;refine yk<|DO.dV rfl rfl zg rfl rfl zg rfl rfl rfl rfl rfl rfl (zo k) (yz ?_)
 exact aZ (_,_,_) n g;refine aR g λ_ g=>?_;refine yk<|ao.Jt 3 0 rfl rfl rfl rfl (yz ?_)
 refine yo [] (tk [0,3,6,9,12,15,18,22,24,27,31]) [] ?_
 iterate 2 (refine yt zp ?_)
 obtain⟨k,g⟩:=bR g;refine yk<|ao.eM (rows2:=(de.rows ([{oN:=s22,me:=y2:de}]))) zp rfl rfl rfl rfl rfl zg rfl zi rfl rfl (de.cC _) rfl rfl (zo k) (yz ?_)
 iterate 3 (refine yt zp ?_)
 exact aZ (_,_,_) n g;refine yk<|ao.cT (t:=21) rfl rfl (gR rfl aW) (yz ?_)
 refine yc g (o.a.ank _ _) λy g=>?_;refine aR g λ_ g=>?_;refine yc g (o.a.ann _ _) λy g=>?_;refine yc g (o.a.ano _ _) λy g=>?_;cases g;exact zl
theorem amo:Yi (Bd (Gf n)):=by
 intro a0 a1 r g;rw[Bd]at g;refine yw func242 ntmps242 ?_;refine yc g (o.a.GM _ _) λy g=>?_;cases g;exact zl
theorem ac2:Q5 (uc (Gf n)):=by
 intro a0 a1 r g;rw[uc]at g;refine yw func199 ntmps199 ?_;refine yk<|yL (S:=Int) (G:=λm s=>xV (Gf m) a0 a1 s) (s0:=0) 0 [0,1,4,7] [8] (λs=>[(8,dI s)]) (λs=>[]) g ?_;rintro n s1 _ g;change xW (Gf n) a0 a1 s1=_ at g;rw[xW]at g;refine yz ?_
 refine bw g λ_ g=>?_;refine yX g az.aF λx _ _ g=>?_;refine yc g (o.a.anp _ _) λy g=>?_;refine aR g λ_ g=>?_;exact aZ _ n g
theorem ac3:Q6 (yR (Gf n)):=by
 intro a0 a1 r g;rw[yR]at g;refine yw func142 ntmps142 ?_;refine yc g (o.a.ac8 _ _) λy g=>?_;cases g;exact zl
theorem amp:Yj (wT (Gf n)):=by
 intro a0 a1 r g;rw[wT]at g;refine yw func193 ntmps193 ?_;refine Ok.stuck aW ?_;refine ao.kR 5 126 2 0 rfl rfl ?_;refine yL (S:=(List az)×Int) (G:=λm s=>pY (Gf m) a0 a1 s.1 s.2) (s0:=([],0)) 1 [0,1,4,10,11] [5,12] (λs=>[(5,.os 0 (az.rows s.1).length),(12,dI s.2)]) (λs=>[(0,.row 126 2 (az.rows s.1))]) g ?_;rintro n ⟨s1,s2⟩ _ g;change uR (Gf n) a0 a1 s1 s2=_ at g;rw[uR]at g;refine yz ?_;refine zs g ?_ ?_<;>(clear g;intro k g);obtain⟨x,w,j,g⟩:=cL g;refine yv (yI j (az.aF w)) ?_;refine yc g (o.a.Z' _ _) λy g=>?_;refine zs g ?_ ?_<;>(clear g;intro k g);refine yk<|ao.fX 2 (rows':=az.rows ([x])) rfl zi (yz ?_)
 obtain⟨k,g⟩:=bR g;refine yk<|DO.dV rfl rfl zg rfl rfl zg rfl rfl (az.cC _) rfl rfl rfl (zo k) (yz ?_)
 iterate 2 (exact aZ (_,_) n g)
 refine yk<|yL (S:=(List az)×Int) (G:=λm s=>pZ (Gf m) a0 a1 s.1 s.2) (s0:=(s1,0)) 1 [0,1,4,10,11,12,25,26] [5,27] (λs=>[(5,.os 0 (az.rows s.1).length),(27,dI s.2)]) (λs=>[(0,.row 126 2 (az.rows s.1))]) g ?_;rintro n ⟨s9,s10⟩ _ g;change uS (Gf n) a0 a1 s9 s10=_ at g;rw[uS]at g;refine yz ?_
 refine zs g ?_ ?_<;>(clear g;intro k g);obtain⟨x,w,j,g⟩:=cL g;refine yv (yI j (az.aF w)) ?_;refine yc g (o.a.ac9 _ _) λy g=>?_;refine zs g ?_ ?_<;>(clear g;intro k g);refine yk<|ao.fX 2 (rows':=az.rows ([x])) rfl zi (yz ?_)
 obtain⟨k,g⟩:=bR g;refine yk<|DO.dV rfl rfl zg rfl rfl zg rfl rfl (az.cC _) rfl rfl rfl (zo k) (yz ?_)
 iterate 2 (exact aZ (_,_) n g)
 obtain⟨y,z,g⟩:=bz g (o.a.Jl _);obtain⟨k,g⟩:=bR g;refine yk<|ao.na 0 z rfl rfl (by first|rfl|(simp only[je];rfl)) rfl (o9.row zi) rfl ?_;refine ao.oB (m:=(az.rows y.2).length) 5 rfl (jl k) ?_;refine ao.oB (m:=(az.rows y.2).length) 40 rfl (jl k) (yz ?_)
 cases g;exact zl
theorem amq:Yk (Bc (Gf n)):=by
 intro a0 a1 a2 r g;rw[Bc]at g;refine yw func138 ntmps138 ?_;apply aA g<;>intro _ g;refine yc g (o.a.M' _ _) λy g=>?_;cases g;exact yj;apply aA g<;>intro _ g;refine yo [0,1,2,3,4,5,6,7,8,9,10,11,12,13,14] [] [] ?_;obtain⟨y,z,g⟩:=bz g (o.a.M' _ _);refine yl (yC z) ?_;obtain⟨y,z,g⟩:=bz g (o.a.YP _ _ _);refine yl (yC z) ?_;cases g;exact yj;apply aA g<;>intro _ g;refine yc g (o.a.anq _ _) λy g=>?_;cases g;exact yj;apply aA g<;>intro _ g;refine yc g (o.a.M' _ _) λy g=>?_;refine Ok.stuck aW ?_;refine ao.gS 4 2 40 4 5 rfl rfl rfl ?_;refine yL (S:=Int×(List af)) (G:=λm s=>nT (Gf m) a0 a1 a2 y s.1 s.2) (s0:=(0,[])) 6 [3,4,5,6,9,61,62] [63] (λs=>[(63,dI s.1)]) (λs=>[(5,.row 40 4 (af.rows s.2)),(4,.box [dI 0,.d (.sl 1 (aG y)),.os 5 (af.rows s.2).length,.d (.v (.slice none 0 0))])]) g ?_;rintro n ⟨s10,s13⟩ _ g;change uP (Gf n) a0 a1 a2 y s10 s13=_ at g;rw[uP]at g;refine yz ?_;refine bw g λ_ g=>?_;refine yX g dJ λx _ _ g=>?_;refine yo [0,1,2,3,4,5,6,7,8,9] [] [] ?_
 iterate 2 (obtain⟨y,z,g⟩:=bz g (o.a.xI _ _);refine yl (yC z) ?_)
 iterate 2 (apply aA g<;>intro _ g;refine yo [0,1,2,3,4,5,6,7] (tk [25,27,31]) [] ?_;refine yY g af.aF λx _ _ g=>?_;obtain⟨k,g⟩:=bR g;refine yk<|ao.eM (rows2:=(af.rows ([x]))) aJ.nil rfl rfl rfl rfl rfl zg rfl zi rfl rfl (af.cC _) rfl rfl (zo k) (yz ?_);exact aZ (_,_) n g)
 refine yo [0,1,2,3,4,5,6,7,8,9,10,11,12,13,14,15,16,17] (tk [55,57,61]) [] ?_;refine yY g ag.aF λx _ _ g=>?_
 iterate 2 (refine yY g af.aF λx _ _ g=>?_)
 obtain⟨y,z,g⟩:=bz g (o.a.GN _ _ _);refine yl (yC z) ?_;obtain⟨k,g⟩:=bR g;refine yk<|ao.eM (rows2:=(af.rows ([y]))) aJ.nil rfl rfl rfl rfl rfl zg rfl zi rfl rfl (af.cC _) rfl rfl (zo k) (yz ?_)
 exact aZ (_,_) n g;apply aA g<;>intro _ g;refine Ok.stuck aW ?_;refine ao.gS 4 2 40 4 5 rfl rfl rfl ?_;refine yL (S:=Int×(List af)) (G:=λm s=>rJ (Gf m) a0 a1 a2 s.1 s.2) (s0:=(0,[])) 6 [3,4,5,6,14,126,127] [128] (λs=>[(128,dI s.1)]) (λs=>[(5,.row 40 4 (af.rows s.2)),(4,.box [dI 0,.d (.v (.slice none 0 0)),.os 5 (af.rows s.2).length,.d (.v (.slice none 0 0))])]) g ?_;rintro n ⟨s37,s40⟩ _ g;change uQ (Gf n) a0 a1 a2 s37 s40=_ at g;rw[uQ]at g;refine yz ?_;refine bw g λ_ g=>?_;refine yX g ag.aF λx _ _ g=>?_;refine yo [0,1,2,3,4,5,6,7,8,9,10,11,12,13,14] (tk [46,48,52]) [] ?_
 iterate 2 (refine yY g af.aF λx _ _ g=>?_)
 obtain⟨y,z,g⟩:=bz g (o.a.GN _ _ _);refine yl (yC z) ?_;obtain⟨k,g⟩:=bR g;refine yk<|ao.eM (rows2:=(af.rows ([y]))) aJ.nil rfl rfl rfl rfl rfl zg rfl zi rfl rfl (af.cC _) rfl rfl (zo k) (yz ?_)
 exact aZ (_,_) n g;apply aA g<;>intro _ g;refine yo [0,1,2,3,4,5,6,7,8] [] [] ?_
 iterate 2 (refine yY g af.aF λx _ _ g=>?_)
 obtain⟨y,z,g⟩:=bz g (o.a.Dr _ _);refine yl (yC z) ?_;apply aA g<;>intro _ g;refine yo [0,1,2,3,4,5,6,7,8,9,10,11,12,13,14,15,16,17,18] [(19,.one)] [] ?_;refine yY g af.aF λx _ _ g=>?_;refine yY g ag.aF λx _ _ g=>?_
 iterate 2 (refine yY g af.aF λx _ _ g=>?_)
 obtain⟨y,z,g⟩:=bz g (o.a.GN _ _ _);refine yl (yC z) ?_;cases g;exact yj
 iterate 2 (refine yc g (o.a.xJ _ _ _) λy g=>?_;refine aR g λ_ g=>?_;refine yc g (o.a.xJ _ _ _) λy g=>?_;exact dO g)
theorem amr:Yl (wS (Gf n)):=by
 intro a0 r g;rw[wS]at g;refine yw func130 ntmps130 ?_;refine Ok.stuck aW<|ao.jA 3 rfl ?_ ?_
 intro cap k;replace g:(some ([]))=some r:=(by have l:a0=[]:=DM.1 (by have k:=congrArg List.length k;simpa only[ah.aH,l4]using k);subst l;simpa using g);refine yz ?_;refine yv (bE.toP (bE.mo (et:=161) rfl zk rfl rfl)) ?_;cases g;exact yj;intro ad n0 cap;refine yz ?_;refine yv (bE.toP (bE.mo (et:=161) rfl zk rfl rfl)) ?_;obtain⟨k,g⟩:=bR g;refine yk<|DO.sJ (rows2:=(ah.rows a0)) rfl rfl zg rfl (cz.refl _) rfl rfl (ah.cC _) rfl rfl rfl (zo k) (yz ?_)
 cases g;exact zl
theorem ams:Ym (Ba (Gf n)):=by
 intro a0 r g;rw[Ba]at g;refine yw func139 ntmps139 ?_;refine yo [0,1,2,3,4,5,6] [(7,.one)] [] ?_;obtain⟨y,z,g⟩:=bz g (o.a.xq _);refine yl (yC z) ?_;refine Ok.stuck aW ?_;refine ao.gS 2 2 40 4 3 rfl rfl rfl ?_;refine yL (S:=Int×(List af)) (G:=λm s=>rH (Gf m) a0 y s.1 s.2) (s0:=(0,[])) 4 [1,2,3,15,16] [17] (λs=>[(17,dI s.1)]) (λs=>[(3,.row 40 4 (af.rows s.2)),(2,.box [dI a0.N,.d (.sl 1 (aG y)),.os 3 (af.rows s.2).length,.d (.v (.slice none 0 0))])]) g ?_;rintro n ⟨s2,s5⟩ _ g;change uO (Gf n) a0 y s2 s5=_ at g;rw[uO]at g;refine yz ?_;apply aA g<;>intro _ g;refine yX g af.aF λx _ _ g=>?_;refine yo [0,1,2,3,4] (tk [16,18,22]) [] ?_;obtain⟨v,z,g⟩:=bz g (o.a.YR _);refine yl (yC z) ?_;obtain⟨k,g⟩:=bR g;refine yk<|ao.eM (rows2:=(af.rows ([v]))) aJ.nil rfl rfl rfl rfl rfl zg rfl zi rfl rfl (af.cC _) rfl rfl (zo k) (yz ?_)
 exact aZ (_,_) n g;refine Ok.stuck aW ?_;refine ao.gS 2 3 126 2 4 rfl rfl rfl ?_;refine yL (S:=Int×(List af)×(List az)) (G:=λm s=>pX (Gf m) a0 y s.1 s.2.1 s.2.2) (s0:=(0,s5,[])) 5 [1,2,3,15,16,17,30,31] [32] (λs=>[(32,dI s.1)]) (λs=>[(3,.row 40 4 (af.rows s.2.1)),(4,.row 126 2 (az.rows s.2.2)),(2,.box [dI a0.N,.d (.sl 1 (aG y)),.os 3 (af.rows s.2.1).length,.os 4 (az.rows s.2.2).length])]) g ?_;rintro n ⟨s12,s15,s16⟩ _ g;change uN (Gf n) a0 y s12 s15 s16=_ at g;rw[uN]at g;refine yz ?_;refine bw g λ_ g=>?_;refine yX g az.aF λx _ _ g=>?_;refine yo [0,1,2,3,4,5,6,7,8] (tk [28,30,34]) [] ?_;obtain⟨y,z,g⟩:=bz g (o.a.YQ _);refine yl (yC z) ?_;obtain⟨k,g⟩:=bR g;refine yk<|ao.eM (rows2:=(az.rows ([{a8:=y,Name:=x.Name:az}]))) aJ.nil rfl rfl rfl rfl rfl zg rfl zi rfl rfl (az.cC _) rfl rfl (zo k) (yz ?_)
 exact aZ (_,_,_) n g
theorem w90:ZS (CS (Gf n)):=by
 intro a0 a1 r g;rw[CS]at g;refine yw func90 ntmps90 ?_;refine yc g (o.a.Z9 _ _) λy g=>?_;refine aR g λ_ g=>?_;refine yc g (o.a.ang _) λy g=>?_;refine yk<|yL (S:=Int×af) (G:=λm s=>FL (Gf m) a0 a1 s.1 s.2) (s0:=(0,y)) 3 [2,4,5,7,19,20] [21] (λs=>[(21,dI s.1)]) (λs=>[(2,.box ((af.cs s.2).map .d))]) g ?_;rintro n ⟨s4,s5⟩ _ g;change r7 (Gf n) a0 a1 s4 s5=_ at g;rw[r7]at g;refine yz ?_
 apply aA g<;>intro _ g;refine yX g af.aF λx _ _ g=>?_;refine yc g (o.a.GN _ _ _) λy g=>?_;exact aZ (_,_) n g;refine yc g (o.a.YR _) λy g=>?_;cases g;exact zl
theorem w43:ZT (CR (Gf n)):=by
 intro a0 a1 a2 r g;rw[CR]at g;refine yw func43 ntmps43 ?_;refine yk<|ao.cT (t:=11) rfl rfl (gR rfl aW) (yz ?_)
 refine yc g (o.a.c90 _ _) λy g=>?_;cases g;exact zl
theorem amt:Yn (A3 (Gf n)):=by
 intro a0 r g;rw[A3]at g;refine yw func181 ntmps181 ?_;refine yv (bE.toP (bE.min2 rfl rfl rfl)) ?_;refine yv (bE.toP (bE.max2 rfl rfl rfl)) ?_;cases g;exact zl
theorem amu:Yo (BD (Gf n)):=by
 intro a0 a1 r g;rw[BD]at g;refine yw func184 ntmps184 ?_;refine aR g λ_ g=>?_;refine yc g (o.a.M3 _ _) λy g=>?_;cases g;exact zl
theorem amv:Yp (A8 (Gf n)):=by
 intro a0 a1 r g;rw[A8]at g;refine yw func269 ntmps269 ?_;refine yc g (o.a.Nc _ _) λy g=>?_;cases g;exact zl
theorem ac4:Q7 (ub (Gf n)):=by
 intro a0 a1 r g;rw[ub]at g;refine yw func175 ntmps175 ?_;refine yk<|yL (S:=Int) (G:=λm s=>re (Gf m) a0 a1 s) (s0:=0) 0 [0,1,4,7] [8] (λs=>[(8,dI s)]) (λs=>[]) g ?_;rintro n s1 _ g;change tD (Gf n) a0 a1 s1=_ at g;rw[tD]at g;refine yz ?_
 refine bw g λ_ g=>?_;refine yX g dJ λx _ _ g=>?_;refine yc g (o.a.YS _ _) λy g=>?_;refine aR g λ_ g=>?_;exact aZ _ n g
theorem amw:Yq (A9 (Gf n)):=by
 intro a0 a1 r g;rw[A9]at g;refine yw func233 ntmps233 ?_;obtain⟨y,z,g⟩:=bz g (o.a.F5 _);refine yk<|ao.Ko z rfl rfl (by first|rfl|(simp only[je];rfl)) rfl (yz ?_)
 refine yk<|ao.inl (rs:=_) rfl func268 rfl zk rfl ntmps268 rfl rfl (yz ?_)
 refine yc g (o.a.ac' _ _) λv g=>?_;refine zs g ?_ ?_<;>(clear g;intro k g);cases g;exact zl;refine yk<|ao.sI (t:=1) rfl rfl aW (yz ?_)
 refine yk<|yL (S:=(List (List UInt8))×Int×Int) (G:=λm s=>pW (Gf m) a0 s.1 s.2.1 s.2.2) (s0:=(y,v,IntKind.i64.wrap (v+1))) 2 [1,4] [0,5,6] (λs=>[(0,.os 1 (aG s.1).length),(5,dI s.2.1),(6,dI s.2.2)]) (λs=>[(1,.row 9 1 (aG s.1))]) g ?_;rintro n ⟨s4,s5,s6⟩ _ g;change uL (Gf n) a0 s4 s5 s6=_ at g;rw[uL]at g;refine yz ?_
 refine zs g ?_ ?_<;>(clear g;intro k g);obtain⟨x,w,j,g⟩:=cL g;refine yv (yr j w) ?_;refine yv (ym s6.toNat 0 (dJ w)) ?_;refine yc g (o.a.YS _ _) λy g=>?_;refine zs g ?_ ?_<;>(clear g;intro k g);obtain⟨x,w,j,g⟩:=cL g;refine yv (yr j w) ?_;refine yk<|ao.l9 s5.toNat 0 (by rfl) (by rfl) (by rfl) (by rfl) (by rfl) (by rfl) zg (by rfl) (yg (dJ w)) (by rfl) (by rfl) (by rfl) (by rfl) (yz ?_)
 iterate 2 (exact aZ (_,_,_) n g)
 obtain⟨k,g⟩:=bR g;refine yk<|ao.acb (rows2:=(aG (List.take (s5:Int).toNat s4++List.replicate ((s4).length-(s5:Int).toNat) []))) ((s5:Int).toNat) rfl rfl zg rfl (Int.toNat_of_nonneg (jl k).1).symm (by simpa only[bN,lZ]using(jl k).2) rfl Tryz.zeroValue9 rfl rfl rfl (by first|(simp only[aG,qY,Hx,DN,ja];done)|(simp only[aG,qY,Hx,DN,ja];rfl)) ?_;refine ao.oB (m:=(aG (List.take (s5:Int).toNat s4++List.replicate ((s4).length-(s5:Int).toNat) [])).length) 0 rfl (by have l:=(jl k).2;simp only[bN,kp,iK,pB,lZ]at l⊢;omega) ?_;refine ao.oB (m:=(aG (List.take (s5:Int).toNat s4++List.replicate ((s4).length-(s5:Int).toNat) [])).length) 36 rfl (by have l:=(jl k).2;simp only[bN,kp,iK,pB,lZ]at l⊢;omega) ?_;refine ao.oB (m:=(aG (List.take (s5:Int).toNat s4++List.replicate ((s4).length-(s5:Int).toNat) [])).length) 17 rfl (by have l:=(jl k).2;simp only[bN,kp,iK,pB,lZ]at l⊢;omega) (yz ?_)
 obtain⟨x,w,g⟩:=cE g;obtain⟨j16a,j16b,j,j16i,j16k,j16m,w⟩:=PM w;refine yv (bE.toP (bE.conv (bE.part j16a j16b rfl rfl rfl (Jv (by omega)) (Ju j16i rfl) j16k (by simpa only[bN]using j16m)) (by rw[<-w];simp only[PH,PI])) (x:= .d (.sl 1 (aG x)))) ?_;cases g;exact zl
theorem amx:Yr (Bl (Gf n)):=by
 intro a0 a1 r g;rw[Bl]at g;refine yw func151 ntmps151 ?_;refine yo [0,1,2,3,4,5,6,7,8,9] [] [] ?_;obtain⟨y,z,g⟩:=bz g (o.a.Dq _);refine yl (yC z) ?_;refine bw g λ_ g=>?_;obtain⟨y,z,g⟩:=bz g (o.a.Ct _);refine yl (yC z) ?_;obtain⟨y,z,g⟩:=bz g (o.a.Dr _ _);refine yl (yC z) ?_;cases g;exact zl
theorem amy:Ys (A5 (Gf n)):=by
 intro r g;rw[A5]at g;refine yw func270 ntmps270 ?_;cases g;exact yj
theorem amz:Yt (Bq (Gf n)):=by
 intro a0 a1 r g;rw[Bq]at g;refine yw func274 ntmps274 ?_;refine yv (bE.toP (bE.max2 rfl rfl rfl)) ?_;cases g;exact zl
set_option maxHeartbeats 0 in
theorem aet:Sm (zA (Gf n)):=by
 intro a0 a1 r g;rw[zA]at g;refine yw func265 ntmps265 ?_
 iterate 2 (refine yc g (o.a.xr _) λy g=>?_;refine aR g λ_ g=>?_)
 refine Ok.stuck aW ?_;refine ao.kR 7 161 2 0 rfl rfl ?_;refine yL (S:=(List ah)×(List ah)×(List ah)) (G:=λm s=>gD (Gf m) s.1 s.2.1 s.2.2) (s0:=(a0,a1,[])) 1 [2,6] [0,1,7] (λs=>[(0,.d (.sl 2 (ah.rows s.1))),(1,.d (.sl 2 (ah.rows s.2.1))),(7,.os 0 (ah.rows s.2.2).length)]) (λs=>[(0,.row 161 2 (ah.rows s.2.2))]) g ?_;rintro n ⟨s5,s6,s7⟩ _ g;change D2 (Gf n) s5 s6 s7=_ at g;rw[D2]at g;refine yz ?_;refine aA g (λk g=>?_) λk g=>?_;refine yo [0,1,2,3,4,5,6,7,8,9,10,11,12,13,14,15,16,17,18,19] [] [] ?_;apply aA g<;>intro _ g;refine yo [0,1,2,3,4,5,6,7,8,9,10,11,12] [] [] ?_;refine yY g ah.aF λx _ _ g=>?_;refine yY g ah.aF λt _ _ g=>?_;obtain⟨t,w,g⟩:=cE g;refine yl (yQ ah.bh w) ?_;refine yc g (o.a.pq _ _) λy g=>?_;apply aA g<;>intro _ g;refine yk<|ao.fX 1 (rows':=ah.rows ([{Process:=x.Process,N:=y:ah}])) rfl zi (yz ?_)
 obtain⟨l,g⟩:=bR g;refine yk<|DO.dV rfl rfl zg rfl rfl zg rfl rfl (ah.cC _) rfl rfl rfl (zo l) (yz ?_)
 exact aZ (_,_,_) n g;exact aZ (t,s6,s7) n g;refine Ok.lJ k ?_;conv=>(arg 3;whnf)
 iterate 2 (refine yY g ah.aF λx _ _ g=>?_)
 apply aA g<;>intro _ g;refine yo [0,1,2,3,4,5,6,7,8,9,10,11,12] [] [] ?_;refine yY g ah.aF λx _ _ g=>?_;refine yY g ah.aF λt _ _ g=>?_;obtain⟨t,w,g⟩:=cE g;refine yl (yQ ah.bh w) ?_;refine yc g (o.a.pq _ _) λy g=>?_;apply aA g<;>intro _ g;refine yk<|ao.fX 1 (rows':=ah.rows ([{Process:=x.Process,N:=y:ah}])) rfl zi (yz ?_)
 obtain⟨l,g⟩:=bR g;refine yk<|DO.dV rfl rfl zg rfl rfl zg rfl rfl (ah.cC _) rfl rfl rfl (zo l) (yz ?_)
 exact aZ (_,_,_) n g;exact aZ (t,s6,s7) n g;refine yo [0,1,2,3,4,5,6,7,8,9,10,11,12,13,14] [] [] ?_;apply aA g<;>intro _ g;refine yo [0,1,2,3,4,5,6,7,8,9,10,11,12] [] [] ?_;refine yY g ah.aF λx _ _ g=>?_;refine yY g ah.aF λt _ _ g=>?_;obtain⟨t,w,g⟩:=cE g;refine yl (yQ ah.bh w) ?_;refine yc g (o.a.pq _ _) λy g=>?_;apply aA g<;>intro _ g;refine yk<|ao.fX 1 (rows':=ah.rows ([{Process:=x.Process,N:=y:ah}])) rfl zi (yz ?_)
 obtain⟨l,g⟩:=bR g;refine yk<|DO.dV rfl rfl zg rfl rfl zg rfl rfl (ah.cC _) rfl rfl rfl (zo l) (yz ?_)
 exact aZ (_,_,_) n g;exact aZ (s5,t,s7) n g
 iterate 2 (refine yY g ah.aF λx _ _ g=>?_)
 apply aA g<;>intro _ g;refine yo [0,1,2,3,4,5,6,7,8,9,10,11,12] [] [] ?_;refine yY g ah.aF λx _ _ g=>?_;refine yY g ah.aF λt _ _ g=>?_;obtain⟨t,w,g⟩:=cE g;refine yl (yQ ah.bh w) ?_;refine yc g (o.a.pq _ _) λy g=>?_;apply aA g<;>intro _ g;refine yk<|ao.fX 1 (rows':=ah.rows ([{Process:=x.Process,N:=y:ah}])) rfl zi (yz ?_)
 obtain⟨l,g⟩:=bR g;refine yk<|DO.dV rfl rfl zg rfl rfl zg rfl rfl (ah.cC _) rfl rfl rfl (zo l) (yz ?_)
 exact aZ (_,_,_) n g;exact aZ (s5,t,s7) n g;refine yo [0,1,2,3,4,5,6,7,8,9,10,11,12,13,14,15,16,17,18,19,20] [] [] ?_;refine yY g ah.aF λx _ _ g=>?_
 iterate 2 (refine yY g ah.aF λt _ _ g=>?_)
 obtain⟨t,w,g⟩:=cE g;refine yl (yQ ah.bh w) ?_;obtain⟨x2,w,g⟩:=cE g;refine yl (yQ ah.bh w) ?_;refine yc g (o.a.pq _ _) λy g=>?_;apply aA g<;>intro _ g;refine yk<|ao.fX 1 (rows':=ah.rows ([{Process:=x.Process,N:=y:ah}])) rfl zi (yz ?_)
 obtain⟨l,g⟩:=bR g;refine yk<|DO.dV rfl rfl zg rfl rfl zg rfl rfl (ah.cC _) rfl rfl rfl (zo l) (yz ?_)
 exact aZ (_,_,_) n g;exact aZ (t,x2,s7) n g;refine bw g λ_ g=>?_;refine yo [0,1,2,3,4,5,6,7,8,9,10,11,12,13,14,15,16,17,18,19] [] [] ?_;apply aA g<;>intro _ g;refine yo [0,1,2,3,4,5,6,7,8,9,10,11,12] [] [] ?_;refine yY g ah.aF λx _ _ g=>?_;refine yY g ah.aF λt _ _ g=>?_;obtain⟨t,w,g⟩:=cE g;refine yl (yQ ah.bh w) ?_;refine yc g (o.a.pq _ _) λy g=>?_;apply aA g<;>intro _ g;refine yk<|ao.fX 1 (rows':=ah.rows ([{Process:=x.Process,N:=y:ah}])) rfl zi (yz ?_)
 obtain⟨l,g⟩:=bR g;refine yk<|DO.dV rfl rfl zg rfl rfl zg rfl rfl (ah.cC _) rfl rfl rfl (zo l) (yz ?_)
 exact aZ (_,_,_) n g;exact aZ (t,s6,s7) n g;refine Ok.lK k ?_;conv=>(arg 3;whnf)
 refine yo [0,1,2,3,4,5,6,7,8,9,10,11,12,13,14] [] [] ?_;apply aA g<;>intro _ g;refine yo [0,1,2,3,4,5,6,7,8,9,10,11,12] [] [] ?_;refine yY g ah.aF λx _ _ g=>?_;refine yY g ah.aF λt _ _ g=>?_;obtain⟨t,w,g⟩:=cE g;refine yl (yQ ah.bh w) ?_;refine yc g (o.a.pq _ _) λy g=>?_;apply aA g<;>intro _ g;refine yk<|ao.fX 1 (rows':=ah.rows ([{Process:=x.Process,N:=y:ah}])) rfl zi (yz ?_)
 obtain⟨k,g⟩:=bR g;refine yk<|DO.dV rfl rfl zg rfl rfl zg rfl rfl (ah.cC _) rfl rfl rfl (zo k) (yz ?_)
 exact aZ (_,_,_) n g;exact aZ (s5,t,s7) n g
 iterate 2 (refine yY g ah.aF λx _ _ g=>?_)
 apply aA g<;>intro _ g;refine yo [0,1,2,3,4,5,6,7,8,9,10,11,12] [] [] ?_;refine yY g ah.aF λx _ _ g=>?_;refine yY g ah.aF λt _ _ g=>?_;obtain⟨t,w,g⟩:=cE g;refine yl (yQ ah.bh w) ?_;refine yc g (o.a.pq _ _) λy g=>?_;apply aA g<;>intro _ g;refine yk<|ao.fX 1 (rows':=ah.rows ([{Process:=x.Process,N:=y:ah}])) rfl zi (yz ?_)
 obtain⟨k,g⟩:=bR g;refine yk<|DO.dV rfl rfl zg rfl rfl zg rfl rfl (ah.cC _) rfl rfl rfl (zo k) (yz ?_)
 exact aZ (_,_,_) n g;exact aZ (s5,t,s7) n g;refine yo [0,1,2,3,4,5,6,7,8,9,10,11,12,13,14,15,16,17,18,19,20] [] [] ?_;refine yY g ah.aF λx _ _ g=>?_
 iterate 2 (refine yY g ah.aF λt _ _ g=>?_)
 obtain⟨t,w,g⟩:=cE g;refine yl (yQ ah.bh w) ?_;obtain⟨x2,w,g⟩:=cE g;refine yl (yQ ah.bh w) ?_;refine yc g (o.a.pq _ _) λy g=>?_;apply aA g<;>intro _ g;refine yk<|ao.fX 1 (rows':=ah.rows ([{Process:=x.Process,N:=y:ah}])) rfl zi (yz ?_)
 obtain⟨k,g⟩:=bR g;refine yk<|DO.dV rfl rfl zg rfl rfl zg rfl rfl (ah.cC _) rfl rfl rfl (zo k) (yz ?_)
 exact aZ (_,_,_) n g;exact aZ (t,x2,s7) n g
theorem amA:Yu (Bs (Gf n)):=by
 intro a0 a1 r g;rw[Bs]at g;refine yw func235 ntmps235 ?_;refine yc g (o.a.aeA _ _) λy g=>?_;cases g;exact zl
theorem amB:Yv (wR (Gf n)):=by
 intro a0 r g;rw[wR]at g;refine yw func272 ntmps272 ?_;refine Ok.stuck aW ?_;refine ao.v7 3 rfl (cz.nil 2) ?_;refine yL (S:=(List ah)×Int) (G:=λm s=>zT (Gf m) a0 s.1 s.2) (s0:=([],0)) 1 [2,7,8] [3,9] (λs=>[(3,.d (.sl 2 (ah.rows s.1))),(9,dI s.2)]) (λs=>[]) g ?_;rintro n ⟨s1,s2⟩ _ g;change zU (Gf n) a0 s1 s2=_ at g;rw[zU]at g;refine yz ?_;refine bw g λ_ g=>?_;refine yX g az.aF λx _ _ g=>?_;refine yc g (o.a.Nd _ _) λy g=>?_;exact aZ (_,_) n g
theorem amC:Yw (Bv (Gf n)):=by
 intro a0 a1 r g;rw[Bv]at g;refine yw func284 ntmps284 ?_;refine yc g (o.a.xr _) λy g=>?_;refine aR g λ_ g=>?_;refine yk<|yL (S:=Int) (G:=λm s=>z8 (Gf m) a0 a1 s) (s0:=0) 0 [1,4,10,11] [12] (λs=>[(12,dI s)]) (λs=>[]) g ?_;rintro n s3 _ g;change u6 (Gf n) a0 a1 s3=_ at g;rw[u6]at g;refine yz ?_
 refine bw g λ_ g=>?_;refine yX g ah.aF λx _ _ g=>?_;refine aR g λ_ g=>?_;exact aZ _ n g
theorem amD:Yx (Bx (Gf n)):=by
 intro a0 a1 r g;rw[Bx]at g;refine yw func271 ntmps271 ?_;refine yc g (o.a.xr _) λy g=>?_
 iterate 3 (refine aR g λ_ g=>?_)
 refine yc g (o.a.anv _ _) λy g=>?_;refine aR g λ_ g=>?_;refine yk<|ao.cT (t:=28) rfl rfl (gR rfl aW) (yz ?_)
 refine yc g (o.a.Nd _ _) λy g=>?_;cases g;exact zl
theorem amE:Yy (A7 (Gf n)):=by
 intro a0 a1 r g;rw[A7]at g;refine yw func273 ntmps273 ?_;cases g;exact yj
theorem amF:Yz (A6 (Gf n)):=by
 intro a0 a1 a2 r g;rw[A6]at g;refine yw func234 ntmps234 ?_;refine yo [0,1,2,3,4] [] [] ?_;obtain⟨y,z,g⟩:=bz g o.a.ant;refine yl (yC z) ?_;obtain⟨y,z,g⟩:=bz g (o.a.Ds _ _);refine yl (yC z) ?_
 iterate 3 (refine aR g λ_ g=>?_)
 refine yc g (o.a.oF _) λy g=>?_;refine aR g λ_ g=>?_;refine yc g (o.a.anu _) λy g=>?_;refine yc g (o.a.anw _ _) λy g=>?_;refine aR g λ_ g=>?_;refine yc g (o.a.anx _ _) λy g=>?_;cases g;exact zl
theorem amG:YA (A4 (Gf n)):=by
 intro a0 a1 a2 r g;rw[A4]at g;refine yw func185 ntmps185 ?_;refine yv (bE.toP (bE.min2 rfl rfl rfl)) ?_;refine yv (bE.toP (bE.max2 rfl rfl rfl)) ?_;refine yc g (o.a.anz _ _ _) λy g=>?_;refine aR g λ_ g=>?_;refine Ok.stuck aW ?_;refine ao.v7 10 rfl (cz.nil 2) ?_;refine yL (S:=(List ah)×Int) (G:=λm s=>uK (Gf m) a0 a2 s.1 s.2) (s0:=([],0)) 3 [2,3,6,8,27,28] [10,29] (λs=>[(10,.d (.sl 2 (ah.rows s.1))),(29,dI s.2)]) (λs=>[]) g ?_;rintro n ⟨s3,s4⟩ _ g;change Fo (Gf n) a0 a2 s3 s4=_ at g;rw[Fo]at g;refine yz ?_;apply aA g<;>intro _ g;refine yX g az.aF λx _ _ g=>?_;refine yc g (o.a.Nd _ _) λy g=>?_;exact aZ (_,_) n g;refine yc g (o.a.Hu _ _ _) λy g=>?_;cases g;exact zl
theorem amH:YB (A0 (Gf n)):=by
 intro a0 r g;rw[A0]at g;refine yw func186 ntmps186 ?_;cases g;exact zl
theorem amI:YC (wN (Gf n)):=by
 intro a0 r g;rw[wN]at g;refine yw func187 ntmps187 ?_;refine yk<|yL (S:=Int×Int) (G:=λm s=>rG (Gf m) a0 s.1 s.2) (s0:=(0,0)) 1 [2,7,8] [3,9] (λs=>[(3,dI s.1),(9,dI s.2)]) (λs=>[]) g ?_;rintro n ⟨s1,s2⟩ _ g;change uG (Gf n) a0 s1 s2=_ at g;rw[uG]at g;refine yz ?_
 refine bw g λ_ g=>?_;refine yX g af.aF λx _ _ g=>?_;refine yc g (o.a.Nb _) λy g=>?_;exact aZ (_,_) n g
theorem amJ:YD (wO (Gf n)):=by
 intro a0 r g;rw[wO]at g;refine yw func188 ntmps188 ?_;cases g;exact yj
theorem amK:YE (wP (Gf n)):=by
 intro a0 r g;rw[wP]at g;refine yw func189 ntmps189 ?_;refine yk<|ao.makeMap rfl rfl (yz ?_)
 refine Ok.stuck aW ?_;refine ao.kR 4 9 1 2 rfl rfl ?_;refine yL (S:=(List (List UInt8))×Int×(List (List UInt8))) (G:=λm s=>pV (Gf m) a0 s.1 s.2.1 s.2.2) (s0:=([],0,[])) 3 [2,3,9,10] [4,11] (λs=>[(4,.os 2 (aG s.1).length),(11,dI s.2.1)]) (λs=>[(2,.row 9 1 (aG s.1)),(1,.set s.2.2)]) g ?_;rintro n ⟨s1,s2,s3⟩ _ g;change uI (Gf n) a0 s1 s2 s3=_ at g;rw[uI]at g;refine yz ?_;refine zs g ?_ ?_<;>(clear g;intro k g);obtain⟨x,w,j,g⟩:=cL g;refine yv (yI j (az.aF w)) ?_;refine yv (bl.acd rfl Tryz.underlying247 Tryz.underlying9 Tryz.zeroValue4 rfl rfl rfl) ?_;refine zs g ?_ ?_<;>(clear g;intro k g);obtain⟨k,g⟩:=bR g;refine yk<|ao.afX Tryz.underlying247 Tryz.underlying9 rfl rfl rfl rfl (by simpa only[kL]using k) (yz ?_)
 obtain⟨k,g⟩:=bR g;refine yk<|DO.dV rfl rfl zg rfl rfl zg rfl rfl rfl rfl rfl rfl (zo k) (yz ?_)
 iterate 2 (exact aZ (_,_,_) n g)
 obtain⟨y,z,g⟩:=bz g (o.a.MZ _);obtain⟨k,g⟩:=bR g;refine yk<|ao.na 2 z rfl rfl (by first|rfl|(simp only[je];rfl)) rfl (o9.row zi) rfl ?_;refine ao.oB (m:=(aG y.2).length) 4 rfl (jl k) ?_;refine ao.oB (m:=(aG y.2).length) 29 rfl (jl k) (yz ?_)
 cases g;exact zl
/-(plexus.eval.frame).eval-/
theorem w86:ZU (jL (Gf n)):=by
 intro a0 a1 r g;rw[jL]at g;refine yw func86 ntmps86 ?_;apply aA g<;>intro _ g;refine yc g (o.a.ana _ _) λy g=>?_;cases g;exact zl;apply aA g<;>intro _ g;refine yc g (o.a.anD _ _) λy g=>?_
 iterate 3 (cases g;exact zl;apply aA g<;>intro _ g;refine yc g (o.a.anE _ _) λy g=>?_)
 cases g;exact zl;apply aA g<;>intro _ g;refine yc g (o.a.anF _ _) λy g=>?_;cases g;exact zl;refine yc g (o.a.anH _ _) λy g=>?_;cases g;exact zl
/-(plexus.eval.frame).operator-/
set_option maxHeartbeats 0 in
theorem amL:YF (gv (Gf n)):=by
 intro a0 a1 r g;rw[gv]at g;refine yw func132 ntmps132 ?_;apply aA g<;>intro _ g;refine yk<|ao.cT (t:=15) rfl rfl aW (yz ?_)
 refine yc g (o.a.kD _ _ _) λy g=>?_;apply aA g<;>intro _ g
 iterate 2 (refine yc g (o.a.kD _ _ _) λy g=>?_;cases g;exact zl)
 apply aA g<;>intro _ g;refine yk<|ao.cT (t:=26) rfl rfl aW (yz ?_)
 refine yc g (o.a.kD _ _ _) λy g=>?_;apply aA g<;>intro _ g;refine yc g (o.a.lT _) λy g=>?_;cases g;exact zl;refine yc g (o.a.kD _ _ _) λy g=>?_;refine yc g (o.a.lT _) λy g=>?_;cases g;exact zl;apply aA g<;>intro _ g;refine yk<|ao.cT (t:=41) rfl rfl aW (yz ?_)
 refine yc g (o.a.kD _ _ _) λy g=>?_;apply aA g<;>intro _ g;refine yc g (o.a.kD _ _ _) λy g=>?_
 iterate 2 (refine yc g (o.a.lT _) λy g=>?_;cases g;exact zl)
 apply aA g<;>intro _ g;refine yk<|ao.cT (t:=56) rfl rfl aW (yz ?_)
 refine yc g (o.a.kD _ _ _) λy g=>?_;refine yc g (o.a.lT _) λy g=>?_;cases g;exact zl;apply aA g<;>intro _ g;refine yk<|ao.cT (t:=64) rfl rfl aW (yz ?_)
 iterate 2 (refine yc g (o.a.kD _ _ _) λy g=>?_)
 refine yc g (o.a.lT _) λy g=>?_;cases g;exact zl;apply aA g<;>intro _ g;refine yk<|ao.cT (t:=76) rfl rfl aW (yz ?_)
 iterate 2 (refine yc g (o.a.kD _ _ _) λy g=>?_)
 refine yc g (o.a.lT _) λy g=>?_;cases g;exact zl;apply aA g<;>intro _ g;refine yk<|ao.cT (t:=88) rfl rfl aW (yz ?_)
 iterate 2 (refine yc g (o.a.kD _ _ _) λy g=>?_)
 iterate 2 (apply aA g<;>intro _ g)
 refine yc g (o.a.anc _ _) λy g=>?_
 iterate 3 (refine yc g (o.a.lT _) λy g=>?_;cases g;exact zl)
 apply aA g<;>intro _ g;refine yk<|ao.cT (t:=117) rfl rfl aW (yz ?_)
 iterate 2 (refine yc g (o.a.kD _ _ _) λy g=>?_)
 refine yc g (o.a.xp _ _) λy g=>?_;refine yc g (o.a.lT _) λy g=>?_;cases g;exact zl;apply aA g<;>intro _ g;refine yk<|ao.sI (t:=5) rfl rfl aW (yz ?_)
 refine yo [0,1,2,3,4,5,6,7,8,9,10,11,12,13] [(14,.one)] [] ?_;refine yY g ab.aF λx _ _ g=>?_
 iterate 2 (obtain⟨y,z,g⟩:=bz g (o.a.kD _ _ _);refine yl (yC z) ?_)
 obtain⟨y,z,g⟩:=bz g (o.a.c19 _ _ _);refine yl (yC z) ?_;obtain⟨y,z,g⟩:=bz g (o.a.lT _);refine yl (yC z) ?_;cases g;exact zl;apply aA g<;>intro _ g;refine yk<|ao.sI (t:=5) rfl rfl aW (yz ?_)
 refine yo [] (tk [0,3,6,9,12,15,18,21,24,27,30,33,36,40,43,45]) [] ?_
 iterate 2 (refine yt zp ?_;obtain⟨y,z,g⟩:=bz g (o.a.kD _ _ _);refine yu zp (bE.call z rfl rfl) ?_;refine yt zp ?_)
 obtain⟨y,z,g⟩:=bz g (o.a.Hu _ _ _);refine yu zp (bE.call z rfl rfl) ?_
 iterate 5 (refine yt zp ?_)
 cases g;exact yj;apply aA g<;>intro _ g;refine yk<|ao.cT (t:=162) rfl rfl aW (yz ?_)
 iterate 2 (refine yc g (o.a.kD _ _ _) λy g=>?_)
 refine yc g (o.a.Nb _) λy g=>?_;refine yc g (o.a.Cu _) λy g=>?_;cases g;exact zl;refine yk<|ao.cT (t:=173) rfl rfl aW (yz ?_)
 iterate 2 (refine yc g (o.a.kD _ _ _) λy g=>?_)
 refine yc g (o.a.Nb _) λy g=>?_;refine yc g (o.a.Cu _) λy g=>?_;cases g;exact zl
/-(plexus.eval.frame).operator$1-/
theorem amM:YG (qJ (Gf n)):=by
 intro a0 a1 a2 r g;rw[qJ]at g;refine yw func179 ntmps179 ?_;refine yo [0,1,2,3,4,5,6] [(7,.one)] [] ?_;refine yY g ab.aF λx _ _ g=>?_;obtain⟨y,z,g⟩:=bz g (o.a.tp _ _);refine yl (yC z) ?_;cases g;exact zl
/-(plexus.eval.frame).part-/
theorem amN:YH (nh (Gf n)):=by
 intro a0 a1 r g;rw[nh]at g;refine yw func133 ntmps133 ?_;refine yo [0,1,2,3,4,5,6,7] [(8,.one)] [] ?_;refine yY g ab.aF λx _ _ g=>?_;obtain⟨y,z,g⟩:=bz g (o.a.tp _ _);refine yl (yC z) ?_
 iterate 3 (apply aA g<;>intro _ g;refine yX g af.aF λx _ _ g=>?_;cases g;exact yj)
 refine yo [0,1,2,3,4,5,6,7,8,9,10,11] [] [] ?_;refine yY g ab.aF λx _ _ g=>?_;obtain⟨y,z,g⟩:=bz g (o.a.tp _ _);refine yl (yC z) ?_;obtain⟨y,z,g⟩:=bz g (o.a.xI _ _);refine yl (yC z) ?_;apply aA g<;>intro _ g;refine yX g af.aF λx _ _ g=>?_;cases g;exact yj;refine yc g (o.a.M9 _) λy g=>?_;cases g;exact yj
/-(plexus.eval.frame).constructor-/
theorem amO:YI (kb (Gf n)):=by
 intro a0 a1 r g;rw[kb]at g;refine yw func134 ntmps134 ?_;apply aA g<;>intro _ g;refine yk<|ao.cT (t:=22) rfl rfl aW (yz ?_)
 refine yc g (o.a.tf _ _ _) λy g=>?_;cases g;exact yj;apply aA g<;>intro _ g;refine yk<|ao.sI (t:=6) rfl rfl aW (yz ?_)
 refine yo [] (tk [0,3,6,9,12,15,18,21,25,28,30,33,37]) [] ?_
 iterate 3 (refine yt zp ?_)
 obtain⟨y,z,g⟩:=bz g (o.a.tf _ _ _);refine yu zp (bE.call z rfl rfl) ?_
 iterate 2 (refine yt zp ?_)
 refine ye zp (bE.toP (bE.min2 rfl rfl rfl)) ?_;refine ye zp (bE.toP (bE.max2 rfl rfl rfl)) ?_;cases g;exact yj;apply aA g<;>intro _ g;refine yc g (o.a.anG _ _) λy g=>?_;cases g;exact yj;apply aA g<;>intro _ g;refine yk<|ao.sI (t:=6) rfl rfl aW (yz ?_)
 refine Ok.stuck aW ?_;refine ao.y4 4 1 1 rfl rfl ?_;refine ao.y4 4 2 4 rfl rfl ?_;refine ao.y4 4 3 2 rfl rfl ?_;refine yL (S:=Int×af) (G:=λm s=>jw (Gf m) a0 a1 s.1 s.2) (s0:=(0,af.z)) 5 [3,4,5,6,7] [8] (λs=>[(8,dI s.1)]) (λs=>[(4,.box ((af.cs s.2).map .d))]) g ?_;rintro n ⟨s9,s10⟩ _ g;change mN (Gf n) a0 a1 s9 s10=_ at g;rw[mN]at g;refine yz ?_;refine bw g λ_ g=>?_
 iterate 2 (refine yc g (o.a.tf _ _ _) λy g=>?_)
 refine yo [0,1,2,3,4,5,6,7,8,9,10,11] [] [] ?_;obtain⟨y,z,g⟩:=bz g (o.a.Nc _ _);refine yl (yC z) ?_;apply aA g<;>intro _ g;exact aZ (_,_) n g;refine yY g ag.aF λx _ _ g=>?_;obtain⟨y,z,g⟩:=bz g (o.a.ans _ _);refine yl (yC z) ?_;apply aA g<;>intro _ g;exact aZ (_,_) n g;refine yc g (o.a.Hu _ _ _) λy g=>?_;exact aZ (_,_) n g;apply aA g<;>intro _ g;refine yk<|ao.sI (t:=6) rfl rfl aW (yz ?_)
 refine Ok.stuck aW ?_;refine ao.gS 4 2 40 4 5 rfl rfl rfl ?_;refine yL (S:=Int×(List af)) (G:=λm s=>jV (Gf m) a0 a1 s.1 s.2) (s0:=(0,[])) 6 [4,6,11,100] [101] (λs=>[(101,dI s.1)]) (λs=>[(5,.row 40 4 (af.rows s.2)),(4,.box [dI 0,.d (.v (.slice none 0 0)),.os 5 (af.rows s.2).length,.d (.v (.slice none 0 0))])]) g ?_;rintro n ⟨s22,s25⟩ _ g;change mO (Gf n) a0 a1 s22 s25=_ at g;rw[mO]at g;refine yz ?_;refine bw g λ_ g=>?_;refine yo [0,1,2,3,4,5,6] (tk [22,24,28]) [] ?_;obtain⟨y,z,g⟩:=bz g (o.a.tf _ _ _);refine yl (yC z) ?_;obtain⟨k,g⟩:=bR g;refine yk<|ao.eM (rows2:=(af.rows ([y.v]))) aJ.nil rfl rfl rfl rfl rfl zg rfl zi rfl rfl (af.cC _) rfl rfl (zo k) (yz ?_)
 exact aZ (_,_) n g;apply aA g<;>intro _ g;refine yk<|ao.sI (t:=6) rfl rfl aW (yz ?_)
 refine Ok.stuck aW ?_;refine ao.gS 4 2 40 4 5 rfl rfl rfl ?_;refine yL (S:=Int×(List af)) (G:=λm s=>nR (Gf m) a0 a1 s.1 s.2) (s0:=(0,[])) 6 [4,6,11,100] [101] (λs=>[(101,dI s.1)]) (λs=>[(5,.row 40 4 (af.rows s.2)),(4,.box [dI 0,.d (.v (.slice none 0 0)),.os 5 (af.rows s.2).length,.d (.v (.slice none 0 0))])]) g ?_;rintro n ⟨s31,s34⟩ _ g;change nS (Gf n) a0 a1 s31 s34=_ at g;rw[nS]at g;refine yz ?_;refine bw g λ_ g=>?_;refine yo [0,1,2,3,4,5,6] (tk [22,24,28]) [] ?_;obtain⟨y,z,g⟩:=bz g (o.a.tf _ _ _);refine yl (yC z) ?_;obtain⟨k,g⟩:=bR g;refine yk<|ao.eM (rows2:=(af.rows ([y.v]))) aJ.nil rfl rfl rfl rfl rfl zg rfl zi rfl rfl (af.cC _) rfl rfl (zo k) (yz ?_)
 exact aZ (_,_) n g;apply aA g<;>intro _ g;refine yk<|ao.cT (t:=118) rfl rfl aW (yz ?_)
 refine yc g (o.a.tf _ _ _) λy g=>?_;refine yc g (o.a.Nc _ _) λy g=>?_;refine bw g λ_ g=>?_;refine yc g (o.a.M9 _) λy g=>?_;cases g;exact yj;refine yk<|ao.cT (t:=133) rfl rfl aW (yz ?_)
 iterate 3 (refine yc g (o.a.tf _ _ _) λy g=>?_)
 refine yc g (o.a.anA _ _ _) λy g=>?_;cases g;exact yj
/-(plexus.eval.frame).constructor$1-/
theorem amP:YJ (qK (Gf n)):=by
 intro a0 a1 a2 r g;rw[qK]at g;refine yw func182 ntmps182 ?_;refine yo [0,1,2,3,4,5,6] [(7,.one)] [] ?_;refine yY g ab.aF λx _ _ g=>?_;obtain⟨y,z,g⟩:=bz g (o.a.tp _ _);refine yl (yC z) ?_;cases g;exact zl
/-(plexus.eval.frame).set-/
theorem amQ:YK (qM (Gf n)):=by
 intro a0 a1 r g;rw[qM]at g;refine yw func183 ntmps183 ?_;refine Ok.stuck aW ?_;refine ao.kR 6 9 1 3 rfl rfl ?_;refine yL (S:=(List (List UInt8))×Int) (G:=λm s=>kT (Gf m) a0 a1 s.1 s.2) (s0:=([],0)) 4 [2,4,5,14,15] [6,16] (λs=>[(6,.os 3 (aG s.1).length),(16,dI s.2)]) (λs=>[(3,.row 9 1 (aG s.1))]) g ?_;rintro n ⟨s1,s2⟩ _ g;change oS (Gf n) a0 a1 s1 s2=_ at g;rw[oS]at g;refine yz ?_;apply aA g<;>intro _ g;refine yX g ab.aF λx _ _ g=>?_;refine yc g (o.a.tp _ _) λy g=>?_;apply aA g<;>intro _ g;obtain⟨k,g⟩:=bR g;refine yk<|DO.dV rfl rfl zg rfl rfl zg rfl rfl rfl rfl rfl rfl (zo k) (yz ?_)
 iterate 2 (obtain⟨k,g⟩:=bR g;refine yk<|DO.sJ (rows2:=(aG y.d.Names)) rfl rfl zg rfl (cz.refl _) rfl rfl (Ig _) rfl rfl rfl (zo k) (yz ?_);exact aZ (_,_) n g)
 refine yk<|ao.cT (t:=38) rfl rfl (gR rfl aW) (yz ?_)
 refine yc g (o.a.anr _ _) λy g=>?_;refine yc g (o.a.xo _) λy g=>?_;refine bw g λ_ g=>?_;refine yc g (o.a.YP _ _ _) λy g=>?_;cases g;exact zl
/-(plexus.eval.frame).observer-/
theorem amR:YL (pf (Gf n)):=by
 intro a0 a1 r g;rw[pf]at g;refine yw func135 ntmps135 ?_;refine yo [0,1,2,3,4,5,6] [(7,.one)] [] ?_;refine yY g ab.aF λx _ _ g=>?_;obtain⟨y,z,g⟩:=bz g (o.a.tp _ _);refine yl (yC z) ?_;apply aA g<;>intro _ g;refine yc g (o.a.anB _) λy g=>?_;refine yc g (o.a.Cu _) λy g=>?_;cases g;exact zl;apply aA g<;>intro _ g;refine yc g (o.a.anC _) λy g=>?_
 iterate 2 (refine yc g (o.a.Cu _) λy g=>?_;cases g;exact zl;apply aA g<;>intro _ g)
 refine yc g (o.a.lT _) λy g=>?_;cases g;exact zl;apply aA g<;>intro _ g;refine yc g (o.a.xq _) λy g=>?_;refine yc g (o.a.Nf _) λy g=>?_;cases g;exact zl;apply aA g<;>intro _ g;refine yX g ab.aF λx _ _ g=>?_;apply aA g<;>intro _ g;refine yc g (o.a.YT _) λy g=>?_;refine yc g (o.a.Nf _) λy g=>?_;cases g;exact zl;refine yc g (o.a.xq _) λy g=>?_;refine yc g (o.a.Nf _) λy g=>?_;cases g;exact zl;apply aA g<;>intro _ g;refine yc g (o.a.lT _) λy g=>?_;cases g;exact zl;refine yc g (o.a.YT _) λy g=>?_;refine yc g (o.a.lT _) λy g=>?_;cases g;exact zl
theorem w85:ZV (CN (Gf n)):=by
 intro a0 r g;rw[CN]at g;refine yw func85 ntmps85 ?_;refine yo [0,1,2,3,4,5,6] [(7,.one)] [] ?_;obtain⟨y,z,g⟩:=bz g (o.a.xq _);refine yl (yC z) ?_;refine Ok.stuck aW ?_;refine ao.gS 2 2 40 4 3 rfl rfl rfl ?_;refine yL (S:=Int×(List af)) (G:=λm s=>rZ (Gf m) a0 y s.1 s.2) (s0:=(0,[])) 4 [1,2,3,15,16] [17] (λs=>[(17,dI s.1)]) (λs=>[(3,.row 40 4 (af.rows s.2)),(2,.box [dI a0.N,.d (.sl 1 (aG y)),.os 3 (af.rows s.2).length,.d (.v (.slice none 0 0))])]) g ?_;rintro n ⟨s2,s5⟩ _ g;change vH (Gf n) a0 y s2 s5=_ at g;rw[vH]at g;refine yz ?_;apply aA g<;>intro _ g;refine yX g af.aF λx _ _ g=>?_;refine yo [0,1,2,3,4] (tk [16,18,22]) [] ?_;obtain⟨v,z,g⟩:=bz g (o.a.c85 _);refine yl (yC z) ?_;obtain⟨k,g⟩:=bR g;refine yk<|ao.eM (rows2:=(af.rows ([v]))) aJ.nil rfl rfl rfl rfl rfl zg rfl zi rfl rfl (af.cC _) rfl rfl (zo k) (yz ?_)
 exact aZ (_,_) n g;refine Ok.stuck aW ?_;refine ao.gS 2 3 126 2 4 rfl rfl rfl ?_;refine yL (S:=Int×(List af)×(List az)) (G:=λm s=>qp (Gf m) a0 y s.1 s.2.1 s.2.2) (s0:=(0,s5,[])) 5 [1,2,3,15,16,17,30,31] [32] (λs=>[(32,dI s.1)]) (λs=>[(3,.row 40 4 (af.rows s.2.1)),(4,.row 126 2 (az.rows s.2.2)),(2,.box [dI a0.N,.d (.sl 1 (aG y)),.os 3 (af.rows s.2.1).length,.os 4 (az.rows s.2.2).length])]) g ?_;rintro n ⟨s12,s15,s16⟩ _ g;change vG (Gf n) a0 y s12 s15 s16=_ at g;rw[vG]at g;refine yz ?_;refine bw g λ_ g=>?_;refine yX g az.aF λx _ _ g=>?_;refine yo [0,1,2,3,4,5,6,7,8] (tk [28,30,34]) [] ?_;obtain⟨y,z,g⟩:=bz g (o.a.YQ _);refine yl (yC z) ?_;obtain⟨k,g⟩:=bR g;refine yk<|ao.eM (rows2:=(az.rows ([{a8:=y,Name:=x.Name:az}]))) aJ.nil rfl rfl rfl rfl rfl zg rfl zi rfl rfl (az.cC _) rfl rfl (zo k) (yz ?_)
 exact aZ (_,_,_) n g
