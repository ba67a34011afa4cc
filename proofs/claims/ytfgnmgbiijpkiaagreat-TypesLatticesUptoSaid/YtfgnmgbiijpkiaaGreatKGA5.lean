/- Printed by a program: what functions answer, and that they do. -/
import Derived.Test.YtfgnmgbiijpkiaaGreatKGA3
set_option linter.all false
set_option maxRecDepth 100000
noncomputable section
namespace Go.Proofs.YtfgnmgbiijpkiaaGreat
open Go Go.Bw Go.Proofs.Tryz
theorem yb {N K:Nat} {Q:DQ} {Z:TS} {O:Hp} {all rest:List Oper} {k:List It} {ns:List (Nat×Nat)} {dst:Option Nat} {f:Operand} {args:List Operand} {g:FuncId} {cs xs xs':List CV} {ce:bm} {e0 e1:fu} {y:AV} {tys:Array TypeId} {ty:TypeId} {pos:String} {after:Array Edge} {X:Out} (i:Nat)
  (h:dk env g xs e0 y e1) (hk:Out.ok env Q X) (hn:eqs ns:=by exact TX) (hc:cT Z f args=some (g,cs):=by exact rfl) (hr:mg i cs=some xs':=by exact rfl) (hx:xs'=xs:=by exact zn) (hi:O.e.get i=some ce:=by exact rfl) (hs:dc ce e0:=by exact dc.box rfl zi) (hd:ck N dst=true:=by exact rfl)
  (hq:gh env N K (.ops all rest::k) (bW Z dst (.d y)) (O.set i e1.c)=X:=by conv=>(lhs;whnf)):
  Out.ok env Q (.stuck N K (.ops all (⟨dst,.call {callee:= .value f,args:=args.toArray,argTypes:=tys},ty,pos,after,none⟩::rest)::k) Z O ns):=yk (ak.ib i h hc hr hx hi hs hd (yz hk hq)) hn
theorem acw {n} (o:Ou n):RL (G4 (Gu n)):=by
 intro a0 a1 r g;rw[G4]at g;refine yw func180 ntmps180 ?_;cases g;exact zl
theorem acx {n} (o:Ou n):RM (G5 (Gu n)):=by
 intro a0 r g;rw[G5]at g;refine yw func226 ntmps226 ?_
 iterate 2 (refine aK g λ_ g=>?_)
 exact dV g
theorem acy {n} (o:Ou n):RN (Bm (Gu n)):=by
 intro a0 a1 r g;rw[Bm]at g;refine yw func181 ntmps181 ?_;refine yk<|yL (S:=Int) (G:=λm s=>pv (Gu m) a0 a1 s) (s0:=a1) 0 [0,4] [1] (λs=>[(1,.d (.v (.int .i64 s)))]) (λs=>[]) g ?_;rintro n s1 _ g;change DW (Gu n) a0 a1 s1=_ at g;rw[DW]at g;refine yz ?_
 refine br g λ_ g=>?_;obtain⟨x,w,j,g⟩:=a8 g;refine yv (aQ.toP (aQ.dI ((s1:Int).toNat) rfl rfl rfl rfl j w)) ?_;refine yc g (o.a.acZ _) λy g=>?_;refine ao g ?_ ?_<;>intro _ g;obtain⟨t,w,j,g⟩:=a8 g;refine yv (aQ.toP (aQ.dI ((s1:Int).toNat) rfl rfl rfl rfl j w)) ?_;refine ao g ?_ ?_<;>intro _ g;exact yk (yN _ n ⟨by omega,g⟩);refine yk<|yL (S:=Int) (G:=λm s=>DX (Gu m) a0 a1 s1 x y t s) (s0:=s1) 0 [0,4] [1] (λs=>[(1,.d (.v (.int .i64 s)))]) (λs=>[]) g ?_;rintro n s10 _ g;change DY (Gu n) a0 a1 s1 x y t s10=_ at g;rw[DY]at g;refine yz ?_
 refine ao g ?_ ?_<;>intro _ g;obtain⟨t,w,j,g⟩:=a8 g;refine yv (aQ.toP (aQ.dI ((s10:Int).toNat) rfl rfl rfl rfl j w)) ?_;refine ao g ?_ ?_<;>intro _ g;exact yk (yN _ n ⟨by omega,g⟩)
 iterate 2 (exact yk (yN s10 n ⟨by omega,g⟩))
 obtain⟨t,w,j,g⟩:=a8 g;refine yv (aQ.toP (aQ.dI ((s1:Int).toNat) rfl rfl rfl rfl j w)) ?_;refine br g λ_ g=>?_;obtain⟨x2,w,j,g⟩:=a8 g;refine yv (aQ.toP (aQ.dI ((s1:Int).toNat) rfl rfl rfl rfl j w)) ?_;refine ao g ?_ ?_<;>intro _ g;exact yk (yN _ n ⟨by omega,g⟩);refine yk<|yL (S:=Int) (G:=λm s=>DZ (Gu m) a0 a1 s1 x y t x2 s) (s0:=s1) 0 [0,4] [1] (λs=>[(1,.d (.v (.int .i64 s)))]) (λs=>[]) g ?_;rintro n s21 _ g;change D0 (Gu n) a0 a1 s1 x y t x2 s21=_ at g;rw[D0]at g;refine yz ?_
 refine ao g ?_ ?_<;>intro _ g;obtain⟨x,w,j,g⟩:=a8 g;refine yv (aQ.toP (aQ.dI ((s21:Int).toNat) rfl rfl rfl rfl j w)) ?_;refine ao g ?_ ?_<;>intro _ g;exact yk (yN _ n ⟨by omega,g⟩)
 iterate 2 (exact yk (yN s21 n ⟨by omega,g⟩))
theorem acz {n} (o:Ou n):RO (G6 (Gu n)):=by
 intro a0 r g;rw[G6]at g;refine yw func227 ntmps227 ?_;exact dV g
theorem acA {n} (o:Ou n):RS (G7 (Gu n)):=by
 intro a0 r g;rw[G7]at g;refine yw func230 ntmps230 ?_;exact dV g
theorem acB {n} (o:Ou n):RT (G8 (Gu n)):=by
 intro a0 r g;rw[G8]at g;refine yw func243 ntmps243 ?_;refine yc g (o.a.RU _) λy g=>?_;refine aK g λ_ g=>?_;refine yc g (o.a.G9 _) λy g=>?_;exact dV g
theorem acC {n} (o:Ou n):RV (Bn (Gu n)):=by
 intro a0 a1 r g;rw[Bn]at g;refine yw func228 ntmps228 ?_;refine yk<|yL (S:=Int) (G:=λm s=>D1 (Gu m) a0 s) (s0:=a1) 0 [0,4] [1] (λs=>[(1,.d (.v (.int .i64 s)))]) (λs=>[]) g ?_;rintro n s1 _ g;change D2 (Gu n) a0 s1=_ at g;rw[D2]at g;refine yz ?_
 refine br g λ_ g=>?_;obtain⟨x,w,j,g⟩:=a8 g;refine yv (aQ.toP (aQ.dI ((s1:Int).toNat) rfl rfl rfl rfl j w)) ?_;refine yc g (o.a.ac0 _) λy g=>?_;refine br g λ_ g=>?_;exact yk (yN _ n ⟨by omega,g⟩)
theorem acD {n} (o:Ou n):RW (G' (Gu n)):=by
 intro r g;rw[G']at g;refine yw func245 ntmps245 ?_;cases g;exact zl
theorem acE {n} (o:Ou n):RX (Bo (Gu n)):=by
 intro a0 a1 r g;rw[Bo]at g;refine yw func244 ntmps244 ?_;refine yk<|yL (S:=Int) (G:=λm s=>D3 (Gu m) a0 a1 s) (s0:=0) 0 [0,1,4] [5] (λs=>[(5,.d (.v (.int .i64 s)))]) (λs=>[]) g ?_;rintro n s1 _ g;change D4 (Gu n) a0 a1 s1=_ at g;rw[D4]at g;refine yz ?_
 refine br g λ_ g=>?_;refine yX g dQ λx _ _ g=>?_;refine aK g λ_ g=>?_;exact yk (yN _ n ⟨by omega,g⟩)
theorem acF {n} (o:Ou n):RY (Ha (Gu n)):=by
 intro a0 r g;rw[Ha]at g;refine yw func229 ntmps229 ?_;refine yc g o.a.ac1 λy g=>?_;refine yc g (o.a.ac2 _ _) λy g=>?_;cases g;exact zl
theorem acG {n} (o:Ou n):RZ (Bp (Gu n)):=by
 intro a0 a1 r g;rw[Bp]at g;refine yw func231 ntmps231 ?_;refine yk<|yL (S:=Int×Int) (G:=λm s=>Aq (Gu m) a0 a1 s.1 s.2) (s0:=(a1,0)) 2 [0,1,4,5,6] [7,8] (λs=>[(7,.d (.v (.int .i64 s.1))),(8,.d (.v (.int .i64 s.2)))]) (λs=>[]) g ?_;rintro n ⟨s1,s2⟩ _ g;change D5 (Gu n) a0 a1 s1 s2=_ at g;rw[D5]at g;refine yz ?_
 refine ao g ?_ ?_<;>intro _ g;obtain⟨x,w,j,g⟩:=a8 g;refine yv (aQ.toP (aQ.dI ((s1:Int).toNat) rfl rfl rfl rfl j w)) ?_;refine yc g (o.a.G9 _) λy g=>?_
 iterate 2 (refine ao g ?_ ?_<;>intro _ g)
 obtain⟨x,w,j,g⟩:=a8 g;refine yv (aQ.toP (aQ.dI ((s1:Int).toNat) rfl rfl rfl rfl j w)) ?_
 iterate 2 (exact yk (yN (_,_) n ⟨by omega,g⟩))
 iterate 2 (obtain⟨x,w,j,g⟩:=a8 g;refine yv (aQ.toP (aQ.dI ((a1:Int).toNat) rfl rfl rfl rfl j w)) ?_;(iterate 2 (refine ao g ?_ ?_<;>intro _ g));(iterate 2 (refine yc g (o.a.jN _ _) λy g=>?_;cases g;exact zl;refine br g λ_ g=>?_));refine yc g (o.a.jN _ _) λy g=>?_;cases g;exact zl)
theorem acH {n} (o:Ou n):R1 (w8 (Gu n)):=by
 intro a0 r g;rw[w8]at g;refine yw func103 ntmps103 ?_;refine ao g ?_ ?_<;>intro _ g;refine aK g λ_ g=>?_
 iterate 2 (refine br g λ_ g=>?_;exact dV g)
theorem w58 {n} (o:Ou n):IW (xB (Gu n)):=by
 intro a0 r g;rw[xB]at g;refine yw func58 ntmps58 ?_
 iterate 2 (refine aK g λ_ g=>?_)
 iterate 2 (obtain⟨x,w,j,g⟩:=a8 g;refine yv (aQ.toP (aQ.dI ((0:Int).toNat) rfl rfl rfl rfl j w)) ?_;refine aK g λ_ g=>?_)
 refine yk<|yL (S:=Int) (G:=λm s=>wj (Gu m) a0 s) (s0:=0) 0 [0,2] [3] (λs=>[(3,.d (.v (.int .i64 s)))]) (λs=>[]) g ?_;rintro n s9 _ g;change tV (Gu n) a0 s9=_ at g;rw[tV]at g;refine yz ?_
 refine br g λ_ g=>?_;obtain⟨x,w,j,g⟩:=a8 g;refine yv (aQ.toP (aQ.dI ((s9:Int).toNat) rfl rfl rfl rfl j w)) ?_;refine yc g (o.a.ac3 _) λy g=>?_;refine aK g λ_ g=>?_;exact yk (yN _ n ⟨by omega,g⟩)
theorem acI {n} (o:Ou n):R2 (Hb (Gu n)):=by
 intro r g;rw[Hb]at g;refine yw func232 ntmps232 ?_;cases g;exact zl
theorem acJ {n} (o:Ou n):R3 (Hc (Gu n)):=by
 intro a0 a1 r g;rw[Hc]at g;refine yw func182 ntmps182 ?_;obtain⟨x,w,j,g⟩:=a8 g;refine yv (aQ.toP (aQ.dI ((a1:Int).toNat) rfl rfl rfl rfl j w)) ?_;refine yc g (o.a.RU _) λy g=>?_;refine ao g ?_ ?_<;>intro _ g;refine yc g (o.a.R4 _ _) λy g=>?_;refine ao g ?_ ?_<;>intro _ g;refine yc g (o.a.jN _ _) λy g=>?_;cases g;exact zl;obtain⟨x,w,g⟩:=fb g;obtain⟨j9a,j9b,j,j9i,j9k,j9m,w⟩:=qh w;refine yv (aQ.toP (aQ.conv (aQ.sZ j9a j9b rfl rfl rfl (jB j rfl) (jB j9i rfl) j9k j9m) (by rw[w])) (x:= .d (.v (.string ⟨⟨x⟩⟩)))) ?_;refine yc g (o.a.ac4 _) λy g=>?_;refine ao g ?_ ?_<;>intro _ g;obtain⟨x,w,g⟩:=fb g;obtain⟨j13a,j13b,j,j13i,j13k,j13m,w⟩:=qh w;refine yv (aQ.toP (aQ.conv (aQ.sZ j13a j13b rfl rfl rfl (jB j rfl) (jB j13i rfl) j13k j13m) (by rw[w])) (x:= .d (.v (.string ⟨⟨x⟩⟩)))) ?_;cases g;exact zl;obtain⟨x,w,g⟩:=fb g;obtain⟨j15a,j15b,j,j15i,j15k,j15m,w⟩:=qh w;refine yv (aQ.toP (aQ.conv (aQ.sZ j15a j15b rfl rfl rfl (jB j rfl) (jB j15i rfl) j15k j15m) (by rw[w])) (x:= .d (.v (.string ⟨⟨x⟩⟩)))) ?_;cases g;exact zl;refine yc g (o.a.G9 _) λy g=>?_;refine ao g ?_ ?_<;>intro _ g;refine yc g (o.a.ac5 _ _) λy g=>?_;cases g;exact zl;refine ao g ?_ ?_<;>intro _ g;refine yc g (o.a.R4 _ _) λy g=>?_;refine ao g ?_ ?_<;>intro _ g;refine yc g (o.a.jN _ _) λv g=>?_;cases g;exact zl;obtain⟨x,w,j,g⟩:=a8 g;refine yv (aQ.toP (aQ.dI ((y:Int).toNat) rfl rfl rfl rfl j w)) ?_;refine ao g ?_ ?_<;>intro _ g;refine yc g (o.a.jN _ _) λy g=>?_;cases g;exact zl;obtain⟨x,w,g⟩:=fb g;obtain⟨j28a,j28b,j,j28i,j28k,j28m,w⟩:=qh w;refine yv (aQ.toP (aQ.conv (aQ.sZ j28a j28b rfl rfl rfl (jB j rfl) (jB j28i rfl) j28k j28m) (by rw[w])) (x:= .d (.v (.string ⟨⟨x⟩⟩)))) ?_;refine yc g (o.a.p3 _) λy g=>?_;refine ao g ?_ ?_<;>intro _ g;refine yc g (o.a.jN _ _) λy g=>?_;cases g;exact zl;obtain⟨x,w,g⟩:=fb g;obtain⟨j33a,j33b,j,j33i,j33k,j33m,w⟩:=qh w;refine yv (aQ.toP (aQ.conv (aQ.sZ j33a j33b rfl rfl rfl (jB j rfl) (jB j33i rfl) j33k j33m) (by rw[w])) (x:= .d (.v (.string ⟨⟨x⟩⟩)))) ?_;cases g;exact zl;refine yc g o.a.ac6 λy g=>?_;refine yk<|yL (S:=Int) (G:=λm s=>Ar (Gu m) a0 a1 y s) (s0:=0) 2 [0,1,4,5,6,11] [12] (λs=>[(12,.d (.v (.int .i64 s)))]) (λs=>[]) g ?_;rintro n s35 _ g;change D6 (Gu n) a0 a1 y s35=_ at g;rw[D6]at g;refine yz ?_
 refine ao g ?_ ?_<;>intro _ g;refine yX g dQ λx _ _ g=>?_;refine yo [0,1,2,3,4,5,6,7,8,9,10,11,12,13,14,15,16,17,18] [] [] ?_;refine ao g ?_ ?_<;>intro _ g;obtain⟨x,w,g⟩:=fb g;obtain⟨j41a,j41b,j,j41i,j41k,j41m,w⟩:=qh w;refine yl (aQ.toP (aQ.conv (aQ.sZ j41a j41b rfl rfl rfl (jB j rfl) (jB j41i rfl) j41k j41m) (by rw[w])) (x:= .d (.v (.string ⟨⟨x⟩⟩)))) ?_;refine yY g dQ λx _ _ g=>?_;refine ao g ?_ ?_<;>intro _ g;refine yX g dQ λx _ _ g=>?_;cases g;exact zl
 iterate 2 (exact yk (yN _ n ⟨by omega,g⟩))
 refine yc g (o.a.jN _ _) λy g=>?_;cases g;exact zl
theorem acK {n} (o:Ou n):R5 (Hd (Gu n)):=by
 intro a0 a1 r g;rw[Hd]at g;refine yw func121 ntmps121 ?_
 iterate 3 (refine ao g ?_ ?_<;>intro _ g;refine yc g (o.a.jN _ _) λy g=>?_;cases g;exact zl)
 refine yc g (o.a.ac7 _ _) λy g=>?_;refine aK g λ_ g=>?_;refine yc g (o.a.ac8 _ _) λy g=>?_;cases g;exact zl
theorem w73 {n} (o:Ou n):T3 (BY (Gu n)):=by
 intro a0 r g;rw[BY]at g;refine yw func73 ntmps73 ?_;refine Ok.stuck aW ?_;refine ak.km 2 131 4 1 rfl rfl ?_;refine ak.km 4 131 4 2 rfl rfl ?_;refine yL (S:=(List bG)×(List bG)×Int) (G:=λm s=>EC (Gu m) a0 s.1 s.2.1 s.2.2) (s0:=([],[],0)) 3 [0,3] [2,4,5] (λs=>[(2,.os 1 (bG.rows s.1).length),(4,.os 2 (bG.rows s.2.1).length),(5,.d (.v (.int .i64 s.2.2)))]) (λs=>[(1,.row 131 4 (bG.rows s.1)),(2,.row 131 4 (bG.rows s.2.1))]) g ?_;rintro n ⟨s1,s2,s3⟩ _ g;change ED (Gu n) a0 s1 s2 s3=_ at g;rw[ED]at g;refine yz ?_;refine yc g (o.a.ac9 _ _) λy g=>?_;refine ao g ?_ ?_<;>intro _ g;refine yo [0,1] [(2,.one)] [] ?_;cases g;exact yj;refine yk<|ak.dY 5 (rows':=bG.rows ([y.fst])) rfl zi (yz ?_)
 obtain⟨k,g⟩:=bz g;refine yk<|DO.cW rfl rfl zg rfl rfl zg rfl rfl (bG.bU _) rfl rfl rfl (zo k) (yz ?_)
 refine aK g λ_ g=>?_;exact yk (yN (_,_,_) n ⟨by omega,g⟩)
/-(*plexus.plexusref16.P).token-/
theorem w76 {n} (o:Ou n):T4 (Jb (Gu n)):=by
 intro a0 r g;rw[Jb]at g;refine yw func76 ntmps76 ?_;refine yo [0,1,2,3,4,5,6,7,8,9] [(10,.one)] [] ?_;refine yY g bG.aF λx _ _ g=>?_;cases g;exact zl
/-(*plexus.plexusref16.P).is-/
theorem acL {n} (o:Ou n):R6 (He (Gu n)):=by
 intro a0 a1 r g;rw[He]at g;refine yw func122 ntmps122 ?_;refine yc g (o.a.cI _) λy g=>?_;refine br g λ_ g=>?_;refine aK g λ_ g=>?_;exact dV g
/-(*plexus.plexusref16.P).fail-/
theorem w78 {n} (o:Ou n):T6 (Jc (Gu n)):=by
 intro a0 a1 r g;rw[Jc]at g;refine dk.walk (E:=env) func78 rfl zk (rs:=_) rfl ntmps78 rfl (yz ?_);refine ao g ?_ ?_<;>intro _ g;refine yc g (o.a.cI _) λy g=>?_
 iterate 2 (refine Ok.fin aW ?_;obtain rfl:=jm g;exact RD.vL rfl rfl rfl aW rfl zi zi)
/-(*plexus.plexusref16.P).text-/
theorem acM {n} (o:Ou n):R7 (Hf (Gu n)):=by
 intro a0 a1 r g;rw[Hf]at g;refine dk.walk (E:=env) func126 rfl zk (rs:=_) rfl ntmps126 rfl (yz ?_);refine yc g (o.a.cI _) λy g=>?_;refine ao g ?_ ?_<;>intro _ g;obtain⟨y,z,g⟩:=ay g (o.a.lz _ _);refine yb 0 z ?_;cases g;exact yJ;refine br g λ_ g=>?_;obtain⟨y,z,g⟩:=ay g (o.a.lz _ _);refine yb 0 z ?_;cases g;exact yJ
/-(*plexus.plexusref16.P).integer-/
theorem acN {n} (o:Ou n):R8 (Hg (Gu n)):=by
 intro a0 r g;rw[Hg]at g;refine dk.walk (E:=env) func128 rfl zk (rs:=_) rfl ntmps128 rfl (yz ?_);refine yc g (o.a.cI _) λy g=>?_;refine yc g (o.a.b9 _ _) λy g=>?_;refine ao g ?_ ?_<;>intro _ g
 iterate 2 (refine yc g (o.a.cI _) λy g=>?_;obtain⟨y,z,g⟩:=ay g (o.a.dn _ _);refine yb 0 z ?_;cases g;exact yJ)
/-(*plexus.plexusref16.P).enter-/
theorem acO {n} (o:Ou n):R9 (Hh (Gu n)):=by
 intro a0 r g;rw[Hh]at g;refine dk.walk (E:=env) func124 rfl zk (rs:=_) rfl ntmps124 rfl (yz ?_);refine ao g ?_ ?_<;>intro _ g;obtain⟨y,z,g⟩:=ay g (o.a.lz _ _);refine yb 0 z ?_
 iterate 2 (refine Ok.fin aW ?_;obtain rfl:=jm g;exact RD.vL rfl rfl rfl aW rfl zi zi)
/-(*plexus.plexusref16.P).take-/
theorem acP {n} (o:Ou n):Sa (Hk (Gu n)):=by
 intro a0 a1 r g;rw[Hk]at g;refine dk.walk (E:=env) func125 rfl zk (rs:=_) rfl ntmps125 rfl (yz ?_);refine yc g (o.a.b9 _ _) λy g=>?_;refine aK g λ_ g=>?_;obtain⟨y,z,g⟩:=ay g (o.a.lz _ _);refine yb 0 z ?_;refine Ok.fin aW ?_;obtain rfl:=jm g;exact RD.vL rfl rfl rfl aW rfl zi zi
theorem acQ {n} (o:Ou n):Sb (Hl (Gu n)):=by
 intro r g;rw[Hl]at g;refine yw func249 ntmps249 ?_;cases g;exact zl
/-(*plexus.plexusref16.P).function-/
theorem acR {n} (o:Ou n):Sc (Hm (Gu n)):=by
 intro a0 r g;rw[Hm]at g;refine yw func246 ntmps246 ?_;refine yc g o.a.ac' λy g=>?_;refine yk<|yL (S:=Int) (G:=λm s=>D7 (Gu m) a0 y s) (s0:=0) 0 [0,2,3] [4] (λs=>[(4,.d (.v (.int .i64 s)))]) (λs=>[]) g ?_;rintro n s2 _ g;change D8 (Gu n) a0 y s2=_ at g;rw[D8]at g;refine yz ?_
 refine br g λ_ g=>?_;refine yX g dQ λx _ _ g=>?_;refine yc g (o.a.b9 _ _) λy g=>?_;refine aK g λ_ g=>?_;exact yk (yN _ n ⟨by omega,g⟩)
/-(*plexus.plexusref16.P).operator-/
theorem acS {n} (o:Ou n):Sd (Hn (Gu n)):=by
 intro a0 a1 r g;rw[Hn]at g;refine yw func184 ntmps184 ?_;refine ao g (λk g=>?_) λ_ g=>?_;refine yc g (o.a.b9 _ _) λy g=>?_;refine aK g λ_ g=>?_
 iterate 9 (refine yF k ?_)
 cases g;exact zl;refine ao g (λk g=>?_) λ_ g=>?_;refine yc g (o.a.b9 _ _) λy g=>?_;refine aK g λ_ g=>?_
 iterate 8 (refine yF k ?_)
 cases g;exact zl;refine ao g (λk g=>?_) λk g=>?_
 iterate 4 (refine yc g (o.a.b9 _ _) λy g=>?_;refine aK g λ_ g=>?_;(refine Ok.eH k ?_;conv=>(arg 3;whnf)))
 refine yc g (o.a.b9 _ _) λy g=>?_;refine aK g λ_ g=>?_
 iterate 3 (refine yF k ?_)
 cases g;exact zl
 iterate 4 ((refine Ok.fm k ?_;conv=>(arg 3;whnf)))
 refine ao g (λk g=>?_) λ_ g=>?_;refine yc g (o.a.b9 _ _) λy g=>?_;refine aK g λ_ g=>?_
 iterate 2 (refine yF k ?_)
 cases g;exact zl;refine ao g (λk g=>?_) λk g=>?_;refine yc g (o.a.b9 _ _) λy g=>?_;refine aK g λ_ g=>?_;refine Ok.eH k ?_;conv=>(arg 3;whnf)
 refine yc g (o.a.b9 _ _) λy g=>?_;exact dV g;refine Ok.fm k ?_;conv=>(arg 3;whnf)
 cases g;exact zl
/-(*plexus.plexusref16.P).expression-/
theorem w74 {n} (o:Ou n):T7 (Jd (Gu n)):=by
 intro a0 r g;rw[Jd]at g;refine dk.walk (E:=env) func74 rfl zk (rs:=_) rfl ntmps74 rfl (yz ?_);refine yc g (o.a.b9 _ _) λy g=>?_;refine ao g ?_ ?_<;>intro _ g;obtain⟨y,z,g⟩:=ay g (o.a.uJ _ _);refine yb 0 z ?_;cases g;exact yJ;refine yc g (o.a.cI _) λy g=>?_;obtain⟨y,z,g⟩:=ay g (o.a.pY _);refine yb 0 z ?_;refine aK g λ_ g=>?_
 iterate 2 (obtain⟨y,z,g⟩:=ay g (o.a.iw _);refine yb 0 z ?_;obtain⟨y,z,g⟩:=ay g (o.a.bJ _ _);refine yb 0 z ?_)
 obtain⟨y,z,g⟩:=ay g (o.a.iw _);refine yb 0 z ?_;cases g;exact yJ
/-(*plexus.plexusref16.P).binary-/
theorem acT {n} (o:Ou n):Se (Ho (Gu n)):=by
 intro a0 a1 r g;rw[Ho]at g;refine dk.walk (E:=env) func123 rfl zk (rs:=_) rfl ntmps123 rfl (yz ?_);refine ao g ?_ ?_<;>intro _ g;obtain⟨y,z,g⟩:=ay g (o.a.ada _);refine yb 0 z ?_;cases g;exact yJ;refine ao g (λk g=>?_) λk g=>?_;refine yc g (o.a.b9 _ _) λy g=>?_;refine ao g ?_ ?_<;>intro _ g;refine yc g (o.a.cI _) λy g=>?_;obtain⟨y,z,g⟩:=ay g (o.a.pY _);refine yb 0 z ?_;refine aK g λ_ g=>?_;obtain⟨y,z,g⟩:=ay g (o.a.uJ _ _);refine yb 0 z ?_;cases g;exact yJ;obtain⟨y,z,g⟩:=ay g (o.a.uJ _ _);refine yb 0 z ?_;refine yk<|yL (S:=Unit) (G:=λm s=>Nq (Gu m) a1 y) (s0:=()) 3 [0,1,4,6] [] (λs=>[]) (λs=>[]) g ?_;rintro n s _ g;change D9 (Gu n) a1 y=_ at g;rw[D9]at g;refine yz ?_
 refine yc g (o.a.Sf _ _) λy g=>?_;refine aK g λ_ g=>?_;refine yc g (o.a.cI _) λy g=>?_;refine yo [] (tk [0,3,6,9,13,15,18,22]) [] ?_
 iterate 3 (refine yt zp ?_)
 obtain⟨y,z,g⟩:=ay g (o.a.uJ _ _);refine yk<|ak.iD 0 zp rfl rfl rfl rfl rfl z rfl rfl zn rfl (dc.box rfl zi) (yz ?_)
 iterate 3 (refine yt zp ?_)
 refine Ok.eH k ?_;conv=>(arg 3;whnf)
 cases g;exact yJ;obtain⟨y,z,g⟩:=ay g (o.a.uJ _ _);refine yb 0 z ?_;refine yk<|yL (S:=aC×ab) (G:=λm s=>D' (Gu m) a1 s.1 s.2) (s0:=(y.snd,y.fst)) 3 [0,1,4,6] [] (λs=>[]) (λs=>[(0,.box ((aC.cs s.1).map .d)),(2,.box ((ab.cs s.2).map .d))]) g ?_;rintro n ⟨s16,s17⟩ _ g;change Eb (Gu n) a1 s16 s17=_ at g;rw[Eb]at g;refine yz ?_
 refine yc g (o.a.Sf _ _) λy g=>?_;refine aK g λ_ g=>?_;refine yc g (o.a.cI _) λy g=>?_;refine yo [] (tk [0,3,6,9,13,15,18,22]) [] ?_
 iterate 3 (refine yt zp ?_)
 obtain⟨y,z,g⟩:=ay g (o.a.uJ _ _);refine yk<|ak.iD 0 zp rfl rfl rfl rfl rfl z rfl rfl zn rfl (dc.box rfl zi) (yz ?_)
 iterate 3 (refine yt zp ?_)
 refine Ok.fm k ?_;conv=>(arg 3;whnf)
 exact yk (yN (_,_) n ⟨by omega,g⟩)
/-(*plexus.plexusref16.P).postfix-/
theorem acU {n} (o:Ou n):Si (Hq (Gu n)):=by
 intro a0 r g;rw[Hq]at g;refine dk.walk (E:=env) func183 rfl zk (rs:=_) rfl ntmps183 rfl (yz ?_);obtain⟨y,z,g⟩:=ay g (o.a.adb _);refine yb 0 z ?_;refine yk<|yL (S:=aC×ab) (G:=λm s=>As (Gu m) s.1 s.2) (s0:=(y.snd,y.fst)) 3 [0,2,3] [] (λs=>[]) (λs=>[(0,.box ((aC.cs s.1).map .d)),(2,.box ((ab.cs s.2).map .d))]) g ?_;rintro n ⟨s2,s3⟩ _ g;change Ec (Gu n) s2 s3=_ at g;rw[Ec]at g;refine yz ?_
 refine yc g (o.a.cI _) λy g=>?_;refine yc g (o.a.b9 _ _) λy g=>?_;refine ao g ?_ ?_<;>intro _ g;obtain⟨y,z,g⟩:=ay g (o.a.dn _ _);refine yb 0 z ?_;exact yk (yN (_,_) n ⟨by omega,g⟩);refine yc g (o.a.b9 _ _) λy g=>?_;refine br g λ_ g=>?_;obtain⟨y,z,g⟩:=ay g (o.a.pY _);refine yb 0 z ?_;refine aK g λ_ g=>?_;refine yo [] (tk [0,3,7,9,12,16]) [] ?_;refine yt zp ?_;obtain⟨y,z,g⟩:=ay g (o.a.iw _);refine yk<|ak.iD 0 zp rfl rfl rfl rfl rfl z rfl rfl zn rfl (dc.box rfl zi) (yz ?_)
 iterate 3 (refine yt zp ?_)
 obtain⟨y,z,g⟩:=ay g (o.a.bJ _ _);refine yb 0 z ?_;exact yk (yN (_,_) n ⟨by omega,g⟩)
/-(*plexus.plexusref16.P).primary-/
theorem acV {n} (o:Ou n):Sj (Hr (Gu n)):=by
 intro a0 r g;rw[Hr]at g;refine dk.walk (E:=env) func233 rfl zk (rs:=_) rfl ntmps233 rfl (yz ?_);refine yc g (o.a.cI _) λy g=>?_;refine yc g (o.a.b9 _ _) λv g=>?_
 iterate 2 (refine ao g ?_ ?_<;>intro _ g;obtain⟨v,z,g⟩:=ay g (o.a.nB _);refine yb 0 z ?_;cases g;exact yJ)
 iterate 2 (refine ao g ?_ ?_<;>intro _ g;obtain⟨v,z,g⟩:=ay g (o.a.dn _ _);refine yb 0 z ?_;cases g;exact yJ)
 iterate 4 (refine yc g (o.a.b9 _ _) λv g=>?_;refine aK g λ_ g=>?_)
 refine yc g (o.a.b9 _ _) λv g=>?_;refine ao g ?_ ?_<;>intro _ g;obtain⟨v,z,g⟩:=ay g (o.a.pY _);refine yb 0 z ?_;refine aK g λ_ g=>?_;obtain⟨v,z,g⟩:=ay g (o.a.iw _);refine yb 0 z ?_;obtain⟨v,z,g⟩:=ay g (o.a.bJ _ _);refine yb 0 z ?_;cases g;exact yJ;refine yc g (o.a.ade _) λv g=>?_;refine ao g ?_ ?_<;>intro _ g;refine yc g (o.a.b9 _ _) λv g=>?_;refine ao g ?_ ?_<;>intro _ g;obtain⟨v,z,g⟩:=ay g (o.a.lz _ _);refine yb 0 z ?_;cases g;exact yJ;obtain⟨v,z,g⟩:=ay g (o.a.pY _);refine yb 0 z ?_;refine aK g λ_ g=>?_;refine yc g (o.a.b9 _ _) λv g=>?_;refine ao g ?_ ?_<;>intro _ g;refine yo [] (tk [0,3,6,9,12,16,18,22,24,28]) [] ?_
 iterate 3 (refine yt zp ?_)
 obtain⟨v,z,g⟩:=ay g (o.a.Sk _ _);refine yk<|ak.iD 0 zp rfl rfl rfl rfl rfl z rfl rfl zn rfl (dc.box rfl zi) (yz ?_)
 refine yt zp ?_;obtain⟨k,g⟩:=bz g;refine yk<|ak.lP 4 zp rfl rfl rfl rfl rfl rfl rfl rfl rfl rfl rfl rfl rfl (zo k) (yz ?_)
 refine yk<|yL (S:=aC×(List ab)) (G:=λm s=>Ed (Gu m) y s.1 s.2) (s0:=(v.snd,[v.fst])) 5 [0,2,3,4] [] (λs=>[]) (λs=>[(0,.box ((aC.cs s.1).map .d)),(4,.row 25 5 (ab.rows s.2)),(3,.box [.d (.v (.int .i64 51)),.d (.v (.string ⟨⟨(y.Text)⟩⟩)),.d (.v (.int .i64 0)),.d (.v (.int .i64 y.At)),.os 4 (ab.rows s.2).length])]) g ?_;rintro n ⟨s36,s41⟩ _ g;change Ee (Gu n) y s36 s41=_ at g;rw[Ee]at g;refine yz ?_
 refine yc g (o.a.b9 _ _) λy g=>?_;refine ao g ?_ ?_<;>intro _ g;refine yo [] (tk [0,3,6,9,12,16,18,22,24,28]) [] ?_
 iterate 3 (refine yt zp ?_)
 obtain⟨y,z,g⟩:=ay g (o.a.Sk _ _);refine yk<|ak.iD 0 zp rfl rfl rfl rfl rfl z rfl rfl zn rfl (dc.box rfl zi) (yz ?_)
 refine yt zp ?_;obtain⟨k,g⟩:=bz g;refine yk<|ak.cR (rows2:=(ab.rows ([y.fst]))) zp rfl rfl rfl rfl rfl zg rfl zi rfl rfl (ab.bU _) rfl rfl (zo k) (yz ?_)
 exact yk (yN (_,_) n ⟨by omega,g⟩)
 iterate 2 (obtain⟨y,z,g⟩:=ay g (o.a.bJ _ _);refine yb 0 z ?_;cases g;exact yJ)
 obtain⟨y,z,g⟩:=ay g (o.a.lz _ _);refine yb 0 z ?_;cases g;exact yJ
/-(*plexus.plexusref16.P).argument-/
theorem acW {n} (o:Ou n):Sm (Hs (Gu n)):=by
 intro a0 a1 r g;rw[Hs]at g;refine dk.walk (E:=env) func247 rfl zk (rs:=_) rfl ntmps247 rfl (yz ?_);refine yc g (o.a.cI _) λy g=>?_;refine ao g ?_ ?_<;>intro _ g;obtain⟨y,z,g⟩:=ay g (o.a.dn _ _);refine yb 0 z ?_;obtain⟨y,z,g⟩:=ay g (o.a.bJ _ _);refine yb 0 z ?_;obtain⟨y,z,g⟩:=ay g (o.a.iw _);refine yb 0 z ?_;cases g;exact yJ;obtain⟨y,z,g⟩:=ay g (o.a.iw _);refine yb 0 z ?_;refine aK g λ_ g=>?_;obtain⟨y,z,g⟩:=ay g (o.a.bJ _ _);refine yb 0 z ?_;refine yo [] (tk [0,3,7,9,12,16]) [] ?_;refine yt zp ?_;obtain⟨y,z,g⟩:=ay g (o.a.iw _);refine yk<|ak.iD 0 zp rfl rfl rfl rfl rfl z rfl rfl zn rfl (dc.box rfl zi) (yz ?_)
 iterate 3 (refine yt zp ?_)
 cases g;exact yJ
/-(*plexus.plexusref16.P).allowed-/
theorem acX {n} (o:Ou n):Sn (Ht (Gu n)):=by
 intro a0 r g;rw[Ht]at g;refine qW.walk (E:=env) func127 rfl zk (rs:=_) rfl ntmps127 rfl (yz ?_);refine yc g (o.a.b9 _ _) λy g=>?_;refine ao g ?_ ?_<;>intro _ g;refine yk<|ak.inl (rs:=_) rfl func129 rfl zk rfl ntmps129 rfl rfl (yz ?_)
 refine Ok.stuck aW ?_;refine ak.km 4 25 5 2 rfl rfl ?_;refine yL (S:=(List ab)×(List ab)×aC) (G:=λm s=>Ef (Gu m) s.1 s.2.1 s.2.2) (s0:=([],[],{T:=a0.T,I:=IntKind.i64.wrap (a0.I+1),Open:=a0.Open,aR:=a0.aR,aT:=a0.aT:aC})) 3 [0] [1,4] (λs=>[(1,.os 1 (ab.rows s.1).length),(4,.os 2 (ab.rows s.2.1).length)]) (λs=>[(1,.row 25 5 (ab.rows s.1)),(2,.row 25 5 (ab.rows s.2.1)),(0,.box ((aC.cs s.2.2).map .d))]) g ?_;rintro n ⟨s3,s4,s5⟩ _ g;change Eg (Gu n) s3 s4 s5=_ at g;rw[Eg]at g;refine yz ?_;refine yc g (o.a.cI _) λy g=>?_;obtain⟨v,z,g⟩:=ay g (o.a.dn _ _);refine yb 0 z ?_;refine yk<|ak.dY 4 (rows':=ab.rows ([{Kind:=47,Text:=v.fst,N:=0,At:=y.At,Kids:=[]:ab}])) rfl zi (yz ?_)
 obtain⟨k,g⟩:=bz g;refine yk<|DO.cW rfl rfl zg rfl rfl zg rfl rfl (ab.bU _) rfl rfl rfl (zo k) (yz ?_)
 refine yc g (o.a.b9 _ _) λy g=>?_;refine ao g ?_ ?_<;>intro _ g;obtain⟨y,z,g⟩:=ay g (o.a.bJ _ _);refine yb 0 z ?_;refine Ok.fin aW ?_;obtain rfl:=jm g;exact RD.OR rfl rfl rfl rfl rfl rfl aW rfl rfl zi zi;exact yk (yN (_,_,_) n ⟨by omega,g⟩);refine Ok.fin aW ?_;obtain rfl:=jm g;exact RD.OR rfl rfl rfl rfl rfl rfl aW rfl rfl zi zi
/-(*plexus.plexusref16.P).lattice-/
set_option maxHeartbeats 0 in
theorem w75 {n} (o:Ou n):T8 (Je (Gu n)):=by
 intro a0 r g;rw[Je]at g;refine dk.walk (E:=env) func75 rfl zk (rs:=_) rfl ntmps75 rfl (yz ?_);refine yc g (o.a.cI _) λy g=>?_;refine ao g ?_ ?_<;>intro _ g;obtain⟨v,z,g⟩:=ay g (o.a.dn _ _);refine yb 0 z ?_;cases g;exact yJ;refine yc g (o.a.b9 _ _) λv g=>?_;refine aK g λ_ g=>?_;refine yc g (o.a.b9 _ _) λy2 g=>?_;refine aK g λ_ g=>?_;refine yc g (o.a.b9 _ _) λy3 g=>?_;refine ao g ?_ ?_<;>intro _ g;obtain⟨y4,z,g⟩:=ay g (o.a.Hu _);refine yk<|ak.Ev 0 z rfl rfl zn rfl (dc.box rfl zi) rfl (yz ?_)
 cases g;exact yJ;refine yc g (o.a.b9 _ _) λy4 g=>?_;refine ao g ?_ ?_<;>intro _ g;obtain⟨y5,z,g⟩:=ay g (o.a.Hu _);refine yk<|ak.Ev 0 z rfl rfl zn rfl (dc.box rfl zi) rfl (yz ?_)
 cases g;exact yJ;refine yc g (o.a.b9 _ _) λy5 g=>?_;refine ao g ?_ ?_<;>intro _ g;refine yc g (o.a.b9 _ _) λy6 g=>?_;refine ao g ?_ ?_<;>intro _ g
 iterate 2 ((iterate 2 (obtain⟨y6,z,g⟩:=ay g (o.a.bJ _ _);refine yb 0 z ?_;obtain⟨y6,z,g⟩:=ay g (o.a.nB _);refine yb 0 z ?_));obtain⟨y6,z,g⟩:=ay g (o.a.bJ _ _);refine yb 0 z ?_;cases g;exact yJ)
 refine yc g (o.a.b9 _ _) λy6 g=>?_;refine ao g ?_ ?_<;>intro _ g;refine yc g (o.a.b9 _ _) λy7 g=>?_;refine ao g ?_ ?_<;>intro _ g
 iterate 2 ((iterate 2 (obtain⟨y7,z,g⟩:=ay g (o.a.bJ _ _);refine yb 0 z ?_;obtain⟨y7,z,g⟩:=ay g (o.a.nB _);refine yb 0 z ?_));obtain⟨y7,z,g⟩:=ay g (o.a.bJ _ _);refine yb 0 z ?_;cases g;exact yJ)
 refine yc g (o.a.b9 _ _) λy7 g=>?_;refine ao g ?_ ?_<;>intro _ g;obtain⟨y8,z,g⟩:=ay g (o.a.pY _);refine yb 0 z ?_;obtain⟨y8,z,g⟩:=ay g (o.a.Hu _);refine yk<|ak.Ev 0 z rfl rfl zn rfl (dc.box rfl zi) rfl (yz ?_)
 refine yo [] (tk [0,3,6,10,12,16,18,22]) [] ?_;refine yt zp ?_;obtain⟨y8,z,g⟩:=ay g (o.a.oM _);refine yk<|ak.iD 0 zp rfl rfl rfl rfl rfl z rfl rfl zn rfl (dc.box rfl zi) (yz ?_)
 refine yt zp ?_;obtain⟨k,g⟩:=bz g;refine yk<|ak.cR (rows2:=(ab.rows ([y8.fst]))) zp rfl rfl rfl rfl rfl zg rfl zi rfl rfl (ab.bU _) rfl rfl (zo k) (yz ?_)
 cases g;exact yJ;refine yc g (o.a.b9 _ _) λy8 g=>?_;refine ao g ?_ ?_<;>intro _ g;obtain⟨y9,z,g⟩:=ay g (o.a.pY _)
 iterate 2 (refine yb 0 z ?_;obtain⟨y9,z,g⟩:=ay g (o.a.bJ _ _);refine yb 0 z ?_;obtain⟨y9,z,g⟩:=ay g (o.a.oM _))
 refine yb 0 z ?_;obtain⟨y9,z,g⟩:=ay g (o.a.bJ _ _);refine yb 0 z ?_;cases g;exact yJ;refine yc g (o.a.b9 _ _) λy9 g=>?_;refine ao g ?_ ?_<;>intro _ g;obtain⟨y10,z,g⟩:=ay g (o.a.pY _);refine yb 0 z ?_;refine Ok.stuck aW ?_;refine ak.fP 3 4 25 5 4 rfl rfl rfl ?_;refine yL (S:=aC×(List ab)) (G:=λm s=>EF (Gu m) y s.1 s.2) (s0:=({T:=y10.snd.T,I:=IntKind.i64.wrap (y10.snd.I+1),Open:=y10.snd.Open,aR:=y10.snd.aR,aT:=y10.snd.aT:aC},[])) 5 [0,2,4] [] (λs=>[]) (λs=>[(0,.box ((aC.cs s.1).map .d)),(4,.row 25 5 (ab.rows s.2)),(3,.box [.d (.v (.int .i64 15)),.d (.v (.string ⟨⟨([])⟩⟩)),.d (.v (.int .i64 0)),.d (.v (.int .i64 y.At)),.os 4 (ab.rows s.2).length])]) g ?_;rintro n ⟨s59,s64⟩ _ g;change EG (Gu n) y s59 s64=_ at g;rw[EG]at g;refine yz ?_;refine yc g (o.a.cI _) λy10 g=>?_;obtain⟨y11,z,g⟩:=ay g (o.a.dn _ _);refine yb 0 z ?_;obtain⟨y12,z,g⟩:=ay g (o.a.bJ _ _);refine yb 0 z ?_;obtain⟨y12,z,g⟩:=ay g (o.a.oM _);refine yb 0 z ?_;refine yk<|ak.dY 7 (rows':=ab.rows ([{Kind:=22,Text:=y11.fst,N:=0,At:=y10.At,Kids:=[y12.fst]:ab}])) rfl zi (yz ?_)
 obtain⟨k,g⟩:=bz g;refine yk<|DO.cW rfl rfl zg rfl rfl zg rfl rfl (ab.bU _) rfl rfl rfl (zo k) (yz ?_)
 refine yc g (o.a.b9 _ _) λy10 g=>?_;refine ao g ?_ ?_<;>intro _ g;obtain⟨y10,z,g⟩:=ay g (o.a.bJ _ _);refine yb 0 z ?_;cases g;exact yJ;exact yk (yN (_,_) n ⟨by omega,g⟩);refine yc g (o.a.b9 _ _) λy10 g=>?_;refine ao g ?_ ?_<;>intro _ g;obtain⟨y11,z,g⟩:=ay g (o.a.bJ _ _);refine yb 0 z ?_;refine yc g (o.a.cI _) λy12 g=>?_;refine ao g ?_ ?_<;>intro _ g;refine yk<|ak.inl (rs:=_) rfl func129 rfl zk rfl ntmps129 rfl rfl (yz ?_)
 refine Ok.stuck aW ?_;refine ak.km 1 25 5 4 rfl rfl ?_;refine ak.km 4 25 5 5 rfl rfl ?_;refine yL (S:=(List ab)×(List ab)×aC) (G:=λm s=>EH (Gu m) a0 y v y2 y3 y4 y5 y6 y7 y8 y9 y10 y11 y12 s.1 s.2.1 s.2.2) (s0:=([],[],y11.snd)) 6 [0] [1,4] (λs=>[(1,.os 4 (ab.rows s.1).length),(4,.os 5 (ab.rows s.2.1).length)]) (λs=>[(4,.row 25 5 (ab.rows s.1)),(5,.row 25 5 (ab.rows s.2.1)),(0,.box ((aC.cs s.2.2).map .d))]) g ?_;rintro n ⟨s78,s79,s80⟩ _ g;change EI (Gu n) a0 y v y2 y3 y4 y5 y6 y7 y8 y9 y10 y11 y12 s78 s79 s80=_ at g;rw[EI]at g;refine yz ?_;refine yc g (o.a.cI _) λy13 g=>?_;obtain⟨y14,z,g⟩:=ay g (o.a.dn _ _);refine yb 0 z ?_;refine yk<|ak.dY 7 (rows':=ab.rows ([{Kind:=47,Text:=y14.fst,N:=0,At:=y13.At,Kids:=[]:ab}])) rfl zi (yz ?_)
 obtain⟨k,g⟩:=bz g;refine yk<|DO.cW rfl rfl zg rfl rfl zg rfl rfl (ab.bU _) rfl rfl rfl (zo k) (yz ?_)
 refine yc g (o.a.b9 _ _) λy15 g=>?_;refine ao g ?_ ?_<;>intro _ g;refine yk<|yL (S:=aC×(List ab)) (G:=λm s=>AN (Gu m) a0 y v y2 y3 y4 y5 y6 y7 y8 y9 y10 y11 y12 s78 s79 s80 y13 y14 y15 s.1 s.2) (s0:=(y14.snd,s78++[{Kind:=47,Text:=y14.fst,N:=0,At:=y13.At,Kids:=[]:ab}])) 8 [0,2,4] [] (λs=>[]) (λs=>[(0,.box ((aC.cs s.1).map .d)),(4,.row 25 5 (ab.rows s.2)),(3,.box [.d (.v (.int .i64 19)),.d (.v (.string ⟨⟨([])⟩⟩)),.d (.v (.int .i64 0)),.d (.v (.int .i64 y.At)),.os 4 (ab.rows s.2).length])]) g ?_;rintro n ⟨s86,s91⟩ _ g;change EJ (Gu n) a0 y v y2 y3 y4 y5 y6 y7 y8 y9 y10 y11 y12 s78 s79 s80 y13 y14 y15 s86 s91=_ at g;rw[EJ]at g;refine yz ?_
 refine yc g (o.a.b9 _ _) λy16 g=>?_;refine ao g ?_ ?_<;>intro _ g;refine yc g (o.a.cI _) λy17 g=>?_;refine yc g (o.a.cI _) λy18 g=>?_;refine ao g ?_ ?_<;>intro _ g;refine yk<|ak.inl (rs:=_) rfl func129 rfl zk rfl ntmps129 rfl rfl (yz ?_)
 refine Ok.stuck aW ?_;refine ak.km 1 25 5 9 rfl rfl ?_;refine ak.km 4 25 5 10 rfl rfl ?_;refine yL (S:=(List ab)×(List ab)×aC) (G:=λm s=>EK (Gu m) a0 y v y2 y3 y4 y5 y6 y7 y8 y9 y10 y11 y12 s78 s79 s80 y13 y14 y15 s86 s91 y16 y17 y18 s.1 s.2.1 s.2.2) (s0:=([],[],{T:=s86.T,I:=IntKind.i64.wrap (s86.I+1),Open:=s86.Open,aR:=s86.aR,aT:=s86.aT:aC})) 11 [0] [1,4] (λs=>[(1,.os 9 (ab.rows s.1).length),(4,.os 10 (ab.rows s.2.1).length)]) (λs=>[(9,.row 25 5 (ab.rows s.1)),(10,.row 25 5 (ab.rows s.2.1)),(0,.box ((aC.cs s.2.2).map .d))]) g ?_;rintro n ⟨s97,s98,s99⟩ _ g;change EL (Gu n) a0 y v y2 y3 y4 y5 y6 y7 y8 y9 y10 y11 y12 s78 s79 s80 y13 y14 y15 s86 s91 y16 y17 y18 s97 s98 s99=_ at g;rw[EL]at g;refine yz ?_;refine yc g (o.a.cI _) λy13 g=>?_;obtain⟨y14,z,g⟩:=ay g (o.a.dn _ _);refine yb 0 z ?_;refine yk<|ak.dY 12 (rows':=ab.rows ([{Kind:=47,Text:=y14.fst,N:=0,At:=y13.At,Kids:=[]:ab}])) rfl zi (yz ?_)
 obtain⟨k,g⟩:=bz g;refine yk<|DO.cW rfl rfl zg rfl rfl zg rfl rfl (ab.bU _) rfl rfl rfl (zo k) (yz ?_)
 refine yc g (o.a.b9 _ _) λy15 g=>?_;refine ao g ?_ ?_<;>intro _ g;obtain⟨y15,z,g⟩:=ay g (o.a.bJ _ _);refine yb 0 z ?_;refine yc g (o.a.cI _) λy15 g=>?_;obtain⟨y16,z,g⟩:=ay g (o.a.dn _ _);refine yb 0 z ?_;refine yk<|ak.dY 14 (rows':=ab.rows ([{Kind:=47,Text:=y16.fst,N:=0,At:=y15.At,Kids:=[]:ab}])) rfl zi (yz ?_)
 obtain⟨k,g⟩:=bz g;refine yk<|DO.cW rfl rfl zg rfl rfl zg rfl rfl (ab.bU _) rfl rfl rfl (zo k) (yz ?_)
 refine yk<|ak.dY 15 (rows':=ab.rows ([{Kind:=20,Text:=[],N:=0,At:=y17.At,Kids:=s97++[{Kind:=47,Text:=y14.fst,N:=0,At:=y13.At,Kids:=[]:ab}]++[{Kind:=47,Text:=y16.fst,N:=0,At:=y15.At,Kids:=[]:ab}]:ab}])) rfl zi (yz ?_)
 obtain⟨k,g⟩:=bz g;refine yk<|DO.cW rfl rfl zg rfl rfl zg rfl rfl (ab.bU _) rfl rfl rfl (zo k) (yz ?_)
 exact yk (yN (_,_) n ⟨by omega,g⟩);exact yk (yN (_,_,_) n ⟨by omega,g⟩);obtain⟨y13,z,g⟩:=ay g (o.a.bJ _ _);refine yb 0 z ?_;refine yc g (o.a.cI _) λy13 g=>?_;obtain⟨y14,z,g⟩:=ay g (o.a.dn _ _);refine yb 0 z ?_;refine yk<|ak.dY 10 (rows':=ab.rows ([{Kind:=47,Text:=y14.fst,N:=0,At:=y13.At,Kids:=[]:ab}])) rfl zi (yz ?_)
 obtain⟨k,g⟩:=bz g;refine yk<|DO.cW rfl rfl zg rfl rfl zg rfl rfl (ab.bU _) rfl rfl rfl (zo k) (yz ?_)
 refine yk<|ak.dY 12 (rows':=ab.rows ([{Kind:=20,Text:=[],N:=0,At:=y17.At,Kids:=[]++[{Kind:=47,Text:=y14.fst,N:=0,At:=y13.At,Kids:=[]:ab}]:ab}])) rfl zi (yz ?_)
 obtain⟨k,g⟩:=bz g;refine yk<|DO.cW rfl rfl zg rfl rfl zg rfl rfl (ab.bU _) rfl rfl rfl (zo k) (yz ?_)
 exact yk (yN (_,_) n ⟨by omega,g⟩);obtain⟨y13,z,g⟩:=ay g (o.a.bJ _ _);refine yb 0 z ?_;cases g;exact yJ;exact yk (yN (_,_,_) n ⟨by omega,g⟩);refine Ok.stuck aW ?_;refine ak.fP 3 4 25 5 4 rfl rfl rfl ?_;refine yL (S:=aC×(List ab)) (G:=λm s=>AO (Gu m) a0 y v y2 y3 y4 y5 y6 y7 y8 y9 y10 y11 y12 s.1 s.2) (s0:=(y11.snd,[])) 5 [0,2,4] [] (λs=>[]) (λs=>[(0,.box ((aC.cs s.1).map .d)),(4,.row 25 5 (ab.rows s.2)),(3,.box [.d (.v (.int .i64 19)),.d (.v (.string ⟨⟨([])⟩⟩)),.d (.v (.int .i64 0)),.d (.v (.int .i64 y.At)),.os 4 (ab.rows s.2).length])]) g ?_;rintro n ⟨s116,s121⟩ _ g;change EM (Gu n) a0 y v y2 y3 y4 y5 y6 y7 y8 y9 y10 y11 y12 s116 s121=_ at g;rw[EM]at g;refine yz ?_;refine yc g (o.a.b9 _ _) λy13 g=>?_;refine ao g ?_ ?_<;>intro _ g;refine yc g (o.a.cI _) λy14 g=>?_;refine yc g (o.a.cI _) λy15 g=>?_;refine ao g ?_ ?_<;>intro _ g;refine yk<|ak.inl (rs:=_) rfl func129 rfl zk rfl ntmps129 rfl rfl (yz ?_)
 refine Ok.stuck aW ?_;refine ak.km 1 25 5 6 rfl rfl ?_;refine ak.km 4 25 5 7 rfl rfl ?_;refine yL (S:=(List ab)×(List ab)×aC) (G:=λm s=>EN (Gu m) a0 y v y2 y3 y4 y5 y6 y7 y8 y9 y10 y11 y12 s116 s121 y13 y14 y15 s.1 s.2.1 s.2.2) (s0:=([],[],{T:=s116.T,I:=IntKind.i64.wrap (s116.I+1),Open:=s116.Open,aR:=s116.aR,aT:=s116.aT:aC})) 8 [0] [1,4] (λs=>[(1,.os 6 (ab.rows s.1).length),(4,.os 7 (ab.rows s.2.1).length)]) (λs=>[(6,.row 25 5 (ab.rows s.1)),(7,.row 25 5 (ab.rows s.2.1)),(0,.box ((aC.cs s.2.2).map .d))]) g ?_;rintro n ⟨s127,s128,s129⟩ _ g;change EO (Gu n) a0 y v y2 y3 y4 y5 y6 y7 y8 y9 y10 y11 y12 s116 s121 y13 y14 y15 s127 s128 s129=_ at g;rw[EO]at g;refine yz ?_;refine yc g (o.a.cI _) λy g=>?_;obtain⟨v,z,g⟩:=ay g (o.a.dn _ _);refine yb 0 z ?_;refine yk<|ak.dY 9 (rows':=ab.rows ([{Kind:=47,Text:=v.fst,N:=0,At:=y.At,Kids:=[]:ab}])) rfl zi (yz ?_)
 obtain⟨k,g⟩:=bz g;refine yk<|DO.cW rfl rfl zg rfl rfl zg rfl rfl (ab.bU _) rfl rfl rfl (zo k) (yz ?_)
 refine yc g (o.a.b9 _ _) λy2 g=>?_;refine ao g ?_ ?_<;>intro _ g;obtain⟨y2,z,g⟩:=ay g (o.a.bJ _ _);refine yb 0 z ?_;refine yc g (o.a.cI _) λy2 g=>?_;obtain⟨y3,z,g⟩:=ay g (o.a.dn _ _);refine yb 0 z ?_;refine yk<|ak.dY 11 (rows':=ab.rows ([{Kind:=47,Text:=y3.fst,N:=0,At:=y2.At,Kids:=[]:ab}])) rfl zi (yz ?_)
 obtain⟨k,g⟩:=bz g;refine yk<|DO.cW rfl rfl zg rfl rfl zg rfl rfl (ab.bU _) rfl rfl rfl (zo k) (yz ?_)
 refine yk<|ak.dY 12 (rows':=ab.rows ([{Kind:=20,Text:=[],N:=0,At:=y14.At,Kids:=s127++[{Kind:=47,Text:=v.fst,N:=0,At:=y.At,Kids:=[]:ab}]++[{Kind:=47,Text:=y3.fst,N:=0,At:=y2.At,Kids:=[]:ab}]:ab}])) rfl zi (yz ?_)
 obtain⟨k,g⟩:=bz g;refine yk<|DO.cW rfl rfl zg rfl rfl zg rfl rfl (ab.bU _) rfl rfl rfl (zo k) (yz ?_)
 exact yk (yN (_,_) n ⟨by omega,g⟩);exact yk (yN (_,_,_) n ⟨by omega,g⟩);obtain⟨y,z,g⟩:=ay g (o.a.bJ _ _);refine yb 0 z ?_;refine yc g (o.a.cI _) λy g=>?_;obtain⟨v,z,g⟩:=ay g (o.a.dn _ _);refine yb 0 z ?_;refine yk<|ak.dY 7 (rows':=ab.rows ([{Kind:=47,Text:=v.fst,N:=0,At:=y.At,Kids:=[]:ab}])) rfl zi (yz ?_)
 obtain⟨k,g⟩:=bz g;refine yk<|DO.cW rfl rfl zg rfl rfl zg rfl rfl (ab.bU _) rfl rfl rfl (zo k) (yz ?_)
 refine yk<|ak.dY 9 (rows':=ab.rows ([{Kind:=20,Text:=[],N:=0,At:=y14.At,Kids:=[]++[{Kind:=47,Text:=v.fst,N:=0,At:=y.At,Kids:=[]:ab}]:ab}])) rfl zi (yz ?_)
 obtain⟨k,g⟩:=bz g;refine yk<|DO.cW rfl rfl zg rfl rfl zg rfl rfl (ab.bU _) rfl rfl rfl (zo k) (yz ?_)
 exact yk (yN (_,_) n ⟨by omega,g⟩);obtain⟨y,z,g⟩:=ay g (o.a.bJ _ _);refine yb 0 z ?_;cases g;exact yJ;obtain⟨y,z,g⟩:=ay g (o.a.lz _ _);refine yb 0 z ?_;cases g;exact yJ
/-(*plexus.plexusref16.P).sort-/
theorem acY {n} (o:Ou n):Sp (Bq (Gu n)):=by
 intro a0 r g;rw[Bq]at g;refine dk.walk (E:=env) func130 rfl zk (rs:=_) rfl ntmps130 rfl (yz ?_);refine yk<|yL (S:=Int) (G:=λm s=>Eh (Gu m) a0 s) (s0:=0) 2 [0,2,3] [4] (λs=>[(4,.d (.v (.int .i64 s)))]) (λs=>[]) g ?_;rintro n s1 _ g;change Ei (Gu n) a0 s1=_ at g;rw[Ei]at g;refine yz ?_
 refine ao g ?_ ?_<;>intro _ g;obtain⟨x,w,j,g⟩:=a8 g;refine yv (yr j w) ?_;refine yv (ym s1.toNat 0 (dQ w)) ?_;refine yc g (o.a.b9 _ _) λy g=>?_;refine aK g λ_ g=>?_;exact yk (yN _ n ⟨by omega,g⟩);obtain⟨y,z,g⟩:=ay g (o.a.lz _ _);refine yb 0 z ?_;cases g;exact yJ
/-(*plexus.plexusref16.P).declaration-/
set_option maxHeartbeats 0 in
theorem w77 {n} (o:Ou n):T' (Jf (Gu n)):=by
 intro a0 r g;rw[Jf]at g;refine dk.walk (E:=env) func77 rfl zk (rs:=_) rfl ntmps77 rfl (yz ?_);refine yc g (o.a.cI _) λy g=>?_
 iterate 2 ((iterate 2 (refine yc g (o.a.b9 _ _) λv g=>?_;refine ao g ?_ ?_<;>intro _ g));(iterate 2 (obtain⟨v,z,g⟩:=ay g (o.a.dn _ _);refine yb 0 z ?_;obtain⟨v,z,g⟩:=ay g (o.a.bJ _ _);refine yb 0 z ?_;obtain⟨v,z,g⟩:=ay g (o.a.oM _);refine yb 0 z ?_;obtain⟨v,z,g⟩:=ay g (o.a.bJ _ _);refine yb 0 z ?_;cases g;exact yJ)))
 iterate 2 (refine yc g (o.a.b9 _ _) λv g=>?_;refine ao g ?_ ?_<;>intro _ g)
 obtain⟨v,z,g⟩:=ay g (o.a.lz _ _);refine yb 0 z ?_;cases g;exact yJ;refine yc g (o.a.b9 _ _) λv g=>?_;refine ao g ?_ ?_<;>intro _ g;obtain⟨v,z,g⟩:=ay g (o.a.dn _ _);refine yb 0 z ?_;obtain⟨y2,z,g⟩:=ay g (o.a.bJ _ _);refine yb 0 z ?_;refine yc g (o.a.b9 _ _) λy3 g=>?_;refine ao g ?_ ?_<;>intro _ g;refine Ok.stuck aW ?_;refine ak.fP 2 4 25 5 3 rfl rfl rfl ?_;refine yL (S:=aC×(List ab)) (G:=λm s=>ER (Gu m) y v s.1 s.2) (s0:=(y2.snd,[])) 4 [0,2,3] [] (λs=>[]) (λs=>[(0,.box ((aC.cs s.1).map .d)),(3,.row 25 5 (ab.rows s.2)),(2,.box [.d (.v (.int .i64 5)),.d (.v (.string ⟨⟨(v.fst)⟩⟩)),.d (.v (.int .i64 0)),.d (.v (.int .i64 y.At)),.os 3 (ab.rows s.2).length])]) g ?_;rintro n ⟨s37,s42⟩ _ g;change ES (Gu n) y v s37 s42=_ at g;rw[ES]at g;refine yz ?_;refine yc g (o.a.cI _) λv g=>?_;obtain⟨y2,z,g⟩:=ay g (o.a.dn _ _);refine yb 0 z ?_;obtain⟨y3,z,g⟩:=ay g (o.a.bJ _ _);refine yb 0 z ?_;obtain⟨y3,z,g⟩:=ay g (o.a.pZ _);refine yb 0 z ?_;refine yk<|ak.dY 5 (rows':=ab.rows ([{Kind:=6,Text:=y2.fst,N:=y3.fst,At:=v.At,Kids:=[]:ab}])) rfl zi (yz ?_)
 obtain⟨k,g⟩:=bz g;refine yk<|DO.cW rfl rfl zg rfl rfl zg rfl rfl (ab.bU _) rfl rfl rfl (zo k) (yz ?_)
 refine yc g (o.a.b9 _ _) λv g=>?_;refine ao g ?_ ?_<;>intro _ g
 iterate 2 (obtain⟨v,z,g⟩:=ay g (o.a.bJ _ _);refine yb 0 z ?_)
 refine yc g (o.a.cI _) λv g=>?_;obtain⟨y2,z,g⟩:=ay g (o.a.dn _ _);refine yb 0 z ?_;refine yk<|ak.dY 7 (rows':=ab.rows ([{Kind:=48,Text:=y2.fst,N:=0,At:=v.At,Kids:=[]:ab}])) rfl zi (yz ?_)
 obtain⟨k,g⟩:=bz g;refine yk<|DO.cW rfl rfl zg rfl rfl zg rfl rfl (ab.bU _) rfl rfl rfl (zo k) (yz ?_)
 obtain⟨v,z,g⟩:=ay g (o.a.bJ _ _);refine yb 0 z ?_;obtain⟨v,z,g⟩:=ay g (o.a.pZ _);refine yb 0 z ?_;obtain⟨v,z,g⟩:=ay g (o.a.bJ _ _);refine yb 0 z ?_;refine yo [] (tk [0,3,6,10,12,16,18,22]) [] ?_;refine yt zp ?_;obtain⟨v,z,g⟩:=ay g (o.a.iw _);refine yk<|ak.iD 0 zp rfl rfl rfl rfl rfl z rfl rfl zn rfl (dc.box rfl zi) (yz ?_)
 refine yt zp ?_;obtain⟨k,g⟩:=bz g;refine yk<|ak.cR (rows2:=(ab.rows ([v.fst]))) zp rfl rfl rfl rfl rfl zg rfl zi rfl rfl (ab.bU _) rfl rfl (zo k) (yz ?_)
 obtain⟨v,z,g⟩:=ay g (o.a.bJ _ _);refine yb 0 z ?_;cases g;exact yJ;exact yk (yN (_,_) n ⟨by omega,g⟩)
 iterate 2 (obtain⟨v,z,g⟩:=ay g (o.a.bJ _ _);refine yb 0 z ?_)
 refine yc g (o.a.cI _) λv g=>?_;obtain⟨y2,z,g⟩:=ay g (o.a.dn _ _);refine yb 0 z ?_;refine yk<|ak.dY 4 (rows':=ab.rows ([{Kind:=48,Text:=y2.fst,N:=0,At:=v.At,Kids:=[]:ab}])) rfl zi (yz ?_)
 obtain⟨k,g⟩:=bz g;refine yk<|DO.cW rfl rfl zg rfl rfl zg rfl rfl (ab.bU _) rfl rfl rfl (zo k) (yz ?_)
 obtain⟨v,z,g⟩:=ay g (o.a.bJ _ _);refine yb 0 z ?_;obtain⟨v,z,g⟩:=ay g (o.a.pZ _);refine yb 0 z ?_;obtain⟨v,z,g⟩:=ay g (o.a.bJ _ _);refine yb 0 z ?_;refine yo [] (tk [0,3,6,10,12,16,18,22]) [] ?_;refine yt zp ?_;obtain⟨v,z,g⟩:=ay g (o.a.iw _);refine yk<|ak.iD 0 zp rfl rfl rfl rfl rfl z rfl rfl zn rfl (dc.box rfl zi) (yz ?_)
 refine yt zp ?_;obtain⟨k,g⟩:=bz g;refine yk<|ak.cR (rows2:=(ab.rows ([v.fst]))) zp rfl rfl rfl rfl rfl zg rfl zi rfl rfl (ab.bU _) rfl rfl (zo k) (yz ?_)
 obtain⟨v,z,g⟩:=ay g (o.a.bJ _ _);refine yb 0 z ?_;cases g;exact yJ;obtain⟨v,z,g⟩:=ay g (o.a.dn _ _);refine yb 0 z ?_;obtain⟨y2,z,g⟩:=ay g (o.a.bJ _ _);refine yb 0 z ?_;refine yc g (o.a.b9 _ _) λy3 g=>?_;refine ao g ?_ ?_<;>intro _ g;refine Ok.stuck aW ?_;refine ak.fP 2 4 25 5 3 rfl rfl rfl ?_;refine yL (S:=aC×(List ab)) (G:=λm s=>ET (Gu m) y v s.1 s.2) (s0:=(y2.snd,[])) 4 [0,2,3] [] (λs=>[]) (λs=>[(0,.box ((aC.cs s.1).map .d)),(3,.row 25 5 (ab.rows s.2)),(2,.box [.d (.v (.int .i64 4)),.d (.v (.string ⟨⟨(v.fst)⟩⟩)),.d (.v (.int .i64 0)),.d (.v (.int .i64 y.At)),.os 3 (ab.rows s.2).length])]) g ?_;rintro n ⟨s76,s81⟩ _ g;change EU (Gu n) y v s76 s81=_ at g;rw[EU]at g;refine yz ?_;refine yc g (o.a.cI _) λv g=>?_;obtain⟨y2,z,g⟩:=ay g (o.a.dn _ _);refine yb 0 z ?_;obtain⟨y3,z,g⟩:=ay g (o.a.bJ _ _);refine yb 0 z ?_;obtain⟨y3,z,g⟩:=ay g (o.a.pZ _);refine yb 0 z ?_;refine yk<|ak.dY 5 (rows':=ab.rows ([{Kind:=6,Text:=y2.fst,N:=y3.fst,At:=v.At,Kids:=[]:ab}])) rfl zi (yz ?_)
 obtain⟨k,g⟩:=bz g;refine yk<|DO.cW rfl rfl zg rfl rfl zg rfl rfl (ab.bU _) rfl rfl rfl (zo k) (yz ?_)
 refine yc g (o.a.b9 _ _) λv g=>?_;refine ao g ?_ ?_<;>intro _ g
 iterate 2 (obtain⟨v,z,g⟩:=ay g (o.a.bJ _ _);refine yb 0 z ?_)
 refine yc g (o.a.cI _) λv g=>?_;obtain⟨y2,z,g⟩:=ay g (o.a.dn _ _);refine yb 0 z ?_;refine yk<|ak.dY 7 (rows':=ab.rows ([{Kind:=48,Text:=y2.fst,N:=0,At:=v.At,Kids:=[]:ab}])) rfl zi (yz ?_)
 obtain⟨k,g⟩:=bz g;refine yk<|DO.cW rfl rfl zg rfl rfl zg rfl rfl (ab.bU _) rfl rfl rfl (zo k) (yz ?_)
 obtain⟨v,z,g⟩:=ay g (o.a.bJ _ _);refine yb 0 z ?_;refine yo [] (tk [0,3,6,10,12,16,18,22]) [] ?_;refine yt zp ?_;obtain⟨v,z,g⟩:=ay g (o.a.iw _);refine yk<|ak.iD 0 zp rfl rfl rfl rfl rfl z rfl rfl zn rfl (dc.box rfl zi) (yz ?_)
 refine yt zp ?_;obtain⟨k,g⟩:=bz g;refine yk<|ak.cR (rows2:=(ab.rows ([v.fst]))) zp rfl rfl rfl rfl rfl zg rfl zi rfl rfl (ab.bU _) rfl rfl (zo k) (yz ?_)
 obtain⟨v,z,g⟩:=ay g (o.a.bJ _ _);refine yb 0 z ?_;cases g;exact yJ;exact yk (yN (_,_) n ⟨by omega,g⟩)
 iterate 2 (obtain⟨v,z,g⟩:=ay g (o.a.bJ _ _);refine yb 0 z ?_)
 refine yc g (o.a.cI _) λv g=>?_;obtain⟨y2,z,g⟩:=ay g (o.a.dn _ _);refine yb 0 z ?_;refine yk<|ak.dY 4 (rows':=ab.rows ([{Kind:=48,Text:=y2.fst,N:=0,At:=v.At,Kids:=[]:ab}])) rfl zi (yz ?_)
 obtain⟨k,g⟩:=bz g;refine yk<|DO.cW rfl rfl zg rfl rfl zg rfl rfl (ab.bU _) rfl rfl rfl (zo k) (yz ?_)
 obtain⟨v,z,g⟩:=ay g (o.a.bJ _ _);refine yb 0 z ?_;refine yo [] (tk [0,3,6,10,12,16,18,22]) [] ?_;refine yt zp ?_;obtain⟨v,z,g⟩:=ay g (o.a.iw _);refine yk<|ak.iD 0 zp rfl rfl rfl rfl rfl z rfl rfl zn rfl (dc.box rfl zi) (yz ?_)
 refine yt zp ?_;obtain⟨k,g⟩:=bz g;refine yk<|ak.cR (rows2:=(ab.rows ([v.fst]))) zp rfl rfl rfl rfl rfl zg rfl zi rfl rfl (ab.bU _) rfl rfl (zo k) (yz ?_)
 obtain⟨v,z,g⟩:=ay g (o.a.bJ _ _);refine yb 0 z ?_;cases g;exact yJ;refine yc g (o.a.b9 _ _) λv g=>?_;refine ao g ?_ ?_<;>intro _ g;obtain⟨v,z,g⟩:=ay g (o.a.dn _ _);refine yb 0 z ?_;obtain⟨y2,z,g⟩:=ay g (o.a.bJ _ _);refine yb 0 z ?_;refine yc g (o.a.b9 _ _) λy3 g=>?_;refine ao g ?_ ?_<;>intro _ g;refine Ok.stuck aW ?_;refine ak.fP 2 4 25 5 3 rfl rfl rfl ?_;refine yL (S:=aC×(List ab)) (G:=λm s=>EV (Gu m) y v s.1 s.2) (s0:=(y2.snd,[])) 4 [0,2,3] [] (λs=>[]) (λs=>[(0,.box ((aC.cs s.1).map .d)),(3,.row 25 5 (ab.rows s.2)),(2,.box [.d (.v (.int .i64 5)),.d (.v (.string ⟨⟨(v.fst)⟩⟩)),.d (.v (.int .i64 0)),.d (.v (.int .i64 y.At)),.os 3 (ab.rows s.2).length])]) g ?_;rintro n ⟨s113,s118⟩ _ g;change EW (Gu n) y v s113 s118=_ at g;rw[EW]at g;refine yz ?_;refine yc g (o.a.cI _) λv g=>?_;obtain⟨y2,z,g⟩:=ay g (o.a.dn _ _);refine yb 0 z ?_;obtain⟨y3,z,g⟩:=ay g (o.a.bJ _ _);refine yb 0 z ?_;obtain⟨y3,z,g⟩:=ay g (o.a.pZ _);refine yb 0 z ?_;refine yk<|ak.dY 5 (rows':=ab.rows ([{Kind:=6,Text:=y2.fst,N:=y3.fst,At:=v.At,Kids:=[]:ab}])) rfl zi (yz ?_)
 obtain⟨k,g⟩:=bz g;refine yk<|DO.cW rfl rfl zg rfl rfl zg rfl rfl (ab.bU _) rfl rfl rfl (zo k) (yz ?_)
 refine yc g (o.a.b9 _ _) λv g=>?_;refine ao g ?_ ?_<;>intro _ g
 iterate 2 (obtain⟨v,z,g⟩:=ay g (o.a.bJ _ _);refine yb 0 z ?_)
 refine yc g (o.a.cI _) λv g=>?_;obtain⟨y2,z,g⟩:=ay g (o.a.dn _ _);refine yb 0 z ?_;refine yk<|ak.dY 7 (rows':=ab.rows ([{Kind:=48,Text:=y2.fst,N:=0,At:=v.At,Kids:=[]:ab}])) rfl zi (yz ?_)
 obtain⟨k,g⟩:=bz g;refine yk<|DO.cW rfl rfl zg rfl rfl zg rfl rfl (ab.bU _) rfl rfl rfl (zo k) (yz ?_)
 obtain⟨v,z,g⟩:=ay g (o.a.bJ _ _);refine yb 0 z ?_;obtain⟨v,z,g⟩:=ay g (o.a.pZ _);refine yb 0 z ?_;obtain⟨v,z,g⟩:=ay g (o.a.bJ _ _);refine yb 0 z ?_;refine yo [] (tk [0,3,6,10,12,16,18,22]) [] ?_;refine yt zp ?_;obtain⟨v,z,g⟩:=ay g (o.a.iw _);refine yk<|ak.iD 0 zp rfl rfl rfl rfl rfl z rfl rfl zn rfl (dc.box rfl zi) (yz ?_)
 refine yt zp ?_;obtain⟨k,g⟩:=bz g;refine yk<|ak.cR (rows2:=(ab.rows ([v.fst]))) zp rfl rfl rfl rfl rfl zg rfl zi rfl rfl (ab.bU _) rfl rfl (zo k) (yz ?_)
 obtain⟨v,z,g⟩:=ay g (o.a.bJ _ _);refine yb 0 z ?_;cases g;exact yJ;exact yk (yN (_,_) n ⟨by omega,g⟩)
 iterate 2 (obtain⟨v,z,g⟩:=ay g (o.a.bJ _ _);refine yb 0 z ?_)
 refine yc g (o.a.cI _) λv g=>?_;obtain⟨y2,z,g⟩:=ay g (o.a.dn _ _);refine yb 0 z ?_;refine yk<|ak.dY 4 (rows':=ab.rows ([{Kind:=48,Text:=y2.fst,N:=0,At:=v.At,Kids:=[]:ab}])) rfl zi (yz ?_)
 obtain⟨k,g⟩:=bz g;refine yk<|DO.cW rfl rfl zg rfl rfl zg rfl rfl (ab.bU _) rfl rfl rfl (zo k) (yz ?_)
 obtain⟨v,z,g⟩:=ay g (o.a.bJ _ _);refine yb 0 z ?_;obtain⟨v,z,g⟩:=ay g (o.a.pZ _);refine yb 0 z ?_;obtain⟨v,z,g⟩:=ay g (o.a.bJ _ _);refine yb 0 z ?_;refine yo [] (tk [0,3,6,10,12,16,18,22]) [] ?_;refine yt zp ?_;obtain⟨v,z,g⟩:=ay g (o.a.iw _);refine yk<|ak.iD 0 zp rfl rfl rfl rfl rfl z rfl rfl zn rfl (dc.box rfl zi) (yz ?_)
 refine yt zp ?_;obtain⟨k,g⟩:=bz g;refine yk<|ak.cR (rows2:=(ab.rows ([v.fst]))) zp rfl rfl rfl rfl rfl zg rfl zi rfl rfl (ab.bU _) rfl rfl (zo k) (yz ?_)
 obtain⟨v,z,g⟩:=ay g (o.a.bJ _ _);refine yb 0 z ?_;cases g;exact yJ;obtain⟨v,z,g⟩:=ay g (o.a.dn _ _);refine yb 0 z ?_;obtain⟨y2,z,g⟩:=ay g (o.a.bJ _ _);refine yb 0 z ?_;refine yc g (o.a.b9 _ _) λy3 g=>?_;refine ao g ?_ ?_<;>intro _ g;refine Ok.stuck aW ?_;refine ak.fP 2 4 25 5 3 rfl rfl rfl ?_;refine yL (S:=aC×(List ab)) (G:=λm s=>EX (Gu m) y v s.1 s.2) (s0:=(y2.snd,[])) 4 [0,2,3] [] (λs=>[]) (λs=>[(0,.box ((aC.cs s.1).map .d)),(3,.row 25 5 (ab.rows s.2)),(2,.box [.d (.v (.int .i64 4)),.d (.v (.string ⟨⟨(v.fst)⟩⟩)),.d (.v (.int .i64 0)),.d (.v (.int .i64 y.At)),.os 3 (ab.rows s.2).length])]) g ?_;rintro n ⟨s152,s157⟩ _ g;change EY (Gu n) y v s152 s157=_ at g;rw[EY]at g;refine yz ?_;refine yc g (o.a.cI _) λy g=>?_;obtain⟨v,z,g⟩:=ay g (o.a.dn _ _);refine yb 0 z ?_;obtain⟨y2,z,g⟩:=ay g (o.a.bJ _ _);refine yb 0 z ?_;obtain⟨y2,z,g⟩:=ay g (o.a.pZ _);refine yb 0 z ?_;refine yk<|ak.dY 5 (rows':=ab.rows ([{Kind:=6,Text:=v.fst,N:=y2.fst,At:=y.At,Kids:=[]:ab}])) rfl zi (yz ?_)
 obtain⟨k,g⟩:=bz g;refine yk<|DO.cW rfl rfl zg rfl rfl zg rfl rfl (ab.bU _) rfl rfl rfl (zo k) (yz ?_)
 refine yc g (o.a.b9 _ _) λy g=>?_;refine ao g ?_ ?_<;>intro _ g
 iterate 2 (obtain⟨y,z,g⟩:=ay g (o.a.bJ _ _);refine yb 0 z ?_)
 refine yc g (o.a.cI _) λy g=>?_;obtain⟨v,z,g⟩:=ay g (o.a.dn _ _);refine yb 0 z ?_;refine yk<|ak.dY 7 (rows':=ab.rows ([{Kind:=48,Text:=v.fst,N:=0,At:=y.At,Kids:=[]:ab}])) rfl zi (yz ?_)
 obtain⟨k,g⟩:=bz g;refine yk<|DO.cW rfl rfl zg rfl rfl zg rfl rfl (ab.bU _) rfl rfl rfl (zo k) (yz ?_)
 obtain⟨y,z,g⟩:=ay g (o.a.bJ _ _);refine yb 0 z ?_;refine yo [] (tk [0,3,6,10,12,16,18,22]) [] ?_;refine yt zp ?_;obtain⟨y,z,g⟩:=ay g (o.a.iw _);refine yk<|ak.iD 0 zp rfl rfl rfl rfl rfl z rfl rfl zn rfl (dc.box rfl zi) (yz ?_)
 refine yt zp ?_;obtain⟨k,g⟩:=bz g;refine yk<|ak.cR (rows2:=(ab.rows ([y.fst]))) zp rfl rfl rfl rfl rfl zg rfl zi rfl rfl (ab.bU _) rfl rfl (zo k) (yz ?_)
 obtain⟨y,z,g⟩:=ay g (o.a.bJ _ _);refine yb 0 z ?_;cases g;exact yJ;exact yk (yN (_,_) n ⟨by omega,g⟩)
 iterate 2 (obtain⟨y,z,g⟩:=ay g (o.a.bJ _ _);refine yb 0 z ?_)
 refine yc g (o.a.cI _) λy g=>?_;obtain⟨v,z,g⟩:=ay g (o.a.dn _ _);refine yb 0 z ?_;refine yk<|ak.dY 4 (rows':=ab.rows ([{Kind:=48,Text:=v.fst,N:=0,At:=y.At,Kids:=[]:ab}])) rfl zi (yz ?_)
 obtain⟨k,g⟩:=bz g;refine yk<|DO.cW rfl rfl zg rfl rfl zg rfl rfl (ab.bU _) rfl rfl rfl (zo k) (yz ?_)
 obtain⟨y,z,g⟩:=ay g (o.a.bJ _ _);refine yb 0 z ?_;refine yo [] (tk [0,3,6,10,12,16,18,22]) [] ?_;refine yt zp ?_;obtain⟨y,z,g⟩:=ay g (o.a.iw _);refine yk<|ak.iD 0 zp rfl rfl rfl rfl rfl z rfl rfl zn rfl (dc.box rfl zi) (yz ?_)
 refine yt zp ?_;obtain⟨k,g⟩:=bz g;refine yk<|ak.cR (rows2:=(ab.rows ([y.fst]))) zp rfl rfl rfl rfl rfl zg rfl zi rfl rfl (ab.bU _) rfl rfl (zo k) (yz ?_)
 obtain⟨y,z,g⟩:=ay g (o.a.bJ _ _);refine yb 0 z ?_;cases g;exact yJ
