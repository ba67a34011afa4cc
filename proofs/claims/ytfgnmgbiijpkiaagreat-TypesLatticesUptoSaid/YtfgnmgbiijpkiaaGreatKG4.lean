/- Printed by a program: what functions answer, and that they do. -/
import Derived.Test.YtfgnmgbiijpkiaaGreatKG1
set_option linter.all false
section
set_option maxRecDepth 100000
noncomputable section
namespace Go.Proofs.YtfgnmgbiijpkiaaGreat
open Go Go.Bw
def aft (p:aes):Prop:=∀a0 r,p a0=some r->Pure env.toCx 176 [(.agg (ab.cs a0))] (.ret (.v (.bool r)))
def aeH (p:aem):Prop:=∀a0 r,p a0=some r->Pure env.toCx 175 [(.sl 5 (ab.rows a0)),(.v (.func (.func 176) #[] #[]))] (.ret (.v (.int .i64 r)))
def Qr (p:FE):Prop:=∀a0 a1 r,p a0 a1=some r->Pure env.toCx 185 [(.sl 1 (aN a0)),(.v (.string ⟨⟨a1⟩⟩))] (.ret (.v (.int .i64 r)))
def Qs (p:FG):Prop:=∀a0 a1 r,p a0 a1=some r->Pure env.toCx 131 [(.sl 1 (aN a0)),(.v (.string ⟨⟨a1⟩⟩))] (.ret (.v (.bool r)))
def SJ (p:H9):Prop:=∀a0 a1 r,p a0 a1=some r->Pure env.toCx 81 [(.sl 1 (aN a0)),(.v (.string ⟨⟨a1⟩⟩))] (.ret (.v (.bool r)))
def SU (p:Ih):Prop:=∀a0 a1 r,p a0 a1=some r->Pure env.toCx 80 [(.v (.int .i64 a0)),(.v (.int .i64 a1))] (aX.ar (λx=>(.bN [])) r)
def afu (p:aet):Prop:=∀a0 r,p a0=some r->Pure env.toCx 177 [(.sl 5 (ab.rows a0))] (aX.ar (λx=>(.sl 1 (aN x))) r)
def afv (p:aeu):Prop:=∀a0 a1 r,p a0 a1=some r->Pure env.toCx 178 [(.agg (bt.cs a0)),(.ip (ab.cs a1))] (.ret (.v (.bool r)))
def aeI (p:aen):Prop:=∀a0 a1 r,p a0 a1=some r->Pure env.toCx 55 [(.sl 7 (bt.rows a0)),(.fn 178 [] [(.ip (ab.cs a1))])] (.ret (.v (.int .i64 r)))
def afw (p:aev):Prop:=∀a0 a1 r,p a0 a1=some r->Pure env.toCx 117 [(.agg (fN.cs a0)),(.agg (ab.cs a1))] (aX.ar (λx=>(.agg (ah.cs x))) r)
def Qm (p:FA):Prop:=∀a0 a1 r,p a0 a1=some r->Pure env.toCx 213 [(.v (.bool a0)),(.v (.int .i64 a1))] (.ret (.v (.int .i64 r)))
def Qo (p:FC):Prop:=∀a0 r,p a0=some r->Pure env.toCx 166 [(.agg (ah.cs a0))] (.ret (.v (.int .i64 r)))
def Qq (p:FD):Prop:=∀a0 r,p a0=some r->Pure env.toCx 168 [(.agg (ah.cs a0))] (.ret (.v (.int .i64 r)))
def SH (p:H7):Prop:=∀a0 r,p a0=some r->Pure env.toCx 98 [(.v (.int .u8 a0))] (.ret (.v (.bool r)))
def SI (p:H8):Prop:=∀a0 r,p a0=some r->Pure env.toCx 53 [(.v (.string ⟨⟨a0⟩⟩))] (.ret (.v (.bool r)))
def Qt (p:FH):Prop:=∀a0 r,p a0=some r->Pure env.toCx 214 [(.sl 1 (aN a0))] (.ret (.v (.bool r)))
def Qw (p:FI):Prop:=∀a0 a1 r,p a0 a1=some r->Pure env.toCx 215 [(.sl 1 (aN a0)),(.sl 1 (aN a1))] (.ret (.v (.bool r)))
def Qx (p:FJ):Prop:=∀a0 r,p a0=some r->Pure env.toCx 169 [(.agg (ah.cs a0))] (.ret (.v (.int .i64 r)))
def Qz (p:FK):Prop:=∀a0 r,p a0=some r->Pure env.toCx 170 [(.agg (ah.cs a0))] (.ret (.v (.int .i64 r)))
def QA (p:FL):Prop:=∀a0 r,p a0=some r->Pure env.toCx 216 [(.agg (ah.cs a0))] (.ret (.v (.bool r)))
def QB (p:FM):Prop:=∀a0 r,p a0=some r->Pure env.toCx 171 [(.agg (ah.cs a0))] (.ret (.v (.int .i64 r)))
def QC (p:FN):Prop:=∀a0 r,p a0=some r->Pure env.toCx 167 [(.sl 1 (eW .i64 a0))] (.ret (.v (.int .i64 r)))
def SK (p:H'):Prop:=∀a0 a1 a2 r,p a0 a1 a2=some r->dk env 99 [(.own 0 0),(.d (.agg (ah.cs a1))),(.d (.v (.int .i64 a2)))] (.box (dp.cs a0)) (.v (.int .i64 r.1)) (.box (dp.cs r.2))
def SM (p:Ia):Prop:=∀a0 r,p a0=some r->Pure env.toCx 54 [(.agg (ah.cs a0))] (.ret (.v (.int .i64 r)))
def C67 (p:T67):Prop:=∀a0 a1 r,p a0 a1=some r->Pure env.toCx 67 [(.agg (fN.cs a0)),(.agg (ab.cs a1))] (aX.ar (λx=>(.agg (ah.cs x))) r)
def QO (p:F1):Prop:=∀a0 r,p a0=some r->Pure env.toCx 100 [(.sl 1 (aN a0))] (.ret (.sl 1 (aN r)))
def PJ (p:E9):Prop:=∀a0 r,p a0=some r->jE env 115 [(.sl 2 (aU.rows a0))] 119 2 (aU.rows r)
def PK (p:E'):Prop:=∀a0 r,p a0=some r->jE env 116 [(.sl 6 (ah.rows a0))] 43 6 (ah.rows r)
def SX (p:Ij):Prop:=∀a0 r,p a0=some r->Pure env.toCx 66 [(.agg (ah.cs a0))] (.ret (.agg (ah.cs r)))
def C27 (p:T27):Prop:=∀a0 a1 r,p a0 a1=some r->Pure env.toCx 27 [(.sl 7 (bt.rows a0)),(.agg (ab.cs a1))] (.ret (.bN [(.agg (ah.cs r.1)),(.agg (aM.cs r.2))]))
def Td (p:IA):Prop:=∀a0 a1 r,p a0 a1=some r->Pure env.toCx 41 [(.v (.int .i64 a0)),(.v (.int .i64 a1))] (.ret (.agg (aM.cs r)))
def Ta (p:Ix):Prop:=∀a0 a1 r,p a0 a1=some r->Pure env.toCx 42 [(.sl 1 (aN a0)),(.v (.string ⟨⟨a1⟩⟩))] (.ret (.v (.bool r)))
def afx (p:aew):Prop:=∀a0 r,p a0=some r->Pure env.toCx 179 [(.sl 1 (aN a0))] (.ret (.sl 1 (aN r)))
def afy (p:aex):Prop:=∀a0 r,p a0=some r->Pure env.toCx 118 [(.sl 5 (ab.rows a0))] (.ret (.bN [(.sl 1 (aN r.1)),(.agg (aM.cs r.2))]))
def C68 (p:T68):Prop:=∀a0 a1 r,p a0 a1=some r->Pure env.toCx 68 [(.sl 7 (bt.rows a0)),(.agg (ab.cs a1))] (.ret (.bN [(.agg (ah.cs r.1)),(.agg (aM.cs r.2))]))
def Q6 (p:Gg):Prop:=∀a0 r,p a0=some r->Pure env.toCx 153 [(.agg (ah.cs a0))] (.ret (.v (.bool r)))
def Q7 (p:Gh):Prop:=∀a0 r,p a0=some r->Pure env.toCx 194 [(.v (.string ⟨⟨a0⟩⟩))] (.ret (.v (.bool r)))
def Q8 (p:Gi):Prop:=∀a0 a1 r,p a0 a1=some r->Pure env.toCx 195 [(.sl 1 (aN a0)),(.v (.string ⟨⟨a1⟩⟩))] (.ret (.v (.bool r)))
def Q9 (p:Gj):Prop:=∀a0 r,p a0=some r->Pure env.toCx 196 [(.sl 1 (aN a0))] (.ret (.v (.bool r)))
def Ra (p:Gk):Prop:=∀a0 r,p a0=some r->Pure env.toCx 154 [(.agg (ah.cs a0))] (.ret (.v (.bool r)))
def Rb (p:Gm):Prop:=∀a0 r,p a0=some r->Pure env.toCx 155 [(.agg (ah.cs a0))] (.ret (.v (.bool r)))
def S7 (p:Is):Prop:=∀a0 a1 a2 r,p a0 a1 a2=some r->Pure env.toCx 90 [(.agg (ah.cs a0)),(.v (.int .i64 a1)),(.v (.int .i64 a2))] (.ret (.v (.int .i64 r)))
def S8 (p:Iu):Prop:=∀a0 a1 a2 r,p a0 a1 a2=some r->Pure env.toCx 46 [(.agg (ah.cs a0)),(.v (.int .i64 a1)),(.v (.int .i64 a2))] (.ret (.bN [(.v (.int .i64 r.1)),(.v (.int .i64 r.2))]))
def S9 (p:Iv):Prop:=∀a0 r,p a0=some r->Pure env.toCx 15 [(.agg (ah.cs a0))] (.ret (.v (.int .i64 r)))
def C28 (p:T28):Prop:=∀a0 a1 r,p a0 a1=some r->Pure env.toCx 28 [(.sl 7 (bt.rows a0)),(.agg (ab.cs a1))] (.ret (.bN [(.agg (ah.cs r.1)),(.agg (aM.cs r.2))]))
def Tf (p:IC):Prop:=∀a0 a1 r,p a0 a1=some r->Pure env.toCx 69 [(.sl 1 (aN a0)),(.sl 1 (aN a1))] (.ret (.v (.bool r)))
def Tg (p:ID):Prop:=∀a0 a1 r,p a0 a1=some r->Pure env.toCx 29 [(.agg (ah.cs a0)),(.agg (ah.cs a1))] (.ret (.v (.bool r)))
def C7qq (p:T7qq):Prop:=∀a0 a1 a2 r,p a0 a1 a2=some r->Pure env.toCx 7 [(.agg (ah.cs a0)),(.v (.string ⟨⟨a1⟩⟩)),(.v (.string ⟨⟨a2⟩⟩))] (.ret (.v (.bool r)))
structure Kf (n:Nat):Prop where
 agI:aft (f176 (Gf n))
 afW:aeH (ad7 (Gf n))
 Fw:Qr (f185 (Gf n))
 Qv:Qs (f131 (Gf n))
 H5:SJ (f81 (Gf n))
 fv:SU (f80 (Gf n))
 iv:afu (f177 (Gf n))
 agJ:afv (f178 (Gf n))
 aeJ:aeI (adz (Gf n))
 tu:afw (f117 (Gf n))
 b8:Qm (f213 (Gf n))
 abB:Qo (f166 (Gf n))
 abC:Qq (f168 (Gf n))
 c98:SH (f98 (Gf n))
 uK:SI (f53 (Gf n))
 Fx:Qt (f214 (Gf n))
 Qy:Qw (f215 (Gf n))
 abD:Qx (f169 (Gf n))
 abE:Qz (f170 (Gf n))
 Fy:QA (f216 (Gf n))
 abF:QB (f171 (Gf n))
 abG:QC (f167 (Gf n))
 SL:SK (f99 (Gf n))
 Tu:SM (f54 (Gf n))
 c67:C67 (f67 (Gf n))
 QP:QO (f100 (Gf n))
 ZT:PJ (Fa (Gf n))
 ZU:PK (Fb (Gf n))
 H6:SX (f66 (Gf n))
 c27:C27 (f27 (Gf n))
 dv:Td (f41 (Gf n))
 xi:Ta (f42 (Gf n))
 agK:afx (f179 (Gf n))
 tv:afy (f118 (Gf n))
 c68:C68 (f68 (Gf n))
 GC:Q6 (f153 (Gf n))
 Ro:Q7 (f194 (Gf n))
 GD:Q8 (f195 (Gf n))
 Rp:Q9 (f196 (Gf n))
 GF:Ra (f154 (Gf n))
 GG:Rb (f155 (Gf n))
 c90:S7 (f90 (Gf n))
 Tx:S8 (f46 (Gf n))
 IT:S9 (f15 (Gf n))
 c28:C28 (f28 (Gf n))
 Ty:Tf (f69 (Gf n))
 Tz:Tg (f29 (Gf n))
 c7qq:C7qq (f7 (Gf n))
 H4:TH (f57 (Gf n))
 c9:C9 (f9 (Gf n))
 c26:Ud (f26 (Gf n))
def Of (n:Nat):Prop:=∀m,m<=n->Kf m
theorem KP (l:List (List UInt8)):aN l=l.map λx=>[.v (.string ⟨⟨x⟩⟩)]:=rfl
theorem Of.a {N m:Nat} (h:Of N) (hm:m<=N:=by omega):Kf m:=h m hm
end Go.Proofs.YtfgnmgbiijpkiaaGreat
end

section
set_option maxRecDepth 100000
noncomputable section
namespace Go.Proofs.YtfgnmgbiijpkiaaGreat
open Go Go.Bw Go.Proofs.Tryz
/-(plexus.types.describer).describe$1-/
theorem agC {n} (o:Of n):aft (ad0 (Gf n)):=by
 intro a0 r g;rw[ad0]at g;refine yw func176 ntmps176 ?_;cases g;exact zl
/-slices.IndexFunc[[]plexus.api.Node,plexus.api.Node]-/
theorem afU {n} (o:Of n):aeH (I1 (Gf n)):=by
 intro a0 r g;rw[I1]at g;refine yw func175 ntmps175 ?_;refine yk<|yL (S:=Int) (G:=λm s=>ad4 (Gf m) a0 s) (s0:=0) 0 [0,1,4,7] [8] (λs=>[(8,.d (.v (.int .i64 s)))]) (λs=>[]) g ?_;rintro n s1 _ g;change wz (Gf n) a0 s1=_ at g;rw[wz]at g;refine yz ?_
 refine br g λ_ g=>?_;refine yX g ab.aF λx3 _ _ g=>?_;refine yc g (o.a.agI _) λy5 g=>?_;refine aK g λ_ g=>?_;exact yk (yN _ n ⟨by omega,g⟩)
/-slices.Index[[]string,string]-/
theorem aaN {n} (o:Of n):Qr (uq (Gf n)):=by
 intro a0 a1 r g;rw[uq]at g;refine yw func185 ntmps185 ?_;refine yk<|yL (S:=Int) (G:=λm s=>zQ (Gf m) a0 a1 s) (s0:=0) 0 [0,1,4,7] [8] (λs=>[(8,.d (.v (.int .i64 s)))]) (λs=>[]) g ?_;rintro n s1 _ g;change sL (Gf n) a0 a1 s1=_ at g;rw[sL]at g;refine yz ?_
 refine br g λ_ g=>?_;refine yX g dQ λx3 _ _ g=>?_;refine aK g λ_ g=>?_;exact yk (yN _ n ⟨by omega,g⟩)
/-slices.Contains[[]string,string]-/
theorem aaO {n} (o:Of n):Qs (wL (Gf n)):=by
 intro a0 a1 r g;rw[wL]at g;refine yw func131 ntmps131 ?_;refine yc g (o.a.Fw _ _) λy1 g=>?_;cases g;exact zl
/-plexus.names.Has-/
theorem w81 {n} (o:Of n):SJ (xc (Gf n)):=by
 intro a0 a1 r g;rw[xc]at g;refine yw func81 ntmps81 ?_;refine yc g (o.a.Qv _ _) λy1 g=>?_;cases g;exact zl
/-plexus.types.fail-/
theorem w80 {n} (o:Of n):SU (iL (Gf n)):=by
 intro a0 a1 r g;rw[iL]at g;refine yw func80 ntmps80 ?_;refine Ok.fin aW ?_;obtain rfl:=jm g;exact RD.wm rfl aW rfl zi
/-plexus.types.quotes-/
theorem agD {n} (o:Of n):afu (adH (Gf n)):=by
 intro a0 r g;rw[adH]at g;refine yw func177 ntmps177 ?_;refine Ok.stuck aW ?_;refine ak.km 3 9 1 0 rfl rfl ?_;refine yL (S:=(List (List UInt8))×Int) (G:=λm s=>adM (Gf m) a0 s.1 s.2) (s0:=([],0)) 1 [2,6,7] [3,8] (λs=>[(3,.os 0 (aN s.1).length),(8,.d (.v (.int .i64 s.2)))]) (λs=>[(0,.row 9 1 (aN s.1))]) g ?_;rintro n ⟨s1,s2⟩ _ g;change adA (Gf n) a0 s1 s2=_ at g;rw[adA]at g;refine yz ?_;refine ao g (λ_ g=>?_) λ_ g=>?_;refine yX g ab.aF λx4 _ _ g=>?_;refine yc g (o.a.H5 _ _) λy6 g=>?_;refine ao g (λ_ g=>?_) λ_ g=>?_;exact yP g (o.a.fv _ _);obtain⟨h9,g⟩:=bz g;refine yk<|DO.cW rfl rfl zg rfl rfl zg rfl rfl rfl rfl rfl rfl (zo h9) (yz ?_)
 exact yk (yN (_,_) n ⟨by omega,g⟩);refine yk<|ak.cH (t:=25) rfl rfl (eo rfl aW) (yz ?_)
 refine yc g (o.a.H4 _) λy11 g=>?_;cases g;exact zl
/-(plexus.types.describer).describe$2-/
theorem agE {n} (o:Of n):afv (ad1 (Gf n)):=by
 intro a0 a1 r g;rw[ad1]at g;refine yw func178 ntmps178 ?_;cases g;exact zl
/-slices.IndexFunc[[]plexus.api.Object,plexus.api.Object]-/
theorem afV {n} (o:Of n):aeI (I2 (Gf n)):=by
 intro a0 a1 r g;rw[I2]at g;refine yw func55 ntmps55 ?_;refine yk<|yL (S:=Int) (G:=λm s=>ad5 (Gf m) a0 a1 s) (s0:=0) 0 [0,1,4,7] [8] (λs=>[(8,.d (.v (.int .i64 s)))]) (λs=>[]) g ?_;rintro n s1 _ g;change F3 (Gf n) a0 a1 s1=_ at g;rw[F3]at g;refine yz ?_
 refine br g λ_ g=>?_;refine yX g bt.aF λx3 _ _ g=>?_;refine yc g (o.a.agJ _ _) λy5 g=>?_;refine aK g λ_ g=>?_;exact yk (yN _ n ⟨by omega,g⟩)
/-(plexus.types.describer).describe-/
set_option maxHeartbeats 0 in
theorem agF {n} (o:Of n):afw (ej (Gf n)):=by
 intro a0 a1 r g;rw[ej]at g;refine yw func117 ntmps117 ?_;refine yc g (o.a.afW _) λy1 g=>?_;refine ao g (λ_ g=>?_) λ_ g=>?_
 iterate 2 (refine aK g λ_ g=>?_)
 refine ao g (λh5 g=>?_) λ_ g=>?_;refine yF h5 ?_;refine yo [] (tk [0,3,6,9,12,15,18,21,24,27,30,34,36,40]) [] ?_;obtain⟨x6,ex6,j7h,g⟩:=a8 g;refine yu zp (yi j7h (ab.aF ex6)) ?_
 iterate 4 (refine yt zp ?_)
 obtain⟨x8,ex8,j9h,g⟩:=a8 g;refine yu zp (yi j9h (ab.aF ex8)) ?_
 iterate 6 (refine yt zp ?_)
 cases g;exact yj;refine ao g (λh10 g=>?_) λ_ g=>?_;refine Ok.eH h10 ?_;conv=>(arg 3;whnf)
 refine yo [] (tk [0,3,6,9,12,15,18,21,24,27,30,34,36,40]) [] ?_;obtain⟨x11,ex11,j12h,g⟩:=a8 g;refine yu zp (yi j12h (ab.aF ex11)) ?_
 iterate 4 (refine yt zp ?_)
 obtain⟨x13,ex13,j14h,g⟩:=a8 g;refine yu zp (yi j14h (ab.aF ex13)) ?_
 iterate 6 (refine yt zp ?_)
 cases g;exact yj;refine ao g (λ_ g=>?_) λ_ g=>?_;refine yp g (o.a.iv _) λy16 g=>?_;cases g;exact yj;refine ao g (λ_ g=>?_) λ_ g=>?_;refine yp g (o.a.iv _) λy18 g=>?_;cases g;exact yj;refine ao g (λ_ g=>?_) λ_ g=>?_;obtain⟨x20,ex20,g⟩:=fb g;refine yv (yQ ab.bS ex20) ?_;refine yp g (o.a.iv _) λy22 g=>?_;refine yo [0,1,2,3,4,5] (tk [19,21,24,28]) [] ?_;refine yY g ab.aF λx23 _ _ g=>?_;refine yq g (o.a.tu _ _) zp λy25 g=>?_
 iterate 2 (refine yt zp ?_)
 cases g;exact yj;refine ao g (λ_ g=>?_) λ_ g=>?_;refine Ok.stuck aW ?_;refine ak.fP 3 4 43 6 4 rfl rfl rfl ?_;refine yL (S:=Int×(List ah)) (G:=λm s=>adN (Gf m) a0 a1 s.1 s.2) (s0:=(0,[])) 5 [2,4,5,87,88] [89] (λs=>[(89,.d (.v (.int .i64 s.1)))]) (λs=>[(4,.row 43 6 (ah.rows s.2)),(3,.box [.d (.v (.int .i64 7)),.d (.v (.int .i64 0)),.d (.v (.int .i64 0)),.d (.v (.slice none 0 0)),.os 4 (ah.rows s.2).length,.d (.v (.slice none 0 0))])]) g ?_;rintro n ⟨s27,s32⟩ _ g;change ad' (Gf n) a0 a1 s27 s32=_ at g;rw[ad']at g;refine yz ?_;refine br g λ_ g=>?_;refine yX g ab.aF λx35 _ _ g=>?_;refine yo [] (tk [0,3,6,9,13,15,19,21,25]) [] ?_
 iterate 2 (refine yt zp ?_)
 refine yq g (o.a.tu _ _) zp λy37 g=>?_;refine yt zp ?_;obtain⟨h38,g⟩:=bz g;refine yk<|ak.cR (rows2:=(ah.rows ([y37]))) zp rfl rfl rfl rfl rfl zg rfl zi rfl rfl (ah.bU _) rfl rfl (zo h38) (yz ?_)
 exact yk (yN (_,_) n ⟨by omega,g⟩);refine ao g (λ_ g=>?_) λ_ g=>?_;refine Ok.stuck aW ?_;refine ak.fP 3 3 9 1 4 rfl rfl rfl ?_;refine ak.fP 3 4 43 6 5 rfl rfl rfl ?_;refine yL (S:=Int×(List (List UInt8))×(List ah)) (G:=λm s=>adO (Gf m) a0 a1 s.1 s.2.1 s.2.2) (s0:=(0,[],[])) 6 [2,4,5,106,107] [108] (λs=>[(108,.d (.v (.int .i64 s.1)))]) (λs=>[(4,.row 9 1 (aN s.2.1)),(5,.row 43 6 (ah.rows s.2.2)),(3,.box [.d (.v (.int .i64 6)),.d (.v (.int .i64 0)),.d (.v (.int .i64 0)),.os 4 (aN s.2.1).length,.os 5 (ah.rows s.2.2).length,.d (.v (.slice none 0 0))])]) g ?_;rintro n ⟨s40,s44,s45⟩ _ g;change aea (Gf n) a0 a1 s40 s44 s45=_ at g;rw[aea]at g;refine yz ?_;refine br g λ_ g=>?_;refine yX g ab.aF λx48 _ _ g=>?_;refine yc g (o.a.H5 _ _) λy50 g=>?_;refine ao g (λ_ g=>?_) λ_ g=>?_;exact yP g (o.a.fv _ _);obtain⟨h53,g⟩:=bz g;refine yk<|DO.cW rfl rfl zg rfl rfl zg rfl rfl rfl rfl rfl rfl (zo h53) (yz ?_)
 refine yo [] (tk [0,3,6,9,12,15,18,22,24,28,30,34]) [] ?_
 iterate 3 (refine yt zp ?_)
 obtain⟨x54,ex54,j55h,g⟩:=a8 g;refine yu zp (yi j55h (ab.aF ex54)) ?_;refine yt zp ?_;refine yq g (o.a.tu _ _) zp λy56 g=>?_;refine yt zp ?_;obtain⟨h57,g⟩:=bz g;refine yk<|ak.cR (rows2:=(ah.rows ([y56]))) zp rfl rfl rfl rfl rfl zg rfl zi rfl rfl (ah.bU _) rfl rfl (zo h57) (yz ?_)
 iterate 2 (refine yt zp ?_)
 exact yk (yN (_,_,_) n ⟨by omega,g⟩);refine ao g (λ_ g=>?_) λ_ g=>?_;obtain⟨x59,ex59,g⟩:=fb g;refine yv (yQ ab.bS ex59) ?_;refine yp g (o.a.iv _) λy61 g=>?_;obtain⟨x62,ex62,g⟩:=fb g;refine yv (yQ ab.bS ex62) ?_;refine Ok.stuck aW ?_;refine ak.fP 3 5 119 2 4 rfl rfl rfl ?_;refine yL (S:=Int×(List aU)) (G:=λm s=>aeb (Gf m) y61 x62 s.1 s.2) (s0:=(0,[])) 5 [4,5,151,152] [153] (λs=>[(153,.d (.v (.int .i64 s.1)))]) (λs=>[(4,.row 119 2 (aU.rows s.2)),(3,.box [.d (.v (.int .i64 10)),.d (.v (.int .i64 0)),.d (.v (.int .i64 0)),.d (.sl 1 (aN y61)),.d (.v (.slice none 0 0)),.os 4 (aU.rows s.2).length])]) g ?_;rintro n ⟨s64,s70⟩ _ g;change adP (Gf n) y61 x62 s64 s70=_ at g;rw[adP]at g;refine yz ?_;refine br g λ_ g=>?_;refine yX g ab.aF λx72 _ _ g=>?_;refine yo [] (tk [0,3,6,9,12,15,21,24,27,30,33,36,19,39,42,46,48,52]) [] ?_
 iterate 3 (refine yt zp ?_)
 obtain⟨x74,ex74,g⟩:=fb g;obtain⟨j75a,j75b,j75h,j75i,j75k,j75m,ex74⟩:=qh ex74;refine yu zp (aQ.conv (z:= .d (.sl 5 (ab.rows x74))) (aQ.part j75a j75b rfl rfl rfl (M5 (by omega)) (jB j75i rfl) j75k (by simpa only[ab.aD]using j75m)) (by rw[<-ex74];simp only[ab.aeE,ab.aeF])) ?_
 iterate 3 (refine yt zp ?_)
 obtain⟨x76,ex76,j77h,g⟩:=a8 g;refine yu zp (yi j77h (ab.aF ex76)) ?_
 iterate 2 (refine yt zp ?_)
 refine yq g (o.a.iv _) zp λy78 g=>?_
 iterate 2 (refine yt zp ?_)
 obtain⟨h79,g⟩:=bz g;refine yk<|ak.cR (rows2:=(aU.rows ([{If:=y78,eP:=x76.Text:aU}]))) zp rfl rfl rfl rfl rfl zg rfl zi rfl rfl (aU.bU _) rfl rfl (zo h79) (yz ?_)
 iterate 2 (refine yt zp ?_)
 exact yk (yN (_,_) n ⟨by omega,g⟩);refine br g λ_ g=>?_;refine yc g (o.a.aeJ _ _) λy81 g=>?_;refine ao g (λ_ g=>?_) λ_ g=>?_;exact yP g (o.a.fv _ _);refine yX g bt.aF λx84 _ _ g=>?_;cases g;exact zl
 iterate 2 (refine aK g λ_ g=>?_)
 refine ao g (λh88 g=>?_) λ_ g=>?_;refine yF h88 ?_;refine yo [] (tk [0,3,6,9,12,15,18,21,24,27,30,34,36,40]) [] ?_;obtain⟨x89,ex89,j90h,g⟩:=a8 g;refine yu zp (yi j90h (ab.aF ex89)) ?_
 iterate 4 (refine yt zp ?_)
 obtain⟨x91,ex91,j92h,g⟩:=a8 g;refine yu zp (yi j92h (ab.aF ex91)) ?_
 iterate 6 (refine yt zp ?_)
 cases g;exact yj;refine ao g (λh93 g=>?_) λ_ g=>?_;refine Ok.eH h93 ?_;conv=>(arg 3;whnf)
 refine yo [] (tk [0,3,6,9,12,15,18,21,24,27,30,34,36,40]) [] ?_;obtain⟨x94,ex94,j95h,g⟩:=a8 g;refine yu zp (yi j95h (ab.aF ex94)) ?_
 iterate 4 (refine yt zp ?_)
 obtain⟨x96,ex96,j97h,g⟩:=a8 g;refine yu zp (yi j97h (ab.aF ex96)) ?_
 iterate 6 (refine yt zp ?_)
 cases g;exact yj;refine ao g (λ_ g=>?_) λ_ g=>?_;refine yp g (o.a.iv _) λy99 g=>?_;cases g;exact yj;refine ao g (λ_ g=>?_) λ_ g=>?_;refine yp g (o.a.iv _) λy101 g=>?_;cases g;exact yj;refine ao g (λ_ g=>?_) λ_ g=>?_;obtain⟨x103,ex103,g⟩:=fb g;refine yv (yQ ab.bS ex103) ?_;refine yp g (o.a.iv _) λy105 g=>?_;refine yo [0,1,2,3,4,5] (tk [19,21,24,28]) [] ?_;refine yY g ab.aF λx106 _ _ g=>?_;refine yq g (o.a.tu _ _) zp λy108 g=>?_
 iterate 2 (refine yt zp ?_)
 cases g;exact yj;refine ao g (λ_ g=>?_) λ_ g=>?_;refine Ok.stuck aW ?_;refine ak.fP 3 4 43 6 4 rfl rfl rfl ?_;refine yL (S:=Int×(List ah)) (G:=λm s=>adQ (Gf m) a0 a1 s.1 s.2) (s0:=(0,[])) 5 [2,4,5,87,88] [89] (λs=>[(89,.d (.v (.int .i64 s.1)))]) (λs=>[(4,.row 43 6 (ah.rows s.2)),(3,.box [.d (.v (.int .i64 7)),.d (.v (.int .i64 0)),.d (.v (.int .i64 0)),.d (.v (.slice none 0 0)),.os 4 (ah.rows s.2).length,.d (.v (.slice none 0 0))])]) g ?_;rintro n ⟨s110,s115⟩ _ g;change aec (Gf n) a0 a1 s110 s115=_ at g;rw[aec]at g;refine yz ?_;refine br g λ_ g=>?_;refine yX g ab.aF λx118 _ _ g=>?_;refine yo [] (tk [0,3,6,9,13,15,19,21,25]) [] ?_
 iterate 2 (refine yt zp ?_)
 refine yq g (o.a.tu _ _) zp λy120 g=>?_;refine yt zp ?_;obtain⟨h121,g⟩:=bz g;refine yk<|ak.cR (rows2:=(ah.rows ([y120]))) zp rfl rfl rfl rfl rfl zg rfl zi rfl rfl (ah.bU _) rfl rfl (zo h121) (yz ?_)
 exact yk (yN (_,_) n ⟨by omega,g⟩);refine ao g (λ_ g=>?_) λ_ g=>?_;refine Ok.stuck aW ?_;refine ak.fP 3 3 9 1 4 rfl rfl rfl ?_;refine ak.fP 3 4 43 6 5 rfl rfl rfl ?_;refine yL (S:=Int×(List (List UInt8))×(List ah)) (G:=λm s=>adR (Gf m) a0 a1 s.1 s.2.1 s.2.2) (s0:=(0,[],[])) 6 [2,4,5,106,107] [108] (λs=>[(108,.d (.v (.int .i64 s.1)))]) (λs=>[(4,.row 9 1 (aN s.2.1)),(5,.row 43 6 (ah.rows s.2.2)),(3,.box [.d (.v (.int .i64 6)),.d (.v (.int .i64 0)),.d (.v (.int .i64 0)),.os 4 (aN s.2.1).length,.os 5 (ah.rows s.2.2).length,.d (.v (.slice none 0 0))])]) g ?_;rintro n ⟨s123,s127,s128⟩ _ g;change aed (Gf n) a0 a1 s123 s127 s128=_ at g;rw[aed]at g;refine yz ?_;refine br g λ_ g=>?_;refine yX g ab.aF λx131 _ _ g=>?_;refine yc g (o.a.H5 _ _) λy133 g=>?_;refine ao g (λ_ g=>?_) λ_ g=>?_;exact yP g (o.a.fv _ _);obtain⟨h136,g⟩:=bz g;refine yk<|DO.cW rfl rfl zg rfl rfl zg rfl rfl rfl rfl rfl rfl (zo h136) (yz ?_)
 refine yo [] (tk [0,3,6,9,12,15,18,22,24,28,30,34]) [] ?_
 iterate 3 (refine yt zp ?_)
 obtain⟨x137,ex137,j138h,g⟩:=a8 g;refine yu zp (yi j138h (ab.aF ex137)) ?_;refine yt zp ?_;refine yq g (o.a.tu _ _) zp λy139 g=>?_;refine yt zp ?_;obtain⟨h140,g⟩:=bz g;refine yk<|ak.cR (rows2:=(ah.rows ([y139]))) zp rfl rfl rfl rfl rfl zg rfl zi rfl rfl (ah.bU _) rfl rfl (zo h140) (yz ?_)
 iterate 2 (refine yt zp ?_)
 exact yk (yN (_,_,_) n ⟨by omega,g⟩);refine ao g (λ_ g=>?_) λ_ g=>?_;obtain⟨x142,ex142,g⟩:=fb g;refine yv (yQ ab.bS ex142) ?_;refine yp g (o.a.iv _) λy144 g=>?_;obtain⟨x145,ex145,g⟩:=fb g;refine yv (yQ ab.bS ex145) ?_;refine Ok.stuck aW ?_;refine ak.fP 3 5 119 2 4 rfl rfl rfl ?_;refine yL (S:=Int×(List aU)) (G:=λm s=>adS (Gf m) y144 x145 s.1 s.2) (s0:=(0,[])) 5 [4,5,151,152] [153] (λs=>[(153,.d (.v (.int .i64 s.1)))]) (λs=>[(4,.row 119 2 (aU.rows s.2)),(3,.box [.d (.v (.int .i64 10)),.d (.v (.int .i64 0)),.d (.v (.int .i64 0)),.d (.sl 1 (aN y144)),.d (.v (.slice none 0 0)),.os 4 (aU.rows s.2).length])]) g ?_;rintro n ⟨s147,s153⟩ _ g;change aee (Gf n) y144 x145 s147 s153=_ at g;rw[aee]at g;refine yz ?_;refine br g λ_ g=>?_;refine yX g ab.aF λx155 _ _ g=>?_;refine yo [] (tk [0,3,6,9,12,15,21,24,27,30,33,36,19,39,42,46,48,52]) [] ?_
 iterate 3 (refine yt zp ?_)
 obtain⟨x157,ex157,g⟩:=fb g;obtain⟨j158a,j158b,j158h,j158i,j158k,j158m,ex157⟩:=qh ex157;refine yu zp (aQ.conv (z:= .d (.sl 5 (ab.rows x157))) (aQ.part j158a j158b rfl rfl rfl (M5 (by omega)) (jB j158i rfl) j158k (by simpa only[ab.aD]using j158m)) (by rw[<-ex157];simp only[ab.aeE,ab.aeF])) ?_
 iterate 3 (refine yt zp ?_)
 obtain⟨x159,ex159,j160h,g⟩:=a8 g;refine yu zp (yi j160h (ab.aF ex159)) ?_
 iterate 2 (refine yt zp ?_)
 refine yq g (o.a.iv _) zp λy161 g=>?_
 iterate 2 (refine yt zp ?_)
 obtain⟨h162,g⟩:=bz g;refine yk<|ak.cR (rows2:=(aU.rows ([{If:=y161,eP:=x159.Text:aU}]))) zp rfl rfl rfl rfl rfl zg rfl zi rfl rfl (aU.bU _) rfl rfl (zo h162) (yz ?_)
 iterate 2 (refine yt zp ?_)
 exact yk (yN (_,_) n ⟨by omega,g⟩);refine br g λ_ g=>?_;refine yc g (o.a.aeJ _ _) λy164 g=>?_;refine ao g (λ_ g=>?_) λ_ g=>?_;exact yP g (o.a.fv _ _);refine yX g bt.aF λx167 _ _ g=>?_;cases g;exact zl
/-plexus.lattice.when-/
theorem aaK {n} (o:Of n):Qm (wJ (Gf n)):=by
 intro a0 a1 r g;rw[wJ]at g;refine yw func213 ntmps213 ?_;exact dV g
/-plexus.lattice.shape-/
set_option maxHeartbeats 0 in
theorem aaL {n} (o:Of n):Qo (uo (Gf n)):=by
 intro a0 r g;rw[uo]at g;refine yw func166 ntmps166 ?_;refine ao g (λh1 g=>?_) λ_ g=>?_;refine ao g (λ_ g=>?_) λ_ g=>?_
 iterate 2 (refine yF h1 ?_)
 refine yc g (o.a.b8 _ _) λy3 g=>?_;cases g;exact zl;refine ao g (λ_ g=>?_) λ_ g=>?_
 iterate 2 (refine yF h1 ?_)
 refine yc g (o.a.b8 _ _) λy5 g=>?_;cases g;exact zl;refine ao g (λ_ g=>?_) λ_ g=>?_
 iterate 2 (refine yF h1 ?_)
 refine yc g (o.a.b8 _ _) λy7 g=>?_;cases g;exact zl;refine ao g (λ_ g=>?_) λ_ g=>?_
 iterate 2 (refine yF h1 ?_)
 refine yc g (o.a.b8 _ _) λy9 g=>?_;cases g;exact zl
 iterate 2 (refine yF h1 ?_)
 refine ao g (λ_ g=>?_) λ_ g=>?_;refine yc g (o.a.b8 _ _) λy11 g=>?_;cases g;exact zl;refine yc g (o.a.b8 _ _) λy12 g=>?_;cases g;exact zl;refine ao g (λh13 g=>?_) λ_ g=>?_;refine ao g (λ_ g=>?_) λ_ g=>?_
 iterate 2 (refine yF h13 ?_)
 refine yc g (o.a.b8 _ _) λy15 g=>?_;cases g;exact zl;refine ao g (λ_ g=>?_) λ_ g=>?_
 iterate 2 (refine yF h13 ?_)
 refine yc g (o.a.b8 _ _) λy17 g=>?_;cases g;exact zl;refine ao g (λ_ g=>?_) λ_ g=>?_
 iterate 2 (refine yF h13 ?_)
 refine yc g (o.a.b8 _ _) λy19 g=>?_;cases g;exact zl;refine ao g (λ_ g=>?_) λ_ g=>?_
 iterate 2 (refine yF h13 ?_)
 refine yc g (o.a.b8 _ _) λy21 g=>?_;cases g;exact zl
 iterate 2 (refine yF h13 ?_)
 refine ao g (λ_ g=>?_) λ_ g=>?_;refine yc g (o.a.b8 _ _) λy23 g=>?_;cases g;exact zl;refine yc g (o.a.b8 _ _) λy24 g=>?_;cases g;exact zl;refine ao g (λh25 g=>?_) λ_ g=>?_;refine ao g (λ_ g=>?_) λ_ g=>?_
 iterate 2 (refine yF h25 ?_)
 refine yc g (o.a.b8 _ _) λy27 g=>?_;cases g;exact zl;refine ao g (λ_ g=>?_) λ_ g=>?_
 iterate 2 (refine yF h25 ?_)
 refine yc g (o.a.b8 _ _) λy29 g=>?_;cases g;exact zl;refine ao g (λ_ g=>?_) λ_ g=>?_
 iterate 2 (refine yF h25 ?_)
 refine yc g (o.a.b8 _ _) λy31 g=>?_;cases g;exact zl
 iterate 2 (refine yF h25 ?_)
 refine yc g (o.a.b8 _ _) λy32 g=>?_;cases g;exact zl;refine ao g (λh33 g=>?_) λ_ g=>?_;refine ao g (λ_ g=>?_) λ_ g=>?_
 iterate 2 (refine yF h33 ?_)
 refine yc g (o.a.b8 _ _) λy35 g=>?_;cases g;exact zl;refine ao g (λ_ g=>?_) λ_ g=>?_
 iterate 2 (refine yF h33 ?_)
 refine yc g (o.a.b8 _ _) λy37 g=>?_;cases g;exact zl;refine ao g (λ_ g=>?_) λ_ g=>?_
 iterate 2 (refine yF h33 ?_)
 refine yc g (o.a.b8 _ _) λy39 g=>?_;cases g;exact zl
 iterate 2 (refine yF h33 ?_)
 refine yc g (o.a.b8 _ _) λy40 g=>?_;cases g;exact zl;refine ao g (λh41 g=>?_) λ_ g=>?_;refine ao g (λ_ g=>?_) λ_ g=>?_
 iterate 2 (refine yF h41 ?_)
 refine yc g (o.a.b8 _ _) λy43 g=>?_;cases g;exact zl;refine ao g (λ_ g=>?_) λ_ g=>?_
 iterate 2 (refine yF h41 ?_)
 refine yc g (o.a.b8 _ _) λy45 g=>?_;cases g;exact zl;refine ao g (λ_ g=>?_) λ_ g=>?_
 iterate 2 (refine yF h41 ?_)
 refine yc g (o.a.b8 _ _) λy47 g=>?_;cases g;exact zl
 iterate 2 (refine yF h41 ?_)
 refine ao g (λ_ g=>?_) λ_ g=>?_;refine yc g (o.a.b8 _ _) λy49 g=>?_;cases g;exact zl;refine yc g (o.a.b8 _ _) λy50 g=>?_;cases g;exact zl;refine ao g (λh51 g=>?_) λ_ g=>?_;refine ao g (λ_ g=>?_) λ_ g=>?_
 iterate 2 (refine yF h51 ?_)
 refine yc g (o.a.b8 _ _) λy53 g=>?_;cases g;exact zl;refine ao g (λ_ g=>?_) λ_ g=>?_
 iterate 2 (refine yF h51 ?_)
 refine yc g (o.a.b8 _ _) λy55 g=>?_;cases g;exact zl;refine ao g (λ_ g=>?_) λ_ g=>?_
 iterate 2 (refine yF h51 ?_)
 refine yc g (o.a.b8 _ _) λy57 g=>?_;cases g;exact zl
 iterate 2 (refine yF h51 ?_)
 refine ao g (λ_ g=>?_) λ_ g=>?_;refine yc g (o.a.b8 _ _) λy59 g=>?_;cases g;exact zl;refine yc g (o.a.b8 _ _) λy60 g=>?_;cases g;exact zl;refine ao g (λh61 g=>?_) λ_ g=>?_;refine ao g (λ_ g=>?_) λ_ g=>?_
 iterate 2 (refine yF h61 ?_)
 refine yc g (o.a.b8 _ _) λy63 g=>?_;cases g;exact zl;refine ao g (λ_ g=>?_) λ_ g=>?_
 iterate 2 (refine yF h61 ?_)
 refine yc g (o.a.b8 _ _) λy65 g=>?_;cases g;exact zl;refine ao g (λ_ g=>?_) λ_ g=>?_
 iterate 2 (refine yF h61 ?_)
 refine yc g (o.a.b8 _ _) λy67 g=>?_;cases g;exact zl
 iterate 2 (refine yF h61 ?_)
 refine ao g (λ_ g=>?_) λ_ g=>?_;refine yc g (o.a.b8 _ _) λy69 g=>?_;cases g;exact zl;refine yc g (o.a.b8 _ _) λy70 g=>?_;cases g;exact zl;refine ao g (λh71 g=>?_) λ_ g=>?_;refine ao g (λ_ g=>?_) λ_ g=>?_
 iterate 2 (refine yF h71 ?_)
 refine yc g (o.a.b8 _ _) λy73 g=>?_;cases g;exact zl;refine ao g (λ_ g=>?_) λ_ g=>?_
 iterate 2 (refine yF h71 ?_)
 refine yc g (o.a.b8 _ _) λy75 g=>?_;cases g;exact zl;refine ao g (λ_ g=>?_) λ_ g=>?_
 iterate 2 (refine yF h71 ?_)
 refine yc g (o.a.b8 _ _) λy77 g=>?_;cases g;exact zl;refine ao g (λ_ g=>?_) λ_ g=>?_
 iterate 2 (refine yF h71 ?_)
 refine yc g (o.a.b8 _ _) λy79 g=>?_;cases g;exact zl
 iterate 2 (refine yF h71 ?_)
 refine ao g (λ_ g=>?_) λ_ g=>?_;refine yc g (o.a.b8 _ _) λy81 g=>?_;cases g;exact zl;refine yc g (o.a.b8 _ _) λy82 g=>?_;cases g;exact zl;refine ao g (λh83 g=>?_) λh83 g=>?_;refine yo [0,1,2,3,4] [] [] ?_;refine ao g (λ_ g=>?_) λ_ g=>?_;refine Ok.eH h83 ?_;conv=>(arg 3;whnf)
 refine yc g (o.a.b8 _ _) λy85 g=>?_;cases g;exact zl;refine ao g (λ_ g=>?_) λ_ g=>?_;refine Ok.eH h83 ?_;conv=>(arg 3;whnf)
 refine yc g (o.a.b8 _ _) λy87 g=>?_;cases g;exact zl;refine ao g (λ_ g=>?_) λ_ g=>?_;refine Ok.eH h83 ?_;conv=>(arg 3;whnf)
 refine yc g (o.a.b8 _ _) λy89 g=>?_;cases g;exact zl;refine Ok.eH h83 ?_;conv=>(arg 3;whnf)
 refine ao g (λ_ g=>?_) λ_ g=>?_;refine yc g (o.a.b8 _ _) λy91 g=>?_;cases g;exact zl;refine yc g (o.a.b8 _ _) λy92 g=>?_;cases g;exact zl;refine br g λh93 g=>?_;refine ao g (λ_ g=>?_) λ_ g=>?_;refine Ok.fm h83 ?_;conv=>(arg 3;whnf)
 refine Ok.eH h93 ?_;conv=>(arg 3;whnf)
 refine yc g (o.a.b8 _ _) λy95 g=>?_;cases g;exact zl;refine ao g (λ_ g=>?_) λ_ g=>?_;refine Ok.fm h83 ?_;conv=>(arg 3;whnf)
 refine Ok.eH h93 ?_;conv=>(arg 3;whnf)
 refine yc g (o.a.b8 _ _) λy97 g=>?_;cases g;exact zl;refine Ok.fm h83 ?_;conv=>(arg 3;whnf)
 refine Ok.eH h93 ?_;conv=>(arg 3;whnf)
 refine ao g (λ_ g=>?_) λ_ g=>?_;refine yc g (o.a.b8 _ _) λy99 g=>?_;cases g;exact zl;refine yc g (o.a.b8 _ _) λy100 g=>?_;cases g;exact zl
/-plexus.lattice.limits-/
theorem aaM {n} (o:Of n):Qq (wK (Gf n)):=by
 intro a0 r g;rw[wK]at g;refine yw func168 ntmps168 ?_
 iterate 2 (refine ao g (λ_ g=>?_) λ_ g=>?_)
 refine yc g (o.a.b8 _ _) λy3 g=>?_;cases g;exact zl;refine yc g (o.a.b8 _ _) λy4 g=>?_;cases g;exact zl
 iterate 2 (refine ao g (λ_ g=>?_) λ_ g=>?_)
 refine yc g (o.a.b8 _ _) λy7 g=>?_;cases g;exact zl;refine yc g (o.a.b8 _ _) λy8 g=>?_;cases g;exact zl;refine ao g (λ_ g=>?_) λ_ g=>?_;refine yc g (o.a.b8 _ _) λy10 g=>?_;cases g;exact zl;refine yc g (o.a.b8 _ _) λy11 g=>?_;cases g;exact zl
/-plexus.names.wordByte-/
theorem w98 {n} (o:Of n):SH (xa (Gf n)):=by
 intro a0 r g;rw[xa]at g;refine yw func98 ntmps98 ?_;refine ao g (λ_ g=>?_) λ_ g=>?_;refine aK g λ_ g=>?_;refine br g λ_ g=>?_;exact dV g;refine br g λ_ g=>?_;exact dV g
/-plexus.names.Valid-/
theorem w53 {n} (o:Of n):SI (xb (Gf n)):=by
 intro a0 r g;rw[xb]at g;refine yw func53 ntmps53 ?_
 iterate 2 (refine aK g λ_ g=>?_)
 obtain⟨x3,ex3,j4h,g⟩:=a8 g;refine yv (aQ.toP (aQ.dI ((0:Int).toNat) rfl rfl rfl rfl j4h ex3)) ?_;refine aK g λ_ g=>?_;obtain⟨x6,ex6,j7h,g⟩:=a8 g;refine yv (aQ.toP (aQ.dI ((0:Int).toNat) rfl rfl rfl rfl j7h ex6)) ?_;refine aK g λ_ g=>?_;refine yk<|yL (S:=Int) (G:=λm s=>vT (Gf m) a0 s) (s0:=0) 0 [0,2,23] [24] (λs=>[(24,.d (.v (.int .i64 s)))]) (λs=>[]) g ?_;rintro n s9 _ g;change th (Gf n) a0 s9=_ at g;rw[th]at g;refine yz ?_
 refine br g λ_ g=>?_;obtain⟨x11,ex11,j12h,g⟩:=a8 g;refine yv (aQ.toP (aQ.dI ((s9:Int).toNat) rfl rfl rfl rfl j12h ex11)) ?_;refine yc g (o.a.c98 _) λy13 g=>?_;refine aK g λ_ g=>?_;exact yk (yN _ n ⟨by omega,g⟩)
/-plexus.names.Sorted-/
theorem aaP {n} (o:Of n):Qt (uv (Gf n)):=by
 intro a0 r g;rw[uv]at g;refine yw func214 ntmps214 ?_;refine yk<|yL (S:=Int) (G:=λm s=>vC (Gf m) a0 s) (s0:=1) 0 [0,2] [3] (λs=>[(3,.d (.v (.int .i64 s)))]) (λs=>[]) g ?_;rintro n s1 _ g;change qy (Gf n) a0 s1=_ at g;rw[qy]at g;refine yz ?_
 refine br g λ_ g=>?_;refine yo [0,1,2,3,4,5,6,7,8,9] [] [] ?_;refine yY g dQ λx3 _ _ g=>?_;refine yY g dQ λx5 _ _ g=>?_;refine aK g λ_ g=>?_;exact yk (yN _ n ⟨by omega,g⟩)
/-plexus.names.Subset-/
theorem aaQ {n} (o:Of n):Qw (uw (Gf n)):=by
 intro a0 a1 r g;rw[uw]at g;refine yw func215 ntmps215 ?_;refine yk<|yL (S:=Int) (G:=λm s=>qz (Gf m) a0 a1 s) (s0:=0) 0 [1,4,7,8] [9] (λs=>[(9,.d (.v (.int .i64 s)))]) (λs=>[]) g ?_;rintro n s1 _ g;change sM (Gf n) a0 a1 s1=_ at g;rw[sM]at g;refine yz ?_
 refine br g λ_ g=>?_;refine yX g dQ λx3 _ _ g=>?_;refine yc g (o.a.H5 _ _) λy5 g=>?_;refine aK g λ_ g=>?_;exact yk (yN _ n ⟨by omega,g⟩)
/-plexus.lattice.spelling-/
theorem aaR {n} (o:Of n):Qx (rj (Gf n)):=by
 intro a0 r g;rw[rj]at g;refine yw func169 ntmps169 ?_;refine yk<|yL (S:=Int×Int) (G:=λm s=>lO (Gf m) a0 s.1 s.2) (s0:=(0,0)) 1 [1,8,9] [2,10] (λs=>[(2,.d (.v (.int .i64 s.1))),(10,.d (.v (.int .i64 s.2)))]) (λs=>[]) g ?_;rintro n ⟨s1,s2⟩ _ g;change pc (Gf n) a0 s1 s2=_ at g;rw[pc]at g;refine yz ?_
 refine ao g (λ_ g=>?_) λ_ g=>?_;refine yX g dQ λx4 _ _ g=>?_;refine yc g (o.a.uK _) λy6 g=>?_;refine aK g λ_ g=>?_;refine ao g (λ_ g=>?_) λ_ g=>?_;obtain⟨x9,ex9,g⟩:=fb g;refine yv (yQ KP ex9) ?_;refine yc g (o.a.Qv _ _) λy11 g=>?_;refine aK g λ_ g=>?_
 iterate 2 (exact yk (yN (_,_) n ⟨by omega,g⟩))
 refine ao g (λ_ g=>?_) λ_ g=>?_;refine yc g (o.a.Fx _) λy14 g=>?_;refine aK g λ_ g=>?_;refine yk<|yL (S:=Int) (G:=λm s=>zT (Gf m) a0 s) (s0:=0) 1 [1,2,8,9,10,42,43] [44] (λs=>[(44,.d (.v (.int .i64 s)))]) (λs=>[]) g ?_;rintro n s16 _ g;change zU (Gf n) a0 s16=_ at g;rw[zU]at g;refine yz ?_
 refine br g λ_ g=>?_;refine yX g aU.aF λx18 _ _ g=>?_;refine aK g λ_ g=>?_;refine yc g (o.a.Fx _) λy21 g=>?_;refine aK g λ_ g=>?_;refine yc g (o.a.Qy _ _) λy23 g=>?_;refine aK g λ_ g=>?_;refine yc g (o.a.H5 _ _) λy25 g=>?_;refine aK g λ_ g=>?_;exact yk (yN _ n ⟨by omega,g⟩);refine yk<|yL (S:=Int) (G:=λm s=>zV (Gf m) a0 s) (s0:=0) 1 [1,2,8,9,10,42,43] [44] (λs=>[(44,.d (.v (.int .i64 s)))]) (λs=>[]) g ?_;rintro n s27 _ g;change zW (Gf n) a0 s27=_ at g;rw[zW]at g;refine yz ?_
 refine br g λ_ g=>?_;refine yX g aU.aF λx29 _ _ g=>?_;refine aK g λ_ g=>?_;refine yc g (o.a.Fx _) λy32 g=>?_;refine aK g λ_ g=>?_;refine yc g (o.a.Qy _ _) λy34 g=>?_;refine aK g λ_ g=>?_;refine yc g (o.a.H5 _ _) λy36 g=>?_;refine aK g λ_ g=>?_;exact yk (yN _ n ⟨by omega,g⟩)
/-plexus.lattice.ranges-/
theorem aaS {n} (o:Of n):Qz (ux (Gf n)):=by
 intro a0 r g;rw[ux]at g;refine yw func170 ntmps170 ?_;refine ao g (λ_ g=>?_) λ_ g=>?_;refine yc g (o.a.b8 _ _) λy2 g=>?_;cases g;exact zl;refine ao g (λ_ g=>?_) λ_ g=>?_;refine yc g (o.a.b8 _ _) λy4 g=>?_;cases g;exact zl;refine ao g (λ_ g=>?_) λ_ g=>?_;refine yc g (o.a.b8 _ _) λy6 g=>?_;cases g;exact zl;refine ao g (λ_ g=>?_) λ_ g=>?_;refine yc g (o.a.b8 _ _) λy8 g=>?_;cases g;exact zl;refine yc g (o.a.b8 _ _) λy9 g=>?_;cases g;exact zl
/-plexus.lattice.Chain-/
theorem aaT {n} (o:Of n):QA (rk (Gf n)):=by
 intro a0 r g;rw[rk]at g;refine yw func216 ntmps216 ?_
 iterate 3 (refine aK g λ_ g=>?_)
 iterate 2 (refine br g λ_ g=>?_)
 refine yX g ah.aF λx6 _ _ g=>?_;refine yc g (o.a.Fy _) λy8 g=>?_;refine br g λ_ g=>?_;refine yX g ah.aF λx10 _ _ g=>?_;refine yc g (o.a.Fy _) λy12 g=>?_;cases g;exact zl
/-plexus.lattice.chains-/
theorem aaU {n} (o:Of n):QB (uy (Gf n)):=by
 intro a0 r g;rw[uy]at g;refine yw func171 ntmps171 ?_;refine ao g (λ_ g=>?_) λ_ g=>?_;refine yX g ah.aF λx2 _ _ g=>?_;refine yc g (o.a.Fy _) λy4 g=>?_;refine yc g (o.a.b8 _ _) λy5 g=>?_;cases g;exact zl;refine yc g (o.a.b8 _ _) λy6 g=>?_;cases g;exact zl
/-cmp.Or[plexus.api.Errno]-/
theorem aaV {n} (o:Of n):QC (rm (Gf n)):=by
 intro a0 r g;rw[rm]at g;refine yw func167 ntmps167 ?_;refine yk<|yL (S:=Int) (G:=λm s=>mK (Gf m) a0 s) (s0:=0) 0 [2,3,6,7] [8] (λs=>[(8,.d (.v (.int .i64 s)))]) (λs=>[]) g ?_;rintro n s1 _ g;change pd (Gf n) a0 s1=_ at g;rw[pd]at g;refine yz ?_
 refine br g λ_ g=>?_;refine yX g KQ λx3 _ _ g=>?_;refine aK g λ_ g=>?_;exact yk (yN _ n ⟨by omega,g⟩)
/-(*plexus.lattice.checker).visit-/
theorem w99 {n} (o:Of n):SK (uL (Gf n)):=by
 intro a0 a1 a2 r g;rw[uL]at g;refine dk.walk (E:=env) func99 rfl zk (rs:=_) rfl ntmps99 rfl (yz ?_)
 iterate 2 (refine aK g λ_ g=>?_)
 refine yc g (o.a.abB _) λy3 g=>?_;refine aK g λ_ g=>?_;refine yo [0,1,2,3,4,5,6,7,8,9,10] [] [] ?_;obtain⟨y5,ey5,g⟩:=ay g (o.a.abC _);refine yl (yC ey5) ?_;obtain⟨y6,ey6,g⟩:=ay g (o.a.abD _);refine yl (yC ey6) ?_;obtain⟨y7,ey7,g⟩:=ay g (o.a.abE _);refine yl (yC ey7) ?_;obtain⟨y8,ey8,g⟩:=ay g (o.a.abF _);refine yl (yC ey8) ?_;obtain⟨y9,ey9,g⟩:=ay g (o.a.abG _);refine yl (yC ey9) ?_;refine aK g λ_ g=>?_;refine yk<|yL (S:=Int×dp) (G:=λm s=>mT (Gf m) a1 a2 s.1 s.2) (s0:=(0,{nodes:=IntKind.i64.wrap (a0.nodes+1):dp})) 2 [0,2,6,47,48] [49] (λs=>[(49,.d (.v (.int .i64 s.1)))]) (λs=>[(0,.box ((dp.cs s.2).map .d))]) g ?_;rintro n ⟨s11,s12⟩ _ g;change py (Gf n) a1 a2 s11 s12=_ at g;rw[py]at g;refine yz ?_
 refine br g λ_ g=>?_;refine yX g ah.aF λx14 _ _ g=>?_;obtain⟨y16,ey16,g⟩:=ay g (o.a.SL _ _ _);refine yk<|ak.ib 0 ey16 rfl rfl (by first|rfl|(simp only[fE];rfl)) rfl (dc.box rfl zi) rfl (yz ?_)
 refine aK g λ_ g=>?_;exact yk (yN (_,_) n ⟨by omega,g⟩)
/-plexus.lattice.Check-/
theorem w54 {n} (o:Of n):SM (uM (Gf n)):=by
 intro a0 r g;rw[uM]at g;refine yw func54 ntmps54 ?_;obtain⟨y1,ey1,g⟩:=ay g (o.a.SL _ _ _);refine yk<|ak.ib 1 ey1 rfl rfl (by first|rfl|(simp only[fE];rfl)) rfl (dc.box rfl zi) rfl (yz ?_)
 cases g;exact zl
/-(plexus.types.describer).valid-/
theorem w67 {n} (o:Of n):C67 (tx (Gf n)):=by
 intro a0 a1 r g;rw[tx]at g;refine yw func67 ntmps67 ?_;refine yp g (o.a.tu _ _) λy1 g=>?_;refine yc g (o.a.Tu _) λy2 g=>?_;refine br g λ_ g=>?_;exact yP g (o.a.fv _ _)
/-slices.Clone[[]string,string]-/
theorem aa7 {n} (o:Of n):QO (wP (Gf n)):=by
 intro a0 r g;rw[wP]at g;refine yw func100 ntmps100 ?_;refine Ok.stuck aW<|ak.ua 3 rfl ?_ ?_
 intro cap h1;replace g:(some ([]))=some r:=(by have h0:a0=[]:=Jv.1 (by have h1:=congrArg List.length h1;simpa only[cj,oP]using h1);subst h0;simpa using g);refine yz ?_;refine yv (aQ.toP (aQ.pQ (et:=9) rfl zk rfl rfl)) ?_;cases g;exact yj;intro ad n0 cap;refine yz ?_;refine yv (aQ.toP (aQ.pQ (et:=9) rfl zk rfl rfl)) ?_;obtain⟨h2,g⟩:=bz g;refine yk<|DO.Ba (rows2:=(aN a0)) rfl rfl zg rfl (b4.refl _) rfl rfl (Kk _) rfl rfl rfl (zo h2) (yz ?_)
 cases g;exact zl
/-slices.Clone[[]plexus.api.Rule,plexus.api.Rule]-/
theorem ZR {n} (o:Of n):PJ (wo (Gf n)):=by
 intro a0 r g;rw[wo]at g;refine jE.walk (E:=env) func115 rfl zk (rs:=_) rfl ntmps115 rfl (yz ?_);refine Ok.stuck aW<|ak.ua 3 rfl ?_ ?_
 intro cap h1;replace g:(some [])=some r:=(by have h0:a0=[]:=Jv.1 (by have h1:=congrArg List.length h1;simpa only[aU.aD,oP]using h1);subst h0;simpa using g);refine yz ?_;refine yv (aQ.toP (aQ.pQ (et:=119) rfl zk rfl rfl)) ?_;refine Ok.fin aW ?_;obtain rfl:=jm g;exact RD.Da rfl rfl (by simp only[fE]);intro ad n0 cap;refine yz ?_;refine yv (aQ.toP (aQ.pQ (et:=119) rfl zk rfl rfl)) ?_;obtain⟨h2,g⟩:=bz g;refine yk<|DO.Ba (rows2:=(aU.rows a0)) rfl rfl zg rfl (b4.refl _) rfl rfl (aU.bU _) rfl rfl rfl (zo h2) (yz ?_)
 refine Ok.fin aW ?_;obtain rfl:=jm g;exact RD.E8 rfl rfl rfl rfl zi
/-slices.Clone[[]plexus.api.aj,plexus.api.aj]-/
theorem ZS {n} (o:Of n):PK (wu (Gf n)):=by
 intro a0 r g;rw[wu]at g;refine jE.walk (E:=env) func116 rfl zk (rs:=_) rfl ntmps116 rfl (yz ?_);refine Ok.stuck aW<|ak.ua 3 rfl ?_ ?_
 intro cap h1;replace g:(some [])=some r:=(by have h0:a0=[]:=Jv.1 (by have h1:=congrArg List.length h1;simpa only[ah.aD,oP]using h1);subst h0;simpa using g);refine yz ?_;refine yv (aQ.toP (aQ.pQ (et:=43) rfl zk rfl rfl)) ?_;refine Ok.fin aW ?_;obtain rfl:=jm g;exact RD.Da rfl rfl (by simp only[fE]);intro ad n0 cap;refine yz ?_;refine yv (aQ.toP (aQ.pQ (et:=43) rfl zk rfl rfl)) ?_;obtain⟨h2,g⟩:=bz g;refine yk<|DO.Ba (rows2:=(ah.rows a0)) rfl rfl zg rfl (b4.refl _) rfl rfl (ah.bU _) rfl rfl rfl (zo h2) (yz ?_)
 refine Ok.fin aW ?_;obtain rfl:=jm g;exact RD.E8 rfl rfl rfl rfl zi
/-plexus.types.copied-/
theorem w66 {n} (o:Of n):SX (xg (Gf n)):=by
 intro a0 r g;rw[xg]at g;refine yw func66 ntmps66 ?_;refine yc g (o.a.QP _) λy1 g=>?_;obtain⟨y2,ey2,g⟩:=ay g (o.a.ZT _);refine yk<|ak.PL ey2 rfl rfl (by first|rfl|(simp only[fE];rfl)) rfl (yz ?_)
 refine yk<|yL (S:=Int×(List aU)) (G:=λm s=>vU (Gf m) a0 y1 y2 s.1 s.2) (s0:=(0,y2)) 3 [1,2,15] [16] (λs=>[(16,.d (.v (.int .i64 s.1)))]) (λs=>[(2,.row 119 2 (aU.rows s.2)),(0,.box [.d (.v (.int .i64 a0.Kind)),.d (.v (.int .i64 a0.Lo)),.d (.v (.int .i64 a0.Hi)),.d (.sl 1 (aN y1)),.d (.sl 6 (ah.rows a0.ax)),.os 2 (aU.rows s.2).length])]) g ?_;rintro n ⟨s3,s9⟩ _ g;change tj (Gf n) a0 y1 y2 s3 s9=_ at g;rw[tj]at g;refine yz ?_
 refine ao g (λ_ g=>?_) λ_ g=>?_;refine yo [] (tk [0,3,6,9,12,15,18,21,24,28,30,33,37]) [] ?_
 iterate 4 (refine yt zp ?_)
 obtain⟨x11,ex11,j12h,g⟩:=a8 g;refine yU zp (yr j12h ex11) ?_;refine yt (dG j12h ex11) ?_;refine yU (dG j12h ex11) (ym s3.toNat 0 (aU.aF ex11)) ?_;refine yd g (o.a.QP _) (by repeat(first|exact aG.nil|refine aG.cons rfl (bg.du (cl:=false) rfl aW) ?_|refine aG.skip rfl ?_|refine aG.cons rfl (yr j12h ex11) ?_|refine aG.cons rfl (ym s3.toNat 0 (aU.aF ex11)) ?_|refine aG.cons rfl (dX (cl:=false) rfl aW) ?_)) λy13 g=>?_;obtain⟨x14,ex14,j15h,g⟩:=a8 g;refine yU (by repeat(first|exact aG.nil|refine aG.cons rfl (bg.du (cl:=false) rfl aW) ?_|refine aG.skip rfl ?_|refine aG.cons rfl (yr j12h ex11) ?_|refine aG.cons rfl (ym s3.toNat 0 (aU.aF ex11)) ?_|refine aG.cons rfl (dX (cl:=false) rfl aW) ?_)) (yr j15h ex14) ?_;refine yt (by repeat(first|exact aG.nil|refine aG.cons rfl (bg.du (cl:=false) rfl aW) ?_|refine aG.skip rfl ?_|refine aG.cons rfl (yr j12h ex11) ?_|refine aG.cons rfl (ym s3.toNat 0 (aU.aF ex11)) ?_|refine aG.cons rfl (yr j15h ex14) ?_|refine aG.cons rfl (dX (cl:=false) rfl aW) ?_)) ?_;refine yk<|ak.qg s3.toNat 0 (by repeat(first|exact aG.nil|refine aG.cons rfl (bg.du (cl:=false) rfl aW) ?_|refine aG.skip rfl ?_|refine aG.cons rfl (yr j12h ex11) ?_|refine aG.cons rfl (ym s3.toNat 0 (aU.aF ex11)) ?_|refine aG.cons rfl (yr j15h ex14) ?_|refine aG.cons rfl (dX (cl:=false) rfl aW) ?_)) (by rfl) (by rfl) (by rfl) (by rfl) (by rfl) (by rfl) (by rfl) (by rfl) zg (by rfl) (yg (aU.aF ex14)) (by rfl) (by rfl) (by rfl) (by rfl) (yz ?_)
 refine yt (by repeat(first|exact aG.nil|refine aG.cons rfl (bg.du (cl:=false) rfl aW) ?_|refine aG.skip rfl ?_|refine aG.cons rfl (yr j12h ex11) ?_|refine aG.cons rfl (ym s3.toNat 0 (aU.aF ex11)) ?_|refine aG.cons rfl (yr j15h ex14) ?_|refine aG.cons rfl (dX (cl:=false) rfl aW) ?_)) ?_;exact yk (yN (_,_) n ⟨by omega,g⟩);obtain⟨y16,ey16,g⟩:=ay g (o.a.ZU _);refine yk<|ak.PL ey16 rfl rfl (by first|rfl|(simp only[fE];rfl)) rfl (yz ?_)
 refine yk<|yL (S:=Int×(List ah)×(List aU)) (G:=λm s=>vV (Gf m) a0 y1 y16 s.1 s.2.1 s.2.2) (s0:=(0,y16,s9)) 4 [1,2,15,16,38] [39] (λs=>[(39,.d (.v (.int .i64 s.1)))]) (λs=>[(3,.row 43 6 (ah.rows s.2.1)),(2,.row 119 2 (aU.rows s.2.2)),(0,.box [.d (.v (.int .i64 a0.Kind)),.d (.v (.int .i64 a0.Lo)),.d (.v (.int .i64 a0.Hi)),.d (.sl 1 (aN y1)),.os 3 (ah.rows s.2.1).length,.os 2 (aU.rows s.2.2).length])]) g ?_;rintro n ⟨s17,s22,s23⟩ _ g;change tm (Gf n) a0 y1 y16 s17 s22 s23=_ at g;rw[tm]at g;refine yz ?_
 refine br g λ_ g=>?_;refine yo [0,1,2,3,4,5,6,7,8,9] [(10,.one)] [] ?_;obtain⟨x25,ex25,j26h,g⟩:=a8 g;refine yl (yr j26h ex25) ?_;refine yl (ym s17.toNat 0 (ah.aF ex25)) ?_;obtain⟨y27,ey27,g⟩:=ay g (o.a.H6 _);refine yl (yC ey27) ?_;obtain⟨x28,ex28,j29h,g⟩:=a8 g;refine yl (yr j29h ex28) ?_;refine yk<|ak.qg s17.toNat 0 aG.nil (by rfl) (by rfl) (by rfl) (by rfl) (by rfl) (by rfl) (by rfl) (by rfl) zg (by rfl) (yg (ah.aF ex28)) (by rfl) (by rfl) (by rfl) (by rfl) (yz ?_)
 exact yk (yN (_,_,_) n ⟨by omega,g⟩)
/-plexus.types.aj-/
theorem w27 {n} (o:Of n):C27 (tF (Gf n)):=by
 intro a0 a1 r g;rw[tF]at g;refine yw func27 ntmps27 ?_;refine yk<|ak.ct (rs:=_) KU rfl rfl func65 rfl zk rfl ntmps65 rfl rfl (yz ?_)
 rcases Xa g with⟨c3,c4,ey1,g⟩|⟨y1,ey1,g⟩
 replace ey1:=(o.a.c67 _ _ _ ey1);refine yk<|ak.Xb ey1 rfl rfl aW (bZ.refl _) (.inr rfl) rfl (yz ?_)
 refine zs g ?_ ?_<;>(clear g;intro h5 g);refine yo [] (tk [0,3,7,10]) [] ?_
 iterate 2 (refine yt zp ?_)
 cases g;exact yj;refine yo [] (tk [0,3,7,10]) [] ?_
 iterate 3 (refine yt zp ?_)
 cases g;exact yj;replace ey1:=(o.a.c67 _ _ _ ey1);refine yv (yC ey1) ?_;refine yc g (o.a.H6 _) λy2 g=>?_;refine yo [] (tk [0,3,7,10]) [] ?_
 iterate 3 (refine yt zp ?_)
 cases g;exact zl
/-plexus.plexusref18.fault-/
theorem w41 {n} (o:Of n):Td (BG (Gf n)):=by
 intro a0 a1 r g;rw[BG]at g;refine yw func41 ntmps41 ?_;cases g;exact zl
/-plexus.plexusref02.Has-/
theorem w42 {n} (o:Of n):Ta (uQ (Gf n)):=by
 intro a0 a1 r g;rw[uQ]at g;refine yw func42 ntmps42 ?_;refine yk<|yL (S:=Int) (G:=λm s=>vY (Gf m) a0 a1 s) (s0:=0) 0 [0,1,4] [5] (λs=>[(5,.d (.v (.int .i64 s)))]) (λs=>[]) g ?_;rintro n s1 _ g;change tz (Gf n) a0 a1 s1=_ at g;rw[tz]at g;refine yz ?_
 refine br g λ_ g=>?_;refine yX g dQ λx3 _ _ g=>?_;refine aK g λ_ g=>?_;exact yk (yN _ n ⟨by omega,g⟩)
/-plexus.plexusref02.Of-/
theorem agG {n} (o:Of n):afx (adI (Gf n)):=by
 intro a0 r g;rw[adI]at g;refine yw func179 ntmps179 ?_;refine yk<|yL (S:=(List (List UInt8))×Int) (G:=λm s=>k7 (Gf m) a0 s.1 s.2) (s0:=([],0)) 1 [0,2] [3,4] (λs=>[(3,.os 0 (aN s.1).length),(4,.d (.v (.int .i64 s.2)))]) (λs=>[(0,.row 9 1 (aN s.1))]) g ?_;rintro n ⟨s1,s2⟩ _ g;change adB (Gf n) a0 s1 s2=_ at g;rw[adB]at g;refine yz ?_
 refine br g λ_ g=>?_;refine yX g dQ λx4 _ _ g=>?_;refine yc g (o.a.xi _ _) λy6 g=>?_;refine ao g (λ_ g=>?_) λ_ g=>?_;exact yk (yN (_,_) n ⟨by omega,g⟩);refine yX g dQ λx8 _ _ g=>?_;obtain⟨h10,g⟩:=bz g;refine yk<|DO.cW rfl rfl zg rfl rfl zg rfl rfl rfl rfl rfl rfl (zo h10) (yz ?_)
 refine yk<|yL (S:=(List (List UInt8))×Int) (G:=λm s=>adT (Gf m) a0 s1 s2 x4 y6 x8 s.1 s.2) (s0:=(s1++[x8],IntKind.i64.wrap ((↑(aN s1++[List.take 1 (AV.v (Value.string {data:={toList:=x8:Array UInt8}:ByteArray})::(List.map AV.v []).append [])]).length:Int)-1))) 2 [0,2,4] [3,5] (λs=>[(3,.os 0 (aN s.1).length),(5,.d (.v (.int .i64 s.2)))]) (λs=>[(0,.row 9 1 (aN s.1))]) g ?_;rintro n ⟨s11,s12⟩ _ g;change adC (Gf n) a0 s1 s2 x4 y6 x8 s11 s12=_ at g;rw[adC]at g;refine yz ?_
 refine yo [0,1,2,3,4,5,6,7,8,9,10,11,12,13] [] [] ?_;refine ao g (λ_ g=>?_) λ_ g=>?_;obtain⟨x14,ex14,j15h,g⟩:=a8 g;refine yl (yr j15h ex14) ?_;refine yl (ym ((IntKind.i64.wrap (s12-1)).toNat) 0 (dQ ex14)) ?_;obtain⟨x16,ex16,j17h,g⟩:=a8 g;refine yl (yr j17h ex16) ?_;refine yl (ym s12.toNat 0 (dQ ex16)) ?_;refine ao g (λ_ g=>?_) λ_ g=>?_;refine yo [] (tk [0,3,6,9,12,15,18,21,24,27,30,33,36,39,42,46,48,52]) [] ?_;obtain⟨x19,ex19,j20h,g⟩:=a8 g;refine yU zp (yr j20h ex19) ?_;refine yU (dG j20h ex19) (ym s12.toNat 0 (dQ ex19)) ?_
 iterate 3 (refine yt (by repeat(first|exact aG.nil|refine aG.cons rfl (bg.du (cl:=false) rfl aW) ?_|refine aG.skip rfl ?_|refine aG.cons rfl (yr j20h ex19) ?_|refine aG.cons rfl (ym s12.toNat 0 (dQ ex19)) ?_|refine aG.cons rfl (dX (cl:=false) rfl aW) ?_)) ?_)
 obtain⟨x21,ex21,j22h,g⟩:=a8 g;refine yU (by repeat(first|exact aG.nil|refine aG.cons rfl (bg.du (cl:=false) rfl aW) ?_|refine aG.skip rfl ?_|refine aG.cons rfl (yr j20h ex19) ?_|refine aG.cons rfl (ym s12.toNat 0 (dQ ex19)) ?_|refine aG.cons rfl (dX (cl:=false) rfl aW) ?_)) (yr j22h ex21) ?_;refine yU (by repeat(first|exact aG.nil|refine aG.cons rfl (bg.du (cl:=false) rfl aW) ?_|refine aG.skip rfl ?_|refine aG.cons rfl (yr j20h ex19) ?_|refine aG.cons rfl (ym s12.toNat 0 (dQ ex19)) ?_|refine aG.cons rfl (yr j22h ex21) ?_|refine aG.cons rfl (dX (cl:=false) rfl aW) ?_)) (ym ((IntKind.i64.wrap (s12-1)).toNat) 0 (dQ ex21)) ?_;obtain⟨x23,ex23,j24h,g⟩:=a8 g;refine yU (by repeat(first|exact aG.nil|refine aG.cons rfl (bg.du (cl:=false) rfl aW) ?_|refine aG.skip rfl ?_|refine aG.cons rfl (yr j20h ex19) ?_|refine aG.cons rfl (ym s12.toNat 0 (dQ ex19)) ?_|refine aG.cons rfl (yr j22h ex21) ?_|refine aG.cons rfl (ym ((IntKind.i64.wrap (s12-1)).toNat) 0 (dQ ex21)) ?_|refine aG.cons rfl (dX (cl:=false) rfl aW) ?_)) (yr j24h ex23) ?_;refine yk<|ak.qg ((IntKind.i64.wrap (s12-1)).toNat) 0 (by repeat(first|exact aG.nil|refine aG.cons rfl (bg.du (cl:=false) rfl aW) ?_|refine aG.skip rfl ?_|refine aG.cons rfl (yr j20h ex19) ?_|refine aG.cons rfl (ym s12.toNat 0 (dQ ex19)) ?_|refine aG.cons rfl (yr j22h ex21) ?_|refine aG.cons rfl (ym ((IntKind.i64.wrap (s12-1)).toNat) 0 (dQ ex21)) ?_|refine aG.cons rfl (yr j24h ex23) ?_|refine aG.cons rfl (dX (cl:=false) rfl aW) ?_)) (by rfl) (by rfl) (by rfl) (by rfl) (by rfl) (by rfl) (by rfl) (by rfl) zg (by rfl) (yg (dQ ex23)) (by rfl) (by rfl) (by rfl) (by rfl) (yz ?_)
 obtain⟨x25,ex25,j26h,g⟩:=a8 g;refine yU (by repeat(first|exact aG.nil|refine aG.cons rfl (bg.du (cl:=false) rfl aW) ?_|refine aG.skip rfl ?_|refine aG.cons rfl (yr j20h ex19) ?_|refine aG.cons rfl (ym s12.toNat 0 (dQ ex19)) ?_|refine aG.cons rfl (yr j22h ex21) ?_|refine aG.cons rfl (ym ((IntKind.i64.wrap (s12-1)).toNat) 0 (dQ ex21)) ?_|refine aG.cons rfl (yr j24h ex23) ?_|refine aG.cons rfl (dX (cl:=false) rfl aW) ?_)) (yr j26h ex25) ?_;refine yk<|ak.qg s12.toNat 0 (by repeat(first|exact aG.nil|refine aG.cons rfl (bg.du (cl:=false) rfl aW) ?_|refine aG.skip rfl ?_|refine aG.cons rfl (yr j20h ex19) ?_|refine aG.cons rfl (ym s12.toNat 0 (dQ ex19)) ?_|refine aG.cons rfl (yr j22h ex21) ?_|refine aG.cons rfl (ym ((IntKind.i64.wrap (s12-1)).toNat) 0 (dQ ex21)) ?_|refine aG.cons rfl (yr j24h ex23) ?_|refine aG.cons rfl (yr j26h ex25) ?_|refine aG.cons rfl (dX (cl:=false) rfl aW) ?_)) (by rfl) (by rfl) (by rfl) (by rfl) (by rfl) (by rfl) (by rfl) (by rfl) zg (by rfl) (yg (dQ ex25)) (by rfl) (by rfl) (by rfl) (by rfl) (yz ?_)
 iterate 3 (exact yk (yN (_,_) n ⟨by omega,g⟩))
/-plexus.plexusref18.quoted-/
theorem agH {n} (o:Of n):afy (adJ (Gf n)):=by
 intro a0 r g;rw[adJ]at g;refine yw func118 ntmps118 ?_;refine Ok.stuck aW ?_;refine ak.km 2 9 1 2 rfl rfl ?_;refine yL (S:=(List (List UInt8))×(List (List UInt8))×Int) (G:=λm s=>adU (Gf m) a0 s.1 s.2.1 s.2.2) (s0:=([],[],0)) 3 [0,3] [2,4,5] (λs=>[(2,.os 2 (aN s.1).length),(4,.os 1 (aN s.2.1).length),(5,.d (.v (.int .i64 s.2.2)))]) (λs=>[(2,.row 9 1 (aN s.1)),(1,.row 9 1 (aN s.2.1))]) g ?_;rintro n ⟨s1,s2,s3⟩ _ g;change adD (Gf n) a0 s1 s2 s3=_ at g;rw[adD]at g;refine yz ?_;refine ao g (λ_ g=>?_) λ_ g=>?_;refine yX g ab.aF λx5 _ _ g=>?_;refine yc g (o.a.xi _ _) λy7 g=>?_;refine ao g (λ_ g=>?_) λ_ g=>?_;refine yX g ab.aF λx9 _ _ g=>?_;refine yc g (o.a.dv _ _) λy11 g=>?_;cases g;exact yj;refine yX g ab.aF λx12 _ _ g=>?_;obtain⟨h14,g⟩:=bz g;refine yk<|DO.cW rfl rfl zg rfl rfl zg rfl rfl rfl rfl rfl rfl (zo h14) (yz ?_)
 exact yk (yN (_,_,_) n ⟨by omega,g⟩);refine yk<|ak.cH (t:=34) rfl rfl (eo rfl aW) (yz ?_)
 refine yc g (o.a.agK _) λy16 g=>?_;cases g;exact zl
/-plexus.plexusref18.describe-/
set_option maxHeartbeats 0 in
theorem w68 {n} (o:Of n):C68 (iu (Gf n)):=by
 intro a0 a1 r g;rw[iu]at g;refine yw func68 ntmps68 ?_;refine ao g (λ_ g=>?_) λ_ g=>?_;refine yk<|yL (S:=Int) (G:=λm s=>o6 (Gf m) a0 a1 s) (s0:=0) 5 [0,3,4,5,6,7] [9] (λs=>[(9,.d (.v (.int .i64 s)))]) (λs=>[]) g ?_;rintro n s2 _ g;change adE (Gf n) a0 a1 s2=_ at g;rw[adE]at g;refine yz ?_
 refine ao g (λ_ g=>?_) λ_ g=>?_;refine yo [0,1,2,3,4,5,6,7] [] [] ?_;refine yY g bt.aF λx4 _ _ g=>?_;refine ao g (λ_ g=>?_) λ_ g=>?_;refine yo [] (tk [0,3,6,9,12,15,19,22]) [] ?_;obtain⟨x7,ex7,j8h,g⟩:=a8 g;refine yu zp (yi j8h (bt.aF ex7)) ?_
 iterate 2 (refine yt zp ?_)
 cases g;exact zl;exact yk (yN _ n ⟨by omega,g⟩);refine yo [0,1,2,3] (tk [13,16]) [] ?_;obtain⟨y9,ey9,g⟩:=ay g (o.a.dv _ _);refine yl (yC ey9) ?_;cases g;exact yj;refine ao g (λ_ g=>?_) λ_ g=>?_;refine yo [] (tk [0,3,7,10]) [] ?_
 iterate 3 (refine yt zp ?_)
 cases g;exact yj;refine ao g (λ_ g=>?_) λ_ g=>?_;refine yo [] (tk [0,3,7,10]) [] ?_
 iterate 3 (refine yt zp ?_)
 cases g;exact yj;refine ao g (λh12 g=>?_) λ_ g=>?_;refine yF h12 ?_;refine yo [] (tk [0,3,6,9,12,15,18,21,24,28,30,34]) [] ?_;obtain⟨x13,ex13,j14h,g⟩:=a8 g;refine yu zp (yi j14h (ab.aF ex13)) ?_;obtain⟨x15,ex15,j16h,g⟩:=a8 g;refine yu zp (yi j16h (ab.aF ex15)) ?_;refine yo [] (tk [0,3,7,10]) [] ?_
 iterate 3 (refine yt zp ?_)
 cases g;exact yj;refine ao g (λh17 g=>?_) λ_ g=>?_;refine Ok.eH h17 ?_;conv=>(arg 3;whnf)
 refine yo [] (tk [0,3,6,9,12,15,18,21,24,28,30,34]) [] ?_;obtain⟨x18,ex18,j19h,g⟩:=a8 g;refine yu zp (yi j19h (ab.aF ex18)) ?_;obtain⟨x20,ex20,j21h,g⟩:=a8 g;refine yu zp (yi j21h (ab.aF ex20)) ?_;refine yo [] (tk [0,3,7,10]) [] ?_
 iterate 3 (refine yt zp ?_)
 cases g;exact yj;refine ao g (λh22 g=>?_) λ_ g=>?_;refine yF h22 ?_;refine yc g (o.a.tv _) λy23 g=>?_;refine yo [] (tk [0,3,7,10]) [] ?_
 iterate 3 (refine yt zp ?_)
 cases g;exact yj;refine ao g (λh24 g=>?_) λ_ g=>?_;refine Ok.eH h24 ?_;conv=>(arg 3;whnf)
 refine yc g (o.a.tv _) λy25 g=>?_;refine yo [] (tk [0,3,7,10]) [] ?_
 iterate 3 (refine yt zp ?_)
 cases g;exact yj;refine ao g (λ_ g=>?_) λ_ g=>?_;obtain⟨x27,ex27,g⟩:=fb g;refine yv (yQ ab.bS ex27) ?_;refine yc g (o.a.tv _) λy29 g=>?_;refine ao g (λ_ g=>?_) λ_ g=>?_;refine yX g ab.aF λx31 _ _ g=>?_;refine yc g (o.a.c68 _ _) λy33 g=>?_;refine yo [] (tk [0,3,6,9,13,16]) [] ?_
 iterate 5 (refine yt zp ?_)
 refine yo [] (tk [0,3,7,10]) [] ?_
 iterate 3 (refine yt zp ?_)
 cases g;exact yj;refine yo [] (tk [0,3,7,10]) [] ?_
 iterate 3 (refine yt zp ?_)
 cases g;exact yj;refine ao g (λ_ g=>?_) λ_ g=>?_;refine Ok.stuck aW ?_;refine ak.fP 3 4 43 6 5 rfl rfl rfl ?_;refine yL (S:=Int×(List ah)×aM) (G:=λm s=>o7 (Gf m) a0 a1 s.1 s.2.1 s.2.2) (s0:=(0,[],aM.z)) 6 [0,4,5,6,7,8] [12] (λs=>[(12,.d (.v (.int .i64 s.1)))]) (λs=>[(5,.row 43 6 (ah.rows s.2.1)),(4,.box ((aM.cs s.2.2).map .d)),(3,.box [.d (.v (.int .i64 7)),.d (.v (.int .i64 0)),.d (.v (.int .i64 0)),.d (.v (.slice none 0 0)),.os 5 (ah.rows s.2.1).length,.d (.v (.slice none 0 0))])]) g ?_;rintro n ⟨s35,s40,s42⟩ _ g;change n5 (Gf n) a0 a1 s35 s40 s42=_ at g;rw[n5]at g;refine yz ?_
 iterate 2 (refine ao g (λ_ g=>?_) λ_ g=>?_)
 refine yX g ab.aF λx45 _ _ g=>?_;refine yc g (o.a.c68 _ _) λy47 g=>?_;refine yo [] (tk [0,3,6,9,15,13,18,22,25]) [] ?_
 iterate 3 (refine yt zp ?_)
 obtain⟨h48,g⟩:=bz g;refine yk<|ak.cR (rows2:=(ah.rows ([y47.fst]))) zp rfl rfl rfl rfl rfl zg rfl zi rfl rfl (ah.bU _) rfl rfl (zo h48) (yz ?_)
 iterate 3 (refine yt zp ?_)
 exact yk (yN (_,_,_) n ⟨by omega,g⟩);refine yo [] (tk [0,3,7,10]) [] ?_
 iterate 3 (refine yt zp ?_)
 cases g;exact yj;refine yo [] (tk [0,3,7,10]) [] ?_
 iterate 3 (refine yt zp ?_)
 cases g;exact yj;refine ao g (λ_ g=>?_) λ_ g=>?_;refine Ok.stuck aW ?_;refine ak.fP 3 3 9 1 5 rfl rfl rfl ?_;refine ak.fP 3 4 43 6 6 rfl rfl rfl ?_;refine yL (S:=Int×(List (List UInt8))×(List ah)×aM) (G:=λm s=>adF (Gf m) a0 a1 s.1 s.2.1 s.2.2.1 s.2.2.2) (s0:=(0,[],[],aM.z)) 7 [0,4,5,6,7,8] [15] (λs=>[(15,.d (.v (.int .i64 s.1)))]) (λs=>[(5,.row 9 1 (aN s.2.1)),(6,.row 43 6 (ah.rows s.2.2.1)),(4,.box ((aM.cs s.2.2.2).map .d)),(3,.box [.d (.v (.int .i64 6)),.d (.v (.int .i64 0)),.d (.v (.int .i64 0)),.os 5 (aN s.2.1).length,.os 6 (ah.rows s.2.2.1).length,.d (.v (.slice none 0 0))])]) g ?_;rintro n ⟨s50,s54,s55,s57⟩ _ g;change s6 (Gf n) a0 a1 s50 s54 s55 s57=_ at g;rw[s6]at g;refine yz ?_
 iterate 2 (refine ao g (λ_ g=>?_) λ_ g=>?_)
 refine yo [0,1,2,3,4,5,6,7] [] [] ?_;refine yY g ab.aF λx60 _ _ g=>?_;obtain⟨y62,ey62,g⟩:=ay g (o.a.xi _ _);refine yl (yC ey62) ?_;refine ao g (λ_ g=>?_) λ_ g=>?_;refine yo [0,1,2,3,4,5,6] (tk [22,25]) [] ?_;refine yY g ab.aF λx64 _ _ g=>?_;obtain⟨y66,ey66,g⟩:=ay g (o.a.dv _ _);refine yl (yC ey66) ?_;cases g;exact yj;refine yX g ab.aF λx67 _ _ g=>?_;refine yX g ab.aF λx69 _ _ g=>?_;refine yc g (o.a.c68 _ _) λy71 g=>?_;refine yo [] (tk [0,3,6,9,12,15,18,21,27,30,33,36,42,25,45,40,49,51,55,58]) [] ?_
 iterate 2 (refine yt zp ?_)
 obtain⟨x72,ex72,j73h,g⟩:=a8 g;refine yu zp (yi j73h (ab.aF ex72)) ?_
 iterate 8 (refine yt zp ?_)
 obtain⟨h74,g⟩:=bz g;refine yk<|ak.cR (rows2:=(aN ([x72.Text]))) zp rfl rfl rfl rfl rfl zg rfl zi rfl rfl (Kk _) rfl rfl (zo h74) (yz ?_)
 refine yt zp ?_;obtain⟨h75,g⟩:=bz g;refine yk<|ak.cR (rows2:=(ah.rows ([y71.fst]))) zp rfl rfl rfl rfl rfl zg rfl zi rfl rfl (ah.bU _) rfl rfl (zo h75) (yz ?_)
 iterate 4 (refine yt zp ?_)
 exact yk (yN (_,_,_,_) n ⟨by omega,g⟩);refine yo [] (tk [0,3,7,10]) [] ?_
 iterate 3 (refine yt zp ?_)
 cases g;exact yj;refine yo [] (tk [0,3,7,10]) [] ?_
 iterate 3 (refine yt zp ?_)
 cases g;exact yj;refine ao g (λ_ g=>?_) λ_ g=>?_;refine yk<|yL (S:=Int) (G:=λm s=>s7 (Gf m) a1 s) (s0:=0) 5 [4,5,6,7,8] [18] (λs=>[(18,.d (.v (.int .i64 s)))]) (λs=>[]) g ?_;rintro n s77 _ g;change adG (Gf n) a1 s77=_ at g;rw[adG]at g;refine yz ?_
 refine ao g (λ_ g=>?_) λ_ g=>?_;refine yX g ab.aF λx79 _ _ g=>?_;refine ao g (λ_ g=>?_) λ_ g=>?_;exact yk (yN _ n ⟨by omega,g⟩);obtain⟨x82,ex82,g⟩:=fb g;refine yv (yQ ab.bS ex82) ?_;refine yc g (o.a.tv _) λy84 g=>?_;refine Ok.stuck aW ?_;refine ak.fP 3 5 119 2 5 rfl rfl rfl ?_;refine yL (S:=Int×(List aU)×aM) (G:=λm s=>adW (Gf m) a1 y84 s.1 s.2.1 s.2.2) (s0:=(s77,[],y84.snd)) 6 [4,5,6,7,8] [18] (λs=>[(18,.d (.v (.int .i64 s.1)))]) (λs=>[(5,.row 119 2 (aU.rows s.2.1)),(4,.box ((aM.cs s.2.2).map .d)),(3,.box [.d (.v (.int .i64 10)),.d (.v (.int .i64 0)),.d (.v (.int .i64 0)),.d (.sl 1 (aN y84.fst)),.d (.v (.slice none 0 0)),.os 5 (aU.rows s.2.1).length])]) g ?_;rintro n ⟨s85,s91,s92⟩ _ g;change adX (Gf n) a1 y84 s85 s91 s92=_ at g;rw[adX]at g;refine yz ?_
 iterate 2 (refine ao g (λ_ g=>?_) λ_ g=>?_)
 refine yX g ab.aF λx95 _ _ g=>?_;refine yX g ab.aF λx97 _ _ g=>?_;obtain⟨x99,ex99,g⟩:=fb g;refine yv (yQ ab.bS ex99) ?_;refine yc g (o.a.tv _) λy101 g=>?_;refine yo [] (tk [0,3,6,9,12,15,18,21,24,27,30,33,36,39,45,43,48,52,55]) [] ?_
 iterate 3 (refine yt zp ?_)
 obtain⟨x102,ex102,j103h,g⟩:=a8 g;refine yu zp (yi j103h (ab.aF ex102)) ?_
 iterate 3 (refine yt zp ?_)
 obtain⟨x104,ex104,j105h,g⟩:=a8 g;refine yu zp (yi j105h (ab.aF ex104)) ?_
 iterate 5 (refine yt zp ?_)
 obtain⟨h106,g⟩:=bz g;refine yk<|ak.cR (rows2:=(aU.rows ([{If:=y101.fst,eP:=x104.Text:aU}]))) zp rfl rfl rfl rfl rfl zg rfl zi rfl rfl (aU.bU _) rfl rfl (zo h106) (yz ?_)
 iterate 3 (refine yt zp ?_)
 exact yk (yN (_,_,_) n ⟨by omega,g⟩);refine yo [] (tk [0,3,7,10]) [] ?_
 iterate 3 (refine yt zp ?_)
 cases g;exact yj;refine yo [] (tk [0,3,7,10]) [] ?_
 iterate 3 (refine yt zp ?_)
 cases g;exact yj;obtain⟨x107,ex107,g⟩:=fb g;refine yv (yQ ab.bS ex107) ?_;refine yc g (o.a.tv _) λy109 g=>?_;refine Ok.stuck aW ?_;refine ak.fP 3 5 119 2 5 rfl rfl rfl ?_;refine yL (S:=Int×(List aU)×aM) (G:=λm s=>adY (Gf m) a1 y109 s.1 s.2.1 s.2.2) (s0:=(s77,[],y109.snd)) 6 [4,5,6,7,8] [18] (λs=>[(18,.d (.v (.int .i64 s.1)))]) (λs=>[(5,.row 119 2 (aU.rows s.2.1)),(4,.box ((aM.cs s.2.2).map .d)),(3,.box [.d (.v (.int .i64 10)),.d (.v (.int .i64 0)),.d (.v (.int .i64 0)),.d (.sl 1 (aN y109.fst)),.d (.v (.slice none 0 0)),.os 5 (aU.rows s.2.1).length])]) g ?_;rintro n ⟨s110,s116,s117⟩ _ g;change adZ (Gf n) a1 y109 s110 s116 s117=_ at g;rw[adZ]at g;refine yz ?_
 iterate 2 (refine ao g (λ_ g=>?_) λ_ g=>?_)
 refine yX g ab.aF λx120 _ _ g=>?_;refine yX g ab.aF λx122 _ _ g=>?_;obtain⟨x124,ex124,g⟩:=fb g;refine yv (yQ ab.bS ex124) ?_;refine yc g (o.a.tv _) λy126 g=>?_;refine yo [] (tk [0,3,6,9,12,15,18,21,24,27,30,33,36,39,45,43,48,52,55]) [] ?_
 iterate 3 (refine yt zp ?_)
 obtain⟨x127,ex127,j128h,g⟩:=a8 g;refine yu zp (yi j128h (ab.aF ex127)) ?_
 iterate 3 (refine yt zp ?_)
 obtain⟨x129,ex129,j130h,g⟩:=a8 g;refine yu zp (yi j130h (ab.aF ex129)) ?_
 iterate 5 (refine yt zp ?_)
 obtain⟨h131,g⟩:=bz g;refine yk<|ak.cR (rows2:=(aU.rows ([{If:=y126.fst,eP:=x129.Text:aU}]))) zp rfl rfl rfl rfl rfl zg rfl zi rfl rfl (aU.bU _) rfl rfl (zo h131) (yz ?_)
 iterate 3 (refine yt zp ?_)
 exact yk (yN (_,_,_) n ⟨by omega,g⟩);refine yo [] (tk [0,3,7,10]) [] ?_
 iterate 3 (refine yt zp ?_)
 cases g;exact yj;refine yo [] (tk [0,3,7,10]) [] ?_
 iterate 3 (refine yt zp ?_)
 cases g;exact yj;refine yo [] (tk [0,3,7,10]) [] ?_
 iterate 3 (refine yt zp ?_)
 cases g;exact yj
