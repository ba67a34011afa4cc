/- Sizes of expressions. -/
import Derived.Test.YtnocmolegijmkaaGreatKDa
import Derived.Test.YtnocmolegijmkaaGreatKGA3
import Derived.Test.YtnocmolegijmkaaGreatKVa9
import Derived.Test.YtnocmolegijmkaaGreatKSa
import Derived.Test.YtnocmolegijmkaaGreatKAw
import Derived.Test.YtnocmolegijmkaaGreatKGk
set_option linter.all false
namespace Go.Proofs.YtnocmolegijmkaaGreat
open Go Go.Bw
theorem Hh:∀{ks:List ab} {k:ab},k∈ks->cM k<=cd ks
 |q::ks,k,h=>by
  rw[cd];rcases cu.1 h with rfl|h
  ·omega
  ·have:=Hh h;omega
theorem AY:∀{a b:List ab},cd (a++b)=cd a+cd b
 |[],b=>by simp[cd]
 |x::a,b=>by rw[iO,cd,cd,AY];omega
theorem GC {ks:List ab} {i:Nat} {k:ab} (h:ks[i]? =some k):cd (ks.take (i+1))=cd (ks.take i)+cM k:=by
 rw[Nd,h,AY];simp[cd]
theorem Nw {ks:List ab} {i:Nat}:cd (ks.take i)<=cd ks:=by
 have:cd ks=cd (ks.take i)+cd (ks.drop i):=by rw[<-AY,z6]
 omega
theorem P9:∀(x:ab) (k:Int),k<=1000000-> -1<=k->ah ((vc Pu) x k) (λr=>r<=k/\ -1<=r/\(0<=r->(cM x:Int)+r<=k)):=by
 refine ab.ind λx ih k hk hk0=>?_;rw[Xp,u2];simp only[ab.aH];refine ah.bif (λh=>ah.ret ⟨by omega,by omega,λh=>by omega⟩) (λh1=>?_);have h1:1<=k:=by simpa using h1
 refine ah.bif (λh=>ah.ret ⟨by omega,by omega,λh=>by omega⟩) (λh2=>?_);have h2:(x.Kids.length:Int)<=k:=by simpa using h2
 rw[wrap64 (by omega) (by omega)];refine iU (L:=λi s=>(oM Pu) x s i) (P:=λr=>r<=k/\ -1<=r/\(0<=r->(cM x:Int)+r<=k)) (len:=x.Kids.length) (λi s=>s<=k/\ -1<=s/\(0<=s->(1:Int)+cd (x.Kids.take i)+s<=k)) (λi s hi hI kk=>?_) (λs hI=>?_) 0 (k-1) (by omega) ⟨by omega,by omega,λ_=>by simp[cd];omega⟩
 ·show ah ((oM Pu) x s i) _;obtain⟨y,hy⟩:=bu hi;have ht:=GC hy;have:decide (i<x.Kids.length)=true:=by simpa using hi
  rw[Jo,qM];simp only[ab.aH];rw[bq,this,a6];refine ah.bif (λh=>?_) (λh=>ah.ret ⟨hI.1,hI.2.1,λg=>?_⟩)
  ·have h:0<=s:=by simpa using h
   rw[bw hy,aE,cw i (by omega)];refine ah.bind (ih y (br hy) s (by omega) (by omega)) (λr hr=>kk r ⟨by omega,hr.2.1,λg=>?_⟩);have:=hr.2.2 g;have:=hI.2.2 h;omega
  ·have h:¬0<=s:=by simpa using h
   omega
 ·show ah ((oM Pu) x s x.Kids.length) _;have:decide (x.Kids.length<x.Kids.length)=false:=by simp
  rw[kH]at hI;rw[Jo,qM];simp only[ab.aH];rw[bq,this,bl];exact ah.ret ⟨hI.1,hI.2.1,λg=>by rw[iV];have:=hI.2.2 g;omega⟩
theorem OA (x:ab) {k:Int} (hk:k<=1000000) (hk0: -1<=k):ah ((zj Pu) x k) (λr=>r=true->(cM x:Int)<=k):=by
 rw[Xq,u3];refine ah.bind (P9 x k hk hk0) (λr hr=>ah.ret λh=>?_);have h:0<=r:=by simpa using h
 have:=hr.2.2 h;omega
theorem R3:(zm Pu) ⟨0,[],[],[]⟩ 40=some true:=by
 have e1:(tK Pu) ⟨0,[],[],[]⟩ 39 0=some 39:=by rw[RF,tM];rfl
 have e2:(tI Pu) ⟨0,[],[],[]⟩ 39 0 0=some 39:=by rw[RG,tJ];exact e1
 have e3:(vd Pu) ⟨0,[],[],[]⟩ 40=some 39:=by rw[Xr,u4];exact e2
 rw[Xs,u5,e3];rfl
theorem Oo (f:bA):ah ((u8 Pu) f ⟨0,[],[],[]⟩ []) (λr=>r=true->cM f.Body<=60):=by
 rw[e8,B8];refine ah.bind (OA f.Body (k:=60) (by decide) (by decide)) (λy hy=>ah.bif (λ_=>ah.ret λh=>by cases h) (λh=>?_));have hy:=hy (by simpa using h);rw[R3,aE];refine ah.bif (λ_=>ah.ret λh=>by cases h) (λ_=>ah.bif (λ_=>ah.ret λh=>by cases h) (λ_=>ah.bif (λ_=>ah.ret λh=>by cases h) (λ_=>?_)));rw[TW,uc];exact ah.ret λ_=>by omega
theorem size_eq {B:Nat} (hB:B<=1048576):∀x:ab,x.ok B->cM x<=1000000->(pH Pu) x=some (cM x:Int):=by
 refine ab.ind λx ih hx hk=>?_;have hl:x.Kids.length<=B:=((ab.cY x).1 hx).2.2.2.2.2.1;have hc:=iV x;rw[XL,sm];refine ah.of (iU (L:=λi s=>(oP Pu) x s i) (P:=(·=(cM x:Int))) (len:=x.Kids.length) (λi s=>s=1+(cd (x.Kids.take i):Int)) (λi s hi hI k=>?_) (λs hI=>?_) 0 1 (by omega) rfl)
 ·show ah ((oP Pu) x s i) _;obtain⟨y,hy⟩:=bu hi;have hm:=br hy;have h1:=Hh hm;have h2:=GC hy;have h3:= @Nw x.Kids (i+1);have:decide (i<x.Kids.length)=true:=by simpa using hi
  rw[Jx,qW,ab.aH,bq,this,a6,bw hy,aE,ih y hm (ab.gO ((ab.cY x).1 hx).2.2.2.2.2.2 hm) (by omega),aE,wrap64 (by omega) (by omega),cw i (by omega)];exact k _ (by omega)
 ·show ah ((oP Pu) x s x.Kids.length) _;rw[kH]at hI;have:decide (x.Kids.length<x.Kids.length)=false:=by simp
  rw[Jx,qW,ab.aH,bq,this,bl];exact ah.ret (by omega)
def mz (l:ai):ab:=⟨5,bY l,0,[],0,[]⟩
noncomputable def iG (l:ai) (f:bA):bA:=⟨f.Name,f.On,f.Params,f.Result,bM cp (mz l) f.Body⟩
theorem O5 (l:ai):lP (mz l):=by simp[lP,mz]
theorem PV (l:ai) (f:bA):iG l (iG l f)=iG l f:=by
 show bA.mk _ _ _ _ _=bA.mk _ _ _ _ _;rw[show(iG l f).Body=bM cp (mz l) f.Body from rfl,QT (λ_ _ h=>RY h) _ _ (O5 l)];rfl
section
variable {B:Nat} (hB:B<=1048576)
include hB
theorem PW {f:bA} (hf:f.Params.length<=B) (he:(pQ Pu) f.Body f.Body=some true):(pG Pu) f f=some true:=by
 have hloop:(nH Pu) f f 0=some true:=by
  refine ah.of (mj (L:=λi=>(nH Pu) f f i) (P:=(·=true)) (len:=f.Params.length) (λ_=>True) (λi hi _ k=>?_) (λ_=>?_) 0 (by omega) trivial)
  ·show ah ((nH Pu) f f i) _;obtain⟨x,hx⟩:=bu hi;have:decide (i<f.Params.length)=true:=by simpa using hi
   rw[Jw,qV,TParam.aH,bq,this,a6,bw hx,aE,aE,cw i (by omega)];simp only[beq_self_eq_true,Bool.and_self,pY,bl];exact k trivial
  ·show ah ((nH Pu) f f f.Params.length) _;have:decide (f.Params.length<f.Params.length)=false:=by simp
   rw[Jw,qV,TParam.aH,bq,this,bl];exact ah.ret rfl
 rw[XK,vo,he,hloop];simp only[beq_self_eq_true,pY,bl,bne_self_eq_false,aE]
variable {l:ai} {f:bA} (hl:l.ok B) (hf:f.ok B)
include hl hf
theorem VX.parts (h:VX l f) (h0:f.Result=0):CE B ⟨l,f.Params⟩/\TT B f.Body/\W l f.Params f.Body (bY l):=by
 obtain⟨hce,_,htt⟩:=h.ce hB hl hf;have e:ja l f=bY l:=by unfold ja;rw[h0];rfl
 exact⟨hce,htt,e▸h.2.2⟩
theorem QP (h:VX l f) (h0:f.Result=0):VX l (iG l f):=by
 obtain⟨hce,htt,hw⟩:=h.parts hB hl hf h0;have e:ja l (iG l f)=bY l:=by unfold ja;rw[show(iG l f).Result=0 from h0];rfl
 refine⟨h.1,h.2.1,?_⟩;rw[e];exact T0 hce hw (a7.of h.1 hl) rfl (mz l)
omit hl in
theorem QQ:(iG l f).ok B:=by
 obtain⟨h1,h2,h3,h4,h5⟩:=hf;exact⟨h1,h2,h3,h4,JY _ h5 _⟩
theorem QS (h:VX l f):(pG Pu) f f=some true:=by
 obtain⟨_,_,htt⟩:=h.ce hB hl hf;refine PW hB hf.2.2.1.1 ?_;rw[Oq hB f.Body htt f.Body hf.2.2.2.2];simp[cB]
theorem QU (h:VX l f):TT B (mz l):= .mk (a7.of h.1 hl) (λk hk=>by simp[mz]at hk)
theorem Gy:ah ((u9 Pu) l f) (λr=>(VX l f/\f.Result=0->r=(iG l f,0))/\(¬(VX l f/\f.Result=0)->r=(bA.z,1))):=by
 rw[e9,B9];refine ah.bind (AO hB hl hf) (λy hy=>ah.bif (λg=>ah.ret ⟨λh=>?_,λ_=>rfl⟩) (λg=>ah.bif (λg2=>ah.ret ⟨λh=>?_,λ_=>rfl⟩) (λg2=>?_)))
 ·rw[hy.2 h.1]at g;cases g
 ·rw[h.2]at g2;cases g2
 ·have hv:=hy.1 (by simpa using g);have h0:f.Result=0:=by simpa using g2
  obtain⟨hce,htt,hw⟩:=hv.parts hB hl hf h0;have hb:=hf.2.2.2.2;have hp:=hf.2.2.1.1;have ed:(jo Pu) ⟨5,⟨0,l⟩,0,[],0,[]⟩ f.Body=some (bM cp (mz l) f.Body):=O6 hB hce hw (a7.of hv.1 hl) rfl hb htt (mz l) (QU hB hl hf hv) rfl;rw[show(zw Pu) f.Params=some f.Params by rw[XD];exact wI (by omega),aE,ed,aE,Ot hB _ (JY _ hb _)];exact ah.ret ⟨λ_=>rfl,λh=>absurd ⟨hv,h0⟩ h⟩
end
theorem N0 {B:Nat} (hB:B<=1048576) {l:ai} {f:bA} (hl:l.ok B) (hf:f.ok B):(f4 Pf) l f=some true:=by
 rw[e4,B4,Wj,LX,Wk,x7,x8,x9,Sf,aE,pY,bl];refine ah.of (ah.bind (Oo f) (λy hy=>ah.bif (λ_=>ah.ret rfl) (λe1=>ah.bif (λ_=>ah.ret rfl) (λg0=>?_))));have hc:=hy (by simpa using e1);have h0:f.Result=0:=by simpa using g0
 refine ah.bind (AO hB hl hf) (λy2 h2=>ah.bif (λ_=>ah.ret rfl) (λe2=>?_));have hv:=h2.1 (by simpa using e2);have hv':=QP hB hl hf hv h0;have hf':=QQ hB hf (l:=l);obtain⟨r,e,h1,_⟩:=Gy hB hl hf;rw[h1 ⟨hv,h0⟩]at e;obtain⟨b,eb,h3⟩:=AO hB hl hf';rw[h3.2 hv']at eb;obtain⟨s,es,h4,_⟩:=Gy hB hl hf';rw[h4 ⟨hv',h0⟩,PV]at es;have hcnt:cM (iG l f).Body<=cM f.Body:=QR _ _;rw[e,aE];show ah (bif (0:Int) !=0 then _ else _) _;refine ah.bif (λh=>by cases h) (λ_=>?_);show ah (((l7 Pu) l (iG l f)).bind _) _;rw[eb,aE];refine ah.bif (λh=>by cases h) (λ_=>?_);show ah (((pH Pu) (iG l f).Body).bind _) _;rw[size_eq hB _ hf'.2.2.2.2 (by omega),aE,size_eq hB _ hf.2.2.2.2 (by omega),aE];refine ah.bif (λh=>?_) (λ_=>?_)
 ·simp at h;omega
 show ah (((u9 Pu) l (iG l f)).bind _) _;rw[es,aE];refine ah.bif (λ_=>?_) (λh=>by cases h);show ah (((pG Pu) (iG l f) (iG l f)).bind _) _;rw[QS hB hl hf' hv',aE];exact ah.ret rfl
set_option maxRecDepth 100000 in
theorem Nk (xs:List AV) (h:qJ Tryz.prog 1048576 Tryz.f4.params.toList xs):Bw.Pure env.toCx 4 xs (.ret (J5 true)):=by
 rw[Tryz.params4]at h;obtain⟨x,r,rfl,hx,x2,r2,rfl,hx2,hr⟩:=h;simp only[qJ]at hr;subst hr;simp only[mu,Tryz.underlying26,Tryz.underlying34]at hx hx2;obtain⟨n,row,hx,rfl⟩:=hx;obtain⟨n2,row2,hx2,rfl⟩:=hx2;obtain⟨l,rfl,hl⟩:=ai.sh _ _ hx;obtain⟨f,rfl,hf⟩:=bA.sh _ _ hx2;exact p4 _ _ _ (N0 (bC _) hl hf)
