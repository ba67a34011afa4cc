/- Sizes, and arguments that fit. -/
import Derived.Test.YtnocmolegijmkaaGreatKKl
set_option linter.all false
namespace Go.Proofs.YtnocmolegijmkaaGreat
open Go Go.Bw
theorem ady:∀(x:ab) (k:Int),k<=1000000-> -1<=k->ae ((f48 Pf) x k) (λr=>r<=k/\ -1<=r/\(0<=r->(bI x:Int)+r<=k)):=by
 refine ab.ind λx ih k hk hk0=>?_;rw[e48,CH];simp only[ab.aH];refine ae.bif (λh=>ae.ret ⟨by omega,by omega,λh=>by omega⟩) (λh1=>?_);have h1:1<=k:=by simpa using h1
 refine ae.bif (λh=>ae.ret ⟨by omega,by omega,λh=>by omega⟩) (λh2=>?_);have h2:(x.Kids.length:Int)<=k:=by simpa using h2
 rw[wrap64 (by omega) (by omega)];refine eo (L:=λi s=>(rX Pf) x s i) (P:=λr=>r<=k/\ -1<=r/\(0<=r->(bI x:Int)+r<=k)) (len:=x.Kids.length) (λi s=>s<=k/\ -1<=s/\(0<=s->(1:Int)+b8 (x.Kids.take i)+s<=k)) (λi s hi hI kk=>?_) (λs hI=>?_) 0 (k-1) (by omega) ⟨by omega,by omega,λ_=>by simp[b8];omega⟩
 ·show ae ((rX Pf) x s i) _;obtain⟨y,hy⟩:=bo hi;have ht:=P0 hy;have:decide (i<x.Kids.length)=true:=by simpa using hi
  rw[U1,vD];simp only[ab.aH];rw[a7,this,aB];refine ae.bif (λh=>?_) (λh=>ae.ret ⟨hI.1,hI.2.1,λg=>?_⟩)
  ·have h:0<=s:=by simpa using h
   rw[bf hy,au,bW i (by omega)];refine ae.bind (ih y (aV hy) s (by omega) (by omega)) (λr hr=>kk r ⟨by omega,hr.2.1,λg=>?_⟩);have:=hr.2.2 g;have:=hI.2.2 h;omega
  ·have h:¬0<=s:=by simpa using h
   omega
 ·show ae ((rX Pf) x s x.Kids.length) _;have:decide (x.Kids.length<x.Kids.length)=false:=by simp
  rw[eV]at hI;rw[U1,vD];simp only[ab.aH];rw[a7,this,aC];exact ae.ret ⟨hI.1,hI.2.1,λg=>by rw[gU];have:=hI.2.2 g;omega⟩
theorem abR (x:ab) {k:Int} (hk:k<=1000000) (hk0: -1<=k):ae ((f23 Pf) x k) (λr=>r=true->(bI x:Int)<=k):=by
 rw[e23,CI];refine ae.bind (ady x k hk hk0) (λr hr=>ae.ret λh=>?_);have h:0<=r:=by simpa using h
 have:=hr.2.2 h;omega
theorem acx:∀(v:af) (k:Int),SV v->k<=1000000-> -1<=k->ae ((f49 Pf) v k) (λr=>r<=k/\ -1<=r):=by
 refine af.ind λv ih k hv hk hk0=>?_;cases hv with
 |mk v1 v2 v3 v4 v5 v6=>
 rw[e49,CJ,bN];refine ae.bif (λh=>ae.ret ⟨by omega,by omega⟩) (λh1=>?_);have h1:1<=k:=by simpa using h1
 rw[wrap64 (x:=k-1) (by omega) (by omega)];refine ae.bif (λh=>ae.ret ⟨by omega,by omega⟩) (λh2=>?_);have h2:(v.Names.length:Int)<=k-1:=by simpa using h2
 rw[wrap64 (x:=1+(v.Names.length:Int)) (by omega) (by omega),wrap64 (by omega) (by omega)];have l2:∀s:Int,s<=k->0<=s->ae ((ql Pf) v s 0) (λr=>r<=k/\ -1<=r):=by
  intro s hs hs0;refine eo (L:=λi s=>(ql Pf) v s i) (P:=λr=>r<=k/\ -1<=r) (len:=v.ai.length) (λ_ s=>s<=k/\0<=s) (λi s hi hI kk=>?_) (λs hI=>?_) 0 s (by omega) ⟨hs,hs0⟩
  ·show ae ((ql Pf) v s i) _;obtain⟨y,hy⟩:=bo hi;have hm:=aV hy;have:decide (i<v.ai.length)=true:=by simpa using hi
   rw[U2,vE,af.aH,a7,this,aB,bf hy,au,bW i (by omega)];refine ae.bind (ih y hm s (v6 y hm) (by omega) (by omega)) (λr hr=>ae.bif (λh=>ae.ret ⟨by omega,by omega⟩) (λh=>kk r ⟨by omega,by simpa using h⟩))
  ·show ae ((ql Pf) v s v.ai.length) _;have:decide (v.ai.length<v.ai.length)=false:=by simp
   rw[U2,vE,af.aH,a7,this,aC];exact ae.ret ⟨hI.1,by omega⟩
 refine eo (L:=λi s=>(rY Pf) v s 0 i) (P:=λr=>r<=k/\ -1<=r) (len:=v.Entries.length) (λ_ s=>s<=k/\0<=s) (λi s hi hI kk=>?_) (λs hI=>?_) 0 _ (by omega) ⟨by omega,by omega⟩
 ·show ae ((rY Pf) v s 0 i) _;obtain⟨y,hy⟩:=bo hi;have:decide (i<v.Entries.length)=true:=by simpa using hi
  rw[U3,vF,az.aH,a7,this,aB];refine ae.bif (λh=>ae.ret ⟨by omega,by omega⟩) (λh3=>?_);have h3:1<=s:=by simpa using h3
  rw[bf hy,au,ah.aH,wrap64 (x:=s-1) (by omega) (by omega)];refine ae.bif (λh=>ae.ret ⟨by omega,by omega⟩) (λh4=>?_);have h4:(y.a8.length:Int)<=s-1:=by simpa using h4
  rw[au,ah.aH,wrap64 (x:=1+(y.a8.length:Int)) (by omega) (by omega),wrap64 (x:=s-_) (by omega) (by omega),bW i (by omega)];exact kk _ ⟨by omega,by omega⟩
 ·show ae ((rY Pf) v s 0 v.Entries.length) _;have:decide (v.Entries.length<v.Entries.length)=false:=by simp
  rw[U3,vF,az.aH,a7,this,aC];exact l2 s hI.1 hI.2
theorem abS {v:af} {k:Int} (hv:SV v) (hk:k<=1000000) (hk0: -1<=k):ae ((f24 Pf) v k) (λ_=>True):=by
 rw[e24,CK];exact ae.bind (acx v k hv hk hk0) (λr _=>ae.ret trivial)
theorem acy {ns:List (List UInt8)} (hl:ns.length<=274877906944) (hs:∀s∈ns,s.length<=274877906944):∃r,(zh Pf) ns=some r/\(r=true↔∃s∈ns,dC s=false):=by
 obtain⟨r,h1,h2⟩:=JK (L:=λj=>(yb Pf) ns j) (C:=λs=>dC s=false) (g:=λx=>(f128 Pf) x) (a:=ns) (by omega) (λx hx=>by
  refine⟨!dC x,?_,by simp⟩;rw[aix,AX,ma x (by have:=hs x hx;omega)];rfl) (λj=>by rw[abd,yh,bN])
 refine⟨_,?_,h2⟩;rw[adz,zj,adA,ux,h1];rfl
theorem DV.sort {s:Int} {d:bD} (h:DV s d):1<=s/\s<=4/\d.a6=s:=by cases h<;>simp
theorem aaW {s:Int} {d:bD} (h1:d.Name.length<=274877906944) (h2:d.Names.length<=274877906944) (h3:∀x∈d.Names,x.length<=274877906944):ae ((f84 Pf) s d) (λr=>r=0↔DV s d):=by
 obtain⟨b,hb,hbi⟩:=acy h2 h3;obtain⟨so,n,nm,ns⟩:=d;simp only at h1 h2 h3 hb;have no:∀{m:Int},m≠0->¬DV s ⟨so,n,nm,ns⟩->ae (some m) (λr=>r=0↔DV s ⟨so,n,nm,ns⟩):=λhm h=>ae.ret ⟨λe=>absurd e hm,λg=>absurd g h⟩;have yes:DV s ⟨so,n,nm,ns⟩->ae (some (0:Int)) (λr=>r=0↔DV s ⟨so,n,nm,ns⟩):=λh=>ae.ret ⟨λ_=>h,λ_=>rfl⟩;rw[e84,CL];simp only[bN,hb,oM ns (by omega),ma nm (by omega),au];refine ae.bif (λh=>no (by decide) λg=>?_) (λe1=>?_)
 ·have:=g.sort.2.2;simp at this h;exact h this
 have e1:so=s:=by simpa using e1
 subst e1;refine ae.bif (λh=>no (by decide) λg=>?_) (λe2=>?_)
 ·have:=g.sort.1;simp at h;omega
 refine ae.bif (λh=>no (by decide) λg=>?_) (λe3=>?_)
 ·have:=g.sort.2.1;simp at h;omega
 have e2:1<=so:=by simpa using e2
 have e3:so<=4:=by simpa using e3
 have set:ae (bif n !=0 then some (4:Int)else bif !rising ns then some 3 else bif b then some 3 else some 0) (λr=>r=0↔(n=0/\rising ns=true/\∀x∈ns,dC x=true)):=by
  refine ae.bif (λh=>ae.ret ⟨λe=>by omega,λg=>?_⟩) (λh0=>ae.bif (λh=>ae.ret ⟨λe=>by omega,λg=>?_⟩) (λhr=>ae.bif (λh=>ae.ret ⟨λe=>by omega,λg=>?_⟩) (λhx=>ae.ret ⟨λ_=>?_,λ_=>rfl⟩)))
  ·rw[g.1]at h;cases h
  ·rw[g.2.1]at h;cases h
  ·obtain⟨x,hx,hn⟩:=hbi.1 h;rw[g.2.2 x hx]at hn;cases hn
  ·refine⟨by simpa using h0,by simpa using hr,λx hxm=>?_⟩;cases hn:dC x
   ·rw[hbi.2 ⟨x,hxm,hn⟩]at hx;cases hx
   ·rfl
 have cs:so=1\/so=2\/so=3\/so=4:=by omega
 have lenP:∀l:List (List UInt8),decide ((l.length:Int)>0)= !l.isEmpty:=λl=>by cases l<;>simp
 rcases cs with rfl|rfl|rfl|rfl<;>simp only[bne,Int.reduceBEq,fL,DH,aB,aC,lenP]
 ·refine ae.bif (λh=>no (by decide) λg=>?_) (λa1=>ae.bif (λh=>no (by decide) λg=>?_) (λa2=>ae.bif (λh=>no (by decide) λg=>?_) (λa3=>ae.bif (λh=>no (by decide) λg=>?_) (λa4=>yes ?_))))
  ·cases g;simp at h
  ·cases g;simp at h
  ·cases g;simp at h;omega
  ·cases g;simp at h;omega
  ·have a1:nm=[]:=by simpa using a1
   have a2:ns=[]:=by simpa using a2
   subst a1;subst a2;exact .int (by simpa using a3) (by simpa using a4)
 ·refine ae.bif (λh=>no (by decide) λg=>?_) (λa1=>ae.bif (λh=>no (by decide) λg=>?_) (λa2=>ae.bif (λa3=>ae.bif (λh=>no (by decide) λg=>?_) (λa4=>yes ?_)) (λa3=>yes ?_)))
  ·cases g;simp at h
  ·cases g;simp at h
  ·cases g;simp at h a3;omega
  ·have a1:nm=[]:=by simpa using a1
   have a2:ns=[]:=by simpa using a2
   subst a1;subst a2;exact .bool (.inr (by simpa using a4))
  ·have a1:nm=[]:=by simpa using a1
   have a2:ns=[]:=by simpa using a2
   subst a1;subst a2;exact .bool (.inl (by simpa using a3))
 ·refine ae.bif (λh=>no (by decide) λg=>?_) (λa1=>ae.bif (λh=>no (by decide) λg=>?_) (λa2=>ae.bif (λh=>no (by decide) λg=>?_) (λa3=>yes ?_)))
  ·cases g;simp at h
  ·cases g;simp at h
  ·cases g with
   |name hn=>rw[hn]at h;cases h
  ·have a1:ns=[]:=by simpa using a1
   have a2:n=0:=by simpa using a2
   subst a1;subst a2;exact .name (by simpa using a3)
 ·refine ae.bif (λh=>no (by decide) λg=>?_) (λa1=>?_)
  ·cases g;simp at h
  ·have a1:nm=[]:=by simpa using a1
   subst a1;refine(set).mono λr hr=>?_;rw[hr];exact⟨λg=>by rw[g.1];exact .set g.2.1 g.2.2,λg=>by cases g with|set h1 h2=>exact⟨rfl,h1,h2⟩⟩
def Fits (ps:List TParam) (args:List bD):Prop:=ps.length=args.length/\∀(i:Nat) p d,ps[i]? =some p->args[i]? =some d->DV p.a6 d
def vo (B:Nat) (args:List bD):Prop:=args.length<=B/\∀d∈args,bD.ok B d
section
variable {B:Nat} (hB:B<=1048576)
include hB
theorem acw {ps:List TParam} {args:List bD} (hp:ps.length<=1048576) (ha:∀d∈args,d.Name.length<=274877906944/\d.Names.length<=274877906944/\∀x∈d.Names,x.length<=274877906944):ae ((f38 Pf) ps args) (λr=>r=0↔Fits ps args):=by
 rw[e38,CG,TParam.aH,bD.aH];refine ae.bif (λh=>ae.ret ⟨λe=>by omega,λg=>?_⟩) (λh=>?_)
 ·rw[g.1]at h;simp at h
 have hl:ps.length=args.length:=by simp at h;exact_mod_cast h
 refine gE (L:=λi=>(rW Pf) ps args i) (P:=λr=>r=0↔Fits ps args) (len:=ps.length) (λn=>∀(i:Nat) p d,i<n->ps[i]? =some p->args[i]? =some d->DV p.a6 d) (λi hi hI k=>?_) (λhI=>?_) 0 (by omega) (λi p d h=>by omega)
 ·show ae ((rW Pf) ps args i) _;obtain⟨p,hp⟩:=bo hi;obtain⟨d,hd⟩:=bo (l:=args) (i:=i) (by omega);have hdm:=ha d (aV hd);have:decide (i<ps.length)=true:=by simpa using hi
  rw[U0,vC,TParam.aH,a7,this,aB,bf hp,au,bf hd,au,bW i (by omega)];refine ae.bind (aaW hdm.1 hdm.2.1 hdm.2.2) (λy hy=>ae.bif (λh=>ae.ret ⟨λe=>?_,λg=>?_⟩) (λh=>k λj q e hj h1 h2=>?_))
  ·rw[e]at h;cases h
  ·exact absurd (hy.2 (g.2 i p d hp hd)) (by simpa using h)
  ·rcases pD.1 hj with hj|rfl
   ·exact hI j q e hj h1 h2
   ·rw[hp]at h1;cases h1;rw[hd]at h2;cases h2;exact hy.1 (by simpa using h)
 ·show ae ((rW Pf) ps args ps.length) _;have:decide (ps.length<ps.length)=false:=by simp
  rw[U0,vC,TParam.aH,a7,this,aC];exact ae.ret ⟨λ_=>⟨hl,λi p d h1 h2=>hI i p d (cr.1 h1).1 h1 h2⟩,λ_=>rfl⟩
omit hB in
theorem SK {args:List bD} (hB:B<=1048576) (h:vo B args):∀d∈args,d.Name.length<=1048576/\d.Names.length<=1048576/\∀x∈d.Names,x.length<=1048576:=λd hd=>by
 obtain⟨_,_,h1,h2,h3⟩:=h.2 d hd;exact⟨by omega,by omega,λx hx=>by have:=h3 x hx;omega⟩
omit hB in
theorem adx {args:List bD} (hB:B<=1048576) (h:vo B args):∀d∈args,d.Name.length<=274877906944/\d.Names.length<=274877906944/\∀x∈d.Names,x.length<=274877906944:=λd hd=>by
 obtain⟨h1,h2,h3⟩:=SK hB h d hd;exact⟨by omega,by omega,λx hx=>by have:=h3 x hx;omega⟩
structure Good (B:Nat) (l:ag) (f:cw) (v:af) (args:List bD):Prop where
 vf:VF B l f
 ve:VE l v
 fits:Fits f.Params args
theorem agT:∀v:af,v.ok B->BV 1048576 v:=by
 refine af.ind λv ih hv=>?_;rw[af.dK]at hv;obtain⟨_,⟨h1,_⟩,⟨h3,h4⟩,h5,h6⟩:=hv;exact .mk (by omega) (by omega) (by omega) (λe he=>by have:=h6 e he;unfold az.ok at this;omega) (λp hp=>ih p hp (af.gH h4 hp))
