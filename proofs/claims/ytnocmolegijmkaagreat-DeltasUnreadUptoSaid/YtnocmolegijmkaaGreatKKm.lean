/- Sizes, and arguments that fit. -/
import Derived.Test.YtnocmolegijmkaaGreatKKl
set_option linter.all false
namespace Go.Proofs.YtnocmolegijmkaaGreat
open Go Go.Bw
theorem adG:∀(x:ab) (k:Int),k<=1000000-> -1<=k->ae ((f48 Pf) x k) (λr=>r<=k/\ -1<=r/\(0<=r->(cd x:Int)+r<=k)):=by
 refine ab.ind λx ih k hk hk0=>?_;rw[e48,CA];simp only[ab.aF];refine ae.bif (λh=>ae.ret ⟨by omega,by omega,λh=>by omega⟩) (λh1=>?_);have h1:1<=k:=by simpa using h1
 refine ae.bif (λh=>ae.ret ⟨by omega,by omega,λh=>by omega⟩) (λh2=>?_);have h2:(x.Kids.length:Int)<=k:=by simpa using h2
 rw[wrap64 (by omega) (by omega)];refine dZ (L:=λi s=>(rA Pf) x s i) (P:=λr=>r<=k/\ -1<=r/\(0<=r->(cd x:Int)+r<=k)) (len:=x.Kids.length) (λi s=>s<=k/\ -1<=s/\(0<=s->(1:Int)+cV (x.Kids.take i)+s<=k)) (λi s hi hI kk=>?_) (λs hI=>?_) 0 (k-1) (by omega) ⟨by omega,by omega,λ_=>by simp[cV];omega⟩
 ·show ae ((rA Pf) x s i) _;obtain⟨y,hy⟩:=bm hi;have ht:=Rb hy;have:decide (i<x.Kids.length)=true:=by simpa using hi
  rw[V6,va];simp only[ab.aF];rw[aW,this,aB];refine ae.bif (λh=>?_) (λh=>ae.ret ⟨hI.1,hI.2.1,λg=>?_⟩)
  ·have h:0<=s:=by simpa using h
   rw[a7 hy,ax,bO i (by omega)];refine ae.bind (ih y (aY hy) s (by omega) (by omega)) (λr hr=>kk r ⟨by omega,hr.2.1,λg=>?_⟩);have:=hr.2.2 g;have:=hI.2.2 h;omega
  ·have h:¬0<=s:=by simpa using h
   omega
 ·show ae ((rA Pf) x s x.Kids.length) _;have:decide (x.Kids.length<x.Kids.length)=false:=by simp
  rw[eN]at hI;rw[V6,va];simp only[ab.aF];rw[aW,this,aC];exact ae.ret ⟨hI.1,hI.2.1,λg=>by rw[q7];have:=hI.2.2 g;omega⟩
theorem abP (x:ab) {k:Int} (hk:k<=1000000) (hk0: -1<=k):ae ((f23 Pf) x k) (λr=>r=true->(cd x:Int)<=k):=by
 rw[e23,CB];refine ae.bind (adG x k hk hk0) (λr hr=>ae.ret λh=>?_);have h:0<=r:=by simpa using h
 have:=hr.2.2 h;omega
theorem acD:∀(v:ah) (k:Int),SV v->k<=1000000-> -1<=k->ae ((f49 Pf) v k) (λr=>r<=k/\ -1<=r):=by
 refine ah.ind λv ih k hv hk hk0=>?_;cases hv with
 |mk v1 v2 v3 v4 v5 v6=>
 rw[e49,CC,bH];refine ae.bif (λh=>ae.ret ⟨by omega,by omega⟩) (λh1=>?_);have h1:1<=k:=by simpa using h1
 rw[wrap64 (x:=k-1) (by omega) (by omega)];refine ae.bif (λh=>ae.ret ⟨by omega,by omega⟩) (λh2=>?_);have h2:(v.Names.length:Int)<=k-1:=by simpa using h2
 rw[wrap64 (x:=1+(v.Names.length:Int)) (by omega) (by omega),wrap64 (by omega) (by omega)];have l2:∀s:Int,s<=k->0<=s->ae ((pU Pf) v s 0) (λr=>r<=k/\ -1<=r):=by
  intro s hs hs0;refine dZ (L:=λi s=>(pU Pf) v s i) (P:=λr=>r<=k/\ -1<=r) (len:=v.ak.length) (λ_ s=>s<=k/\0<=s) (λi s hi hI kk=>?_) (λs hI=>?_) 0 s (by omega) ⟨hs,hs0⟩
  ·show ae ((pU Pf) v s i) _;obtain⟨y,hy⟩:=bm hi;have hm:=aY hy;have:decide (i<v.ak.length)=true:=by simpa using hi
   rw[V7,vb,ah.aF,aW,this,aB,a7 hy,ax,bO i (by omega)];refine ae.bind (ih y hm s (v6 y hm) (by omega) (by omega)) (λr hr=>ae.bif (λh=>ae.ret ⟨by omega,by omega⟩) (λh=>kk r ⟨by omega,by simpa using h⟩))
  ·show ae ((pU Pf) v s v.ak.length) _;have:decide (v.ak.length<v.ak.length)=false:=by simp
   rw[V7,vb,ah.aF,aW,this,aC];exact ae.ret ⟨hI.1,by omega⟩
 refine dZ (L:=λi s=>(rB Pf) v s 0 i) (P:=λr=>r<=k/\ -1<=r) (len:=v.Entries.length) (λ_ s=>s<=k/\0<=s) (λi s hi hI kk=>?_) (λs hI=>?_) 0 _ (by omega) ⟨by omega,by omega⟩
 ·show ae ((rB Pf) v s 0 i) _;obtain⟨y,hy⟩:=bm hi;have:decide (i<v.Entries.length)=true:=by simpa using hi
  rw[V8,vc,az.aF,aW,this,aB];refine ae.bif (λh=>ae.ret ⟨by omega,by omega⟩) (λh3=>?_);have h3:1<=s:=by simpa using h3
  rw[a7 hy,ax,aj.aF,wrap64 (x:=s-1) (by omega) (by omega)];refine ae.bif (λh=>ae.ret ⟨by omega,by omega⟩) (λh4=>?_);have h4:(y.a8.length:Int)<=s-1:=by simpa using h4
  rw[ax,aj.aF,wrap64 (x:=1+(y.a8.length:Int)) (by omega) (by omega),wrap64 (x:=s-_) (by omega) (by omega),bO i (by omega)];exact kk _ ⟨by omega,by omega⟩
 ·show ae ((rB Pf) v s 0 v.Entries.length) _;have:decide (v.Entries.length<v.Entries.length)=false:=by simp
  rw[V8,vc,az.aF,aW,this,aC];exact l2 s hI.1 hI.2
theorem abQ {v:ah} {k:Int} (hv:SV v) (hk:k<=1000000) (hk0: -1<=k):ae ((f24 Pf) v k) (λ_=>True):=by
 rw[e24,CD];exact ae.bind (acD v k hv hk hk0) (λr _=>ae.ret trivial)
theorem acE {ns:List (List UInt8)} (hl:ns.length<=274877906944) (hs:∀s∈ns,s.length<=274877906944):∃r,(yx Pf) ns=some r/\(r=true↔∃s∈ns,dw s=false):=by
 obtain⟨r,h1,h2⟩:=Jk (L:=λj=>(xH Pf) ns j) (C:=λs=>dw s=false) (g:=λx=>(f128 Pf) x) (a:=ns) (by omega) (λx hx=>by
  refine⟨!dw x,?_,by simp⟩;rw[aiz,Ax,lM x (by have:=hs x hx;omega)];rfl) (λj=>by rw[abf,xI,bH])
 refine⟨_,?_,h2⟩;rw[adH,yy,adI,tQ,h1];rfl
theorem DV.sort {s:Int} {d:br} (h:DV s d):1<=s/\s<=4/\d.a6=s:=by cases h<;>simp
theorem aaX {s:Int} {d:br} (h1:d.Name.length<=274877906944) (h2:d.Names.length<=274877906944) (h3:∀x∈d.Names,x.length<=274877906944):ae ((f84 Pf) s d) (λr=>r=0↔DV s d):=by
 obtain⟨b,hb,hbi⟩:=acE h2 h3;obtain⟨so,n,nm,ns⟩:=d;simp only at h1 h2 h3 hb;have no:∀{m:Int},m≠0->¬DV s ⟨so,n,nm,ns⟩->ae (some m) (λr=>r=0↔DV s ⟨so,n,nm,ns⟩):=λhm h=>ae.ret ⟨λe=>absurd e hm,λg=>absurd g h⟩;have yes:DV s ⟨so,n,nm,ns⟩->ae (some (0:Int)) (λr=>r=0↔DV s ⟨so,n,nm,ns⟩):=λh=>ae.ret ⟨λ_=>h,λ_=>rfl⟩;rw[e84,CF];simp only[bH,hb,og ns (by omega),lM nm (by omega),ax];refine ae.bif (λh=>no (by decide) λg=>?_) (λe1=>?_)
 ·have:=g.sort.2.2;simp at this h;exact h this
 have e1:so=s:=by simpa using e1
 subst e1;refine ae.bif (λh=>no (by decide) λg=>?_) (λe2=>?_)
 ·have:=g.sort.1;simp at h;omega
 refine ae.bif (λh=>no (by decide) λg=>?_) (λe3=>?_)
 ·have:=g.sort.2.1;simp at h;omega
 have e2:1<=so:=by simpa using e2
 have e3:so<=4:=by simpa using e3
 have set:ae (bif n !=0 then some (4:Int)else bif !rising ns then some 3 else bif b then some 3 else some 0) (λr=>r=0↔(n=0/\rising ns=true/\∀x∈ns,dw x=true)):=by
  refine ae.bif (λh=>ae.ret ⟨λe=>by omega,λg=>?_⟩) (λh0=>ae.bif (λh=>ae.ret ⟨λe=>by omega,λg=>?_⟩) (λhr=>ae.bif (λh=>ae.ret ⟨λe=>by omega,λg=>?_⟩) (λhx=>ae.ret ⟨λ_=>?_,λ_=>rfl⟩)))
  ·rw[g.1]at h;cases h
  ·rw[g.2.1]at h;cases h
  ·obtain⟨x,hx,hn⟩:=hbi.1 h;rw[g.2.2 x hx]at hn;cases hn
  ·refine⟨by simpa using h0,by simpa using hr,λx hxm=>?_⟩;cases hn:dw x
   ·rw[hbi.2 ⟨x,hxm,hn⟩]at hx;cases hx
   ·rfl
 have cs:so=1\/so=2\/so=3\/so=4:=by omega
 have lenP:∀l:List (List UInt8),decide ((l.length:Int)>0)= !l.isEmpty:=λl=>by cases l<;>simp
 rcases cs with rfl|rfl|rfl|rfl<;>simp only[bne,Int.reduceBEq,fA,Dt,aB,aC,lenP]
 ·refine ae.bif (λh=>no (by decide) λg=>?_) (λa1=>ae.bif (λh=>no (by decide) λg=>?_) (λa2=>ae.bif (λh=>no (by decide) λg=>?_) (λa3=>ae.bif (λh=>no (by decide) λg=>?_) (λa4=>yes ?_))))
  ·cases g;simp at h
  ·cases g;simp at h
  ·cases g;simp at h;omega
  ·cases g;simp at h;omega
  ·have a1:nm=[]:=by simpa using a1
   have a2:ns=[]:=by simpa using a2
   subst a1;subst a2;exact .int (by simpa using a3) (by simpa using a4)
 ·refine ae.bif (λh=>no (by decide) λg=>?_) (λa1=>ae.bif (λh=>no (by decide) λg=>?_) (λa2=>ae.bif (λa3=>ae.bif (λh=>no (by decide) λg=>?_) (λa4=>yes ?_)) (λa3=>yes ?_)))
  ·cases g;simp at h
  ·cases g;simp at h
  ·cases g;simp at h a3;omega
  ·have a1:nm=[]:=by simpa using a1
   have a2:ns=[]:=by simpa using a2
   subst a1;subst a2;exact .bool (.inr (by simpa using a4))
  ·have a1:nm=[]:=by simpa using a1
   have a2:ns=[]:=by simpa using a2
   subst a1;subst a2;exact .bool (.inl (by simpa using a3))
 ·refine ae.bif (λh=>no (by decide) λg=>?_) (λa1=>ae.bif (λh=>no (by decide) λg=>?_) (λa2=>ae.bif (λh=>no (by decide) λg=>?_) (λa3=>yes ?_)))
  ·cases g;simp at h
  ·cases g;simp at h
  ·cases g with
   |name hn=>rw[hn]at h;cases h
  ·have a1:ns=[]:=by simpa using a1
   have a2:n=0:=by simpa using a2
   subst a1;subst a2;exact .name (by simpa using a3)
 ·refine ae.bif (λh=>no (by decide) λg=>?_) (λa1=>?_)
  ·cases g;simp at h
  ·have a1:nm=[]:=by simpa using a1
   subst a1;refine(set).mono λr hr=>?_;rw[hr];exact⟨λg=>by rw[g.1];exact .set g.2.1 g.2.2,λg=>by cases g with|set h1 h2=>exact⟨rfl,h1,h2⟩⟩
def Fits (ps:List TParam) (args:List br):Prop:=ps.length=args.length/\∀(i:Nat) p d,ps[i]? =some p->args[i]? =some d->DV p.a6 d
def pM (B:Nat) (args:List br):Prop:=args.length<=B/\∀d∈args,br.ok B d
section
variable {B:Nat} (hB:B<=1048576)
include hB
theorem acy {ps:List TParam} {args:List br} (hp:ps.length<=1048576) (ha:∀d∈args,d.Name.length<=274877906944/\d.Names.length<=274877906944/\∀x∈d.Names,x.length<=274877906944):ae ((f38 Pf) ps args) (λr=>r=0↔Fits ps args):=by
 rw[e38,Cz,TParam.aF,br.aF];refine ae.bif (λh=>ae.ret ⟨λe=>by omega,λg=>?_⟩) (λh=>?_)
 ·rw[g.1]at h;simp at h
 have hl:ps.length=args.length:=by simp at h;exact_mod_cast h
 refine fT (L:=λi=>(rz Pf) ps args i) (P:=λr=>r=0↔Fits ps args) (len:=ps.length) (λn=>∀(i:Nat) p d,i<n->ps[i]? =some p->args[i]? =some d->DV p.a6 d) (λi hi hI k=>?_) (λhI=>?_) 0 (by omega) (λi p d h=>by omega)
 ·show ae ((rz Pf) ps args i) _;obtain⟨p,hp⟩:=bm hi;obtain⟨d,hd⟩:=bm (l:=args) (i:=i) (by omega);have hdm:=ha d (aY hd);have:decide (i<ps.length)=true:=by simpa using hi
  rw[V5,u9,TParam.aF,aW,this,aB,a7 hp,ax,a7 hd,ax,bO i (by omega)];refine ae.bind (aaX hdm.1 hdm.2.1 hdm.2.2) (λy hy=>ae.bif (λh=>ae.ret ⟨λe=>?_,λg=>?_⟩) (λh=>k λj q e hj h1 h2=>?_))
  ·rw[e]at h;cases h
  ·exact absurd (hy.2 (g.2 i p d hp hd)) (by simpa using h)
  ·rcases nW.1 hj with hj|rfl
   ·exact hI j q e hj h1 h2
   ·rw[hp]at h1;cases h1;rw[hd]at h2;cases h2;exact hy.1 (by simpa using h)
 ·show ae ((rz Pf) ps args ps.length) _;have:decide (ps.length<ps.length)=false:=by simp
  rw[V5,u9,TParam.aF,aW,this,aC];exact ae.ret ⟨λ_=>⟨hl,λi p d h1 h2=>hI i p d (cr.1 h1).1 h1 h2⟩,λ_=>rfl⟩
omit hB in
theorem Jj {args:List br} (hB:B<=1048576) (h:pM B args):∀d∈args,d.Name.length<=1048576/\d.Names.length<=1048576/\∀x∈d.Names,x.length<=1048576:=λd hd=>by
 obtain⟨_,_,h1,h2,h3⟩:=h.2 d hd;exact⟨by omega,by omega,λx hx=>by have:=h3 x hx;omega⟩
omit hB in
theorem adB {args:List br} (hB:B<=1048576) (h:pM B args):∀d∈args,d.Name.length<=274877906944/\d.Names.length<=274877906944/\∀x∈d.Names,x.length<=274877906944:=λd hd=>by
 obtain⟨h1,h2,h3⟩:=Jj hB h d hd;exact⟨by omega,by omega,λx hx=>by have:=h3 x hx;omega⟩
structure Good (B:Nat) (l:ai) (f:b9) (v:ah) (args:List br):Prop where
 vf:VF B l f
 ve:VE l v
 fits:Fits f.Params args
theorem Xp:∀v:ah,v.ok B->BV 1048576 v:=by
 refine ah.ind λv ih hv=>?_;rw[ah.dA]at hv;obtain⟨_,⟨h1,_⟩,⟨h3,h4⟩,h5,h6⟩:=hv;exact .mk (by omega) (by omega) (by omega) (λe he=>by have:=h6 e he;unfold az.ok at this;omega) (λp hp=>ih p hp (ah.fU h4 hp))
theorem adF {l:ai} {f:b9} {v:ah} {args:List br} (hv:v.ok B) (ha:pM B args) (g:Good B l f v args) (hc:cd f.Body<=60000):ae ((f86 Pf) ⟨v,args⟩ f.Body) (RV (jH l f) (cd f.Body*1048576)):=by
 have hw:bw B (jH l f):=by
  unfold jH;cases h:f.Result==0 with
  |true=>exact bw.of g.vf.ce.dE g.vf.ce.ok
  |false=>
   have h0:f.Result≠0:=by simpa using h
   have:=g.vf.form.2.2.2;exact bw.sort (by omega)
 have ht:=g.vf.body.ty hw.dP;have:=Ev hB g.vf.ce g.ve (Xp hB v hv) (args:=args) (λi p hp=>by
  obtain⟨d,hd⟩:=bm (l:=args) (i:=i) (by have:=(cr.1 hp).1;have:=g.fits.1;simp only at*;omega);exact⟨d,hd,g.fits.2 i p d hp hd,(Jj hB ha d (aY hd)).2.1⟩) g.vf.body g.vf.tt hc
 rw[ht]at this;exact this
omit hB in
theorem Ra {l : ai} {f : b9} : (jH l f).a6 = f.Result := by
  unfold jH
  cases h : f.Result == 0 with
  | true => have : f.Result = 0 := by simpa using h
            rw [this]; rfl
  | false => rfl
omit hB in
theorem acC {l:ai} {f:b9} (h:f.Result=0):(jH l f).aJ=l:=by
 unfold jH;rw[h];rfl
theorem acB {l:ai} {f:b9} {v:ah} {args:List br} (hv:v.ok B) (ha:pM B args) (g:Good B l f v args) (hc:cd f.Body<=60000) (h0:f.Result=0):ae ((f40 Pf) f.Body v args) (λr=>r.2=0/\VE l r.1/\SV r.1):=by
 have ht:f.Body.aO=jH l f:=g.vf.body.ty (by
  unfold jH;rw[h0];exact(bw.of g.vf.ce.dE g.vf.ce.ok).dP)
 have hs:(f.Body.aO.a6 !=0)=false:=by rw[ht,Ra,h0];rfl
 rw[OB,sK,hs,aC];refine ae.bind (adF hB hv ha g hc) (λy hy=>?_);obtain⟨u,rfl,u2,u3⟩:=hy.val (by rw[Ra];exact h0);rw[acC h0]at u2;have su:=u2.sv (by omega) u3;rw[abV u su,ax];exact ae.ret ⟨rfl,u2,su⟩
