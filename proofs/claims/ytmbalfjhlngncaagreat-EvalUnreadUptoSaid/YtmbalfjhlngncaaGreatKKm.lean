/- Sizes, and arguments that fit. -/
import Derived.Test.YtmbalfjhlngncaaGreatKKl
set_option linter.all false
namespace Go.Proofs.YtmbalfjhlngncaaGreat
open Go Go.Bw
theorem abP:∀(x:ae) (k:Int),k<=1000000-> -1<=k->ab ((f71 Pf) x k) (λr=>r<=k/\ -1<=r/\(0<=r->(cz x:Int)+r<=k)):=by
 refine ae.ind λx ih k hk hk0=>?_;rw[e71,Bf];simp only[ae.aI];refine ab.bif (λh=>ab.ret ⟨by omega,by omega,λh=>by omega⟩) (λh1=>?_);have h1:1<=k:=by simpa using h1
 refine ab.bif (λh=>ab.ret ⟨by omega,by omega,λh=>by omega⟩) (λh2=>?_);have h2:(x.Kids.length:Int)<=k:=by simpa using h2
 rw[wrap64 (by omega) (by omega)];refine dX (L:=λi s=>(qM Pf) x s i) (P:=λr=>r<=k/\ -1<=r/\(0<=r->(cz x:Int)+r<=k)) (len:=x.Kids.length) (λi s=>s<=k/\ -1<=s/\(0<=s->(1:Int)+cU (x.Kids.take i)+s<=k)) (λi s hi hI kk=>?_) (λs hI=>?_) 0 (k-1) (by omega) ⟨by omega,by omega,λ_=>by simp[cU];omega⟩
 ·show ab ((qM Pf) x s i) _;obtain⟨y,hy⟩:=bw hi;have ht:=Ob hy;have:decide (i<x.Kids.length)=true:=by simpa using hi
  rw[Tb,ug];simp only[ae.aI];rw[a6,this,aD];refine ab.bif (λh=>?_) (λh=>ab.ret ⟨hI.1,hI.2.1,λg=>?_⟩)
  ·have h:0<=s:=by simpa using h
   rw[bg hy,aw,bM i (by omega)];refine ab.bind (ih y (a7 hy) s (by omega) (by omega)) (λr hr=>kk r ⟨by omega,hr.2.1,λg=>?_⟩);have:=hr.2.2 g;have:=hI.2.2 h;omega
  ·have h:¬0<=s:=by simpa using h
   omega
 ·show ab ((qM Pf) x s x.Kids.length) _;have:decide (x.Kids.length<x.Kids.length)=false:=by simp
  rw[eQ]at hI;rw[Tb,ug];simp only[ae.aI];rw[a6,this,aF];exact ab.ret ⟨hI.1,hI.2.1,λg=>by rw[qk];have:=hI.2.2 g;omega⟩
theorem Z1 (x:ae) {k:Int} (hk:k<=1000000) (hk0: -1<=k):ab ((f35 Pf) x k) (λr=>r=true->(cz x:Int)<=k):=by
 rw[e35,Bg];refine ab.bind (abP x k hk hk0) (λr hr=>ab.ret λh=>?_);have h:0<=r:=by simpa using h
 have:=hr.2.2 h;omega
theorem aaL:∀(v:af) (k:Int),SV v->k<=1000000-> -1<=k->ab ((f66 Pf) v k) (λr=>r<=k/\ -1<=r):=by
 refine af.ind λv ih k hv hk hk0=>?_;cases hv with
 |mk v1 v2 v3 v4 v5 v6=>
 rw[e66,Bh,bD];refine ab.bif (λh=>ab.ret ⟨by omega,by omega⟩) (λh1=>?_);have h1:1<=k:=by simpa using h1
 rw[wrap64 (x:=k-1) (by omega) (by omega)];refine ab.bif (λh=>ab.ret ⟨by omega,by omega⟩) (λh2=>?_);have h2:(v.Names.length:Int)<=k-1:=by simpa using h2
 rw[wrap64 (x:=1+(v.Names.length:Int)) (by omega) (by omega),wrap64 (by omega) (by omega)];have l2:∀s:Int,s<=k->0<=s->ab ((o8 Pf) v s 0) (λr=>r<=k/\ -1<=r):=by
  intro s hs hs0;refine dX (L:=λi s=>(o8 Pf) v s i) (P:=λr=>r<=k/\ -1<=r) (len:=v.aj.length) (λ_ s=>s<=k/\0<=s) (λi s hi hI kk=>?_) (λs hI=>?_) 0 s (by omega) ⟨hs,hs0⟩
  ·show ab ((o8 Pf) v s i) _;obtain⟨y,hy⟩:=bw hi;have hm:=a7 hy;have:decide (i<v.aj.length)=true:=by simpa using hi
   rw[Tc,uh,af.aI,a6,this,aD,bg hy,aw,bM i (by omega)];refine ab.bind (ih y hm s (v6 y hm) (by omega) (by omega)) (λr hr=>ab.bif (λh=>ab.ret ⟨by omega,by omega⟩) (λh=>kk r ⟨by omega,by simpa using h⟩))
  ·show ab ((o8 Pf) v s v.aj.length) _;have:decide (v.aj.length<v.aj.length)=false:=by simp
   rw[Tc,uh,af.aI,a6,this,aF];exact ab.ret ⟨hI.1,by omega⟩
 refine dX (L:=λi s=>(qN Pf) v s 0 i) (P:=λr=>r<=k/\ -1<=r) (len:=v.Entries.length) (λ_ s=>s<=k/\0<=s) (λi s hi hI kk=>?_) (λs hI=>?_) 0 _ (by omega) ⟨by omega,by omega⟩
 ·show ab ((qN Pf) v s 0 i) _;obtain⟨y,hy⟩:=bw hi;have:decide (i<v.Entries.length)=true:=by simpa using hi
  rw[Td,ui,ax.aI,a6,this,aD];refine ab.bif (λh=>ab.ret ⟨by omega,by omega⟩) (λh3=>?_);have h3:1<=s:=by simpa using h3
  rw[bg hy,aw,ai.aI,wrap64 (x:=s-1) (by omega) (by omega)];refine ab.bif (λh=>ab.ret ⟨by omega,by omega⟩) (λh4=>?_);have h4:(y.aY.length:Int)<=s-1:=by simpa using h4
  rw[aw,ai.aI,wrap64 (x:=1+(y.aY.length:Int)) (by omega) (by omega),wrap64 (x:=s-_) (by omega) (by omega),bM i (by omega)];exact kk _ ⟨by omega,by omega⟩
 ·show ab ((qN Pf) v s 0 v.Entries.length) _;have:decide (v.Entries.length<v.Entries.length)=false:=by simp
  rw[Td,ui,ax.aI,a6,this,aF];exact l2 s hI.1 hI.2
theorem Oa {v:af} {k:Int} (hv:SV v) (hk:k<=1000000) (hk0: -1<=k):ab ((f28 Pf) v k) (λ_=>True):=by
 rw[e28,Bi];exact ab.bind (aaL v k hv hk hk0) (λr _=>ab.ret trivial)
theorem adp {args:List aR} (hl:args.length<=1048576):ab ((f30 Pf) args) (λ_=>True):=by
 rw[e30,Bj];refine ab.bif (λ_=>ab.ret trivial) (λ_=>?_);refine eZ (L:=λi=>(qO Pf) args i) (P:=λ_=>True) (len:=args.length) (λ_=>True) (λi hi _ k=>?_) (λ_=>?_) 0 (by omega) trivial
 ·show ab ((qO Pf) args i) _;obtain⟨y,hy⟩:=bw hi;have:decide (i<args.length)=true:=by simpa using hi
  rw[Te,uj,aR.aI,a6,this,aD,bg hy,aw,bM i (by omega)];exact ab.bif (λ_=>ab.ret trivial) (λ_=>k trivial)
 ·show ab ((qO Pf) args args.length) _;have:decide (args.length<args.length)=false:=by simp
  rw[Te,uj,aR.aI,a6,this,aF];exact ab.ret trivial
theorem aaM {ns:List (List UInt8)} (hl:ns.length<=274877906944) (hs:∀s∈ns,s.length<=274877906944):∃r,(wZ Pf) ns=some r/\(r=true↔∃s∈ns,de s=false):=by
 obtain⟨r,h1,h2⟩:=HC (L:=λj=>(wB Pf) ns j) (C:=λs=>de s=false) (g:=λx=>(f124 Pf) x) (a:=ns) (by omega) (λx hx=>by
  refine⟨!de x,?_,by simp⟩;rw[afp,yK,kN x (by have:=hs x hx;omega)];rfl) (λj=>by rw[Zp,wC,bD])
 refine⟨_,?_,h2⟩;rw[abQ,w4,abR,sM,h1];rfl
theorem DV.sort {s:Int} {d:aR} (h:DV s d):1<=s/\s<=4/\d.aX=s:=by cases h<;>simp
theorem Y7 {s:Int} {d:aR} (h1:d.Name.length<=274877906944) (h2:d.Names.length<=274877906944) (h3:∀x∈d.Names,x.length<=274877906944):ab ((f65 Pf) s d) (λr=>r=0↔DV s d):=by
 obtain⟨b,hb,hbi⟩:=aaM h2 h3;obtain⟨so,n,nm,ns⟩:=d;simp only at h1 h2 h3 hb;have no:∀{m:Int},m≠0->¬DV s ⟨so,n,nm,ns⟩->ab (some m) (λr=>r=0↔DV s ⟨so,n,nm,ns⟩):=λhm h=>ab.ret ⟨λe=>absurd e hm,λg=>absurd g h⟩;have yes:DV s ⟨so,n,nm,ns⟩->ab (some (0:Int)) (λr=>r=0↔DV s ⟨so,n,nm,ns⟩):=λh=>ab.ret ⟨λ_=>h,λ_=>rfl⟩;rw[e65,Bk];simp only[bD,hb,nq ns (by omega),kN nm (by omega),aw];refine ab.bif (λh=>no (by decide) λg=>?_) (λe1=>?_)
 ·have:=g.sort.2.2;simp at this h;exact h this
 have e1:so=s:=by simpa using e1
 subst e1;refine ab.bif (λh=>no (by decide) λg=>?_) (λe2=>?_)
 ·have:=g.sort.1;simp at h;omega
 refine ab.bif (λh=>no (by decide) λg=>?_) (λe3=>?_)
 ·have:=g.sort.2.1;simp at h;omega
 have e2:1<=so:=by simpa using e2
 have e3:so<=4:=by simpa using e3
 have set:ab (bif n !=0 then some (4:Int)else bif !rising ns then some 3 else bif b then some 3 else some 0) (λr=>r=0↔(n=0/\rising ns=true/\∀x∈ns,de x=true)):=by
  refine ab.bif (λh=>ab.ret ⟨λe=>by omega,λg=>?_⟩) (λh0=>ab.bif (λh=>ab.ret ⟨λe=>by omega,λg=>?_⟩) (λhr=>ab.bif (λh=>ab.ret ⟨λe=>by omega,λg=>?_⟩) (λhx=>ab.ret ⟨λ_=>?_,λ_=>rfl⟩)))
  ·rw[g.1]at h;cases h
  ·rw[g.2.1]at h;cases h
  ·obtain⟨x,hx,hn⟩:=hbi.1 h;rw[g.2.2 x hx]at hn;cases hn
  ·refine⟨by simpa using h0,by simpa using hr,λx hxm=>?_⟩;cases hn:de x
   ·rw[hbi.2 ⟨x,hxm,hn⟩]at hx;cases hx
   ·rfl
 have cs:so=1\/so=2\/so=3\/so=4:=by omega
 have lenP:∀l:List (List UInt8),decide ((l.length:Int)>0)= !l.isEmpty:=λl=>by cases l<;>simp
 rcases cs with rfl|rfl|rfl|rfl<;>simp only[bne,Int.reduceBEq,fm,BU,aD,aF,lenP]
 ·refine ab.bif (λh=>no (by decide) λg=>?_) (λa1=>ab.bif (λh=>no (by decide) λg=>?_) (λa2=>ab.bif (λh=>no (by decide) λg=>?_) (λa3=>ab.bif (λh=>no (by decide) λg=>?_) (λa4=>yes ?_))))
  ·cases g;simp at h
  ·cases g;simp at h
  ·cases g;simp at h;omega
  ·cases g;simp at h;omega
  ·have a1:nm=[]:=by simpa using a1
   have a2:ns=[]:=by simpa using a2
   subst a1;subst a2;exact .int (by simpa using a3) (by simpa using a4)
 ·refine ab.bif (λh=>no (by decide) λg=>?_) (λa1=>ab.bif (λh=>no (by decide) λg=>?_) (λa2=>ab.bif (λa3=>ab.bif (λh=>no (by decide) λg=>?_) (λa4=>yes ?_)) (λa3=>yes ?_)))
  ·cases g;simp at h
  ·cases g;simp at h
  ·cases g;simp at h a3;omega
  ·have a1:nm=[]:=by simpa using a1
   have a2:ns=[]:=by simpa using a2
   subst a1;subst a2;exact .bool (.inr (by simpa using a4))
  ·have a1:nm=[]:=by simpa using a1
   have a2:ns=[]:=by simpa using a2
   subst a1;subst a2;exact .bool (.inl (by simpa using a3))
 ·refine ab.bif (λh=>no (by decide) λg=>?_) (λa1=>ab.bif (λh=>no (by decide) λg=>?_) (λa2=>ab.bif (λh=>no (by decide) λg=>?_) (λa3=>yes ?_)))
  ·cases g;simp at h
  ·cases g;simp at h
  ·cases g with
   |name hn=>rw[hn]at h;cases h
  ·have a1:ns=[]:=by simpa using a1
   have a2:n=0:=by simpa using a2
   subst a1;subst a2;exact .name (by simpa using a3)
 ·refine ab.bif (λh=>no (by decide) λg=>?_) (λa1=>?_)
  ·cases g;simp at h
  ·have a1:nm=[]:=by simpa using a1
   subst a1;refine(set).mono λr hr=>?_;rw[hr];exact⟨λg=>by rw[g.1];exact .set g.2.1 g.2.2,λg=>by cases g with|set h1 h2=>exact⟨rfl,h1,h2⟩⟩
def Fits (ps:List TParam) (args:List aR):Prop:=ps.length=args.length/\∀(i:Nat) p d,ps[i]? =some p->args[i]? =some d->DV p.aX d
def kR (B:Nat) (args:List aR):Prop:=args.length<=B/\∀d∈args,aR.ok B d
section
variable {B:Nat} (hB:B<=1048576)
include hB
theorem aaE {ps:List TParam} {args:List aR} (hp:ps.length<=1048576) (ha:∀d∈args,d.Name.length<=274877906944/\d.Names.length<=274877906944/\∀x∈d.Names,x.length<=274877906944):ab ((f27 Pf) ps args) (λr=>r=0↔Fits ps args):=by
 rw[e27,Bc,TParam.aI,aR.aI];refine ab.bif (λh=>ab.ret ⟨λe=>by omega,λg=>?_⟩) (λh=>?_)
 ·rw[g.1]at h;simp at h
 have hl:ps.length=args.length:=by simp at h;exact_mod_cast h
 refine eZ (L:=λi=>(qK Pf) ps args i) (P:=λr=>r=0↔Fits ps args) (len:=ps.length) (λn=>∀(i:Nat) p d,i<n->ps[i]? =some p->args[i]? =some d->DV p.aX d) (λi hi hI k=>?_) (λhI=>?_) 0 (by omega) (λi p d h=>by omega)
 ·show ab ((qK Pf) ps args i) _;obtain⟨p,hp⟩:=bw hi;obtain⟨d,hd⟩:=bw (l:=args) (i:=i) (by omega);have hdm:=ha d (a7 hd);have:decide (i<ps.length)=true:=by simpa using hi
  rw[Ta,uf,TParam.aI,a6,this,aD,bg hp,aw,bg hd,aw,bM i (by omega)];refine ab.bind (Y7 hdm.1 hdm.2.1 hdm.2.2) (λy hy=>ab.bif (λh=>ab.ret ⟨λe=>?_,λg=>?_⟩) (λh=>k λj q e hj h1 h2=>?_))
  ·rw[e]at h;cases h
  ·exact absurd (hy.2 (g.2 i p d hp hd)) (by simpa using h)
  ·rcases nf.1 hj with hj|rfl
   ·exact hI j q e hj h1 h2
   ·rw[hp]at h1;cases h1;rw[hd]at h2;cases h2;exact hy.1 (by simpa using h)
 ·show ab ((qK Pf) ps args ps.length) _;have:decide (ps.length<ps.length)=false:=by simp
  rw[Ta,uf,TParam.aI,a6,this,aF];exact ab.ret ⟨λ_=>⟨hl,λi p d h1 h2=>hI i p d (b9.1 h1).1 h1 h2⟩,λ_=>rfl⟩
omit hB in
theorem QO {args:List aR} (hB:B<=1048576) (h:kR B args):∀d∈args,d.Name.length<=1048576/\d.Names.length<=1048576/\∀x∈d.Names,x.length<=1048576:=λd hd=>by
 obtain⟨_,_,h1,h2,h3⟩:=h.2 d hd;exact⟨by omega,by omega,λx hx=>by have:=h3 x hx;omega⟩
omit hB in
theorem abN {args:List aR} (hB:B<=1048576) (h:kR B args):∀d∈args,d.Name.length<=274877906944/\d.Names.length<=274877906944/\∀x∈d.Names,x.length<=274877906944:=λd hd=>by
 obtain⟨h1,h2,h3⟩:=QO hB h d hd;exact⟨by omega,by omega,λx hx=>by have:=h3 x hx;omega⟩
omit hB in
structure Good (B:Nat) (l:ah) (f:bU) (v:af) (args:List aR):Prop where
 vf:VF B l f
 ve:VE l v
 fits:Fits f.Params args
theorem N9 {l:ah} {f:bU} {v:af} {args:List aR} {b:Bool} (hl:l.ok B) (hf:f.ok B) (hv:v.ok B) (ha:kR B args):ab ((f36 Pf) l f b v args) (λr=>r=0->Good B l f v args/\(f.Result==0)=b):=by
 rw[Lw,rI];refine ab.bind (aaF hB hl hf) (λy1 h1=>ab.bif (λ_=>ab.ret λe=>by omega) (λe1=>?_));have vf:=h1 (by simpa using e1);refine ab.bif (λ_=>ab.ret λe=>by omega) (λe2=>?_);refine ab.bind (Db hB hl (yh hB v hv)) (λy4 h4=>ab.bif (λ_=>ab.ret λe=>by omega) (λe4=>?_));have h4:=h4.1 (by simpa using e4);have hpl:f.Params.length<=B:=vf.ce.num;refine ab.bind (aaE hB (by omega) (abN hB ha)) (λy6 h6=>ab.ret λe=>⟨⟨vf,h4.2,h6.1 e⟩,?_⟩);revert e2;cases (f.Result==0)<;>cases b<;>simp
theorem ae4:∀v:af,v.ok B->BV 1048576 v:=by
 refine af.ind λv ih hv=>?_;rw[af.dO]at hv;obtain⟨_,⟨h1,_⟩,⟨h3,h4⟩,h5,h6⟩:=hv;exact .mk (by omega) (by omega) (by omega) (λe he=>by have:=h6 e he;unfold ax.ok at this;omega) (λp hp=>ih p hp (af.gJ h4 hp))
theorem PI {l:ah} {f:bU} {v:af} {args:List aR} (hv:v.ok B) (ha:kR B args) (g:Good B l f v args) (hc:cz f.Body<=60000):ab ((f50 Pf) ⟨v,args⟩ f.Body) (RV (iC l f) (cz f.Body*1048576)):=by
 have hw:bB B (iC l f):=by
  unfold iC;cases h:f.Result==0 with
  |true=>exact bB.of g.vf.ce.dS g.vf.ce.ok
  |false=>
   have h0:f.Result≠0:=by simpa using h
   have:=g.vf.form.2.2.2;exact bB.sort (by omega)
 have ht:=g.vf.body.ty hw.ir;have:=abO hB g.vf.ce g.ve (ae4 hB v hv) (args:=args) (λi p hp=>by
  obtain⟨d,hd⟩:=bw (l:=args) (i:=i) (by have:=(b9.1 hp).1;have:=g.fits.1;simp only at*;omega);exact⟨d,hd,g.fits.2 i p d hp hd,(QO hB ha d (a7 hd)).2.1⟩) g.vf.body g.vf.tt hc
 rw[ht]at this;exact this
omit hB in
theorem wF {l : ah} {f : bU} : (iC l f).aX = f.Result := by
  unfold iC
  cases h : f.Result == 0 with
  | true => have : f.Result = 0 := by simpa using h
            rw [this]; rfl
  | false => rfl
omit hB in
theorem aaG {l:ah} {f:bU} (h:f.Result=0):(iC l f).aL=l:=by
 unfold iC;rw[h];rfl
theorem aaH {l:ah} {f:bU} {v:af} {args:List aR} (hv:v.ok B) (ha:kR B args) (g:Good B l f v args) (hc:cz f.Body<=60000) (h0:f.Result=0):ab ((f23 Pf) f.Body v args) (λr=>r.2=0/\VE l r.1/\SV r.1):=by
 have ht:f.Body.aK=iC l f:=g.vf.body.ty (by
  unfold iC;rw[h0];exact(bB.of g.vf.ce.dS g.vf.ce.ok).ir)
 have hs:(f.Body.aK.aX !=0)=false:=by rw[ht,wF,h0];rfl
 rw[Lx,rJ,hs,aF];refine ab.bind (PI hB hv ha g hc) (λy hy=>?_);obtain⟨u,rfl,u2,u3⟩:=hy.val (by rw[wF];exact h0);rw[aaG h0]at u2;have su:=u2.sv (by omega) u3;rw[ZZ u su,aw];exact ab.ret ⟨rfl,u2,su⟩
theorem aaI {l:ah} {f:bU} {v:af} {args:List aR} (hv:v.ok B) (ha:kR B args) (g:Good B l f v args) (hc:cz f.Body<=60) (h0:f.Result≠0):ab ((f22 Pf) f.Body v args) (λr=>r.2=0/\DV f.Result r.1/\r.1.Names.length<=62914560):=by
 have hw:bB B (iC l f):=by
  unfold iC;have h:(f.Result==0)=false:=by simpa using h0
  have:=g.vf.form.2.2.2;rw[h];exact bB.sort (by omega)
 have ht:f.Body.aK=iC l f:=g.vf.body.ty hw.ir;have hs:(f.Body.aK.aX==0)=false:=by rw[ht,wF];simpa using h0
 rw[Ly,rK,hs,aF];refine ab.bind (PI hB hv ha g (by omega)) (λy hy=>?_);obtain⟨d,rfl,u2,u3⟩:=hy.dj (by rw[wF];exact h0);rw[wF]at u2;have hn:d.Names.length<=62914560:=by omega
 rw[show(f51 Pf) d.Names=some d.Names by rw[Bd];exact mw (by omega),aw];exact ab.ret ⟨rfl,u2,hn⟩
theorem Z0 {l:ah} {f:bU} {v:af} {args:List aR} (hl:l.ok B) (hf:f.ok B) (hv:v.ok B) (ha:kR B args) (hc:cz f.Body<=60):ab ((f12 Pf) l f v args) (λr=>SV r.1/\(r.2=0->VE l r.1)):=by
 rw[Lz,rL];have z:SV ⟨0,[],[],[]⟩:= .mk (by simp) (by simp) (by simp) (by simp) (by simp) (by simp);refine ab.bind (N9 hB hl hf hv ha (b:=true)) (λy hy=>ab.bif (λh=>ab.ret ⟨z,λe=>?_⟩) (λh=>?_))
 ·have e:y=0:=e;rw[e]at h;cases h
 ·obtain⟨g,e⟩:=hy (by simpa using h);exact ab.bind (aaH hB hv ha g (by omega) (by simpa using e)) (λr hr=>ab.ret ⟨hr.2.2,λ_=>hr.2.1⟩)
theorem aaJ {l:ah} {f:bU} {v:af} {args:List aR} (hl:l.ok B) (hf:f.ok B) (hv:v.ok B) (ha:kR B args) (hc:cz f.Body<=60):ab ((f15 Pf) l f v args) (λr=>r.1.Names.length<=62914560/\(r.2=0->DV f.Result r.1)):=by
 rw[LA,rM];refine ab.bind (N9 hB hl hf hv ha (b:=false)) (λy hy=>ab.bif (λh=>ab.ret ⟨by simp,λe=>?_⟩) (λh=>?_))
 ·have e:y=0:=e;rw[e]at h;cases h
 ·obtain⟨g,e⟩:=hy (by simpa using h);exact ab.bind (aaI hB hv ha g hc (by simpa using e)) (λr hr=>ab.ret ⟨hr.2.2,λ_=>hr.2.1⟩)
theorem aaK {f:bU} {v:af} {args:List aR} (hv:v.ok B) (ha:kR B args):ab ((f11 Pf) f v args) (λr=>r=true->cz f.Body<=60):=by
 rw[e11,Be];refine ab.bind (Z1 f.Body (k:=60) (by decide) (by decide)) (λy hy=>ab.bif (λh=>?_) (λh=>ab.ret λe=>by cases e));have hy:cz f.Body<=60:=by have:=hy h;omega
 refine ab.bind (Oa (yh hB v hv) (k:=40) (by decide) (by decide)) (λ_ _=>ab.bif (λ_=>?_) (λh=>ab.ret λe=>by cases e));refine ab.bind (adp (by have:=ha.1;omega)) (λ_ _=>ab.bif (λ_=>ab.ret λ_=>hy) (λh=>ab.ret λe=>by cases e))
