/- The reference's Check answers OK to lattices. -/
import Derived.Test.YtfgnmgbiijpkiaaGreatKRa
set_option linter.all false
namespace Go.Proofs.YtfgnmgbiijpkiaaGreat
open Go Go.Bw
theorem KM:∀{a:List (List UInt8)} {j:Nat} {x y:List UInt8},rising a=true->a[j]? =some x->a[j+1]? =some y->Op.bytesLess x y=true
 |u::v::r,0,x,y,h,h1,h2=>by
  simp only[lD,qd,aE]at h1 h2;subst h1;subst h2;have h:(Op.bytesLess u v&&rising (v::r))=true:=h;exact(bL _ _▸h).1
 |u::v::r,j+1,x,y,h,h1,h2=>by
  have h:(Op.bytesLess u v&&rising (v::r))=true:=h;exact KM (a:=v::r) (j:=j) ((bL _ _▸h).2) (by simpa using h1) (by simpa using h2)
 |[u],j,x,y,h,h1,h2=>by simp at h2
 |[],j,x,y,h,h1,h2=>by simp at h1
theorem KN {a:List (List UInt8)} (ha:a.length<9223372036854775807) (hs:∀s∈a,s.length<9223372036854775807) (hv:∀s∈a,ek s=true) (hr:rising a=true):(f196 Pf) a=some true:=by
 refine ag.of ?_;rw[Rw,ru];refine kS (L:=λi=>(lS Pf) a i) (len:=a.length) (λ_=>True) (λi hi _ k=>?_) (λ_=>?_) 0 (by omega) trivial
 ·show ag ((lS Pf) a i) _;obtain⟨x,hx⟩:=bh hi;rw[Ac,pf,cj,aY];have:decide (i<a.length)=true:=by simpa using hi
  rw[this,aV,bj hx,aw,zO x (hs x (bw hx)),aw,bP i (by omega),hv x (bw hx)];refine ag.bif (λh=>by cases h) (λ_=>?_);refine ag.bif (λh2=>?_) (λ_=>k trivial);have h2:0<i:=by simp at h2;omega
  obtain⟨w,hw⟩:=bh (l:=a) (i:=i-1) (by omega);have e:IntKind.i64.wrap ((i:Int)-1)=((i-1:Nat):Int):=by rw[wrap64 (by omega) (by omega)];omega
  rw[e,bj hw,aw,aw];have hl:=KM hr hw (by rw[show i-1+1=i by omega];exact hx);refine ag.bif (λh=>?_) (λ_=>k trivial);rw[hl]at h;cases h
 ·show ag ((lS Pf) a a.length) _;rw[Ac,pf,cj,aY];have:decide (a.length<a.length)=false:=by simp
  rw[this];exact ag.ret rfl
theorem WV {l:ah} (h:eV l):(f153 Pf) l=some true:=by
 rw[Rv,uD];simp only[cj,ah.aD,aU.aD];rcases h with⟨h1|h1,h2,h3,h4,h5,h6⟩|⟨h1|h1,h2,h3,h4⟩|⟨h1|h1,h2,h3,h4,h5⟩|⟨h1,h2,h3,h4,h5⟩|⟨h1,h2,h3,h4,h5,h6⟩|⟨h1,h2,h3,h4,h5,h6⟩|⟨h1,h2,h3,h4,h5⟩<;>(try have np:=xL.2 h3)<;>simp[*]
theorem WW {l:ah} (h:kP l):(f155 Pf) l=some true:=by
 induction h with
 |one hk=>
  rw[GP,rA];rcases hk with hk|hk|hk<;>simp[hk]
 |lex hk hp _ _ i1 i2=>
  rw[GP,rA,ah.aD,hp];simp[hk,au,i1,i2]
theorem aaJ {P:ah->Prop} (h:∀x:ah,(∀k∈x.ax,P k)->P x):∀x,P x:=by
 intro x;refine ah.rec (motive_1:=P) (motive_2:=λks=>∀k∈ks,P k) ?_ ?_ ?_ x
 ·intro k lo hi ns ps rs ih;exact h ⟨k,lo,hi,ns,ps,rs⟩ ih
 ·intro k hk;cases hk
 ·intro k ks h1 h2 x hx;rcases cm.1 hx with rfl|hx
  ·exact h1
  ·exact h2 x hx
section
variable {B:Nat} (hB:B<1099511627776)
include hB
theorem WX {l:ah} (hl:l.ok B) (h:na l):(f154 Pf) l=some true:=by
 refine ag.of ?_;rw[Rx,uE];rw[ah.c8]at hl;obtain⟨_,_,_,⟨hn,hnn⟩,_,⟨hr,hrr⟩⟩:=hl;obtain⟨n1,n2,n3,n4⟩:=h;refine ag.bif (λh6=>?_) (λh6=>?_)
 ·have h6:l.Kind=6:=by simpa using h6
  refine kS (L:=λi=>(mO Pf) l i) (len:=l.Names.length) (λ_=>True) (λi hi _ k=>?_) (λ_=>?_) 0 (by omega) trivial
  ·show ag ((mO Pf) l i) _;obtain⟨x,hx⟩:=bh hi;have hm:=bw hx;have hxl:=hnn x hm;rw[Ad,pg,cj,aY];have:decide (i<l.Names.length)=true:=by simpa using hi
   rw[this,aV,bj hx,aw,zO x (by omega),aw,bP i (by omega),tc (by omega),aw,aw,tZ _ _ (by rw[gT];omega),aw,n1 x hm,n3 h6 i x hx];exact ag.bif (λh=>by cases h) (λ_=>ag.bif (λh=>by cases h) (λ_=>k trivial))
  ·show ag ((mO Pf) l l.Names.length) _;rw[Ad,pg,cj,aY];have:decide (l.Names.length<l.Names.length)=false:=by simp
   rw[this];exact ag.ret rfl
 ·have h6:l.Kind≠6:=by simpa using h6
  rw[KN (a:=l.Names) (by omega) (λs h=>by have:=hnn s h;omega) n1 (n2 h6),aw];refine ag.bif (λh=>by cases h) (λ_=>?_);refine eg (L:=λi s=>(mQ Pf) l true s i) (len:=l.aZ.length) (λ_ _=>True) (λi s hi _ k=>?_) (λs _=>?_) 0 false (by omega) trivial
  ·show ag ((mQ Pf) l true s i) _;obtain⟨x,hx⟩:=bh hi;have hxo:=hrr x (bw hx);obtain⟨r1,r2,r3,r4⟩:=n4 x (bw hx);have r3':∀z∈x.If,(l.Names.any λy=>z==y)=true:=λz hz=>iA.1 r3 z hz;have nvI:∀z∈x.If,ek z=true:=λz hz=>by
    obtain⟨y,hy,e⟩:=ka.1 (r3' z hz);have e:z=y:=by simpa using e
    rw[e];exact n1 y hy
   rw[Af,pj,aU.aD,aY];have:decide (i<l.aZ.length)=true:=by simpa using hi
   have hne:((x.If.length:Int)==0)=false:=by cases hxi:x.If;exact absurd hxi r1;simp;omega
   rw[this,aV,bj hx,aw,cj,hne,bp,KN (a:=x.If) (by have:=hxo.1.1;omega) (λs h=>by have:=hxo.1.2 s h;omega) nvI r2,aw,tZ _ _ (by omega),aw,r4];refine ag.bif (λh=>by cases h) (λ_=>ag.bif (λh=>by cases h) (λ_=>?_));refine eg (L:=λi2 s2=>(mP Pf) l true s (i:Int) x true true s2 i2) (len:=x.If.length) (λ_ _=>True) (λi2 s2 hi2 _ k2=>?_) (λs2 _=>?_) 0 s (by omega) trivial
   ·show ag ((mP Pf) l true s (i:Int) x true true s2 i2) _;obtain⟨z,hz⟩:=bh hi2;rw[Ae,ph,cj,aY];have:decide (i2<x.If.length)=true:=by simpa using hi2
    rw[this,aV,bj hz,aw,tZ _ _ (by omega),aw,bP i2 (by have:=hxo.1.1;omega),r3' z (bw hz)];exact ag.bif (λh=>by cases h) (λ_=>k2 s2 trivial)
   ·show ag ((mP Pf) l true s (i:Int) x true true s2 x.If.length) _;rw[Ae,ph,cj,aY];have:decide (x.If.length<x.If.length)=false:=by simp
    rw[this,bp,bP i (by omega)];exact k s2 trivial
  ·show ag ((mQ Pf) l true s l.aZ.length) _;rw[Af,pj,aU.aD,aY];have:decide (l.aZ.length<l.aZ.length)=false:=by simp
   rw[this];exact ag.ret rfl
