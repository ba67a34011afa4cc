/- Inflation: the judgement answers. -/
import Derived.Test.YthlcjaanmbjcaaaGreatKRa
set_option linter.all false
namespace Go.Proofs.YthlcjaanmbjcaaaGreat
open Go Go.Bw
def zE:ab:={Op:=0,aA:={aS:=0,aF:={Kind:=0,Lo:=0,Hi:=0,Names:=[],az:=[],a6:=[]}},N:=0,Text:=[],At:=0,Kids:=[]}
theorem wM (x:ab) (i:Nat):ae ((f30 Pf) x i) (λr=>x.Kids[i]? =some r\/x.Kids.length<=i/\r=zE):=by
 rw[PQ,qS,ab.a8,bO];refine ae.bif (λh=>?_) (λh=>ae.ret (.inr ⟨by simpa using h,rfl⟩));obtain⟨y,hy⟩:=b3 (mI h);rw[b0 hy];exact ae.ret (.inl hy)
theorem xN (t:bd) (i:Int) (h:t.path.length<1000000):(f31 Pf) t i=some ⟨t.path++[i]⟩:=by
 rw[PR,qT,OF,qp];have e1:decide ((([]:List Int)++t.path).length<=274877906944)=true:=by simp;omega
 have e2:decide ((([]++t.path:List Int)++([i]:List Int)).length<=274877906944)=true:=by simp;omega
 rw[e1,bZ,aP,e2,bZ];rfl
theorem FI (t:bd) (s:Int) (h:t.path.length<1000000):ae ((f33 Pf) t s) (λr=>r.1.path.length<=t.path.length/\(r.2=true->t.path=r.1.path++[s])):=by
 rw[PS,qU,kI];rw[wrap64 (by omega) (by omega)];refine ae.bif (λ_=>ae.ret ⟨by simp,λe=>by cases e⟩) (λh0=>?_);have h0:0<t.path.length:=by simp at h0;omega
 obtain⟨z,hz⟩:=b3 (l:=t.path) (i:=t.path.length-1) (by omega);have e:((t.path.length:Int)-1)=((t.path.length-1:Nat):Int):=by omega
 rw[e,b0 hz,aP];refine ae.bif (λ_=>ae.ret ⟨by simp,λe=>by cases e⟩) (λh1=>?_);have h1:z=s:=by simpa using h1
 subst h1;rw[sR (by omega),aP];refine ae.ret ⟨by simp,λ_=>?_⟩;simp only;have:t.path=t.path.take (t.path.length-1)++t.path.drop (t.path.length-1):=(uM _ _).symm;rw[jo hz,show t.path.length-1+1=t.path.length by omega,List.drop_length]at this;exact this
theorem EO (x:ab):ae ((f32 Pf) x) (λr=>r.2=true->x.Op=19\/x.Op=35\/x.Op=36):=by
 rw[z6,mD];refine ae.bif (λh=>ae.ret λ_=> .inl (by simpa using h)) (λ_=>ae.bif (λh=>ae.ret λ_=> .inr (.inl (by simpa using h))) (λ_=>ae.bif (λh=>ae.ret λ_=> .inr (.inr (by simpa using h))) (λ_=>ae.ret λe=>by cases e)))
theorem Hf (t:bd):(f29 Pf) t zE=some false:=by
 rw[zZ,mC,z6,mD];rfl
theorem Oi (t:bd):(f21 Pf) t zE=some false:=by
 rw[qR,ky,Hf];rfl
theorem NF (t:bd):(f34 Pf) t zE=some false:=by
 rw[Ie,oL];rfl
theorem GU (t:bd) (w:aB):(f53 Pf) t zE w=some false:=by
 rw[Ig,oM];rfl
theorem MG (t:bd) (w:aB):(f35 Pf) t zE w=some false:=by
 rw[Ih,oN,GU];rfl
theorem MH (t:bd) (w:aB):(f36 Pf) t zE w=some false:=by
 rw[Ii,oO,GU];rfl
theorem wN (x:ab):ae ((f52 Pf) x) (λr=>r=true->x.Op=1):=by
 rw[PT,qV];exact ae.bif (λh=>ae.ret λ_=>by simpa using h) (λ_=>ae.ret λe=>by cases e)
section
variable {B:Nat} (hB:B<=1048576)
include hB
omit hB in
theorem NG:∀(x:ab) (t:bd),t.path.length<1000000->ae ((f29 Pf) t x) (λ_=>True):=by
 refine ab.ind λx ih t h=>?_;rw[zZ,mC];refine ae.bif (λ_=>ae.ret trivial) (λ_=>ae.bind (EO x) (λy2 _=>ae.bif (λ_=>ae.ret trivial) (λ_=>ae.bind (FI t _ h) (λy4 h4=>ae.bif (λ_=>?_) (λ_=>ae.ret trivial)))));refine ae.bind (wM x 0) (λy6 h6=>ae.bind (P:=λ_=>True) ?_ (λ_ _=>ae.ret trivial));rcases h6 with h6|⟨_,rfl⟩
 ·exact ih y6 (bV h6) _ (by omega)
 ·rw[Hf];exact ae.ret trivial
structure qW (x:ab) (t:bd):Prop where
 gQ:ae ((f21 Pf) t x) (λ_=>True)
 hold:ae ((f34 Pf) t x) (λ_=>True)
 reach:∀w,ae ((f35 Pf) t x w) (λ_=>True)
 under:∀w,ae ((f36 Pf) t x w) (λ_=>True)
omit hB in
theorem Oj (t:bd):qW zE t:=⟨⟨_,Oi t,trivial⟩,⟨_,NF t,trivial⟩,λw=>⟨_,MG t w,trivial⟩,λw=>⟨_,MH t w,trivial⟩⟩
theorem GV:∀(n:Nat) (x:ab),eY x<n->x.ok B->∀t:bd,t.path.length+eY x<1000000->qW x t
 |0,_,h=>by omega
 |n+1,x,hn=>λhx t ht=>by
  have ih:=GV n;have hx':=hx;rw[ab.dv]at hx';obtain⟨_,hty,_,_,_,hkl,hkk⟩:=hx';have hp:t.path.length<1000000:=by omega
  have kids:∀k∈x.Kids,∀u:bd,u.path.length<=t.path.length+1->qW k u:=λk hk u hu=>ih k (by have:=sE hk;omega) (ab.gf hkk hk) u (by have:=sE hk;omega);have kz:∀(i:Nat) (u:bd) (o:Option ab->Prop),u.path.length<=t.path.length+1->ae ((f30 Pf) x i) (λr=>qW r u/\(x.Kids[i]? =some r\/x.Kids.length<=i/\r=zE)):=λi u _ hu=>(wM x i).mono λr h=>⟨by
   rcases h with h|⟨_,rfl⟩
   ·exact kids r (bV h) u hu
   ·exact Oj u,h⟩
  have kid0:=λ(u:bd) (hu:u.path.length<=t.path.length+1)=>kz 0 u (λ_=>True) hu;have kid1:=λ(u:bd) (hu:u.path.length<=t.path.length+1)=>kz 1 u (λ_=>True) hu;have kid2:=λ(u:bd) (hu:u.path.length<=t.path.length+1)=>kz 2 u (λ_=>True) hu;have num:∀w:aB,ae ((f53 Pf) t x w) (λ_=>True):=λw=>by
   rw[Ig,oM];refine ae.bif (λ_=>ae.bind (kid0 t (by omega)) (λy2 h2=>ae.bind (P:=λ_=>True) ?_ (λy3 _=>ae.bif (λ_=>ae.bind (kid0 t (by omega)) (λy5 h5=>ae.bind h5.1.gQ (λ_ _=>ae.ret trivial))) (λ_=>ae.ret trivial)))) (λ_=>ae.ret trivial);refine(pA (B:=B) (by omega) ?_).any;rcases h2.2 with h|⟨_,rfl⟩
   ·have:=ab.gf hkk (bV h);rw[ab.dv]at this;exact this.2.1.2
   ·exact xO B
  have reach:∀w:aB,ae ((f35 Pf) t x w) (λ_=>True):=λw=>by
   rw[Ih,oN];refine ae.bif (λ_=>?_) (λ_=>ae.bind (num w) (λ_ _=>ae.ret trivial));have fin:ae (((f30 Pf) x 0).bind λy16=>((f52 Pf) y16).bind λy17=>some y17) (λ_=>True):=ae.bind (kid0 t (by omega)) (λy h=>ae.bind (wN y) (λ_ _=>ae.ret trivial));refine ae.bind (kid0 t (by omega)) (λy2 h2=>ae.bind (h2.1.reach w) (λy3 _=>ae.bif (λ_=>ae.bind (kid1 t (by omega)) (λy5 h5=>ae.bind (wN y5) (λy6 _=>ae.bif (λ_=>ae.ret trivial) (λ_=>?_)))) (λ_=>?_)))
   all_goals exact ae.bind (kid1 t (by omega)) (λy8 h8=>ae.bind (h8.1.reach w) (λy9 _=>ae.bif (λ_=>fin) (λ_=>ae.ret trivial)))
  have under:∀w:aB,ae ((f36 Pf) t x w) (λ_=>True):=λw=>by
   rw[Ii,oO];exact ae.bif (λ_=>ae.bind (kid0 t (by omega)) (λy2 h2=>ae.bind (h2.1.under w) (λy3 _=>ae.bif (λ_=>ae.bind (kid1 t (by omega)) (λy5 h5=>ae.bind (wN y5) (λ_ _=>ae.ret trivial))) (λ_=>ae.ret trivial)))) (λ_=>ae.bind (num w) (λ_ _=>ae.ret trivial))
  have hold:ae ((f34 Pf) t x) (λ_=>True):=by
   rw[Ie,oL];refine ae.bif (λ_=>ae.ret trivial) (λ_=>ae.bif (λ_=>ae.bind (kid0 t (by omega)) (λy h=>ae.bind h.1.gQ (λ_ _=>ae.ret trivial))) (λ_=>ae.bif (λ_=>?_) (λ_=>ae.bif (λ_=>?_) (λ_=>ae.ret trivial))))
   ·exact ae.bind (kid0 t (by omega)) (λy h=>ae.bind h.1.hold (λ_ _=>ae.bif (λ_=>ae.ret trivial) (λ_=>ae.bind (kid1 t (by omega)) (λy h=>ae.bind h.1.hold (λ_ _=>ae.ret trivial)))))
   ·exact ae.bind (kid0 t (by omega)) (λy h=>ae.bind h.1.hold (λ_ _=>ae.bif (λ_=>ae.bind (kid1 t (by omega)) (λy h=>ae.bind h.1.hold (λ_ _=>ae.ret trivial))) (λ_=>ae.ret trivial)))
  refine⟨?_,hold,reach,under⟩;rw[qR,ky];have cov0:ae (((f30 Pf) x 0).bind λy=>((f21 Pf) t y).bind λz=>some z) (λ_=>True):=ae.bind (kid0 t (by omega)) (λy h=>ae.bind h.1.gQ (λ_ _=>ae.ret trivial));have proj:ae (((f32 Pf) x).bind λy35=>bif !y35.snd then some false else((f33 Pf) t y35.fst).bind λy37=>bif y37.snd then((f30 Pf) x 0).bind λy39=>((f21 Pf) y37.fst y39).bind λy40=>some y40 else some false) (λ_=>True):=
   ae.bind (EO x) (λy _=>ae.bif (λ_=>ae.ret trivial) (λ_=>ae.bind (FI t _ hp) (λu hu=>ae.bif (λ_=>ae.bind (kid0 u.1 (by omega)) (λy h=>ae.bind h.1.gQ (λ_ _=>ae.ret trivial))) (λ_=>ae.ret trivial))))
  refine ae.bind (NG x t hp) (λy1 _=>ae.bif (λ_=>ae.ret trivial) (λ_=>ae.bif (λ_=>?_) (λ_=>ae.bif (λ_=>?_) (λ_=>ae.bif (λ_=>?_) (λ_=>ae.bif (λ_=>?_) (λ_=>ae.bif (λ_=>cov0) (λ_=>ae.bif (λ_=>proj) (λ_=>ae.bif (λ_=>proj) (λ_=>ae.bif (λ_=>?_) (λ_=>ae.bif (λ_=>?_) (λ_=>ae.bif (λ_=>?_) (λ_=>ae.ret trivial))))))))))))
  ·exact ae.bind (kid0 t (by omega)) (λy h=>ae.bind h.1.gQ (λ_ _=>ae.bif (λ_=>ae.ret trivial) (λ_=>ae.bind (kid1 t (by omega)) (λy h=>ae.bind h.1.gQ (λ_ _=>ae.ret trivial)))))
  ·exact ae.bind (kid1 t (by omega)) (λy h=>ae.bind h.1.gQ (λ_ _=>ae.bif (λ_=>ae.bind (kid2 t (by omega)) (λy h=>ae.bind h.1.gQ (λ_ _=>ae.ret trivial))) (λ_=>ae.ret trivial)))
  ·refine kJ (L:=λi=>(lT Pf) t x i) (len:=x.Kids.length) (λ_=>True) (λi hi _ k=>?_) (λ_=>?_) 0 (by omega) trivial
   ·show ae ((lT Pf) t x i) _;obtain⟨y,hy⟩:=b3 hi;have:decide (i<x.Kids.length)=true:=by simpa using hi
    rw[FJ,nF,ab.a8,bO,this,bZ,b0 hy,aP,xN t _ hp,aP,cI i (by omega)];exact ae.bind (kids y (bV hy) _ (by simp)).gQ (λ_ _=>ae.bif (λ_=>ae.ret trivial) (λ_=>k trivial))
   ·show ae ((lT Pf) t x x.Kids.length) _;have:decide (x.Kids.length<x.Kids.length)=false:=by simp
    rw[FJ,nF,ab.a8,bO,this,cw];exact ae.ret trivial
  ·rw[xN t _ hp,xN t _ hp,aP,aP];exact ae.bind (kid0 _ (by simp)) (λy h=>ae.bind h.1.gQ (λ_ _=>ae.bif (λ_=>ae.bind (kid1 _ (by simp)) (λy h=>ae.bind h.1.gQ (λ_ _=>ae.ret trivial))) (λ_=>ae.ret trivial)))
  ·exact ae.bind (kid0 t (by omega)) (λy h=>ae.bind h.1.hold (λ_ _=>ae.ret trivial))
  ·exact ae.bif (λ_=>ae.bind (kid0 t (by omega)) (λy h=>ae.bind (h.1.reach _) (λ_ _=>ae.ret trivial))) (λ_=>ae.bif (λ_=>ae.bind (kid0 t (by omega)) (λy h=>ae.bind (h.1.under _) (λ_ _=>ae.ret trivial))) (λ_=>ae.ret trivial))
  ·rw[PU,qX,MI,nh];refine ae.bind (P:=λ_=>True) (ae.bind (P:=λ_=>True) ?_ (λ_ _=>ae.ret trivial)) (λ_ _=>ae.ret trivial);refine kJ (L:=λi=>(lE Pf) x.Kids x t i) (len:=x.Kids.length) (λ_=>True) (λi hi _ k=>?_) (λ_=>?_) 0 (by omega) trivial
   ·show ae ((lE Pf) x.Kids x t i) _;obtain⟨y,hy⟩:=b3 hi;have hyo:=ab.gf hkk (bV hy);have hyo':=hyo;rw[ab.dv]at hyo';have:decide (i<x.Kids.length)=true:=by simpa using hi
    rw[CS,mV,ab.a8,bO,this,bZ,b0 hy,aP,cI i (by omega)];refine ae.bind (P:=λ_=>True) ?_ (λ_ _=>ae.bif (λ_=>ae.ret trivial) (λ_=>k trivial));rw[PV,qY,ab.a8];refine ae.bif (λ_=>ae.bif (λhl=>?_) (λ_=>ae.ret trivial)) (λ_=>ae.ret trivial);obtain⟨z,hz⟩:=b3 (l:=y.Kids) (i:=0) (by simp at hl;exact hl);have e0:aq y.Kids 0=some z:=hz;have hzm:=bV hz;have hzo:=ab.gf hyo'.2.2.2.2.2.2 hzm;have hzo':=hzo;rw[ab.dv]at hzo';rw[e0];simp only[aP];refine ae.bind (pA (B:=B) (by omega) hzo'.2.1.2) (λ_ _=>ae.bif (λ_=>?_) (λ_=>ae.ret trivial));refine ae.bind (P:=λ_=>True) ?_ (λ_ _=>ae.ret trivial);have c1:=sE hzm;have c2:=sE (bV hy);exact(ih z (by omega) hzo t (by omega)).gQ
   ·show ae ((lE Pf) x.Kids x t x.Kids.length) _;have:decide (x.Kids.length<x.Kids.length)=false:=by simp
    rw[CS,mV,ab.a8,bO,this,cw];exact ae.ret trivial
theorem PO {x:ab} (hx:x.ok B) {t:bd} (ht:t.path.length+eY x<1000000):qW x t:=GV hB (eY x+1) x (by omega) hx t ht
