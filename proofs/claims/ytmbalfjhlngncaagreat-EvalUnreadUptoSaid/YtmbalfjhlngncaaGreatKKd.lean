/- value.Valid decides the elements. -/
import Derived.Test.YtmbalfjhlngncaaGreatKKa
set_option linter.all false
namespace Go.Proofs.YtmbalfjhlngncaaGreat
open Go Go.Bw
theorem eR {P:Prop} (h:¬P):(false=true↔P):=⟨λe=>(by cases e),λg=>absurd g h⟩
theorem nz {P:Prop} (h:P):(true=true↔P):=⟨λ_=>h,λ_=>rfl⟩
section
variable {B:Nat} (hB:B<=1048576)
include hB
theorem Zt:∀l:ah,l.ok B->cj l->∀v:af,SV v->ab ((f64 Pf) l v) (λr=>r=true↔VE l v):=by
 refine ah.ind λl ih hl hL v hv=>?_;have hl':=hl;rw[ah.dO]at hl';obtain⟨_,_,_,⟨hn,_⟩,⟨hp,hpp⟩,hr,hrr⟩:=hl';cases hv with
 |mk v1 v2 v3 v4 v5 v6=>
 rw[e64,Bq];simp only[adA,aw];have prod:(l.Kind=6\/l.Kind=7)->ab (bif !la v false false true false then(some (false))else(bif (↑(af.rows v.aj).length:Int) !=(↑(ah.rows l.aj).length:Int)then(some (false))else((pf Pf) l v 0))) (λr=>r=true↔VE l v):=by
  intro hk;have no:¬(la v false false true false=true/\v.aj.length=l.aj.length)->¬VE l v:=λh g=>by
   obtain⟨ps,rfl,h1,_⟩:=g.k6 hk;exact h ⟨iO.2 rfl,h1⟩
  refine ab.bif (λh=>ab.ret (eR (no λg=>by rw[g.1]at h;cases h))) (λh=>?_);have h:la v false false true false=true:=by simpa using h
  have e:=iO.1 h;simp only[aD,aF]at e;rw[af.aI,ah.aI];refine ab.bif (λh=>ab.ret (eR (no λg=>by rw[g.2]at h;simp at h))) (λh=>?_);have h1:v.aj.length=l.aj.length:=by simp at h;exact_mod_cast h
  have out:VE l v↔∀(i:Nat) x p,v.aj[i]? =some x->l.aj[i]? =some p->VE p x:=by
   constructor
   ·intro g;obtain⟨ps,rfl,_,h3⟩:=g.k6 hk;exact h3
   ·intro g;rw[e];exact .prod hk h1 g
  rw[out];refine eZ (L:=λi=>(pf Pf) l v i) (P:=λr=>r=true↔∀(i:Nat) x p,v.aj[i]? =some x->l.aj[i]? =some p->VE p x) (len:=v.aj.length) (λj=>∀(i:Nat) x p,i<j->v.aj[i]? =some x->l.aj[i]? =some p->VE p x) (λi hi hI k=>?_) (λhI=>?_) 0 (by omega) (λi x p hi=>by omega)
  ·show ab ((pf Pf) l v i) _;obtain⟨x,hx⟩:=bw hi;obtain⟨q,hq⟩:=bw (l:=l.aj) (i:=i) (by omega);have hxm:=a7 hx;have hqm:=a7 hq;have:decide (i<v.aj.length)=true:=by simpa using hi
   rw[Tm,uq,af.aI,a6,this,aD,bg hx,aw,bg hq,aw];refine ab.bind (ih q hqm (ah.gJ hpp hqm) (hL.part hqm) x (v6 x hxm)) (λy hy=>?_);refine ab.bif (λh=>ab.ret (eR λg=>?_)) (λh=>?_)
   ·rw[hy.2 (g i x q hx hq)]at h;cases h
   ·have hy:=hy.1 (by simpa using h);rw[bM i (by omega)];refine k λj z r hj hz hr=>?_;rcases nf.1 hj with hj|rfl
    ·exact hI j z r hj hz hr
    ·rw[hx]at hz;cases hz;rw[hq]at hr;cases hr;exact hy
  ·show ab ((pf Pf) l v v.aj.length) _;have:decide (v.aj.length<v.aj.length)=false:=by simp
   rw[Tm,uq,af.aI,a6,this,aF];exact ab.ret (nz λi x p hx=>hI i x p (b9.1 hx).1 hx)
 refine hL.cases (λhk=>?_) (λhk=>?_) (λhk=>?_) (λp hk hp'=>?_) (λhk=>?_) (λp q hk hp'=>?_) (λhk=>?_) (λhk=>?_)
 ·simp only[hk,Int.reduceBEq,aD,aF];refine ab.bif (λh=>?_) (λh=>ab.ret (eR λg=>?_))
  ·have e:=iO.1 h;simp only[aD,aF]at e;refine ab.bif (λh0=>ab.ret (nz ?_)) (λh0=>ab.ret ?_)
   ·rw[e];exact .flag hk (.inl (by simpa using h0))
   ·rw[beq_iff_eq];exact⟨λh1=>by rw[e];exact .flag hk (.inr h1),λg=>by
     obtain⟨n,rfl,h2⟩:=g.k1 hk;rcases h2 with rfl|rfl
     ·simp at h0
     ·rfl⟩
  ·obtain⟨n,rfl,_⟩:=g.k1 hk;rw[iO.2 (by rfl)]at h;cases h
 ·have main:ab (bif la v true false false false then(bif decide (l.Lo<=v.N)then(some (decide (v.N<=l.Hi)))else(some false))else(some false)) (λr=>r=true↔VE l v):=by
   refine ab.bif (λh=>?_) (λh=>ab.ret (eR λg=>?_))
   ·have e:=iO.1 h;simp only[aD,aF]at e;have iff:VE l v↔l.Lo<=v.N/\v.N<=l.Hi:=⟨λg=>by obtain⟨n,rfl,h2⟩:=g.k2 hk;exact h2,λg=>by rw[e];exact .num hk g.1 g.2⟩;rw[iff];refine ab.bif (λh0=>ab.ret ?_) (λh0=>ab.ret (eR ?_))
    ·rw[iL]at h0⊢;exact⟨λh=>⟨h0,h⟩,λh=>h.2⟩
    ·rw[decide_eq_false_iff_not]at h0;exactλh=>h0 h.1
   ·obtain⟨n,rfl,_⟩:=g.k2 hk;rw[iO.2 (by rfl)]at h;cases h
  rcases hk with hk|hk
  ·simp only[hk,Int.reduceBEq,aD,aF];exact main
  ·simp only[hk,Int.reduceBEq,aD,aF];exact main
 ·obtain⟨r,ha,har⟩:=F6 (onl:=l.Names) (ns:=v.Names) (by omega) (by omega) (λs hs=>by have:=v2 s hs;omega);obtain⟨c,hc,hcr⟩:=Z5 (rs:=l.bl) (ns:=v.Names) (by omega) (λr hr=>by have:=(hrr r hr).1.1;omega) (by omega);have out:∀{b:Bool},(b=true↔jg l.Names v.Names/\lr l.bl v.Names)->la v false true false false=true->(b=true↔VE l v):=λhb h=>by
   have e:=iO.1 h;simp only[aD,aF]at e;rw[hb];exact⟨λg=>by rw[e];exact .set hk g.1 g.2,λg=>by obtain⟨ns,rfl,h2⟩:=g.k4 hk;exact h2⟩
  have no:la v false true false false=false->¬VE l v:=λh g=>by
   obtain⟨ns,rfl,_⟩:=g.k4 hk;rw[iO.2 (by rfl)]at h;cases h
  rcases hk with hk|hk
  ·simp only[hk,Int.reduceBEq,aD,aF];refine ab.bif (λh=>?_) (λh=>ab.ret (eR (no h)));have hR:l.bl=[]:=by have:=hL.shape;unfold gL at this;simp[hk]at this;exact this.2.1
   rw[ha,aw];refine ab.ret (out ?_ h);rw[har,hR];simp[lr]
  ·simp only[hk,Int.reduceBEq,aD,aF];refine ab.bif (λh=>?_) (λh=>ab.ret (eR (no h)));rw[ha,aw];refine ab.bif (λh0=>?_) (λh0=>ab.ret (out (eR λg=>?_) h))
   ·rw[hc,aw];exact ab.ret (out (by rw[hcr];exact⟨λg=>⟨har.1 h0,g⟩,λg=>g.2⟩) h)
   ·rw[har.2 g.1]at h0;cases h0
 ·simp only[hk,Int.reduceBEq,aD,aF];have hm:p∈l.aj:=by rw[hp'];simp
  have po:=ah.gJ hpp hm;have pL:=hL.part hm;have no:¬(la v false true true false=true/\v.Names.length=v.aj.length/\jg l.Names v.Names)->¬VE l v:=λh g=>by
   obtain⟨p',ns,ps,_,rfl,h1,h2,_⟩:=g.k5 hk;exact h ⟨iO.2 rfl,h2,h1⟩
  refine ab.bif (λh=>ab.ret (eR (no λg=>by rw[g.1]at h;cases h))) (λh=>?_);have h:la v false true true false=true:=by simpa using h
  have e:=iO.1 h;simp only[aD,aF]at e;rw[bD,af.aI];refine ab.bif (λh=>ab.ret (eR (no λg=>by rw[g.2.1]at h;simp at h))) (λh=>?_);have h1:v.Names.length=v.aj.length:=by simp at h;exact_mod_cast h
  obtain⟨r,ha,har⟩:=F6 (onl:=l.Names) (ns:=v.Names) (by omega) (by omega) (λs hs=>by have:=v2 s hs;omega);rw[ha,aw];refine ab.bif (λh=>ab.ret (eR (no λg=>by rw[har.2 g.2.2]at h;cases h))) (λh=>?_);have h2:jg l.Names v.Names:=har.1 (by simpa using h);have out:VE l v↔∀x∈v.aj,VE p x/\x≠bot p:=by
   constructor
   ·intro g x hx;obtain⟨p',ns,ps,hp2,rfl,_,_,h3,h4⟩:=g.k5 hk;rw[hp']at hp2;cases hp2;exact⟨h3 x hx,h4 x hx⟩
   ·intro g;rw[e];exact .map hk hp' h2 h1 (λx hx=>(g x hx).1) (λx hx=>(g x hx).2)
  rw[out];refine eZ (L:=λi=>(pg Pf) l v i) (P:=λr=>r=true↔∀x∈v.aj,VE p x/\x≠bot p) (len:=v.aj.length) (λi=>∀x∈v.aj.take i,VE p x/\x≠bot p) (λi hi hI k=>?_) (λhI=>?_) 0 (by omega) (by simp)
  ·show ab ((pg Pf) l v i) _;obtain⟨x,hx⟩:=bw hi;have hxm:=a7 hx;have:decide (i<v.aj.length)=true:=by simpa using hi
   rw[Tn,uv,af.aI,a6,this,aD,bg hx,aw,hp',dZ,aw];refine ab.bind (ih p hm po pL x (v6 x hxm)) (λy hy=>?_);refine ab.bif (λh=>ab.ret (eR λg=>?_)) (λh=>?_)
   ·rw[hy.2 (g x hxm).1]at h;cases h
   ·have hy:=hy.1 (by simpa using h);rw[aw,Gy hB p po,aw];rcases aaY (b:=bot p) (X:=some false) (Y:=(pg Pf) l v (IntKind.i64.wrap ((i:Int)+1))) (by omega) (v6 x hxm).bv with⟨e1,e2⟩|⟨e1,e2⟩
    ·rw[e2];exact ab.ret (eR λg=>(g x hxm).2 e1)
    ·rw[e2,bM i (by omega)];refine k λz hz=>?_;rw[eY,hx]at hz;rcases bO.1 hz with hz|hz
     ·exact hI z hz
     ·simp at hz;subst hz;exact⟨hy,e1⟩
  ·show ab ((pg Pf) l v v.aj.length) _;have:decide (v.aj.length<v.aj.length)=false:=by simp
   rw[Tn,uv,af.aI,a6,this,aF];rw[eQ]at hI;exact ab.ret (nz hI)
 ·simp only[hk,Int.reduceBEq,aD,aF];exact prod (.inl hk)
 ·simp only[hk,Int.reduceBEq,aD,aF];exact prod (.inr hk)
 ·simp only[hk,Int.reduceBEq,aD,aF];refine ab.bif (λh0=>ab.ret ?_) (λh0=>ab.bif (λh2=>ab.ret ?_) (λh2=>ab.bif (λh1=>ab.bif (λh=>?_) (λh=>ab.ret (eR λg=>?_))) (λh1=>ab.ret (eR λg=>?_))))
  ·have h0:v.N=0:=by simpa using h0
   rw[iO];simp only[aD,aF];constructor
   ·intro e;rw[e];exact .yx hk (.inl h0)
   ·intro g;rcases g.k8 hk with⟨n,rfl,_⟩|⟨s,rfl,_⟩
    ·rfl
    ·cases h0
  ·have h2:v.N=2:=by simpa using h2
   rw[iO];simp only[aD,aF];constructor
   ·intro e;rw[e];exact .yx hk (.inr h2)
   ·intro g;rcases g.k8 hk with⟨n,rfl,_⟩|⟨s,rfl,_⟩
    ·rfl
    ·cases h2
  ·have h1:v.N=1:=by simpa using h1
   have e:=iO.1 h;simp only[aD,aF]at e;rw[bD];have out:VE l v↔v.Names.length=1/\jg l.Names v.Names:=by
    constructor
    ·intro g;rcases g.k8 hk with⟨n,rfl,hn⟩|⟨s,rfl,hs⟩
     ·have:n=1:=h1;omega
     ·exact⟨rfl,hs⟩
    ·rintro ⟨g1,g2⟩;obtain⟨s,hs⟩:=uM g1;rw[e,hs,h1];rw[hs]at g2;exact .IB hk g2
   rw[out];refine ab.bif (λhlen=>?_) (λhlen=>ab.ret (eR λg=>?_))
   ·obtain⟨r,ha,har⟩:=F6 (onl:=l.Names) (ns:=v.Names) (by omega) (by omega) (λs hs=>by have:=v2 s hs;omega);have hlen:v.Names.length=1:=by simp at hlen;exact_mod_cast hlen
    rw[ha,aw];exact ab.ret (by rw[har];exact⟨λg=>⟨hlen,g⟩,λg=>g.2⟩)
   ·rw[g.1]at hlen;simp at hlen
  ·have h1:v.N=1:=by simpa using h1
   rcases g.k8 hk with⟨n,rfl,hn⟩|⟨s,rfl,hs⟩
   ·have:n=1:=h1;omega
   ·rw[iO.2 (by rfl)]at h;cases h
  ·rcases g.k8 hk with⟨n,rfl,hn⟩|⟨s,rfl,hs⟩
   ·rcases hn with rfl|rfl
    ·cases h0
    ·cases h2
   ·cases h1
 ·simp only[hk,Int.reduceBEq,aD,aF];refine ab.bif (λh=>?_) (λh=>ab.ret (eR λg=>?_))
  ·have e:=iO.1 h;simp only[aD,aF]at e;refine ab.bind (Zu v4 v5) (λy hy=>ab.ret ?_);rw[hy];exact⟨λg=>by rw[e];exact .Bm hk g,λg=>by obtain⟨es,rfl,h2⟩:=g.k9 hk;exact h2⟩
  ·obtain⟨es,rfl,_⟩:=g.k9 hk;rw[iO.2 (by rfl)]at h;cases h
theorem Db {l:ah} {v:af} (hl:l.ok B) (hv:SV v):ab ((f26 Pf) l v) (λr=>r=true↔cj l/\VE l v):=by
 rw[e26,Br];refine ab.bind (aaZ (by omega) hl) (λy hy=>ab.bif (λh=>?_) (λh=>ab.ret (eR λg=>?_)))
 ·have hL:=hy.1 (by simpa using h);refine ab.bind (Zt hB l hl hL v hv) (λz hz=>ab.ret ?_);rw[hz];exact⟨λg=>⟨hL,g⟩,λg=>g.2⟩
 ·rw[hy.2 g.1]at h;cases h
theorem Gn {l:ah} {v:af} (hl:l.ok B) (hL:cj l) (hv:SV v) (h:VE l v):(f26 Pf) l v=some true:=by
 obtain⟨r,e,hr⟩:=Db hB hl hv;rw[e,hr.2 ⟨hL,h⟩]
theorem Zq {l:ah} {v:af} (hl:l.ok B) (hL:cj l) (hv:SV v):∃r,(f149 Pf) l v=some r/\(r=true↔v=bot l):=by
 obtain⟨r,e,hr⟩:=wM (b:=bot l) (m:=274877906944) (by omega) hv.bv;rw[af3,zK,CO (by omega) hl hL,aw,Gy hB l hl,aw,e];exact⟨r,rfl,hr⟩
end
theorem ae5 {x:Int} (h0:0<=x) (h1:x<18446744073709551616):IntKind.u64.wrap x=x:=by
 simp[IntKind.wrap,IntKind.bits,IntKind.signed];omega
theorem aez {i j:Nat} (h:i+j<4611686018427387904):IntKind.i64.wrap ((IntKind.u64.wrap (IntKind.i64.wrap ((i:Int)+(j:Int)))).fdiv (2^min (Int.toNat 1) IntKind.u64.bits))=(((i+j)/2:Nat):Int):=by
 have e:((2:Int)^min (Int.toNat 1) IntKind.u64.bits)=2:=by decide
 rw[e,wrap64 (x:=(i:Int)+j) (by omega) (by omega),ae5 (by omega) (by omega),Int.fdiv_eq_ediv_of_nonneg _ (by omega),wrap64 (by omega) (by omega)];omega
theorem abY (a b:List UInt8):(f309 Pf) a b=some (Op.bytesLess a b):=by
 rw[afT,zB,afU,Ek,pE,Ek,pE];simp
theorem aaW {u:List (List UInt8)} (hu:rising u=true) {h m:Nat} {y x:List UInt8} (hy:u[h]? =some y) (hx:u[m]? =some x):Op.bytesLess y x=decide (h<m):=by
 rw[sD,Fz]at hu;obtain⟨h1,h2⟩:=b9.1 hy;obtain⟨m1,m2⟩:=b9.1 hx;by_cases e:h<m
 ·have:=hu h m h1 m1 e;rw[h2,m2]at this;rw[this];simp[e]
 ·rw[dM e];by_cases e':h=m
  ·subst e';rw[hx]at hy;cases hy;exact jG _
  ·have:=hu m h m1 h1 (by omega);rw[h2,m2]at this;exact oF this
theorem aaX {u:List (List UInt8)} {x:List UInt8} {m:Nat} (hu:rising u=true) (hl:u.length<=274877906944) (hx:u[m]? =some x):(f321 Pf) u x=some ((m:Int),true):=by
 rw[afV,u4,bD];have hm:=(b9.1 hx).1;have key:∀k i j:Nat,j-i<=k->i<=m->m<=j->j<=u.length->(tr Pf) u x (i:Int) (j:Int)=some ((m:Int),true):=by
  intro k
  induction k with
  |zero=>
   intro i j hk h1 h2 h3;have e1:i=m:=by omega
   have e2:j=m:=by omega
   subst e1;subst e2;rw[Q7,tu,a6,bD,a6];have:decide (j<j)=false:=by simp
   rw[this,aF,dI hm,aD,bg hx,aw];simp
  |succ k ih=>
   intro i j hk h1 h2 h3;by_cases e:i<j
   ·obtain⟨y,hy⟩:=bw (l:=u) (i:=(i+j)/2) (by omega);rw[Q7,tu,a6,dI e,aD,aez (by omega),bg hy,aw,abY,aw,aaW hu hy hx,bM _ (by omega)];by_cases g:(i+j)/2<m
    ·rw[dI g,aD];exact ih _ _ (by omega) (by omega) h2 h3
    ·rw[dM g,aF];exact ih _ _ (by omega) h1 (by omega) (by omega)
   ·have e1:i=m:=by omega
    have e2:j=m:=by omega
    subst e1;subst e2;exact ih j j (by omega) (by omega) (by omega) h3
 exact key u.length 0 u.length (by omega) (by omega) (by omega) (by omega)
abbrev ix (u:List (List UInt8)) (x:List UInt8):Nat:=u.idxOf x
theorem xQ {u:List (List UInt8)} {x:List UInt8} (h:x∈u):u[ix u x]? =some x:=by
 have:=YJ h;rw[ML this,List.getElem_idxOf]
theorem aeA {u:List (List UInt8)} (hu:rising u=true) {x y:List UInt8} {k:Nat} (hx:x∈u) (hy:u[k]? =some y):k=ix u x↔y=x:=by
 constructor
 ·intro e;rw[e,xQ hx]at hy;cases hy;rfl
 ·intro e;subst e;exact ni hu hy (xQ hx)
def gM (u:List (List UInt8)) (r:aU):cK:=⟨r.If.map λx=>(ix u x:Int),ix u r.dt⟩
def dC (u cur:List (List UInt8)):List Bool:=u.map λx=>cur.contains x
theorem CR {u cur:List (List UInt8)} {x:List UInt8} (h:x∈u):(dC u cur)[ix u x]? =some (cur.contains x):=by
 unfold dC;rw[kf,xQ h];rfl
theorem PV {u cur:List (List UInt8)} {x:List UInt8} (hu:rising u=true) (h:x∈u):(dC u cur).set (ix u x) true=dC u (cur++[x]):=by
 refine nc λk=>?_;rw[List.getElem?_set];unfold dC;rw[kf,kf,iK];have hl:=YJ h;by_cases e:ix u x=k
 ·subst e;rw[bq rfl,bq hl,xQ h];simp
 ·rw[aN e];cases hk:u[k]? with
  |none=>rfl
  |some y=>
   have:y≠x:=λe'=>e ((aeA hu h hk).2 e').symm;simp[this]
theorem xa {u cur:List (List UInt8)}:(dC u cur).length=u.length:=iK _
section
variable {u:List (List UInt8)} (hu:rising u=true) (hl:u.length<=1048576)
include hu hl
theorem IC {x:List UInt8} {hs:List cK} (h:x∈u):(f299 Pf) ⟨u,hs⟩ x=some (ix u x:Int):=by
 rw[afW,zE,aaX hu (by omega) (xQ h)];rfl
theorem aeB {ns:List (List UInt8)} {hs:List cK} (hn:rising ns=true) (hnl:ns.length<=274877906944) (hs':∀x∈ns,x∈u):(f264 Pf) ⟨u,hs⟩ ns=some (dC u ns,0):=by
 have hm:nH ((u.length:Nat):Int)=some u.length:=by
  show(bif Nat.ble u.length 274877906944 then some u.length else none)=_;rw[pR (by omega)];rfl
 have h0:List.replicate u.length false=dC u []:=by
  unfold dC;simp[List.map_const']
 rw[afX,zG,nq _ (by omega),hn,aw,fm,aF,bD,hm,aw,h0];refine ab.of (dX (L:=λi s=>(qy Pf) ⟨u,hs⟩ ns [] s i) (P:=λr=>r=(dC u ns,0)) (len:=ns.length) (λi s=>s=dC u (ns.take i)) (λi s hi hI k=>?_) (λs hI=>?_) 0 (dC u []) (by omega) rfl)
 ·show ab ((qy Pf) ⟨u,hs⟩ ns [] s i) _;obtain⟨x,hx⟩:=bw hi;have hxu:=hs' x (a7 hx);have:decide (i<ns.length)=true:=by simpa using hi
  have hlt:=YJ hxu;subst hI;rw[Q8,tv,bD,a6,this,aD,bg hx,aw,IC hu hl hxu,aw,dM (by omega),aF,bg (CR hxu),aw,bM i (by omega)];refine k _ ?_;rw[lD,PV hu hxu,eY,hx];rfl
 ·show ab ((qy Pf) ⟨u,hs⟩ ns [] s ns.length) _;have:decide (ns.length<ns.length)=false:=by simp
  rw[Q8,tv,bD,a6,this,aF];exact ab.ret (by rw[hI,eQ])
theorem adz {cs:List (List UInt8)} {hs:List cK}:(f265 Pf) ⟨u,hs⟩ (dC u cs)=some (u.filter λx=>cs.contains x):=by
 rw[afY,u5];refine ab.of (dX (L:=λi s=>(oP Pf) ⟨u,hs⟩ (dC u cs) s i) (P:=λr=>r=u.filter λx=>cs.contains x) (len:=u.length) (λi s=>s=(u.take i).filter λx=>cs.contains x) (λi s hi hI k=>?_) (λs hI=>?_) 0 [] (by omega) rfl)
 ·show ab ((oP Pf) ⟨u,hs⟩ (dC u cs) s i) _;obtain⟨x,hx⟩:=bw hi;have hb:(dC u cs)[i]? =some (cs.contains x):=by unfold dC;rw[kf,hx];rfl
  have:decide (i<u.length)=true:=by simpa using hi
  have hlen:s.length<=u.length:=by rw[hI];exact iM (BY _ _) (by rw[gU];omega)
  rw[Q9,tz,sx,xa,a6,this,aD,bg hb,aw,bg hx,aw,bM i (by omega),dW (by simp;omega),aD];refine ab.bif (λh=>k _ ?_) (λh=>k _ ?_)
  ·rw[hI,eY,hx,FH];simp only[Option.toList_some,pU,h,if_true,List.filter_nil]
  ·rw[hI,eY,hx,FH];simp only[Option.toList_some,pU,h];simp
 ·show ab ((oP Pf) ⟨u,hs⟩ (dC u cs) s u.length) _;have:decide (u.length<u.length)=false:=by simp
  rw[Q9,tz,sx,xa,a6,this,aF];exact ab.ret (by rw[hI,eQ])
omit hl in
theorem abZ {r:aU} {cur:List (List UInt8)} (hr:(∀x∈r.If,x∈u)/\r.dt∈u) (hil:r.If.length<=1048576):(f322 Pf) (gM u r) (dC u cur)=some (!(cur.contains r.dt)&&r.If.all λx=>cur.contains x):=by
 rw[afZ,zH];show((ao (dC u cur) (ix u r.dt:Int)).bind λx1=>_)=_;rw[bg (CR hr.2),aw];cases cur.contains r.dt
 ·rw[aF,BU,Bool.true_and];have:=xp (a:=r.If) (L:=λi=>(qz Pf) (gM u r) (dC u cur) i) (λx=>cur.contains x) true (λi x hx hi=>by
   show(qz Pf) (gM u r) (dC u cur) i=_;have hp:(gM u r).mu[i]? =some (ix u x:Int):=by unfold gM;rw[kf,hx];rfl
   have hlen:(gM u r).mu.length=r.If.length:=by unfold gM;exact iK _
   rw[Ra,tA,nj,hlen,a6];have:decide (i<r.If.length)=true:=by simpa using hi
   rw[this,aD,bg hp,aw,bg (CR (hr.1 x (a7 hx))),aw,bM i (by omega)];cases cur.contains x<;>rfl) (by
   show(qz Pf) (gM u r) (dC u cur) _=_;have hlen:(gM u r).mu.length=r.If.length:=by unfold gM;exact iK _
   rw[Ra,tA,nj,hlen,a6];simp)
  rw[rQ]at this;exact this
 ·rfl
def HI (u:List (List UInt8)) (rs:List aU):Prop:=∀r∈rs,((∀x∈r.If,x∈u)/\r.dt∈u)/\r.If.length<=1048576/\rising r.If=true
def ru (u:List (List UInt8)) (rs:List aU) (cur cs:List (List UInt8)):Prop:=(∀x∈cs,x∈u)/\(∀x∈cur,x∈cs)/\lr rs cs/\∀ds,lr rs ds->(∀x∈cur,x∈ds)->∀x∈cs,x∈ds
omit hu hl in
theorem ab0 {u cur:List (List UInt8)} {x:List UInt8} (hx:x∈u) (hn:x∉cur):(u.filter λy=>!((cur++[x]).contains y)).length<(u.filter λy=>!(cur.contains y)).length:=by
 induction u with
 |nil=>cases hx
 |cons z u ih=>
  have le:∀v:List (List UInt8),(v.filter λy=>!((cur++[x]).contains y)).length<=(v.filter λy=>!(cur.contains y)).length:=by
   intro v
   induction v with
   |nil=>simp
   |cons w v ihv=>
    rw[pU,pU];by_cases h1:w∈cur
    ·simp[h1];simpa using ihv
    ·by_cases h2:w=x
     ·subst h2;simp[h1];have:=ihv;simp at this;try omega
     ·simp[h1,h2];simpa using ihv
  rw[pU,pU];have:=le u;by_cases h2:z=x
  ·subst h2;simp[hn];simp at this;omega
  ·have hx':x∈u:=by rcases b6.1 hx with e|e;exact absurd e.symm h2;exact e
   have:=ih hx';by_cases h1:z∈cur
   ·simp[h1];simpa using this
   ·simp[h1,h2];simp at this;omega
theorem ab1 {rs:List aU} {a1:List Bool} {m1:Nat} (hr:HI u rs) (hrl:rs.length<=1048576):∀(n:Nat) (cur:List (List UInt8)) (st:List cQ),(u.filter λy=>!(cur.contains y)).length<n->(∀x∈cur,x∈u)->st.length+(u.filter λy=>!(cur.contains y)).length<=u.length->
  ab ((rZ Pf) ⟨u,rs.map (gM u)⟩ a1 m1 [] [] (dC u cur) st) (λr=>∃cs,r.1=dC u cs/\ru u rs cur cs):=by
 intro n
 induction n with
 |zero=>
  intro cur st hn hc hs;omega
 |succ n ih=>
  intro cur st hn hc hs;rw[Zs,r6];refine eZ (L:=λi=>(ov Pf) ⟨u,rs.map (gM u)⟩ a1 m1 [] [] (dC u cur) st i) (P:=λr=>∃cs,r.1=dC u cs/\ru u rs cur cs) (len:=rs.length) (λi=>∀r∈rs.take i,(∀x∈r.If,x∈cur)->r.dt∈cur) (λi hi hI k=>?_) (λhI=>?_) 0 (by omega) (by simp)
  ·show ab ((ov Pf) ⟨u,rs.map (gM u)⟩ a1 m1 [] [] (dC u cur) st i) _;obtain⟨x,hx⟩:=bw hi;have hm:=a7 hx;have hrx:=hr x hm;have hh:(rs.map (gM u))[i]? =some (gM u x):=by rw[kf,hx];rfl
   have:decide (i<rs.length)=true:=by simpa using hi
   have hev:(f301 Pf) (i:Int)=some true:=by rw[af0,zI]
   have hneg:((i:Int)== -1)=false:=by simp
   rw[Nw,r7,cK.aI,iK,a6,this,aD,bg hh,aw,hev,aw,aD,abZ hu hrx.1 hrx.2.1,aw,bM i (by omega)];refine ab.bif (λh=>?_) (λh=>k λr hr'=>?_)
   ·simp only[bJ,jC,fR,rR]at h;have hno:x.dt∉cur:=by have:=h.1;intro g;rw[rR.2 g]at this;cases this
    have hct:=ab0 hrx.1.2 hno;rw[hneg,Bool.false_and,aF];show ab ((ao (dC u cur) (ix u x.dt:Int)).bind _) _;rw[bg (CR hrx.1.2),aw,dW (by simp;omega),aD];show ab ((rZ Pf) ⟨u,rs.map (gM u)⟩ a1 m1 [] [] ((dC u cur).set (ix u x.dt:Int).toNat true) _) _;rw[lD,PV hu hrx.1.2];refine(ih (cur++[x.dt]) _ (by omega) (λy hy=>?_) (by simp at*;omega)).mono λr hr=>?_
    ·rcases bO.1 hy with hy|hy
     ·exact hc y hy
     ·simp at hy;subst hy;exact hrx.1.2
    ·obtain⟨cs,h1,h2,h3,h4,h5⟩:=hr;refine⟨cs,h1,h2,λy hy=>h3 y (ly _ hy),h4,λds hd hcd=>h5 ds hd λy hy=>?_⟩;rcases bO.1 hy with hy|hy
     ·exact hcd y hy
     ·simp at hy;subst hy;exact hd x hm λs hs=>hcd s (h.2 s hs)
   ·rw[eY,hx]at hr';rcases bO.1 hr' with hr'|hr'
    ·exact hI r hr'
    ·simp at hr';subst hr';intro ha;refine akw λhno=>?_;have:(!(cur.contains r.dt)&&r.If.all λx=>cur.contains x)=true:=by
      simp only[bJ,jC,fR,rR];exact⟨by simpa using hno,ha⟩
     rw[this]at h;cases h
  ·show ab ((ov Pf) ⟨u,rs.map (gM u)⟩ a1 m1 [] [] (dC u cur) st rs.length) _;have:decide (rs.length<rs.length)=false:=by simp
   rw[Nw,r7,cK.aI,iK,a6,this,aF];rw[eQ]at hI;exact ab.ret ⟨cur,rfl,hc,λx hx=>hx,hI,λds _ h=>h⟩
theorem PM {rs:List aU} {ns:List (List UInt8)} (hne:∀x∈u,de x=true) (hr:HI u rs) (hrl:rs.length<=1048576) (hn:rising ns=true) (hnl:ns.length<=274877906944) (hns:∀x∈ns,x∈u):
  ab ((f207 Pf) u rs ns) (λr=>r.2=0/\rising r.1=true/\r.1.length<=u.length/\ru u rs ns r.1):=by
 rw[af1,u6]
 --the names
 refine eZ (L:=λi=>(qA Pf) u rs ns 0 i) (P:=λr=>r.2=0/\rising r.1=true/\r.1.length<=u.length/\ru u rs ns r.1) (len:=u.length) (λ_=>True) (λi hi _ k=>?_) (λ_=>?_) 0 (by omega) trivial
 ·show ab ((qA Pf) u rs ns 0 i) _;obtain⟨x,hx⟩:=bw hi;have hv:=hne x (a7 hx);have:decide (i<u.length)=true:=by simpa using hi
  rw[Rb,tB,bD,a6,this,aD,bg hx,aw,kN x (by have:=sX hv;omega),aw,hv,fm,aF,bM i (by omega)];exact k trivial
 show ab ((qA Pf) u rs ns 0 u.length) _;have:decide (u.length<u.length)=false:=by simp
 rw[Rb,tB,bD,a6,this,aF,nq _ (by omega),hu,aw,fm,aF]
 --the rules
 refine dX (L:=λi s=>(qB Pf) u rs ns 0 u.length true 0 i s) (P:=λr=>r.2=0/\rising r.1=true/\r.1.length<=u.length/\ru u rs ns r.1) (len:=rs.length) (λi s=>s=(rs.take i).map (gM u)) (λi s hi hI k=>?_) (λs hI=>?_) 0 [] (by omega) rfl
 ·show ab ((qB Pf) u rs ns 0 u.length true 0 i s) _;obtain⟨x,hx⟩:=bw hi;have hrx:=hr x (a7 hx);have:decide (i<rs.length)=true:=by simpa using hi
  rw[Rc,tC,aU.aI,a6,this,aD,bg hx,aw,nq _ (by omega),hrx.2.2,aw,fm,aF,IC hu hl hrx.1.2,aw];refine dX (L:=λj t=>(qC Pf) u rs ns 0 u.length true 0 i s x true (ix u x.dt) 0 j t) (P:=λr=>r.2=0/\rising r.1=true/\r.1.length<=u.length/\ru u rs ns r.1) (len:=x.If.length) (λj t=>t=(x.If.take j).map λy=>(ix u y:Int)) (λj t hj hJ kk=>?_) (λt hJ=>?_) 0 [] (by omega) rfl
  ·show ab ((qC Pf) u rs ns 0 u.length true 0 i s x true (ix u x.dt) 0 j t) _;obtain⟨y,hy⟩:=bw hj;have hyu:=hrx.1.1 y (a7 hy);have:decide (j<x.If.length)=true:=by simpa using hj
   rw[Re,tD,bD,a6,this,aD,bg hy,aw,IC hu hl hyu,aw,dM (by omega),aF,dW (by rw[hJ];simp;omega),aD,bM j (by omega)];exact kk _ (by rw[hJ,eY,hy];simp)
  ·show ab ((qC Pf) u rs ns 0 u.length true 0 i s x true (ix u x.dt) 0 x.If.length t) _;have:decide (x.If.length<x.If.length)=false:=by simp
   rw[Re,tD,bD,a6,this,aF,dM (by omega),aF,dW (by rw[hI];simp;omega),aD,bM i (by omega)];refine k _ ?_;rw[hI,hJ,eQ,eY,hx,pP];rfl
 ·show ab ((qB Pf) u rs ns 0 u.length true 0 rs.length s) _;have:decide (rs.length<rs.length)=false:=by simp
  rw[eQ]at hI;subst hI;rw[Rc,tC,aU.aI,a6,this,aF,aeB hu hl hn hnl hns,aw];show ab (((f266 Pf) ⟨u,rs.map (gM u)⟩ (dC u ns)).bind _) _;have hm:nH (((dC u ns).length:Nat):Int)=some u.length:=by
   rw[xa];show(bif Nat.ble u.length 274877906944 then some u.length else none)=_;rw[pR (by omega)];rfl
  rw[af2,zJ,ab2,xb,sx,hm,aw,dI (by rw[xa,oh]),aD,dI (by rw[sx,oh,xa]),aD];refine ab.bind (ab.bind (ab1 hu hl (a1:=dC u ns) (m1:=u.length) hr hrl (u.length+1) ns [] (Nat.lt_succ_of_le (BY _ _)) hns (by simp only[lA,lB];exact BY _ _)) (λy hy=>ab.ret (P:=λb=>∃cs,b=dC u cs/\ru u rs ns cs) hy)) (λb hb=>?_);obtain⟨cs,rfl,hc⟩:=hb;rw[adz hu hl,aw];have mem:∀x,x∈(u.filter λx=>cs.contains x)↔x∈cs:=λx=>by
   rw[gG,rR];exact⟨λh=>h.2,λh=>⟨hc.1 x h,h⟩⟩
  refine ab.ret ⟨rfl,?_,BY _ _,λx hx=>(gG.1 hx).1,λx hx=>(mem x).2 (hc.2.1 x hx),λr hr' hi=>(mem _).2 (hc.2.2.1 r hr' λs hs=>(mem s).1 (hi s hs)),λds h1 h2 x hx=>hc.2.2.2 ds h1 h2 x ((mem x).1 hx)⟩;rw[sD]at hu⊢;exact hu.sublist List.filter_sublist
