/- value.Valid decides the elements. -/
import Derived.Test.YtnocmolegijmkaaGreatKKa
set_option linter.all false
namespace Go.Proofs.YtnocmolegijmkaaGreat
open Go Go.Bw
theorem fD {P:Prop} (h:¬P):(false=true↔P):=⟨λe=>(by cases e),λg=>absurd g h⟩
theorem ow {P:Prop} (h:P):(true=true↔P):=⟨λ_=>h,λ_=>rfl⟩
section
variable {B:Nat} (hB:B<=1048576)
include hB
theorem abi:∀l:ai,l.ok B->cx l->∀v:ah,SV v->ae ((f83 Pf) l v) (λr=>r=true↔VE l v):=by
 refine ai.ind λl ih hl hL v hv=>?_;have hl':=hl;rw[ai.dA]at hl';obtain⟨_,_,_,⟨hn,_⟩,⟨hp,hpp⟩,hr,hrr⟩:=hl';cases hv with
 |mk v1 v2 v3 v4 v5 v6=>
 rw[e83,CO];simp only[afp,ax];have prod:(l.Kind=6\/l.Kind=7)->ae (bif !lV v false false true false then(some (false))else(bif (↑(ah.rows v.ak).length:Int) !=(↑(ai.rows l.ak).length:Int)then(some (false))else((pX Pf) l v 0))) (λr=>r=true↔VE l v):=by
  intro hk;have no:¬(lV v false false true false=true/\v.ak.length=l.ak.length)->¬VE l v:=λh g=>by
   obtain⟨ps,rfl,h1,_⟩:=g.k6 hk;exact h ⟨jD.2 rfl,h1⟩
  refine ae.bif (λh=>ae.ret (fD (no λg=>by rw[g.1]at h;cases h))) (λh=>?_);have h:lV v false false true false=true:=by simpa using h
  have e:=jD.1 h;simp only[aB,aC]at e;rw[ah.aF,ai.aF];refine ae.bif (λh=>ae.ret (fD (no λg=>by rw[g.2]at h;simp at h))) (λh=>?_);have h1:v.ak.length=l.ak.length:=by simp at h;exact_mod_cast h
  have out:VE l v↔∀(i:Nat) x p,v.ak[i]? =some x->l.ak[i]? =some p->VE p x:=by
   constructor
   ·intro g;obtain⟨ps,rfl,_,h3⟩:=g.k6 hk;exact h3
   ·intro g;rw[e];exact .prod hk h1 g
  rw[out];refine fT (L:=λi=>(pX Pf) l v i) (P:=λr=>r=true↔∀(i:Nat) x p,v.ak[i]? =some x->l.ak[i]? =some p->VE p x) (len:=v.ak.length) (λj=>∀(i:Nat) x p,i<j->v.ak[i]? =some x->l.ak[i]? =some p->VE p x) (λi hi hI k=>?_) (λhI=>?_) 0 (by omega) (λi x p hi=>by omega)
  ·show ae ((pX Pf) l v i) _;obtain⟨x,hx⟩:=bm hi;obtain⟨q,hq⟩:=bm (l:=l.ak) (i:=i) (by omega);have hxm:=aY hx;have hqm:=aY hq;have:decide (i<v.ak.length)=true:=by simpa using hi
   rw[Wf,vk,ah.aF,aW,this,aB,a7 hx,ax,a7 hq,ax];refine ae.bind (ih q hqm (ai.fU hpp hqm) (hL.part hqm) x (v6 x hxm)) (λy hy=>?_);refine ae.bif (λh=>ae.ret (fD λg=>?_)) (λh=>?_)
   ·rw[hy.2 (g i x q hx hq)]at h;cases h
   ·have hy:=hy.1 (by simpa using h);rw[bO i (by omega)];refine k λj z r hj hz hr=>?_;rcases nW.1 hj with hj|rfl
    ·exact hI j z r hj hz hr
    ·rw[hx]at hz;cases hz;rw[hq]at hr;cases hr;exact hy
  ·show ae ((pX Pf) l v v.ak.length) _;have:decide (v.ak.length<v.ak.length)=false:=by simp
   rw[Wf,vk,ah.aF,aW,this,aC];exact ae.ret (ow λi x p hx=>hI i x p (cr.1 hx).1 hx)
 refine hL.cases (λhk=>?_) (λhk=>?_) (λhk=>?_) (λp hk hp'=>?_) (λhk=>?_) (λp q hk hp'=>?_) (λhk=>?_) (λhk=>?_)
 ·simp only[hk,Int.reduceBEq,aB,aC];refine ae.bif (λh=>?_) (λh=>ae.ret (fD λg=>?_))
  ·have e:=jD.1 h;simp only[aB,aC]at e;refine ae.bif (λh0=>ae.ret (ow ?_)) (λh0=>ae.ret ?_)
   ·rw[e];exact .flag hk (.inl (by simpa using h0))
   ·rw[beq_iff_eq];exact⟨λh1=>by rw[e];exact .flag hk (.inr h1),λg=>by
     obtain⟨n,rfl,h2⟩:=g.k1 hk;rcases h2 with rfl|rfl
     ·simp at h0
     ·rfl⟩
  ·obtain⟨n,rfl,_⟩:=g.k1 hk;rw[jD.2 (by rfl)]at h;cases h
 ·have main:ae (bif lV v true false false false then(bif decide (l.Lo<=v.N)then(some (decide (v.N<=l.Hi)))else(some false))else(some false)) (λr=>r=true↔VE l v):=by
   refine ae.bif (λh=>?_) (λh=>ae.ret (fD λg=>?_))
   ·have e:=jD.1 h;simp only[aB,aC]at e;have iff:VE l v↔l.Lo<=v.N/\v.N<=l.Hi:=⟨λg=>by obtain⟨n,rfl,h2⟩:=g.k2 hk;exact h2,λg=>by rw[e];exact .num hk g.1 g.2⟩;rw[iff];refine ae.bif (λh0=>ae.ret ?_) (λh0=>ae.ret (fD ?_))
    ·rw[jA]at h0⊢;exact⟨λh=>⟨h0,h⟩,λh=>h.2⟩
    ·rw[decide_eq_false_iff_not]at h0;exactλh=>h0 h.1
   ·obtain⟨n,rfl,_⟩:=g.k2 hk;rw[jD.2 (by rfl)]at h;cases h
  rcases hk with hk|hk
  ·simp only[hk,Int.reduceBEq,aB,aC];exact main
  ·simp only[hk,Int.reduceBEq,aB,aC];exact main
 ·obtain⟨r,ha,har⟩:=HM (onl:=l.Names) (ns:=v.Names) (by omega) (by omega) (λs hs=>by have:=v2 s hs;omega);obtain⟨c,hc,hcr⟩:=abZ (rs:=l.bI) (ns:=v.Names) (by omega) (λr hr=>by have:=(hrr r hr).1.1;omega) (by omega);have out:∀{b:Bool},(b=true↔jP l.Names v.Names/\mc l.bI v.Names)->lV v false true false false=true->(b=true↔VE l v):=λhb h=>by
   have e:=jD.1 h;simp only[aB,aC]at e;rw[hb];exact⟨λg=>by rw[e];exact .set hk g.1 g.2,λg=>by obtain⟨ns,rfl,h2⟩:=g.k4 hk;exact h2⟩
  have no:lV v false true false false=false->¬VE l v:=λh g=>by
   obtain⟨ns,rfl,_⟩:=g.k4 hk;rw[jD.2 (by rfl)]at h;cases h
  rcases hk with hk|hk
  ·simp only[hk,Int.reduceBEq,aB,aC];refine ae.bif (λh=>?_) (λh=>ae.ret (fD (no h)));have hR:l.bI=[]:=by have:=hL.shape;unfold iD at this;simp[hk]at this;exact this.2.1
   rw[ha,ax];refine ae.ret (out ?_ h);rw[har,hR];simp[mc]
  ·simp only[hk,Int.reduceBEq,aB,aC];refine ae.bif (λh=>?_) (λh=>ae.ret (fD (no h)));rw[ha,ax];refine ae.bif (λh0=>?_) (λh0=>ae.ret (out (fD λg=>?_) h))
   ·rw[hc,ax];exact ae.ret (out (by rw[hcr];exact⟨λg=>⟨har.1 h0,g⟩,λg=>g.2⟩) h)
   ·rw[har.2 g.1]at h0;cases h0
 ·simp only[hk,Int.reduceBEq,aB,aC];have hm:p∈l.ak:=by rw[hp'];simp
  have po:=ai.fU hpp hm;have pL:=hL.part hm;have no:¬(lV v false true true false=true/\v.Names.length=v.ak.length/\jP l.Names v.Names)->¬VE l v:=λh g=>by
   obtain⟨p',ns,ps,_,rfl,h1,h2,_⟩:=g.k5 hk;exact h ⟨jD.2 rfl,h2,h1⟩
  refine ae.bif (λh=>ae.ret (fD (no λg=>by rw[g.1]at h;cases h))) (λh=>?_);have h:lV v false true true false=true:=by simpa using h
  have e:=jD.1 h;simp only[aB,aC]at e;rw[bH,ah.aF];refine ae.bif (λh=>ae.ret (fD (no λg=>by rw[g.2.1]at h;simp at h))) (λh=>?_);have h1:v.Names.length=v.ak.length:=by simp at h;exact_mod_cast h
  obtain⟨r,ha,har⟩:=HM (onl:=l.Names) (ns:=v.Names) (by omega) (by omega) (λs hs=>by have:=v2 s hs;omega);rw[ha,ax];refine ae.bif (λh=>ae.ret (fD (no λg=>by rw[har.2 g.2.2]at h;cases h))) (λh=>?_);have h2:jP l.Names v.Names:=har.1 (by simpa using h);have out:VE l v↔∀x∈v.ak,VE p x/\x≠bot p:=by
   constructor
   ·intro g x hx;obtain⟨p',ns,ps,hp2,rfl,_,_,h3,h4⟩:=g.k5 hk;rw[hp']at hp2;cases hp2;exact⟨h3 x hx,h4 x hx⟩
   ·intro g;rw[e];exact .map hk hp' h2 h1 (λx hx=>(g x hx).1) (λx hx=>(g x hx).2)
  rw[out];refine fT (L:=λi=>(pY Pf) l v i) (P:=λr=>r=true↔∀x∈v.ak,VE p x/\x≠bot p) (len:=v.ak.length) (λi=>∀x∈v.ak.take i,VE p x/\x≠bot p) (λi hi hI k=>?_) (λhI=>?_) 0 (by omega) (by simp)
  ·show ae ((pY Pf) l v i) _;obtain⟨x,hx⟩:=bm hi;have hxm:=aY hx;have:decide (i<v.ak.length)=true:=by simpa using hi
   rw[Wg,vl,ah.aF,aW,this,aB,a7 hx,ax,hp',eH,ax];refine ae.bind (ih p hm po pL x (v6 x hxm)) (λy hy=>?_);refine ae.bif (λh=>ae.ret (fD λg=>?_)) (λh=>?_)
   ·rw[hy.2 (g x hxm).1]at h;cases h
   ·have hy:=hy.1 (by simpa using h);rw[ax,Ib hB p po,ax];rcases acQ (b:=bot p) (X:=some false) (Y:=(pY Pf) l v (IntKind.i64.wrap ((i:Int)+1))) (by omega) (v6 x hxm).bv with⟨e1,e2⟩|⟨e1,e2⟩
    ·rw[e2];exact ae.ret (fD λg=>(g x hxm).2 e1)
    ·rw[e2,bO i (by omega)];refine k λz hz=>?_;rw[fB,hx]at hz;rcases bU.1 hz with hz|hz
     ·exact hI z hz
     ·simp at hz;subst hz;exact⟨hy,e1⟩
  ·show ae ((pY Pf) l v v.ak.length) _;have:decide (v.ak.length<v.ak.length)=false:=by simp
   rw[Wg,vl,ah.aF,aW,this,aC];rw[eN]at hI;exact ae.ret (ow hI)
 ·simp only[hk,Int.reduceBEq,aB,aC];exact prod (.inl hk)
 ·simp only[hk,Int.reduceBEq,aB,aC];exact prod (.inr hk)
 ·simp only[hk,Int.reduceBEq,aB,aC];refine ae.bif (λh0=>ae.ret ?_) (λh0=>ae.bif (λh2=>ae.ret ?_) (λh2=>ae.bif (λh1=>ae.bif (λh=>?_) (λh=>ae.ret (fD λg=>?_))) (λh1=>ae.ret (fD λg=>?_))))
  ·have h0:v.N=0:=by simpa using h0
   rw[jD];simp only[aB,aC];constructor
   ·intro e;rw[e];exact .Ap hk (.inl h0)
   ·intro g;rcases g.k8 hk with⟨n,rfl,_⟩|⟨s,rfl,_⟩
    ·rfl
    ·cases h0
  ·have h2:v.N=2:=by simpa using h2
   rw[jD];simp only[aB,aC];constructor
   ·intro e;rw[e];exact .Ap hk (.inr h2)
   ·intro g;rcases g.k8 hk with⟨n,rfl,_⟩|⟨s,rfl,_⟩
    ·rfl
    ·cases h2
  ·have h1:v.N=1:=by simpa using h1
   have e:=jD.1 h;simp only[aB,aC]at e;rw[bH];have out:VE l v↔v.Names.length=1/\jP l.Names v.Names:=by
    constructor
    ·intro g;rcases g.k8 hk with⟨n,rfl,hn⟩|⟨s,rfl,hs⟩
     ·have:n=1:=h1;omega
     ·exact⟨rfl,hs⟩
    ·rintro ⟨g1,g2⟩;obtain⟨s,hs⟩:=vO g1;rw[e,hs,h1];rw[hs]at g2;exact .Kc hk g2
   rw[out];refine ae.bif (λhlen=>?_) (λhlen=>ae.ret (fD λg=>?_))
   ·obtain⟨r,ha,har⟩:=HM (onl:=l.Names) (ns:=v.Names) (by omega) (by omega) (λs hs=>by have:=v2 s hs;omega);have hlen:v.Names.length=1:=by simp at hlen;exact_mod_cast hlen
    rw[ha,ax];exact ae.ret (by rw[har];exact⟨λg=>⟨hlen,g⟩,λg=>g.2⟩)
   ·rw[g.1]at hlen;simp at hlen
  ·have h1:v.N=1:=by simpa using h1
   rcases g.k8 hk with⟨n,rfl,hn⟩|⟨s,rfl,hs⟩
   ·have:n=1:=h1;omega
   ·rw[jD.2 (by rfl)]at h;cases h
  ·rcases g.k8 hk with⟨n,rfl,hn⟩|⟨s,rfl,hs⟩
   ·rcases hn with rfl|rfl
    ·cases h0
    ·cases h2
   ·cases h1
 ·simp only[hk,Int.reduceBEq,aB,aC];refine ae.bif (λh=>?_) (λh=>ae.ret (fD λg=>?_))
  ·have e:=jD.1 h;simp only[aB,aC]at e;refine ae.bind (abj v4 v5) (λy hy=>ae.ret ?_);rw[hy];exact⟨λg=>by rw[e];exact .CG hk g,λg=>by obtain⟨es,rfl,h2⟩:=g.k9 hk;exact h2⟩
  ·obtain⟨es,rfl,_⟩:=g.k9 hk;rw[jD.2 (by rfl)]at h;cases h
theorem TZ {l:ai} {v:ah} (hl:l.ok B) (hv:SV v):ae ((f37 Pf) l v) (λr=>r=true↔cx l/\VE l v):=by
 rw[e37,CP];refine ae.bind (acR (by omega) hl) (λy hy=>ae.bif (λh=>?_) (λh=>ae.ret (fD λg=>?_)))
 ·have hL:=hy.1 (by simpa using h);refine ae.bind (abi hB l hl hL v hv) (λz hz=>ae.ret ?_);rw[hz];exact⟨λg=>⟨hL,g⟩,λg=>g.2⟩
 ·rw[hy.2 g.1]at h;cases h
theorem H4 {l:ai} {v:ah} (hl:l.ok B) (hL:cx l) (hv:SV v) (h:VE l v):(f37 Pf) l v=some true:=by
 obtain⟨r,e,hr⟩:=TZ hB hl hv;rw[e,hr.2 ⟨hL,h⟩]
theorem Qy {l:ai} {v:ah} (hl:l.ok B) (hL:cx l) (hv:SV v):∃r,(f151 Pf) l v=some r/\(r=true↔v=bot l):=by
 obtain⟨r,e,hr⟩:=xT (b:=bot l) (m:=274877906944) (by omega) hv.bv;rw[ai5,A4,Ew (by omega) hl hL,ax,Ib hB l hl,ax,e];exact⟨r,rfl,hr⟩
end
theorem ag7 {x:Int} (h0:0<=x) (h1:x<18446744073709551616):IntKind.u64.wrap x=x:=by
 simp[IntKind.wrap,IntKind.bits,IntKind.signed];omega
theorem agq {i j:Nat} (h:i+j<4611686018427387904):IntKind.i64.wrap ((IntKind.u64.wrap (IntKind.i64.wrap ((i:Int)+(j:Int)))).fdiv (2^min (Int.toNat 1) IntKind.u64.bits))=(((i+j)/2:Nat):Int):=by
 have e:((2:Int)^min (Int.toNat 1) IntKind.u64.bits)=2:=by decide
 rw[e,wrap64 (x:=(i:Int)+j) (by omega) (by omega),ag7 (by omega) (by omega),Int.fdiv_eq_ediv_of_nonneg _ (by omega),wrap64 (by omega) (by omega)];omega
theorem adP (a b:List UInt8):(f204 Pf) a b=some (Op.bytesLess a b):=by
 rw[aiV,AY,aiW,F3,qq,F3,qq];simp
theorem acO {u:List (List UInt8)} (hu:rising u=true) {h m:Nat} {y x:List UInt8} (hy:u[h]? =some y) (hx:u[m]? =some x):Op.bytesLess y x=decide (h<m):=by
 rw[tA,Hh]at hu;obtain⟨h1,h2⟩:=cr.1 hy;obtain⟨m1,m2⟩:=cr.1 hx;by_cases e:h<m
 ·have:=hu h m h1 m1 e;rw[h2,m2]at this;rw[this];simp[e]
 ·rw[dH e];by_cases e':h=m
  ·subst e';rw[hx]at hy;cases hy;exact kr _
  ·have:=hu m h m1 h1 (by omega);rw[h2,m2]at this;exact pn this
theorem acP {u:List (List UInt8)} {x:List UInt8} {m:Nat} (hu:rising u=true) (hl:u.length<=274877906944) (hx:u[m]? =some x):(f150 Pf) u x=some ((m:Int),true):=by
 rw[aiX,wB,bH];have hm:=(cr.1 hx).1;have key:∀k i j:Nat,j-i<=k->i<=m->m<=j->j<=u.length->(uy Pf) u x (i:Int) (j:Int)=some ((m:Int),true):=by
  intro k
  induction k with
  |zero=>
   intro i j hk h1 h2 h3;have e1:i=m:=by omega
   have e2:j=m:=by omega
   subst e1;subst e2;rw[Uk,uz,aW,bH,aW];have:decide (j<j)=false:=by simp
   rw[this,aC,dN hm,aB,a7 hx,ax];simp
  |succ k ih=>
   intro i j hk h1 h2 h3;by_cases e:i<j
   ·obtain⟨y,hy⟩:=bm (l:=u) (i:=(i+j)/2) (by omega);rw[Uk,uz,aW,dN e,aB,agq (by omega),a7 hy,ax,adP,ax,acO hu hy hx,bO _ (by omega)];by_cases g:(i+j)/2<m
    ·rw[dN g,aB];exact ih _ _ (by omega) (by omega) h2 h3
    ·rw[dH g,aC];exact ih _ _ (by omega) h1 (by omega) (by omega)
   ·have e1:i=m:=by omega
    have e2:j=m:=by omega
    subst e1;subst e2;exact ih j j (by omega) (by omega) (by omega) h3
 exact key u.length 0 u.length (by omega) (by omega) (by omega) (by omega)
abbrev ix (u:List (List UInt8)) (x:List UInt8):Nat:=u.idxOf x
theorem z7 {u:List (List UInt8)} {x:List UInt8} (h:x∈u):u[ix u x]? =some x:=by
 have:=aay h;rw[Hg this,List.getElem_idxOf]
theorem agr {u:List (List UInt8)} (hu:rising u=true) {x y:List UInt8} {k:Nat} (hx:x∈u) (hy:u[k]? =some y):k=ix u x↔y=x:=by
 constructor
 ·intro e;rw[e,z7 hx]at hy;cases hy;rfl
 ·intro e;subst e;exact nZ hu hy (z7 hx)
def iE (u:List (List UInt8)) (r:aV):dd:=⟨r.If.map λx=>(ix u x:Int),ix u r.dT⟩
def dU (u cur:List (List UInt8)):List Bool:=u.map λx=>cur.contains x
theorem Ey {u cur:List (List UInt8)} {x:List UInt8} (h:x∈u):(dU u cur)[ix u x]? =some (cur.contains x):=by
 unfold dU;rw[km,z7 h];rfl
theorem S3 {u cur:List (List UInt8)} {x:List UInt8} (hu:rising u=true) (h:x∈u):(dU u cur).set (ix u x) true=dU u (cur++[x]):=by
 refine nU λk=>?_;rw[List.getElem?_set];unfold dU;rw[km,km,jy];have hl:=aay h;by_cases e:ix u x=k
 ·subst e;rw[bf rfl,bf hl,z7 h];simp
 ·rw[aM e];cases hk:u[k]? with
  |none=>rfl
  |some y=>
   have:y≠x:=λe'=>e ((agr hu h hk).2 e').symm;simp[this]
theorem yD {u cur:List (List UInt8)}:(dU u cur).length=u.length:=jy _
section
variable {u:List (List UInt8)} (hu:rising u=true) (hl:u.length<=1048576)
include hu hl
theorem Kd {x:List UInt8} {hs:List dd} (h:x∈u):(f278 Pf) ⟨u,hs⟩ x=some (ix u x:Int):=by
 rw[aiY,AZ,acP hu (by omega) (z7 h)];rfl
theorem ags {ns:List (List UInt8)} {hs:List dd} (hn:rising ns=true) (hnl:ns.length<=274877906944) (hs':∀x∈ns,x∈u):(f239 Pf) ⟨u,hs⟩ ns=some (dU u ns,0):=by
 have hm:oC ((u.length:Nat):Int)=some u.length:=by
  show(bif Nat.ble u.length 274877906944 then some u.length else none)=_;rw[qA (by omega)];rfl
 have h0:List.replicate u.length false=dU u []:=by
  unfold dU;simp[List.map_const']
 rw[aiZ,A0,og _ (by omega),hn,ax,fA,aC,bH,hm,ax,h0];refine ae.of (dZ (L:=λi s=>(rf Pf) ⟨u,hs⟩ ns [] s i) (P:=λr=>r=(dU u ns,0)) (len:=ns.length) (λi s=>s=dU u (ns.take i)) (λi s hi hI k=>?_) (λs hI=>?_) 0 (dU u []) (by omega) rfl)
 ·show ae ((rf Pf) ⟨u,hs⟩ ns [] s i) _;obtain⟨x,hx⟩:=bm hi;have hxu:=hs' x (aY hx);have:decide (i<ns.length)=true:=by simpa using hi
  have hlt:=aay hxu;subst hI;rw[Ul,uA,bH,aW,this,aB,a7 hx,ax,Kd hu hl hxu,ax,dH (by omega),aC,a7 (Ey hxu),ax,bO i (by omega)];refine k _ ?_;rw[mj,S3 hu hxu,fB,hx];rfl
 ·show ae ((rf Pf) ⟨u,hs⟩ ns [] s ns.length) _;have:decide (ns.length<ns.length)=false:=by simp
  rw[Ul,uA,bH,aW,this,aC];exact ae.ret (by rw[hI,eN])
theorem afo {cs:List (List UInt8)} {hs:List dd}:(f240 Pf) ⟨u,hs⟩ (dU u cs)=some (u.filter λx=>cs.contains x):=by
 rw[ai0,wC];refine ae.of (dZ (L:=λi s=>(pE Pf) ⟨u,hs⟩ (dU u cs) s i) (P:=λr=>r=u.filter λx=>cs.contains x) (len:=u.length) (λi s=>s=(u.take i).filter λx=>cs.contains x) (λi s hi hI k=>?_) (λs hI=>?_) 0 [] (by omega) rfl)
 ·show ae ((pE Pf) ⟨u,hs⟩ (dU u cs) s i) _;obtain⟨x,hx⟩:=bm hi;have hb:(dU u cs)[i]? =some (cs.contains x):=by unfold dU;rw[km,hx];rfl
  have:decide (i<u.length)=true:=by simpa using hi
  have hlen:s.length<=u.length:=by rw[hI];exact iO (Dy _ _) (by rw[iv];omega)
  rw[Um,uB,tp,yD,aW,this,aB,a7 hb,ax,a7 hx,ax,bO i (by omega),eC (by simp;omega),aB];refine ae.bif (λh=>k _ ?_) (λh=>k _ ?_)
  ·rw[hI,fB,hx,Hs];simp only[Option.toList_some,qD,h,if_true,List.filter_nil]
  ·rw[hI,fB,hx,Hs];simp only[Option.toList_some,qD,h];simp
 ·show ae ((pE Pf) ⟨u,hs⟩ (dU u cs) s u.length) _;have:decide (u.length<u.length)=false:=by simp
  rw[Um,uB,tp,yD,aW,this,aC];exact ae.ret (by rw[hI,eN])
omit hl in
theorem adQ {r:aV} {cur:List (List UInt8)} (hr:(∀x∈r.If,x∈u)/\r.dT∈u) (hil:r.If.length<=1048576):(f295 Pf) (iE u r) (dU u cur)=some (!(cur.contains r.dT)&&r.If.all λx=>cur.contains x):=by
 rw[ai1,A1];show((aq (dU u cur) (ix u r.dT:Int)).bind λx1=>_)=_;rw[a7 (Ey hr.2),ax];cases cur.contains r.dT
 ·rw[aC,Dt,Bool.true_and];have:=zj (a:=r.If) (L:=λi=>(rh Pf) (iE u r) (dU u cur) i) (λx=>cur.contains x) true (λi x hx hi=>by
   show(rh Pf) (iE u r) (dU u cur) i=_;have hp:(iE u r).oh[i]? =some (ix u x:Int):=by unfold iE;rw[km,hx];rfl
   have hlen:(iE u r).oh.length=r.If.length:=by unfold iE;exact jy _
   rw[Un,uC,n9,hlen,aW];have:decide (i<r.If.length)=true:=by simpa using hi
   rw[this,aB,a7 hp,ax,a7 (Ey (hr.1 x (aY hx))),ax,bO i (by omega)];cases cur.contains x<;>rfl) (by
   show(rh Pf) (iE u r) (dU u cur) _=_;have hlen:(iE u r).oh.length=r.If.length:=by unfold iE;exact jy _
   rw[Un,uC,n9,hlen,aW];simp)
  rw[qC]at this;exact this
 ·rfl
def Jp (u:List (List UInt8)) (rs:List aV):Prop:=∀r∈rs,((∀x∈r.If,x∈u)/\r.dT∈u)/\r.If.length<=1048576/\rising r.If=true
def sx (u:List (List UInt8)) (rs:List aV) (cur cs:List (List UInt8)):Prop:=(∀x∈cs,x∈u)/\(∀x∈cur,x∈cs)/\mc rs cs/\∀ds,mc rs ds->(∀x∈cur,x∈ds)->∀x∈cs,x∈ds
omit hu hl in
theorem adR {u cur:List (List UInt8)} {x:List UInt8} (hx:x∈u) (hn:x∉cur):(u.filter λy=>!((cur++[x]).contains y)).length<(u.filter λy=>!(cur.contains y)).length:=by
 induction u with
 |nil=>cases hx
 |cons z u ih=>
  have le:∀v:List (List UInt8),(v.filter λy=>!((cur++[x]).contains y)).length<=(v.filter λy=>!(cur.contains y)).length:=by
   intro v
   induction v with
   |nil=>simp
   |cons w v ihv=>
    rw[qD,qD];by_cases h1:w∈cur
    ·simp[h1];simpa using ihv
    ·by_cases h2:w=x
     ·subst h2;simp[h1];have:=ihv;simp at this;try omega
     ·simp[h1,h2];simpa using ihv
  rw[qD,qD];have:=le u;by_cases h2:z=x
  ·subst h2;simp[hn];simp at this;omega
  ·have hx':x∈u:=by rcases ck.1 hx with e|e;exact absurd e.symm h2;exact e
   have:=ih hx';by_cases h1:z∈cur
   ·simp[h1];simpa using this
   ·simp[h1,h2];simp at this;omega
theorem adS {rs:List aV} {a1:List Bool} {m1:Nat} (hr:Jp u rs) (hrl:rs.length<=1048576):∀(n:Nat) (cur:List (List UInt8)) (st:List dm),(u.filter λy=>!(cur.contains y)).length<n->(∀x∈cur,x∈u)->st.length+(u.filter λy=>!(cur.contains y)).length<=u.length->
  ae ((sW Pf) ⟨u,rs.map (iE u)⟩ a1 m1 [] [] (dU u cur) st) (λr=>∃cs,r.1=dU u cs/\sx u rs cur cs):=by
 intro n
 induction n with
 |zero=>
  intro cur st hn hc hs;omega
 |succ n ih=>
  intro cur st hn hc hs;rw[abh,sX];refine fT (L:=λi=>(o7 Pf) ⟨u,rs.map (iE u)⟩ a1 m1 [] [] (dU u cur) st i) (P:=λr=>∃cs,r.1=dU u cs/\sx u rs cur cs) (len:=rs.length) (λi=>∀r∈rs.take i,(∀x∈r.If,x∈cur)->r.dT∈cur) (λi hi hI k=>?_) (λhI=>?_) 0 (by omega) (by simp)
  ·show ae ((o7 Pf) ⟨u,rs.map (iE u)⟩ a1 m1 [] [] (dU u cur) st i) _;obtain⟨x,hx⟩:=bm hi;have hm:=aY hx;have hrx:=hr x hm;have hh:(rs.map (iE u))[i]? =some (iE u x):=by rw[km,hx];rfl
   have:decide (i<rs.length)=true:=by simpa using hi
   have hev:(f280 Pf) (i:Int)=some true:=by rw[ai2,A2]
   have hneg:((i:Int)== -1)=false:=by simp
   rw[QA,sY,dd.aF,jy,aW,this,aB,a7 hh,ax,hev,ax,aB,adQ hu hrx.1 hrx.2.1,ax,bO i (by omega)];refine ae.bif (λh=>?_) (λh=>k λr hr'=>?_)
   ·simp only[bN,kn,fS,sP]at h;have hno:x.dT∉cur:=by have:=h.1;intro g;rw[sP.2 g]at this;cases this
    have hct:=adR hrx.1.2 hno;rw[hneg,Bool.false_and,aC];show ae ((aq (dU u cur) (ix u x.dT:Int)).bind _) _;rw[a7 (Ey hrx.1.2),ax,eC (by simp;omega),aB];show ae ((sW Pf) ⟨u,rs.map (iE u)⟩ a1 m1 [] [] ((dU u cur).set (ix u x.dT:Int).toNat true) _) _;rw[mj,S3 hu hrx.1.2];refine(ih (cur++[x.dT]) _ (by omega) (λy hy=>?_) (by simp at*;omega)).mono λr hr=>?_
    ·rcases bU.1 hy with hy|hy
     ·exact hc y hy
     ·simp at hy;subst hy;exact hrx.1.2
    ·obtain⟨cs,h1,h2,h3,h4,h5⟩:=hr;refine⟨cs,h1,h2,λy hy=>h3 y (mg _ hy),h4,λds hd hcd=>h5 ds hd λy hy=>?_⟩;rcases bU.1 hy with hy|hy
     ·exact hcd y hy
     ·simp at hy;subst hy;exact hd x hm λs hs=>hcd s (h.2 s hs)
   ·rw[fB,hx]at hr';rcases bU.1 hr' with hr'|hr'
    ·exact hI r hr'
    ·simp at hr';subst hr';intro ha;refine anU λhno=>?_;have:(!(cur.contains r.dT)&&r.If.all λx=>cur.contains x)=true:=by
      simp only[bN,kn,fS,sP];exact⟨by simpa using hno,ha⟩
     rw[this]at h;cases h
  ·show ae ((o7 Pf) ⟨u,rs.map (iE u)⟩ a1 m1 [] [] (dU u cur) st rs.length) _;have:decide (rs.length<rs.length)=false:=by simp
   rw[QA,sY,dd.aF,jy,aW,this,aC];rw[eN]at hI;exact ae.ret ⟨cur,rfl,hc,λx hx=>hx,hI,λds _ h=>h⟩
theorem SR {rs:List aV} {ns:List (List UInt8)} (hne:∀x∈u,dw x=true) (hr:Jp u rs) (hrl:rs.length<=1048576) (hn:rising ns=true) (hnl:ns.length<=274877906944) (hns:∀x∈ns,x∈u):
  ae ((f192 Pf) u rs ns) (λr=>r.2=0/\rising r.1=true/\r.1.length<=u.length/\sx u rs ns r.1):=by
 rw[ai3,wD]
 --the names
 refine fT (L:=λi=>(ri Pf) u rs ns 0 i) (P:=λr=>r.2=0/\rising r.1=true/\r.1.length<=u.length/\sx u rs ns r.1) (len:=u.length) (λ_=>True) (λi hi _ k=>?_) (λ_=>?_) 0 (by omega) trivial
 ·show ae ((ri Pf) u rs ns 0 i) _;obtain⟨x,hx⟩:=bm hi;have hv:=hne x (aY hx);have:decide (i<u.length)=true:=by simpa using hi
  rw[Uo,uD,bH,aW,this,aB,a7 hx,ax,lM x (by have:=uh hv;omega),ax,hv,fA,aC,bO i (by omega)];exact k trivial
 show ae ((ri Pf) u rs ns 0 u.length) _;have:decide (u.length<u.length)=false:=by simp
 rw[Uo,uD,bH,aW,this,aC,og _ (by omega),hu,ax,fA,aC]
 --the rules
 refine dZ (L:=λi s=>(rj Pf) u rs ns 0 u.length true 0 i s) (P:=λr=>r.2=0/\rising r.1=true/\r.1.length<=u.length/\sx u rs ns r.1) (len:=rs.length) (λi s=>s=(rs.take i).map (iE u)) (λi s hi hI k=>?_) (λs hI=>?_) 0 [] (by omega) rfl
 ·show ae ((rj Pf) u rs ns 0 u.length true 0 i s) _;obtain⟨x,hx⟩:=bm hi;have hrx:=hr x (aY hx);have:decide (i<rs.length)=true:=by simpa using hi
  rw[Uq,uE,aV.aF,aW,this,aB,a7 hx,ax,og _ (by omega),hrx.2.2,ax,fA,aC,Kd hu hl hrx.1.2,ax];refine dZ (L:=λj t=>(rk Pf) u rs ns 0 u.length true 0 i s x true (ix u x.dT) 0 j t) (P:=λr=>r.2=0/\rising r.1=true/\r.1.length<=u.length/\sx u rs ns r.1) (len:=x.If.length) (λj t=>t=(x.If.take j).map λy=>(ix u y:Int)) (λj t hj hJ kk=>?_) (λt hJ=>?_) 0 [] (by omega) rfl
  ·show ae ((rk Pf) u rs ns 0 u.length true 0 i s x true (ix u x.dT) 0 j t) _;obtain⟨y,hy⟩:=bm hj;have hyu:=hrx.1.1 y (aY hy);have:decide (j<x.If.length)=true:=by simpa using hj
   rw[Ur,uF,bH,aW,this,aB,a7 hy,ax,Kd hu hl hyu,ax,dH (by omega),aC,eC (by rw[hJ];simp;omega),aB,bO j (by omega)];exact kk _ (by rw[hJ,fB,hy];simp)
  ·show ae ((rk Pf) u rs ns 0 u.length true 0 i s x true (ix u x.dT) 0 x.If.length t) _;have:decide (x.If.length<x.If.length)=false:=by simp
   rw[Ur,uF,bH,aW,this,aC,dH (by omega),aC,eC (by rw[hI];simp;omega),aB,bO i (by omega)];refine k _ ?_;rw[hI,hJ,eN,fB,hx,oX];rfl
 ·show ae ((rj Pf) u rs ns 0 u.length true 0 rs.length s) _;have:decide (rs.length<rs.length)=false:=by simp
  rw[eN]at hI;subst hI;rw[Uq,uE,aV.aF,aW,this,aC,ags hu hl hn hnl hns,ax];show ae (((f241 Pf) ⟨u,rs.map (iE u)⟩ (dU u ns)).bind _) _;have hm:oC (((dU u ns).length:Nat):Int)=some u.length:=by
   rw[yD];show(bif Nat.ble u.length 274877906944 then some u.length else none)=_;rw[qA (by omega)];rfl
  rw[ai4,A3,adT,yE,tp,hm,ax,dN (by rw[yD,oY]),aB,dN (by rw[tp,oY,yD]),aB];refine ae.bind (ae.bind (adS hu hl (a1:=dU u ns) (m1:=u.length) hr hrl (u.length+1) ns [] (Nat.lt_succ_of_le (Dy _ _)) hns (by simp only[lG,mi];exact Dy _ _)) (λy hy=>ae.ret (P:=λb=>∃cs,b=dU u cs/\sx u rs ns cs) hy)) (λb hb=>?_);obtain⟨cs,rfl,hc⟩:=hb;rw[afo hu hl,ax];have mem:∀x,x∈(u.filter λx=>cs.contains x)↔x∈cs:=λx=>by
   rw[iw,sP];exact⟨λh=>h.2,λh=>⟨hc.1 x h,h⟩⟩
  refine ae.ret ⟨rfl,?_,Dy _ _,λx hx=>(iw.1 hx).1,λx hx=>(mem x).2 (hc.2.1 x hx),λr hr' hi=>(mem _).2 (hc.2.2.1 r hr' λs hs=>(mem s).1 (hi s hs)),λds h1 h2 x hx=>hc.2.2.2 ds h1 h2 x ((mem x).1 hx)⟩;rw[tA]at hu⊢;exact hu.sublist List.filter_sublist
