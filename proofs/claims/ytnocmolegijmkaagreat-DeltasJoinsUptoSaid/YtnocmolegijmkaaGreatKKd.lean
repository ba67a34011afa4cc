/- value.Valid decides the elements. -/
import Derived.Test.YtnocmolegijmkaaGreatKKa
set_option linter.all false
namespace Go.Proofs.YtnocmolegijmkaaGreat
open Go Go.Bw
theorem fO {P:Prop} (h:¬P):(false=true↔P):=⟨λe=>(by cases e),λg=>absurd g h⟩
theorem oU {P:Prop} (h:P):(true=true↔P):=⟨λ_=>h,λ_=>rfl⟩
section
variable {B:Nat} (hB:B<=1048576)
include hB
theorem abg:∀l:ag,l.ok B->cA l->∀v:af,SV v->ae ((f83 Pf) l v) (λr=>r=true↔VE l v):=by
 refine ag.ind λl ih hl hL v hv=>?_;have hl':=hl;rw[ag.dK]at hl';obtain⟨_,_,_,⟨hn,_⟩,⟨hp,hpp⟩,hr,hrr⟩:=hl';cases hv with
 |mk v1 v2 v3 v4 v5 v6=>
 rw[e83,CW];simp only[afg,au];have prod:(l.Kind=6\/l.Kind=7)->ae (bif !ml v false false true false then(some (false))else(bif (↑(af.rows v.ai).length:Int) !=(↑(ag.rows l.ai).length:Int)then(some (false))else((qq Pf) l v 0))) (λr=>r=true↔VE l v):=by
  intro hk;have no:¬(ml v false false true false=true/\v.ai.length=l.ai.length)->¬VE l v:=λh g=>by
   obtain⟨ps,rfl,h1,_⟩:=g.k6 hk;exact h ⟨jT.2 rfl,h1⟩
  refine ae.bif (λh=>ae.ret (fO (no λg=>by rw[g.1]at h;cases h))) (λh=>?_);have h:ml v false false true false=true:=by simpa using h
  have e:=jT.1 h;simp only[aB,aC]at e;rw[af.aH,ag.aH];refine ae.bif (λh=>ae.ret (fO (no λg=>by rw[g.2]at h;simp at h))) (λh=>?_);have h1:v.ai.length=l.ai.length:=by simp at h;exact_mod_cast h
  have out:VE l v↔∀(i:Nat) x p,v.ai[i]? =some x->l.ai[i]? =some p->VE p x:=by
   constructor
   ·intro g;obtain⟨ps,rfl,_,h3⟩:=g.k6 hk;exact h3
   ·intro g;rw[e];exact .prod hk h1 g
  rw[out];refine gE (L:=λi=>(qq Pf) l v i) (P:=λr=>r=true↔∀(i:Nat) x p,v.ai[i]? =some x->l.ai[i]? =some p->VE p x) (len:=v.ai.length) (λj=>∀(i:Nat) x p,i<j->v.ai[i]? =some x->l.ai[i]? =some p->VE p x) (λi hi hI k=>?_) (λhI=>?_) 0 (by omega) (λi x p hi=>by omega)
  ·show ae ((qq Pf) l v i) _;obtain⟨x,hx⟩:=bo hi;obtain⟨q,hq⟩:=bo (l:=l.ai) (i:=i) (by omega);have hxm:=aV hx;have hqm:=aV hq;have:decide (i<v.ai.length)=true:=by simpa using hi
   rw[Va,vL,af.aH,a7,this,aB,bf hx,au,bf hq,au];refine ae.bind (ih q hqm (ag.gH hpp hqm) (hL.part hqm) x (v6 x hxm)) (λy hy=>?_);refine ae.bif (λh=>ae.ret (fO λg=>?_)) (λh=>?_)
   ·rw[hy.2 (g i x q hx hq)]at h;cases h
   ·have hy:=hy.1 (by simpa using h);rw[bW i (by omega)];refine k λj z r hj hz hr=>?_;rcases pD.1 hj with hj|rfl
    ·exact hI j z r hj hz hr
    ·rw[hx]at hz;cases hz;rw[hq]at hr;cases hr;exact hy
  ·show ae ((qq Pf) l v v.ai.length) _;have:decide (v.ai.length<v.ai.length)=false:=by simp
   rw[Va,vL,af.aH,a7,this,aC];exact ae.ret (oU λi x p hx=>hI i x p (cr.1 hx).1 hx)
 refine hL.cases (λhk=>?_) (λhk=>?_) (λhk=>?_) (λp hk hp'=>?_) (λhk=>?_) (λp q hk hp'=>?_) (λhk=>?_) (λhk=>?_)
 ·simp only[hk,Int.reduceBEq,aB,aC];refine ae.bif (λh=>?_) (λh=>ae.ret (fO λg=>?_))
  ·have e:=jT.1 h;simp only[aB,aC]at e;refine ae.bif (λh0=>ae.ret (oU ?_)) (λh0=>ae.ret ?_)
   ·rw[e];exact .flag hk (.inl (by simpa using h0))
   ·rw[beq_iff_eq];exact⟨λh1=>by rw[e];exact .flag hk (.inr h1),λg=>by
     obtain⟨n,rfl,h2⟩:=g.k1 hk;rcases h2 with rfl|rfl
     ·simp at h0
     ·rfl⟩
  ·obtain⟨n,rfl,_⟩:=g.k1 hk;rw[jT.2 (by rfl)]at h;cases h
 ·have main:ae (bif ml v true false false false then(bif decide (l.Lo<=v.N)then(some (decide (v.N<=l.Hi)))else(some false))else(some false)) (λr=>r=true↔VE l v):=by
   refine ae.bif (λh=>?_) (λh=>ae.ret (fO λg=>?_))
   ·have e:=jT.1 h;simp only[aB,aC]at e;have iff:VE l v↔l.Lo<=v.N/\v.N<=l.Hi:=⟨λg=>by obtain⟨n,rfl,h2⟩:=g.k2 hk;exact h2,λg=>by rw[e];exact .num hk g.1 g.2⟩;rw[iff];refine ae.bif (λh0=>ae.ret ?_) (λh0=>ae.ret (fO ?_))
    ·rw[jQ]at h0⊢;exact⟨λh=>⟨h0,h⟩,λh=>h.2⟩
    ·rw[decide_eq_false_iff_not]at h0;exactλh=>h0 h.1
   ·obtain⟨n,rfl,_⟩:=g.k2 hk;rw[jT.2 (by rfl)]at h;cases h
  rcases hk with hk|hk
  ·simp only[hk,Int.reduceBEq,aB,aC];exact main
  ·simp only[hk,Int.reduceBEq,aB,aC];exact main
 ·obtain⟨r,ha,har⟩:=H8 (onl:=l.Names) (ns:=v.Names) (by omega) (by omega) (λs hs=>by have:=v2 s hs;omega);obtain⟨c,hc,hcr⟩:=abW (rs:=l.bO) (ns:=v.Names) (by omega) (λr hr=>by have:=(hrr r hr).1.1;omega) (by omega);have out:∀{b:Bool},(b=true↔km l.Names v.Names/\mB l.bO v.Names)->ml v false true false false=true->(b=true↔VE l v):=λhb h=>by
   have e:=jT.1 h;simp only[aB,aC]at e;rw[hb];exact⟨λg=>by rw[e];exact .set hk g.1 g.2,λg=>by obtain⟨ns,rfl,h2⟩:=g.k4 hk;exact h2⟩
  have no:ml v false true false false=false->¬VE l v:=λh g=>by
   obtain⟨ns,rfl,_⟩:=g.k4 hk;rw[jT.2 (by rfl)]at h;cases h
  rcases hk with hk|hk
  ·simp only[hk,Int.reduceBEq,aB,aC];refine ae.bif (λh=>?_) (λh=>ae.ret (fO (no h)));have hR:l.bO=[]:=by have:=hL.shape;unfold iQ at this;simp[hk]at this;exact this.2.1
   rw[ha,au];refine ae.ret (out ?_ h);rw[har,hR];simp[mB]
  ·simp only[hk,Int.reduceBEq,aB,aC];refine ae.bif (λh=>?_) (λh=>ae.ret (fO (no h)));rw[ha,au];refine ae.bif (λh0=>?_) (λh0=>ae.ret (out (fO λg=>?_) h))
   ·rw[hc,au];exact ae.ret (out (by rw[hcr];exact⟨λg=>⟨har.1 h0,g⟩,λg=>g.2⟩) h)
   ·rw[har.2 g.1]at h0;cases h0
 ·simp only[hk,Int.reduceBEq,aB,aC];have hm:p∈l.ai:=by rw[hp'];simp
  have po:=ag.gH hpp hm;have pL:=hL.part hm;have no:¬(ml v false true true false=true/\v.Names.length=v.ai.length/\km l.Names v.Names)->¬VE l v:=λh g=>by
   obtain⟨p',ns,ps,_,rfl,h1,h2,_⟩:=g.k5 hk;exact h ⟨jT.2 rfl,h2,h1⟩
  refine ae.bif (λh=>ae.ret (fO (no λg=>by rw[g.1]at h;cases h))) (λh=>?_);have h:ml v false true true false=true:=by simpa using h
  have e:=jT.1 h;simp only[aB,aC]at e;rw[bN,af.aH];refine ae.bif (λh=>ae.ret (fO (no λg=>by rw[g.2.1]at h;simp at h))) (λh=>?_);have h1:v.Names.length=v.ai.length:=by simp at h;exact_mod_cast h
  obtain⟨r,ha,har⟩:=H8 (onl:=l.Names) (ns:=v.Names) (by omega) (by omega) (λs hs=>by have:=v2 s hs;omega);rw[ha,au];refine ae.bif (λh=>ae.ret (fO (no λg=>by rw[har.2 g.2.2]at h;cases h))) (λh=>?_);have h2:km l.Names v.Names:=har.1 (by simpa using h);have out:VE l v↔∀x∈v.ai,VE p x/\x≠bot p:=by
   constructor
   ·intro g x hx;obtain⟨p',ns,ps,hp2,rfl,_,_,h3,h4⟩:=g.k5 hk;rw[hp']at hp2;cases hp2;exact⟨h3 x hx,h4 x hx⟩
   ·intro g;rw[e];exact .map hk hp' h2 h1 (λx hx=>(g x hx).1) (λx hx=>(g x hx).2)
  rw[out];refine gE (L:=λi=>(qt Pf) l v i) (P:=λr=>r=true↔∀x∈v.ai,VE p x/\x≠bot p) (len:=v.ai.length) (λi=>∀x∈v.ai.take i,VE p x/\x≠bot p) (λi hi hI k=>?_) (λhI=>?_) 0 (by omega) (by simp)
  ·show ae ((qt Pf) l v i) _;obtain⟨x,hx⟩:=bo hi;have hxm:=aV hx;have:decide (i<v.ai.length)=true:=by simpa using hi
   rw[Vb,vM,af.aH,a7,this,aB,bf hx,au,hp',eO,au];refine ae.bind (ih p hm po pL x (v6 x hxm)) (λy hy=>?_);refine ae.bif (λh=>ae.ret (fO λg=>?_)) (λh=>?_)
   ·rw[hy.2 (g x hxm).1]at h;cases h
   ·have hy:=hy.1 (by simpa using h);rw[au,Iz hB p po,au];rcases acK (b:=bot p) (X:=some false) (Y:=(qt Pf) l v (IntKind.i64.wrap ((i:Int)+1))) (by omega) (v6 x hxm).bv with⟨e1,e2⟩|⟨e1,e2⟩
    ·rw[e2];exact ae.ret (fO λg=>(g x hxm).2 e1)
    ·rw[e2,bW i (by omega)];refine k λz hz=>?_;rw[fM,hx]at hz;rcases b7.1 hz with hz|hz
     ·exact hI z hz
     ·simp at hz;subst hz;exact⟨hy,e1⟩
  ·show ae ((qt Pf) l v v.ai.length) _;have:decide (v.ai.length<v.ai.length)=false:=by simp
   rw[Vb,vM,af.aH,a7,this,aC];rw[eV]at hI;exact ae.ret (oU hI)
 ·simp only[hk,Int.reduceBEq,aB,aC];exact prod (.inl hk)
 ·simp only[hk,Int.reduceBEq,aB,aC];exact prod (.inr hk)
 ·simp only[hk,Int.reduceBEq,aB,aC];refine ae.bif (λh0=>ae.ret ?_) (λh0=>ae.bif (λh2=>ae.ret ?_) (λh2=>ae.bif (λh1=>ae.bif (λh=>?_) (λh=>ae.ret (fO λg=>?_))) (λh1=>ae.ret (fO λg=>?_))))
  ·have h0:v.N=0:=by simpa using h0
   rw[jT];simp only[aB,aC];constructor
   ·intro e;rw[e];exact .AL hk (.inl h0)
   ·intro g;rcases g.k8 hk with⟨n,rfl,_⟩|⟨s,rfl,_⟩
    ·rfl
    ·cases h0
  ·have h2:v.N=2:=by simpa using h2
   rw[jT];simp only[aB,aC];constructor
   ·intro e;rw[e];exact .AL hk (.inr h2)
   ·intro g;rcases g.k8 hk with⟨n,rfl,_⟩|⟨s,rfl,_⟩
    ·rfl
    ·cases h2
  ·have h1:v.N=1:=by simpa using h1
   have e:=jT.1 h;simp only[aB,aC]at e;rw[bN];have out:VE l v↔v.Names.length=1/\km l.Names v.Names:=by
    constructor
    ·intro g;rcases g.k8 hk with⟨n,rfl,hn⟩|⟨s,rfl,hs⟩
     ·have:n=1:=h1;omega
     ·exact⟨rfl,hs⟩
    ·rintro ⟨g1,g2⟩;obtain⟨s,hs⟩:=wA g1;rw[e,hs,h1];rw[hs]at g2;exact .KA hk g2
   rw[out];refine ae.bif (λhlen=>?_) (λhlen=>ae.ret (fO λg=>?_))
   ·obtain⟨r,ha,har⟩:=H8 (onl:=l.Names) (ns:=v.Names) (by omega) (by omega) (λs hs=>by have:=v2 s hs;omega);have hlen:v.Names.length=1:=by simp at hlen;exact_mod_cast hlen
    rw[ha,au];exact ae.ret (by rw[har];exact⟨λg=>⟨hlen,g⟩,λg=>g.2⟩)
   ·rw[g.1]at hlen;simp at hlen
  ·have h1:v.N=1:=by simpa using h1
   rcases g.k8 hk with⟨n,rfl,hn⟩|⟨s,rfl,hs⟩
   ·have:n=1:=h1;omega
   ·rw[jT.2 (by rfl)]at h;cases h
  ·rcases g.k8 hk with⟨n,rfl,hn⟩|⟨s,rfl,hs⟩
   ·rcases hn with rfl|rfl
    ·cases h0
    ·cases h2
   ·cases h1
 ·simp only[hk,Int.reduceBEq,aB,aC];refine ae.bif (λh=>?_) (λh=>ae.ret (fO λg=>?_))
  ·have e:=jT.1 h;simp only[aB,aC]at e;refine ae.bind (abh v4 v5) (λy hy=>ae.ret ?_);rw[hy];exact⟨λg=>by rw[e];exact .CM hk g,λg=>by obtain⟨es,rfl,h2⟩:=g.k9 hk;exact h2⟩
  ·obtain⟨es,rfl,_⟩:=g.k9 hk;rw[jT.2 (by rfl)]at h;cases h
theorem Td {l:ag} {v:af} (hl:l.ok B) (hv:SV v):ae ((f37 Pf) l v) (λr=>r=true↔cA l/\VE l v):=by
 rw[e37,CX];refine ae.bind (acL (by omega) hl) (λy hy=>ae.bif (λh=>?_) (λh=>ae.ret (fO λg=>?_)))
 ·have hL:=hy.1 (by simpa using h);refine ae.bind (abg hB l hl hL v hv) (λz hz=>ae.ret ?_);rw[hz];exact⟨λg=>⟨hL,g⟩,λg=>g.2⟩
 ·rw[hy.2 g.1]at h;cases h
theorem Iq {l:ag} {v:af} (hl:l.ok B) (hL:cA l) (hv:SV v) (h:VE l v):(f37 Pf) l v=some true:=by
 obtain⟨r,e,hr⟩:=Td hB hl hv;rw[e,hr.2 ⟨hL,h⟩]
theorem Pk {l:ag} {v:af} (hl:l.ok B) (hL:cA l) (hv:SV v):∃r,(f151 Pf) l v=some r/\(r=true↔v=bot l):=by
 obtain⟨r,e,hr⟩:=yO (b:=bot l) (m:=274877906944) (by omega) hv.bv;rw[ai3,Bl,EF (by omega) hl hL,au,Iz hB l hl,au,e];exact⟨r,rfl,hr⟩
end
theorem agX {x:Int} (h0:0<=x) (h1:x<18446744073709551616):IntKind.u64.wrap x=x:=by
 simp[IntKind.wrap,IntKind.bits,IntKind.signed];omega
theorem agf {i j:Nat} (h:i+j<4611686018427387904):IntKind.i64.wrap ((IntKind.u64.wrap (IntKind.i64.wrap ((i:Int)+(j:Int)))).fdiv (2^min (Int.toNat 1) IntKind.u64.bits))=(((i+j)/2:Nat):Int):=by
 have e:((2:Int)^min (Int.toNat 1) IntKind.u64.bits)=2:=by decide
 rw[e,wrap64 (x:=(i:Int)+j) (by omega) (by omega),agX (by omega) (by omega),Int.fdiv_eq_ediv_of_nonneg _ (by omega),wrap64 (by omega) (by omega)];omega
theorem adH (a b:List UInt8):(f204 Pf) a b=some (Op.bytesLess a b):=by
 rw[aiT,Bf,aiU,Gg,qO,Gg,qO];simp
theorem acI {u:List (List UInt8)} (hu:rising u=true) {h m:Nat} {y x:List UInt8} (hy:u[h]? =some y) (hx:u[m]? =some x):Op.bytesLess y x=decide (h<m):=by
 rw[ua,HD]at hu;obtain⟨h1,h2⟩:=cr.1 hy;obtain⟨m1,m2⟩:=cr.1 hx;by_cases e:h<m
 ·have:=hu h m h1 m1 e;rw[h2,m2]at this;rw[this];simp[e]
 ·rw[dH e];by_cases e':h=m
  ·subst e';rw[hx]at hy;cases hy;exact kP _
  ·have:=hu m h m1 h1 (by omega);rw[h2,m2]at this;exact pQ this
theorem acJ {u:List (List UInt8)} {x:List UInt8} {m:Nat} (hu:rising u=true) (hl:u.length<=274877906944) (hx:u[m]? =some x):(f150 Pf) u x=some ((m:Int),true):=by
 rw[aiV,wU,bN];have hm:=(cr.1 hx).1;have key:∀k i j:Nat,j-i<=k->i<=m->m<=j->j<=u.length->(uT Pf) u x (i:Int) (j:Int)=some ((m:Int),true):=by
  intro k
  induction k with
  |zero=>
   intro i j hk h1 h2 h3;have e1:i=m:=by omega
   have e2:j=m:=by omega
   subst e1;subst e2;rw[S7,uU,a7,bN,a7];have:decide (j<j)=false:=by simp
   rw[this,aC,dT hm,aB,bf hx,au];simp
  |succ k ih=>
   intro i j hk h1 h2 h3;by_cases e:i<j
   ·obtain⟨y,hy⟩:=bo (l:=u) (i:=(i+j)/2) (by omega);rw[S7,uU,a7,dT e,aB,agf (by omega),bf hy,au,adH,au,acI hu hy hx,bW _ (by omega)];by_cases g:(i+j)/2<m
    ·rw[dT g,aB];exact ih _ _ (by omega) (by omega) h2 h3
    ·rw[dH g,aC];exact ih _ _ (by omega) h1 (by omega) (by omega)
   ·have e1:i=m:=by omega
    have e2:j=m:=by omega
    subst e1;subst e2;exact ih j j (by omega) (by omega) (by omega) h3
 exact key u.length 0 u.length (by omega) (by omega) (by omega) (by omega)
abbrev ix (u:List (List UInt8)) (x:List UInt8):Nat:=u.idxOf x
theorem Au {u:List (List UInt8)} {x:List UInt8} (h:x∈u):u[ix u x]? =some x:=by
 have:=aax h;rw[OD this,List.getElem_idxOf]
theorem agh {u:List (List UInt8)} (hu:rising u=true) {x y:List UInt8} {k:Nat} (hx:x∈u) (hy:u[k]? =some y):k=ix u x↔y=x:=by
 constructor
 ·intro e;rw[e,Au hx]at hy;cases hy;rfl
 ·intro e;subst e;exact mI hu hy (Au hx)
def iR (u:List (List UInt8)) (r:aX):de:=⟨r.If.map λx=>(ix u x:Int),ix u r.dY⟩
def dZ (u cur:List (List UInt8)):List Bool:=u.map λx=>cur.contains x
theorem EH {u cur:List (List UInt8)} {x:List UInt8} (h:x∈u):(dZ u cur)[ix u x]? =some (cur.contains x):=by
 unfold dZ;rw[iL,Au h];rfl
theorem RI {u cur:List (List UInt8)} {x:List UInt8} (hu:rising u=true) (h:x∈u):(dZ u cur).set (ix u x) true=dZ u (cur++[x]):=by
 refine nC λk=>?_;rw[List.getElem?_set];unfold dZ;rw[iL,iL,ja];have hl:=aax h;by_cases e:ix u x=k
 ·subst e;rw[bg rfl,bg hl,Au h];simp
 ·rw[aM e];cases hk:u[k]? with
  |none=>rfl
  |some y=>
   have:y≠x:=λe'=>e ((agh hu h hk).2 e').symm;simp[this]
theorem zt {u cur:List (List UInt8)}:(dZ u cur).length=u.length:=ja _
section
variable {u:List (List UInt8)} (hu:rising u=true) (hl:u.length<=1048576)
include hu hl
theorem KB {x:List UInt8} {hs:List de} (h:x∈u):(f278 Pf) ⟨u,hs⟩ x=some (ix u x:Int):=by
 rw[aiW,Bg,acJ hu (by omega) (Au h)];rfl
theorem agi {ns:List (List UInt8)} {hs:List de} (hn:rising ns=true) (hnl:ns.length<=274877906944) (hs':∀x∈ns,x∈u):(f239 Pf) ⟨u,hs⟩ ns=some (dZ u ns,0):=by
 have hm:o6 ((u.length:Nat):Int)=some u.length:=by
  show(bif Nat.ble u.length 274877906944 then some u.length else none)=_;rw[qZ (by omega)];rfl
 have h0:List.replicate u.length false=dZ u []:=by
  unfold dZ;simp[List.map_const']
 rw[aiX,Bh,oM _ (by omega),hn,au,fL,aC,bN,hm,au,h0];refine ae.of (eo (L:=λi s=>(rK Pf) ⟨u,hs⟩ ns [] s i) (P:=λr=>r=(dZ u ns,0)) (len:=ns.length) (λi s=>s=dZ u (ns.take i)) (λi s hi hI k=>?_) (λs hI=>?_) 0 (dZ u []) (by omega) rfl)
 ·show ae ((rK Pf) ⟨u,hs⟩ ns [] s i) _;obtain⟨x,hx⟩:=bo hi;have hxu:=hs' x (aV hx);have:decide (i<ns.length)=true:=by simpa using hi
  have hlt:=aax hxu;subst hI;rw[S8,uV,bN,a7,this,aB,bf hx,au,KB hu hl hxu,au,dH (by omega),aC,bf (EH hxu),au,bW i (by omega)];refine k _ ?_;rw[mH,RI hu hxu,fM,hx];rfl
 ·show ae ((rK Pf) ⟨u,hs⟩ ns [] s ns.length) _;have:decide (ns.length<ns.length)=false:=by simp
  rw[S8,uV,bN,a7,this,aC];exact ae.ret (by rw[hI,eV])
theorem aff {cs:List (List UInt8)} {hs:List de}:(f240 Pf) ⟨u,hs⟩ (dZ u cs)=some (u.filter λx=>cs.contains x):=by
 rw[aiY,wV];refine ae.of (eo (L:=λi s=>(p4 Pf) ⟨u,hs⟩ (dZ u cs) s i) (P:=λr=>r=u.filter λx=>cs.contains x) (len:=u.length) (λi s=>s=(u.take i).filter λx=>cs.contains x) (λi s hi hI k=>?_) (λs hI=>?_) 0 [] (by omega) rfl)
 ·show ae ((p4 Pf) ⟨u,hs⟩ (dZ u cs) s i) _;obtain⟨x,hx⟩:=bo hi;have hb:(dZ u cs)[i]? =some (cs.contains x):=by unfold dZ;rw[iL,hx];rfl
  have:decide (i<u.length)=true:=by simpa using hi
  have hlen:s.length<=u.length:=by rw[hI];exact iM (DK _ _) (by rw[iK];omega)
  rw[S9,uW,tV,zt,a7,this,aB,bf hb,au,bf hx,au,bW i (by omega),eN (by simp;omega),aB];refine ae.bif (λh=>k _ ?_) (λh=>k _ ?_)
  ·rw[hI,fM,hx,HM];simp only[Option.toList_some,q9,h,if_true,List.filter_nil]
  ·rw[hI,fM,hx,HM];simp only[Option.toList_some,q9,h];simp
 ·show ae ((p4 Pf) ⟨u,hs⟩ (dZ u cs) s u.length) _;have:decide (u.length<u.length)=false:=by simp
  rw[S9,uW,tV,zt,a7,this,aC];exact ae.ret (by rw[hI,eV])
omit hl in
theorem adI {r:aX} {cur:List (List UInt8)} (hr:(∀x∈r.If,x∈u)/\r.dY∈u) (hil:r.If.length<=1048576):(f295 Pf) (iR u r) (dZ u cur)=some (!(cur.contains r.dY)&&r.If.all λx=>cur.contains x):=by
 rw[aiZ,Bi];show((aj (dZ u cur) (ix u r.dY:Int)).bind λx1=>_)=_;rw[bf (EH hr.2),au];cases cur.contains r.dY
 ·rw[aC,DH,Bool.true_and];have:=zW (a:=r.If) (L:=λi=>(rL Pf) (iR u r) (dZ u cur) i) (λx=>cur.contains x) true (λi x hx hi=>by
   show(rL Pf) (iR u r) (dZ u cur) i=_;have hp:(iR u r).oN[i]? =some (ix u x:Int):=by unfold iR;rw[iL,hx];rfl
   have hlen:(iR u r).oN.length=r.If.length:=by unfold iR;exact ja _
   rw[S',uX,oK,hlen,a7];have:decide (i<r.If.length)=true:=by simpa using hi
   rw[this,aB,bf hp,au,bf (EH (hr.1 x (aV hx))),au,bW i (by omega)];cases cur.contains x<;>rfl) (by
   show(rL Pf) (iR u r) (dZ u cur) _=_;have hlen:(iR u r).oN.length=r.If.length:=by unfold iR;exact ja _
   rw[S',uX,oK,hlen,a7];simp)
  rw[q8]at this;exact this
 ·rfl
def JP (u:List (List UInt8)) (rs:List aX):Prop:=∀r∈rs,((∀x∈r.If,x∈u)/\r.dY∈u)/\r.If.length<=1048576/\rising r.If=true
def sU (u:List (List UInt8)) (rs:List aX) (cur cs:List (List UInt8)):Prop:=(∀x∈cs,x∈u)/\(∀x∈cur,x∈cs)/\mB rs cs/\∀ds,mB rs ds->(∀x∈cur,x∈ds)->∀x∈cs,x∈ds
omit hu hl in
theorem adJ {u cur:List (List UInt8)} {x:List UInt8} (hx:x∈u) (hn:x∉cur):(u.filter λy=>!((cur++[x]).contains y)).length<(u.filter λy=>!(cur.contains y)).length:=by
 induction u with
 |nil=>cases hx
 |cons z u ih=>
  have le:∀v:List (List UInt8),(v.filter λy=>!((cur++[x]).contains y)).length<=(v.filter λy=>!(cur.contains y)).length:=by
   intro v
   induction v with
   |nil=>simp
   |cons w v ihv=>
    rw[q9,q9];by_cases h1:w∈cur
    ·simp[h1];simpa using ihv
    ·by_cases h2:w=x
     ·subst h2;simp[h1];have:=ihv;simp at this;try omega
     ·simp[h1,h2];simpa using ihv
  rw[q9,q9];have:=le u;by_cases h2:z=x
  ·subst h2;simp[hn];simp at this;omega
  ·have hx':x∈u:=by rcases cq.1 hx with e|e;exact absurd e.symm h2;exact e
   have:=ih hx';by_cases h1:z∈cur
   ·simp[h1];simpa using this
   ·simp[h1,h2];simp at this;omega
theorem adK {rs:List aX} {a1:List Bool} {m1:Nat} (hr:JP u rs) (hrl:rs.length<=1048576):∀(n:Nat) (cur:List (List UInt8)) (st:List dt),(u.filter λy=>!(cur.contains y)).length<n->(∀x∈cur,x∈u)->st.length+(u.filter λy=>!(cur.contains y)).length<=u.length->
  ae ((tH Pf) ⟨u,rs.map (iR u)⟩ a1 m1 [] [] (dZ u cur) st) (λr=>∃cs,r.1=dZ u cs/\sU u rs cur cs):=by
 intro n
 induction n with
 |zero=>
  intro cur st hn hc hs;omega
 |succ n ih=>
  intro cur st hn hc hs;rw[abf,tI];refine gE (L:=λi=>(pF Pf) ⟨u,rs.map (iR u)⟩ a1 m1 [] [] (dZ u cur) st i) (P:=λr=>∃cs,r.1=dZ u cs/\sU u rs cur cs) (len:=rs.length) (λi=>∀r∈rs.take i,(∀x∈r.If,x∈cur)->r.dY∈cur) (λi hi hI k=>?_) (λhI=>?_) 0 (by omega) (by simp)
  ·show ae ((pF Pf) ⟨u,rs.map (iR u)⟩ a1 m1 [] [] (dZ u cur) st i) _;obtain⟨x,hx⟩:=bo hi;have hm:=aV hx;have hrx:=hr x hm;have hh:(rs.map (iR u))[i]? =some (iR u x):=by rw[iL,hx];rfl
   have:decide (i<rs.length)=true:=by simpa using hi
   have hev:(f280 Pf) (i:Int)=some true:=by rw[ai0,Bj]
   have hneg:((i:Int)== -1)=false:=by simp
   rw[Pm,tJ,de.aH,ja,a7,this,aB,bf hh,au,hev,au,aB,adI hu hrx.1 hrx.2.1,au,bW i (by omega)];refine ae.bif (λh=>?_) (λh=>k λr hr'=>?_)
   ·simp only[bS,kL,gf,tu]at h;have hno:x.dY∉cur:=by have:=h.1;intro g;rw[tu.2 g]at this;cases this
    have hct:=adJ hrx.1.2 hno;rw[hneg,Bool.false_and,aC];show ae ((aj (dZ u cur) (ix u x.dY:Int)).bind _) _;rw[bf (EH hrx.1.2),au,eN (by simp;omega),aB];show ae ((tH Pf) ⟨u,rs.map (iR u)⟩ a1 m1 [] [] ((dZ u cur).set (ix u x.dY:Int).toNat true) _) _;rw[mH,RI hu hrx.1.2];refine(ih (cur++[x.dY]) _ (by omega) (λy hy=>?_) (by simp at*;omega)).mono λr hr=>?_
    ·rcases b7.1 hy with hy|hy
     ·exact hc y hy
     ·simp at hy;subst hy;exact hrx.1.2
    ·obtain⟨cs,h1,h2,h3,h4,h5⟩:=hr;refine⟨cs,h1,h2,λy hy=>h3 y (mE _ hy),h4,λds hd hcd=>h5 ds hd λy hy=>?_⟩;rcases b7.1 hy with hy|hy
     ·exact hcd y hy
     ·simp at hy;subst hy;exact hd x hm λs hs=>hcd s (h.2 s hs)
   ·rw[fM,hx]at hr';rcases b7.1 hr' with hr'|hr'
    ·exact hI r hr'
    ·simp at hr';subst hr';intro ha;refine anZ λhno=>?_;have:(!(cur.contains r.dY)&&r.If.all λx=>cur.contains x)=true:=by
      simp only[bS,kL,gf,tu];exact⟨by simpa using hno,ha⟩
     rw[this]at h;cases h
  ·show ae ((pF Pf) ⟨u,rs.map (iR u)⟩ a1 m1 [] [] (dZ u cur) st rs.length) _;have:decide (rs.length<rs.length)=false:=by simp
   rw[Pm,tJ,de.aH,ja,a7,this,aC];rw[eV]at hI;exact ae.ret ⟨cur,rfl,hc,λx hx=>hx,hI,λds _ h=>h⟩
theorem Rz {rs:List aX} {ns:List (List UInt8)} (hne:∀x∈u,dC x=true) (hr:JP u rs) (hrl:rs.length<=1048576) (hn:rising ns=true) (hnl:ns.length<=274877906944) (hns:∀x∈ns,x∈u):
  ae ((f192 Pf) u rs ns) (λr=>r.2=0/\rising r.1=true/\r.1.length<=u.length/\sU u rs ns r.1):=by
 rw[ai1,wW]
 --the names
 refine gE (L:=λi=>(rM Pf) u rs ns 0 i) (P:=λr=>r.2=0/\rising r.1=true/\r.1.length<=u.length/\sU u rs ns r.1) (len:=u.length) (λ_=>True) (λi hi _ k=>?_) (λ_=>?_) 0 (by omega) trivial
 ·show ae ((rM Pf) u rs ns 0 i) _;obtain⟨x,hx⟩:=bo hi;have hv:=hne x (aV hx);have:decide (i<u.length)=true:=by simpa using hi
  rw[Ta,uY,bN,a7,this,aB,bf hx,au,ma x (by have:=uJ hv;omega),au,hv,fL,aC,bW i (by omega)];exact k trivial
 show ae ((rM Pf) u rs ns 0 u.length) _;have:decide (u.length<u.length)=false:=by simp
 rw[Ta,uY,bN,a7,this,aC,oM _ (by omega),hu,au,fL,aC]
 --the rules
 refine eo (L:=λi s=>(rN Pf) u rs ns 0 u.length true 0 i s) (P:=λr=>r.2=0/\rising r.1=true/\r.1.length<=u.length/\sU u rs ns r.1) (len:=rs.length) (λi s=>s=(rs.take i).map (iR u)) (λi s hi hI k=>?_) (λs hI=>?_) 0 [] (by omega) rfl
 ·show ae ((rN Pf) u rs ns 0 u.length true 0 i s) _;obtain⟨x,hx⟩:=bo hi;have hrx:=hr x (aV hx);have:decide (i<rs.length)=true:=by simpa using hi
  rw[Tb,uZ,aX.aH,a7,this,aB,bf hx,au,oM _ (by omega),hrx.2.2,au,fL,aC,KB hu hl hrx.1.2,au];refine eo (L:=λj t=>(rO Pf) u rs ns 0 u.length true 0 i s x true (ix u x.dY) 0 j t) (P:=λr=>r.2=0/\rising r.1=true/\r.1.length<=u.length/\sU u rs ns r.1) (len:=x.If.length) (λj t=>t=(x.If.take j).map λy=>(ix u y:Int)) (λj t hj hJ kk=>?_) (λt hJ=>?_) 0 [] (by omega) rfl
  ·show ae ((rO Pf) u rs ns 0 u.length true 0 i s x true (ix u x.dY) 0 j t) _;obtain⟨y,hy⟩:=bo hj;have hyu:=hrx.1.1 y (aV hy);have:decide (j<x.If.length)=true:=by simpa using hj
   rw[Tc,u0,bN,a7,this,aB,bf hy,au,KB hu hl hyu,au,dH (by omega),aC,eN (by rw[hJ];simp;omega),aB,bW j (by omega)];exact kk _ (by rw[hJ,fM,hy];simp)
  ·show ae ((rO Pf) u rs ns 0 u.length true 0 i s x true (ix u x.dY) 0 x.If.length t) _;have:decide (x.If.length<x.If.length)=false:=by simp
   rw[Tc,u0,bN,a7,this,aC,dH (by omega),aC,eN (by rw[hI];simp;omega),aB,bW i (by omega)];refine k _ ?_;rw[hI,hJ,eV,fM,hx,qY];rfl
 ·show ae ((rN Pf) u rs ns 0 u.length true 0 rs.length s) _;have:decide (rs.length<rs.length)=false:=by simp
  rw[eV]at hI;subst hI;rw[Tb,uZ,aX.aH,a7,this,aC,agi hu hl hn hnl hns,au];show ae (((f241 Pf) ⟨u,rs.map (iR u)⟩ (dZ u ns)).bind _) _;have hm:o6 (((dZ u ns).length:Nat):Int)=some u.length:=by
   rw[zt];show(bif Nat.ble u.length 274877906944 then some u.length else none)=_;rw[qZ (by omega)];rfl
  rw[ai2,Bk,adL,zw,tV,hm,au,dT (by rw[zt,pB]),aB,dT (by rw[tV,pB,zt]),aB];refine ae.bind (ae.bind (adK hu hl (a1:=dZ u ns) (m1:=u.length) hr hrl (u.length+1) ns [] (Nat.lt_succ_of_le (DK _ _)) hns (by simp only[l4,kJ];exact DK _ _)) (λy hy=>ae.ret (P:=λb=>∃cs,b=dZ u cs/\sU u rs ns cs) hy)) (λb hb=>?_);obtain⟨cs,rfl,hc⟩:=hb;rw[aff hu hl,au];have mem:∀x,x∈(u.filter λx=>cs.contains x)↔x∈cs:=λx=>by
   rw[iN,tu];exact⟨λh=>h.2,λh=>⟨hc.1 x h,h⟩⟩
  refine ae.ret ⟨rfl,?_,DK _ _,λx hx=>(iN.1 hx).1,λx hx=>(mem x).2 (hc.2.1 x hx),λr hr' hi=>(mem _).2 (hc.2.2.1 r hr' λs hs=>(mem s).1 (hi s hs)),λds h1 h2 x hx=>hc.2.2.2 ds h1 h2 x ((mem x).1 hx)⟩;rw[ua]at hu⊢;exact hu.sublist List.filter_sublist
