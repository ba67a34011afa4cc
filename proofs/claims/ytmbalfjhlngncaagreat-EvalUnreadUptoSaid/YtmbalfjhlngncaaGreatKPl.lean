/- Loops over two lists, and over one, as plain functions. -/
import Derived.Test.YtmbalfjhlngncaaGreatKCt
set_option linter.all false
namespace Go.Proofs.YtmbalfjhlngncaaGreat
open Go Go.Bw
theorem bg {α:Type} {l:List α} {i:Nat} {x:α} (h:l[i]? =some x):ao l (i:Int)=some x:=h
theorem bw {α:Type} {l:List α} {i:Nat} (h:i<l.length):∃x,l[i]? =some x:=⟨l[i],by simp[h]⟩
theorem jq {α:Type}:∀{l:List α} {i:Nat} {x:α},l[i]? =some x->l.drop i=x::l.drop (i+1)
 |y::l,0,x,h=>by simp only[jj,aC]at h;subst h;simp
 |y::l,i+1,x,h=>by simpa using jq (l:=l) (by simpa using h)
theorem CU {α β:Type} {a:List α} {b:List β} {L:Int->Option Bool} (p:α->β->Bool) (e:Bool) (hl:a.length=b.length)
  (hs:∀(i:Nat) x y,a[i]? =some x->b[i]? =some y->i<a.length->L (i:Int)=bif p x y then L ((i+1:Nat):Int)else some false) (he:L (a.length:Int)=some e):
  L 0=some ((a.zip b).all (λq=>p q.1 q.2)&&e):=by
 have key:∀k i:Nat,k=a.length-i->i<=a.length->L (i:Int)=some (((a.drop i).zip (b.drop i)).all (λq=>p q.1 q.2)&&e):=by
  intro k
  induction k with
  |zero=>
   intro i hk hi;have:i=a.length:=by omega
   subst this;rw[he];simp
  |succ k ih=>
   intro i hk hi;have hi':i<a.length:=by omega
   obtain⟨x,hx⟩:=bw hi';obtain⟨y,hy⟩:=bw (l:=b) (by omega:i<b.length);rw[hs i x y hx hy hi',jq hx,jq hy,FI,kH];cases p x y with
   |false=>rfl
   |true=>simpa using ih (i+1) (by omega) (by omega)
 simpa using key a.length 0 (by omega) (by omega)
theorem Rp {α:Type} [BEq α] [LawfulBEq α]:∀{a b:List α},a.length=b.length->((a.zip b).all (λq=>q.1==q.2)=true↔a=b)
 |[],[],_=>by simp
 |x::a,y::b,h=>by
  rw[FI,kH,bJ,Rp (by simpa using h),beq_iff_eq,kb]
 |[],_::_,h=>by simp at h
 |_::_,[],h=>by simp at h
theorem aeD {α:Type} [BEq α] [LawfulBEq α] [BEq (List α)] [LawfulBEq (List α)] {a b:List α} (h:a.length=b.length):(a.zip b).all (λq=>q.1==q.2)=(a==b):=
 mi.2 ((Rp h).trans beq_iff_eq.symm)
def rising:List (List UInt8)->Bool
 |x::y::r=>Op.bytesLess x y&&rising (y::r)
 |_=>true
theorem jG:∀a:List UInt8,Op.bytesLess a a=false
 |[]=>rfl
 |x::a=>by
  have h:(decide (x<x))=false:=by simp
  show(decide (x<x)||(x==x&&Op.bytesLess a a))=false;rw[h,jG a];simp
theorem tK (x y:UInt8) (a b:List UInt8):Op.bytesLess (x::a) (y::b)=true↔x<y\/(x=y/\Op.bytesLess a b=true):=by
 show(decide (x<y)||(x==y&&Op.bytesLess a b))=true↔_;simp
theorem ID {x y:UInt8}:x<y↔x.toNat<y.toNat:=UInt8.lt_iff_toNat_lt
theorem qe:∀{a b c:List UInt8},Op.bytesLess a b=true->Op.bytesLess b c=true->Op.bytesLess a c=true
 |[],b,[],_,h=>by cases b<;>cases h
 |[],_,_::_,_,_=>rfl
 |_::_,[],_,h,_=>by cases h
 |_::_,_::_,[],_,h=>by cases h
 |x::a,y::b,z::c,h,g=>by
  rw[tK]at h g⊢;rcases h with h|⟨rfl,h⟩<;>rcases g with g|⟨rfl,g⟩
  ·rw[ID]at*;exact .inl (by omega)
  ·exact .inl h
  ·exact .inl g
  ·exact .inr ⟨rfl,qe h g⟩
theorem qQ:∀a b:List UInt8,a=b\/Op.bytesLess a b=true\/Op.bytesLess b a=true
 |[],[]=> .inl rfl
 |[],_::_=> .inr (.inl rfl)
 |_::_,[]=> .inr (.inr rfl)
 |x::a,y::b=>by
  rw[tK,tK];by_cases h:x=y
  ·subst h;rcases qQ a b with rfl|h|h
   ·exact .inl rfl
   ·exact .inr (.inl (.inr ⟨rfl,h⟩))
   ·exact .inr (.inr (.inr ⟨rfl,h⟩))
  ·have:x.toNat≠y.toNat:=λe=>h (UInt8.toNat_inj.1 e);simp only[ID];omega
theorem oF {a b:List UInt8} (h:Op.bytesLess a b=true):Op.bytesLess b a=false:=by
 cases g:Op.bytesLess b a with
 |false=>rfl
 |true=>have:=qe h g;rw[jG]at this;cases this
theorem jF {x:List UInt8}:∀{l:List (List UInt8)},rising (x::l)=true↔(∀y∈l,Op.bytesLess x y=true)/\rising l=true
 |[]=>by simp[rising]
 |y::l=>by
  rw[show rising (x::y::l)=(Op.bytesLess x y&&rising (y::l))from rfl,bJ];constructor
  ·rintro ⟨h,g⟩;refine⟨λz hz=>?_,g⟩;rcases b6.1 hz with rfl|hz
   ·exact h
   ·exact qe h ((jF.1 g).1 z hz)
  ·rintro ⟨h,g⟩;exact⟨h y (by simp),g⟩
theorem Ck:∀{a b:List (List UInt8)},rising a=true->rising b=true->(∀x,x∈a↔x∈b)->a=b
 |[],[],_,_,_=>rfl
 |[],y::b,_,_,h=>absurd ((h y).2 (by simp)) (by simp)
 |x::a,[],_,_,h=>absurd ((h x).1 (by simp)) (by simp)
 |x::a,y::b,ha,hb,h=>by
  rw[jF]at ha hb;have e:x=y:=by
   rcases b6.1 ((h x).1 (by simp))with e|hx
   ·exact e
   ·rcases b6.1 ((h y).2 (by simp))with e|hy
    ·exact e.symm
    ·have h1:=hb.1 x hx;have h2:=ha.1 y hy;rw[oF h1]at h2;cases h2
  subst e;congr 1;refine Ck ha.2 hb.2 λz=>?_;constructor
  ·intro hz;rcases b6.1 ((h z).1 (by simp[hz]))with rfl|h1
   ·have:=ha.1 z hz;rw[jG]at this;cases this
   ·exact h1
  ·intro hz;rcases b6.1 ((h z).2 (by simp[hz]))with rfl|h1
   ·have:=hb.1 z hz;rw[jG]at this;cases this
   ·exact h1
def Tk (t:ai):Prop:=0<=t.Process/\t.Process<=63/\1<=t.N/\t.N<=1000000000000000
def bQ:List ai->Prop
 |[]=>True
 |t::c=>Tk t/\(∀u∈c,t.Process<u.Process)/\bQ c
def bR (p:Int):List ai->Int
 |[]=>0
 |t::c=>if t.Process=p then t.N else bR p c
def dp (a b:List ai):Prop:=∀p,bR p a<=bR p b
theorem bQ.mem:∀{c:List ai} {t:ai},bQ c->t∈c->Tk t
 |u::c,t,h,ht=>by
  rcases b6.1 ht with rfl|ht
  ·exact h.1
  ·exact bQ.mem h.2.2 ht
theorem xf {p:Int}:∀{c:List ai},(∀u∈c,u.Process≠p)->bR p c=0
 |[],_=>rfl
 |t::c,h=>by
  rw[bR,aN (h t (by simp))];exact xf λu hu=>h u (by simp[hu])
theorem p5 {p:Int}:∀{c:List ai},bQ c->0<=bR p c
 |[],_=>we 0
 |t::c,h=>by
  rw[bR];split
  ·have:=h.1.2.2.1;omega
  ·exact p5 h.2.2
theorem CS {p:Int}:∀{c:List ai},bQ c->bR p c<=1000000000000000
 |[],_=>by simp[bR]
 |t::c,h=>by
  rw[bR];split
  ·exact h.1.2.2.2
  ·exact CS h.2.2
theorem oG {t:ai} {c:List ai} (h:bQ (t::c)):bR t.Process c=0:=xf λu hu e=>by have:=h.2.1 u hu;omega
theorem bQ.ext:∀{a b:List ai},bQ a->bQ b->(∀p,bR p a=bR p b)->a=b
 |[],[],_,_,_=>rfl
 |[],t::b,_,hb,h=>by
  have:=h t.Process;rw[bR,bR,bq rfl]at this;have:=hb.1.2.2.1;omega
 |t::a,[],ha,_,h=>by
  have:=h t.Process;rw[bR,bR,bq rfl]at this;have:=ha.1.2.2.1;omega
 |t::a,u::b,ha,hb,h=>by
  have h1:=h t.Process;have h2:=h u.Process;rw[bR,bR,bq rfl]at h1;rw[bR,bR,bq rfl]at h2;have ht:=ha.1.2.2.1;have hu:=hb.1.2.2.1;have e:t.Process=u.Process:=by
   rcases Int.lt_trichotomy t.Process u.Process with g|g|g
   ·rw[aN (by omega),xf (λv hv e=>by have:=hb.2.1 v hv;omega)]at h1;omega
   ·exact g
   ·rw[aN (by omega),xf (λv hv e=>by have:=ha.2.1 v hv;omega)]at h2;omega
  rw[bq e.symm]at h1;have e2:t=u:=by cases t;cases u;simp only at e h1;rw[e,h1]
  subst e2;congr 1;refine bQ.ext ha.2.2 hb.2.2 λp=>?_;have:=h p;rw[bR,bR]at this;by_cases hp:t.Process=p
  ·subst hp;rw[oG ha,oG hb]
  ·rwa[aN hp,aN hp]at this
theorem dp.refl (a:List ai):dp a a:=λ_=>we _
theorem dp.trans {a b c:List ai} (h:dp a b) (g:dp b c):dp a c:=λp=>MV (h p) (g p)
theorem dp.antisymm {a b:List ai} (ha:bQ a) (hb:bQ b) (h:dp a b) (g:dp b a):a=b:=bQ.ext ha hb λp=>MU (h p) (g p)
def jv (p k:Int):List ai:=if k>0 then [⟨p,k⟩]else []
def cT (f:Int->Int->Int):List ai->List ai->List ai
 |[],[]=>[]
 |t::a,[]=>jv t.Process (f t.N 0)++cT f a []
 |[],u::b=>jv u.Process (f 0 u.N)++cT f [] b
 |t::a,u::b=>if t.Process<u.Process then jv t.Process (f t.N 0)++cT f a (u::b)else if u.Process<t.Process then jv u.Process (f 0 u.N)++cT f (t::a) b else jv t.Process (f t.N u.N)++cT f a b
termination_by a b=>a.length+b.length
theorem xg {p q k:Int} {c:List ai} (hc:bR q c=0):bR p (jv q k++c)=if p=q then max 0 k else bR p c:=by
 unfold jv;by_cases hk:k>0
 ·rw[bq hk];show(if q=p then k else bR p c)=_;by_cases e:p=q
  ·rw[bq e.symm,bq e];omega
  ·rw[aN (λh=>e h.symm),aN e]
 ·rw[aN hk,pO];by_cases e:p=q
  ·rw[bq e,e,hc];omega
  ·rw[aN e]
theorem my {t:ai} {q k:Int} (h:t∈jv q k):t=⟨q,k⟩/\k>0:=by
 unfold jv at h;split at h
 ·simp at h;exact⟨h,by assumption⟩
 ·simp at h
theorem P2 {f:Int->Int->Int} (h0:f 0 0<=0):∀{a b:List ai},bQ a->bQ b->(∀p,bR p (cT f a b)=max 0 (f (bR p a) (bR p b)))/\(∀t∈cT f a b,(t∈a\/∃u∈a,u.Process=t.Process)\/∃u∈b,u.Process=t.Process):=by
 intro a b;have none:∀{c:List ai} {p:Int},(∀u∈c,p<u.Process)->bR p c=0:=λh=>xf λu hu e=>by have:=h u hu;omega
 induction a,b using cT.induct with
 |case1=>intro _ _;rw[cT];exact⟨λp=>by simp[bR];omega,λt ht=>by simp at ht⟩
 |case2 t a ih=>
  intro ha hb;obtain⟨i1,i2⟩:=ih ha.2.2 hb;rw[cT];refine⟨λp=>?_,λv hv=>?_⟩
  ·rw[xg (by rw[i1,oG ha];simp[bR];omega),i1];simp only[bR];by_cases e:p=t.Process
   ·rw[bq e,bq e.symm]
   ·rw[aN e,aN (λh=>e h.symm)]
  ·rcases bO.1 hv with hv|hv
   ·obtain⟨rfl,_⟩:=my hv;exact .inl (.inr ⟨t,by simp,rfl⟩)
   ·rcases i2 v hv with(h|⟨u,h,e⟩)|⟨u,h,e⟩
    ·exact .inl (.inl (by simp[h]))
    ·exact .inl (.inr ⟨u,by simp[h],e⟩)
    ·simp at h
 |case3 u b ih=>
  intro ha hb;obtain⟨i1,i2⟩:=ih ha hb.2.2;rw[cT];refine⟨λp=>?_,λv hv=>?_⟩
  ·rw[xg (by rw[i1,oG hb];simp[bR];omega),i1];simp only[bR];by_cases e:p=u.Process
   ·rw[bq e,bq e.symm]
   ·rw[aN e,aN (λh=>e h.symm)]
  ·rcases bO.1 hv with hv|hv
   ·obtain⟨rfl,_⟩:=my hv;exact .inr ⟨u,by simp,rfl⟩
   ·rcases i2 v hv with(h|⟨u',h,e⟩)|⟨u',h,e⟩
    ·simp at h
    ·simp at h
    ·exact .inr ⟨u',by simp[h],e⟩
 |case4 t a u b hlt ih=>
  intro ha hb;obtain⟨i1,i2⟩:=ih ha.2.2 hb;rw[cT,bq hlt];have z:bR t.Process (u::b)=0:=none λv hv=>by
   rcases b6.1 hv with rfl|hv
   ·exact hlt
   ·have:=hb.2.1 v hv;omega
  refine⟨λp=>?_,λv hv=>?_⟩
  ·rw[xg (by rw[i1,oG ha,z];omega),i1];by_cases e:p=t.Process
   ·rw[bq e,e,z];simp[bR]
   ·rw[aN e];have:bR p (t::a)=bR p a:=by rw[bR,aN (λh=>e h.symm)]
    rw[this]
  ·rcases bO.1 hv with hv|hv
   ·obtain⟨rfl,_⟩:=my hv;exact .inl (.inr ⟨t,by simp,rfl⟩)
   ·rcases i2 v hv with(h|⟨u',h,e⟩)|h
    ·exact .inl (.inl (by simp[h]))
    ·exact .inl (.inr ⟨u',by simp[h],e⟩)
    ·exact .inr h
 |case5 t a u b hlt hgt ih=>
  intro ha hb;obtain⟨i1,i2⟩:=ih ha hb.2.2;rw[cT,aN hlt,bq hgt];have z:bR u.Process (t::a)=0:=none λv hv=>by
   rcases b6.1 hv with rfl|hv
   ·exact hgt
   ·have:=ha.2.1 v hv;omega
  refine⟨λp=>?_,λv hv=>?_⟩
  ·rw[xg (by rw[i1,oG hb,z];omega),i1];by_cases e:p=u.Process
   ·rw[bq e,e,z];simp[bR]
   ·rw[aN e];have:bR p (u::b)=bR p b:=by rw[bR,aN (λh=>e h.symm)]
    rw[this]
  ·rcases bO.1 hv with hv|hv
   ·obtain⟨rfl,_⟩:=my hv;exact .inr ⟨u,by simp,rfl⟩
   ·rcases i2 v hv with h|⟨u',h,e⟩
    ·exact .inl h
    ·exact .inr ⟨u',by simp[h],e⟩
 |case6 t a u b hlt hgt ih=>
  intro ha hb;obtain⟨i1,i2⟩:=ih ha.2.2 hb.2.2;rw[cT,aN hlt,aN hgt];have e0:t.Process=u.Process:=by omega
  refine⟨λp=>?_,λv hv=>?_⟩
  ·rw[xg (by rw[i1,oG ha,e0,oG hb];omega),i1];simp only[bR];by_cases e:p=t.Process
   ·rw[bq e,bq e.symm,bq (by omega)]
   ·rw[aN e,aN (λh=>e h.symm),aN (by omega)]
  ·rcases bO.1 hv with hv|hv
   ·obtain⟨rfl,_⟩:=my hv;exact .inl (.inr ⟨t,by simp,rfl⟩)
   ·rcases i2 v hv with(h|⟨u',h,e⟩)|⟨u',h,e⟩
    ·exact .inl (.inl (by simp[h]))
    ·exact .inl (.inr ⟨u',by simp[h],e⟩)
    ·exact .inr ⟨u',by simp[h],e⟩
theorem wQ {f:Int->Int->Int} {q:Int}:∀{a b:List ai},(∀t∈a,q<t.Process)->(∀t∈b,q<t.Process)->∀t∈cT f a b,q<t.Process:=by
 intro a b
 induction a,b using cT.induct with
 |case1=>intro _ _ t ht;rw[cT]at ht;simp at ht
 |case2 t a ih=>
  intro ha hb v hv;rw[cT]at hv;rcases bO.1 hv with hv|hv
  ·obtain⟨rfl,_⟩:=my hv;exact ha t (by simp)
  ·exact ih (λv hv=>ha v (by simp[hv])) hb v hv
 |case3 u b ih=>
  intro ha hb v hv;rw[cT]at hv;rcases bO.1 hv with hv|hv
  ·obtain⟨rfl,_⟩:=my hv;exact hb u (by simp)
  ·exact ih ha (λv hv=>hb v (by simp[hv])) v hv
 |case4 t a u b hlt ih=>
  intro ha hb v hv;rw[cT,bq hlt]at hv;rcases bO.1 hv with hv|hv
  ·obtain⟨rfl,_⟩:=my hv;exact ha t (by simp)
  ·exact ih (λv hv=>ha v (by simp[hv])) hb v hv
 |case5 t a u b hlt hgt ih=>
  intro ha hb v hv;rw[cT,aN hlt,bq hgt]at hv;rcases bO.1 hv with hv|hv
  ·obtain⟨rfl,_⟩:=my hv;exact hb u (by simp)
  ·exact ih ha (λv hv=>hb v (by simp[hv])) v hv
 |case6 t a u b hlt hgt ih=>
  intro ha hb v hv;rw[cT,aN hlt,aN hgt]at hv;rcases bO.1 hv with hv|hv
  ·obtain⟨rfl,_⟩:=my hv;exact ha t (by simp)
  ·exact ih (λv hv=>ha v (by simp[hv])) (λv hv=>hb v (by simp[hv])) v hv
theorem bQ.keep {p k:Int} {c:List ai} (hp:0<=p/\p<=63) (hk:k<=1000000000000000) (hc:bQ c) (ha:∀u∈c,p<u.Process):bQ (jv p k++c):=by
 unfold jv;split
 ·exact⟨⟨hp.1,hp.2,by show 1<=k;omega,hk⟩,ha,hc⟩
 ·exact hc
theorem Ro {f:Int->Int->Int} (hf:∀m n,m<=1000000000000000->n<=1000000000000000->f m n<=1000000000000000):∀{a b:List ai},bQ a->bQ b->bQ (cT f a b):=by
 intro a b
 induction a,b using cT.induct with
 |case1=>intro _ _;rw[cT];trivial
 |case2 t a ih=>
  intro ha hb;rw[cT];exact .keep ⟨ha.1.1,ha.1.2.1⟩ (hf _ _ ha.1.2.2.2 (by omega)) (ih ha.2.2 hb) (wQ ha.2.1 (by simp))
 |case3 u b ih=>
  intro ha hb;rw[cT];exact .keep ⟨hb.1.1,hb.1.2.1⟩ (hf _ _ (by omega) hb.1.2.2.2) (ih ha hb.2.2) (wQ (by simp) hb.2.1)
 |case4 t a u b hlt ih=>
  intro ha hb;rw[cT,bq hlt];refine .keep ⟨ha.1.1,ha.1.2.1⟩ (hf _ _ ha.1.2.2.2 (by omega)) (ih ha.2.2 hb) (wQ ha.2.1 λv hv=>?_);rcases b6.1 hv with rfl|hv
  ·exact hlt
  ·have:=hb.2.1 v hv;omega
 |case5 t a u b hlt hgt ih=>
  intro ha hb;rw[cT,aN hlt,bq hgt];refine .keep ⟨hb.1.1,hb.1.2.1⟩ (hf _ _ (by omega) hb.1.2.2.2) (ih ha hb.2.2) (wQ (λv hv=>?_) hb.2.1);rcases b6.1 hv with rfl|hv
  ·exact hgt
  ·have:=ha.2.1 v hv;omega
 |case6 t a u b hlt hgt ih=>
  intro ha hb;rw[cT,aN hlt,aN hgt];refine .keep ⟨ha.1.1,ha.1.2.1⟩ (hf _ _ ha.1.2.2.2 hb.1.2.2.2) (ih ha.2.2 hb.2.2) (wQ ha.2.1 λv hv=>?_);have:=hb.2.1 v hv;omega
def pC (a b:List ai):List ai:=cT max a b
theorem ab6 {a b:List ai} (ha:bQ a) (hb:bQ b) (p:Int):bR p (pC a b)=max (bR p a) (bR p b):=by
 have:=(P2 (f:=max) (by omega) ha hb).1 p;have h1:=p5 (p:=p) ha;have h2:=p5 (p:=p) hb;unfold pC;omega
theorem G2 {a b:List ai} (ha:bQ a) (hb:bQ b):bQ (pC a b):=Ro (λm n _ _=>by omega) ha hb
def over (m n:Int):Int:=if m>n then m else 0
theorem PZ {a b:List ai} (ha:bQ a) (hb:bQ b):cT over a b=[]↔dp a b:=by
 have h0:over 0 0<=0:=by unfold over;simp
 have hc:bQ (cT over a b):=Ro (λm n h _=>by unfold over;split<;>omega) ha hb;have hs:=(P2 h0 ha hb).1;constructor
 ·intro e p;have:=hs p;rw[e]at this;unfold over at this;simp only[bR]at this;have:=p5 (p:=p) hb;split at* <;>omega
 ·intro h;refine bQ.ext hc trivial λp=>?_;rw[hs];have:=h p;unfold over;rw[aN (by omega)];rfl
def jU (a b:Int):Int:=if a<b then-1 else if b<a then 1 else 0
def dU (a b:List UInt8):Int:=bif Op.bytesLess a b then-1 else bif Op.bytesLess b a then 1 else 0
theorem CT:eM jU where
 eU a b:=by
  unfold jU;split
  ·simp;omega
  ·split<;>simp<;>omega
 iX a b:=by unfold jU;split<;>split<;>(try split)<;>omega
 trans a b d:=by unfold jU;split<;>split<;>(try split)<;>(try split)<;>(try split)<;>omega
theorem mx:eM dU where
 eU a b:=by
  unfold dU;rcases qQ a b with rfl|h|h
  ·simp[jG]
  ·rw[h];simp;rintro rfl;rw[jG]at h;cases h
  ·rw[h,oF h];simp;rintro rfl;rw[jG]at h;cases h
 iX a b:=by
  unfold dU;rcases qQ a b with rfl|h|h
  ·simp[jG]
  ·rw[h,oF h];rfl
  ·rw[h,oF h];rfl
 trans a b d:=by
  have key:∀a b,dU a b<0↔Op.bytesLess a b=true:=λa b=>by
   unfold dU;cases Op.bytesLess a b<;>cases Op.bytesLess b a<;>simp
  simp only[key];exact qe
def En (a b:ai):Int:=fB (jU a.Process b.Process) (jU a.N b.N)
theorem ab9:eM En:=(eM.lex CT CT).map (λt:ai=>(t.Process,t.N)) λx y e=>by cases x;cases y;simp at e;simp[e]
def eO (a b:ax):Int:=fB (dU a.Name b.Name) (cmpL En a.aY b.aY)
theorem oE:eM eO:=(eM.lex mx (CF ab9)).map (λt:ax=>(t.Name,t.aY)) λx y e=>by cases x;cases y;simp at e;simp[e]
inductive BV (m:Nat):af->Prop
 |mk {v:af}:v.Names.length<=m->v.aj.length<=m->v.Entries.length<=m->(∀e∈v.Entries,e.aY.length<=m)->(∀p∈v.aj,BV m p)->BV m v
theorem BV.names {m:Nat} {v:af} (h:BV m v):v.Names.length<=m:=by cases h;assumption
theorem BV.parts {m:Nat} {v:af} (h:BV m v):v.aj.length<=m:=by cases h;assumption
theorem BV.entries {m:Nat} {v:af} (h:BV m v):v.Entries.length<=m:=by cases h;assumption
theorem BV.DU {m:Nat} {v:af} (h:BV m v):∀e∈v.Entries,e.aY.length<=m:=by cases h;assumption
theorem BV.part {m:Nat} {v p:af} (h:BV m v) (hp:p∈v.aj):BV m p:=by cases h with|mk _ _ _ _ h=>exact h p hp
theorem af.ind {P:af->Prop} (h:∀x:af,(∀k∈x.aj,P k)->P x):∀x,P x:=by
 intro x;refine af.rec (motive_1:=P) (motive_2:=λks=>∀k∈ks,P k) ?_ ?_ ?_ x
 ·intro n ns ps es ih;exact h ⟨n,ns,ps,es⟩ ih
 ·intro k hk;cases hk
 ·intro k ks h1 h2 x hx;rcases b6.1 hx with rfl|hx
  ·exact h1
  ·exact h2 x hx
theorem BV.mono {m n:Nat} (h:m<=n):∀{v:af},BV m v->BV n v:=by
 intro v;refine af.ind (P:=λv=>BV m v->BV n v) (λv ih hv=>?_) v;exact .mk (by have:=hv.names;omega) (by have:=hv.parts;omega) (by have:=hv.entries;omega) (λe he=>by have:=hv.DU e he;omega) λp hp=>ih p hp (hv.part hp)
def l0:ah:=⟨0,0,0,[],[],[]⟩
def eN:ah:=⟨9,0,0,[],[],[]⟩
def bm (n:Int):aP:=⟨n,l0⟩
def dD (l:ah):aP:=⟨0,l⟩
def isNone (t:aP):Bool:=t.aX==0&&t.aL.Kind==0
def Fit (w t:aP):Prop:=isNone w=false->w=t
def rA (c:UInt8):Bool:=(97<=c.toNat&&c.toNat<=122)||(48<=c.toNat&&c.toNat<=57)||c.toNat==45
def NV (s:List UInt8):Prop:=s.length<=16/\(∃c,s[0]? =some c/\97<=c.toNat/\c.toNat<=122)/\∀c∈s,rA c=true
def rF:ae->Bool
 |⟨op,_,_,_,_,kids⟩=>op==6||(21<=op&&op<=27)||
  (op==16&&match kids with
   |[x,y]=>rF x&&rF y
   |_=>false)||
  (op==7&&match kids with
   |[_,x,y]=>rF x&&rF y
   |_=>false)
inductive W (l:ah) (ps:List TParam):ae->aP->Prop
 |int {n a:Int} {w:aP}: -1000000000000000<=n->n<=1000000000000000->Fit w (bm 1)->W l ps ⟨1,bm 1,n,[],a,[]⟩ w
 |bool {n a:Int} {w:aP}:(n=0\/n=1)->Fit w (bm 2)->W l ps ⟨2,bm 2,n,[],a,[]⟩ w
 |name {t:List UInt8} {a:Int} {w:aP}:NV t->Fit w (bm 3)->W l ps ⟨3,bm 3,0,t,a,[]⟩ w
 |param {i:Nat} {p:TParam} {a:Int} {w:aP}:ps[i]? =some p->Fit w (bm p.aX)->W l ps ⟨4,bm p.aX,i,[],a,[]⟩ w
 |state {a:Int} {w:aP}:Fit w (dD l)->W l ps ⟨5,dD l,0,[],a,[]⟩ w
 |uk {a:Int} {w:aP}:w.aX=0->isNone w=false->W l ps ⟨6,w,0,[],a,[]⟩ w
 |IW {c x y:ae} {a:Int} {w:aP}:isNone w=false->W l ps c (bm 2)->W l ps x w->W l ps y w->W l ps ⟨7,w,0,[],a,[c,x,y]⟩ w
 |IX {c x y:ae} {a:Int} {w:aP}:isNone w=true->W l ps c (bm 2)->W l ps x (bm 0)->W l ps y x.aK->W l ps ⟨7,x.aK,0,[],a,[c,x,y]⟩ w
 |IY {c x y:ae} {a:Int} {w:aP}:isNone w=true->W l ps c (bm 2)->W l ps y (bm 0)->W l ps x y.aK->W l ps ⟨7,x.aK,0,[],a,[c,x,y]⟩ w
 |conn {op:Int} {x y:ae} {a:Int} {w:aP}:(op=8\/op=9)->W l ps x (bm 2)->W l ps y (bm 2)->Fit w (bm 2)->W l ps ⟨op,bm 2,0,[],a,[x,y]⟩ w
 |not {x:ae} {a:Int} {w:aP}:W l ps x (bm 2)->Fit w (bm 2)->W l ps ⟨10,bm 2,0,[],a,[x]⟩ w
 |less {op:Int} {x y:ae} {a:Int} {w:aP}:(op=11\/op=12)->W l ps x (bm 1)->W l ps y (bm 1)->Fit w (bm 2)->W l ps ⟨op,bm 2,0,[],a,[x,y]⟩ w
 |equal {x y:ae} {a:Int} {w:aP}:W l ps x (bm 0)->x.aK.aX≠0->W l ps y x.aK->Fit w (bm 2)->W l ps ⟨13,bm 2,0,[],a,[x,y]⟩ w
 |IZ {x y:ae} {a:Int} {w:aP}:W l ps x (bm 3)->W l ps y (bm 4)->Fit w (bm 2)->W l ps ⟨14,bm 2,0,[],a,[x,y]⟩ w
 |I0 {x y:ae} {a:Int} {w:aP}:W l ps x (bm 0)->x.aK.aX=0->W l ps y x.aK->Fit w (bm 2)->W l ps ⟨15,bm 2,0,[],a,[x,y]⟩ w
 |I1 {x y:ae} {a:Int} {w:aP}:W l ps y (bm 0)->y.aK.aX=0->W l ps x y.aK->Fit w (bm 2)->W l ps ⟨15,bm 2,0,[],a,[x,y]⟩ w
 |Iy {x y:ae} {a:Int} {w:aP}:isNone w=false->w.aX=0->W l ps x w->W l ps y w->W l ps ⟨16,w,0,[],a,[x,y]⟩ w
 |Iz {x y:ae} {a:Int} {w:aP}:isNone w=true->W l ps x (bm 0)->x.aK.aX=0->W l ps y x.aK->W l ps ⟨16,x.aK,0,[],a,[x,y]⟩ w
 |IA {x y:ae} {a:Int} {w:aP}:isNone w=true->W l ps y (bm 0)->y.aK.aX=0->W l ps x y.aK->W l ps ⟨16,x.aK,0,[],a,[x,y]⟩ w
 |Eh {op:Int} {x y:ae} {a:Int} {w:aP}:(op=17\/op=18)->W l ps x (bm 1)->W l ps y (bm 1)->Fit w (bm 1)->W l ps ⟨op,bm 1,0,[],a,[x,y]⟩ w
 |field {x:ae} {i:Nat} {p:ah} {a:Int} {w:aP}:W l ps x (bm 0)->x.aK.aX=0->x.aK.aL.Kind=6->i<x.aK.aL.Names.length->x.aK.aL.aj[i]? =some p->Fit w (dD p)->W l ps ⟨19,dD p,i,[],a,[x]⟩ w
 |at_ {x k:ae} {p:ah} {a:Int} {w:aP}:W l ps x (bm 0)->x.aK.aX=0->x.aK.aL.Kind=5->x.aK.aL.aj[0]? =some p->W l ps k (bm 3)->Fit w (dD p)->W l ps ⟨20,dD p,0,[],a,[x,k]⟩ w
 |flag {x:ae} {a:Int} {w:aP}:w.aX=0->w.aL.Kind=1->W l ps x (bm 2)->W l ps ⟨21,w,0,[],a,[x]⟩ w
 |num {x:ae} {a:Int} {w:aP}:w.aX=0->(w.aL.Kind=2\/w.aL.Kind=3)->W l ps x (bm 1)->W l ps ⟨22,w,0,[],a,[x]⟩ w
 |I2 {kids:List ae} {a:Int} {w:aP}:w.aX=0->(w.aL.Kind=4\/w.aL.Kind=10)->(∀x∈kids,W l ps x (bm 0))->(∀x∈kids,x.aK.aX=3\/x.aK.aX=4)->W l ps ⟨23,w,0,[],a,kids⟩ w
 |map {kids:List (ae×ae)} {p:ah} {a:Int} {w:aP}:w.aX=0->w.aL.Kind=5->w.aL.aj[0]? =some p->(∀q∈kids,W l ps q.1 (bm 3))->(∀q∈kids,W l ps q.2 (dD p))->W l ps ⟨24,w,0,[],a,kids.flatMap λq=>[q.1,q.2]⟩ w
 |I4 {kids:List ae} {a:Int} {w:aP}:w.aX=0->w.aL.Kind=6->kids.length=w.aL.aj.length->(∀(i:Nat) x p,kids[i]? =some x->w.aL.aj[i]? =some p->W l ps x (dD p))->W l ps ⟨25,w,0,[],a,kids⟩ w
 |pair {x y:ae} {p q:ah} {a:Int} {w:aP}:w.aX=0->w.aL.Kind=7->w.aL.aj[0]? =some p->w.aL.aj[1]? =some q->W l ps x (dD p)->W l ps y (dD q)->W l ps ⟨26,w,0,[],a,[x,y]⟩ w
 |one {x:ae} {a:Int} {w:aP}:w.aX=0->w.aL.Kind=8->W l ps x (bm 3)->W l ps ⟨27,w,0,[],a,[x]⟩ w
 |write {x y z:ae} {a:Int} {w:aP}:W l ps x (dD eN)->W l ps y (bm 1)->W l ps z (bm 3)->Fit w (dD eN)->W l ps ⟨28,dD eN,0,[],a,[x,y,z]⟩ w
 |size {x:ae} {a:Int} {w:aP}:W l ps x (bm 0)->(x.aK.aX=4\/(x.aK.aX=0/\x.aK.aL.Kind∈[4,5,9,10]))->Fit w (bm 1)->W l ps ⟨29,bm 1,0,[],a,[x]⟩ w
 |sum {x:ae} {p:ah} {a:Int} {w:aP}:W l ps x (bm 0)->x.aK.aX=0->x.aK.aL.Kind=5->x.aK.aL.aj[0]? =some p->(p.Kind=2\/p.Kind=3)->Fit w (bm 1)->W l ps ⟨30,bm 1,0,[],a,[x]⟩ w
 |LD {op:Int} {x:ae} {s:Int} {ks:List Int} {a:Int} {w:aP}:(op,s,ks)∈[((31:Int),(1:Int),[(2:Int),3]),(32,2,[1]),(33,4,[5,4,10]),(34,4,[8,9]),(37,2,[8,9])]->W l ps x (bm 0)->x.aK.aX=0->x.aK.aL.Kind∈ks->Fit w (bm s)->W l ps ⟨op,bm s,0,[],a,[x]⟩ w
 |part {op:Int} {i:Nat} {x:ae} {p:ah} {a:Int} {w:aP}:(op=35/\i=0\/op=36/\i=1)->W l ps x (bm 0)->x.aK.aX=0->x.aK.aL.Kind=7->x.aK.aL.aj[i]? =some p->Fit w (dD p)->W l ps ⟨op,dD p,0,[],a,[x]⟩ w
