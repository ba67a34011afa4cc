/- Version vectors, comparisons in three ways, entries of registers: without the program in sight. -/
import Derived.Test.YtnocmolegijmkaaGreatKCt
import Derived.Test.YtnocmolegijmkaaGreatKPl
import Derived.Test.YtnocmolegijmkaaGreatKE7
import Derived.Shelf.Small.Strs
import Derived.Test.YtnocmolegijmkaaGreatKZs
import Derived.Shelf.Sort.Plain
import Derived.Shelf.Slices.In.SortNone
set_option linter.all false
section
namespace Go.Proofs.YtnocmolegijmkaaGreat
open Go Go.Bw
def Tk (t:aj):Prop:=0<=t.Process/\t.Process<=63/\1<=t.N/\t.N<=1000000000000000
def b6:List aj->Prop
 |[]=>True
 |t::c=>Tk t/\(∀u∈c,t.Process<u.Process)/\b6 c
def bV (p:Int):List aj->Int
 |[]=>0
 |t::c=>if t.Process=p then t.N else bV p c
def dL (a b:List aj):Prop:=∀p,bV p a<=bV p b
theorem b6.mem:∀{c:List aj} {t:aj},b6 c->t∈c->Tk t
 |u::c,t,h,ht=>by
  rcases ck.1 ht with rfl|ht
  ·exact h.1
  ·exact b6.mem h.2.2 ht
theorem yM {p:Int}:∀{c:List aj},(∀u∈c,u.Process≠p)->bV p c=0
 |[],_=>rfl
 |t::c,h=>by
  rw[bV,aM (h t (by simp))];exact yM λu hu=>h u (by simp[hu])
theorem qN {p:Int}:∀{c:List aj},b6 c->0<=bV p c
 |[],_=>xx 0
 |t::c,h=>by
  rw[bV];split
  ·have:=h.1.2.2.1;omega
  ·exact qN h.2.2
theorem Ez {p:Int}:∀{c:List aj},b6 c->bV p c<=1000000000000000
 |[],_=>by simp[bV]
 |t::c,h=>by
  rw[bV];split
  ·exact h.1.2.2.2
  ·exact Ez h.2.2
theorem pq {t:aj} {c:List aj} (h:b6 (t::c)):bV t.Process c=0:=yM λu hu e=>by have:=h.2.1 u hu;omega
theorem b6.ext:∀{a b:List aj},b6 a->b6 b->(∀p,bV p a=bV p b)->a=b
 |[],[],_,_,_=>rfl
 |[],t::b,_,hb,h=>by
  have:=h t.Process;rw[bV,bV,bf rfl]at this;have:=hb.1.2.2.1;omega
 |t::a,[],ha,_,h=>by
  have:=h t.Process;rw[bV,bV,bf rfl]at this;have:=ha.1.2.2.1;omega
 |t::a,u::b,ha,hb,h=>by
  have h1:=h t.Process;have h2:=h u.Process;rw[bV,bV,bf rfl]at h1;rw[bV,bV,bf rfl]at h2;have ht:=ha.1.2.2.1;have hu:=hb.1.2.2.1;have e:t.Process=u.Process:=by
   rcases Int.lt_trichotomy t.Process u.Process with g|g|g
   ·rw[aM (by omega),yM (λv hv e=>by have:=hb.2.1 v hv;omega)]at h1;omega
   ·exact g
   ·rw[aM (by omega),yM (λv hv e=>by have:=ha.2.1 v hv;omega)]at h2;omega
  rw[bf e.symm]at h1;have e2:t=u:=by cases t;cases u;simp only at e h1;rw[e,h1]
  subst e2;congr 1;refine b6.ext ha.2.2 hb.2.2 λp=>?_;have:=h p;rw[bV,bV]at this;by_cases hp:t.Process=p
  ·subst hp;rw[pq ha,pq hb]
  ·rwa[aM hp,aM hp]at this
theorem dL.refl (a:List aj):dL a a:=λ_=>xx _
theorem dL.trans {a b c:List aj} (h:dL a b) (g:dL b c):dL a c:=λp=>Int.le_trans (h p) (g p)
theorem dL.antisymm {a b:List aj} (ha:b6 a) (hb:b6 b) (h:dL a b) (g:dL b a):a=b:=b6.ext ha hb λp=>PY (h p) (g p)
def jY (p k:Int):List aj:=if k>0 then [⟨p,k⟩]else []
def dh (f:Int->Int->Int):List aj->List aj->List aj
 |[],[]=>[]
 |t::a,[]=>jY t.Process (f t.N 0)++dh f a []
 |[],u::b=>jY u.Process (f 0 u.N)++dh f [] b
 |t::a,u::b=>if t.Process<u.Process then jY t.Process (f t.N 0)++dh f a (u::b)else if u.Process<t.Process then jY u.Process (f 0 u.N)++dh f (t::a) b else jY t.Process (f t.N u.N)++dh f a b
termination_by a b=>a.length+b.length
theorem yO {p q k:Int} {c:List aj} (hc:bV q c=0):bV p (jY q k++c)=if p=q then max 0 k else bV p c:=by
 unfold jY;by_cases hk:k>0
 ·rw[bf hk];show(if q=p then k else bV p c)=_;by_cases e:p=q
  ·rw[bf e.symm,bf e];omega
  ·rw[aM (λh=>e h.symm),aM e]
 ·rw[aM hk,oW];by_cases e:p=q
  ·rw[bf e,e,hc];omega
  ·rw[aM e]
theorem nh {t:aj} {q k:Int} (h:t∈jY q k):t=⟨q,k⟩/\k>0:=by
 unfold jY at h;split at h
 ·simp at h;exact⟨h,by assumption⟩
 ·simp at h
theorem S' {f:Int->Int->Int} (h0:f 0 0<=0):∀{a b:List aj},b6 a->b6 b->(∀p,bV p (dh f a b)=max 0 (f (bV p a) (bV p b)))/\(∀t∈dh f a b,(t∈a\/∃u∈a,u.Process=t.Process)\/∃u∈b,u.Process=t.Process):=by
 intro a b;have none:∀{c:List aj} {p:Int},(∀u∈c,p<u.Process)->bV p c=0:=λh=>yM λu hu e=>by have:=h u hu;omega
 induction a,b using dh.induct with
 |case1=>intro _ _;rw[dh];exact⟨λp=>by simp[bV];omega,λt ht=>by simp at ht⟩
 |case2 t a ih=>
  intro ha hb;obtain⟨i1,i2⟩:=ih ha.2.2 hb;rw[dh];refine⟨λp=>?_,λv hv=>?_⟩
  ·rw[yO (by rw[i1,pq ha];simp[bV];omega),i1];simp only[bV];by_cases e:p=t.Process
   ·rw[bf e,bf e.symm]
   ·rw[aM e,aM (λh=>e h.symm)]
  ·rcases bU.1 hv with hv|hv
   ·obtain⟨rfl,_⟩:=nh hv;exact .inl (.inr ⟨t,by simp,rfl⟩)
   ·rcases i2 v hv with(h|⟨u,h,e⟩)|⟨u,h,e⟩
    ·exact .inl (.inl (by simp[h]))
    ·exact .inl (.inr ⟨u,by simp[h],e⟩)
    ·simp at h
 |case3 u b ih=>
  intro ha hb;obtain⟨i1,i2⟩:=ih ha hb.2.2;rw[dh];refine⟨λp=>?_,λv hv=>?_⟩
  ·rw[yO (by rw[i1,pq hb];simp[bV];omega),i1];simp only[bV];by_cases e:p=u.Process
   ·rw[bf e,bf e.symm]
   ·rw[aM e,aM (λh=>e h.symm)]
  ·rcases bU.1 hv with hv|hv
   ·obtain⟨rfl,_⟩:=nh hv;exact .inr ⟨u,by simp,rfl⟩
   ·rcases i2 v hv with(h|⟨u',h,e⟩)|⟨u',h,e⟩
    ·simp at h
    ·simp at h
    ·exact .inr ⟨u',by simp[h],e⟩
 |case4 t a u b hlt ih=>
  intro ha hb;obtain⟨i1,i2⟩:=ih ha.2.2 hb;rw[dh,bf hlt];have z:bV t.Process (u::b)=0:=none λv hv=>by
   rcases ck.1 hv with rfl|hv
   ·exact hlt
   ·have:=hb.2.1 v hv;omega
  refine⟨λp=>?_,λv hv=>?_⟩
  ·rw[yO (by rw[i1,pq ha,z];omega),i1];by_cases e:p=t.Process
   ·rw[bf e,e,z];simp[bV]
   ·rw[aM e];have:bV p (t::a)=bV p a:=by rw[bV,aM (λh=>e h.symm)]
    rw[this]
  ·rcases bU.1 hv with hv|hv
   ·obtain⟨rfl,_⟩:=nh hv;exact .inl (.inr ⟨t,by simp,rfl⟩)
   ·rcases i2 v hv with(h|⟨u',h,e⟩)|h
    ·exact .inl (.inl (by simp[h]))
    ·exact .inl (.inr ⟨u',by simp[h],e⟩)
    ·exact .inr h
 |case5 t a u b hlt hgt ih=>
  intro ha hb;obtain⟨i1,i2⟩:=ih ha hb.2.2;rw[dh,aM hlt,bf hgt];have z:bV u.Process (t::a)=0:=none λv hv=>by
   rcases ck.1 hv with rfl|hv
   ·exact hgt
   ·have:=ha.2.1 v hv;omega
  refine⟨λp=>?_,λv hv=>?_⟩
  ·rw[yO (by rw[i1,pq hb,z];omega),i1];by_cases e:p=u.Process
   ·rw[bf e,e,z];simp[bV]
   ·rw[aM e];have:bV p (u::b)=bV p b:=by rw[bV,aM (λh=>e h.symm)]
    rw[this]
  ·rcases bU.1 hv with hv|hv
   ·obtain⟨rfl,_⟩:=nh hv;exact .inr ⟨u,by simp,rfl⟩
   ·rcases i2 v hv with h|⟨u',h,e⟩
    ·exact .inl h
    ·exact .inr ⟨u',by simp[h],e⟩
 |case6 t a u b hlt hgt ih=>
  intro ha hb;obtain⟨i1,i2⟩:=ih ha.2.2 hb.2.2;rw[dh,aM hlt,aM hgt];have e0:t.Process=u.Process:=by omega
  refine⟨λp=>?_,λv hv=>?_⟩
  ·rw[yO (by rw[i1,pq ha,e0,pq hb];omega),i1];simp only[bV];by_cases e:p=t.Process
   ·rw[bf e,bf e.symm,bf (by omega)]
   ·rw[aM e,aM (λh=>e h.symm),aM (by omega)]
  ·rcases bU.1 hv with hv|hv
   ·obtain⟨rfl,_⟩:=nh hv;exact .inl (.inr ⟨t,by simp,rfl⟩)
   ·rcases i2 v hv with(h|⟨u',h,e⟩)|⟨u',h,e⟩
    ·exact .inl (.inl (by simp[h]))
    ·exact .inl (.inr ⟨u',by simp[h],e⟩)
    ·exact .inr ⟨u',by simp[h],e⟩
theorem xX {f:Int->Int->Int} {q:Int}:∀{a b:List aj},(∀t∈a,q<t.Process)->(∀t∈b,q<t.Process)->∀t∈dh f a b,q<t.Process:=by
 intro a b
 induction a,b using dh.induct with
 |case1=>intro _ _ t ht;rw[dh]at ht;simp at ht
 |case2 t a ih=>
  intro ha hb v hv;rw[dh]at hv;rcases bU.1 hv with hv|hv
  ·obtain⟨rfl,_⟩:=nh hv;exact ha t (by simp)
  ·exact ih (λv hv=>ha v (by simp[hv])) hb v hv
 |case3 u b ih=>
  intro ha hb v hv;rw[dh]at hv;rcases bU.1 hv with hv|hv
  ·obtain⟨rfl,_⟩:=nh hv;exact hb u (by simp)
  ·exact ih ha (λv hv=>hb v (by simp[hv])) v hv
 |case4 t a u b hlt ih=>
  intro ha hb v hv;rw[dh,bf hlt]at hv;rcases bU.1 hv with hv|hv
  ·obtain⟨rfl,_⟩:=nh hv;exact ha t (by simp)
  ·exact ih (λv hv=>ha v (by simp[hv])) hb v hv
 |case5 t a u b hlt hgt ih=>
  intro ha hb v hv;rw[dh,aM hlt,bf hgt]at hv;rcases bU.1 hv with hv|hv
  ·obtain⟨rfl,_⟩:=nh hv;exact hb u (by simp)
  ·exact ih ha (λv hv=>hb v (by simp[hv])) v hv
 |case6 t a u b hlt hgt ih=>
  intro ha hb v hv;rw[dh,aM hlt,aM hgt]at hv;rcases bU.1 hv with hv|hv
  ·obtain⟨rfl,_⟩:=nh hv;exact ha t (by simp)
  ·exact ih (λv hv=>ha v (by simp[hv])) (λv hv=>hb v (by simp[hv])) v hv
theorem b6.keep {p k:Int} {c:List aj} (hp:0<=p/\p<=63) (hk:k<=1000000000000000) (hc:b6 c) (ha:∀u∈c,p<u.Process):b6 (jY p k++c):=by
 unfold jY;split
 ·exact⟨⟨hp.1,hp.2,by show 1<=k;omega,hk⟩,ha,hc⟩
 ·exact hc
theorem UC {f:Int->Int->Int} (hf:∀m n,m<=1000000000000000->n<=1000000000000000->f m n<=1000000000000000):∀{a b:List aj},b6 a->b6 b->b6 (dh f a b):=by
 intro a b
 induction a,b using dh.induct with
 |case1=>intro _ _;rw[dh];trivial
 |case2 t a ih=>
  intro ha hb;rw[dh];exact .keep ⟨ha.1.1,ha.1.2.1⟩ (hf _ _ ha.1.2.2.2 (by omega)) (ih ha.2.2 hb) (xX ha.2.1 (by simp))
 |case3 u b ih=>
  intro ha hb;rw[dh];exact .keep ⟨hb.1.1,hb.1.2.1⟩ (hf _ _ (by omega) hb.1.2.2.2) (ih ha hb.2.2) (xX (by simp) hb.2.1)
 |case4 t a u b hlt ih=>
  intro ha hb;rw[dh,bf hlt];refine .keep ⟨ha.1.1,ha.1.2.1⟩ (hf _ _ ha.1.2.2.2 (by omega)) (ih ha.2.2 hb) (xX ha.2.1 λv hv=>?_);rcases ck.1 hv with rfl|hv
  ·exact hlt
  ·have:=hb.2.1 v hv;omega
 |case5 t a u b hlt hgt ih=>
  intro ha hb;rw[dh,aM hlt,bf hgt];refine .keep ⟨hb.1.1,hb.1.2.1⟩ (hf _ _ (by omega) hb.1.2.2.2) (ih ha hb.2.2) (xX (λv hv=>?_) hb.2.1);rcases ck.1 hv with rfl|hv
  ·exact hgt
  ·have:=ha.2.1 v hv;omega
 |case6 t a u b hlt hgt ih=>
  intro ha hb;rw[dh,aM hlt,aM hgt];refine .keep ⟨ha.1.1,ha.1.2.1⟩ (hf _ _ ha.1.2.2.2 hb.1.2.2.2) (ih ha.2.2 hb.2.2) (xX ha.2.1 λv hv=>?_);have:=hb.2.1 v hv;omega
def qp (a b:List aj):List aj:=dh max a b
theorem adX {a b:List aj} (ha:b6 a) (hb:b6 b) (p:Int):bV p (qp a b)=max (bV p a) (bV p b):=by
 have:=(S' (f:=max) (by omega) ha hb).1 p;have h1:=qN (p:=p) ha;have h2:=qN (p:=p) hb;unfold qp;omega
theorem IH {a b:List aj} (ha:b6 a) (hb:b6 b):b6 (qp a b):=UC (λm n _ _=>by omega) ha hb
def over (m n:Int):Int:=if m>n then m else 0
theorem S7 {a b:List aj} (ha:b6 a) (hb:b6 b):dh over a b=[]↔dL a b:=by
 have h0:over 0 0<=0:=by unfold over;simp
 have hc:b6 (dh over a b):=UC (λm n h _=>by unfold over;split<;>omega) ha hb;have hs:=(S' h0 ha hb).1;constructor
 ·intro e p;have:=hs p;rw[e]at this;unfold over at this;simp only[bV]at this;have:=qN (p:=p) hb;split at* <;>omega
 ·intro h;refine b6.ext hc trivial λp=>?_;rw[hs];have:=h p;unfold over;rw[aM (by omega)];rfl
def kI (a b:Int):Int:=if a<b then-1 else if b<a then 1 else 0
def eB (a b:List UInt8):Int:=bif Op.bytesLess a b then-1 else bif Op.bytesLess b a then 1 else 0
theorem EA:fw kI where
 fE a b:=by
  unfold kI;split
  ·simp;omega
  ·split<;>simp<;>omega
 jI a b:=by unfold kI;split<;>split<;>(try split)<;>omega
 trans a b d:=by unfold kI;split<;>split<;>(try split)<;>(try split)<;>(try split)<;>omega
theorem ng:fw eB where
 fE a b:=by
  unfold eB;rcases rJ a b with rfl|h|h
  ·simp[kr]
  ·rw[h];simp;rintro rfl;rw[kr]at h;cases h
  ·rw[h,pn h];simp;rintro rfl;rw[kr]at h;cases h
 jI a b:=by
  unfold eB;rcases rJ a b with rfl|h|h
  ·simp[kr]
  ·rw[h,pn h];rfl
  ·rw[h,pn h];rfl
 trans a b d:=by
  have key:∀a b,eB a b<0↔Op.bytesLess a b=true:=λa b=>by
   unfold eB;cases Op.bytesLess a b<;>cases Op.bytesLess b a<;>simp
  simp only[key];exact qV
def F6 (a b:aj):Int:=gg (kI a.Process b.Process) (kI a.N b.N)
theorem ad0:fw F6:=(fw.lex EA EA).map (λt:aj=>(t.Process,t.N)) λx y e=>by cases x;cases y;simp at e;simp[e]
def fy (a b:az):Int:=gg (eB a.Name b.Name) (cmpL F6 a.a8 b.a8)
theorem pk:fw fy:=(fw.lex ng (Ej ad0)).map (λt:az=>(t.Name,t.a8)) λx y e=>by cases x;cases y;simp at e;simp[e]
inductive BV (m:Nat):ah->Prop
 |mk {v:ah}:v.Names.length<=m->v.ak.length<=m->v.Entries.length<=m->(∀e∈v.Entries,e.a8.length<=m)->(∀p∈v.ak,BV m p)->BV m v
theorem BV.names {m:Nat} {v:ah} (h:BV m v):v.Names.length<=m:=by cases h;assumption
theorem BV.parts {m:Nat} {v:ah} (h:BV m v):v.ak.length<=m:=by cases h;assumption
theorem BV.entries {m:Nat} {v:ah} (h:BV m v):v.Entries.length<=m:=by cases h;assumption
theorem BV.Fq {m:Nat} {v:ah} (h:BV m v):∀e∈v.Entries,e.a8.length<=m:=by cases h;assumption
theorem BV.part {m:Nat} {v p:ah} (h:BV m v) (hp:p∈v.ak):BV m p:=by cases h with|mk _ _ _ _ h=>exact h p hp
theorem ah.ind {P:ah->Prop} (h:∀x:ah,(∀k∈x.ak,P k)->P x):∀x,P x:=by
 intro x;refine ah.rec (motive_1:=P) (motive_2:=λks=>∀k∈ks,P k) ?_ ?_ ?_ x
 ·intro n ns ps es ih;exact h ⟨n,ns,ps,es⟩ ih
 ·intro k hk;cases hk
 ·intro k ks h1 h2 x hx;rcases ck.1 hx with rfl|hx
  ·exact h1
  ·exact h2 x hx
theorem BV.mono {m n:Nat} (h:m<=n):∀{v:ah},BV m v->BV n v:=by
 intro v;refine ah.ind (P:=λv=>BV m v->BV n v) (λv ih hv=>?_) v;exact .mk (by have:=hv.names;omega) (by have:=hv.parts;omega) (by have:=hv.entries;omega) (λe he=>by have:=hv.Fq e he;omega) λp hp=>ih p hp (hv.part hp)
end Go.Proofs.YtnocmolegijmkaaGreat
end

section
namespace Go.Proofs
open Go.Shelf
def abr:Go.Shelf.Ren:=⟨λ|106=>227|213=>263|265=>282|n=>n,λ|9=>9|3=>3|n=>n,λ|n=>n⟩
theorem afD:Go.Proofs.Lays.n106 Tryz.prog abr:={
 mixed:=by kernel_rfl
 f106:=Tryz.func227.trans (congrArg some (by kernel_rfl))
 f213:=Tryz.func263.trans (congrArg some (by kernel_rfl))
 f265:=Tryz.func282.trans (congrArg some (by kernel_rfl))
 t3:=Tryz.underlying3
 a3:=Tryz.isAgg3
 z3:=Tryz.sizeOf3
 v3:=Tryz.zeroValue3
 t9:=Tryz.underlying9
 a9:=Tryz.isAgg9
 z9:=Tryz.sizeOf9
 v9:=Tryz.zeroValue9}
end Go.Proofs
namespace Go.Proofs.YtnocmolegijmkaaGreat
open Go Go.Bw
abbrev Gg:=List UInt8->List UInt8->Option Int
def BN:Gg:=λa b=>some (Lib.compareBytes a b)
def Nq (p:Gg):Prop:=∀a b r,p a b=some r->Bw.Pure env.toCx 227 [.v (.string ⟨⟨a⟩⟩),.v (.string ⟨⟨b⟩⟩)] (.ret (.v (.int .i64 r)))
theorem BY:Nq BN:=by
 intro a b r h;cases h;exact abA (E:=env) ⟨_,Tryz.func227,by kernel_rfl,by kernel_rfl⟩ (xs:=[.string ⟨⟨a⟩⟩,.string ⟨⟨b⟩⟩]) λw=>Any.strings_Compare afD ⟨⟨a⟩⟩ ⟨⟨b⟩⟩ w
theorem afC (a b):BN a b=some (Lib.compareBytes a b):=rfl
end Go.Proofs.YtnocmolegijmkaaGreat
end

section
namespace Go.Proofs
open Go.Shelf
def aa3:Go.Shelf.Ren:=⟨λ|190=>236|125=>276|258=>275|128=>293|129=>294|302=>285|303=>286|304=>287|305=>288|306=>289|307=>290|308=>204|309=>291|310=>292|333=>304|329=>305|330=>306|334=>307|335=>308|336=>247|344=>312|n=>n,λ|31=>22|9=>9|3=>3|46=>220|0=>0|51=>297|53=>218|4=>4|183=>291|182=>290|131=>171|5=>5|218=>309|222=>312|228=>316|229=>102|n=>n,λ|n=>n⟩
theorem EK:Go.Proofs.Lays.n190 Tryz.prog aa3:={
 mixed:=by kernel_rfl
 f125:=Tryz.func276.trans (congrArg some (by kernel_rfl))
 f128:=Tryz.func293.trans (congrArg some (by kernel_rfl))
 f129:=Tryz.func294.trans (congrArg some (by kernel_rfl))
 f190:=Tryz.func236.trans (congrArg some (by kernel_rfl))
 f258:=Tryz.func275.trans (congrArg some (by kernel_rfl))
 f302:=Tryz.func285.trans (congrArg some (by kernel_rfl))
 f303:=Tryz.func286.trans (congrArg some (by kernel_rfl))
 f304:=Tryz.func287.trans (congrArg some (by kernel_rfl))
 f305:=Tryz.func288.trans (congrArg some (by kernel_rfl))
 f306:=Tryz.func289.trans (congrArg some (by kernel_rfl))
 f307:=Tryz.func290.trans (congrArg some (by kernel_rfl))
 f308:=Tryz.func204.trans (congrArg some (by kernel_rfl))
 f309:=Tryz.func291.trans (congrArg some (by kernel_rfl))
 f310:=Tryz.func292.trans (congrArg some (by kernel_rfl))
 f329:=Tryz.func305.trans (congrArg some (by kernel_rfl))
 f330:=Tryz.func306.trans (congrArg some (by kernel_rfl))
 f333:=Tryz.func304.trans (congrArg some (by kernel_rfl))
 f334:=Tryz.func307.trans (congrArg some (by kernel_rfl))
 f335:=Tryz.func308.trans (congrArg some (by kernel_rfl))
 f336:=Tryz.func247.trans (congrArg some (by kernel_rfl))
 f344:=Tryz.func312.trans (congrArg some (by kernel_rfl))
 t0:=Tryz.underlying0
 a0:=Tryz.isAgg0
 z0:=Tryz.sizeOf0
 v0:=Tryz.zeroValue0
 t3:=Tryz.underlying3
 a3:=Tryz.isAgg3
 z3:=Tryz.sizeOf3
 v3:=Tryz.zeroValue3
 t4:=Tryz.underlying4
 a4:=Tryz.isAgg4
 z4:=Tryz.sizeOf4
 v4:=Tryz.zeroValue4
 t5:=Tryz.underlying5
 a5:=Tryz.isAgg5
 z5:=Tryz.sizeOf5
 v5:=Tryz.zeroValue5
 t9:=Tryz.underlying9
 a9:=Tryz.isAgg9
 z9:=Tryz.sizeOf9
 v9:=Tryz.zeroValue9
 t31:=Tryz.underlying22
 a31:=Tryz.isAgg22
 z31:=Tryz.sizeOf22
 v31:=Tryz.zeroValue22
 t46:=Tryz.underlying220
 a46:=Tryz.isAgg220
 z46:=Tryz.sizeOf220
 v46:=Tryz.zeroValue220
 t51:=Tryz.underlying297
 a51:=Tryz.isAgg297
 z51:=Tryz.sizeOf297
 v51:=Tryz.zeroValue297
 t53:=Tryz.underlying218
 a53:=Tryz.isAgg218
 z53:=Tryz.sizeOf218
 v53:=Tryz.zeroValue218
 t131:=Tryz.underlying171
 a131:=Tryz.isAgg171
 z131:=Tryz.sizeOf171
 v131:=Tryz.zeroValue171
 t182:=Tryz.underlying290
 a182:=Tryz.isAgg290
 z182:=Tryz.sizeOf290
 v182:=Tryz.zeroValue290
 t183:=Tryz.underlying291
 a183:=Tryz.isAgg291
 z183:=Tryz.sizeOf291
 v183:=Tryz.zeroValue291
 t218:=Tryz.underlying309
 a218:=Tryz.isAgg309
 z218:=Tryz.sizeOf309
 v218:=Tryz.zeroValue309
 t222:=Tryz.underlying312
 a222:=Tryz.isAgg312
 z222:=Tryz.sizeOf312
 v222:=Tryz.zeroValue312
 t228:=Tryz.underlying316
 a228:=Tryz.isAgg316
 z228:=Tryz.sizeOf316
 v228:=Tryz.zeroValue316
 t229:=Tryz.underlying102
 a229:=Tryz.isAgg102
 z229:=Tryz.sizeOf102
 v229:=Tryz.zeroValue102}
end Go.Proofs
namespace Go.Proofs.YtnocmolegijmkaaGreat
open Go Go.Bw
theorem Xw:∀a b:List UInt8,Op.bytesLess a b=true↔a<b
 |[],[]=>by simp[Op.bytesLess]
 |[],_::_=>by simp[Op.bytesLess]
 |_::_,[]=>by simp[Op.bytesLess]
 |x::a,y::b=>by rw[uM,List.cons_lt_cons_iff,Xw a b]
theorem uU (a b:List UInt8):decide (a<=b)=true↔eB a b<=0:=by
 rw[jA,<-List.not_lt,<-Xw];unfold eB;rcases rJ a b with rfl|h|h
 ·simp[kr]
 ·rw[h,pn h];simp
 ·rw[h,pn h];simp
theorem P8 (l:List (List UInt8)):(l.mergeSort λx y=>decide (x<=y))=dJ eB l:=by
 refine Hv ng ((List.mergeSort_perm l _).trans (oc l).symm) ?_ (sV ng l);refine(List.pairwise_mergeSort (le:=λx y:List UInt8=>decide (x<=y)) (λa b c h g=>?_) (λa b=>?_) l).imp λh=>(uU _ _).1 h
 ·exact(uU _ _).2 (ng.le_trans ((uU _ _).1 h) ((uU _ _).1 g))
 ·have h1:=ng.jI a b;rw[sQ,uU,uU];omega
theorem aeo:Ir env.P 236 (dJ eB):=by
 refine⟨λfF off cap ss w hH hb hl=>?_,λp cap w=>Any.slices_Sort_string_none EK p cap w⟩;rw[<-P8];exact Any.slices_Sort_string EK fF off cap ss w hH hb hl
abbrev M':=List (List UInt8)->Option (Unit×List (List UInt8))
def wm:M':=λa0=>bif decide (a0.length<=274877906944)then some ((),dJ eB a0)else none
def Yf (p:M'):Prop:=∀a0 r,p a0=some r->jW env 236 [(.os 0 (aG a0).length)] (.row 9 1 (aG a0)) (.bQ []) (.row 9 1 (aG r.2))
theorem Ns:Yf wm:=by
 intro a0 r h;rw[wm]at h;cases hd:decide (a0.length<=274877906944)with
 |false=>rw[hd]at h;cases h
 |true=>
  rw[hd,aB]at h;cases h;have:=iV hd;exact jW.sort (E:=env) ⟨_,Tryz.func236,by kernel_rfl,by kernel_rfl⟩ aeo (λl=>nc l) bH (by omega)
theorem afh (a0):wm a0=bif decide (a0.length<=274877906944)then some ((),dJ eB a0)else none:=rfl
