/- Version vectors, comparisons in three ways, entries of registers: without the program in sight. -/
import Derived.Test.YtnocmolegijmkaaGreatKCt
import Derived.Test.YtnocmolegijmkaaGreatKPl
import Derived.Test.YtnocmolegijmkaaGreatKE7
import Derived.Shelf.Small.Strs
import Derived.Test.YtnocmolegijmkaaGreatKZs
import Derived.Shelf.Sort.Plain
import Derived.Shelf.Slices.In.SortNone
set_option linter.all false
section
namespace Go.Proofs.YtnocmolegijmkaaGreat
open Go Go.Bw
def Tk (t:ah):Prop:=0<=t.Process/\t.Process<=63/\1<=t.N/\t.N<=1000000000000000
def cd:List ah->Prop
 |[]=>True
 |t::c=>Tk t/\(∀u∈c,t.Process<u.Process)/\cd c
def cg (p:Int):List ah->Int
 |[]=>0
 |t::c=>if t.Process=p then t.N else cg p c
def dN (a b:List ah):Prop:=∀p,cg p a<=cg p b
theorem cd.mem:∀{c:List ah} {t:ah},cd c->t∈c->Tk t
 |u::c,t,h,ht=>by
  rcases cq.1 ht with rfl|ht
  ·exact h.1
  ·exact cd.mem h.2.2 ht
theorem zB {p:Int}:∀{c:List ah},(∀u∈c,u.Process≠p)->cg p c=0
 |[],_=>rfl
 |t::c,h=>by
  rw[cg,aM (h t (by simp))];exact zB λu hu=>h u (by simp[hu])
theorem rk {p:Int}:∀{c:List ah},cd c->0<=cg p c
 |[],_=>xR 0
 |t::c,h=>by
  rw[cg];split
  ·have:=h.1.2.2.1;omega
  ·exact rk h.2.2
theorem EI {p:Int}:∀{c:List ah},cd c->cg p c<=1000000000000000
 |[],_=>by simp[cg]
 |t::c,h=>by
  rw[cg];split
  ·exact h.1.2.2.2
  ·exact EI h.2.2
theorem pR {t:ah} {c:List ah} (h:cd (t::c)):cg t.Process c=0:=zB λu hu e=>by have:=h.2.1 u hu;omega
theorem cd.ext:∀{a b:List ah},cd a->cd b->(∀p,cg p a=cg p b)->a=b
 |[],[],_,_,_=>rfl
 |[],t::b,_,hb,h=>by
  have:=h t.Process;rw[cg,cg,bg rfl]at this;have:=hb.1.2.2.1;omega
 |t::a,[],ha,_,h=>by
  have:=h t.Process;rw[cg,cg,bg rfl]at this;have:=ha.1.2.2.1;omega
 |t::a,u::b,ha,hb,h=>by
  have h1:=h t.Process;have h2:=h u.Process;rw[cg,cg,bg rfl]at h1;rw[cg,cg,bg rfl]at h2;have ht:=ha.1.2.2.1;have hu:=hb.1.2.2.1;have e:t.Process=u.Process:=by
   rcases Int.lt_trichotomy t.Process u.Process with g|g|g
   ·rw[aM (by omega),zB (λv hv e=>by have:=hb.2.1 v hv;omega)]at h1;omega
   ·exact g
   ·rw[aM (by omega),zB (λv hv e=>by have:=ha.2.1 v hv;omega)]at h2;omega
  rw[bg e.symm]at h1;have e2:t=u:=by cases t;cases u;simp only at e h1;rw[e,h1]
  subst e2;congr 1;refine cd.ext ha.2.2 hb.2.2 λp=>?_;have:=h p;rw[cg,cg]at this;by_cases hp:t.Process=p
  ·subst hp;rw[pR ha,pR hb]
  ·rwa[aM hp,aM hp]at this
theorem dN.refl (a:List ah):dN a a:=λ_=>xR _
theorem dN.trans {a b c:List ah} (h:dN a b) (g:dN b c):dN a c:=λp=>ON (h p) (g p)
theorem dN.antisymm {a b:List ah} (ha:cd a) (hb:cd b) (h:dN a b) (g:dN b a):a=b:=cd.ext ha hb λp=>OM (h p) (g p)
def ky (p k:Int):List ah:=if k>0 then [⟨p,k⟩]else []
def dm (f:Int->Int->Int):List ah->List ah->List ah
 |[],[]=>[]
 |t::a,[]=>ky t.Process (f t.N 0)++dm f a []
 |[],u::b=>ky u.Process (f 0 u.N)++dm f [] b
 |t::a,u::b=>if t.Process<u.Process then ky t.Process (f t.N 0)++dm f a (u::b)else if u.Process<t.Process then ky u.Process (f 0 u.N)++dm f (t::a) b else ky t.Process (f t.N u.N)++dm f a b
termination_by a b=>a.length+b.length
theorem zE {p q k:Int} {c:List ah} (hc:cg q c=0):cg p (ky q k++c)=if p=q then max 0 k else cg p c:=by
 unfold ky;by_cases hk:k>0
 ·rw[bg hk];show(if q=p then k else cg p c)=_;by_cases e:p=q
  ·rw[bg e.symm,bg e];omega
  ·rw[aM (λh=>e h.symm),aM e]
 ·rw[aM hk,pA];by_cases e:p=q
  ·rw[bg e,e,hc];omega
  ·rw[aM e]
theorem nO {t:ah} {q k:Int} (h:t∈ky q k):t=⟨q,k⟩/\k>0:=by
 unfold ky at h;split at h
 ·simp at h;exact⟨h,by assumption⟩
 ·simp at h
theorem RS {f:Int->Int->Int} (h0:f 0 0<=0):∀{a b:List ah},cd a->cd b->(∀p,cg p (dm f a b)=max 0 (f (cg p a) (cg p b)))/\(∀t∈dm f a b,(t∈a\/∃u∈a,u.Process=t.Process)\/∃u∈b,u.Process=t.Process):=by
 intro a b;have none:∀{c:List ah} {p:Int},(∀u∈c,p<u.Process)->cg p c=0:=λh=>zB λu hu e=>by have:=h u hu;omega
 induction a,b using dm.induct with
 |case1=>intro _ _;rw[dm];exact⟨λp=>by simp[cg];omega,λt ht=>by simp at ht⟩
 |case2 t a ih=>
  intro ha hb;obtain⟨i1,i2⟩:=ih ha.2.2 hb;rw[dm];refine⟨λp=>?_,λv hv=>?_⟩
  ·rw[zE (by rw[i1,pR ha];simp[cg];omega),i1];simp only[cg];by_cases e:p=t.Process
   ·rw[bg e,bg e.symm]
   ·rw[aM e,aM (λh=>e h.symm)]
  ·rcases b7.1 hv with hv|hv
   ·obtain⟨rfl,_⟩:=nO hv;exact .inl (.inr ⟨t,by simp,rfl⟩)
   ·rcases i2 v hv with(h|⟨u,h,e⟩)|⟨u,h,e⟩
    ·exact .inl (.inl (by simp[h]))
    ·exact .inl (.inr ⟨u,by simp[h],e⟩)
    ·simp at h
 |case3 u b ih=>
  intro ha hb;obtain⟨i1,i2⟩:=ih ha hb.2.2;rw[dm];refine⟨λp=>?_,λv hv=>?_⟩
  ·rw[zE (by rw[i1,pR hb];simp[cg];omega),i1];simp only[cg];by_cases e:p=u.Process
   ·rw[bg e,bg e.symm]
   ·rw[aM e,aM (λh=>e h.symm)]
  ·rcases b7.1 hv with hv|hv
   ·obtain⟨rfl,_⟩:=nO hv;exact .inr ⟨u,by simp,rfl⟩
   ·rcases i2 v hv with(h|⟨u',h,e⟩)|⟨u',h,e⟩
    ·simp at h
    ·simp at h
    ·exact .inr ⟨u',by simp[h],e⟩
 |case4 t a u b hlt ih=>
  intro ha hb;obtain⟨i1,i2⟩:=ih ha.2.2 hb;rw[dm,bg hlt];have z:cg t.Process (u::b)=0:=none λv hv=>by
   rcases cq.1 hv with rfl|hv
   ·exact hlt
   ·have:=hb.2.1 v hv;omega
  refine⟨λp=>?_,λv hv=>?_⟩
  ·rw[zE (by rw[i1,pR ha,z];omega),i1];by_cases e:p=t.Process
   ·rw[bg e,e,z];simp[cg]
   ·rw[aM e];have:cg p (t::a)=cg p a:=by rw[cg,aM (λh=>e h.symm)]
    rw[this]
  ·rcases b7.1 hv with hv|hv
   ·obtain⟨rfl,_⟩:=nO hv;exact .inl (.inr ⟨t,by simp,rfl⟩)
   ·rcases i2 v hv with(h|⟨u',h,e⟩)|h
    ·exact .inl (.inl (by simp[h]))
    ·exact .inl (.inr ⟨u',by simp[h],e⟩)
    ·exact .inr h
 |case5 t a u b hlt hgt ih=>
  intro ha hb;obtain⟨i1,i2⟩:=ih ha hb.2.2;rw[dm,aM hlt,bg hgt];have z:cg u.Process (t::a)=0:=none λv hv=>by
   rcases cq.1 hv with rfl|hv
   ·exact hgt
   ·have:=ha.2.1 v hv;omega
  refine⟨λp=>?_,λv hv=>?_⟩
  ·rw[zE (by rw[i1,pR hb,z];omega),i1];by_cases e:p=u.Process
   ·rw[bg e,e,z];simp[cg]
   ·rw[aM e];have:cg p (u::b)=cg p b:=by rw[cg,aM (λh=>e h.symm)]
    rw[this]
  ·rcases b7.1 hv with hv|hv
   ·obtain⟨rfl,_⟩:=nO hv;exact .inr ⟨u,by simp,rfl⟩
   ·rcases i2 v hv with h|⟨u',h,e⟩
    ·exact .inl h
    ·exact .inr ⟨u',by simp[h],e⟩
 |case6 t a u b hlt hgt ih=>
  intro ha hb;obtain⟨i1,i2⟩:=ih ha.2.2 hb.2.2;rw[dm,aM hlt,aM hgt];have e0:t.Process=u.Process:=by omega
  refine⟨λp=>?_,λv hv=>?_⟩
  ·rw[zE (by rw[i1,pR ha,e0,pR hb];omega),i1];simp only[cg];by_cases e:p=t.Process
   ·rw[bg e,bg e.symm,bg (by omega)]
   ·rw[aM e,aM (λh=>e h.symm),aM (by omega)]
  ·rcases b7.1 hv with hv|hv
   ·obtain⟨rfl,_⟩:=nO hv;exact .inl (.inr ⟨t,by simp,rfl⟩)
   ·rcases i2 v hv with(h|⟨u',h,e⟩)|⟨u',h,e⟩
    ·exact .inl (.inl (by simp[h]))
    ·exact .inl (.inr ⟨u',by simp[h],e⟩)
    ·exact .inr ⟨u',by simp[h],e⟩
theorem yW {f:Int->Int->Int} {q:Int}:∀{a b:List ah},(∀t∈a,q<t.Process)->(∀t∈b,q<t.Process)->∀t∈dm f a b,q<t.Process:=by
 intro a b
 induction a,b using dm.induct with
 |case1=>intro _ _ t ht;rw[dm]at ht;simp at ht
 |case2 t a ih=>
  intro ha hb v hv;rw[dm]at hv;rcases b7.1 hv with hv|hv
  ·obtain⟨rfl,_⟩:=nO hv;exact ha t (by simp)
  ·exact ih (λv hv=>ha v (by simp[hv])) hb v hv
 |case3 u b ih=>
  intro ha hb v hv;rw[dm]at hv;rcases b7.1 hv with hv|hv
  ·obtain⟨rfl,_⟩:=nO hv;exact hb u (by simp)
  ·exact ih ha (λv hv=>hb v (by simp[hv])) v hv
 |case4 t a u b hlt ih=>
  intro ha hb v hv;rw[dm,bg hlt]at hv;rcases b7.1 hv with hv|hv
  ·obtain⟨rfl,_⟩:=nO hv;exact ha t (by simp)
  ·exact ih (λv hv=>ha v (by simp[hv])) hb v hv
 |case5 t a u b hlt hgt ih=>
  intro ha hb v hv;rw[dm,aM hlt,bg hgt]at hv;rcases b7.1 hv with hv|hv
  ·obtain⟨rfl,_⟩:=nO hv;exact hb u (by simp)
  ·exact ih ha (λv hv=>hb v (by simp[hv])) v hv
 |case6 t a u b hlt hgt ih=>
  intro ha hb v hv;rw[dm,aM hlt,aM hgt]at hv;rcases b7.1 hv with hv|hv
  ·obtain⟨rfl,_⟩:=nO hv;exact ha t (by simp)
  ·exact ih (λv hv=>ha v (by simp[hv])) (λv hv=>hb v (by simp[hv])) v hv
theorem cd.keep {p k:Int} {c:List ah} (hp:0<=p/\p<=63) (hk:k<=1000000000000000) (hc:cd c) (ha:∀u∈c,p<u.Process):cd (ky p k++c):=by
 unfold ky;split
 ·exact⟨⟨hp.1,hp.2,by show 1<=k;omega,hk⟩,ha,hc⟩
 ·exact hc
theorem Tn {f:Int->Int->Int} (hf:∀m n,m<=1000000000000000->n<=1000000000000000->f m n<=1000000000000000):∀{a b:List ah},cd a->cd b->cd (dm f a b):=by
 intro a b
 induction a,b using dm.induct with
 |case1=>intro _ _;rw[dm];trivial
 |case2 t a ih=>
  intro ha hb;rw[dm];exact .keep ⟨ha.1.1,ha.1.2.1⟩ (hf _ _ ha.1.2.2.2 (by omega)) (ih ha.2.2 hb) (yW ha.2.1 (by simp))
 |case3 u b ih=>
  intro ha hb;rw[dm];exact .keep ⟨hb.1.1,hb.1.2.1⟩ (hf _ _ (by omega) hb.1.2.2.2) (ih ha hb.2.2) (yW (by simp) hb.2.1)
 |case4 t a u b hlt ih=>
  intro ha hb;rw[dm,bg hlt];refine .keep ⟨ha.1.1,ha.1.2.1⟩ (hf _ _ ha.1.2.2.2 (by omega)) (ih ha.2.2 hb) (yW ha.2.1 λv hv=>?_);rcases cq.1 hv with rfl|hv
  ·exact hlt
  ·have:=hb.2.1 v hv;omega
 |case5 t a u b hlt hgt ih=>
  intro ha hb;rw[dm,aM hlt,bg hgt];refine .keep ⟨hb.1.1,hb.1.2.1⟩ (hf _ _ (by omega) hb.1.2.2.2) (ih ha hb.2.2) (yW (λv hv=>?_) hb.2.1);rcases cq.1 hv with rfl|hv
  ·exact hgt
  ·have:=ha.2.1 v hv;omega
 |case6 t a u b hlt hgt ih=>
  intro ha hb;rw[dm,aM hlt,aM hgt];refine .keep ⟨ha.1.1,ha.1.2.1⟩ (hf _ _ ha.1.2.2.2 hb.1.2.2.2) (ih ha.2.2 hb.2.2) (yW ha.2.1 λv hv=>?_);have:=hb.2.1 v hv;omega
def qN (a b:List ah):List ah:=dm max a b
theorem adP {a b:List ah} (ha:cd a) (hb:cd b) (p:Int):cg p (qN a b)=max (cg p a) (cg p b):=by
 have:=(RS (f:=max) (by omega) ha hb).1 p;have h1:=rk (p:=p) ha;have h2:=rk (p:=p) hb;unfold qN;omega
theorem I3 {a b:List ah} (ha:cd a) (hb:cd b):cd (qN a b):=Tn (λm n _ _=>by omega) ha hb
def over (m n:Int):Int:=if m>n then m else 0
theorem RN {a b:List ah} (ha:cd a) (hb:cd b):dm over a b=[]↔dN a b:=by
 have h0:over 0 0<=0:=by unfold over;simp
 have hc:cd (dm over a b):=Tn (λm n h _=>by unfold over;split<;>omega) ha hb;have hs:=(RS h0 ha hb).1;constructor
 ·intro e p;have:=hs p;rw[e]at this;unfold over at this;simp only[cg]at this;have:=rk (p:=p) hb;split at* <;>omega
 ·intro h;refine cd.ext hc trivial λp=>?_;rw[hs];have:=h p;unfold over;rw[aM (by omega)];rfl
def lh (a b:Int):Int:=if a<b then-1 else if b<a then 1 else 0
def eK (a b:List UInt8):Int:=bif Op.bytesLess a b then-1 else bif Op.bytesLess b a then 1 else 0
theorem EJ:fH lh where
 fQ a b:=by
  unfold lh;split
  ·simp;omega
  ·split<;>simp<;>omega
 jY a b:=by unfold lh;split<;>split<;>(try split)<;>omega
 trans a b d:=by unfold lh;split<;>split<;>(try split)<;>(try split)<;>(try split)<;>omega
theorem nN:fH eK where
 fQ a b:=by
  unfold eK;rcases sd a b with rfl|h|h
  ·simp[kP]
  ·rw[h];simp;rintro rfl;rw[kP]at h;cases h
  ·rw[h,pQ h];simp;rintro rfl;rw[kP]at h;cases h
 jY a b:=by
  unfold eK;rcases sd a b with rfl|h|h
  ·simp[kP]
  ·rw[h,pQ h];rfl
  ·rw[h,pQ h];rfl
 trans a b d:=by
  have key:∀a b,eK a b<0↔Op.bytesLess a b=true:=λa b=>by
   unfold eK;cases Op.bytesLess a b<;>cases Op.bytesLess b a<;>simp
  simp only[key];exact ry
def Gj (a b:ah):Int:=gx (lh a.Process b.Process) (lh a.N b.N)
theorem adS:fH Gj:=(fH.lex EJ EJ).map (λt:ah=>(t.Process,t.N)) λx y e=>by cases x;cases y;simp at e;simp[e]
def fJ (a b:az):Int:=gx (eK a.Name b.Name) (cmpL Gj a.a8 b.a8)
theorem pP:fH fJ:=(fH.lex nN (Er adS)).map (λt:az=>(t.Name,t.a8)) λx y e=>by cases x;cases y;simp at e;simp[e]
inductive BV (m:Nat):af->Prop
 |mk {v:af}:v.Names.length<=m->v.ai.length<=m->v.Entries.length<=m->(∀e∈v.Entries,e.a8.length<=m)->(∀p∈v.ai,BV m p)->BV m v
theorem BV.names {m:Nat} {v:af} (h:BV m v):v.Names.length<=m:=by cases h;assumption
theorem BV.parts {m:Nat} {v:af} (h:BV m v):v.ai.length<=m:=by cases h;assumption
theorem BV.entries {m:Nat} {v:af} (h:BV m v):v.Entries.length<=m:=by cases h;assumption
theorem BV.FE {m:Nat} {v:af} (h:BV m v):∀e∈v.Entries,e.a8.length<=m:=by cases h;assumption
theorem BV.part {m:Nat} {v p:af} (h:BV m v) (hp:p∈v.ai):BV m p:=by cases h with|mk _ _ _ _ h=>exact h p hp
theorem af.ind {P:af->Prop} (h:∀x:af,(∀k∈x.ai,P k)->P x):∀x,P x:=by
 intro x;refine af.rec (motive_1:=P) (motive_2:=λks=>∀k∈ks,P k) ?_ ?_ ?_ x
 ·intro n ns ps es ih;exact h ⟨n,ns,ps,es⟩ ih
 ·intro k hk;cases hk
 ·intro k ks h1 h2 x hx;rcases cq.1 hx with rfl|hx
  ·exact h1
  ·exact h2 x hx
theorem BV.mono {m n:Nat} (h:m<=n):∀{v:af},BV m v->BV n v:=by
 intro v;refine af.ind (P:=λv=>BV m v->BV n v) (λv ih hv=>?_) v;exact .mk (by have:=hv.names;omega) (by have:=hv.parts;omega) (by have:=hv.entries;omega) (λe he=>by have:=hv.FE e he;omega) λp hp=>ih p hp (hv.part hp)
end Go.Proofs.YtnocmolegijmkaaGreat
end

section
namespace Go.Proofs
open Go.Shelf
def abp:Go.Shelf.Ren:=⟨λ|106=>227|213=>263|265=>282|n=>n,λ|9=>9|3=>3|n=>n,λ|n=>n⟩
theorem aft:Go.Proofs.Lays.n106 Tryz.prog abp:={
 mixed:=by kernel_rfl
 f106:=Tryz.func227.trans (congrArg some (by kernel_rfl))
 f213:=Tryz.func263.trans (congrArg some (by kernel_rfl))
 f265:=Tryz.func282.trans (congrArg some (by kernel_rfl))
 t3:=Tryz.underlying3
 a3:=Tryz.isAgg3
 z3:=Tryz.sizeOf3
 v3:=Tryz.zeroValue3
 t9:=Tryz.underlying9
 a9:=Tryz.isAgg9
 z9:=Tryz.sizeOf9
 v9:=Tryz.zeroValue9}
end Go.Proofs
namespace Go.Proofs.YtnocmolegijmkaaGreat
open Go Go.Bw
abbrev Gv:=List UInt8->List UInt8->Option Int
def B7:Gv:=λa b=>some (Lib.compareBytes a b)
def MX (p:Gv):Prop:=∀a b r,p a b=some r->Bw.Pure env.toCx 227 [.v (.string ⟨⟨a⟩⟩),.v (.string ⟨⟨b⟩⟩)] (.ret (.v (.int .i64 r)))
theorem Ch:MX B7:=by
 intro a b r h;cases h;exact abz (E:=env) ⟨_,Tryz.func227,by kernel_rfl,by kernel_rfl⟩ (xs:=[.string ⟨⟨a⟩⟩,.string ⟨⟨b⟩⟩]) λw=>Any.strings_Compare aft ⟨⟨a⟩⟩ ⟨⟨b⟩⟩ w
theorem afs (a b):B7 a b=some (Lib.compareBytes a b):=rfl
end Go.Proofs.YtnocmolegijmkaaGreat
end

section
namespace Go.Proofs
open Go.Shelf
def aa2:Go.Shelf.Ren:=⟨λ|190=>236|125=>276|258=>275|128=>293|129=>294|302=>285|303=>286|304=>287|305=>288|306=>289|307=>290|308=>204|309=>291|310=>292|333=>304|329=>305|330=>306|334=>307|335=>308|336=>247|344=>312|n=>n,λ|31=>22|9=>9|3=>3|46=>220|0=>0|51=>297|53=>218|4=>4|183=>291|182=>290|131=>171|5=>5|218=>309|222=>312|228=>316|229=>102|n=>n,λ|n=>n⟩
theorem EU:Go.Proofs.Lays.n190 Tryz.prog aa2:={
 mixed:=by kernel_rfl
 f125:=Tryz.func276.trans (congrArg some (by kernel_rfl))
 f128:=Tryz.func293.trans (congrArg some (by kernel_rfl))
 f129:=Tryz.func294.trans (congrArg some (by kernel_rfl))
 f190:=Tryz.func236.trans (congrArg some (by kernel_rfl))
 f258:=Tryz.func275.trans (congrArg some (by kernel_rfl))
 f302:=Tryz.func285.trans (congrArg some (by kernel_rfl))
 f303:=Tryz.func286.trans (congrArg some (by kernel_rfl))
 f304:=Tryz.func287.trans (congrArg some (by kernel_rfl))
 f305:=Tryz.func288.trans (congrArg some (by kernel_rfl))
 f306:=Tryz.func289.trans (congrArg some (by kernel_rfl))
 f307:=Tryz.func290.trans (congrArg some (by kernel_rfl))
 f308:=Tryz.func204.trans (congrArg some (by kernel_rfl))
 f309:=Tryz.func291.trans (congrArg some (by kernel_rfl))
 f310:=Tryz.func292.trans (congrArg some (by kernel_rfl))
 f329:=Tryz.func305.trans (congrArg some (by kernel_rfl))
 f330:=Tryz.func306.trans (congrArg some (by kernel_rfl))
 f333:=Tryz.func304.trans (congrArg some (by kernel_rfl))
 f334:=Tryz.func307.trans (congrArg some (by kernel_rfl))
 f335:=Tryz.func308.trans (congrArg some (by kernel_rfl))
 f336:=Tryz.func247.trans (congrArg some (by kernel_rfl))
 f344:=Tryz.func312.trans (congrArg some (by kernel_rfl))
 t0:=Tryz.underlying0
 a0:=Tryz.isAgg0
 z0:=Tryz.sizeOf0
 v0:=Tryz.zeroValue0
 t3:=Tryz.underlying3
 a3:=Tryz.isAgg3
 z3:=Tryz.sizeOf3
 v3:=Tryz.zeroValue3
 t4:=Tryz.underlying4
 a4:=Tryz.isAgg4
 z4:=Tryz.sizeOf4
 v4:=Tryz.zeroValue4
 t5:=Tryz.underlying5
 a5:=Tryz.isAgg5
 z5:=Tryz.sizeOf5
 v5:=Tryz.zeroValue5
 t9:=Tryz.underlying9
 a9:=Tryz.isAgg9
 z9:=Tryz.sizeOf9
 v9:=Tryz.zeroValue9
 t31:=Tryz.underlying22
 a31:=Tryz.isAgg22
 z31:=Tryz.sizeOf22
 v31:=Tryz.zeroValue22
 t46:=Tryz.underlying220
 a46:=Tryz.isAgg220
 z46:=Tryz.sizeOf220
 v46:=Tryz.zeroValue220
 t51:=Tryz.underlying297
 a51:=Tryz.isAgg297
 z51:=Tryz.sizeOf297
 v51:=Tryz.zeroValue297
 t53:=Tryz.underlying218
 a53:=Tryz.isAgg218
 z53:=Tryz.sizeOf218
 v53:=Tryz.zeroValue218
 t131:=Tryz.underlying171
 a131:=Tryz.isAgg171
 z131:=Tryz.sizeOf171
 v131:=Tryz.zeroValue171
 t182:=Tryz.underlying290
 a182:=Tryz.isAgg290
 z182:=Tryz.sizeOf290
 v182:=Tryz.zeroValue290
 t183:=Tryz.underlying291
 a183:=Tryz.isAgg291
 z183:=Tryz.sizeOf291
 v183:=Tryz.zeroValue291
 t218:=Tryz.underlying309
 a218:=Tryz.isAgg309
 z218:=Tryz.sizeOf309
 v218:=Tryz.zeroValue309
 t222:=Tryz.underlying312
 a222:=Tryz.isAgg312
 z222:=Tryz.sizeOf312
 v222:=Tryz.zeroValue312
 t228:=Tryz.underlying316
 a228:=Tryz.isAgg316
 z228:=Tryz.sizeOf316
 v228:=Tryz.zeroValue316
 t229:=Tryz.underlying102
 a229:=Tryz.isAgg102
 z229:=Tryz.sizeOf102
 v229:=Tryz.zeroValue102}
end Go.Proofs
namespace Go.Proofs.YtnocmolegijmkaaGreat
open Go Go.Bw
theorem Wj:∀a b:List UInt8,Op.bytesLess a b=true↔a<b
 |[],[]=>by simp[Op.bytesLess]
 |[],_::_=>by simp[Op.bytesLess]
 |_::_,[]=>by simp[Op.bytesLess]
 |x::a,y::b=>by rw[vc,List.cons_lt_cons_iff,Wj a b]
theorem vn (a b:List UInt8):decide (a<=b)=true↔eK a b<=0:=by
 rw[jQ,<-List.not_lt,<-Wj];unfold eK;rcases sd a b with rfl|h|h
 ·simp[kP]
 ·rw[h,pQ h];simp
 ·rw[h,pQ h];simp
theorem OY (l:List (List UInt8)):(l.mergeSort λx y=>decide (x<=y))=dR eK l:=by
 refine HP nN ((List.mergeSort_perm l _).trans (oL l).symm) ?_ (tF nN l);refine(List.pairwise_mergeSort (le:=λx y:List UInt8=>decide (x<=y)) (λa b c h g=>?_) (λa b=>?_) l).imp λh=>(vn _ _).1 h
 ·exact(vn _ _).2 (nN.le_trans ((vn _ _).1 h) ((vn _ _).1 g))
 ·have h1:=nN.jY a b;rw[tz,vn,vn];omega
theorem aeg:IM env.P 236 (dR eK):=by
 refine⟨λfR off cap ss w hH hb hl=>?_,λp cap w=>Any.slices_Sort_string_none EU p cap w⟩;rw[<-OY];exact Any.slices_Sort_string EU fR off cap ss w hH hb hl
abbrev MI:=List (List UInt8)->Option (Unit×List (List UInt8))
def wQ:MI:=λa0=>bif decide (a0.length<=274877906944)then some ((),dR eK a0)else none
def W5 (p:MI):Prop:=∀a0 r,p a0=some r->kv env 236 [(.os 0 (aG a0).length)] (.row 9 1 (aG a0)) (.bY []) (.row 9 1 (aG r.2))
theorem MZ:W5 wQ:=by
 intro a0 r h;rw[wQ]at h;cases hd:decide (a0.length<=274877906944)with
 |false=>rw[hd]at h;cases h
 |true=>
  rw[hd,aB]at h;cases h;have:=jl hd;exact kv.sort (E:=env) ⟨_,Tryz.func236,by kernel_rfl,by kernel_rfl⟩ aeg (λl=>nL l) bN (by omega)
theorem ae9 (a0):wQ a0=bif decide (a0.length<=274877906944)then some ((),dR eK a0)else none:=rfl
