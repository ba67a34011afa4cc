/- What the small functions under types.Valid answer: names, lists, loops. -/
import Derived.Test.YthlcjaanmbjcaaaGreatKPl
import Derived.Test.YthlcjaanmbjcaaaGreatKG4
import Derived.Test.YthlcjaanmbjcaaaGreatKGk
set_option linter.all false
section
namespace Go.Proofs.YthlcjaanmbjcaaaGreat
open Go Go.Bw
theorem wO {D:Type} {a:List D} {L:Int->Option Bool} (p:D->Bool) (e:Bool) (hs:∀(i:Nat) x,a[i]? =some x->i<a.length->L (i:Int)=bif p x then L ((i+1:Nat):Int)else some false) (he:L (a.length:Int)=some e):
  L 0=some (a.all p&&e):=by
 have key:∀k i:Nat,k=a.length-i->i<=a.length->L (i:Int)=some ((a.drop i).all p&&e):=by
  intro k
  induction k with
  |zero=>
   intro i hk hi;have:i=a.length:=by omega
   subst this;rw[he];simp
  |succ k ih=>
   intro i hk hi;have hi':i<a.length:=by omega
   obtain⟨x,hx⟩:=b3 hi';rw[hs i x hx hi',jo hx,gS];cases p x with
   |false=>rfl
   |true=>simpa using ih (i+1) (by omega) (by omega)
 simpa using key a.length 0 (by omega) (by omega)
def idxOf {D:Type} (p:D->Bool):List D->Int->Int
 |[],_=> -1
 |x::r,i=>bif p x then i else idxOf p r (i+1)
theorem sG {D:Type} {a:List D} {L:Int->Option Int} (p:D->Bool) (hs:∀(i:Nat) x,a[i]? =some x->i<a.length->L (i:Int)=bif p x then some (i:Int)else L ((i+1:Nat):Int)) (he:L (a.length:Int)=some (-1)):
  L 0=some (idxOf p a 0):=by
 have key:∀k i:Nat,k=a.length-i->i<=a.length->L (i:Int)=some (idxOf p (a.drop i) i):=by
  intro k
  induction k with
  |zero=>
   intro i hk hi;have:i=a.length:=by omega
   subst this;rw[he];simp[idxOf]
  |succ k ih=>
   intro i hk hi;have hi':i<a.length:=by omega
   obtain⟨x,hx⟩:=b3 hi';rw[hs i x hx hi',jo hx,idxOf];cases p x with
   |true=>rfl
   |false=>simpa using ih (i+1) (by omega) (by omega)
 simpa using key a.length 0 (by omega) (by omega)
theorem vD {D:Type} (p:D->Bool):∀(a:List D) (j:Nat),(idxOf p a j= -1/\∀x∈a,p x=false)\/∃(i:Nat) (x:D),idxOf p a j=((j+i:Nat):Int)/\a[i]? =some x/\p x=true/\∀k y,k<i->a[k]? =some y->p y=false
 |[],j=> .inl ⟨rfl,by simp⟩
 |x::r,j=>by
  rw[idxOf];cases hp:p x with
  |true=>exact .inr ⟨0,x,by simp,by simp,hp,λk y hk=>by omega⟩
  |false=>
   have h:=vD p r (j+1);simp only[cw];have e:((j:Nat):Int)+1=((j+1:Nat):Int):=by omega
   rw[e];rcases h with⟨h1,h2⟩|⟨i,y,h1,h2,h3,h4⟩
   ·refine .inl ⟨h1,λz hz=>?_⟩;rcases cL.1 hz with rfl|hz
    ·exact hp
    ·exact h2 z hz
   ·refine .inr ⟨i+1,y,by rw[h1];congr 1;omega,by simpa using h2,h3,λk z hk hz=>?_⟩;cases k with
    |zero=>simp only[o7,ao]at hz;subst hz;exact hp
    |succ k=>exact h4 k z (by omega) (by simpa using hz)
theorem vd {D:Type} {p:D->Bool} {a:List D}:decide (idxOf p a 0>=0)=a.any p:=by
 rcases vD p a 0 with⟨h1,h2⟩|⟨i,x,h1,h2,h3,_⟩
 ·have e:idxOf p a 0= -1:=h1;rw[e];have:a.any p=false:=by
   rw[J2];intro x hx;simp[h2 x hx]
  rw[this];rfl
 ·have e:idxOf p a 0=((0+i:Nat):Int):=h1;rw[e];have:a.any p=true:=BU.2 ⟨x,bV h2,h3⟩;rw[this];simp
theorem MK (c:UInt8):(f98 Pf) (c.toNat:Int)=some (jE c):=by
 rw[Qg,rp];unfold jE;have h0:∀n:Nat,(decide ((97:Int)<=(n:Int))=decide (97<=n))/\(decide ((n:Int)<=122)=decide (n<=122))/\(decide ((48:Int)<=(n:Int))=decide (48<=n))/\(decide ((n:Int)<=57)=decide (n<=57))/\(((n:Int)==45)=(n==45)):=λn=>by
  refine⟨?_,?_,?_,?_,?_⟩<;>(rw[kF];simp only[jc,beq_iff_eq];omega)
 obtain⟨h1,h2,h3,h4,h5⟩:=h0 c.toNat;rw[h1,h2,h3,h4,h5];cases decide (97<=c.toNat)<;>cases decide (c.toNat<=122)<;>cases decide (48<=c.toNat)<;>cases decide (c.toNat<=57)<;>rfl
def eF (s:List UInt8):Bool:=match s with
 |[]=>false
 |c::_=>decide (s.length<=16)&&decide (97<=c.toNat)&&decide (c.toNat<=122)&&s.all jE
theorem ML {s:List UInt8}:eF s=true↔NV s:=by
 cases s with
 |nil=>simp[eF,NV]
 |cons c r=>simp[eF,NV,and_assoc]
theorem pB (s:List UInt8) (hs:s.length<9223372036854775807):(f63 Pf) s=some (eF s):=by
 rw[Qh,rq];cases s with
 |nil=>rfl
 |cons c r=>
  have e0:((((c::r).length:Nat):Int)==0)=false:=by simp;omega
  rw[e0,cw];have hL:(pX Pf) (c::r) 0=some ((c::r).all jE&&true):=by
   refine wO jE true (λi x hx hi=>?_) ?_
   ·rw[FW,nS];have:decide ((i:Int)<(((c::r).length:Nat):Int))=true:=by simp;simp at hi;omega
    rw[this,bZ,b0 hx,aP,MK,aP,cI i (by omega)];cases jE x<;>rfl
   ·rw[FW,nS];have:decide ((((c::r).length:Nat):Int)<(((c::r).length:Nat):Int))=false:=by simp
    rw[this];rfl
  have hi:aq (c::r:List UInt8) 0=some c:=rfl;rw[hi,hL];simp only[aP,uR];have h1:decide ((((c::r).length:Nat):Int)>16)= !decide ((c::r).length<=16):=by rw[kF];simp;omega
  have h2:decide (((c.toNat:Nat):Int)<97)= !decide (97<=c.toNat):=by rw[kF];simp;omega
  have h3:decide (((c.toNat:Nat):Int)>122)= !decide (c.toNat<=122):=by rw[kF];simp;omega
  rw[h1,h2,h3];unfold eF;simp only;cases decide ((c::r).length<=16)<;>cases decide (97<=c.toNat)<;>cases decide (c.toNat<=122)<;>rfl
theorem wh (a:List (List UInt8)) (x:List UInt8) (ha:a.length<9223372036854775807):(f129 Pf) a x=some (idxOf (λy=>x==y) a 0):=by
 rw[OJ,oz];refine sG (λy=>x==y) (λi y hy hi=>?_) ?_
 ·rw[ER,ni];have:decide ((i:Int)<((aW a).length:Int))=true:=by rw[cX];simp;omega
  rw[this,bZ,b0 hy,aP,cI i (by omega)]
 ·rw[ER,ni];have:decide ((a.length:Int)<((aW a).length:Int))=false:=by rw[cX];simp
  rw[this];rfl
theorem contains_eq (a:List (List UInt8)) (x:List UInt8) (ha:a.length<9223372036854775807):(f116 Pf) a x=some (a.any λy=>x==y):=by
 rw[OK,qu,wh a x ha,aP,vd]
theorem has_eq (a:List (List UInt8)) (x:List UInt8) (ha:a.length<9223372036854775807):(f119 Pf) a x=some (a.any λy=>x==y):=by
 rw[OL,qv,contains_eq a x ha];rfl
theorem Ly (a b:List (List UInt8)) (ha:a.length<9223372036854775807) (hb:b.length<9223372036854775807):(f118 Pf) a b=some (a.all λx=>b.any λy=>x==y):=by
 rw[OM,oA];have h:=wO (a:=a) (L:=λi=>(lR Pf) a b i) (λx=>b.any λy=>x==y) true (λi x hx hi=>by
  show(lR Pf) a b i=_;rw[ES,nj];have:decide ((i:Int)<((aW a).length:Int))=true:=by rw[cX];simp;omega
  rw[this,bZ,b0 hx,aP,has_eq b x hb,aP,cI i (by omega)];cases b.any λy=>x==y<;>rfl) (by
  show(lR Pf) a b _=_;rw[ES,nj];have:decide ((a.length:Int)<((aW a).length:Int))=false:=by rw[cX];simp
  rw[this];rfl)
 simpa using h
theorem sU (b:Bool) (e:Int):(f115 Pf) b e=some (bif b then e else 0):=by
 rw[OG,qq];cases b<;>rfl
theorem bO (n m:Nat):decide (((n:Nat):Int)<(m:Int))=decide (n<m):=by rw[kF];simp only[jc];omega
theorem Kv {a:List (List UInt8)} {i:Nat} {x y:List UInt8} (hx:a[i]? =some x) (hy:a[i+1]? =some y):rising (a.drop i)=(Op.bytesLess x y&&rising (a.drop (i+1))):=by
 rw[jo hx,jo hy];rfl
theorem DI (a:List (List UInt8)) (ha:a.length<9223372036854775807):(f117 Pf) a=some (rising a):=by
 rw[OH,oy];have key:∀k i:Nat,k=a.length-(i+1)->i+1<=a.length->(pH Pf) a ((i+1:Nat):Int)=some (rising (a.drop i)):=by
  intro k
  induction k with
  |zero=>
   intro i hk hi;have e:i+1=a.length:=by omega
   rw[wP,lQ,cX,bO];have:decide (i+1<a.length)=false:=by simp;omega
   rw[this,cw];obtain⟨x,hx⟩:=b3 (by omega:i<a.length);rw[jo hx,show a.drop (i+1)=[]from List.drop_eq_nil_of_le (by omega)];rfl
  |succ k ih=>
   intro i hk hi;obtain⟨x,hx⟩:=b3 (by omega:i<a.length);obtain⟨y,hy⟩:=b3 (by omega:i+1<a.length);rw[wP,lQ,cX,bO];have:decide (i+1<a.length)=true:=by simp;omega
   have e:IntKind.i64.wrap (((i+1:Nat):Int)-1)=(i:Int):=by rw[wrap64 (by omega) (by omega)];omega
   rw[this,bZ,e,b0 hx,b0 hy,aP,aP,cI (i+1) (by omega),Kv hx hy,ih (i+1) (by omega) (by omega)];cases Op.bytesLess x y<;>rfl
 cases a with
 |nil=>rw[wP,lQ];rfl
 |cons x r=>exact key _ 0 rfl (by simp)
def ed (l:af):Prop:=
 (l.Kind=1\/l.Kind=9)/\l.az=[]/\l.Names=[]/\l.a6=[]/\l.Lo=0/\l.Hi=0\/
 (l.Kind=2\/l.Kind=3)/\l.az=[]/\l.Names=[]/\l.a6=[]\/
 (l.Kind=4\/l.Kind=8)/\l.az=[]/\l.a6=[]/\l.Lo=0/\l.Hi=0\/
 l.Kind=5/\l.az.length=1/\l.a6=[]/\l.Lo=0/\l.Hi=0\/
 l.Kind=7/\l.az.length=2/\l.Names=[]/\l.a6=[]/\l.Lo=0/\l.Hi=0\/
 l.Kind=6/\l.az.length=l.Names.length/\l.Names≠[]/\l.a6=[]/\l.Lo=0/\l.Hi=0\/
 l.Kind=10/\l.az=[]/\l.Names≠[]/\l.Lo=0/\l.Hi=0
theorem Lz (l:af):ae ((f92 Pf) l) (λr=>r=0->ed l):=by
 rw[P9,rk];simp only[sU,aP,cX,af.a8,aK.a8]
 repeat' (first|refine ae.bif (λ_=>?_) (λ_=>?_)|refine ae.ret (λhr=>?_))
 all_goals (first|(exfalso;revert hr;decide)|(have hn:l.Names≠[]:=(by intro e;rw[e]at hr;revert hr;decide);clear hr;simp at*;simp[ed, *];done)|(have hn:l.Names≠[]:=(by intro e;rw[e]at hr;revert hr;decide);clear hr;simp at*;simp[ed, *];omega)|(simp at*;simp[ed, *];done)|(simp at*;simp[ed, *];omega)|skip)
def kf (l:af):Prop:=l.Names.length<=(if l.Kind=6 then 8 else if l.Kind=10 then 12 else 32)/\l.a6.length<=32
theorem KW (l:af):ae ((f94 Pf) l) (λr=>r=0↔kf l):=by
 rw[Qa,rl];simp only[sU,aP,cX,aK.a8];have e:decide ((l.a6.length:Int)>32)= !decide (l.a6.length<=32):=by rw[kF];simp;omega
 rw[e];unfold kf
 repeat' (first|refine ae.bif (λh=>?_) (λh=>?_)|refine ae.ret ?_)
 all_goals (simp at*;first|omega|(cases hd:decide (l.a6.length<=32)<;>simp at hd<;>simp[*]<;>omega))
theorem KX (l:af):ae ((f96 Pf) l) (λr=>r=0-> -1000000000<=l.Lo/\l.Lo<=l.Hi/\l.Hi<=1000000000):=by
 rw[Qb,rm];simp only[sU,aP]
 repeat' (first|refine ae.bif (λ_=>?_) (λ_=>?_)|refine ae.ret (λhr=>?_))
 all_goals (first|(exfalso;revert hr;decide)|(cases h5:decide (l.Hi>1000000000)<;>rw[h5]at hr<;>simp at* <;>omega))
theorem sF {l:af} {p:af} (h:p∈l.az):SizeOf.sizeOf p<SizeOf.sizeOf l:=by
 cases l;have:=List.sizeOf_lt_of_mem h;simp only[af.mk.sizeOf_spec]at*
 omega
inductive kA:af->Prop
 |one {l:af}:(l.Kind=1\/l.Kind=2\/l.Kind=3)->kA l
 |lex {l p q:af}:l.Kind=7->l.az=[p,q]->kA p->kA q->kA l
theorem vM:∀(n:Nat) (l:af),SizeOf.sizeOf l<=n->ae ((f120 Pf) l) (λr=>r=true->kA l)
 |0,l,h=>by cases l;simp only[af.mk.sizeOf_spec]at h;omega
 |n+1,l,h=>by
  rw[OI,qt,af.a8];refine ae.bif (λh1=>ae.ret λ_=> .one (.inl (by simpa using h1))) (λ_=>?_);refine ae.bif (λh1=>ae.ret λ_=> .one (.inr (.inl (by simpa using h1)))) (λ_=>?_);refine ae.bif (λh1=>ae.ret λ_=> .one (.inr (.inr (by simpa using h1)))) (λ_=>?_);refine ae.bif (λh7=>?_) (λ_=>ae.ret λh=>by cases h);refine ae.bif (λh2=>?_) (λ_=>ae.ret λh=>by cases h);have h2:l.az.length=2:=by simp at h2;omega
  obtain⟨p,q,e⟩:∃p q,l.az=[p,q]:=by
   match hp:l.az,h2 with
   |[p,q],_=>exact⟨p,q,rfl⟩
  have hp:SizeOf.sizeOf p<SizeOf.sizeOf l:=sF (by rw[e];simp);have hq:SizeOf.sizeOf q<SizeOf.sizeOf l:=sF (by rw[e];simp);have e0:aq l.az 0=some p:=by rw[e];rfl
  have e1:aq l.az 1=some q:=by rw[e];rfl
  rw[e0,e1];simp only[aP];refine ae.bind (vM n p (by omega)) (λy hy=>?_);refine ae.bif (λhb=>?_) (λ_=>ae.ret λh=>by cases h);refine ae.bind (vM n q (by omega)) (λz hz=>ae.ret λh=> .lex (by simpa using h7) e (hy hb) (hz h))
theorem KY (l:af) (hs:ed l):ae ((f97 Pf) l) (λr=>r=0->l.Kind=7->∃p,l.az[0]? =some p/\kA p):=by
 rw[Qc,rn];simp only[sU,aP];refine ae.bif (λh7=>?_) (λh7=>ae.ret λ_ h=>by simp at h7;exact absurd h h7);have h2:l.az.length=2:=by
  simp at h7;simp[ed,h7]at hs;exact hs.1
 obtain⟨p,hp⟩:=b3 (l:=l.az) (i:=0) (by omega);have e0:aq l.az 0=some p:=hp;rw[e0,aP];refine ae.bind (vM _ p (bq _)) (λy hy=>ae.ret λhr _=>⟨p,hp,hy ?_⟩);cases y with
 |true=>rfl
 |false=>revert hr;decide
theorem NJ (l:List Int) (hl:l.length<9223372036854775807):ae ((f93 Pf) l) (λr=>r=0->∀x∈l,x=0):=by
 rw[Qd,oT];have:=kJ (L:=λi=>(l7 Pf) l i) (P:=λr=>r=0->∀x∈l,x=0) (len:=l.length) (λi=>∀j x,j<i->l[j]? =some x->x=0) (λi hi hI k=>by
  show ae ((l7 Pf) l i) _;obtain⟨x,hx⟩:=b3 hi;rw[FV,nR,kI,bO];have:decide (i<l.length)=true:=by simpa using hi
  rw[this,bZ,b0 hx,aP,cI i (by omega)];refine ae.bif (λh=>ae.ret λe=>by simp at h;exact absurd e h) (λh=>k λj y hj hy=>?_);rcases jK.1 hj with h1|rfl
  ·exact hI j y h1 hy
  ·rw[hx]at hy;cases hy;simpa using h) (λhI=>by
  show ae ((l7 Pf) l _) _;rw[FV,nR,kI,bO];have:decide (l.length<l.length)=false:=by simp
  rw[this,cw];refine ae.ret λ_ x hx=>?_;obtain⟨j,hj⟩:=gA hx;exact hI j x (cT.1 hj).1 hj) 0 (by omega) (λj x hj=>by omega)
 exact this
def qd (names:List (List UInt8)) (r:aK):Prop:=r.If≠[]/\rising r.If=true/\(r.If.all λx=>names.any λy=>x==y)=true/\(names.any λy=>r.er==y)=true
def nK (l:af):Prop:=(∀s∈l.Names,eF s=true)/\(l.Kind≠6->rising l.Names=true)/\(l.Kind=6->∀(i:Nat) s,l.Names[i]? =some s->((l.Names.take i).any λy=>s==y)=false)/\∀r∈l.a6,qd l.Names r
mutual
def kg:af->Nat
 |⟨_,_,_,_,ps,_⟩=>1+fT ps
def fT:List af->Nat
 |[]=>0
 |p::ps=>kg p+fT ps
end
mutual
def gO:af->Nat
 |⟨_,_,_,_,ps,_⟩=>1+iT ps
def iT:List af->Nat
 |[]=>0
 |p::ps=>max (gO p) (iT ps)
end
theorem sS (l:af):kg l=1+fT l.az:=by cases l;rw[kg]
theorem sT (l:af):gO l=1+iT l.az:=by cases l;rw[gO]
theorem DF:∀{ps:List af} {p:af},p∈ps->kg p<=fT ps
 |q::ps,p,h=>by
  rw[fT];rcases cL.1 h with rfl|h
  ·omega
  ·have:=DF h;omega
theorem DG:∀{ps:List af} {p:af},p∈ps->gO p<=iT ps
 |q::ps,p,h=>by
  rw[iT];rcases cL.1 h with rfl|h
  ·omega
  ·have:=DG h;omega
theorem wg {n:Nat}:∀{ps:List af},(∀p∈ps,gO p<=n)->iT ps<=n
 |[],_=>by rw[iT];omega
 |p::ps,h=>by
  rw[iT];have h1:=h p (by simp);have h2:=wg (ps:=ps) (n:=n) λq hq=>h q (by simp[hq]);omega
theorem CT {ps:List af}:∀{i:Nat} {p:af},ps[i]? =some p->fT (ps.take (i+1))=fT (ps.take i)+kg p:=by
 induction ps with
 |nil=>intro i p h;simp at h
 |cons q ps ih=>
  intro i p h;cases i with
  |zero=>simp only[o7,ao]at h;subst h;simp[fT]
  |succ i=>
   simp only[JZ]at h;have:=ih h;rw[uU,uU,fT,fT,this];omega
inductive jF:af->Prop
 |mk {l:af}:ed l->kf l->nK l->(-1000000000<=l.Lo/\l.Lo<=l.Hi/\l.Hi<=1000000000)->(l.Kind=7->∃p,l.az[0]? =some p/\kA p)->(∀p∈l.az,jF p)->jF l
structure dp (l:af):Prop where
 i:jF l
 dL:kg l<=64
 dep:gO l<=6
theorem dp.part {l p:af} (h:dp l) (hp:p∈l.az):dp p:=by
 have h1:=h.dL;have h2:=h.dep;rw[sS]at h1;rw[sT]at h2;have h3:=DF hp;have h4:=DG hp;exact⟨by have h:=h.i;cases h with|mk _ _ _ _ _ h=>exact h p hp,by omega,by omega⟩
theorem dp.shape {l:af} (h:dp l):ed l:=by have h:=h.i;cases h;assumption
theorem dp.names {l:af} (h:dp l):nK l:=by have h:=h.i;cases h;assumption
theorem dp.range {l:af} (h:dp l): -1000000000<=l.Lo/\l.Lo<=l.Hi/\l.Hi<=1000000000:=by have h:=h.i;cases h;assumption
theorem sR {D:Type} {l:List D} {i:Nat} (h:i<=l.length):jU l 0 (i:Int)=some (l.take i):=by
 have:jU l ((0:Nat):Int) (i:Int)=some (l.take i):=by
  show(bif Nat.ble 0 i&&Nat.ble i l.length then some ((l.take i).drop 0)else none)=_;rw[uQ (lB i),uQ h];rfl
 exact this
section
variable {B:Nat} (hB:B<1099511627776)
include hB
theorem DH {l:af} (hl:l.ok B) (L:Int->Option Int) (hL:∀s,L s=(bif decide (s<(↑(aK.rows l.a6).length:Int))then((aq (l.a6) (s)).bind λx=>(bif (↑(aW x.If).length:Int)==0 then(some (3))else(((f117 Pf) (x.If)).bind λy=>(bif !y then(some (3))else(((f118 Pf) (x.If) (l.Names)).bind λz=>(bif !z then(some (3))else(((f119 Pf) (l.Names) (x.er)).bind λu=>(bif !u then(some (3))else(L (IntKind.i64.wrap (s+1)))))))))))else(some (0)))):
  ae (L 0) (λr=>r=0->∀x∈l.a6,qd l.Names x):=by
 rw[af.dv]at hl;obtain⟨_,_,_,⟨hn,_⟩,_,⟨hr,hrr⟩⟩:=hl;have h:=kJ (L:=L) (P:=λr=>r=0->∀x∈l.a6,qd l.Names x) (len:=l.a6.length) (λi=>∀j x,j<i->l.a6[j]? =some x->qd l.Names x) (λi hi hI k=>by
  obtain⟨x,hx⟩:=b3 hi;have hxo:=hrr x (bV hx);rw[hL,aK.a8,bO];have:decide (i<l.a6.length)=true:=by simpa using hi
  rw[this,bZ,b0 hx,aP,cX,DI _ (by have:=hxo.1.1;omega),Ly _ _ (by have:=hxo.1.1;omega) (by omega),has_eq _ _ (by omega),cI i (by omega)];simp only[aP];refine ae.bif (λ_=>ae.ret λe=>by cases e) (λh1=>?_);refine ae.bif (λ_=>ae.ret λe=>by cases e) (λh2=>?_);refine ae.bif (λ_=>ae.ret λe=>by cases e) (λh3=>?_);refine ae.bif (λ_=>ae.ret λe=>by cases e) (λh4=>?_);refine k λj y hj hy=>?_;rcases jK.1 hj with h5|rfl
  ·exact hI j y h5 hy
  ·rw[hx]at hy;cases hy;refine⟨λe=>?_,by simpa using h2,by simpa only[rU]using h3,by simpa only[rU]using h4⟩;rw[e]at h1;simp at h1) (λhI=>by
  rw[hL,aK.a8,bO];have:decide (l.a6.length<l.a6.length)=false:=by simp
  rw[this,cw];refine ae.ret λ_ x hx=>?_;obtain⟨j,hj⟩:=gA hx;exact hI j x (cT.1 hj).1 hj) 0 (by omega) (λj x hj=>by omega)
 exact h
theorem Kk {l:af} (hl:l.ok B):ae ((f95 Pf) l) (λr=>r=0->nK l):=by
 rw[P6,oS];have hl':=hl;rw[af.dv]at hl;obtain⟨_,_,_,⟨hn,hnn⟩,_,⟨hr,hrr⟩⟩:=hl;have h:=kJ (L:=λi=>(kY Pf) l 0 i) (P:=λr=>r=0->nK l) (len:=l.Names.length) (λi=>(∀j s,j<i->l.Names[j]? =some s->eF s=true)/\(l.Kind=6->∀j s,j<i->l.Names[j]? =some s->((l.Names.take j).any λy=>s==y)=false)) (λi hi hI k=>by
  show ae ((kY Pf) l 0 i) _;obtain⟨x,hx⟩:=b3 hi;rw[FT,nP,cX,bO];have:decide (i<l.Names.length)=true:=by simpa using hi
  have hxl:=hnn x (bV hx);rw[this,bZ,b0 hx,aP,pB x (by omega),aP,cI i (by omega),sR (by omega),aP,contains_eq _ _ (by rw[o6];omega),aP];refine ae.bif (λ_=>ae.ret λe=>by cases e) (λh1=>?_);have h1:eF x=true:=by simpa using h1
  have nv:∀j s,j<i+1->l.Names[j]? =some s->eF s=true:=λj s hj hs=>by
   rcases jK.1 hj with h5|rfl
   ·exact hI.1 j s h5 hs
   ·rw[hx]at hs;cases hs;exact h1
  refine ae.bif (λh6=>?_) (λh6=>k ⟨nv,λe=>by simp at h6;exact absurd e h6⟩);refine ae.bif (λ_=>ae.ret λe=>by cases e) (λh7=>k ⟨nv,λe j s hj hs=>?_⟩);rcases jK.1 hj with h5|rfl
  ·exact hI.2 e j s h5 hs
  ·rw[hx]at hs;cases hs;exact h7) (λhI=>by
  show ae ((kY Pf) l 0 _) _;rw[FT,nP,cX,bO];have:decide (l.Names.length<l.Names.length)=false:=by simp
  rw[this,cw];have nv:∀s∈l.Names,eF s=true:=λs hs=>by
   obtain⟨j,hj⟩:=gA hs;exact hI.1 j s (cT.1 hj).1 hj
  have di:l.Kind=6->∀(i:Nat) s,l.Names[i]? =some s->((l.Names.take i).any λy=>s==y)=false:=λe i s hs=>hI.2 e i s (cT.1 hs).1 hs;rw[DI _ (by omega)];refine ae.bif (λh6=>?_) (λh6=>?_)
  ·rw[aP];refine ae.bif (λ_=>ae.ret λe=>by cases e) (λh8=>?_);exact(DH hB hl' _ (λs=>NH l s)).mono λr h e=>⟨nv,λ_=>by simpa using h8,di,h e⟩
  ·exact(DH hB hl' _ (λs=>NI l s)).mono λr h e=>⟨nv,λh9=>by simp at h6;exact absurd h6 h9,di,h e⟩) 0 (by omega) ⟨λj s hj=>by omega,λ_ j s hj=>by omega⟩
 exact h
theorem DJ:∀(n:Nat) (c:cC) (l:af) (d:Int),l.ok B->0<=c.nodes->c.nodes<=64->(6-d+1).toNat<=n->d<=7->0<=d->ae ((f62 Pf) c l d) (λr=>0<=r.2.nodes/\r.2.nodes<=64/\(r.1=0->jF l/\r.2.nodes=c.nodes+kg l/\d+gO l<=7))
 |n,c,l,d,hl,h0,h1,hn,hd,hd0=>by
  rw[P7,rh];refine ae.bif (λ_=>ae.ret ⟨h0,h1,λe=>by cases e⟩) (λh6=>?_);have h6:d<=6:=by simp at h6;omega
  match n,hn with
  |0,hn=>omega
  |n+1,hn=>
  refine ae.bif (λ_=>ae.ret ⟨h0,h1,λe=>by cases e⟩) (λh64=>?_);have h64:c.nodes<64:=by simp at h64;omega
  have hw:IntKind.i64.wrap (c.nodes+1)=c.nodes+1:=wrap64 (by omega) (by omega);have hwd:IntKind.i64.wrap (d+1)=d+1:=wrap64 (by omega) (by omega);rw[hw];refine ae.bind (Lz l) (λy3 hs=>?_);refine ae.bif (λhne=>ae.ret ⟨by simp;omega,by simp;omega,λe=>by simp at hne;exact absurd e hne⟩) (λh3=>?_);have hs:=hs (by simpa using h3);refine ae.bind (KW l) (λy5 hli=>?_);refine ae.bind (Kk hB hl) (λy6 hsp=>?_);refine ae.bind (KX l) (λy7 hra=>?_);refine ae.bind (KY l hs) (λy8 hch=>?_);refine ae.bind (NJ _ (by simp)) (λy9 hor=>?_);refine ae.bif (λhne=>ae.ret ⟨by simp;omega,by simp;omega,λe=>by simp at hne;exact absurd e hne⟩) (λh9=>?_);have hor:=hor (by simpa using h9);have e5:y5=0:=hor y5 (by simp);have e6:y6=0:=hor y6 (by simp);have e7:y7=0:=hor y7 (by simp);have e8:y8=0:=hor y8 (by simp);have hl':=hl;rw[af.dv]at hl';obtain⟨_,_,_,_,⟨hpl,hp⟩,_⟩:=hl';have h:=jO (L:=λi b=>(l6 Pf) l d i b) (P:=λr=>0<=r.2.nodes/\r.2.nodes<=64/\(r.1=0->jF l/\r.2.nodes=c.nodes+kg l/\d+gO l<=7)) (len:=l.az.length) (λi b=>0<=b.nodes/\b.nodes<=64/\b.nodes=c.nodes+1+fT (l.az.take i)/\∀j p,j<i->l.az[j]? =some p->jF p/\d+1+gO p<=7) (λi b hi hI k=>by
   show ae ((l6 Pf) l d i b) _;obtain⟨x,hx⟩:=b3 hi;rw[FU,nQ,af.a8,bO];have:decide (i<l.az.length)=true:=by simpa using hi
   rw[this,bZ,b0 hx,aP,cI i (by omega),hwd];refine ae.bind (DJ n b x (d+1) (af.gf hp (bV hx)) hI.1 hI.2.1 (by omega) (by omega) (by omega)) (λy hy=>?_);refine ae.bif (λhne=>ae.ret ⟨hy.1,hy.2.1,λe=>by simp at hne;exact absurd e hne⟩) (λhz=>?_);have hy3:=hy.2.2 (by simpa using hz);refine k _ ⟨hy.1,hy.2.1,by rw[CT hx];have:=hI.2.2.1;omega,λj p hj hp'=>?_⟩;rcases jK.1 hj with h5|rfl
   ·exact hI.2.2.2 j p h5 hp'
   ·rw[hx]at hp';cases hp';exact⟨hy3.1,hy3.2.2⟩) (λb hI=>by
   show ae ((l6 Pf) l d _ b) _;rw[FU,nQ,af.a8,bO];have:decide (l.az.length<l.az.length)=false:=by simp
   rw[this,cw];have all:∀p∈l.az,jF p/\d+1+gO p<=7:=λp hp'=>by
    obtain⟨j,hj⟩:=gA hp';exact hI.2.2.2 j p (cT.1 hj).1 hj
   refine ae.ret ⟨hI.1,hI.2.1,λ_=>⟨.mk hs (hli.1 e5) (hsp e6) (hra e7) (hch e8) λp hp'=>(all p hp').1,?_,?_⟩⟩
   ·show b.nodes=_;rw[sS];have:=hI.2.2.1;rw[uT]at this;omega
   ·rw[sT];have:iT l.az<=(6-d).toNat:=wg λp hp'=>by have:=(all p hp').2;omega
    omega) 0 {nodes:=c.nodes+1} (by omega) ⟨by simp;omega,by simp;omega,by simp[fT],λj p hj=>by omega⟩
  exact h
theorem DK {l:af} (hl:l.ok B):ae ((f45 Pf) l) (λr=>r=0->dp l):=by
 rw[P8,rj];exact ae.bind (DJ hB 7 _ l 1 hl (by simp) (by simp) (by decide) (by decide) (by decide)) (λy hy=>ae.ret λe=>by
  obtain⟨h1,h2,h3⟩:=hy.2.2 e;have h4:=hy.2.1;exact⟨h1,by simp at h2;omega,by omega⟩)
end
end Go.Proofs.YthlcjaanmbjcaaaGreat
end

section
namespace Go.Proofs.YthlcjaanmbjcaaaGreat
open Go Go.Bw
theorem py {i:Nat} (h:i<9223372036854775807):IntKind.i64.wrap ((i:Int)+1)=((i+1:Nat):Int):=cI i h
theorem af.ind {P:af->Prop} (h:∀x:af,(∀k∈x.az,P k)->P x):∀x,P x:=by
 intro x;refine af.rec (motive_1:=P) (motive_2:=λks=>∀k∈ks,P k) ?_ ?_ ?_ x
 ·intro k lo hi ns ps rs ih;exact h ⟨k,lo,hi,ns,ps,rs⟩ ih
 ·intro k hk;cases hk
 ·intro k ks h1 h2 x hx;rcases cL.1 hx with rfl|hx
  ·exact h1
  ·exact h2 x hx
def iW (a b:aK):Bool:=a.er==b.er&&a.If==b.If
mutual
def ki:af->af->Bool
 |⟨k,lo,hi,ns,ps,rs⟩,⟨k',lo',hi',ns',ps',rs'⟩=>k==k'&&(lo==lo'&&(hi==hi'&&(ns==ns'&&((rs.length==rs'.length&&(rs.zip rs').all (λq=>iW q.1 q.2))&&gL ps ps'))))
def gL:List af->List af->Bool
 |[],[]=>true
 |x::r,y::s=>ki x y&&gL r s
 |_,_=>false
end
theorem DT:∀{a b:List af},a.length=b.length->gL a b=(a.zip b).all (λq=>ki q.1 q.2)
 |[],[],_=>rfl
 |x::a,y::b,h=>by rw[gL,u2,gS,DT (by simpa using h)]
 |[],_::_,h=>by simp at h
 |_::_,[],h=>by simp at h
theorem DU:∀{a b:List af},a.length≠b.length->gL a b=false
 |[],[],h=>absurd rfl h
 |x::a,y::b,h=>by rw[gL,DU (by simpa using h),Bool.and_false]
 |[],_::_,_=>rfl
 |_::_,[],_=>rfl
variable {B:Nat} (hB:B<=1048576)
section
include hB
theorem K3 {f:List (List UInt8)->List (List UInt8)->Option Bool} {L:List (List UInt8)->List (List UInt8)->Int->Option Bool} (hf:∀a b,f a b=(bif (↑(aW a).length:Int) !=(↑(aW b).length:Int)then(some (false))else L a b 0))
  (hL:∀a b s,L a b s=(bif decide (s<(↑(aW a).length:Int))then((aq (a) (s)).bind λx=>((aq (b) (s)).bind λy=>(bif !(x==y)then(some (false))else(L a b (IntKind.i64.wrap (s+1))))))else(some (true))))
  {a b:List (List UInt8)} (ha:a.length<=B):f a b=some (a==b):=by
 rw[hf];simp only[cX];by_cases hl:a.length=b.length
 ·have h0:((a.length:Int) !=(b.length:Int))=false:=by simp[hl]
  rw[h0];show L a b 0=_;rw[sJ (a:=a) (b:=b) (L:=L a b) (λx y=>x==y) true hl ?_ ?_,uR,NL hl]
  ·intro i x y hx hy hi;rw[hL,cX,py (by omega)];have h1:decide ((i:Int)<(a.length:Int))=true:=by simpa using hi
   rw[h1,b0 hx,b0 hy];show(bif !(x==y)then _ else _)=_;cases (x==y)<;>rfl
  ·rw[hL,cX];simp
 ·have h0:((a.length:Int) !=(b.length:Int))=true:=by simp;omega
  rw[h0];have:(a==b)=false:=by
   cases h:a==b with
   |false=>rfl
   |true=>exact absurd (congrArg List.length (eq_of_beq h)) hl
  rw[this];rfl
theorem Is {a b:List (List UInt8)} (ha:a.length<=B):(f105 Pf) a b=some (a==b):=K3 hB OY MO ha
theorem QD {a b:aK} (ha:a.ok B):(f107 Pf) a b=some (iW a b):=by
 rw[OZ,qF,Is hB ha.1.1,iW];cases a.er==b.er<;>rfl
theorem QE {a b:List aK} (hl:a.length<=B) (ha:∀x∈a,x.ok B):(sI Pf) a b=some (a.length==b.length&&(a.zip b).all (λq=>iW q.1 q.2)):=by
 rw[LZ,pC];simp only[aK.a8];by_cases h:a.length=b.length
 ·have h0:((a.length:Int) !=(b.length:Int))=false:=by simp[h]
  rw[h0];show(mN Pf) a b 0=_;rw[sJ (a:=a) (b:=b) (L:=(mN Pf) a b) iW true h ?_ ?_]
  ·simp[h]
  ·intro i x y hx hy hi;rw[Ct,mO,aK.a8,py (by omega)];have h1:decide ((i:Int)<(a.length:Int))=true:=by simpa using hi
   rw[h1,b0 hx,b0 hy];show(((f107 Pf) x y).bind _)=_;rw[QD hB (ha x (bV hx))];show(bif !(iW x y)then _ else _)=_;cases iW x y<;>rfl
  ·rw[Ct,mO,aK.a8];simp
 ·have h0:((a.length:Int) !=(b.length:Int))=true:=by simp;omega
  rw[h0];simp[h]
theorem QC:∀a b:af,a.ok B->(f77 Pf) a b=some (ki a b):=by
 refine af.ind ?_;intro a ih b ha;rw[af.dv]at ha;obtain⟨_,_,_,hn,hp,hr⟩:=ha;rw[Qx,rA,Is hB hn.1,QE hB hr.1 hr.2];have h96:(s7 Pf) a.az b.az=some (gL a.az b.az):=by
  rw[MP,pL];simp only[af.a8];by_cases h:a.az.length=b.az.length
  ·have h0:((a.az.length:Int) !=(b.az.length:Int))=false:=by simp[h]
   rw[h0];show(mX Pf) a.az b.az 0=_;rw[sJ (a:=a.az) (b:=b.az) (L:=(mX Pf) a.az b.az) ki true h ?_ ?_]
   ·rw[DT h,uR]
   ·intro i x y hx hy hi;rw[CW,mY,af.a8,py (by omega)];have h1:decide ((i:Int)<(a.az.length:Int))=true:=by simpa using hi
    have hx':=bV hx;rw[h1,b0 hx,b0 hy];show(((f77 Pf) x y).bind _)=_;rw[ih x hx' y (af.gf hp.2 hx')];show(bif !(ki x y)then _ else _)=_;cases ki x y<;>rfl
   ·rw[CW,mY,af.a8];simp
  ·have h0:((a.az.length:Int) !=(b.az.length:Int))=true:=by simp;omega
   rw[h0,DU h];rfl
 rw[h96];obtain⟨k,lo,hi,ns,ps,rs⟩:=a;obtain⟨k',lo',hi',ns',ps',rs'⟩:=b;simp only[ki];generalize (k==k')=c1;generalize (lo==lo')=c2;generalize (hi==hi')=c3;generalize (ns==ns')=c4;generalize (rs.length==rs'.length&&(rs.zip rs').all λq=>iW q.1 q.2)=c5;generalize gL ps ps'=c6;cases c1<;>cases c2<;>cases c3<;>cases c4<;>cases c5<;>cases c6<;>rfl
end
theorem L7 {a b:aK}:iW a b=true↔a=b:=by
 cases a;cases b;simp[iW,and_comm]
theorem Eo:∀{a b:List aK},(a.length==b.length&&(a.zip b).all (λq=>iW q.1 q.2))=true↔a=b
 |[],[]=>by simp
 |[],_::_=>by simp
 |_::_,[]=>by simp
 |x::a,y::b=>by
  have:=Eo (a:=a) (b:=b);simp only[bn,beq_iff_eq]at this;simp only[iz,u2,gS,bn,beq_iff_eq,jb,L7];constructor
  ·rintro ⟨h1,h2,h3⟩;exact⟨h2,this.1 ⟨by omega,h3⟩⟩
  ·rintro ⟨rfl,rfl⟩;exact⟨rfl,rfl,(this.2 rfl).2⟩
mutual
theorem En:∀{a b:af},ki a b=true↔a=b
 |⟨k,lo,hi,ns,ps,rs⟩,⟨k',lo',hi',ns',ps',rs'⟩=>by
  rw[ki];have h1:=DV (a:=ps) (b:=ps');have h2:=Eo (a:=rs) (b:=rs');rw[bn,bn,bn,bn,bn,h1,h2];simp only[beq_iff_eq,af.mk.injEq];constructor
  ·rintro ⟨a,b,c,d,e,f⟩;exact⟨a,b,c,d,f,e⟩
  ·rintro ⟨a,b,c,d,e,f⟩;exact⟨a,b,c,d,f,e⟩
theorem DV:∀{a b:List af},gL a b=true↔a=b
 |[],[]=>by simp[gL]
 |[],_::_=>by simp[gL]
 |_::_,[]=>by simp[gL]
 |x::a,y::b=>by rw[gL,bn,En,DV,jb]
end
end Go.Proofs.YthlcjaanmbjcaaaGreat
end

section
namespace Go.Proofs.YthlcjaanmbjcaaaGreat
open Go Go.Bw
theorem wu {D:Type}:∀{l:List D} {i:Nat} {x:D},l[i]? =some x->l.set i x=l
 |y::l,0,x,h=>by simp only[o7,ao]at h;subst h;rfl
 |y::l,i+1,x,h=>by rw[lA,wu (by simpa using h)]
theorem wv {D:Type} {l:List D} (h:l.length<=274877906944):(bif decide ((([]:List D)++l).length<=274877906944)then some ([]++l)else none)=some l:=by
 have:decide ((([]:List D)++l).length<=274877906944)=true:=by simpa using h
 rw[this];rfl
variable {B:Nat} (hB:B<=1048576)
section
include hB
theorem DS {a:List (List UInt8)} (h:a.length<=B):(f125 Pf) a=some a:=by
 rw[OV,qC];exact wv (by omega)
theorem vQ:∀l:af,l.ok B->(f102 Pf) l=some l:=by
 refine af.ind λl ih hl=>?_;rw[af.dv]at hl;obtain⟨_,_,_,⟨hn,_⟩,⟨hp,hpp⟩,⟨hr,hrr⟩⟩:=hl;have h2:∀k i:Nat,k=l.az.length-i->i<=l.az.length->(pJ Pf) l l.Names l.az (i:Int) l.az l.a6=some l:=by
  intro k
  induction k with
  |zero=>
   intro i hk hi;have:i=l.az.length:=by omega
   subst this;rw[EU,np,af.a8,bO];have:decide (l.az.length<l.az.length)=false:=by simp
   rw[this,cw];cases l;rfl
  |succ k ihk=>
   intro i hk hi;have hi':i<l.az.length:=by omega
   obtain⟨x,hx⟩:=b3 hi';rw[EU,np,af.a8,bO];have:decide (i<l.az.length)=true:=by simpa using hi'
   have hm:=bV hx;rw[this,bZ,b0 hx];simp only[aP];rw[ih x hm (af.gf hpp hm)];simp only[aP];rw[cI i (by omega),lC,wu hx];exact ihk (i+1) (by omega) (by omega)
 have h1:∀k i:Nat,k=l.a6.length-i->i<=l.a6.length->(pK Pf) l l.Names l.a6 (i:Int) l.a6=some l:=by
  intro k
  induction k with
  |zero=>
   intro i hk hi;have:i=l.a6.length:=by omega
   subst this;rw[EV,nq,aK.a8,bO];have:decide (l.a6.length<l.a6.length)=false:=by simp
   rw[this,cw,Om,qf,wv (by omega),aP];exact h2 _ 0 rfl (by omega)
  |succ k ihk=>
   intro i hk hi;have hi':i<l.a6.length:=by omega
   obtain⟨x,hx⟩:=b3 hi';rw[EV,nq,aK.a8,bO];have:decide (i<l.a6.length)=true:=by simpa using hi'
   have hm:=bV hx;rw[this,bZ,b0 hx];simp only[aP];rw[DS hB (hrr x hm).1.1];simp only[aP];rw[cI i (by omega),lC,wu hx];exact ihk (i+1) (by omega) (by omega)
 rw[OW,qD,DS hB hn,aP,Ol,qe,wv (by omega),aP];exact h1 _ 0 rfl (by omega)
theorem pA {a b:aB} (ha:a.aF.ok B):ae ((f55 Pf) a b) (λr=>r=true↔a=b):=by
 rw[Qy,rB];cases a with|mk s l=>cases b with|mk s' l'=>
 refine ae.bif (λh=>?_) (λh=>ae.ret ⟨λe=>(by cases e),λe=>?_⟩)
 ·rw[QC hB _ _ ha,aP];refine ae.ret ?_;have h:s=s':=by simpa using h
  rw[En,h];simp
 ·cases e;simp at h
end
theorem nA (t:aB):(f103 Pf) t=some (isNone t):=by
 rw[OQ,qy,isNone];cases t.aS==0<;>rfl
theorem ec (n:Int):(f75 Pf) n=some (a7 n):=Qv n
theorem of_eq (l:af):(f74 Pf) l=some (bG l):=Qu l
theorem wZ (l:af) (f:bl):(f49 Pf) l f=some (bif f.Result==0 then bG l else a7 f.Result):=by
 rw[Qw,rz,of_eq,ec];cases f.Result==0<;>rfl
def qh (f:bl):Prop:=eF f.Name=true/\eF f.On=true/\f.Params.length<=8/\0<=f.Result/\f.Result<=4/\
 ∀(i:Nat) p,f.Params[i]? =some p->eF p.Name=true/\1<=p.aS/\p.aS<=4/\∀(j:Nat) q,j<i->f.Params[j]? =some q->q.Name≠p.Name
theorem NN (a:List TParam) (p:TParam) (ha:a.length<9223372036854775807):(sX Pf) a p=some (a.any λq:TParam=>q.Name==p.Name):=by
 rw[MN,pI];have:(sW Pf) a p=some (idxOf (λq:TParam=>q.Name==p.Name) a 0):=by
  rw[MM,nk];refine sG (λq:TParam=>q.Name==p.Name) (λi y hy hi=>?_) ?_
  ·rw[CU,mW,TParam.a8,bO];have:decide (i<a.length)=true:=by simpa using hi
   rw[this,bZ,b0 hy,aP,Qs,rv,aP,cI i (by omega)]
  ·rw[CU,mW,TParam.a8,bO];have:decide (a.length<a.length)=false:=by simp
   rw[this];rfl
 rw[this,aP,vd]
theorem vE {f:bl} (h1:f.Name.length<1048577) (h2:f.On.length<1048577) (h3:∀p∈f.Params,p.Name.length<1048577):ae ((f46 Pf) f) (λr=>r=true->qh f):=by
 rw[Aa,mE,pB _ (by omega),pB _ (by omega),TParam.a8];simp only[aP];refine ae.bif (λ_=>ae.ret λe=>by cases e) (λg1=>?_);refine ae.bif (λ_=>ae.ret λe=>by cases e) (λg2=>?_);refine ae.bif (λ_=>ae.ret λe=>by cases e) (λg3=>?_);refine ae.bif (λ_=>ae.ret λe=>by cases e) (λg4=>?_);refine ae.bif (λ_=>ae.ret λe=>by cases e) (λg5=>?_);have g3:f.Params.length<=8:=by simp at g3;omega
 have h:=kJ (L:=λi=>(iL Pf) f i) (P:=λr=>r=true->qh f) (len:=f.Params.length) (λi=>∀(k:Nat) p,k<i->f.Params[k]? =some p->eF p.Name=true/\1<=p.aS/\p.aS<=4/\∀(j:Nat) q,j<k->f.Params[j]? =some q->q.Name≠p.Name) (λi hi hI k=>by
  show ae ((iL Pf) f i) _;obtain⟨x,hx⟩:=b3 hi;rw[nT,jx,TParam.a8,bO];have:decide (i<f.Params.length)=true:=by simpa using hi
  rw[this,bZ,b0 hx,aP,pB _ (by have:=h3 x (bV hx);omega),aP,sR (by omega),aP,NN _ _ (by rw[o6];omega),aP,cI i (by omega)];refine ae.bif (λ_=>ae.ret λe=>by cases e) (λk1=>?_);refine ae.bif (λ_=>ae.ret λe=>by cases e) (λk2=>?_);refine ae.bif (λ_=>ae.ret λe=>by cases e) (λk3=>?_);refine ae.bif (λ_=>ae.ret λe=>by cases e) (λk4=>k λm p hm hp=>?_);rcases jK.1 hm with h5|rfl
  ·exact hI m p h5 hp
  ·rw[hx]at hp;cases hp;refine⟨by simpa using k1,by simp at k2;omega,by simp at k3;omega,λj q hj hq e=>?_⟩;rw[J2]at k4;exact k4 q (bV (i:=j) (by rw[List.getElem?_take_of_lt hj];exact hq)) (by simpa using e)) (λhI=>by
  show ae ((iL Pf) f _) _;rw[nT,jx,TParam.a8,bO];have:decide (f.Params.length<f.Params.length)=false:=by simp
  rw[this,cw];exact ae.ret λ_=>⟨by simpa using g1,by simpa using g2,g3,by simp at g4;omega,by simp at g5;omega,λi p hp=>hI i p (cT.1 hp).1 hp⟩) 0 (by omega) (λk p hk=>by omega)
 exact h
