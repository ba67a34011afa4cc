/- What the small functions under types.Valid answer: names, lists, loops. -/
import Derived.Test.YtnocmolegijmkaaGreatKPl
import Derived.Test.YtnocmolegijmkaaGreatKG4
import Derived.Test.YtnocmolegijmkaaGreatKGk
set_option linter.all false
section
namespace Go.Proofs.YtnocmolegijmkaaGreat
open Go Go.Bw
theorem zW {D:Type} {a:List D} {L:Int->Option Bool} (p:D->Bool) (e:Bool) (hs:∀(i:Nat) x,a[i]? =some x->i<a.length->L (i:Int)=bif p x then L ((i+1:Nat):Int)else some false) (he:L (a.length:Int)=some e):
  L 0=some (a.all p&&e):=by
 have key:∀k i:Nat,k=a.length-i->i<=a.length->L (i:Int)=some ((a.drop i).all p&&e):=by
  intro k
  induction k with
  |zero=>
   intro i hk hi;have:i=a.length:=by omega
   subst this;rw[he];simp
  |succ k ih=>
   intro i hk hi;have hi':i<a.length:=by omega
   obtain⟨x,hx⟩:=bo hi';rw[hs i x hx hi',kr hx,lx];cases p x with
   |false=>rfl
   |true=>simpa using ih (i+1) (by omega) (by omega)
 simpa using key a.length 0 (by omega) (by omega)
def idxOf {D:Type} (p:D->Bool):List D->Int->Int
 |[],_=> -1
 |x::r,i=>bif p x then i else idxOf p r (i+1)
theorem zr {D:Type} {a:List D} {L:Int->Option Int} (p:D->Bool) (hs:∀(i:Nat) x,a[i]? =some x->i<a.length->L (i:Int)=bif p x then some (i:Int)else L ((i+1:Nat):Int)) (he:L (a.length:Int)=some (-1)):
  L 0=some (idxOf p a 0):=by
 have key:∀k i:Nat,k=a.length-i->i<=a.length->L (i:Int)=some (idxOf p (a.drop i) i):=by
  intro k
  induction k with
  |zero=>
   intro i hk hi;have:i=a.length:=by omega
   subst this;rw[he];simp[idxOf]
  |succ k ih=>
   intro i hk hi;have hi':i<a.length:=by omega
   obtain⟨x,hx⟩:=bo hi';rw[hs i x hx hi',kr hx,idxOf];cases p x with
   |true=>rfl
   |false=>simpa using ih (i+1) (by omega) (by omega)
 simpa using key a.length 0 (by omega) (by omega)
theorem yB {D:Type} (p:D->Bool):∀(a:List D) (j:Nat),(idxOf p a j= -1/\∀x∈a,p x=false)\/∃(i:Nat) (x:D),idxOf p a j=((j+i:Nat):Int)/\a[i]? =some x/\p x=true/\∀k y,k<i->a[k]? =some y->p y=false
 |[],j=> .inl ⟨rfl,by simp⟩
 |x::r,j=>by
  rw[idxOf];cases hp:p x with
  |true=>exact .inr ⟨0,x,by simp,by simp,hp,λk y hk=>by omega⟩
  |false=>
   have h:=yB p r (j+1);simp only[aC];have e:((j:Nat):Int)+1=((j+1:Nat):Int):=by omega
   rw[e];rcases h with⟨h1,h2⟩|⟨i,y,h1,h2,h3,h4⟩
   ·refine .inl ⟨h1,λz hz=>?_⟩;rcases cq.1 hz with rfl|hz
    ·exact hp
    ·exact h2 z hz
   ·refine .inr ⟨i+1,y,by rw[h1];congr 1;omega,by simpa using h2,h3,λk z hk hz=>?_⟩;cases k with
    |zero=>simp only[jP,aE]at hz;subst hz;exact hp
    |succ k=>exact h4 k z (by omega) (by simpa using hz)
theorem HY {D:Type} {p:D->Bool} {a:List D}:decide (idxOf p a 0>=0)=a.any p:=by
 rcases yB p a 0 with⟨h1,h2⟩|⟨i,x,h1,h2,h3,_⟩
 ·have e:idxOf p a 0= -1:=h1;rw[e];have:a.any p=false:=by
   rw[aau];intro x hx;simp[h2 x hx]
  rw[this];rfl
 ·have e:idxOf p a 0=((0+i:Nat):Int):=h1;rw[e];have:a.any p=true:=HK.2 ⟨x,aV h2,h3⟩;rw[this];simp
theorem afr (c:UInt8):(f113 Pf) (c.toNat:Int)=some (sY c):=by
 rw[ajJ,BY];unfold sY;have h0:∀n:Nat,(decide ((97:Int)<=(n:Int))=decide (97<=n))/\(decide ((n:Int)<=122)=decide (n<=122))/\(decide ((48:Int)<=(n:Int))=decide (48<=n))/\(decide ((n:Int)<=57)=decide (n<=57))/\(((n:Int)==45)=(n==45)):=λn=>by
  refine⟨?_,?_,?_,?_,?_⟩<;>(rw[nF];simp only[jQ,beq_iff_eq];omega)
 obtain⟨h1,h2,h3,h4,h5⟩:=h0 c.toNat;rw[h1,h2,h3,h4,h5];cases decide (97<=c.toNat)<;>cases decide (c.toNat<=122)<;>cases decide (48<=c.toNat)<;>cases decide (c.toNat<=57)<;>rfl
def dC (s:List UInt8):Bool:=match s with
 |[]=>false
 |c::_=>decide (s.length<=16)&&decide (97<=c.toNat)&&decide (c.toNat<=122)&&s.all sY
theorem JL {s:List UInt8}:dC s=true↔NV s:=by
 cases s with
 |nil=>simp[dC,NV]
 |cons c r=>simp[dC,NV,and_assoc]
theorem ma (s:List UInt8) (hs:s.length<9223372036854775807):(f68 Pf) s=some (dC s):=by
 rw[e68,Db];cases s with
 |nil=>rfl
 |cons c r=>
  have e0:((((c::r).length:Nat):Int)==0)=false:=by simp;omega
  rw[e0,aC];have hL:(Aw Pf) (c::r) 0=some ((c::r).all sY&&true):=by
   refine zW sY true (λi x hx hi=>?_) ?_
   ·rw[Vh,vS];have:decide ((i:Int)<(((c::r).length:Nat):Int))=true:=by simp;simp at hi;omega
    rw[this,aB,bf hx,au,afr,au,bW i (by omega)];cases sY x<;>rfl
   ·rw[Vh,vS];have:decide ((((c::r).length:Nat):Int)<(((c::r).length:Nat):Int))=false:=by simp
    rw[this];rfl
  have hi:aj (c::r:List UInt8) 0=some c:=rfl;rw[hi,hL];simp only[au,q8];have h1:decide ((((c::r).length:Nat):Int)>16)= !decide ((c::r).length<=16):=by rw[nF];simp;omega
  have h2:decide (((c.toNat:Nat):Int)<97)= !decide (97<=c.toNat):=by rw[nF];simp;omega
  have h3:decide (((c.toNat:Nat):Int)>122)= !decide (c.toNat<=122):=by rw[nF];simp;omega
  rw[h1,h2,h3];unfold dC;simp only;cases decide ((c::r).length<=16)<;>cases decide (97<=c.toNat)<;>cases decide (c.toNat<=122)<;>rfl
theorem EG (a:List (List UInt8)) (x:List UInt8) (ha:a.length<9223372036854775807):(f93 Pf) a x=some (idxOf (λy=>x==y) a 0):=by
 rw[e93,xD];refine zr (λy=>x==y) (λi y hy hi=>?_) ?_
 ·rw[Vi,vT];have:decide ((i:Int)<((aG a).length:Int))=true:=by rw[bN];simp;omega
  rw[this,aB,bf hy,au,bW i (by omega)]
 ·rw[Vi,vT];have:decide ((a.length:Int)<((aG a).length:Int))=false:=by rw[bN];simp
  rw[this];rfl
theorem contains_eq (a:List (List UInt8)) (x:List UInt8) (ha:a.length<9223372036854775807):(f148 Pf) a x=some (a.any λy=>x==y):=by
 rw[ajK,BZ,EG a x ha,au,HY]
theorem has_eq (a:List (List UInt8)) (x:List UInt8) (ha:a.length<9223372036854775807):(f140 Pf) a x=some (a.any λy=>x==y):=by
 rw[ajL,B0,contains_eq a x ha];rfl
theorem Em (a b:List (List UInt8)) (ha:a.length<9223372036854775807) (hb:b.length<9223372036854775807):(f92 Pf) a b=some (a.all λx=>b.any λy=>x==y):=by
 rw[e92,xE];have h:=zW (a:=a) (L:=λi=>(si Pf) a b i) (λx=>b.any λy=>x==y) true (λi x hx hi=>by
  show(si Pf) a b i=_;rw[Vj,vU];have:decide ((i:Int)<((aG a).length:Int))=true:=by rw[bN];simp;omega
  rw[this,aB,bf hx,au,has_eq b x hb,au,bW i (by omega)];cases b.any λy=>x==y<;>rfl) (by
  show(si Pf) a b _=_;rw[Vj,vU];have:decide ((a.length:Int)<((aG a).length:Int))=false:=by rw[bN];simp
  rw[this];rfl)
 simpa using h
theorem rQ (b:Bool) (e:Int):(f160 Pf) b e=some (bif b then e else 0):=by
 rw[ajG,BW];cases b<;>rfl
theorem a7 (n m:Nat):decide (((n:Nat):Int)<(m:Int))=decide (n<m):=by rw[nF];simp only[jQ];omega
theorem abo {a:List (List UInt8)} {i:Nat} {x y:List UInt8} (hx:a[i]? =some x) (hy:a[i+1]? =some y):rising (a.drop i)=(Op.bytesLess x y&&rising (a.drop (i+1))):=by
 rw[kr hx,kr hy];rfl
theorem oM (a:List (List UInt8)) (ha:a.length<9223372036854775807):(f126 Pf) a=some (rising a):=by
 rw[ajH,xa];have key:∀k i:Nat,k=a.length-(i+1)->i+1<=a.length->(Ae Pf) a ((i+1:Nat):Int)=some (rising (a.drop i)):=by
  intro k
  induction k with
  |zero=>
   intro i hk hi;have e:i+1=a.length:=by omega
   rw[JT,rR,bN,a7];have:decide (i+1<a.length)=false:=by simp;omega
   rw[this,aC];obtain⟨x,hx⟩:=bo (by omega:i<a.length);rw[kr hx,show a.drop (i+1)=[]from OQ (by omega)];rfl
  |succ k ih=>
   intro i hk hi;obtain⟨x,hx⟩:=bo (by omega:i<a.length);obtain⟨y,hy⟩:=bo (by omega:i+1<a.length);rw[JT,rR,bN,a7];have:decide (i+1<a.length)=true:=by simp;omega
   have e:IntKind.i64.wrap (((i+1:Nat):Int)-1)=(i:Int):=by rw[wrap64 (by omega) (by omega)];omega
   rw[this,aB,e,bf hx,bf hy,au,au,bW (i+1) (by omega),abo hx hy,ih (i+1) (by omega) (by omega)];cases Op.bytesLess x y<;>rfl
 cases a with
 |nil=>rw[JT,rR];rfl
 |cons x r=>exact key _ 0 rfl (by simp)
def iQ (l:ag):Prop:=
 (l.Kind=1\/l.Kind=9)/\l.ai=[]/\l.Names=[]/\l.bO=[]/\l.Lo=0/\l.Hi=0\/
 (l.Kind=2\/l.Kind=3)/\l.ai=[]/\l.Names=[]/\l.bO=[]\/
 (l.Kind=4\/l.Kind=8)/\l.ai=[]/\l.bO=[]/\l.Lo=0/\l.Hi=0\/
 l.Kind=5/\l.ai.length=1/\l.bO=[]/\l.Lo=0/\l.Hi=0\/
 l.Kind=7/\l.ai.length=2/\l.Names=[]/\l.bO=[]/\l.Lo=0/\l.Hi=0\/
 l.Kind=6/\l.ai.length=l.Names.length/\l.Names≠[]/\l.bO=[]/\l.Lo=0/\l.Hi=0\/
 l.Kind=10/\l.ai=[]/\l.Names≠[]/\l.Lo=0/\l.Hi=0
theorem acR (l:ag):ae ((f107 Pf) l) (λr=>r=0->iQ l):=by
 rw[WR,xb];simp only[rQ,au,bN,ag.aH,aX.aH]
 repeat' (first|refine ae.bif (λ_=>?_) (λ_=>?_)|refine ae.ret (λhr=>?_))
 all_goals (first|(exfalso;revert hr;decide)|(have hn:l.Names≠[]:=(by intro e;rw[e]at hr;revert hr;decide);clear hr;simp at*;simp[iQ, *];done)|(have hn:l.Names≠[]:=(by intro e;rw[e]at hr;revert hr;decide);clear hr;simp at*;simp[iQ, *];omega)|(simp at*;simp[iQ, *];done)|(simp at*;simp[iQ, *];omega)|skip)
def BN (l:ag):Prop:=l.Names.length<=(if l.Kind=6 then 8 else if l.Kind=10 then 12 else 32)/\l.bO.length<=32
theorem P6 (l:ag):ae ((f109 Pf) l) (λr=>r=0↔BN l):=by
 rw[ajI,BX];simp only[rQ,au,bN,aX.aH];have e:decide ((l.bO.length:Int)>32)= !decide (l.bO.length<=32):=by rw[nF];simp;omega
 rw[e];unfold BN
 repeat' (first|refine ae.bif (λh=>?_) (λh=>?_)|refine ae.ret ?_)
 all_goals (simp at*;first|omega|(cases hd:decide (l.bO.length<=32)<;>simp at hd<;>simp[*]<;>omega))
theorem ab1 (l:ag):ae ((f111 Pf) l) (λr=>r=0-> -1000000000<=l.Lo/\l.Lo<=l.Hi/\l.Hi<=1000000000):=by
 rw[WS,xc];simp only[rQ,au]
 repeat' (first|refine ae.bif (λ_=>?_) (λ_=>?_)|refine ae.ret (λhr=>?_))
 all_goals (first|(exfalso;revert hr;decide)|(cases h5:decide (l.Hi>1000000000)<;>rw[h5]at hr<;>simp at* <;>omega))
theorem I5 {l:ag} {p:ag} (h:p∈l.ai):SizeOf.sizeOf p<SizeOf.sizeOf l:=by
 cases l;have:=List.sizeOf_lt_of_mem h;simp only[ag.mk.sizeOf_spec]at*
 omega
inductive mC:ag->Prop
 |one {l:ag}:(l.Kind=1\/l.Kind=2\/l.Kind=3)->mC l
 |lex {l p q:ag}:l.Kind=7->l.ai=[p,q]->mC p->mC q->mC l
theorem IB:∀(n:Nat) (l:ag),SizeOf.sizeOf l<=n->ae ((f161 Pf) l) (λr=>r=true->mC l)
 |0,l,h=>by cases l;simp only[ag.mk.sizeOf_spec]at h;omega
 |n+1,l,h=>by
  rw[K0,sW,ag.aH];refine ae.bif (λh1=>ae.ret λ_=> .one (.inl (by simpa using h1))) (λ_=>?_);refine ae.bif (λh1=>ae.ret λ_=> .one (.inr (.inl (by simpa using h1)))) (λ_=>?_);refine ae.bif (λh1=>ae.ret λ_=> .one (.inr (.inr (by simpa using h1)))) (λ_=>?_);refine ae.bif (λh7=>?_) (λ_=>ae.ret λh=>by cases h);refine ae.bif (λh2=>?_) (λ_=>ae.ret λh=>by cases h);have h2:l.ai.length=2:=by simp at h2;omega
  obtain⟨p,q,e⟩:∃p q,l.ai=[p,q]:=by
   match hp:l.ai,h2 with
   |[p,q],_=>exact⟨p,q,rfl⟩
  have hp:SizeOf.sizeOf p<SizeOf.sizeOf l:=I5 (by rw[e];simp);have hq:SizeOf.sizeOf q<SizeOf.sizeOf l:=I5 (by rw[e];simp);have e0:aj l.ai 0=some p:=by rw[e];rfl
  have e1:aj l.ai 1=some q:=by rw[e];rfl
  rw[e0,e1];simp only[au];refine ae.bind (IB n p (by omega)) (λy hy=>?_);refine ae.bif (λhb=>?_) (λ_=>ae.ret λh=>by cases h);refine ae.bind (IB n q (by omega)) (λz hz=>ae.ret λh=> .lex (by simpa using h7) e (hy hb) (hz h))
theorem ab2 (l:ag) (hs:iQ l):ae ((f112 Pf) l) (λr=>r=0->l.Kind=7->∃p,l.ai[0]? =some p/\mC p):=by
 rw[WT,xd];simp only[rQ,au];refine ae.bif (λh7=>?_) (λh7=>ae.ret λ_ h=>by simp at h7;exact absurd h h7);have h2:l.ai.length=2:=by
  simp at h7;simp[iQ,h7]at hs;exact hs.1
 obtain⟨p,hp⟩:=bo (l:=l.ai) (i:=0) (by omega);have e0:aj l.ai 0=some p:=hp;rw[e0,au];refine ae.bind (IB _ p (bX _)) (λy hy=>ae.ret λhr _=>⟨p,hp,hy ?_⟩);cases y with
 |true=>rfl
 |false=>revert hr;decide
theorem agn (l:List Int) (hl:l.length<9223372036854775807):ae ((f108 Pf) l) (λr=>r=0->∀x∈l,x=0):=by
 rw[WU,sX];have:=gE (L:=λi=>(nV Pf) l i) (P:=λr=>r=0->∀x∈l,x=0) (len:=l.length) (λi=>∀j x,j<i->l[j]? =some x->x=0) (λi hi hI k=>by
  show ae ((nV Pf) l i) _;obtain⟨x,hx⟩:=bo hi;rw[Fa,p9,oK,a7];have:decide (i<l.length)=true:=by simpa using hi
  rw[this,aB,bf hx,au,bW i (by omega)];refine ae.bif (λh=>ae.ret λe=>by simp at h;exact absurd e h) (λh=>k λj y hj hy=>?_);rcases pD.1 hj with h1|rfl
  ·exact hI j y h1 hy
  ·rw[hx]at hy;cases hy;simpa using h) (λhI=>by
  show ae ((nV Pf) l _) _;rw[Fa,p9,oK,a7];have:decide (l.length<l.length)=false:=by simp
  rw[this,aC];refine ae.ret λ_ x hx=>?_;obtain⟨j,hj⟩:=jR hx;exact hI j x (cr.1 hj).1 hj) 0 (by omega) (λj x hj=>by omega)
 exact this
theorem ad1 {l:ag} (h:iQ l):(f107 Pf) l=some 0:=by
 rw[WR,xb];simp only[rQ,au,bN,ag.aH,aX.aH];have ne:∀{D:Type} {a:List D},a≠[]->((a.length:Int)==0)=false:=λ{D a} h=>by cases a;exact absurd rfl h;simp;omega
 rcases h with⟨h1|h1,h2,h3,h4,h5,h6⟩|⟨h1|h1,h2,h3,h4⟩|⟨h1|h1,h2,h3,h4,h5⟩|⟨h1,h2,h3,h4,h5⟩|⟨h1,h2,h3,h4,h5,h6⟩|⟨h1,h2,h3,h4,h5,h6⟩|⟨h1,h2,h3,h4,h5⟩<;>simp[*]
theorem acS {l:ag} (h: -1000000000<=l.Lo/\l.Lo<=l.Hi/\l.Hi<=1000000000):(f111 Pf) l=some 0:=by
 rw[WS,xc];simp only[rQ,au];obtain⟨h1,h2,h3⟩:=h;have e1:¬l.Lo>l.Hi:=by omega
 have e2:¬l.Lo< -1000000000:=by omega
 have e3:¬l.Lo>1000000000:=by omega
 have e4:¬l.Hi< -1000000000:=by omega
 have e5:¬l.Hi>1000000000:=by omega
 simp[e1,e2,e3,e4,e5]
theorem ad2 {l:ag} (h:mC l):(f161 Pf) l=some true:=by
 induction h with
 |one hk=>
  rw[K0,sW];rcases hk with hk|hk|hk<;>simp[hk]
 |lex hk hp _ _ i1 i2=>
  rw[K0,sW,ag.aH,hp];simp[hk,aj,i1,i2]
theorem acT {l:ag} (h:l.Kind=7->∃p,l.ai[0]? =some p/\mC p):(f112 Pf) l=some 0:=by
 rw[WT,xd];simp only[rQ,au];by_cases h7:l.Kind=7
 ·obtain⟨p,hp,hc⟩:=h h7;have e0:aj l.ai 0=some p:=hp;rw[e0];simp[h7,ad2 hc]
 ·have:(l.Kind==7)=false:=by simpa using h7
  rw[this];rfl
theorem ag0 (l:List Int) (hl:l.length<9223372036854775807) (h:∀x∈l,x=0):(f108 Pf) l=some 0:=by
 rw[WU,sX];have:=gE (L:=λi=>(nV Pf) l i) (P:=λr=>r=0) (len:=l.length) (λ_=>True) (λi hi hI k=>by
  show ae ((nV Pf) l i) _;obtain⟨x,hx⟩:=bo hi;rw[Fa,p9,oK,a7];have:decide (i<l.length)=true:=by simpa using hi
  rw[this,aB,bf hx,au,bW i (by omega)];have e:=h x (aV hx);refine ae.bif (λh=>?_) (λh=>k trivial);subst e;cases h) (λhI=>by
  show ae ((nV Pf) l _) _;rw[Fa,p9,oK,a7];have:decide (l.length<l.length)=false:=by simp
  rw[this,aC];exact ae.ret rfl) 0 (by omega) trivial
 exact ae.of this
def wB (names:List (List UInt8)) (r:aX):Prop:=r.If≠[]/\rising r.If=true/\(r.If.all λx=>names.any λy=>x==y)=true/\(names.any λy=>r.dY==y)=true
def Av (l:ag):Prop:=(∀s∈l.Names,dC s=true)/\(l.Kind≠6->rising l.Names=true)/\(l.Kind=6->∀(i:Nat) s,l.Names[i]? =some s->((l.Names.take i).any λy=>s==y)=false)/\∀r∈l.bO,wB l.Names r
mutual
def nj:ag->Nat
 |⟨_,_,_,_,ps,_⟩=>1+gV ps
def gV:List ag->Nat
 |[]=>0
 |p::ps=>nj p+gV ps
end
mutual
def mu:ag->Nat
 |⟨_,_,_,_,ps,_⟩=>1+ow ps
def ow:List ag->Nat
 |[]=>0
 |p::ps=>max (mu p) (ow ps)
end
theorem E7 (l:ag):nj l=1+gV l.ai:=by cases l;rw[nj]
theorem Aa (l:ag):mu l=1+ow l.ai:=by cases l;rw[mu]
theorem QR:∀{ps:List ag} {p:ag},p∈ps->nj p<=gV ps
 |q::ps,p,h=>by
  rw[gV];rcases cq.1 h with rfl|h
  ·omega
  ·have:=QR h;omega
theorem IA:∀{ps:List ag} {p:ag},p∈ps->mu p<=ow ps
 |q::ps,p,h=>by
  rw[ow];rcases cq.1 h with rfl|h
  ·omega
  ·have:=IA h;omega
theorem RY {n:Nat}:∀{ps:List ag},(∀p∈ps,mu p<=n)->ow ps<=n
 |[],_=>by rw[ow];omega
 |p::ps,h=>by
  rw[ow];have h1:=h p (by simp);have h2:=RY (ps:=ps) (n:=n) λq hq=>h q (by simp[hq]);omega
theorem P5 {ps:List ag}:∀{i:Nat} {p:ag},ps[i]? =some p->gV (ps.take (i+1))=gV (ps.take i)+nj p:=by
 induction ps with
 |nil=>intro i p h;simp at h
 |cons q ps ih=>
  intro i p h;cases i with
  |zero=>simp only[jP,aE]at h;subst h;simp[gV]
  |succ i=>
   simp only[nD]at h;have:=ih h;rw[xN,xN,gV,gV,this];omega
theorem aaM {ps:List ag} (i:Nat):gV (ps.take i)<=gV ps:=by
 induction ps generalizing i with
 |nil=>simp
 |cons q ps ih=>
  cases i with
  |zero=>simp[gV]
  |succ i=>rw[xN,gV,gV];have:=ih i;omega
inductive qP:ag->Prop
 |mk {l:ag}:iQ l->BN l->Av l->(-1000000000<=l.Lo/\l.Lo<=l.Hi/\l.Hi<=1000000000)->(l.Kind=7->∃p,l.ai[0]? =some p/\mC p)->(∀p∈l.ai,qP p)->qP l
structure cA (l:ag):Prop where
 i:qP l
 fS:nj l<=64
 dep:mu l<=6
theorem cA.part {l p:ag} (h:cA l) (hp:p∈l.ai):cA p:=by
 have h1:=h.fS;have h2:=h.dep;rw[E7]at h1;rw[Aa]at h2;have h3:=QR hp;have h4:=IA hp;exact⟨by have h:=h.i;cases h with|mk _ _ _ _ _ h=>exact h p hp,by omega,by omega⟩
theorem cA.shape {l:ag} (h:cA l):iQ l:=by have h:=h.i;cases h;assumption
theorem cA.KZ {l:ag} (h:cA l):BN l:=by have h:=h.i;cases h;assumption
theorem cA.names {l:ag} (h:cA l):Av l:=by have h:=h.i;cases h;assumption
theorem cA.range {l:ag} (h:cA l): -1000000000<=l.Lo/\l.Lo<=l.Hi/\l.Hi<=1000000000:=by have h:=h.i;cases h;assumption
theorem cA.chain {l:ag} (h:cA l):l.Kind=7->∃p,l.ai[0]? =some p/\mC p:=by have h:=h.i;cases h;assumption
theorem uM {D:Type} {l:List D} {i:Nat} (h:i<=l.length):cy l 0 (i:Int)=some (l.take i):=by
 have:cy l ((0:Nat):Int) (i:Int)=some (l.take i):=by
  show(bif Nat.ble 0 i&&Nat.ble i l.length then some ((l.take i).drop 0)else none)=_;rw[qZ (mG i),qZ h];rfl
 exact this
section
variable {B:Nat} (hB:B<1099511627776)
include hB
theorem QS {l:ag} (hl:l.ok B) (L:Int->Option Int) (hL:∀s,L s=(bif decide (s<(↑(aX.rows l.bO).length:Int))then((aj (l.bO) (s)).bind λx=>(bif (↑(aG x.If).length:Int)==0 then(some (3))else(((f126 Pf) (x.If)).bind λy=>(bif !y then(some (3))else(((f92 Pf) (x.If) (l.Names)).bind λz=>(bif !z then(some (3))else(((f140 Pf) (l.Names) (x.dY)).bind λu=>(bif !u then(some (3))else(L (IntKind.i64.wrap (s+1)))))))))))else(some (0)))):
  ae (L 0) (λr=>r=0->∀x∈l.bO,wB l.Names x):=by
 rw[ag.dK]at hl;obtain⟨_,_,_,⟨hn,_⟩,_,⟨hr,hrr⟩⟩:=hl;have h:=gE (L:=L) (P:=λr=>r=0->∀x∈l.bO,wB l.Names x) (len:=l.bO.length) (λi=>∀j x,j<i->l.bO[j]? =some x->wB l.Names x) (λi hi hI k=>by
  obtain⟨x,hx⟩:=bo hi;have hxo:=hrr x (aV hx);rw[hL,aX.aH,a7];have:decide (i<l.bO.length)=true:=by simpa using hi
  rw[this,aB,bf hx,au,bN,oM _ (by have:=hxo.1.1;omega),Em _ _ (by have:=hxo.1.1;omega) (by omega),has_eq _ _ (by omega),bW i (by omega)];simp only[au];refine ae.bif (λ_=>ae.ret λe=>by cases e) (λh1=>?_);refine ae.bif (λ_=>ae.ret λe=>by cases e) (λh2=>?_);refine ae.bif (λ_=>ae.ret λe=>by cases e) (λh3=>?_);refine ae.bif (λ_=>ae.ret λe=>by cases e) (λh4=>?_);refine k λj y hj hy=>?_;rcases pD.1 hj with h5|rfl
  ·exact hI j y h5 hy
  ·rw[hx]at hy;cases hy;refine⟨λe=>?_,by simpa using h2,by simpa only[OO]using h3,by simpa only[OO]using h4⟩;rw[e]at h1;simp at h1) (λhI=>by
  rw[hL,aX.aH,a7];have:decide (l.bO.length<l.bO.length)=false:=by simp
  rw[this,aC];refine ae.ret λ_ x hx=>?_;obtain⟨j,hj⟩:=jR hx;exact hI j x (cr.1 hj).1 hj) 0 (by omega) (λj x hj=>by omega)
 exact h
theorem aa1 {l:ag} (hl:l.ok B):ae ((f110 Pf) l) (λr=>r=0->Av l):=by
 rw[WQ,sV];have hl':=hl;rw[ag.dK]at hl;obtain⟨_,_,_,⟨hn,hnn⟩,_,⟨hr,hrr⟩⟩:=hl;have h:=gE (L:=λi=>(mQ Pf) l 0 i) (P:=λr=>r=0->Av l) (len:=l.Names.length) (λi=>(∀j s,j<i->l.Names[j]? =some s->dC s=true)/\(l.Kind=6->∀j s,j<i->l.Names[j]? =some s->((l.Names.take j).any λy=>s==y)=false)) (λi hi hI k=>by
  show ae ((mQ Pf) l 0 i) _;obtain⟨x,hx⟩:=bo hi;rw[E',p8,bN,a7];have:decide (i<l.Names.length)=true:=by simpa using hi
  have hxl:=hnn x (aV hx);rw[this,aB,bf hx,au,ma x (by omega),au,bW i (by omega),uM (by omega),au,contains_eq _ _ (by rw[iK];omega),au];refine ae.bif (λ_=>ae.ret λe=>by cases e) (λh1=>?_);have h1:dC x=true:=by simpa using h1
  have nv:∀j s,j<i+1->l.Names[j]? =some s->dC s=true:=λj s hj hs=>by
   rcases pD.1 hj with h5|rfl
   ·exact hI.1 j s h5 hs
   ·rw[hx]at hs;cases hs;exact h1
  refine ae.bif (λh6=>?_) (λh6=>k ⟨nv,λe=>by simp at h6;exact absurd e h6⟩);refine ae.bif (λ_=>ae.ret λe=>by cases e) (λh7=>k ⟨nv,λe j s hj hs=>?_⟩);rcases pD.1 hj with h5|rfl
  ·exact hI.2 e j s h5 hs
  ·rw[hx]at hs;cases hs;exact h7) (λhI=>by
  show ae ((mQ Pf) l 0 _) _;rw[E',p8,bN,a7];have:decide (l.Names.length<l.Names.length)=false:=by simp
  rw[this,aC];have nv:∀s∈l.Names,dC s=true:=λs hs=>by
   obtain⟨j,hj⟩:=jR hs;exact hI.1 j s (cr.1 hj).1 hj
  have di:l.Kind=6->∀(i:Nat) s,l.Names[i]? =some s->((l.Names.take i).any λy=>s==y)=false:=λe i s hs=>hI.2 e i s (cr.1 hs).1 hs;rw[oM _ (by omega)];refine ae.bif (λh6=>?_) (λh6=>?_)
  ·rw[au];refine ae.bif (λ_=>ae.ret λe=>by cases e) (λh8=>?_);exact(QS hB hl' _ (λs=>Tv l s)).mono λr h e=>⟨nv,λ_=>by simpa using h8,di,h e⟩
  ·exact(QS hB hl' _ (λs=>Tw l s)).mono λr h e=>⟨nv,λh9=>by simp at h6;exact absurd h6 h9,di,h e⟩) 0 (by omega) ⟨λj s hj=>by omega,λ_ j s hj=>by omega⟩
 exact h
theorem QT:∀(n:Nat) (c:dU) (l:ag) (d:Int),l.ok B->0<=c.nodes->c.nodes<=64->(6-d+1).toNat<=n->d<=7->0<=d->ae ((f67 Pf) c l d) (λr=>0<=r.2.nodes/\r.2.nodes<=64/\(r.1=0->qP l/\r.2.nodes=c.nodes+nj l/\d+mu l<=7))
 |n,c,l,d,hl,h0,h1,hn,hd,hd0=>by
  rw[Y5,xB];refine ae.bif (λ_=>ae.ret ⟨h0,h1,λe=>by cases e⟩) (λh6=>?_);have h6:d<=6:=by simp at h6;omega
  match n,hn with
  |0,hn=>omega
  |n+1,hn=>
  refine ae.bif (λ_=>ae.ret ⟨h0,h1,λe=>by cases e⟩) (λh64=>?_);have h64:c.nodes<64:=by simp at h64;omega
  have hw:IntKind.i64.wrap (c.nodes+1)=c.nodes+1:=wrap64 (by omega) (by omega);have hwd:IntKind.i64.wrap (d+1)=d+1:=wrap64 (by omega) (by omega);rw[hw];refine ae.bind (acR l) (λy3 hs=>?_);refine ae.bif (λhne=>ae.ret ⟨by simp;omega,by simp;omega,λe=>by simp at hne;exact absurd e hne⟩) (λh3=>?_);have hs:=hs (by simpa using h3);refine ae.bind (P6 l) (λy5 hli=>?_);refine ae.bind (aa1 hB hl) (λy6 hsp=>?_);refine ae.bind (ab1 l) (λy7 hra=>?_);refine ae.bind (ab2 l hs) (λy8 hch=>?_);refine ae.bind (agn _ (by simp)) (λy9 hor=>?_);refine ae.bif (λhne=>ae.ret ⟨by simp;omega,by simp;omega,λe=>by simp at hne;exact absurd e hne⟩) (λh9=>?_);have hor:=hor (by simpa using h9);have e5:y5=0:=hor y5 (by simp);have e6:y6=0:=hor y6 (by simp);have e7:y7=0:=hor y7 (by simp);have e8:y8=0:=hor y8 (by simp);have hl':=hl;rw[ag.dK]at hl';obtain⟨_,_,_,_,⟨hpl,hp⟩,_⟩:=hl';have h:=eo (L:=λi b=>(od Pf) l d i b) (P:=λr=>0<=r.2.nodes/\r.2.nodes<=64/\(r.1=0->qP l/\r.2.nodes=c.nodes+nj l/\d+mu l<=7)) (len:=l.ai.length) (λi b=>0<=b.nodes/\b.nodes<=64/\b.nodes=c.nodes+1+gV (l.ai.take i)/\∀j p,j<i->l.ai[j]? =some p->qP p/\d+1+mu p<=7) (λi b hi hI k=>by
   show ae ((od Pf) l d i b) _;obtain⟨x,hx⟩:=bo hi;rw[FG,qv,ag.aH,a7];have:decide (i<l.ai.length)=true:=by simpa using hi
   rw[this,aB,bf hx,au,bW i (by omega),hwd];refine ae.bind (QT n b x (d+1) (ag.gH hp (aV hx)) hI.1 hI.2.1 (by omega) (by omega) (by omega)) (λy hy=>?_);refine ae.bif (λhne=>ae.ret ⟨hy.1,hy.2.1,λe=>by simp at hne;exact absurd e hne⟩) (λhz=>?_);have hy3:=hy.2.2 (by simpa using hz);refine k _ ⟨hy.1,hy.2.1,by rw[P5 hx];have:=hI.2.2.1;omega,λj p hj hp'=>?_⟩;rcases pD.1 hj with h5|rfl
   ·exact hI.2.2.2 j p h5 hp'
   ·rw[hx]at hp';cases hp';exact⟨hy3.1,hy3.2.2⟩) (λb hI=>by
   show ae ((od Pf) l d _ b) _;rw[FG,qv,ag.aH,a7];have:decide (l.ai.length<l.ai.length)=false:=by simp
   rw[this,aC];have all:∀p∈l.ai,qP p/\d+1+mu p<=7:=λp hp'=>by
    obtain⟨j,hj⟩:=jR hp';exact hI.2.2.2 j p (cr.1 hj).1 hj
   refine ae.ret ⟨hI.1,hI.2.1,λ_=>⟨.mk hs (hli.1 e5) (hsp e6) (hra e7) (hch e8) λp hp'=>(all p hp').1,?_,?_⟩⟩
   ·show b.nodes=_;rw[E7];have:=hI.2.2.1;rw[eV]at this;omega
   ·rw[Aa];have:ow l.ai<=(6-d).toNat:=RY λp hp'=>by have:=(all p hp').2;omega
    omega) 0 {nodes:=c.nodes+1} (by omega) ⟨by simp;omega,by simp;omega,by simp[gV],λj p hj=>by omega⟩
  exact h
theorem RZ {l:ag} (hl:l.ok B) (h:∀r∈l.bO,wB l.Names r) (L:Int->Option Int) (hL:∀s,L s=(bif decide (s<(↑(aX.rows l.bO).length:Int))then((aj (l.bO) (s)).bind λx=>(bif (↑(aG x.If).length:Int)==0 then(some (3))else(((f126 Pf) (x.If)).bind λy=>(bif !y then(some (3))else(((f92 Pf) (x.If) (l.Names)).bind λz=>(bif !z then(some (3))else(((f140 Pf) (l.Names) (x.dY)).bind λu=>(bif !u then(some (3))else(L (IntKind.i64.wrap (s+1)))))))))))else(some (0)))):L 0=some 0:=by
 rw[ag.dK]at hl;obtain⟨_,_,_,⟨hn,_⟩,_,⟨hr,hrr⟩⟩:=hl;refine ae.of (gE (L:=L) (P:=λr=>r=0) (len:=l.bO.length) (λ_=>True) (λi hi _ k=>?_) (λ_=>?_) 0 (by omega) trivial)
 ·obtain⟨x,hx⟩:=bo hi;have hm:=aV hx;have hxo:=hrr x hm;obtain⟨r1,r2,r3,r4⟩:=h x hm;rw[hL,aX.aH,a7];have:decide (i<l.bO.length)=true:=by simpa using hi
  have e1:((x.If.length:Int)==0)=false:=by cases hf:x.If;exact absurd hf r1;simp;omega
  rw[this,aB,bf hx,au,bN,oM _ (by have:=hxo.1.1;omega),Em _ _ (by have:=hxo.1.1;omega) (by omega),has_eq _ _ (by omega),bW i (by omega),e1,r2,r3,r4];exact k trivial
 ·rw[hL,aX.aH,a7];have:decide (l.bO.length<l.bO.length)=false:=by simp
  rw[this,aC];exact ae.ret rfl
theorem abn {l:ag} (hl:l.ok B) (h:Av l):(f110 Pf) l=some 0:=by
 rw[WQ,sV];have hl':=hl;rw[ag.dK]at hl;obtain⟨_,_,_,⟨hn,hnn⟩,_,⟨hr,hrr⟩⟩:=hl;obtain⟨n1,n2,n3,n4⟩:=h;refine ae.of (gE (L:=λi=>(mQ Pf) l 0 i) (P:=λr=>r=0) (len:=l.Names.length) (λ_=>True) (λi hi _ k=>?_) (λ_=>?_) 0 (by omega) trivial)
 ·show ae ((mQ Pf) l 0 i) _;obtain⟨x,hx⟩:=bo hi;have hm:=aV hx;rw[E',p8,bN,a7];have:decide (i<l.Names.length)=true:=by simpa using hi
  have hxl:=hnn x hm;rw[this,aB,bf hx,au,ma x (by omega),au,bW i (by omega),uM (by omega),au,contains_eq _ _ (by rw[iK];omega),au,n1 x hm];refine ae.bif (λe=>by cases e) (λ_=>?_);refine ae.bif (λh6=>?_) (λ_=>k trivial);rw[n3 (by simpa using h6) i x hx];exact k trivial
 ·show ae ((mQ Pf) l 0 _) _;rw[E',p8,bN,a7];have:decide (l.Names.length<l.Names.length)=false:=by simp
  rw[this,aC,oM _ (by omega)];refine ae.bif (λh6=>?_) (λh6=>?_)
  ·rw[au,n2 (by simpa using h6)];exact ae.eq (RZ hB hl' n4 _ (λs=>Tv l s))
  ·exact ae.eq (RZ hB hl' n4 _ (λs=>Tw l s))
theorem R1:∀(n:Nat) (c:dU) (l:ag) (d:Int),qP l->l.ok B->0<=c.nodes->c.nodes+nj l<=64->mu l<=n->d+mu l<=7->0<=d->(f67 Pf) c l d=some (0,{nodes:=c.nodes+nj l})
 |0,c,l,d,h,hl,h0,h1,hn,hd,hd0=>by rw[Aa]at hn;omega
 |n+1,c,l,d,h,hl,h0,h1,hn,hd,hd0=>by
  rw[Y5,xB];have hdd:=Aa l;have hcc:=E7 l;have e1:decide (d>6)=false:=by simp;omega
  have e2:decide (c.nodes>=64)=false:=by simp;omega
  have hw:IntKind.i64.wrap (c.nodes+1)=c.nodes+1:=wrap64 (by omega) (by omega);have hwd:IntKind.i64.wrap (d+1)=d+1:=wrap64 (by omega) (by omega);cases h with
  |mk hs hli hsp hra hch hpp=>
  obtain⟨y5,e5,h5⟩:=P6 l;rw[h5.2 hli]at e5;rw[hw,e1,e2,ad1 hs,e5,abn hB hl hsp,acS hra,acT hch];simp only[aC,au,ag0 [0,0,0,0] (by simp) (by simp)];have hl':=hl;rw[ag.dK]at hl';obtain⟨_,_,_,_,⟨hpl,hp⟩,_⟩:=hl';have h:=eo (L:=λi b=>(od Pf) l d i b) (P:=λr=>r=(0,{nodes:=c.nodes+nj l})) (len:=l.ai.length) (λi b=>b.nodes=c.nodes+1+gV (l.ai.take i)) (λi b hi hI k=>by
   show ae ((od Pf) l d i b) _;obtain⟨x,hx⟩:=bo hi;have hm:=aV hx;rw[FG,qv,ag.aH,a7];have:decide (i<l.ai.length)=true:=by simpa using hi
   have t1:=P5 hx;have t2:=aaM (ps:=l.ai) (i+1);have t3:=IA hm;rw[this,aB,bf hx,au,bW i (by omega),hwd,R1 n b x (d+1) (hpp x hm) (ag.gH hp hm) (by omega) (by omega) (by omega) (by omega) (by omega),au];exact k _ (by simp only;rw[hI,t1];omega)) (λb hI=>by
   show ae ((od Pf) l d _ b) _;rw[FG,qv,ag.aH,a7];have:decide (l.ai.length<l.ai.length)=false:=by simp
   rw[this,aC];rw[eV]at hI;refine ae.ret ?_;cases b with|mk bn=>simp only at hI⊢;rw[hI,hcc];simp;omega) 0 {nodes:=c.nodes+1} (by omega) (by simp[gV])
  exact ae.of h
theorem QU {l:ag} (hl:l.ok B):ae ((f31 Pf) l) (λr=>r=0->cA l):=by
 rw[Y6,xC];exact ae.bind (QT hB 7 _ l 1 hl (by simp) (by simp) (by decide) (by decide) (by decide)) (λy hy=>ae.ret λe=>by
  obtain⟨h1,h2,h3⟩:=hy.2.2 e;have h4:=hy.2.1;exact⟨h1,by simp at h2;omega,by omega⟩)
theorem EF {l:ag} (hl:l.ok B) (h:cA l):(f31 Pf) l=some 0:=by
 rw[Y6,xC,R1 hB 7 _ l 1 h.i hl (by simp) (by have:=h.fS;simp;omega) (by have:=h.dep;omega) (by have:=h.dep;omega) (by decide)];rfl
theorem acL {l:ag} (hl:l.ok B):ae ((f31 Pf) l) (λr=>r=0↔cA l):=by
 obtain⟨r,e,h⟩:=QU hB hl;exact⟨r,e,h,λg=>by rw[EF hB hl g]at e;cases e;rfl⟩
end
end Go.Proofs.YtnocmolegijmkaaGreat
end

section
namespace Go.Proofs.YtnocmolegijmkaaGreat
open Go Go.Bw
theorem uv {i:Nat} (h:i<9223372036854775807):IntKind.i64.wrap ((i:Int)+1)=((i+1:Nat):Int):=bW i h
theorem ag.ind {P:ag->Prop} (h:∀x:ag,(∀k∈x.ai,P k)->P x):∀x,P x:=by
 intro x;refine ag.rec (motive_1:=P) (motive_2:=λks=>∀k∈ks,P k) ?_ ?_ ?_ x
 ·intro k lo hi ns ps rs ih;exact h ⟨k,lo,hi,ns,ps,rs⟩ ih
 ·intro k hk;cases hk
 ·intro k ks h1 h2 x hx;rcases cq.1 hx with rfl|hx
  ·exact h1
  ·exact h2 x hx
def ni (a b:aX):Bool:=a.dY==b.dY&&a.If==b.If
mutual
def ph:ag->ag->Bool
 |⟨k,lo,hi,ns,ps,rs⟩,⟨k',lo',hi',ns',ps',rs'⟩=>k==k'&&(lo==lo'&&(hi==hi'&&(ns==ns'&&((rs.length==rs'.length&&(rs.zip rs').all (λq=>ni q.1 q.2))&&lP ps ps'))))
def lP:List ag->List ag->Bool
 |[],[]=>true
 |x::r,y::s=>ph x y&&lP r s
 |_,_=>false
end
theorem QO:∀{a b:List ag},a.length=b.length->lP a b=(a.zip b).all (λq=>ph q.1 q.2)
 |[],[],_=>rfl
 |x::a,y::b,h=>by rw[lP,DL,lx,QO (by simpa using h)]
 |[],_::_,h=>by simp at h
 |_::_,[],h=>by simp at h
theorem QP:∀{a b:List ag},a.length≠b.length->lP a b=false
 |[],[],h=>absurd rfl h
 |x::a,y::b,h=>by rw[lP,QP (by simpa using h),Bool.and_false]
 |[],_::_,_=>rfl
 |_::_,[],_=>rfl
variable {B:Nat} (hB:B<=1048576)
section
include hB
theorem ab0 {f:List (List UInt8)->List (List UInt8)->Option Bool} {L:List (List UInt8)->List (List UInt8)->Int->Option Bool} (hf:∀a b,f a b=(bif (↑(aG a).length:Int) !=(↑(aG b).length:Int)then(some (false))else L a b 0))
  (hL:∀a b s,L a b s=(bif decide (s<(↑(aG a).length:Int))then((aj (a) (s)).bind λx=>((aj (b) (s)).bind λy=>(bif !(x==y)then(some (false))else(L a b (IntKind.i64.wrap (s+1))))))else(some (true))))
  {a b:List (List UInt8)} (ha:a.length<=B):f a b=some (a==b):=by
 rw[hf];simp only[bN];by_cases hl:a.length=b.length
 ·have h0:((a.length:Int) !=(b.length:Int))=false:=by simp[hl]
  rw[h0];show L a b 0=_;rw[zG (a:=a) (b:=b) (L:=L a b) (λx y=>x==y) true hl ?_ ?_,q8,agk hl]
  ·intro i x y hx hy hi;rw[hL,bN,uv (by omega)];have h1:decide ((i:Int)<(a.length:Int))=true:=by simpa using hi
   rw[h1,bf hx,bf hy];show(bif !(x==y)then _ else _)=_;cases (x==y)<;>rfl
  ·rw[hL,bN];simp
 ·have h0:((a.length:Int) !=(b.length:Int))=true:=by simp;omega
  rw[h0];have:(a==b)=false:=by
   cases h:a==b with
   |false=>rfl
   |true=>exact absurd (congrArg List.length (eq_of_beq h)) hl
  rw[this];rfl
theorem Y4 {a b:List (List UInt8)} (ha:a.length<=B):(f168 Pf) a b=some (a==b):=ab0 hB ajD afq ha
theorem p95 {a b:aX} (ha:a.ok B):(f170 Pf) a b=some (ni a b):=by
 rw[ajE,BT,Y4 hB ha.1.1,ni];cases a.dY==b.dY<;>rfl
theorem p94 {a b:List aX} (hl:a.length<=B) (ha:∀x∈a,x.ok B):(EM Pf) a b=some (a.length==b.length&&(a.zip b).all (λq=>ni q.1 q.2)):=by
 rw[adY,zH];simp only[aX.aH];by_cases h:a.length=b.length
 ·have h0:((a.length:Int) !=(b.length:Int))=false:=by simp[h]
  rw[h0];show(tM Pf) a b 0=_;rw[zG (a:=a) (b:=b) (L:=(tM Pf) a b) ni true h ?_ ?_]
  ·simp[h]
  ·intro i x y hx hy hi;rw[Po,tN,aX.aH,uv (by omega)];have h1:decide ((i:Int)<(a.length:Int))=true:=by simpa using hi
   rw[h1,bf hx,bf hy];show(((f170 Pf) x y).bind _)=_;rw[p95 hB (ha x (aV hx))];show(bif !(ni x y)then _ else _)=_;cases ni x y<;>rfl
  ·rw[Po,tN,aX.aH];simp
 ·have h0:((a.length:Int) !=(b.length:Int))=true:=by simp;omega
  rw[h0];simp[h]
theorem p51:∀a b:ag,a.ok B->(f120 Pf) a b=some (ph a b):=by
 refine ag.ind ?_;intro a ih b ha;rw[ag.dK]at ha;obtain⟨_,_,_,hn,hp,hr⟩:=ha;rw[ajF,BU,Y4 hB hn.1,p94 hB hr.1 hr.2];have h96:(EN Pf) a.ai b.ai=some (lP a.ai b.ai):=by
  rw[adZ,zI];simp only[ag.aH];by_cases h:a.ai.length=b.ai.length
  ·have h0:((a.ai.length:Int) !=(b.ai.length:Int))=false:=by simp[h]
   rw[h0];show(tO Pf) a.ai b.ai 0=_;rw[zG (a:=a.ai) (b:=b.ai) (L:=(tO Pf) a.ai b.ai) ph true h ?_ ?_]
   ·rw[QO h,q8]
   ·intro i x y hx hy hi;rw[Pp,tP,ag.aH,uv (by omega)];have h1:decide ((i:Int)<(a.ai.length:Int))=true:=by simpa using hi
    have hx':=aV hx;rw[h1,bf hx,bf hy];show(((f120 Pf) x y).bind _)=_;rw[ih x hx' y (ag.gH hp.2 hx')];show(bif !(ph x y)then _ else _)=_;cases ph x y<;>rfl
   ·rw[Pp,tP,ag.aH];simp
  ·have h0:((a.ai.length:Int) !=(b.ai.length:Int))=true:=by simp;omega
   rw[h0,QP h];rfl
 rw[h96];obtain⟨k,lo,hi,ns,ps,rs⟩:=a;obtain⟨k',lo',hi',ns',ps',rs'⟩:=b;simp only[ph];generalize (k==k')=c1;generalize (lo==lo')=c2;generalize (hi==hi')=c3;generalize (ns==ns')=c4;generalize (rs.length==rs'.length&&(rs.zip rs').all λq=>ni q.1 q.2)=c5;generalize lP ps ps'=c6;cases c1<;>cases c2<;>cases c3<;>cases c4<;>cases c5<;>cases c6<;>rfl
end
theorem ad0 {a b:aX}:ni a b=true↔a=b:=by
 cases a;cases b;simp[ni,and_comm]
theorem RX:∀{a b:List aX},(a.length==b.length&&(a.zip b).all (λq=>ni q.1 q.2))=true↔a=b
 |[],[]=>by simp
 |[],_::_=>by simp
 |_::_,[]=>by simp
 |x::a,y::b=>by
  have:=RX (a:=a) (b:=b);simp only[bS,beq_iff_eq]at this;simp only[gP,DL,lx,bS,beq_iff_eq,kn,ad0];constructor
  ·rintro ⟨h1,h2,h3⟩;exact⟨h2,this.1 ⟨by omega,h3⟩⟩
  ·rintro ⟨rfl,rfl⟩;exact⟨rfl,rfl,(this.2 rfl).2⟩
mutual
theorem RW:∀{a b:ag},ph a b=true↔a=b
 |⟨k,lo,hi,ns,ps,rs⟩,⟨k',lo',hi',ns',ps',rs'⟩=>by
  rw[ph];have h1:=QQ (a:=ps) (b:=ps');have h2:=RX (a:=rs) (b:=rs');rw[bS,bS,bS,bS,bS,h1,h2];simp only[beq_iff_eq,ag.mk.injEq];constructor
  ·rintro ⟨a,b,c,d,e,f⟩;exact⟨a,b,c,d,f,e⟩
  ·rintro ⟨a,b,c,d,e,f⟩;exact⟨a,b,c,d,f,e⟩
theorem QQ:∀{a b:List ag},lP a b=true↔a=b
 |[],[]=>by simp[lP]
 |[],_::_=>by simp[lP]
 |_::_,[]=>by simp[lP]
 |x::a,y::b=>by rw[lP,bS,RW,QQ,kn]
end
end Go.Proofs.YtnocmolegijmkaaGreat
end

section
namespace Go.Proofs.YtnocmolegijmkaaGreat
open Go Go.Bw
theorem I7 {D:Type}:∀{l:List D} {i:Nat} {x:D},l[i]? =some x->l.set i x=l
 |y::l,0,x,h=>by simp only[jP,aE]at h;subst h;rfl
 |y::l,i+1,x,h=>by rw[q7,I7 (by simpa using h)]
theorem nM {D:Type} {l:List D} (h:l.length<=274877906944):(bif decide ((([]:List D)++l).length<=274877906944)then some ([]++l)else none)=some l:=by
 have:decide ((([]:List D)++l).length<=274877906944)=true:=by simpa using h
 rw[this];rfl
variable {B:Nat} (hB:B<=1048576)
section
include hB
theorem QN {a:List (List UInt8)} (h:a.length<=B):(f129 Pf) a=some a:=by
 rw[Gc,BP];exact nM (by omega)
theorem QM:∀l:ag,l.ok B->(f117 Pf) l=some l:=by
 refine ag.ind λl ih hl=>?_;rw[ag.dK]at hl;obtain⟨_,_,_,⟨hn,_⟩,⟨hp,hpp⟩,⟨hr,hrr⟩⟩:=hl;have h2:∀k i:Nat,k=l.ai.length-i->i<=l.ai.length->(Ab Pf) l l.Names l.ai (i:Int) l.ai l.bO=some l:=by
  intro k
  induction k with
  |zero=>
   intro i hk hi;have:i=l.ai.length:=by omega
   subst this;rw[Tt,vj,ag.aH,a7];have:decide (l.ai.length<l.ai.length)=false:=by simp
   rw[this,aC];cases l;rfl
  |succ k ihk=>
   intro i hk hi;have hi':i<l.ai.length:=by omega
   obtain⟨x,hx⟩:=bo hi';rw[Tt,vj,ag.aH,a7];have:decide (i<l.ai.length)=true:=by simpa using hi'
   have hm:=aV hx;rw[this,aB,bf hx];simp only[au];rw[ih x hm (ag.gH hpp hm)];simp only[au];rw[bW i (by omega),mH,I7 hx];exact ihk (i+1) (by omega) (by omega)
 have h1:∀k i:Nat,k=l.bO.length-i->i<=l.bO.length->(Ac Pf) l l.Names l.bO (i:Int) l.bO=some l:=by
  intro k
  induction k with
  |zero=>
   intro i hk hi;have:i=l.bO.length:=by omega
   subst this;rw[Tu,vk,aX.aH,a7];have:decide (l.bO.length<l.bO.length)=false:=by simp
   rw[this,aC,agY,AM,nM (by omega),au];exact h2 _ 0 rfl (by omega)
  |succ k ihk=>
   intro i hk hi;have hi':i<l.bO.length:=by omega
   obtain⟨x,hx⟩:=bo hi';rw[Tu,vk,aX.aH,a7];have:decide (i<l.bO.length)=true:=by simpa using hi'
   have hm:=aV hx;rw[this,aB,bf hx];simp only[au];rw[QN hB (hrr x hm).1.1];simp only[au];rw[bW i (by omega),mH,I7 hx];exact ihk (i+1) (by omega) (by omega)
 rw[ajB,BR,QN hB hn,au,agZ,AN,nM (by omega),au];exact h1 _ 0 rfl (by omega)
theorem I6 {a b:aQ} (ha:a.aD.ok B):ae ((f81 Pf) a b) (λr=>r=true↔a=b):=by
 rw[e81,C4];cases a with|mk s l=>cases b with|mk s' l'=>
 refine ae.bif (λh=>?_) (λh=>ae.ret ⟨λe=>(by cases e),λe=>?_⟩)
 ·rw[p51 hB _ _ ha,au];refine ae.ret ?_;have h:s=s':=by simpa using h
  rw[RW,h];simp
 ·cases e;simp at h
end
theorem E6 (t:aQ):(f118 Pf) t=some (isNone t):=by
 rw[ajC,BS,isNone];cases t.a6==0<;>rfl
theorem jx (n:Int):(f80 Pf) n=some (br n):=e80 n
theorem of_eq (l:ag):(f79 Pf) l=some (cX l):=e79 l
theorem afo (l:ag) (f:cw):(f35 Pf) l f=some (bif f.Result==0 then cX l else br f.Result):=by
 rw[e35,C6,of_eq,jx];cases f.Result==0<;>rfl
def F2 (f:cw):Prop:=dC f.Name=true/\dC f.On=true/\f.Params.length<=8/\0<=f.Result/\f.Result<=4/\
 ∀(i:Nat) p,f.Params[i]? =some p->dC p.Name=true/\1<=p.a6/\p.a6<=4/\∀(j:Nat) q,j<i->f.Params[j]? =some q->q.Name≠p.Name
theorem agm (a:List TParam) (p:TParam) (ha:a.length<9223372036854775807):(E9 Pf) a p=some (a.any λq:TParam=>q.Name==p.Name):=by
 rw[afp,Ad];have:(EL Pf) a p=some (idxOf (λq:TParam=>q.Name==p.Name) a 0):=by
  rw[adX,uz];refine zr (λq:TParam=>q.Name==p.Name) (λi y hy hi=>?_) ?_
  ·rw[Pn,tK,TParam.aH,a7];have:decide (i<a.length)=true:=by simpa using hi
   rw[this,aB,bf hy,au,e70,C',au,bW i (by omega)]
  ·rw[Pn,tK,TParam.aH,a7];have:decide (a.length<a.length)=false:=by simp
   rw[this];rfl
 rw[this,au,HY]
theorem abZ {f:cw} (h1:f.Name.length<1048577) (h2:f.On.length<1048577) (h3:∀p∈f.Params,p.Name.length<1048577):ae ((f32 Pf) f) (λr=>r=true->F2 f):=by
 rw[e32,Da,ma _ (by omega),ma _ (by omega),TParam.aH];simp only[au];refine ae.bif (λ_=>ae.ret λe=>by cases e) (λg1=>?_);refine ae.bif (λ_=>ae.ret λe=>by cases e) (λg2=>?_);refine ae.bif (λ_=>ae.ret λe=>by cases e) (λg3=>?_);refine ae.bif (λ_=>ae.ret λe=>by cases e) (λg4=>?_);refine ae.bif (λ_=>ae.ret λe=>by cases e) (λg5=>?_);have g3:f.Params.length<=8:=by simp at g3;omega
 have h:=gE (L:=λi=>(sf Pf) f i) (P:=λr=>r=true->F2 f) (len:=f.Params.length) (λi=>∀(k:Nat) p,k<i->f.Params[k]? =some p->dC p.Name=true/\1<=p.a6/\p.a6<=4/\∀(j:Nat) q,j<k->f.Params[j]? =some q->q.Name≠p.Name) (λi hi hI k=>by
  show ae ((sf Pf) f i) _;obtain⟨x,hx⟩:=bo hi;rw[Vg,vR,TParam.aH,a7];have:decide (i<f.Params.length)=true:=by simpa using hi
  rw[this,aB,bf hx,au,ma _ (by have:=h3 x (aV hx);omega),au,uM (by omega),au,agm _ _ (by rw[iK];omega),au,bW i (by omega)];refine ae.bif (λ_=>ae.ret λe=>by cases e) (λk1=>?_);refine ae.bif (λ_=>ae.ret λe=>by cases e) (λk2=>?_);refine ae.bif (λ_=>ae.ret λe=>by cases e) (λk3=>?_);refine ae.bif (λ_=>ae.ret λe=>by cases e) (λk4=>k λm p hm hp=>?_);rcases pD.1 hm with h5|rfl
  ·exact hI m p h5 hp
  ·rw[hx]at hp;cases hp;refine⟨by simpa using k1,by simp at k2;omega,by simp at k3;omega,λj q hj hq e=>?_⟩;rw[aau]at k4;exact k4 q (aV (i:=j) (by rw[OL hj];exact hq)) (by simpa using e)) (λhI=>by
  show ae ((sf Pf) f _) _;rw[Vg,vR,TParam.aH,a7];have:decide (f.Params.length<f.Params.length)=false:=by simp
  rw[this,aC];exact ae.ret λ_=>⟨by simpa using g1,by simpa using g2,g3,by simp at g4;omega,by simp at g5;omega,λi p hp=>hI i p (cr.1 hp).1 hp⟩) 0 (by omega) (λk p hk=>by omega)
 exact h
