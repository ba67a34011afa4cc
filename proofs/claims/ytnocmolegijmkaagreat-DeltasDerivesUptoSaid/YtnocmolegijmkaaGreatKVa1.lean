/- What the small functions under types.Valid answer: names, lists, loops. -/
import Derived.Test.YtnocmolegijmkaaGreatKPl
import Derived.Test.YtnocmolegijmkaaGreatKGA3
import Derived.Test.YtnocmolegijmkaaGreatKGk
set_option linter.all false
section
namespace Go.Proofs.YtnocmolegijmkaaGreat
open Go Go.Bw
theorem BS {D:Type} {a:List D} {L:Int->Option Bool} (p:D->Bool) (e:Bool) (hs:∀(i:Nat) x,a[i]? =some x->i<a.length->L (i:Int)=bif p x then L ((i+1:Nat):Int)else some false) (he:L (a.length:Int)=some e):
  L 0=some (a.all p&&e):=by
 have key:∀k i:Nat,k=a.length-i->i<=a.length->L (i:Int)=some ((a.drop i).all p&&e):=by
  intro k
  induction k with
  |zero=>
   intro i hk hi;have:i=a.length:=by omega
   subst this;rw[he];simp
  |succ k ih=>
   intro i hk hi;have hi':i<a.length:=by omega
   obtain⟨x,hx⟩:=bg hi';rw[hs i x hx hi',mX hx,kx];cases p x with
   |false=>rfl
   |true=>simpa using ih (i+1) (by omega) (by omega)
 simpa using key a.length 0 (by omega) (by omega)
def idxOf {D:Type} (p:D->Bool):List D->Int->Int
 |[],_=> -1
 |x::r,i=>bif p x then i else idxOf p r (i+1)
theorem Bi {D:Type} {a:List D} {L:Int->Option Int} (p:D->Bool) (hs:∀(i:Nat) x,a[i]? =some x->i<a.length->L (i:Int)=bif p x then some (i:Int)else L ((i+1:Nat):Int)) (he:L (a.length:Int)=some (-1)):
  L 0=some (idxOf p a 0):=by
 have key:∀k i:Nat,k=a.length-i->i<=a.length->L (i:Int)=some (idxOf p (a.drop i) i):=by
  intro k
  induction k with
  |zero=>
   intro i hk hi;have:i=a.length:=by omega
   subst this;rw[he];simp[idxOf]
  |succ k ih=>
   intro i hk hi;have hi':i<a.length:=by omega
   obtain⟨x,hx⟩:=bg hi';rw[hs i x hx hi',mX hx,idxOf];cases p x with
   |true=>rfl
   |false=>simpa using ih (i+1) (by omega) (by omega)
 simpa using key a.length 0 (by omega) (by omega)
theorem qC {D:Type} (p:D->Bool):∀(a:List D) (j:Nat),(idxOf p a j= -1/\∀x∈a,p x=false)\/∃(i:Nat) (x:D),idxOf p a j=((j+i:Nat):Int)/\a[i]? =some x/\p x=true/\∀k y,k<i->a[k]? =some y->p y=false
 |[],j=> .inl ⟨rfl,by simp⟩
 |x::r,j=>by
  rw[idxOf];cases hp:p x with
  |true=>exact .inr ⟨0,x,by simp,by simp,hp,λk y hk=>by omega⟩
  |false=>
   have h:=qC p r (j+1);simp only[a6];have e:((j:Nat):Int)+1=((j+1:Nat):Int):=by omega
   rw[e];rcases h with⟨h1,h2⟩|⟨i,y,h1,h2,h3,h4⟩
   ·refine .inl ⟨h1,λz hz=>?_⟩;rcases cu.1 hz with rfl|hz
    ·exact hp
    ·exact h2 z hz
   ·refine .inr ⟨i+1,y,by rw[h1];congr 1;omega,by simpa using h2,h3,λk z hk hz=>?_⟩;cases k with
    |zero=>simp only[mO,aE]at hz;subst hz;exact hp
    |succ k=>exact h4 k z (by omega) (by simpa using hz)
theorem D3 {D:Type} {p:D->Bool} {a:List D}:decide (idxOf p a 0>=0)=a.any p:=by
 rcases qC p a 0 with⟨h1,h2⟩|⟨i,x,h1,h2,h3,_⟩
 ·have e:idxOf p a 0= -1:=h1;rw[e];have:a.any p=false:=by
   rw[vO];intro x hx;simp[h2 x hx]
  rw[this];rfl
 ·have e:idxOf p a 0=((0+i:Nat):Int):=h1;rw[e];have:a.any p=true:=ln.2 ⟨x,bh h2,h3⟩;rw[this];simp
theorem Xa (c:UInt8):(CD Pu) (c.toNat:Int)=some (jD c):=by
 rw[abO,xK];unfold jD;have h0:∀n:Nat,(decide ((97:Int)<=(n:Int))=decide (97<=n))/\(decide ((n:Int)<=122)=decide (n<=122))/\(decide ((48:Int)<=(n:Int))=decide (48<=n))/\(decide ((n:Int)<=57)=decide (n<=57))/\(((n:Int)==45)=(n==45)):=λn=>by
  refine⟨?_,?_,?_,?_,?_⟩<;>(rw[iP];simp only[pd,beq_iff_eq];omega)
 obtain⟨h1,h2,h3,h4,h5⟩:=h0 c.toNat;rw[h1,h2,h3,h4,h5];cases decide (97<=c.toNat)<;>cases decide (c.toNat<=122)<;>cases decide (48<=c.toNat)<;>cases decide (c.toNat<=57)<;>rfl
def eR (s:List UInt8):Bool:=match s with
 |[]=>false
 |c::_=>decide (s.length<=16)&&decide (97<=c.toNat)&&decide (c.toNat<=122)&&s.all jD
theorem BR {s:List UInt8}:eR s=true↔NV s:=by
 cases s with
 |nil=>simp[eR,NV]
 |cons c r=>simp[eR,NV,and_assoc]
theorem mY (s:List UInt8) (hs:s.length<9223372036854775807):(oS Pu) s=some (eR s):=by
 rw[e68,zr];cases s with
 |nil=>rfl
 |cons c r=>
  have e0:((((c::r).length:Nat):Int)==0)=false:=by simp;omega
  rw[e0,a6];have hL:(xe Pu) (c::r) 0=some ((c::r).all jD&&true):=by
   refine BS jD true (λi x hx hi=>?_) ?_
   ·rw[Oi,tU];have:decide ((i:Int)<(((c::r).length:Nat):Int))=true:=by simp;simp at hi;omega
    rw[this,aO,bc hx,aq,Xa,aq,bO i (by omega)];cases jD x<;>rfl
   ·rw[Oi,tU];have:decide ((((c::r).length:Nat):Int)<(((c::r).length:Nat):Int))=false:=by simp
    rw[this];rfl
  have hi:ao (c::r:List UInt8) 0=some c:=rfl;rw[hi,hL];simp only[aq,oY];have h1:decide ((((c::r).length:Nat):Int)>16)= !decide ((c::r).length<=16):=by rw[iP];simp;omega
  have h2:decide (((c.toNat:Nat):Int)<97)= !decide (97<=c.toNat):=by rw[iP];simp;omega
  have h3:decide (((c.toNat:Nat):Int)>122)= !decide (c.toNat<=122):=by rw[iP];simp;omega
  rw[h1,h2,h3];unfold eR;simp only;cases decide ((c::r).length<=16)<;>cases decide (97<=c.toNat)<;>cases decide (c.toNat<=122)<;>rfl
theorem qL (a:List (List UInt8)) (x:List UInt8) (ha:a.length<9223372036854775807):(vp Pu) a x=some (idxOf (λy=>x==y) a 0):=by
 rw[e93,vj];refine Bi (λy=>x==y) (λi y hy hi=>?_) ?_
 ·rw[Oj,tV];have:decide ((i:Int)<((aT a).length:Int))=true:=by rw[cv];simp;omega
  rw[this,aO,bc hy,aq,bO i (by omega)]
 ·rw[Oj,tV];have:decide ((a.length:Int)<((aT a).length:Int))=false:=by rw[cv];simp
  rw[this];rfl
theorem contains_eq (a:List (List UInt8)) (x:List UInt8) (ha:a.length<9223372036854775807):(xW Pu) a x=some (a.any λy=>x==y):=by
 rw[abP,xL,qL a x ha,aq,D3]
theorem FA (a:List (List UInt8)) (x:List UInt8) (ha:a.length<9223372036854775807):(p7 Pu) a x=some (a.any λy=>x==y):=by
 rw[abR,xM,contains_eq a x ha];rfl
theorem LI (a b:List (List UInt8)) (ha:a.length<9223372036854775807) (hb:b.length<9223372036854775807):(sw Pu) a b=some (a.all λx=>b.any λy=>x==y):=by
 rw[e92,vk];have h:=BS (a:=a) (L:=λi=>(rh Pu) a b i) (λx=>b.any λy=>x==y) true (λi x hx hi=>by
  show(rh Pu) a b i=_;rw[Ol,tW];have:decide ((i:Int)<((aT a).length:Int))=true:=by rw[cv];simp;omega
  rw[this,aO,bc hx,aq,FA b x hb,aq,bO i (by omega)];cases b.any λy=>x==y<;>rfl) (by
  show(rh Pu) a b _=_;rw[Ol,tW];have:decide ((a.length:Int)<((aT a).length:Int))=false:=by rw[cv];simp
  rw[this];rfl)
 simpa using h
theorem ra (b:Bool) (e:Int):(b4 Pu) b e=some (bif b then e else 0):=by
 rw[abM,xI];cases b<;>rfl
theorem aU (n m:Nat):decide (((n:Nat):Int)<(m:Int))=decide (n<m):=by rw[iP];simp only[pd];omega
theorem TY {a:List (List UInt8)} {i:Nat} {x y:List UInt8} (hx:a[i]? =some x) (hy:a[i+1]? =some y):rising (a.drop i)=(Op.bytesLess x y&&rising (a.drop (i+1))):=by
 rw[mX hx,mX hy];rfl
theorem A1 (a:List (List UInt8)) (ha:a.length<9223372036854775807):(p6 Pu) a=some (rising a):=by
 rw[abQ,uS];have key:∀k i:Nat,k=a.length-(i+1)->i+1<=a.length->(wL Pu) a ((i+1:Nat):Int)=some (rising (a.drop i)):=by
  intro k
  induction k with
  |zero=>
   intro i hk hi;have e:i+1=a.length:=by omega
   rw[E8,qQ,cv,aU];have:decide (i+1<a.length)=false:=by simp;omega
   rw[this,a6];obtain⟨x,hx⟩:=bg (by omega:i<a.length);rw[mX hx,show a.drop (i+1)=[]from List.drop_eq_nil_of_le (by omega)];rfl
  |succ k ih=>
   intro i hk hi;obtain⟨x,hx⟩:=bg (by omega:i<a.length);obtain⟨y,hy⟩:=bg (by omega:i+1<a.length);rw[E8,qQ,cv,aU];have:decide (i+1<a.length)=true:=by simp;omega
   have e:IntKind.i64.wrap (((i+1:Nat):Int)-1)=(i:Int):=by rw[wrap64 (by omega) (by omega)];omega
   rw[this,aO,e,bc hx,bc hy,aq,aq,bO (i+1) (by omega),TY hx hy,ih (i+1) (by omega) (by omega)];cases Op.bytesLess x y<;>rfl
 cases a with
 |nil=>rw[E8,qQ];rfl
 |cons x r=>exact key _ 0 rfl (by simp)
def eT (l:ah):Prop:=
 (l.Kind=1\/l.Kind=9)/\l.aw=[]/\l.Names=[]/\l.aX=[]/\l.Lo=0/\l.Hi=0\/
 (l.Kind=2\/l.Kind=3)/\l.aw=[]/\l.Names=[]/\l.aX=[]\/
 (l.Kind=4\/l.Kind=8)/\l.aw=[]/\l.aX=[]/\l.Lo=0/\l.Hi=0\/
 l.Kind=5/\l.aw.length=1/\l.aX=[]/\l.Lo=0/\l.Hi=0\/
 l.Kind=7/\l.aw.length=2/\l.Names=[]/\l.aX=[]/\l.Lo=0/\l.Hi=0\/
 l.Kind=6/\l.aw.length=l.Names.length/\l.Names≠[]/\l.aX=[]/\l.Lo=0/\l.Hi=0\/
 l.Kind=10/\l.aw=[]/\l.Names≠[]/\l.Lo=0/\l.Hi=0
theorem Vf (l:ah):ag ((xV Pu) l) (λr=>r=0->eT l):=by
 rw[Rg,uR];simp only[ra,aq,cv,ah.aB,aP.aB]
 repeat' (first|refine ag.bif (λ_=>?_) (λ_=>?_)|refine ag.ret (λhr=>?_))
 all_goals (first|(exfalso;revert hr;decide)|(have hn:l.Names≠[]:=(by intro e;rw[e]at hr;revert hr;decide);clear hr;simp at*;simp[eT, *];done)|(have hn:l.Names≠[]:=(by intro e;rw[e]at hr;revert hr;decide);clear hr;simp at*;simp[eT, *];omega)|(simp at*;simp[eT, *];done)|(simp at*;simp[eT, *];omega)|skip)
def mF (l:ah):Prop:=l.Names.length<=(if l.Kind=6 then 8 else if l.Kind=10 then 12 else 32)/\l.aX.length<=32
theorem KX (l:ah):ag ((CC Pu) l) (λr=>r=0↔mF l):=by
 rw[abN,xJ];simp only[ra,aq,cv,aP.aB];have e:decide ((l.aX.length:Int)>32)= !decide (l.aX.length<=32):=by rw[iP];simp;omega
 rw[e];unfold mF
 repeat' (first|refine ag.bif (λh=>?_) (λh=>?_)|refine ag.ret ?_)
 all_goals (simp at*;first|omega|(cases hd:decide (l.aX.length<=32)<;>simp at hd<;>simp[*]<;>omega))
theorem Uz (l:ah):ag ((xY Pu) l) (λr=>r=0-> -1000000000<=l.Lo/\l.Lo<=l.Hi/\l.Hi<=1000000000):=by
 rw[Ri,uT];simp only[ra,aq]
 repeat' (first|refine ag.bif (λ_=>?_) (λ_=>?_)|refine ag.ret (λhr=>?_))
 all_goals (first|(exfalso;revert hr;decide)|(cases h5:decide (l.Hi>1000000000)<;>rw[h5]at hr<;>simp at* <;>omega))
theorem Bj {l:ah} {p:ah} (h:p∈l.aw):SizeOf.sizeOf p<SizeOf.sizeOf l:=by
 cases l;have:=List.sizeOf_lt_of_mem h;simp only[ah.mk.sizeOf_spec]at*
 omega
inductive lk:ah->Prop
 |one {l:ah}:(l.Kind=1\/l.Kind=2\/l.Kind=3)->lk l
 |lex {l p q:ah}:l.Kind=7->l.aw=[p,q]->lk p->lk q->lk l
theorem Ev:∀(n:Nat) (l:ah),SizeOf.sizeOf l<=n->ag ((rY Pu) l) (λr=>r=true->lk l)
 |0,l,h=>by cases l;simp only[ah.mk.sizeOf_spec]at h;omega
 |n+1,l,h=>by
  rw[IB,rT,ah.aB];refine ag.bif (λh1=>ag.ret λ_=> .one (.inl (by simpa using h1))) (λ_=>?_);refine ag.bif (λh1=>ag.ret λ_=> .one (.inr (.inl (by simpa using h1)))) (λ_=>?_);refine ag.bif (λh1=>ag.ret λ_=> .one (.inr (.inr (by simpa using h1)))) (λ_=>?_);refine ag.bif (λh7=>?_) (λ_=>ag.ret λh=>by cases h);refine ag.bif (λh2=>?_) (λ_=>ag.ret λh=>by cases h);have h2:l.aw.length=2:=by simp at h2;omega
  obtain⟨p,q,e⟩:∃p q,l.aw=[p,q]:=by
   match hp:l.aw,h2 with
   |[p,q],_=>exact⟨p,q,rfl⟩
  have hp:SizeOf.sizeOf p<SizeOf.sizeOf l:=Bj (by rw[e];simp);have hq:SizeOf.sizeOf q<SizeOf.sizeOf l:=Bj (by rw[e];simp);have e0:ao l.aw 0=some p:=by rw[e];rfl
  have e1:ao l.aw 1=some q:=by rw[e];rfl
  rw[e0,e1];simp only[aq];refine ag.bind (Ev n p (by omega)) (λy hy=>?_);refine ag.bif (λhb=>?_) (λ_=>ag.ret λh=>by cases h);refine ag.bind (Ev n q (by omega)) (λz hz=>ag.ret λh=> .lex (by simpa using h7) e (hy hb) (hz h))
theorem UA (l:ah) (hs:eT l):ag ((xZ Pu) l) (λr=>r=0->l.Kind=7->∃p,l.aw[0]? =some p/\lk p):=by
 rw[Rj,uU];simp only[ra,aq];refine ag.bif (λh7=>?_) (λh7=>ag.ret λ_ h=>by simp at h7;exact absurd h h7);have h2:l.aw.length=2:=by
  simp at h7;simp[eT,h7]at hs;exact hs.1
 obtain⟨p,hp⟩:=bg (l:=l.aw) (i:=0) (by omega);have e0:ao l.aw 0=some p:=hp;rw[e0,aq];refine ag.bind (Ev _ p (bU _)) (λy hy=>ag.ret λhr _=>⟨p,hp,hy ?_⟩);cases y with
 |true=>rfl
 |false=>revert hr;decide
theorem X9 (l:List Int) (hl:l.length<9223372036854775807):ag ((ya Pu) l) (λr=>r=0->∀x∈l,x=0):=by
 rw[Rk,rU];have:=kF (L:=λi=>(na Pu) l i) (P:=λr=>r=0->∀x∈l,x=0) (len:=l.length) (λi=>∀j x,j<i->l[j]? =some x->x=0) (λi hi hI k=>by
  show ag ((na Pu) l i) _;obtain⟨x,hx⟩:=bg hi;rw[BF,py,qD,aU];have:decide (i<l.length)=true:=by simpa using hi
  rw[this,aO,bc hx,aq,bO i (by omega)];refine ag.bif (λh=>ag.ret λe=>by simp at h;exact absurd e h) (λh=>k λj y hj hy=>?_);rcases lW.1 hj with h1|rfl
  ·exact hI j y h1 hy
  ·rw[hx]at hy;cases hy;simpa using h) (λhI=>by
  show ag ((na Pu) l _) _;rw[BF,py,qD,aU];have:decide (l.length<l.length)=false:=by simp
  rw[this,a6];refine ag.ret λ_ x hx=>?_;obtain⟨j,hj⟩:=fR hx;exact hI j x (cy.1 hj).1 hj) 0 (by omega) (λj x hj=>by omega)
 exact this
theorem V9 {l:ah} (h:eT l):(xV Pu) l=some 0:=by
 rw[Rg,uR];simp only[ra,aq,cv,ah.aB,aP.aB];have ne:∀{D:Type} {a:List D},a≠[]->((a.length:Int)==0)=false:=λ{D a} h=>by cases a;exact absurd rfl h;simp;omega
 rcases h with⟨h1|h1,h2,h3,h4,h5,h6⟩|⟨h1|h1,h2,h3,h4⟩|⟨h1|h1,h2,h3,h4,h5⟩|⟨h1,h2,h3,h4,h5⟩|⟨h1,h2,h3,h4,h5,h6⟩|⟨h1,h2,h3,h4,h5,h6⟩|⟨h1,h2,h3,h4,h5⟩<;>simp[*]
theorem Vg {l:ah} (h: -1000000000<=l.Lo/\l.Lo<=l.Hi/\l.Hi<=1000000000):(xY Pu) l=some 0:=by
 rw[Ri,uT];simp only[ra,aq];obtain⟨h1,h2,h3⟩:=h;have e1:¬l.Lo>l.Hi:=by omega
 have e2:¬l.Lo< -1000000000:=by omega
 have e3:¬l.Lo>1000000000:=by omega
 have e4:¬l.Hi< -1000000000:=by omega
 have e5:¬l.Hi>1000000000:=by omega
 simp[e1,e2,e3,e4,e5]
theorem Wa {l:ah} (h:lk l):(rY Pu) l=some true:=by
 induction h with
 |one hk=>
  rw[IB,rT];rcases hk with hk|hk|hk<;>simp[hk]
 |lex hk hp _ _ i1 i2=>
  rw[IB,rT,ah.aB,hp];simp[hk,ao,i1,i2]
theorem Vh {l:ah} (h:l.Kind=7->∃p,l.aw[0]? =some p/\lk p):(xZ Pu) l=some 0:=by
 rw[Rj,uU];simp only[ra,aq];by_cases h7:l.Kind=7
 ·obtain⟨p,hp,hc⟩:=h h7;have e0:ao l.aw 0=some p:=hp;rw[e0];simp[h7,Wa hc]
 ·have:(l.Kind==7)=false:=by simpa using h7
  rw[this];rfl
theorem ZR (l:List Int) (hl:l.length<9223372036854775807) (h:∀x∈l,x=0):(ya Pu) l=some 0:=by
 rw[Rk,rU];have:=kF (L:=λi=>(na Pu) l i) (P:=λr=>r=0) (len:=l.length) (λ_=>True) (λi hi hI k=>by
  show ag ((na Pu) l i) _;obtain⟨x,hx⟩:=bg hi;rw[BF,py,qD,aU];have:decide (i<l.length)=true:=by simpa using hi
  rw[this,aO,bc hx,aq,bO i (by omega)];have e:=h x (bh hx);refine ag.bif (λh=>?_) (λh=>k trivial);subst e;cases h) (λhI=>by
  show ag ((na Pu) l _) _;rw[BF,py,qD,aU];have:decide (l.length<l.length)=false:=by simp
  rw[this,a6];exact ag.ret rfl) 0 (by omega) trivial
 exact ag.of this
def uJ (names:List (List UInt8)) (r:aP):Prop:=r.If≠[]/\rising r.If=true/\(r.If.all λx=>names.any λy=>x==y)=true/\(names.any λy=>r.eY==y)=true
def nD (l:ah):Prop:=(∀s∈l.Names,eR s=true)/\(l.Kind≠6->rising l.Names=true)/\(l.Kind=6->∀(i:Nat) s,l.Names[i]? =some s->((l.Names.take i).any λy=>s==y)=false)/\∀r∈l.aX,uJ l.Names r
mutual
def jC:ah->Nat
 |⟨_,_,_,_,ps,_⟩=>1+eW ps
def eW:List ah->Nat
 |[]=>0
 |p::ps=>jC p+eW ps
end
mutual
def ja:ah->Nat
 |⟨_,_,_,_,ps,_⟩=>1+mw ps
def mw:List ah->Nat
 |[]=>0
 |p::ps=>max (ja p) (mw ps)
end
theorem tN (l:ah):jC l=1+eW l.aw:=by cases l;rw[jC]
theorem q9 (l:ah):ja l=1+mw l.aw:=by cases l;rw[ja]
theorem LG:∀{ps:List ah} {p:ah},p∈ps->jC p<=eW ps
 |q::ps,p,h=>by
  rw[eW];rcases cu.1 h with rfl|h
  ·omega
  ·have:=LG h;omega
theorem A0:∀{ps:List ah} {p:ah},p∈ps->ja p<=mw ps
 |q::ps,p,h=>by
  rw[mw];rcases cu.1 h with rfl|h
  ·omega
  ·have:=A0 h;omega
theorem ET {n:Nat}:∀{ps:List ah},(∀p∈ps,ja p<=n)->mw ps<=n
 |[],_=>by rw[mw];omega
 |p::ps,h=>by
  rw[mw];have h1:=h p (by simp);have h2:=ET (ps:=ps) (n:=n) λq hq=>h q (by simp[hq]);omega
theorem AM {ps:List ah}:∀{i:Nat} {p:ah},ps[i]? =some p->eW (ps.take (i+1))=eW (ps.take i)+jC p:=by
 induction ps with
 |nil=>intro i p h;simp at h
 |cons q ps ih=>
  intro i p h;cases i with
  |zero=>simp only[mO,aE]at h;subst h;simp[eW]
  |succ i=>
   simp only[nX]at h;have:=ih h;rw[An,An,eW,eW,this];omega
theorem Kd {ps:List ah} (i:Nat):eW (ps.take i)<=eW ps:=by
 induction ps generalizing i with
 |nil=>simp
 |cons q ps ih=>
  cases i with
  |zero=>simp[eW]
  |succ i=>rw[An,eW,eW];have:=ih i;omega
inductive lL:ah->Prop
 |mk {l:ah}:eT l->mF l->nD l->(-1000000000<=l.Lo/\l.Lo<=l.Hi/\l.Hi<=1000000000)->(l.Kind=7->∃p,l.aw[0]? =some p/\lk p)->(∀p∈l.aw,lL p)->lL l
structure ef (l:ah):Prop where
 i:lL l
 eP:jC l<=64
 dep:ja l<=6
theorem ef.part {l p:ah} (h:ef l) (hp:p∈l.aw):ef p:=by
 have h1:=h.eP;have h2:=h.dep;rw[tN]at h1;rw[q9]at h2;have h3:=LG hp;have h4:=A0 hp;exact⟨by have h:=h.i;cases h with|mk _ _ _ _ _ h=>exact h p hp,by omega,by omega⟩
theorem ef.shape {l:ah} (h:ef l):eT l:=by have h:=h.i;cases h;assumption
theorem ef.names {l:ah} (h:ef l):nD l:=by have h:=h.i;cases h;assumption
theorem tO {D:Type} {l:List D} {i:Nat} (h:i<=l.length):oB l 0 (i:Int)=some (l.take i):=by
 have:oB l ((0:Nat):Int) (i:Int)=some (l.take i):=by
  show(bif Nat.ble 0 i&&Nat.ble i l.length then some ((l.take i).drop 0)else none)=_;rw[DG (o8 i),DG h];rfl
 exact this
section
variable {B:Nat} (hB:B<1099511627776)
include hB
theorem LH {l:ah} (hl:l.ok B) (L:Int->Option Int) (hL:∀s,L s=(bif decide (s<(↑(aP.rows l.aX).length:Int))then((ao (l.aX) (s)).bind λx=>(bif (↑(aT x.If).length:Int)==0 then(some (3))else(((p6 Pu) (x.If)).bind λy=>(bif !y then(some (3))else(((sw Pu) (x.If) (l.Names)).bind λz=>(bif !z then(some (3))else(((p7 Pu) (l.Names) (x.eY)).bind λu=>(bif !u then(some (3))else(L (IntKind.i64.wrap (s+1)))))))))))else(some (0)))):
  ag (L 0) (λr=>r=0->∀x∈l.aX,uJ l.Names x):=by
 rw[ah.cM]at hl;obtain⟨_,_,_,⟨hn,_⟩,_,⟨hr,hrr⟩⟩:=hl;have h:=kF (L:=L) (P:=λr=>r=0->∀x∈l.aX,uJ l.Names x) (len:=l.aX.length) (λi=>∀j x,j<i->l.aX[j]? =some x->uJ l.Names x) (λi hi hI k=>by
  obtain⟨x,hx⟩:=bg hi;have hxo:=hrr x (bh hx);rw[hL,aP.aB,aU];have:decide (i<l.aX.length)=true:=by simpa using hi
  rw[this,aO,bc hx,aq,cv,A1 _ (by have:=hxo.1.1;omega),LI _ _ (by have:=hxo.1.1;omega) (by omega),FA _ _ (by omega),bO i (by omega)];simp only[aq];refine ag.bif (λ_=>ag.ret λe=>by cases e) (λh1=>?_);refine ag.bif (λ_=>ag.ret λe=>by cases e) (λh2=>?_);refine ag.bif (λ_=>ag.ret λe=>by cases e) (λh3=>?_);refine ag.bif (λ_=>ag.ret λe=>by cases e) (λh4=>?_);refine k λj y hj hy=>?_;rcases lW.1 hj with h5|rfl
  ·exact hI j y h5 hy
  ·rw[hx]at hy;cases hy;refine⟨λe=>?_,by simpa using h2,by simpa only[sE]using h3,by simpa only[sE]using h4⟩;rw[e]at h1;simp at h1) (λhI=>by
  rw[hL,aP.aB,aU];have:decide (l.aX.length<l.aX.length)=false:=by simp
  rw[this,a6];refine ag.ret λ_ x hx=>?_;obtain⟨j,hj⟩:=fR hx;exact hI j x (cy.1 hj).1 hj) 0 (by omega) (λj x hj=>by omega)
 exact h
theorem TA {l:ah} (hl:l.ok B):ag ((xX Pu) l) (λr=>r=0->nD l):=by
 rw[Rh,rS];have hl':=hl;rw[ah.cM]at hl;obtain⟨_,_,_,⟨hn,hnn⟩,_,⟨hr,hrr⟩⟩:=hl;have h:=kF (L:=λi=>(ma Pu) l 0 i) (P:=λr=>r=0->nD l) (len:=l.Names.length) (λi=>(∀j s,j<i->l.Names[j]? =some s->eR s=true)/\(l.Kind=6->∀j s,j<i->l.Names[j]? =some s->((l.Names.take j).any λy=>s==y)=false)) (λi hi hI k=>by
  show ag ((ma Pu) l 0 i) _;obtain⟨x,hx⟩:=bg hi;rw[BE,px,cv,aU];have:decide (i<l.Names.length)=true:=by simpa using hi
  have hxl:=hnn x (bh hx);rw[this,aO,bc hx,aq,mY x (by omega),aq,bO i (by omega),tO (by omega),aq,contains_eq _ _ (by rw[gw];omega),aq];refine ag.bif (λ_=>ag.ret λe=>by cases e) (λh1=>?_);have h1:eR x=true:=by simpa using h1
  have nv:∀j s,j<i+1->l.Names[j]? =some s->eR s=true:=λj s hj hs=>by
   rcases lW.1 hj with h5|rfl
   ·exact hI.1 j s h5 hs
   ·rw[hx]at hs;cases hs;exact h1
  refine ag.bif (λh6=>?_) (λh6=>k ⟨nv,λe=>by simp at h6;exact absurd e h6⟩);refine ag.bif (λ_=>ag.ret λe=>by cases e) (λh7=>k ⟨nv,λe j s hj hs=>?_⟩);rcases lW.1 hj with h5|rfl
  ·exact hI.2 e j s h5 hs
  ·rw[hx]at hs;cases hs;exact h7) (λhI=>by
  show ag ((ma Pu) l 0 _) _;rw[BE,px,cv,aU];have:decide (l.Names.length<l.Names.length)=false:=by simp
  rw[this,a6];have nv:∀s∈l.Names,eR s=true:=λs hs=>by
   obtain⟨j,hj⟩:=fR hs;exact hI.1 j s (cy.1 hj).1 hj
  have di:l.Kind=6->∀(i:Nat) s,l.Names[i]? =some s->((l.Names.take i).any λy=>s==y)=false:=λe i s hs=>hI.2 e i s (cy.1 hs).1 hs;rw[A1 _ (by omega)];refine ag.bif (λh6=>?_) (λh6=>?_)
  ·rw[aq];refine ag.bif (λ_=>ag.ret λe=>by cases e) (λh8=>?_);exact(LH hB hl' _ (λs=>MT l s)).mono λr h e=>⟨nv,λ_=>by simpa using h8,di,h e⟩
  ·exact(LH hB hl' _ (λs=>MU l s)).mono λr h e=>⟨nv,λh9=>by simp at h6;exact absurd h6 h9,di,h e⟩) 0 (by omega) ⟨λj s hj=>by omega,λ_ j s hj=>by omega⟩
 exact h
theorem LJ:∀(n:Nat) (c:dh) (l:ah) (d:Int),l.ok B->0<=c.nodes->c.nodes<=64->(6-d+1).toNat<=n->d<=7->0<=d->ag ((vq Pu) c l d) (λr=>0<=r.2.nodes/\r.2.nodes<=64/\(r.1=0->lL l/\r.2.nodes=c.nodes+jC l/\d+ja l<=7))
 |n,c,l,d,hl,h0,h1,hn,hd,hd0=>by
  rw[SJ,vl];refine ag.bif (λ_=>ag.ret ⟨h0,h1,λe=>by cases e⟩) (λh6=>?_);have h6:d<=6:=by simp at h6;omega
  match n,hn with
  |0,hn=>omega
  |n+1,hn=>
  refine ag.bif (λ_=>ag.ret ⟨h0,h1,λe=>by cases e⟩) (λh64=>?_);have h64:c.nodes<64:=by simp at h64;omega
  have hw:IntKind.i64.wrap (c.nodes+1)=c.nodes+1:=wrap64 (by omega) (by omega);have hwd:IntKind.i64.wrap (d+1)=d+1:=wrap64 (by omega) (by omega);rw[hw];refine ag.bind (Vf l) (λy3 hs=>?_);refine ag.bif (λhne=>ag.ret ⟨by simp;omega,by simp;omega,λe=>by simp at hne;exact absurd e hne⟩) (λh3=>?_);have hs:=hs (by simpa using h3);refine ag.bind (KX l) (λy5 hli=>?_);refine ag.bind (TA hB hl) (λy6 hsp=>?_);refine ag.bind (Uz l) (λy7 hra=>?_);refine ag.bind (UA l hs) (λy8 hch=>?_);refine ag.bind (X9 _ (by simp)) (λy9 hor=>?_);refine ag.bif (λhne=>ag.ret ⟨by simp;omega,by simp;omega,λe=>by simp at hne;exact absurd e hne⟩) (λh9=>?_);have hor:=hor (by simpa using h9);have e5:y5=0:=hor y5 (by simp);have e6:y6=0:=hor y6 (by simp);have e7:y7=0:=hor y7 (by simp);have e8:y8=0:=hor y8 (by simp);have hl':=hl;rw[ah.cM]at hl';obtain⟨_,_,_,_,⟨hpl,hp⟩,_⟩:=hl';have h:=eS (L:=λi b=>(ny Pu) l d i b) (P:=λr=>0<=r.2.nodes/\r.2.nodes<=64/\(r.1=0->lL l/\r.2.nodes=c.nodes+jC l/\d+ja l<=7)) (len:=l.aw.length) (λi b=>0<=b.nodes/\b.nodes<=64/\b.nodes=c.nodes+1+eW (l.aw.take i)/\∀j p,j<i->l.aw[j]? =some p->lL p/\d+1+ja p<=7) (λi b hi hI k=>by
   show ag ((ny Pu) l d i b) _;obtain⟨x,hx⟩:=bg hi;rw[B1,pL,ah.aB,aU];have:decide (i<l.aw.length)=true:=by simpa using hi
   rw[this,aO,bc hx,aq,bO i (by omega),hwd];refine ag.bind (LJ n b x (d+1) (ah.gF hp (bh hx)) hI.1 hI.2.1 (by omega) (by omega) (by omega)) (λy hy=>?_);refine ag.bif (λhne=>ag.ret ⟨hy.1,hy.2.1,λe=>by simp at hne;exact absurd e hne⟩) (λhz=>?_);have hy3:=hy.2.2 (by simpa using hz);refine k _ ⟨hy.1,hy.2.1,by rw[AM hx];have:=hI.2.2.1;omega,λj p hj hp'=>?_⟩;rcases lW.1 hj with h5|rfl
   ·exact hI.2.2.2 j p h5 hp'
   ·rw[hx]at hp';cases hp';exact⟨hy3.1,hy3.2.2⟩) (λb hI=>by
   show ag ((ny Pu) l d _ b) _;rw[B1,pL,ah.aB,aU];have:decide (l.aw.length<l.aw.length)=false:=by simp
   rw[this,a6];have all:∀p∈l.aw,lL p/\d+1+ja p<=7:=λp hp'=>by
    obtain⟨j,hj⟩:=fR hp';exact hI.2.2.2 j p (cy.1 hj).1 hj
   refine ag.ret ⟨hI.1,hI.2.1,λ_=>⟨.mk hs (hli.1 e5) (hsp e6) (hra e7) (hch e8) λp hp'=>(all p hp').1,?_,?_⟩⟩
   ·show b.nodes=_;rw[tN];have:=hI.2.2.1;rw[jg]at this;omega
   ·rw[q9];have:mw l.aw<=(6-d).toNat:=ET λp hp'=>by have:=(all p hp').2;omega
    omega) 0 {nodes:=c.nodes+1} (by omega) ⟨by simp;omega,by simp;omega,by simp[eW],λj p hj=>by omega⟩
  exact h
theorem Ms {l:ah} (hl:l.ok B) (h:∀r∈l.aX,uJ l.Names r) (L:Int->Option Int) (hL:∀s,L s=(bif decide (s<(↑(aP.rows l.aX).length:Int))then((ao (l.aX) (s)).bind λx=>(bif (↑(aT x.If).length:Int)==0 then(some (3))else(((p6 Pu) (x.If)).bind λy=>(bif !y then(some (3))else(((sw Pu) (x.If) (l.Names)).bind λz=>(bif !z then(some (3))else(((p7 Pu) (l.Names) (x.eY)).bind λu=>(bif !u then(some (3))else(L (IntKind.i64.wrap (s+1)))))))))))else(some (0)))):L 0=some 0:=by
 rw[ah.cM]at hl;obtain⟨_,_,_,⟨hn,_⟩,_,⟨hr,hrr⟩⟩:=hl;refine ag.of (kF (L:=L) (P:=λr=>r=0) (len:=l.aX.length) (λ_=>True) (λi hi _ k=>?_) (λ_=>?_) 0 (by omega) trivial)
 ·obtain⟨x,hx⟩:=bg hi;have hm:=bh hx;have hxo:=hrr x hm;obtain⟨r1,r2,r3,r4⟩:=h x hm;rw[hL,aP.aB,aU];have:decide (i<l.aX.length)=true:=by simpa using hi
  have e1:((x.If.length:Int)==0)=false:=by cases hf:x.If;exact absurd hf r1;simp;omega
  rw[this,aO,bc hx,aq,cv,A1 _ (by have:=hxo.1.1;omega),LI _ _ (by have:=hxo.1.1;omega) (by omega),FA _ _ (by omega),bO i (by omega),e1,r2,r3,r4];exact k trivial
 ·rw[hL,aP.aB,aU];have:decide (l.aX.length<l.aX.length)=false:=by simp
  rw[this,a6];exact ag.ret rfl
theorem TX {l:ah} (hl:l.ok B) (h:nD l):(xX Pu) l=some 0:=by
 rw[Rh,rS];have hl':=hl;rw[ah.cM]at hl;obtain⟨_,_,_,⟨hn,hnn⟩,_,⟨hr,hrr⟩⟩:=hl;obtain⟨n1,n2,n3,n4⟩:=h;refine ag.of (kF (L:=λi=>(ma Pu) l 0 i) (P:=λr=>r=0) (len:=l.Names.length) (λ_=>True) (λi hi _ k=>?_) (λ_=>?_) 0 (by omega) trivial)
 ·show ag ((ma Pu) l 0 i) _;obtain⟨x,hx⟩:=bg hi;have hm:=bh hx;rw[BE,px,cv,aU];have:decide (i<l.Names.length)=true:=by simpa using hi
  have hxl:=hnn x hm;rw[this,aO,bc hx,aq,mY x (by omega),aq,bO i (by omega),tO (by omega),aq,contains_eq _ _ (by rw[gw];omega),aq,n1 x hm];refine ag.bif (λe=>by cases e) (λ_=>?_);refine ag.bif (λh6=>?_) (λ_=>k trivial);rw[n3 (by simpa using h6) i x hx];exact k trivial
 ·show ag ((ma Pu) l 0 _) _;rw[BE,px,cv,aU];have:decide (l.Names.length<l.Names.length)=false:=by simp
  rw[this,a6,A1 _ (by omega)];refine ag.bif (λh6=>?_) (λh6=>?_)
  ·rw[aq,n2 (by simpa using h6)];exact ag.eq (Ms hB hl' n4 _ (λs=>MT l s))
  ·exact ag.eq (Ms hB hl' n4 _ (λs=>MU l s))
theorem Mt:∀(n:Nat) (c:dh) (l:ah) (d:Int),lL l->l.ok B->0<=c.nodes->c.nodes+jC l<=64->ja l<=n->d+ja l<=7->0<=d->(vq Pu) c l d=some (0,{nodes:=c.nodes+jC l})
 |0,c,l,d,h,hl,h0,h1,hn,hd,hd0=>by rw[q9]at hn;omega
 |n+1,c,l,d,h,hl,h0,h1,hn,hd,hd0=>by
  rw[SJ,vl];have hdd:=q9 l;have hcc:=tN l;have e1:decide (d>6)=false:=by simp;omega
  have e2:decide (c.nodes>=64)=false:=by simp;omega
  have hw:IntKind.i64.wrap (c.nodes+1)=c.nodes+1:=wrap64 (by omega) (by omega);have hwd:IntKind.i64.wrap (d+1)=d+1:=wrap64 (by omega) (by omega);cases h with
  |mk hs hli hsp hra hch hpp=>
  obtain⟨y5,e5,h5⟩:=KX l;rw[h5.2 hli]at e5;rw[hw,e1,e2,V9 hs,e5,TX hB hl hsp,Vg hra,Vh hch];simp only[a6,aq,ZR [0,0,0,0] (by simp) (by simp)];have hl':=hl;rw[ah.cM]at hl';obtain⟨_,_,_,_,⟨hpl,hp⟩,_⟩:=hl';have h:=eS (L:=λi b=>(ny Pu) l d i b) (P:=λr=>r=(0,{nodes:=c.nodes+jC l})) (len:=l.aw.length) (λi b=>b.nodes=c.nodes+1+eW (l.aw.take i)) (λi b hi hI k=>by
   show ag ((ny Pu) l d i b) _;obtain⟨x,hx⟩:=bg hi;have hm:=bh hx;rw[B1,pL,ah.aB,aU];have:decide (i<l.aw.length)=true:=by simpa using hi
   have t1:=AM hx;have t2:=Kd (ps:=l.aw) (i+1);have t3:=A0 hm;rw[this,aO,bc hx,aq,bO i (by omega),hwd,Mt n b x (d+1) (hpp x hm) (ah.gF hp hm) (by omega) (by omega) (by omega) (by omega) (by omega),aq];exact k _ (by simp only;rw[hI,t1];omega)) (λb hI=>by
   show ag ((ny Pu) l d _ b) _;rw[B1,pL,ah.aB,aU];have:decide (l.aw.length<l.aw.length)=false:=by simp
   rw[this,a6];rw[jg]at hI;refine ag.ret ?_;cases b with|mk bn=>simp only at hI⊢;rw[hI,hcc];simp;omega) 0 {nodes:=c.nodes+1} (by omega) (by simp[eW])
  exact ag.of h
theorem Ve {l:ah} (hl:l.ok B):ag ((zB Pu) l) (λr=>r=0->ef l):=by
 rw[SK,vm];exact ag.bind (LJ hB 7 _ l 1 hl (by simp) (by simp) (by decide) (by decide) (by decide)) (λy hy=>ag.ret λe=>by
  obtain⟨h1,h2,h3⟩:=hy.2.2 e;have h4:=hy.2.1;exact⟨h1,by simp at h2;omega,by omega⟩)
theorem V' {l:ah} (hl:l.ok B) (h:ef l):(zB Pu) l=some 0:=by
 rw[SK,vm,Mt hB 7 _ l 1 h.i hl (by simp) (by have:=h.eP;simp;omega) (by have:=h.dep;omega) (by have:=h.dep;omega) (by decide)];rfl
end
end Go.Proofs.YtnocmolegijmkaaGreat
end

section
namespace Go.Proofs.YtnocmolegijmkaaGreat
open Go Go.Bw
theorem mW {i:Nat} (h:i<9223372036854775807):IntKind.i64.wrap ((i:Int)+1)=((i+1:Nat):Int):=bO i h
theorem ah.ind {P:ah->Prop} (h:∀x:ah,(∀k∈x.aw,P k)->P x):∀x,P x:=by
 intro x;refine ah.rec (motive_1:=P) (motive_2:=λks=>∀k∈ks,P k) ?_ ?_ ?_ x
 ·intro k lo hi ns ps rs ih;exact h ⟨k,lo,hi,ns,ps,rs⟩ ih
 ·intro k hk;cases hk
 ·intro k ks h1 h2 x hx;rcases cu.1 hx with rfl|hx
  ·exact h1
  ·exact h2 x hx
def jB (a b:aP):Bool:=a.eY==b.eY&&a.If==b.If
mutual
def iZ:ah->ah->Bool
 |⟨k,lo,hi,ns,ps,rs⟩,⟨k',lo',hi',ns',ps',rs'⟩=>k==k'&&(lo==lo'&&(hi==hi'&&(ns==ns'&&((rs.length==rs'.length&&(rs.zip rs').all (λq=>jB q.1 q.2))&&jv ps ps'))))
def jv:List ah->List ah->Bool
 |[],[]=>true
 |x::r,y::s=>iZ x y&&jv r s
 |_,_=>false
end
theorem Et:∀{a b:List ah},a.length=b.length->jv a b=(a.zip b).all (λq=>iZ q.1 q.2)
 |[],[],_=>rfl
 |x::a,y::b,h=>by rw[jv,Aq,kx,Et (by simpa using h)]
 |[],_::_,h=>by simp at h
 |_::_,[],h=>by simp at h
theorem Eu:∀{a b:List ah},a.length≠b.length->jv a b=false
 |[],[],h=>absurd rfl h
 |x::a,y::b,h=>by rw[jv,Eu (by simpa using h),Tf]
 |[],_::_,_=>rfl
 |_::_,[],_=>rfl
variable {B:Nat} (hB:B<=1048576)
section
include hB
theorem KW {f:List (List UInt8)->List (List UInt8)->Option Bool} {L:List (List UInt8)->List (List UInt8)->Int->Option Bool} (hf:∀a b,f a b=(bif (↑(aT a).length:Int) !=(↑(aT b).length:Int)then(some (false))else L a b 0))
  (hL:∀a b s,L a b s=(bif decide (s<(↑(aT a).length:Int))then((ao (a) (s)).bind λx=>((ao (b) (s)).bind λy=>(bif !(x==y)then(some (false))else(L a b (IntKind.i64.wrap (s+1))))))else(some (true))))
  {a b:List (List UInt8)} (ha:a.length<=B):f a b=some (a==b):=by
 rw[hf];simp only[cv];by_cases hl:a.length=b.length
 ·have h0:((a.length:Int) !=(b.length:Int))=false:=by simp[hl]
  rw[h0];show L a b 0=_;rw[og (a:=a) (b:=b) (L:=L a b) (λx y=>x==y) true hl ?_ ?_,oY,X7 hl]
  ·intro i x y hx hy hi;rw[hL,cv,mW (by omega)];have h1:decide ((i:Int)<(a.length:Int))=true:=by simpa using hi
   rw[h1,bc hx,bc hy];show(bif !(x==y)then _ else _)=_;cases (x==y)<;>rfl
  ·rw[hL,cv];simp
 ·have h0:((a.length:Int) !=(b.length:Int))=true:=by simp;omega
  rw[h0];have:(a==b)=false:=by
   cases h:a==b with
   |false=>rfl
   |true=>exact absurd (congrArg List.length (eq_of_beq h)) hl
  rw[this];rfl
theorem SQ {a b:List (List UInt8)} (ha:a.length<=B):(yh Pu) a b=some (a==b):=KW hB abY WX ha
theorem p95 {a b:aP} (ha:a.ok B):(yn Pu) a b=some (jB a b):=by
 rw[abZ,xS,SQ hB ha.1.1,jB];cases a.eY==b.eY<;>rfl
theorem p94 {a b:List aP} (hl:a.length<=B) (ha:∀x∈a,x.ok B):(Bc Pu) a b=some (a.length==b.length&&(a.zip b).all (λq=>jB q.1 q.2)):=by
 rw[V0,wA];simp only[aP.aB];by_cases h:a.length=b.length
 ·have h0:((a.length:Int) !=(b.length:Int))=false:=by simp[h]
  rw[h0];show(sJ Pu) a b 0=_;rw[og (a:=a) (b:=b) (L:=(sJ Pu) a b) jB true h ?_ ?_]
  ·simp[h]
  ·intro i x y hx hy hi;rw[Ky,sK,aP.aB,mW (by omega)];have h1:decide ((i:Int)<(a.length:Int))=true:=by simpa using hi
   rw[h1,bc hx,bc hy];show(((yn Pu) x y).bind _)=_;rw[p95 hB (ha x (bh hx))];show(bif !(jB x y)then _ else _)=_;cases jB x y<;>rfl
  ·rw[Ky,sK,aP.aB];simp
 ·have h0:((a.length:Int) !=(b.length:Int))=true:=by simp;omega
  rw[h0];simp[h]
theorem p51:∀a b:ah,a.ok B->(uW Pu) a b=some (iZ a b):=by
 refine ah.ind ?_;intro a ih b ha;rw[ah.cM]at ha;obtain⟨_,_,_,hn,hp,hr⟩:=ha;rw[ab0,xT,SQ hB hn.1,p94 hB hr.1 hr.2];have h96:(Bd Pu) a.aw b.aw=some (jv a.aw b.aw):=by
  rw[V1,wB];simp only[ah.aB];by_cases h:a.aw.length=b.aw.length
  ·have h0:((a.aw.length:Int) !=(b.aw.length:Int))=false:=by simp[h]
   rw[h0];show(sL Pu) a.aw b.aw 0=_;rw[og (a:=a.aw) (b:=b.aw) (L:=(sL Pu) a.aw b.aw) iZ true h ?_ ?_]
   ·rw[Et h,oY]
   ·intro i x y hx hy hi;rw[Kz,sM,ah.aB,mW (by omega)];have h1:decide ((i:Int)<(a.aw.length:Int))=true:=by simpa using hi
    have hx':=bh hx;rw[h1,bc hx,bc hy];show(((uW Pu) x y).bind _)=_;rw[ih x hx' y (ah.gF hp.2 hx')];show(bif !(iZ x y)then _ else _)=_;cases iZ x y<;>rfl
   ·rw[Kz,sM,ah.aB];simp
  ·have h0:((a.aw.length:Int) !=(b.aw.length:Int))=true:=by simp;omega
   rw[h0,Eu h];rfl
 rw[h96];obtain⟨k,lo,hi,ns,ps,rs⟩:=a;obtain⟨k',lo',hi',ns',ps',rs'⟩:=b;simp only[iZ];generalize (k==k')=c1;generalize (lo==lo')=c2;generalize (hi==hi')=c3;generalize (ns==ns')=c4;generalize (rs.length==rs'.length&&(rs.zip rs').all λq=>jB q.1 q.2)=c5;generalize jv ps ps'=c6;cases c1<;>cases c2<;>cases c3<;>cases c4<;>cases c5<;>cases c6<;>rfl
end
theorem V8 {a b:aP}:jB a b=true↔a=b:=by
 cases a;cases b;simp[jB,and_comm]
theorem Mr:∀{a b:List aP},(a.length==b.length&&(a.zip b).all (λq=>jB q.1 q.2))=true↔a=b
 |[],[]=>by simp
 |[],_::_=>by simp
 |_::_,[]=>by simp
 |x::a,y::b=>by
  have:=Mr (a:=a) (b:=b);simp only[bG,beq_iff_eq]at this;simp only[fu,Aq,kx,bG,beq_iff_eq,ll,V8];constructor
  ·rintro ⟨h1,h2,h3⟩;exact⟨h2,this.1 ⟨by omega,h3⟩⟩
  ·rintro ⟨rfl,rfl⟩;exact⟨rfl,rfl,(this.2 rfl).2⟩
mutual
theorem ES:∀{a b:ah},iZ a b=true↔a=b
 |⟨k,lo,hi,ns,ps,rs⟩,⟨k',lo',hi',ns',ps',rs'⟩=>by
  rw[iZ];have h1:=LF (a:=ps) (b:=ps');have h2:=Mr (a:=rs) (b:=rs');rw[bG,bG,bG,bG,bG,h1,h2];simp only[beq_iff_eq,ah.mk.injEq];constructor
  ·rintro ⟨a,b,c,d,e,f⟩;exact⟨a,b,c,d,f,e⟩
  ·rintro ⟨a,b,c,d,e,f⟩;exact⟨a,b,c,d,f,e⟩
theorem LF:∀{a b:List ah},jv a b=true↔a=b
 |[],[]=>by simp[jv]
 |[],_::_=>by simp[jv]
 |_::_,[]=>by simp[jv]
 |x::a,y::b=>by rw[jv,bG,ES,LF,ll]
end
end Go.Proofs.YtnocmolegijmkaaGreat
end

section
namespace Go.Proofs.YtnocmolegijmkaaGreat
open Go Go.Bw
theorem ER {D:Type}:∀{l:List D} {i:Nat} {x:D},l[i]? =some x->l.set i x=l
 |y::l,0,x,h=>by simp only[mO,aE]at h;subst h;rfl
 |y::l,i+1,x,h=>by rw[vI,ER (by simpa using h)]
theorem Be {D:Type} {l:List D} (h:l.length<=274877906944):(bif decide ((([]:List D)++l).length<=274877906944)then some ([]++l)else none)=some l:=by
 have:decide ((([]:List D)++l).length<=274877906944)=true:=by simpa using h
 rw[this];rfl
variable {B:Nat} (hB:B<=1048576)
section
include hB
theorem LD {a:List (List UInt8)} (h:a.length<=B):(yb Pu) a=some a:=by
 rw[abW,xQ];exact Be (by omega)
theorem tc:∀l:ah,l.ok B->(r6 Pu) l=some l:=by
 refine ah.ind λl ih hl=>?_;rw[ah.cM]at hl;obtain⟨_,_,_,⟨hn,_⟩,⟨hp,hpp⟩,⟨hr,hrr⟩⟩:=hl;have h2:∀k i:Nat,k=l.aw.length-i->i<=l.aw.length->(wO Pu) l l.Names l.aw (i:Int) l.aw l.aX=some l:=by
  intro k
  induction k with
  |zero=>
   intro i hk hi;have:i=l.aw.length:=by omega
   subst this;rw[MW,tz,ah.aB,aU];have:decide (l.aw.length<l.aw.length)=false:=by simp
   rw[this,a6];cases l;rfl
  |succ k ihk=>
   intro i hk hi;have hi':i<l.aw.length:=by omega
   obtain⟨x,hx⟩:=bg hi';rw[MW,tz,ah.aB,aU];have:decide (i<l.aw.length)=true:=by simpa using hi'
   have hm:=bh hx;rw[this,aO,bc hx];simp only[aq];rw[ih x hm (ah.gF hpp hm)];simp only[aq];rw[bO i (by omega),fv,ER hx];exact ihk (i+1) (by omega) (by omega)
 have h1:∀k i:Nat,k=l.aX.length-i->i<=l.aX.length->(wN Pu) l l.Names l.aX (i:Int) l.aX=some l:=by
  intro k
  induction k with
  |zero=>
   intro i hk hi;have:i=l.aX.length:=by omega
   subst this;rw[MX,tq,aP.aB,aU];have:decide (l.aX.length<l.aX.length)=false:=by simp
   rw[this,a6,ZN,xy,Be (by omega),aq];exact h2 _ 0 rfl (by omega)
  |succ k ihk=>
   intro i hk hi;have hi':i<l.aX.length:=by omega
   obtain⟨x,hx⟩:=bg hi';rw[MX,tq,aP.aB,aU];have:decide (i<l.aX.length)=true:=by simpa using hi'
   have hm:=bh hx;rw[this,aO,bc hx];simp only[aq];rw[LD hB (hrr x hm).1.1];simp only[aq];rw[bO i (by omega),fv,ER hx];exact ihk (i+1) (by omega) (by omega)
 rw[abX,xR,LD hB hn,aq,ZM,xx,Be (by omega),aq];exact h1 _ 0 rfl (by omega)
theorem wE {a b:ay} (ha:a.ai.ok B):ag ((qp Pu) a b) (λr=>r=true↔a=b):=by
 rw[e81,zx];cases a with|mk s l=>cases b with|mk s' l'=>
 refine ag.bif (λh=>?_) (λh=>ag.ret ⟨λe=>(by cases e),λe=>?_⟩)
 ·rw[p51 hB _ _ ha,aq];refine ag.ret ?_;have h:s=s':=by simpa using h
  rw[ES,h];simp
 ·cases e;simp at h
end
theorem fK (t:ay):(rZ Pu) t=some (isNone t):=by
 rw[abT,xO,isNone];cases t.aK==0<;>rfl
theorem bp (n:Int):(dQ Pu) n=some (aL n):=e80 n
theorem of_eq (l:ah):(gP Pu) l=some (bN l):=e79 l
theorem NM (l:ah) (f:bD):(C1 Pu) l f=some (bif f.Result==0 then bN l else aL f.Result):=by
 rw[e35,zw,of_eq,bp];cases f.Result==0<;>rfl
def oE (f:bD):Prop:=eR f.Name=true/\eR f.On=true/\f.Params.length<=8/\0<=f.Result/\f.Result<=4/\
 ∀(i:Nat) p,f.Params[i]? =some p->eR p.Name=true/\1<=p.aK/\p.aK<=4/\∀(j:Nat) q,j<i->f.Params[j]? =some q->q.Name≠p.Name
theorem O4 (a:List TParam) (p:TParam) (ha:a.length<9223372036854775807):(BD Pu) a p=some (a.any λq:TParam=>q.Name==p.Name):=by
 rw[WW,wM];have:(Bb Pu) a p=some (idxOf (λq:TParam=>q.Name==p.Name) a 0):=by
  rw[VZ,th];refine Bi (λq:TParam=>q.Name==p.Name) (λi y hy hi=>?_) ?_
  ·rw[Kx,sI,TParam.aB,aU];have:decide (i<a.length)=true:=by simpa using hi
   rw[this,aO,bc hy,aq,e70,zt,aq,bO i (by omega)]
  ·rw[Kx,sI,TParam.aB,aU];have:decide (a.length<a.length)=false:=by simp
   rw[this];rfl
 rw[this,aq,D3]
theorem Uw {f:bD} (h1:f.Name.length<1048577) (h2:f.On.length<1048577) (h3:∀p∈f.Params,p.Name.length<1048577):ag ((u32 Pu) f) (λr=>r=true->oE f):=by
 rw[SL,vn,mY _ (by omega),mY _ (by omega),TParam.aB];simp only[aq];refine ag.bif (λ_=>ag.ret λe=>by cases e) (λg1=>?_);refine ag.bif (λ_=>ag.ret λe=>by cases e) (λg2=>?_);refine ag.bif (λ_=>ag.ret λe=>by cases e) (λg3=>?_);refine ag.bif (λ_=>ag.ret λe=>by cases e) (λg4=>?_);refine ag.bif (λ_=>ag.ret λe=>by cases e) (λg5=>?_);have g3:f.Params.length<=8:=by simp at g3;omega
 have h:=kF (L:=λi=>(nz Pu) f i) (P:=λr=>r=true->oE f) (len:=f.Params.length) (λi=>∀(k:Nat) p,k<i->f.Params[k]? =some p->eR p.Name=true/\1<=p.aK/\p.aK<=4/\∀(j:Nat) q,j<k->f.Params[j]? =some q->q.Name≠p.Name) (λi hi hI k=>by
  show ag ((nz Pu) f i) _;obtain⟨x,hx⟩:=bg hi;rw[B2,pM,TParam.aB,aU];have:decide (i<f.Params.length)=true:=by simpa using hi
  rw[this,aO,bc hx,aq,mY _ (by have:=h3 x (bh hx);omega),aq,tO (by omega),aq,O4 _ _ (by rw[gw];omega),aq,bO i (by omega)];refine ag.bif (λ_=>ag.ret λe=>by cases e) (λk1=>?_);refine ag.bif (λ_=>ag.ret λe=>by cases e) (λk2=>?_);refine ag.bif (λ_=>ag.ret λe=>by cases e) (λk3=>?_);refine ag.bif (λ_=>ag.ret λe=>by cases e) (λk4=>k λm p hm hp=>?_);rcases lW.1 hm with h5|rfl
  ·exact hI m p h5 hp
  ·rw[hx]at hp;cases hp;refine⟨by simpa using k1,by simp at k2;omega,by simp at k3;omega,λj q hj hq e=>?_⟩;rw[vO]at k4;exact k4 q (bh (i:=j) (by rw[DU hj];exact hq)) (by simpa using e)) (λhI=>by
  show ag ((nz Pu) f _) _;rw[B2,pM,TParam.aB,aU];have:decide (f.Params.length<f.Params.length)=false:=by simp
  rw[this,a6];exact ag.ret λ_=>⟨by simpa using g1,by simpa using g2,g3,by simp at g4;omega,by simp at g5;omega,λi p hp=>hI i p (cy.1 hp).1 hp⟩) 0 (by omega) (λk p hk=>by omega)
 exact h
