/- What the small functions under types.Valid answer: names, lists, loops. -/
import Derived.Test.YtnocmolegijmkaaGreatKPl
import Derived.Test.YtnocmolegijmkaaGreatKGA3
import Derived.Test.YtnocmolegijmkaaGreatKGk
set_option linter.all false
section
namespace Go.Proofs.YtnocmolegijmkaaGreat
open Go Go.Bw
theorem BG {D:Type} {a:List D} {L:Int->Option Bool} (p:D->Bool) (e:Bool) (hs:∀(i:Nat) x,a[i]? =some x->i<a.length->L (i:Int)=bif p x then L ((i+1:Nat):Int)else some false) (he:L (a.length:Int)=some e):
  L 0=some (a.all p&&e):=by
 have key:∀k i:Nat,k=a.length-i->i<=a.length->L (i:Int)=some ((a.drop i).all p&&e):=by
  intro k
  induction k with
  |zero=>
   intro i hk hi;have:i=a.length:=by omega
   subst this;rw[he];simp
  |succ k ih=>
   intro i hk hi;have hi':i<a.length:=by omega
   obtain⟨x,hx⟩:=bu hi';rw[hs i x hx hi',mn hx,jw];cases p x with
   |false=>rfl
   |true=>simpa using ih (i+1) (by omega) (by omega)
 simpa using key a.length 0 (by omega) (by omega)
def idxOf {D:Type} (p:D->Bool):List D->Int->Int
 |[],_=> -1
 |x::r,i=>bif p x then i else idxOf p r (i+1)
theorem wN {D:Type} {a:List D} {L:Int->Option Int} (p:D->Bool) (hs:∀(i:Nat) x,a[i]? =some x->i<a.length->L (i:Int)=bif p x then some (i:Int)else L ((i+1:Nat):Int)) (he:L (a.length:Int)=some (-1)):
  L 0=some (idxOf p a 0):=by
 have key:∀k i:Nat,k=a.length-i->i<=a.length->L (i:Int)=some (idxOf p (a.drop i) i):=by
  intro k
  induction k with
  |zero=>
   intro i hk hi;have:i=a.length:=by omega
   subst this;rw[he];simp[idxOf]
  |succ k ih=>
   intro i hk hi;have hi':i<a.length:=by omega
   obtain⟨x,hx⟩:=bu hi';rw[hs i x hx hi',mn hx,idxOf];cases p x with
   |true=>rfl
   |false=>simpa using ih (i+1) (by omega) (by omega)
 simpa using key a.length 0 (by omega) (by omega)
theorem sJ {D:Type} (p:D->Bool):∀(a:List D) (j:Nat),(idxOf p a j= -1/\∀x∈a,p x=false)\/∃(i:Nat) (x:D),idxOf p a j=((j+i:Nat):Int)/\a[i]? =some x/\p x=true/\∀k y,k<i->a[k]? =some y->p y=false
 |[],j=> .inl ⟨rfl,by simp⟩
 |x::r,j=>by
  rw[idxOf];cases hp:p x with
  |true=>exact .inr ⟨0,x,by simp,by simp,hp,λk y hk=>by omega⟩
  |false=>
   have h:=sJ p r (j+1);simp only[bl];have e:((j:Nat):Int)+1=((j+1:Nat):Int):=by omega
   rw[e];rcases h with⟨h1,h2⟩|⟨i,y,h1,h2,h3,h4⟩
   ·refine .inl ⟨h1,λz hz=>?_⟩;rcases cu.1 hz with rfl|hz
    ·exact hp
    ·exact h2 z hz
   ·refine .inr ⟨i+1,y,by rw[h1];congr 1;omega,by simpa using h2,h3,λk z hk hz=>?_⟩;cases k with
    |zero=>simp only[mf,ax]at hz;subst hz;exact hp
    |succ k=>exact h4 k z (by omega) (by simpa using hz)
theorem Aq {D:Type} {p:D->Bool} {a:List D}:decide (idxOf p a 0>=0)=a.any p:=by
 rcases sJ p a 0 with⟨h1,h2⟩|⟨i,x,h1,h2,h3,_⟩
 ·have e:idxOf p a 0= -1:=h1;rw[e];have:a.any p=false:=by
   rw[Ag];intro x hx;simp[h2 x hx]
  rw[this];rfl
 ·have e:idxOf p a 0=((0+i:Nat):Int):=h1;rw[e];have:a.any p=true:=vD.2 ⟨x,br h2,h3⟩;rw[this];simp
theorem Q4 (c:UInt8):(yA Pu) (c.toNat:Int)=some (ky c):=by
 rw[VC,ux];unfold ky;have h0:∀n:Nat,(decide ((97:Int)<=(n:Int))=decide (97<=n))/\(decide ((n:Int)<=122)=decide (n<=122))/\(decide ((48:Int)<=(n:Int))=decide (48<=n))/\(decide ((n:Int)<=57)=decide (n<=57))/\(((n:Int)==45)=(n==45)):=λn=>by
  refine⟨?_,?_,?_,?_,?_⟩<;>(rw[ly];simp only[og,beq_iff_eq];omega)
 obtain⟨h1,h2,h3,h4,h5⟩:=h0 c.toNat;rw[h1,h2,h3,h4,h5];cases decide (97<=c.toNat)<;>cases decide (c.toNat<=122)<;>cases decide (48<=c.toNat)<;>cases decide (c.toNat<=57)<;>rfl
def gZ (s:List UInt8):Bool:=match s with
 |[]=>false
 |c::_=>decide (s.length<=16)&&decide (97<=c.toNat)&&decide (c.toNat<=122)&&s.all ky
theorem BF {s:List UInt8}:gZ s=true↔NV s:=by
 cases s with
 |nil=>simp[gZ,NV]
 |cons c r=>simp[gZ,NV,and_assoc]
theorem lE (s:List UInt8) (hs:s.length<9223372036854775807):(mJ Pu) s=some (gZ s):=by
 rw[Xt,u6];cases s with
 |nil=>rfl
 |cons c r=>
  have e0:((((c::r).length:Nat):Int)==0)=false:=by simp;omega
  rw[e0,bl];have hL:(tN Pu) (c::r) 0=some ((c::r).all ky&&true):=by
   refine BG ky true (λi x hx hi=>?_) ?_
   ·rw[Jp,qN];have:decide ((i:Int)<(((c::r).length:Nat):Int))=true:=by simp;simp at hi;omega
    rw[this,a6,bw hx,aE,Q4,aE,cw i (by omega)];cases ky x<;>rfl
   ·rw[Jp,qN];have:decide ((((c::r).length:Nat):Int)<(((c::r).length:Nat):Int))=false:=by simp
    rw[this];rfl
  have hi:aA (c::r:List UInt8) 0=some c:=rfl;rw[hi,hL];simp only[aE,od];have h1:decide ((((c::r).length:Nat):Int)>16)= !decide ((c::r).length<=16):=by rw[ly];simp;omega
  have h2:decide (((c.toNat:Nat):Int)<97)= !decide (97<=c.toNat):=by rw[ly];simp;omega
  have h3:decide (((c.toNat:Nat):Int)>122)= !decide (c.toNat<=122):=by rw[ly];simp;omega
  rw[h1,h2,h3];unfold gZ;simp only;cases decide ((c::r).length<=16)<;>cases decide (97<=c.toNat)<;>cases decide (c.toNat<=122)<;>rfl
theorem sV (a:List (List UInt8)) (x:List UInt8) (ha:a.length<9223372036854775807):(sb Pu) a x=some (idxOf (λy=>x==y) a 0):=by
 rw[Xv,rY];refine wN (λy=>x==y) (λi y hy hi=>?_) ?_
 ·rw[Jq,qO];have:decide ((i:Int)<((aW a).length:Int))=true:=by rw[eh];simp;omega
  rw[this,a6,bw hy,aE,cw i (by omega)]
 ·rw[Jq,qO];have:decide ((a.length:Int)<((aW a).length:Int))=false:=by rw[eh];simp
  rw[this];rfl
theorem contains_eq (a:List (List UInt8)) (x:List UInt8) (ha:a.length<9223372036854775807):(uK Pu) a x=some (a.any λy=>x==y):=by
 rw[VD,uy,sV a x ha,aE,Aq]
theorem BX (a:List (List UInt8)) (x:List UInt8) (ha:a.length<9223372036854775807):(nR Pu) a x=some (a.any λy=>x==y):=by
 rw[VG,uz,contains_eq a x ha];rfl
theorem Hf (a b:List (List UInt8)) (ha:a.length<9223372036854775807) (hb:b.length<9223372036854775807):(pO Pu) a b=some (a.all λx=>b.any λy=>x==y):=by
 rw[Xw,rZ];have h:=BG (a:=a) (L:=λi=>(oN Pu) a b i) (λx=>b.any λy=>x==y) true (λi x hx hi=>by
  show(oN Pu) a b i=_;rw[Jr,qP];have:decide ((i:Int)<((aW a).length:Int))=true:=by rw[eh];simp;omega
  rw[this,a6,bw hx,aE,BX b x hb,aE,cw i (by omega)];cases b.any λy=>x==y<;>rfl) (by
  show(oN Pu) a b _=_;rw[Jr,qP];have:decide ((a.length:Int)<((aW a).length:Int))=false:=by rw[eh];simp
  rw[this];rfl)
 simpa using h
theorem oK (b:Bool) (e:Int):(bL Pu) b e=some (bif b then e else 0):=by
 rw[VA,uv];cases b<;>rfl
theorem bq (n m:Nat):decide (((n:Nat):Int)<(m:Int))=decide (n<m):=by rw[ly];simp only[og];omega
theorem NU {a:List (List UInt8)} {i:Nat} {x y:List UInt8} (hx:a[i]? =some x) (hy:a[i+1]? =some y):rising (a.drop i)=(Op.bytesLess x y&&rising (a.drop (i+1))):=by
 rw[mn hx,mn hy];rfl
theorem wi (a:List (List UInt8)) (ha:a.length<9223372036854775807):(nQ Pu) a=some (rising a):=by
 rw[VE,rC];have key:∀k i:Nat,k=a.length-(i+1)->i+1<=a.length->(tc Pu) a ((i+1:Nat):Int)=some (rising (a.drop i)):=by
  intro k
  induction k with
  |zero=>
   intro i hk hi;have e:i+1=a.length:=by omega
   rw[Bz,oH,eh,bq];have:decide (i+1<a.length)=false:=by simp;omega
   rw[this,bl];obtain⟨x,hx⟩:=bu (by omega:i<a.length);rw[mn hx,show a.drop (i+1)=[]from List.drop_eq_nil_of_le (by omega)];rfl
  |succ k ih=>
   intro i hk hi;obtain⟨x,hx⟩:=bu (by omega:i<a.length);obtain⟨y,hy⟩:=bu (by omega:i+1<a.length);rw[Bz,oH,eh,bq];have:decide (i+1<a.length)=true:=by simp;omega
   have e:IntKind.i64.wrap (((i+1:Nat):Int)-1)=(i:Int):=by rw[wrap64 (by omega) (by omega)];omega
   rw[this,a6,e,bw hx,bw hy,aE,aE,cw (i+1) (by omega),NU hx hy,ih (i+1) (by omega) (by omega)];cases Op.bytesLess x y<;>rfl
 cases a with
 |nil=>rw[Bz,oH];rfl
 |cons x r=>exact key _ 0 rfl (by simp)
def iX (l:ai):Prop:=
 (l.Kind=1\/l.Kind=9)/\l.aB=[]/\l.Names=[]/\l.aY=[]/\l.Lo=0/\l.Hi=0\/
 (l.Kind=2\/l.Kind=3)/\l.aB=[]/\l.Names=[]/\l.aY=[]\/
 (l.Kind=4\/l.Kind=8)/\l.aB=[]/\l.aY=[]/\l.Lo=0/\l.Hi=0\/
 l.Kind=5/\l.aB.length=1/\l.aY=[]/\l.Lo=0/\l.Hi=0\/
 l.Kind=7/\l.aB.length=2/\l.Names=[]/\l.aY=[]/\l.Lo=0/\l.Hi=0\/
 l.Kind=6/\l.aB.length=l.Names.length/\l.Names≠[]/\l.aY=[]/\l.Lo=0/\l.Hi=0\/
 l.Kind=10/\l.aB=[]/\l.Names≠[]/\l.Lo=0/\l.Hi=0
theorem Pa (l:ai):ah ((uJ Pu) l) (λr=>r=0->iX l):=by
 rw[LJ,rB];simp only[oK,aE,eh,ai.aH,aN.aH]
 repeat' (first|refine ah.bif (λ_=>?_) (λ_=>?_)|refine ah.ret (λhr=>?_))
 all_goals (first|(exfalso;revert hr;decide)|(have hn:l.Names≠[]:=(by intro e;rw[e]at hr;revert hr;decide);clear hr;simp at*;simp[iX, *];done)|(have hn:l.Names≠[]:=(by intro e;rw[e]at hr;revert hr;decide);clear hr;simp at*;simp[iX, *];omega)|(simp at*;simp[iX, *];done)|(simp at*;simp[iX, *];omega)|skip)
def yK (l:ai):Prop:=l.Names.length<=(if l.Kind=6 then 8 else if l.Kind=10 then 12 else 32)/\l.aY.length<=32
theorem GB (l:ai):ah ((yy Pu) l) (λr=>r=0↔yK l):=by
 rw[VB,uw];simp only[oK,aE,eh,aN.aH];have e:decide ((l.aY.length:Int)>32)= !decide (l.aY.length<=32):=by rw[ly];simp;omega
 rw[e];unfold yK
 repeat' (first|refine ah.bif (λh=>?_) (λh=>?_)|refine ah.ret ?_)
 all_goals (simp at*;first|omega|(cases hd:decide (l.aY.length<=32)<;>simp at hd<;>simp[*]<;>omega))
theorem Oy (l:ai):ah ((uM Pu) l) (λr=>r=0-> -1000000000<=l.Lo/\l.Lo<=l.Hi/\l.Hi<=1000000000):=by
 rw[LL,rD];simp only[oK,aE]
 repeat' (first|refine ah.bif (λ_=>?_) (λ_=>?_)|refine ah.ret (λhr=>?_))
 all_goals (first|(exfalso;revert hr;decide)|(cases h5:decide (l.Hi>1000000000)<;>rw[h5]at hr<;>simp at* <;>omega))
theorem H4 {l:ai} {p:ai} (h:p∈l.aB):SizeOf.sizeOf p<SizeOf.sizeOf l:=by
 cases l;have:=List.sizeOf_lt_of_mem h;simp only[ai.mk.sizeOf_spec]at*
 omega
inductive mM:ai->Prop
 |one {l:ai}:(l.Kind=1\/l.Kind=2\/l.Kind=3)->mM l
 |lex {l p q:ai}:l.Kind=7->l.aB=[p,q]->mM p->mM q->mM l
theorem AX:∀(n:Nat) (l:ai),SizeOf.sizeOf l<=n->ah ((pz Pu) l) (λr=>r=true->mM l)
 |0,l,h=>by cases l;simp only[ai.mk.sizeOf_spec]at h;omega
 |n+1,l,h=>by
  rw[EA,px,ai.aH];refine ah.bif (λh1=>ah.ret λ_=> .one (.inl (by simpa using h1))) (λ_=>?_);refine ah.bif (λh1=>ah.ret λ_=> .one (.inr (.inl (by simpa using h1)))) (λ_=>?_);refine ah.bif (λh1=>ah.ret λ_=> .one (.inr (.inr (by simpa using h1)))) (λ_=>?_);refine ah.bif (λh7=>?_) (λ_=>ah.ret λh=>by cases h);refine ah.bif (λh2=>?_) (λ_=>ah.ret λh=>by cases h);have h2:l.aB.length=2:=by simp at h2;omega
  obtain⟨p,q,e⟩:∃p q,l.aB=[p,q]:=by
   match hp:l.aB,h2 with
   |[p,q],_=>exact⟨p,q,rfl⟩
  have hp:SizeOf.sizeOf p<SizeOf.sizeOf l:=H4 (by rw[e];simp);have hq:SizeOf.sizeOf q<SizeOf.sizeOf l:=H4 (by rw[e];simp);have e0:aA l.aB 0=some p:=by rw[e];rfl
  have e1:aA l.aB 1=some q:=by rw[e];rfl
  rw[e0,e1];simp only[aE];refine ah.bind (AX n p (by omega)) (λy hy=>?_);refine ah.bif (λhb=>?_) (λ_=>ah.ret λh=>by cases h);refine ah.bind (AX n q (by omega)) (λz hz=>ah.ret λh=> .lex (by simpa using h7) e (hy hb) (hz h))
theorem Oz (l:ai) (hs:iX l):ah ((uN Pu) l) (λr=>r=0->l.Kind=7->∃p,l.aB[0]? =some p/\mM p):=by
 rw[LM,rE];simp only[oK,aE];refine ah.bif (λh7=>?_) (λh7=>ah.ret λ_ h=>by simp at h7;exact absurd h h7);have h2:l.aB.length=2:=by
  simp at h7;simp[iX,h7]at hs;exact hs.1
 obtain⟨p,hp⟩:=bu (l:=l.aB) (i:=0) (by omega);have e0:aA l.aB 0=some p:=hp;rw[e0,aE];refine ah.bind (AX _ p (bC _)) (λy hy=>ah.ret λhr _=>⟨p,hp,hy ?_⟩);cases y with
 |true=>rfl
 |false=>revert hr;decide
theorem R1 (l:List Int) (hl:l.length<9223372036854775807):ah ((uO Pu) l) (λr=>r=0->∀x∈l,x=0):=by
 rw[LN,py];have:=mj (L:=λi=>(lH Pu) l i) (P:=λr=>r=0->∀x∈l,x=0) (len:=l.length) (λi=>∀j x,j<i->l[j]? =some x->x=0) (λi hi hI k=>by
  show ah ((lH Pu) l i) _;obtain⟨x,hx⟩:=bu hi;rw[xb,nh,oy,bq];have:decide (i<l.length)=true:=by simpa using hi
  rw[this,a6,bw hx,aE,cw i (by omega)];refine ah.bif (λh=>ah.ret λe=>by simp at h;exact absurd e h) (λh=>k λj y hj hy=>?_);rcases sx.1 hj with h1|rfl
  ·exact hI j y h1 hy
  ·rw[hx]at hy;cases hy;simpa using h) (λhI=>by
  show ah ((lH Pu) l _) _;rw[xb,nh,oy,bq];have:decide (l.length<l.length)=false:=by simp
  rw[this,bl];refine ah.ret λ_ x hx=>?_;obtain⟨j,hj⟩:=jW hx;exact hI j x (cX.1 hj).1 hj) 0 (by omega) (λj x hj=>by omega)
 exact this
theorem P5 {l:ai} (h:iX l):(uJ Pu) l=some 0:=by
 rw[LJ,rB];simp only[oK,aE,eh,ai.aH,aN.aH];have ne:∀{D:Type} {a:List D},a≠[]->((a.length:Int)==0)=false:=λ{D a} h=>by cases a;exact absurd rfl h;simp;omega
 rcases h with⟨h1|h1,h2,h3,h4,h5,h6⟩|⟨h1|h1,h2,h3,h4⟩|⟨h1|h1,h2,h3,h4,h5⟩|⟨h1,h2,h3,h4,h5⟩|⟨h1,h2,h3,h4,h5,h6⟩|⟨h1,h2,h3,h4,h5,h6⟩|⟨h1,h2,h3,h4,h5⟩<;>simp[*]
theorem Pb {l:ai} (h: -1000000000<=l.Lo/\l.Lo<=l.Hi/\l.Hi<=1000000000):(uM Pu) l=some 0:=by
 rw[LL,rD];simp only[oK,aE];obtain⟨h1,h2,h3⟩:=h;have e1:¬l.Lo>l.Hi:=by omega
 have e2:¬l.Lo< -1000000000:=by omega
 have e3:¬l.Lo>1000000000:=by omega
 have e4:¬l.Hi< -1000000000:=by omega
 have e5:¬l.Hi>1000000000:=by omega
 simp[e1,e2,e3,e4,e5]
theorem P8 {l:ai} (h:mM l):(pz Pu) l=some true:=by
 induction h with
 |one hk=>
  rw[EA,px];rcases hk with hk|hk|hk<;>simp[hk]
 |lex hk hp _ _ i1 i2=>
  rw[EA,px,ai.aH,hp];simp[hk,aA,i1,i2]
theorem Pc {l:ai} (h:l.Kind=7->∃p,l.aB[0]? =some p/\mM p):(uN Pu) l=some 0:=by
 rw[LM,rE];simp only[oK,aE];by_cases h7:l.Kind=7
 ·obtain⟨p,hp,hc⟩:=h h7;have e0:aA l.aB 0=some p:=hp;rw[e0];simp[h7,P8 hc]
 ·have:(l.Kind==7)=false:=by simpa using h7
  rw[this];rfl
theorem T1 (l:List Int) (hl:l.length<9223372036854775807) (h:∀x∈l,x=0):(uO Pu) l=some 0:=by
 rw[LN,py];have:=mj (L:=λi=>(lH Pu) l i) (P:=λr=>r=0) (len:=l.length) (λ_=>True) (λi hi hI k=>by
  show ah ((lH Pu) l i) _;obtain⟨x,hx⟩:=bu hi;rw[xb,nh,oy,bq];have:decide (i<l.length)=true:=by simpa using hi
  rw[this,a6,bw hx,aE,cw i (by omega)];have e:=h x (br hx);refine ah.bif (λh=>?_) (λh=>k trivial);subst e;cases h) (λhI=>by
  show ah ((lH Pu) l _) _;rw[xb,nh,oy,bq];have:decide (l.length<l.length)=false:=by simp
  rw[this,bl];exact ah.ret rfl) 0 (by omega) trivial
 exact ah.of this
def ug (names:List (List UInt8)) (r:aN):Prop:=r.If≠[]/\rising r.If=true/\(r.If.all λx=>names.any λy=>x==y)=true/\(names.any λy=>r.fO==y)=true
def q7 (l:ai):Prop:=(∀s∈l.Names,gZ s=true)/\(l.Kind≠6->rising l.Names=true)/\(l.Kind=6->∀(i:Nat) s,l.Names[i]? =some s->((l.Names.take i).any λy=>s==y)=false)/\∀r∈l.aY,ug l.Names r
mutual
def la:ai->Nat
 |⟨_,_,_,_,ps,_⟩=>1+fj ps
def fj:List ai->Nat
 |[]=>0
 |p::ps=>la p+fj ps
end
mutual
def kx:ai->Nat
 |⟨_,_,_,_,ps,_⟩=>1+lV ps
def lV:List ai->Nat
 |[]=>0
 |p::ps=>max (kx p) (lV ps)
end
theorem xm (l:ai):la l=1+fj l.aB:=by cases l;rw[la]
theorem tn (l:ai):kx l=1+lV l.aB:=by cases l;rw[kx]
theorem Hd:∀{ps:List ai} {p:ai},p∈ps->la p<=fj ps
 |q::ps,p,h=>by
  rw[fj];rcases cu.1 h with rfl|h
  ·omega
  ·have:=Hd h;omega
theorem AW:∀{ps:List ai} {p:ai},p∈ps->kx p<=lV ps
 |q::ps,p,h=>by
  rw[lV];rcases cu.1 h with rfl|h
  ·omega
  ·have:=AW h;omega
theorem H0 {n:Nat}:∀{ps:List ai},(∀p∈ps,kx p<=n)->lV ps<=n
 |[],_=>by rw[lV];omega
 |p::ps,h=>by
  rw[lV];have h1:=h p (by simp);have h2:=H0 (ps:=ps) (n:=n) λq hq=>h q (by simp[hq]);omega
theorem GA {ps:List ai}:∀{i:Nat} {p:ai},ps[i]? =some p->fj (ps.take (i+1))=fj (ps.take i)+la p:=by
 induction ps with
 |nil=>intro i p h;simp at h
 |cons q ps ih=>
  intro i p h;cases i with
  |zero=>simp only[mf,ax]at h;subst h;simp[fj]
  |succ i=>
   simp only[mS]at h;have:=ih h;rw[vA,vA,fj,fj,this];omega
theorem Nv {ps:List ai} (i:Nat):fj (ps.take i)<=fj ps:=by
 induction ps generalizing i with
 |nil=>simp
 |cons q ps ih=>
  cases i with
  |zero=>simp[fj]
  |succ i=>rw[vA,fj,fj];have:=ih i;omega
inductive nU:ai->Prop
 |mk {l:ai}:iX l->yK l->q7 l->(-1000000000<=l.Lo/\l.Lo<=l.Hi/\l.Hi<=1000000000)->(l.Kind=7->∃p,l.aB[0]? =some p/\mM p)->(∀p∈l.aB,nU p)->nU l
structure dO (l:ai):Prop where
 i:nU l
 er:la l<=64
 dep:kx l<=6
theorem dO.part {l p:ai} (h:dO l) (hp:p∈l.aB):dO p:=by
 have h1:=h.er;have h2:=h.dep;rw[xm]at h1;rw[tn]at h2;have h3:=Hd hp;have h4:=AW hp;exact⟨by have h:=h.i;cases h with|mk _ _ _ _ _ h=>exact h p hp,by omega,by omega⟩
theorem dO.shape {l:ai} (h:dO l):iX l:=by have h:=h.i;cases h;assumption
theorem dO.names {l:ai} (h:dO l):q7 l:=by have h:=h.i;cases h;assumption
theorem xn {D:Type} {l:List D} {i:Nat} (h:i<=l.length):oW l 0 (i:Int)=some (l.take i):=by
 have:oW l ((0:Nat):Int) (i:Int)=some (l.take i):=by
  show(bif Nat.ble 0 i&&Nat.ble i l.length then some ((l.take i).drop 0)else none)=_;rw[zX (mP i),zX h];rfl
 exact this
section
variable {B:Nat} (hB:B<1099511627776)
include hB
theorem He {l:ai} (hl:l.ok B) (L:Int->Option Int) (hL:∀s,L s=(bif decide (s<(↑(aN.rows l.aY).length:Int))then((aA (l.aY) (s)).bind λx=>(bif (↑(aW x.If).length:Int)==0 then(some (3))else(((nQ Pu) (x.If)).bind λy=>(bif !y then(some (3))else(((pO Pu) (x.If) (l.Names)).bind λz=>(bif !z then(some (3))else(((nR Pu) (l.Names) (x.fO)).bind λu=>(bif !u then(some (3))else(L (IntKind.i64.wrap (s+1)))))))))))else(some (0)))):
  ah (L 0) (λr=>r=0->∀x∈l.aY,ug l.Names x):=by
 rw[ai.cY]at hl;obtain⟨_,_,_,⟨hn,_⟩,_,⟨hr,hrr⟩⟩:=hl;have h:=mj (L:=L) (P:=λr=>r=0->∀x∈l.aY,ug l.Names x) (len:=l.aY.length) (λi=>∀j x,j<i->l.aY[j]? =some x->ug l.Names x) (λi hi hI k=>by
  obtain⟨x,hx⟩:=bu hi;have hxo:=hrr x (br hx);rw[hL,aN.aH,bq];have:decide (i<l.aY.length)=true:=by simpa using hi
  rw[this,a6,bw hx,aE,eh,wi _ (by have:=hxo.1.1;omega),Hf _ _ (by have:=hxo.1.1;omega) (by omega),BX _ _ (by omega),cw i (by omega)];simp only[aE];refine ah.bif (λ_=>ah.ret λe=>by cases e) (λh1=>?_);refine ah.bif (λ_=>ah.ret λe=>by cases e) (λh2=>?_);refine ah.bif (λ_=>ah.ret λe=>by cases e) (λh3=>?_);refine ah.bif (λ_=>ah.ret λe=>by cases e) (λh4=>?_);refine k λj y hj hy=>?_;rcases sx.1 hj with h5|rfl
  ·exact hI j y h5 hy
  ·rw[hx]at hy;cases hy;refine⟨λe=>?_,by simpa using h2,by simpa only[FI]using h3,by simpa only[FI]using h4⟩;rw[e]at h1;simp at h1) (λhI=>by
  rw[hL,aN.aH,bq];have:decide (l.aY.length<l.aY.length)=false:=by simp
  rw[this,bl];refine ah.ret λ_ x hx=>?_;obtain⟨j,hj⟩:=jW hx;exact hI j x (cX.1 hj).1 hj) 0 (by omega) (λj x hj=>by omega)
 exact h
theorem NI {l:ai} (hl:l.ok B):ah ((uL Pu) l) (λr=>r=0->q7 l):=by
 rw[LK,pw];have hl':=hl;rw[ai.cY]at hl;obtain⟨_,_,_,⟨hn,hnn⟩,_,⟨hr,hrr⟩⟩:=hl;have h:=mj (L:=λi=>(kO Pu) l 0 i) (P:=λr=>r=0->q7 l) (len:=l.Names.length) (λi=>(∀j s,j<i->l.Names[j]? =some s->gZ s=true)/\(l.Kind=6->∀j s,j<i->l.Names[j]? =some s->((l.Names.take j).any λy=>s==y)=false)) (λi hi hI k=>by
  show ah ((kO Pu) l 0 i) _;obtain⟨x,hx⟩:=bu hi;rw[xa,ng,eh,bq];have:decide (i<l.Names.length)=true:=by simpa using hi
  have hxl:=hnn x (br hx);rw[this,a6,bw hx,aE,lE x (by omega),aE,cw i (by omega),xn (by omega),aE,contains_eq _ _ (by rw[iS];omega),aE];refine ah.bif (λ_=>ah.ret λe=>by cases e) (λh1=>?_);have h1:gZ x=true:=by simpa using h1
  have nv:∀j s,j<i+1->l.Names[j]? =some s->gZ s=true:=λj s hj hs=>by
   rcases sx.1 hj with h5|rfl
   ·exact hI.1 j s h5 hs
   ·rw[hx]at hs;cases hs;exact h1
  refine ah.bif (λh6=>?_) (λh6=>k ⟨nv,λe=>by simp at h6;exact absurd e h6⟩);refine ah.bif (λ_=>ah.ret λe=>by cases e) (λh7=>k ⟨nv,λe j s hj hs=>?_⟩);rcases sx.1 hj with h5|rfl
  ·exact hI.2 e j s h5 hs
  ·rw[hx]at hs;cases hs;exact h7) (λhI=>by
  show ah ((kO Pu) l 0 _) _;rw[xa,ng,eh,bq];have:decide (l.Names.length<l.Names.length)=false:=by simp
  rw[this,bl];have nv:∀s∈l.Names,gZ s=true:=λs hs=>by
   obtain⟨j,hj⟩:=jW hs;exact hI.1 j s (cX.1 hj).1 hj
  have di:l.Kind=6->∀(i:Nat) s,l.Names[i]? =some s->((l.Names.take i).any λy=>s==y)=false:=λe i s hs=>hI.2 e i s (cX.1 hs).1 hs;rw[wi _ (by omega)];refine ah.bif (λh6=>?_) (λh6=>?_)
  ·rw[aE];refine ah.bif (λ_=>ah.ret λe=>by cases e) (λh8=>?_);exact(He hB hl' _ (λs=>Iv l s)).mono λr h e=>⟨nv,λ_=>by simpa using h8,di,h e⟩
  ·exact(He hB hl' _ (λs=>Iw l s)).mono λr h e=>⟨nv,λh9=>by simp at h6;exact absurd h6 h9,di,h e⟩) 0 (by omega) ⟨λj s hj=>by omega,λ_ j s hj=>by omega⟩
 exact h
theorem Hg:∀(n:Nat) (c:cN) (l:ai) (d:Int),l.ok B->0<=c.nodes->c.nodes<=64->(6-d+1).toNat<=n->d<=7->0<=d->ah ((sd Pu) c l d) (λr=>0<=r.2.nodes/\r.2.nodes<=64/\(r.1=0->nU l/\r.2.nodes=c.nodes+la l/\d+kx l<=7))
 |n,c,l,d,hl,h0,h1,hn,hd,hd0=>by
  rw[MJ,r6];refine ah.bif (λ_=>ah.ret ⟨h0,h1,λe=>by cases e⟩) (λh6=>?_);have h6:d<=6:=by simp at h6;omega
  match n,hn with
  |0,hn=>omega
  |n+1,hn=>
  refine ah.bif (λ_=>ah.ret ⟨h0,h1,λe=>by cases e⟩) (λh64=>?_);have h64:c.nodes<64:=by simp at h64;omega
  have hw:IntKind.i64.wrap (c.nodes+1)=c.nodes+1:=wrap64 (by omega) (by omega);have hwd:IntKind.i64.wrap (d+1)=d+1:=wrap64 (by omega) (by omega);rw[hw];refine ah.bind (Pa l) (λy3 hs=>?_);refine ah.bif (λhne=>ah.ret ⟨by simp;omega,by simp;omega,λe=>by simp at hne;exact absurd e hne⟩) (λh3=>?_);have hs:=hs (by simpa using h3);refine ah.bind (GB l) (λy5 hli=>?_);refine ah.bind (NI hB hl) (λy6 hsp=>?_);refine ah.bind (Oy l) (λy7 hra=>?_);refine ah.bind (Oz l hs) (λy8 hch=>?_);refine ah.bind (R1 _ (by simp)) (λy9 hor=>?_);refine ah.bif (λhne=>ah.ret ⟨by simp;omega,by simp;omega,λe=>by simp at hne;exact absurd e hne⟩) (λh9=>?_);have hor:=hor (by simpa using h9);have e5:y5=0:=hor y5 (by simp);have e6:y6=0:=hor y6 (by simp);have e7:y7=0:=hor y7 (by simp);have e8:y8=0:=hor y8 (by simp);have hl':=hl;rw[ai.cY]at hl';obtain⟨_,_,_,_,⟨hpl,hp⟩,_⟩:=hl';have h:=iU (L:=λi b=>(lL Pu) l d i b) (P:=λr=>0<=r.2.nodes/\r.2.nodes<=64/\(r.1=0->nU l/\r.2.nodes=c.nodes+la l/\d+kx l<=7)) (len:=l.aB.length) (λi b=>0<=b.nodes/\b.nodes<=64/\b.nodes=c.nodes+1+fj (l.aB.take i)/\∀j p,j<i->l.aB[j]? =some p->nU p/\d+1+kx p<=7) (λi b hi hI k=>by
   show ah ((lL Pu) l d i b) _;obtain⟨x,hx⟩:=bu hi;rw[xA,nB,ai.aH,bq];have:decide (i<l.aB.length)=true:=by simpa using hi
   rw[this,a6,bw hx,aE,cw i (by omega),hwd];refine ah.bind (Hg n b x (d+1) (ai.gO hp (br hx)) hI.1 hI.2.1 (by omega) (by omega) (by omega)) (λy hy=>?_);refine ah.bif (λhne=>ah.ret ⟨hy.1,hy.2.1,λe=>by simp at hne;exact absurd e hne⟩) (λhz=>?_);have hy3:=hy.2.2 (by simpa using hz);refine k _ ⟨hy.1,hy.2.1,by rw[GA hx];have:=hI.2.2.1;omega,λj p hj hp'=>?_⟩;rcases sx.1 hj with h5|rfl
   ·exact hI.2.2.2 j p h5 hp'
   ·rw[hx]at hp';cases hp';exact⟨hy3.1,hy3.2.2⟩) (λb hI=>by
   show ah ((lL Pu) l d _ b) _;rw[xA,nB,ai.aH,bq];have:decide (l.aB.length<l.aB.length)=false:=by simp
   rw[this,bl];have all:∀p∈l.aB,nU p/\d+1+kx p<=7:=λp hp'=>by
    obtain⟨j,hj⟩:=jW hp';exact hI.2.2.2 j p (cX.1 hj).1 hj
   refine ah.ret ⟨hI.1,hI.2.1,λ_=>⟨.mk hs (hli.1 e5) (hsp e6) (hra e7) (hch e8) λp hp'=>(all p hp').1,?_,?_⟩⟩
   ·show b.nodes=_;rw[xm];have:=hI.2.2.1;rw[kH]at this;omega
   ·rw[tn];have:lV l.aB<=(6-d).toNat:=H0 λp hp'=>by have:=(all p hp').2;omega
    omega) 0 {nodes:=c.nodes+1} (by omega) ⟨by simp;omega,by simp;omega,by simp[fj],λj p hj=>by omega⟩
  exact h
theorem H2 {l:ai} (hl:l.ok B) (h:∀r∈l.aY,ug l.Names r) (L:Int->Option Int) (hL:∀s,L s=(bif decide (s<(↑(aN.rows l.aY).length:Int))then((aA (l.aY) (s)).bind λx=>(bif (↑(aW x.If).length:Int)==0 then(some (3))else(((nQ Pu) (x.If)).bind λy=>(bif !y then(some (3))else(((pO Pu) (x.If) (l.Names)).bind λz=>(bif !z then(some (3))else(((nR Pu) (l.Names) (x.fO)).bind λu=>(bif !u then(some (3))else(L (IntKind.i64.wrap (s+1)))))))))))else(some (0)))):L 0=some 0:=by
 rw[ai.cY]at hl;obtain⟨_,_,_,⟨hn,_⟩,_,⟨hr,hrr⟩⟩:=hl;refine ah.of (mj (L:=L) (P:=λr=>r=0) (len:=l.aY.length) (λ_=>True) (λi hi _ k=>?_) (λ_=>?_) 0 (by omega) trivial)
 ·obtain⟨x,hx⟩:=bu hi;have hm:=br hx;have hxo:=hrr x hm;obtain⟨r1,r2,r3,r4⟩:=h x hm;rw[hL,aN.aH,bq];have:decide (i<l.aY.length)=true:=by simpa using hi
  have e1:((x.If.length:Int)==0)=false:=by cases hf:x.If;exact absurd hf r1;simp;omega
  rw[this,a6,bw hx,aE,eh,wi _ (by have:=hxo.1.1;omega),Hf _ _ (by have:=hxo.1.1;omega) (by omega),BX _ _ (by omega),cw i (by omega),e1,r2,r3,r4];exact k trivial
 ·rw[hL,aN.aH,bq];have:decide (l.aY.length<l.aY.length)=false:=by simp
  rw[this,bl];exact ah.ret rfl
theorem NT {l:ai} (hl:l.ok B) (h:q7 l):(uL Pu) l=some 0:=by
 rw[LK,pw];have hl':=hl;rw[ai.cY]at hl;obtain⟨_,_,_,⟨hn,hnn⟩,_,⟨hr,hrr⟩⟩:=hl;obtain⟨n1,n2,n3,n4⟩:=h;refine ah.of (mj (L:=λi=>(kO Pu) l 0 i) (P:=λr=>r=0) (len:=l.Names.length) (λ_=>True) (λi hi _ k=>?_) (λ_=>?_) 0 (by omega) trivial)
 ·show ah ((kO Pu) l 0 i) _;obtain⟨x,hx⟩:=bu hi;have hm:=br hx;rw[xa,ng,eh,bq];have:decide (i<l.Names.length)=true:=by simpa using hi
  have hxl:=hnn x hm;rw[this,a6,bw hx,aE,lE x (by omega),aE,cw i (by omega),xn (by omega),aE,contains_eq _ _ (by rw[iS];omega),aE,n1 x hm];refine ah.bif (λe=>by cases e) (λ_=>?_);refine ah.bif (λh6=>?_) (λ_=>k trivial);rw[n3 (by simpa using h6) i x hx];exact k trivial
 ·show ah ((kO Pu) l 0 _) _;rw[xa,ng,eh,bq];have:decide (l.Names.length<l.Names.length)=false:=by simp
  rw[this,bl,wi _ (by omega)];refine ah.bif (λh6=>?_) (λh6=>?_)
  ·rw[aE,n2 (by simpa using h6)];exact ah.eq (H2 hB hl' n4 _ (λs=>Iv l s))
  ·exact ah.eq (H2 hB hl' n4 _ (λs=>Iw l s))
theorem H3:∀(n:Nat) (c:cN) (l:ai) (d:Int),nU l->l.ok B->0<=c.nodes->c.nodes+la l<=64->kx l<=n->d+kx l<=7->0<=d->(sd Pu) c l d=some (0,{nodes:=c.nodes+la l})
 |0,c,l,d,h,hl,h0,h1,hn,hd,hd0=>by rw[tn]at hn;omega
 |n+1,c,l,d,h,hl,h0,h1,hn,hd,hd0=>by
  rw[MJ,r6];have hdd:=tn l;have hcc:=xm l;have e1:decide (d>6)=false:=by simp;omega
  have e2:decide (c.nodes>=64)=false:=by simp;omega
  have hw:IntKind.i64.wrap (c.nodes+1)=c.nodes+1:=wrap64 (by omega) (by omega);have hwd:IntKind.i64.wrap (d+1)=d+1:=wrap64 (by omega) (by omega);cases h with
  |mk hs hli hsp hra hch hpp=>
  obtain⟨y5,e5,h5⟩:=GB l;rw[h5.2 hli]at e5;rw[hw,e1,e2,P5 hs,e5,NT hB hl hsp,Pb hra,Pc hch];simp only[bl,aE,T1 [0,0,0,0] (by simp) (by simp)];have hl':=hl;rw[ai.cY]at hl';obtain⟨_,_,_,_,⟨hpl,hp⟩,_⟩:=hl';have h:=iU (L:=λi b=>(lL Pu) l d i b) (P:=λr=>r=(0,{nodes:=c.nodes+la l})) (len:=l.aB.length) (λi b=>b.nodes=c.nodes+1+fj (l.aB.take i)) (λi b hi hI k=>by
   show ah ((lL Pu) l d i b) _;obtain⟨x,hx⟩:=bu hi;have hm:=br hx;rw[xA,nB,ai.aH,bq];have:decide (i<l.aB.length)=true:=by simpa using hi
   have t1:=GA hx;have t2:=Nv (ps:=l.aB) (i+1);have t3:=AW hm;rw[this,a6,bw hx,aE,cw i (by omega),hwd,H3 n b x (d+1) (hpp x hm) (ai.gO hp hm) (by omega) (by omega) (by omega) (by omega) (by omega),aE];exact k _ (by simp only;rw[hI,t1];omega)) (λb hI=>by
   show ah ((lL Pu) l d _ b) _;rw[xA,nB,ai.aH,bq];have:decide (l.aB.length<l.aB.length)=false:=by simp
   rw[this,bl];rw[kH]at hI;refine ah.ret ?_;cases b with|mk bn=>simp only at hI⊢;rw[hI,hcc];simp;omega) 0 {nodes:=c.nodes+1} (by omega) (by simp[fj])
  exact ah.of h
theorem O9 {l:ai} (hl:l.ok B):ah ((ve Pu) l) (λr=>r=0->dO l):=by
 rw[MK,r7];exact ah.bind (Hg hB 7 _ l 1 hl (by simp) (by simp) (by decide) (by decide) (by decide)) (λy hy=>ah.ret λe=>by
  obtain⟨h1,h2,h3⟩:=hy.2.2 e;have h4:=hy.2.1;exact⟨h1,by simp at h2;omega,by omega⟩)
theorem P6 {l:ai} (hl:l.ok B) (h:dO l):(ve Pu) l=some 0:=by
 rw[MK,r7,H3 hB 7 _ l 1 h.i hl (by simp) (by have:=h.er;simp;omega) (by have:=h.dep;omega) (by have:=h.dep;omega) (by decide)];rfl
end
end Go.Proofs.YtnocmolegijmkaaGreat
end

section
namespace Go.Proofs.YtnocmolegijmkaaGreat
open Go Go.Bw
theorem mm {i:Nat} (h:i<9223372036854775807):IntKind.i64.wrap ((i:Int)+1)=((i+1:Nat):Int):=cw i h
theorem ai.ind {P:ai->Prop} (h:∀x:ai,(∀k∈x.aB,P k)->P x):∀x,P x:=by
 intro x;refine ai.rec (motive_1:=P) (motive_2:=λks=>∀k∈ks,P k) ?_ ?_ ?_ x
 ·intro k lo hi ns ps rs ih;exact h ⟨k,lo,hi,ns,ps,rs⟩ ih
 ·intro k hk;cases hk
 ·intro k ks h1 h2 x hx;rcases cu.1 hx with rfl|hx
  ·exact h1
  ·exact h2 x hx
def iJ (a b:aN):Bool:=a.fO==b.fO&&a.If==b.If
mutual
def gX:ai->ai->Bool
 |⟨k,lo,hi,ns,ps,rs⟩,⟨k',lo',hi',ns',ps',rs'⟩=>k==k'&&(lo==lo'&&(hi==hi'&&(ns==ns'&&((rs.length==rs'.length&&(rs.zip rs').all (λq=>iJ q.1 q.2))&&iC ps ps'))))
def iC:List ai->List ai->Bool
 |[],[]=>true
 |x::r,y::s=>gX x y&&iC r s
 |_,_=>false
end
theorem AT:∀{a b:List ai},a.length=b.length->iC a b=(a.zip b).all (λq=>gX q.1 q.2)
 |[],[],_=>rfl
 |x::a,y::b,h=>by rw[iC,vE,jw,AT (by simpa using h)]
 |[],_::_,h=>by simp at h
 |_::_,[],h=>by simp at h
theorem AU:∀{a b:List ai},a.length≠b.length->iC a b=false
 |[],[],h=>absurd rfl h
 |x::a,y::b,h=>by rw[iC,AU (by simpa using h),Ni]
 |[],_::_,_=>rfl
 |_::_,[],_=>rfl
variable {B:Nat} (hB:B<=1048576)
section
include hB
theorem Gz {f:List (List UInt8)->List (List UInt8)->Option Bool} {L:List (List UInt8)->List (List UInt8)->Int->Option Bool} (hf:∀a b,f a b=(bif (↑(aW a).length:Int) !=(↑(aW b).length:Int)then(some (false))else L a b 0))
  (hL:∀a b s,L a b s=(bif decide (s<(↑(aW a).length:Int))then((aA (a) (s)).bind λx=>((aA (b) (s)).bind λy=>(bif !(x==y)then(some (false))else(L a b (IntKind.i64.wrap (s+1))))))else(some (true))))
  {a b:List (List UInt8)} (ha:a.length<=B):f a b=some (a==b):=by
 rw[hf];simp only[eh];by_cases hl:a.length=b.length
 ·have h0:((a.length:Int) !=(b.length:Int))=false:=by simp[hl]
  rw[h0];show L a b 0=_;rw[mZ (a:=a) (b:=b) (L:=L a b) (λx y=>x==y) true hl ?_ ?_,od,RX hl]
  ·intro i x y hx hy hi;rw[hL,eh,mm (by omega)];have h1:decide ((i:Int)<(a.length:Int))=true:=by simpa using hi
   rw[h1,bw hx,bw hy];show(bif !(x==y)then _ else _)=_;cases (x==y)<;>rfl
  ·rw[hL,eh];simp
 ·have h0:((a.length:Int) !=(b.length:Int))=true:=by simp;omega
  rw[h0];have:(a==b)=false:=by
   cases h:a==b with
   |false=>rfl
   |true=>exact absurd (congrArg List.length (eq_of_beq h)) hl
  rw[this];rfl
theorem MQ {a b:List (List UInt8)} (ha:a.length<=B):(uQ Pu) a b=some (a==b):=Gz hB VO QJ ha
theorem XQ {a b:aN} (ha:a.ok B):(uR Pu) a b=some (iJ a b):=by
 rw[VP,uG,MQ hB ha.1.1,iJ];cases a.fO==b.fO<;>rfl
theorem XR {a b:List aN} (hl:a.length<=B) (ha:∀x∈a,x.ok B):(wG Pu) a b=some (a.length==b.length&&(a.zip b).all (λq=>iJ q.1 q.2)):=by
 rw[PS,sT];simp only[aN.aH];by_cases h:a.length=b.length
 ·have h0:((a.length:Int) !=(b.length:Int))=false:=by simp[h]
  rw[h0];show(p6 Pu) a b 0=_;rw[mZ (a:=a) (b:=b) (L:=(p6 Pu) a b) iJ true h ?_ ?_]
  ·simp[h]
  ·intro i x y hx hy hi;rw[F',p7,aN.aH,mm (by omega)];have h1:decide ((i:Int)<(a.length:Int))=true:=by simpa using hi
   rw[h1,bw hx,bw hy];show(((uR Pu) x y).bind _)=_;rw[XQ hB (ha x (br hx))];show(bif !(iJ x y)then _ else _)=_;cases iJ x y<;>rfl
  ·rw[F',p7,aN.aH];simp
 ·have h0:((a.length:Int) !=(b.length:Int))=true:=by simp;omega
  rw[h0];simp[h]
theorem XP:∀a b:ai,a.ok B->(rL Pu) a b=some (gX a b):=by
 refine ai.ind ?_;intro a ih b ha;rw[ai.cY]at ha;obtain⟨_,_,_,hn,hp,hr⟩:=ha;rw[VQ,uH,MQ hB hn.1,XR hB hr.1 hr.2];have h96:(wH Pu) a.aB b.aB=some (iC a.aB b.aB):=by
  rw[PT,sU];simp only[ai.aH];by_cases h:a.aB.length=b.aB.length
  ·have h0:((a.aB.length:Int) !=(b.aB.length:Int))=false:=by simp[h]
   rw[h0];show(qa Pu) a.aB b.aB 0=_;rw[mZ (a:=a.aB) (b:=b.aB) (L:=(qa Pu) a.aB b.aB) gX true h ?_ ?_]
   ·rw[AT h,od]
   ·intro i x y hx hy hi;rw[Ga,qb,ai.aH,mm (by omega)];have h1:decide ((i:Int)<(a.aB.length:Int))=true:=by simpa using hi
    have hx':=br hx;rw[h1,bw hx,bw hy];show(((rL Pu) x y).bind _)=_;rw[ih x hx' y (ai.gO hp.2 hx')];show(bif !(gX x y)then _ else _)=_;cases gX x y<;>rfl
   ·rw[Ga,qb,ai.aH];simp
  ·have h0:((a.aB.length:Int) !=(b.aB.length:Int))=true:=by simp;omega
   rw[h0,AU h];rfl
 rw[h96];obtain⟨k,lo,hi,ns,ps,rs⟩:=a;obtain⟨k',lo',hi',ns',ps',rs'⟩:=b;simp only[gX];generalize (k==k')=c1;generalize (lo==lo')=c2;generalize (hi==hi')=c3;generalize (ns==ns')=c4;generalize (rs.length==rs'.length&&(rs.zip rs').all λq=>iJ q.1 q.2)=c5;generalize iC ps ps'=c6;cases c1<;>cases c2<;>cases c3<;>cases c4<;>cases c5<;>cases c6<;>rfl
end
theorem P4 {a b:aN}:iJ a b=true↔a=b:=by
 cases a;cases b;simp[iJ,and_comm]
theorem HZ:∀{a b:List aN},(a.length==b.length&&(a.zip b).all (λq=>iJ q.1 q.2))=true↔a=b
 |[],[]=>by simp
 |[],_::_=>by simp
 |_::_,[]=>by simp
 |x::a,y::b=>by
  have:=HZ (a:=a) (b:=b);simp only[bj,beq_iff_eq]at this;simp only[eG,vE,jw,bj,beq_iff_eq,jV,P4];constructor
  ·rintro ⟨h1,h2,h3⟩;exact⟨h2,this.1 ⟨by omega,h3⟩⟩
  ·rintro ⟨rfl,rfl⟩;exact⟨rfl,rfl,(this.2 rfl).2⟩
mutual
theorem Bi:∀{a b:ai},gX a b=true↔a=b
 |⟨k,lo,hi,ns,ps,rs⟩,⟨k',lo',hi',ns',ps',rs'⟩=>by
  rw[gX];have h1:=Hc (a:=ps) (b:=ps');have h2:=HZ (a:=rs) (b:=rs');rw[bj,bj,bj,bj,bj,h1,h2];simp only[beq_iff_eq,ai.mk.injEq];constructor
  ·rintro ⟨a,b,c,d,e,f⟩;exact⟨a,b,c,d,f,e⟩
  ·rintro ⟨a,b,c,d,e,f⟩;exact⟨a,b,c,d,f,e⟩
theorem Hc:∀{a b:List ai},iC a b=true↔a=b
 |[],[]=>by simp[iC]
 |[],_::_=>by simp[iC]
 |_::_,[]=>by simp[iC]
 |x::a,y::b=>by rw[iC,bj,Bi,Hc,jV]
end
end Go.Proofs.YtnocmolegijmkaaGreat
end

section
namespace Go.Proofs.YtnocmolegijmkaaGreat
open Go Go.Bw
theorem Bh {D:Type}:∀{l:List D} {i:Nat} {x:D},l[i]? =some x->l.set i x=l
 |y::l,0,x,h=>by simp only[mf,ax]at h;subst h;rfl
 |y::l,i+1,x,h=>by rw[sr,Bh (by simpa using h)]
theorem wI {D:Type} {l:List D} (h:l.length<=274877906944):(bif decide ((([]:List D)++l).length<=274877906944)then some ([]++l)else none)=some l:=by
 have:decide ((([]:List D)++l).length<=274877906944)=true:=by simpa using h
 rw[this];rfl
variable {B:Nat} (hB:B<=1048576)
section
include hB
theorem Hb {a:List (List UInt8)} (h:a.length<=B):(uP Pu) a=some a:=by
 rw[VM,uE];exact wI (by omega)
theorem wh:∀l:ai,l.ok B->(rK Pu) l=some l:=by
 refine ai.ind λl ih hl=>?_;rw[ai.cY]at hl;obtain⟨_,_,_,⟨hn,_⟩,⟨hp,hpp⟩,⟨hr,hrr⟩⟩:=hl;have h2:∀k i:Nat,k=l.aB.length-i->i<=l.aB.length->(th Pu) l l.Names l.aB (i:Int) l.aB l.aY=some l:=by
  intro k
  induction k with
  |zero=>
   intro i hk hi;have:i=l.aB.length:=by omega
   subst this;rw[Iy,qE,ai.aH,bq];have:decide (l.aB.length<l.aB.length)=false:=by simp
   rw[this,bl];cases l;rfl
  |succ k ihk=>
   intro i hk hi;have hi':i<l.aB.length:=by omega
   obtain⟨x,hx⟩:=bu hi';rw[Iy,qE,ai.aH,bq];have:decide (i<l.aB.length)=true:=by simpa using hi'
   have hm:=br hx;rw[this,a6,bw hx];simp only[aE];rw[ih x hm (ai.gO hpp hm)];simp only[aE];rw[cw i (by omega),iR,Bh hx];exact ihk (i+1) (by omega) (by omega)
 have h1:∀k i:Nat,k=l.aY.length-i->i<=l.aY.length->(tf Pu) l l.Names l.aY (i:Int) l.aY=some l:=by
  intro k
  induction k with
  |zero=>
   intro i hk hi;have:i=l.aY.length:=by omega
   subst this;rw[Iz,qD,aN.aH,bq];have:decide (l.aY.length<l.aY.length)=false:=by simp
   rw[this,bl,TY,uf,wI (by omega),aE];exact h2 _ 0 rfl (by omega)
  |succ k ihk=>
   intro i hk hi;have hi':i<l.aY.length:=by omega
   obtain⟨x,hx⟩:=bu hi';rw[Iz,qD,aN.aH,bq];have:decide (i<l.aY.length)=true:=by simpa using hi'
   have hm:=br hx;rw[this,a6,bw hx];simp only[aE];rw[Hb hB (hrr x hm).1.1];simp only[aE];rw[cw i (by omega),iR,Bh hx];exact ihk (i+1) (by omega) (by omega)
 rw[VN,uF,Hb hB hn,aE,TX,ue,wI (by omega),aE];exact h1 _ 0 rfl (by omega)
theorem wL {a b:ay} (ha:a.aw.ok B):ah ((n9 Pu) a b) (λr=>r=true↔a=b):=by
 rw[XB,vb];cases a with|mk s l=>cases b with|mk s' l'=>
 refine ah.bif (λh=>?_) (λh=>ah.ret ⟨λe=>(by cases e),λe=>?_⟩)
 ·rw[XP hB _ _ ha,aE];refine ah.ret ?_;have h:s=s':=by simpa using h
  rw[Bi,h];simp
 ·cases e;simp at h
end
theorem jD (t:ay):(pA Pu) t=some (isNone t):=by
 rw[VJ,uC,isNone];cases t.aL==0<;>rfl
theorem bz (n:Int):(dU Pu) n=some (aK n):=Xz n
theorem of_eq (l:ai):(fR Pu) l=some (bY l):=Xy l
theorem IZ (l:ai) (f:bA):(zr Pu) l f=some (bif f.Result==0 then bY l else aK f.Result):=by
 rw[XA,va,of_eq,bz];cases f.Result==0<;>rfl
def nL (f:bA):Prop:=gZ f.Name=true/\gZ f.On=true/\f.Params.length<=8/\0<=f.Result/\f.Result<=4/\
 ∀(i:Nat) p,f.Params[i]? =some p->gZ p.Name=true/\1<=p.aL/\p.aL<=4/\∀(j:Nat) q,j<i->f.Params[j]? =some q->q.Name≠p.Name
theorem J1 (a:List TParam) (p:TParam) (ha:a.length<9223372036854775807):(w7 Pu) a p=some (a.any λq:TParam=>q.Name==p.Name):=by
 rw[QI,te];have:(wF Pu) a p=some (idxOf (λq:TParam=>q.Name==p.Name) a 0):=by
  rw[PR,qx];refine wN (λq:TParam=>q.Name==p.Name) (λi y hy hi=>?_) ?_
  ·rw[F9,p5,TParam.aH,bq];have:decide (i<a.length)=true:=by simpa using hi
   rw[this,a6,bw hy,aE,Xx,u7,aE,cw i (by omega)]
  ·rw[F9,p5,TParam.aH,bq];have:decide (a.length<a.length)=false:=by simp
   rw[this];rfl
 rw[this,aE,Aq]
theorem Ov {f:bA} (h1:f.Name.length<1048577) (h2:f.On.length<1048577) (h3:∀p∈f.Params,p.Name.length<1048577):ah ((u32 Pu) f) (λr=>r=true->nL f):=by
 rw[ML,r8,lE _ (by omega),lE _ (by omega),TParam.aH];simp only[aE];refine ah.bif (λ_=>ah.ret λe=>by cases e) (λg1=>?_);refine ah.bif (λ_=>ah.ret λe=>by cases e) (λg2=>?_);refine ah.bif (λ_=>ah.ret λe=>by cases e) (λg3=>?_);refine ah.bif (λ_=>ah.ret λe=>by cases e) (λg4=>?_);refine ah.bif (λ_=>ah.ret λe=>by cases e) (λg5=>?_);have g3:f.Params.length<=8:=by simp at g3;omega
 have h:=mj (L:=λi=>(lM Pu) f i) (P:=λr=>r=true->nL f) (len:=f.Params.length) (λi=>∀(k:Nat) p,k<i->f.Params[k]? =some p->gZ p.Name=true/\1<=p.aL/\p.aL<=4/\∀(j:Nat) q,j<k->f.Params[j]? =some q->q.Name≠p.Name) (λi hi hI k=>by
  show ah ((lM Pu) f i) _;obtain⟨x,hx⟩:=bu hi;rw[xB,nC,TParam.aH,bq];have:decide (i<f.Params.length)=true:=by simpa using hi
  rw[this,a6,bw hx,aE,lE _ (by have:=h3 x (br hx);omega),aE,xn (by omega),aE,J1 _ _ (by rw[iS];omega),aE,cw i (by omega)];refine ah.bif (λ_=>ah.ret λe=>by cases e) (λk1=>?_);refine ah.bif (λ_=>ah.ret λe=>by cases e) (λk2=>?_);refine ah.bif (λ_=>ah.ret λe=>by cases e) (λk3=>?_);refine ah.bif (λ_=>ah.ret λe=>by cases e) (λk4=>k λm p hm hp=>?_);rcases sx.1 hm with h5|rfl
  ·exact hI m p h5 hp
  ·rw[hx]at hp;cases hp;refine⟨by simpa using k1,by simp at k2;omega,by simp at k3;omega,λj q hj hq e=>?_⟩;rw[Ag]at k4;exact k4 q (br (i:=j) (by rw[Nh hj];exact hq)) (by simpa using e)) (λhI=>by
  show ah ((lM Pu) f _) _;rw[xB,nC,TParam.aH,bq];have:decide (f.Params.length<f.Params.length)=false:=by simp
  rw[this,bl];exact ah.ret λ_=>⟨by simpa using g1,by simpa using g2,g3,by simp at g4;omega,by simp at g5;omega,λi p hp=>hI i p (cX.1 hp).1 hp⟩) 0 (by omega) (λk p hk=>by omega)
 exact h
