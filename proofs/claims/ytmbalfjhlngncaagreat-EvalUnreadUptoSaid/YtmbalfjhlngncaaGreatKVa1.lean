/- What the small functions under types.Valid answer: names, lists, loops. -/
import Derived.Test.YtmbalfjhlngncaaGreatKPl
import Derived.Test.YtmbalfjhlngncaaGreatKG4
import Derived.Test.YtmbalfjhlngncaaGreatKGk
set_option linter.all false
section
namespace Go.Proofs.YtmbalfjhlngncaaGreat
open Go Go.Bw
theorem xp {α:Type} {a:List α} {L:Int->Option Bool} (p:α->Bool) (e:Bool) (hs:∀(i:Nat) x,a[i]? =some x->i<a.length->L (i:Int)=bif p x then L ((i+1:Nat):Int)else some false) (he:L (a.length:Int)=some e):
  L 0=some (a.all p&&e):=by
 have key:∀k i:Nat,k=a.length-i->i<=a.length->L (i:Int)=some ((a.drop i).all p&&e):=by
  intro k
  induction k with
  |zero=>
   intro i hk hi;have:i=a.length:=by omega
   subst this;rw[he];simp
  |succ k ih=>
   intro i hk hi;have hi':i<a.length:=by omega
   obtain⟨x,hx⟩:=bw hi';rw[hs i x hx hi',jq hx,kH];cases p x with
   |false=>rfl
   |true=>simpa using ih (i+1) (by omega) (by omega)
 simpa using key a.length 0 (by omega) (by omega)
def idxOf {α:Type} (p:α->Bool):List α->Int->Int
 |[],_=> -1
 |x::r,i=>bif p x then i else idxOf p r (i+1)
theorem w9 {α:Type} {a:List α} {L:Int->Option Int} (p:α->Bool) (hs:∀(i:Nat) x,a[i]? =some x->i<a.length->L (i:Int)=bif p x then some (i:Int)else L ((i+1:Nat):Int)) (he:L (a.length:Int)=some (-1)):
  L 0=some (idxOf p a 0):=by
 have key:∀k i:Nat,k=a.length-i->i<=a.length->L (i:Int)=some (idxOf p (a.drop i) i):=by
  intro k
  induction k with
  |zero=>
   intro i hk hi;have:i=a.length:=by omega
   subst this;rw[he];simp[idxOf]
  |succ k ih=>
   intro i hk hi;have hi':i<a.length:=by omega
   obtain⟨x,hx⟩:=bw hi';rw[hs i x hx hi',jq hx,idxOf];cases p x with
   |true=>rfl
   |false=>simpa using ih (i+1) (by omega) (by omega)
 simpa using key a.length 0 (by omega) (by omega)
theorem wG {α:Type} (p:α->Bool):∀(a:List α) (j:Nat),(idxOf p a j= -1/\∀x∈a,p x=false)\/∃(i:Nat) (x:α),idxOf p a j=((j+i:Nat):Int)/\a[i]? =some x/\p x=true/\∀k y,k<i->a[k]? =some y->p y=false
 |[],j=> .inl ⟨rfl,by simp⟩
 |x::r,j=>by
  rw[idxOf];cases hp:p x with
  |true=>exact .inr ⟨0,x,by simp,by simp,hp,λk y hk=>by omega⟩
  |false=>
   have h:=wG p r (j+1);simp only[aF];have e:((j:Nat):Int)+1=((j+1:Nat):Int):=by omega
   rw[e];rcases h with⟨h1,h2⟩|⟨i,y,h1,h2,h3,h4⟩
   ·refine .inl ⟨h1,λz hz=>?_⟩;rcases b6.1 hz with rfl|hz
    ·exact hp
    ·exact h2 z hz
   ·refine .inr ⟨i+1,y,by rw[h1];congr 1;omega,by simpa using h2,h3,λk z hk hz=>?_⟩;cases k with
    |zero=>simp only[jj,aC]at hz;subst hz;exact hp
    |succ k=>exact h4 k z (by omega) (by simpa using hz)
theorem FV {α:Type} {p:α->Bool} {a:List α}:decide (idxOf p a 0>=0)=a.any p:=by
 rcases wG p a 0 with⟨h1,h2⟩|⟨i,x,h1,h2,h3,_⟩
 ·have e:idxOf p a 0= -1:=h1;rw[e];have:a.any p=false:=by
   rw[YH];intro x hx;simp[h2 x hx]
  rw[this];rfl
 ·have e:idxOf p a 0=((0+i:Nat):Int):=h1;rw[e];have:a.any p=true:=FF.2 ⟨x,a7 h2,h3⟩;rw[this];simp
theorem adL (c:UInt8):(f174 Pf) (c.toNat:Int)=some (rA c):=by
 rw[agU,AI];unfold rA;have h0:∀n:Nat,(decide ((97:Int)<=(n:Int))=decide (97<=n))/\(decide ((n:Int)<=122)=decide (n<=122))/\(decide ((48:Int)<=(n:Int))=decide (48<=n))/\(decide ((n:Int)<=57)=decide (n<=57))/\(((n:Int)==45)=(n==45)):=λn=>by
  refine⟨?_,?_,?_,?_,?_⟩<;>(rw[mi];simp only[iL,beq_iff_eq];omega)
 obtain⟨h1,h2,h3,h4,h5⟩:=h0 c.toNat;rw[h1,h2,h3,h4,h5];cases decide (97<=c.toNat)<;>cases decide (c.toNat<=122)<;>cases decide (48<=c.toNat)<;>cases decide (c.toNat<=57)<;>rfl
def de (s:List UInt8):Bool:=match s with
 |[]=>false
 |c::_=>decide (s.length<=16)&&decide (97<=c.toNat)&&decide (c.toNat<=122)&&s.all rA
theorem HD {s:List UInt8}:de s=true↔NV s:=by
 cases s with
 |nil=>simp[de,NV]
 |cons c r=>simp[de,NV,and_assoc]
theorem kN (s:List UInt8) (hs:s.length<9223372036854775807):(f101 Pf) s=some (de s):=by
 rw[agV,AJ];cases s with
 |nil=>rfl
 |cons c r=>
  have e0:((((c::r).length:Nat):Int)==0)=false:=by simp;omega
  rw[e0,aF];have hL:(xC Pf) (c::r) 0=some ((c::r).all rA&&true):=by
   refine xp rA true (λi x hx hi=>?_) ?_
   ·rw[Rx,tR];have:decide ((i:Int)<(((c::r).length:Nat):Int))=true:=by simp;simp at hi;omega
    rw[this,aD,bg hx,aw,adL,aw,bM i (by omega)];cases rA x<;>rfl
   ·rw[Rx,tR];have:decide ((((c::r).length:Nat):Int)<(((c::r).length:Nat):Int))=false:=by simp
    rw[this];rfl
  have hi:ao (c::r:List UInt8) 0=some c:=rfl;rw[hi,hL];simp only[aw,rQ];have h1:decide ((((c::r).length:Nat):Int)>16)= !decide ((c::r).length<=16):=by rw[mi];simp;omega
  have h2:decide (((c.toNat:Nat):Int)<97)= !decide (97<=c.toNat):=by rw[mi];simp;omega
  have h3:decide (((c.toNat:Nat):Int)>122)= !decide (c.toNat<=122):=by rw[mi];simp;omega
  rw[h1,h2,h3];unfold de;simp only;cases decide ((c::r).length<=16)<;>cases decide (97<=c.toNat)<;>cases decide (c.toNat<=122)<;>rfl
theorem CP (a:List (List UInt8)) (x:List UInt8) (ha:a.length<9223372036854775807):(f145 Pf) a x=some (idxOf (λy=>x==y) a 0):=by
 rw[agW,vl];refine w9 (λy=>x==y) (λi y hy hi=>?_) ?_
 ·rw[Ry,tT];have:decide ((i:Int)<((aB a).length:Int))=true:=by rw[bD];simp;omega
  rw[this,aD,bg hy,aw,bM i (by omega)]
 ·rw[Ry,tT];have:decide ((a.length:Int)<((aB a).length:Int))=false:=by rw[bD];simp
  rw[this];rfl
theorem contains_eq (a:List (List UInt8)) (x:List UInt8) (ha:a.length<9223372036854775807):(f205 Pf) a x=some (a.any λy=>x==y):=by
 rw[agX,AK,CP a x ha,aw,FV]
theorem has_eq (a:List (List UInt8)) (x:List UInt8) (ha:a.length<9223372036854775807):(f143 Pf) a x=some (a.any λy=>x==y):=by
 rw[agY,AL,contains_eq a x ha];rfl
theorem Cz (a b:List (List UInt8)) (ha:a.length<9223372036854775807) (hb:b.length<9223372036854775807):(f182 Pf) a b=some (a.all λx=>b.any λy=>x==y):=by
 rw[agZ,vm];have h:=xp (a:=a) (L:=λi=>(qG Pf) a b i) (λx=>b.any λy=>x==y) true (λi x hx hi=>by
  show(qG Pf) a b i=_;rw[Rz,tU];have:decide ((i:Int)<((aB a).length:Int))=true:=by rw[bD];simp;omega
  rw[this,aD,bg hx,aw,has_eq b x hb,aw,bM i (by omega)];cases b.any λy=>x==y<;>rfl) (by
  show(qG Pf) a b _=_;rw[Rz,tU];have:decide ((a.length:Int)<((aB a).length:Int))=false:=by rw[bD];simp
  rw[this];rfl)
 simpa using h
theorem qE (b:Bool) (e:Int):(f226 Pf) b e=some (bif b then e else 0):=by
 rw[agR,AG];cases b<;>rfl
theorem a6 (n m:Nat):decide (((n:Nat):Int)<(m:Int))=decide (n<m):=by rw[mi];simp only[iL];omega
theorem ZB {a:List (List UInt8)} {i:Nat} {x y:List UInt8} (hx:a[i]? =some x) (hy:a[i+1]? =some y):rising (a.drop i)=(Op.bytesLess x y&&rising (a.drop (i+1))):=by
 rw[jq hx,jq hy];rfl
theorem nq (a:List (List UInt8)) (ha:a.length<9223372036854775807):(f122 Pf) a=some (rising a):=by
 rw[agS,vh];have key:∀k i:Nat,k=a.length-(i+1)->i+1<=a.length->(xB Pf) a ((i+1:Nat):Int)=some (rising (a.drop i)):=by
  intro k
  induction k with
  |zero=>
   intro i hk hi;have e:i+1=a.length:=by omega
   rw[HM,qF,bD,a6];have:decide (i+1<a.length)=false:=by simp;omega
   rw[this,aF];obtain⟨x,hx⟩:=bw (by omega:i<a.length);rw[jq hx,show a.drop (i+1)=[]from YL (by omega)];rfl
  |succ k ih=>
   intro i hk hi;obtain⟨x,hx⟩:=bw (by omega:i<a.length);obtain⟨y,hy⟩:=bw (by omega:i+1<a.length);rw[HM,qF,bD,a6];have:decide (i+1<a.length)=true:=by simp;omega
   have e:IntKind.i64.wrap (((i+1:Nat):Int)-1)=(i:Int):=by rw[wrap64 (by omega) (by omega)];omega
   rw[this,aD,e,bg hx,bg hy,aw,aw,bM (i+1) (by omega),ZB hx hy,ih (i+1) (by omega) (by omega)];cases Op.bytesLess x y<;>rfl
 cases a with
 |nil=>rw[HM,qF];rfl
 |cons x r=>exact key _ 0 rfl (by simp)
def gL (l:ah):Prop:=
 (l.Kind=1\/l.Kind=9)/\l.aj=[]/\l.Names=[]/\l.bl=[]/\l.Lo=0/\l.Hi=0\/
 (l.Kind=2\/l.Kind=3)/\l.aj=[]/\l.Names=[]/\l.bl=[]\/
 (l.Kind=4\/l.Kind=8)/\l.aj=[]/\l.bl=[]/\l.Lo=0/\l.Hi=0\/
 l.Kind=5/\l.aj.length=1/\l.bl=[]/\l.Lo=0/\l.Hi=0\/
 l.Kind=7/\l.aj.length=2/\l.Names=[]/\l.bl=[]/\l.Lo=0/\l.Hi=0\/
 l.Kind=6/\l.aj.length=l.Names.length/\l.Names≠[]/\l.bl=[]/\l.Lo=0/\l.Hi=0\/
 l.Kind=10/\l.aj=[]/\l.Names≠[]/\l.Lo=0/\l.Hi=0
theorem aa7 (l:ah):ab ((f168 Pf) l) (λr=>r=0->gL l):=by
 rw[UQ,vi];simp only[qE,aw,bD,ah.aI,aU.aI]
 repeat' (first|refine ab.bif (λ_=>?_) (λ_=>?_)|refine ab.ret (λhr=>?_))
 all_goals (first|(exfalso;revert hr;decide)|(have hn:l.Names≠[]:=(by intro e;rw[e]at hr;revert hr;decide);clear hr;simp at*;simp[gL, *];done)|(have hn:l.Names≠[]:=(by intro e;rw[e]at hr;revert hr;decide);clear hr;simp at*;simp[gL, *];omega)|(simp at*;simp[gL, *];done)|(simp at*;simp[gL, *];omega)|skip)
def As (l:ah):Prop:=l.Names.length<=(if l.Kind=6 then 8 else if l.Kind=10 then 12 else 32)/\l.bl.length<=32
theorem Oi (l:ah):ab ((f170 Pf) l) (λr=>r=0↔As l):=by
 rw[agT,AH];simp only[qE,aw,bD,aU.aI];have e:decide ((l.bl.length:Int)>32)= !decide (l.bl.length<=32):=by rw[mi];simp;omega
 rw[e];unfold As
 repeat' (first|refine ab.bif (λh=>?_) (λh=>?_)|refine ab.ret ?_)
 all_goals (simp at*;first|omega|(cases hd:decide (l.bl.length<=32)<;>simp at hd<;>simp[*]<;>omega))
theorem Z' (l:ah):ab ((f172 Pf) l) (λr=>r=0-> -1000000000<=l.Lo/\l.Lo<=l.Hi/\l.Hi<=1000000000):=by
 rw[UR,vj];simp only[qE,aw]
 repeat' (first|refine ab.bif (λ_=>?_) (λ_=>?_)|refine ab.ret (λhr=>?_))
 all_goals (first|(exfalso;revert hr;decide)|(cases h5:decide (l.Hi>1000000000)<;>rw[h5]at hr<;>simp at* <;>omega))
theorem G4 {l:ah} {p:ah} (h:p∈l.aj):SizeOf.sizeOf p<SizeOf.sizeOf l:=by
 cases l;have:=List.sizeOf_lt_of_mem h;simp only[ah.mk.sizeOf_spec]at*
 omega
inductive lu:ah->Prop
 |one {l:ah}:(l.Kind=1\/l.Kind=2\/l.Kind=3)->lu l
 |lex {l p q:ah}:l.Kind=7->l.aj=[p,q]->lu p->lu q->lu l
theorem GA:∀(n:Nat) (l:ah),SizeOf.sizeOf l<=n->ab ((f227 Pf) l) (λr=>r=true->lu l)
 |0,l,h=>by cases l;simp only[ah.mk.sizeOf_spec]at h;omega
 |n+1,l,h=>by
  rw[I5,ry,ah.aI];refine ab.bif (λh1=>ab.ret λ_=> .one (.inl (by simpa using h1))) (λ_=>?_);refine ab.bif (λh1=>ab.ret λ_=> .one (.inr (.inl (by simpa using h1)))) (λ_=>?_);refine ab.bif (λh1=>ab.ret λ_=> .one (.inr (.inr (by simpa using h1)))) (λ_=>?_);refine ab.bif (λh7=>?_) (λ_=>ab.ret λh=>by cases h);refine ab.bif (λh2=>?_) (λ_=>ab.ret λh=>by cases h);have h2:l.aj.length=2:=by simp at h2;omega
  obtain⟨p,q,e⟩:∃p q,l.aj=[p,q]:=by
   match hp:l.aj,h2 with
   |[p,q],_=>exact⟨p,q,rfl⟩
  have hp:SizeOf.sizeOf p<SizeOf.sizeOf l:=G4 (by rw[e];simp);have hq:SizeOf.sizeOf q<SizeOf.sizeOf l:=G4 (by rw[e];simp);have e0:ao l.aj 0=some p:=by rw[e];rfl
  have e1:ao l.aj 1=some q:=by rw[e];rfl
  rw[e0,e1];simp only[aw];refine ab.bind (GA n p (by omega)) (λy hy=>?_);refine ab.bif (λhb=>?_) (λ_=>ab.ret λh=>by cases h);refine ab.bind (GA n q (by omega)) (λz hz=>ab.ret λh=> .lex (by simpa using h7) e (hy hb) (hz h))
theorem aaa (l:ah) (hs:gL l):ab ((f173 Pf) l) (λr=>r=0->l.Kind=7->∃p,l.aj[0]? =some p/\lu p):=by
 rw[US,vk];simp only[qE,aw];refine ab.bif (λh7=>?_) (λh7=>ab.ret λ_ h=>by simp at h7;exact absurd h h7);have h2:l.aj.length=2:=by
  simp at h7;simp[gL,h7]at hs;exact hs.1
 obtain⟨p,hp⟩:=bw (l:=l.aj) (i:=0) (by omega);have e0:ao l.aj 0=some p:=hp;rw[e0,aw];refine ab.bind (GA _ p (bS _)) (λy hy=>ab.ret λhr _=>⟨p,hp,hy ?_⟩);cases y with
 |true=>rfl
 |false=>revert hr;decide
theorem aeG (l:List Int) (hl:l.length<9223372036854775807):ab ((f169 Pf) l) (λr=>r=0->∀x∈l,x=0):=by
 rw[UT,rz];have:=eZ (L:=λi=>(mG Pf) l i) (P:=λr=>r=0->∀x∈l,x=0) (len:=l.length) (λi=>∀j x,j<i->l[j]? =some x->x=0) (λi hi hI k=>by
  show ab ((mG Pf) l i) _;obtain⟨x,hx⟩:=bw hi;rw[Dj,oU,nj,a6];have:decide (i<l.length)=true:=by simpa using hi
  rw[this,aD,bg hx,aw,bM i (by omega)];refine ab.bif (λh=>ab.ret λe=>by simp at h;exact absurd e h) (λh=>k λj y hj hy=>?_);rcases nf.1 hj with h1|rfl
  ·exact hI j y h1 hy
  ·rw[hx]at hy;cases hy;simpa using h) (λhI=>by
  show ab ((mG Pf) l _) _;rw[Dj,oU,nj,a6];have:decide (l.length<l.length)=false:=by simp
  rw[this,aF];refine ab.ret λ_ x hx=>?_;obtain⟨j,hj⟩:=jk hx;exact hI j x (b9.1 hj).1 hj) 0 (by omega) (λj x hj=>by omega)
 exact this
theorem ach {l:ah} (h:gL l):(f168 Pf) l=some 0:=by
 rw[UQ,vi];simp only[qE,aw,bD,ah.aI,aU.aI];have ne:∀{α:Type} {a:List α},a≠[]->((a.length:Int)==0)=false:=λ{α a} h=>by cases a;exact absurd rfl h;simp;omega
 rcases h with⟨h1|h1,h2,h3,h4,h5,h6⟩|⟨h1|h1,h2,h3,h4⟩|⟨h1|h1,h2,h3,h4,h5⟩|⟨h1,h2,h3,h4,h5⟩|⟨h1,h2,h3,h4,h5,h6⟩|⟨h1,h2,h3,h4,h5,h6⟩|⟨h1,h2,h3,h4,h5⟩<;>simp[*]
theorem aa8 {l:ah} (h: -1000000000<=l.Lo/\l.Lo<=l.Hi/\l.Hi<=1000000000):(f172 Pf) l=some 0:=by
 rw[UR,vj];simp only[qE,aw];obtain⟨h1,h2,h3⟩:=h;have e1:¬l.Lo>l.Hi:=by omega
 have e2:¬l.Lo< -1000000000:=by omega
 have e3:¬l.Lo>1000000000:=by omega
 have e4:¬l.Hi< -1000000000:=by omega
 have e5:¬l.Hi>1000000000:=by omega
 simp[e1,e2,e3,e4,e5]
theorem aci {l:ah} (h:lu l):(f227 Pf) l=some true:=by
 induction h with
 |one hk=>
  rw[I5,ry];rcases hk with hk|hk|hk<;>simp[hk]
 |lex hk hp _ _ i1 i2=>
  rw[I5,ry,ah.aI,hp];simp[hk,ao,i1,i2]
theorem aa9 {l:ah} (h:l.Kind=7->∃p,l.aj[0]? =some p/\lu p):(f173 Pf) l=some 0:=by
 rw[US,vk];simp only[qE,aw];by_cases h7:l.Kind=7
 ·obtain⟨p,hp,hc⟩:=h h7;have e0:ao l.aj 0=some p:=hp;rw[e0];simp[h7,aci hc]
 ·have:(l.Kind==7)=false:=by simpa using h7
  rw[this];rfl
theorem ae8 (l:List Int) (hl:l.length<9223372036854775807) (h:∀x∈l,x=0):(f169 Pf) l=some 0:=by
 rw[UT,rz];have:=eZ (L:=λi=>(mG Pf) l i) (P:=λr=>r=0) (len:=l.length) (λ_=>True) (λi hi hI k=>by
  show ab ((mG Pf) l i) _;obtain⟨x,hx⟩:=bw hi;rw[Dj,oU,nj,a6];have:decide (i<l.length)=true:=by simpa using hi
  rw[this,aD,bg hx,aw,bM i (by omega)];have e:=h x (a7 hx);refine ab.bif (λh=>?_) (λh=>k trivial);subst e;cases h) (λhI=>by
  show ab ((mG Pf) l _) _;rw[Dj,oU,nj,a6];have:decide (l.length<l.length)=false:=by simp
  rw[this,aF];exact ab.ret rfl) 0 (by omega) trivial
 exact ab.of this
def uN (names:List (List UInt8)) (r:aU):Prop:=r.If≠[]/\rising r.If=true/\(r.If.all λx=>names.any λy=>x==y)=true/\(names.any λy=>r.dt==y)=true
def xR (l:ah):Prop:=(∀s∈l.Names,de s=true)/\(l.Kind≠6->rising l.Names=true)/\(l.Kind=6->∀(i:Nat) s,l.Names[i]? =some s->((l.Names.take i).any λy=>s==y)=false)/\∀r∈l.bl,uN l.Names r
mutual
def lZ:ah->Nat
 |⟨_,_,_,_,ps,_⟩=>1+fW ps
def fW:List ah->Nat
 |[]=>0
 |p::ps=>lZ p+fW ps
end
mutual
def lg:ah->Nat
 |⟨_,_,_,_,ps,_⟩=>1+mR ps
def mR:List ah->Nat
 |[]=>0
 |p::ps=>max (lg p) (mR ps)
end
theorem De (l:ah):lZ l=1+fW l.aj:=by cases l;rw[lZ]
theorem xy (l:ah):lg l=1+mR l.aj:=by cases l;rw[lg]
theorem O6:∀{ps:List ah} {p:ah},p∈ps->lZ p<=fW ps
 |q::ps,p,h=>by
  rw[fW];rcases b6.1 h with rfl|h
  ·omega
  ·have:=O6 h;omega
theorem Gz:∀{ps:List ah} {p:ah},p∈ps->lg p<=mR ps
 |q::ps,p,h=>by
  rw[mR];rcases b6.1 h with rfl|h
  ·omega
  ·have:=Gz h;omega
theorem P8 {n:Nat}:∀{ps:List ah},(∀p∈ps,lg p<=n)->mR ps<=n
 |[],_=>by rw[mR];omega
 |p::ps,h=>by
  rw[mR];have h1:=h p (by simp);have h2:=P8 (ps:=ps) (n:=n) λq hq=>h q (by simp[hq]);omega
theorem Oh {ps:List ah}:∀{i:Nat} {p:ah},ps[i]? =some p->fW (ps.take (i+1))=fW (ps.take i)+lZ p:=by
 induction ps with
 |nil=>intro i p h;simp at h
 |cons q ps ih=>
  intro i p h;cases i with
  |zero=>simp only[jj,aC]at h;subst h;simp[fW]
  |succ i=>
   simp only[pQ]at h;have:=ih h;rw[vX,vX,fW,fW,this];omega
theorem YY {ps:List ah} (i:Nat):fW (ps.take i)<=fW ps:=by
 induction ps generalizing i with
 |nil=>simp
 |cons q ps ih=>
  cases i with
  |zero=>simp[fW]
  |succ i=>rw[vX,fW,fW];have:=ih i;omega
inductive pF:ah->Prop
 |mk {l:ah}:gL l->As l->xR l->(-1000000000<=l.Lo/\l.Lo<=l.Hi/\l.Hi<=1000000000)->(l.Kind=7->∃p,l.aj[0]? =some p/\lu p)->(∀p∈l.aj,pF p)->pF l
structure cj (l:ah):Prop where
 i:pF l
 eW:lZ l<=64
 dep:lg l<=6
theorem cj.part {l p:ah} (h:cj l) (hp:p∈l.aj):cj p:=by
 have h1:=h.eW;have h2:=h.dep;rw[De]at h1;rw[xy]at h2;have h3:=O6 hp;have h4:=Gz hp;exact⟨by have h:=h.i;cases h with|mk _ _ _ _ _ h=>exact h p hp,by omega,by omega⟩
theorem cj.shape {l:ah} (h:cj l):gL l:=by have h:=h.i;cases h;assumption
theorem cj.I3 {l:ah} (h:cj l):As l:=by have h:=h.i;cases h;assumption
theorem cj.names {l:ah} (h:cj l):xR l:=by have h:=h.i;cases h;assumption
theorem cj.range {l:ah} (h:cj l): -1000000000<=l.Lo/\l.Lo<=l.Hi/\l.Hi<=1000000000:=by have h:=h.i;cases h;assumption
theorem cj.chain {l:ah} (h:cj l):l.Kind=7->∃p,l.aj[0]? =some p/\lu p:=by have h:=h.i;cases h;assumption
theorem ta {α:Type} {l:List α} {i:Nat} (h:i<=l.length):b7 l 0 (i:Int)=some (l.take i):=by
 have:b7 l ((0:Nat):Int) (i:Int)=some (l.take i):=by
  show(bif Nat.ble 0 i&&Nat.ble i l.length then some ((l.take i).drop 0)else none)=_;rw[pR (mg i),pR h];rfl
 exact this
section
variable {B:Nat} (hB:B<1099511627776)
include hB
theorem O7 {l:ah} (hl:l.ok B) (L:Int->Option Int) (hL:∀s,L s=(bif decide (s<(↑(aU.rows l.bl).length:Int))then((ao (l.bl) (s)).bind λx=>(bif (↑(aB x.If).length:Int)==0 then(some (3))else(((f122 Pf) (x.If)).bind λy=>(bif !y then(some (3))else(((f182 Pf) (x.If) (l.Names)).bind λz=>(bif !z then(some (3))else(((f143 Pf) (l.Names) (x.dt)).bind λu=>(bif !u then(some (3))else(L (IntKind.i64.wrap (s+1)))))))))))else(some (0)))):
  ab (L 0) (λr=>r=0->∀x∈l.bl,uN l.Names x):=by
 rw[ah.dO]at hl;obtain⟨_,_,_,⟨hn,_⟩,_,⟨hr,hrr⟩⟩:=hl;have h:=eZ (L:=L) (P:=λr=>r=0->∀x∈l.bl,uN l.Names x) (len:=l.bl.length) (λi=>∀j x,j<i->l.bl[j]? =some x->uN l.Names x) (λi hi hI k=>by
  obtain⟨x,hx⟩:=bw hi;have hxo:=hrr x (a7 hx);rw[hL,aU.aI,a6];have:decide (i<l.bl.length)=true:=by simpa using hi
  rw[this,aD,bg hx,aw,bD,nq _ (by have:=hxo.1.1;omega),Cz _ _ (by have:=hxo.1.1;omega) (by omega),has_eq _ _ (by omega),bM i (by omega)];simp only[aw];refine ab.bif (λ_=>ab.ret λe=>by cases e) (λh1=>?_);refine ab.bif (λ_=>ab.ret λe=>by cases e) (λh2=>?_);refine ab.bif (λ_=>ab.ret λe=>by cases e) (λh3=>?_);refine ab.bif (λ_=>ab.ret λe=>by cases e) (λh4=>?_);refine k λj y hj hy=>?_;rcases nf.1 hj with h5|rfl
  ·exact hI j y h5 hy
  ·rw[hx]at hy;cases hy;refine⟨λe=>?_,by simpa using h2,by simpa only[MW]using h3,by simpa only[MW]using h4⟩;rw[e]at h1;simp at h1) (λhI=>by
  rw[hL,aU.aI,a6];have:decide (l.bl.length<l.bl.length)=false:=by simp
  rw[this,aF];refine ab.ret λ_ x hx=>?_;obtain⟨j,hj⟩:=jk hx;exact hI j x (b9.1 hj).1 hj) 0 (by omega) (λj x hj=>by omega)
 exact h
theorem Zb {l:ah} (hl:l.ok B):ab ((f171 Pf) l) (λr=>r=0->xR l):=by
 rw[UO,rv];have hl':=hl;rw[ah.dO]at hl;obtain⟨_,_,_,⟨hn,hnn⟩,_,⟨hr,hrr⟩⟩:=hl;have h:=eZ (L:=λi=>(lM Pf) l 0 i) (P:=λr=>r=0->xR l) (len:=l.Names.length) (λi=>(∀j s,j<i->l.Names[j]? =some s->de s=true)/\(l.Kind=6->∀j s,j<i->l.Names[j]? =some s->((l.Names.take j).any λy=>s==y)=false)) (λi hi hI k=>by
  show ab ((lM Pf) l 0 i) _;obtain⟨x,hx⟩:=bw hi;rw[Dh,oS,bD,a6];have:decide (i<l.Names.length)=true:=by simpa using hi
  have hxl:=hnn x (a7 hx);rw[this,aD,bg hx,aw,kN x (by omega),aw,bM i (by omega),ta (by omega),aw,contains_eq _ _ (by rw[gU];omega),aw];refine ab.bif (λ_=>ab.ret λe=>by cases e) (λh1=>?_);have h1:de x=true:=by simpa using h1
  have nv:∀j s,j<i+1->l.Names[j]? =some s->de s=true:=λj s hj hs=>by
   rcases nf.1 hj with h5|rfl
   ·exact hI.1 j s h5 hs
   ·rw[hx]at hs;cases hs;exact h1
  refine ab.bif (λh6=>?_) (λh6=>k ⟨nv,λe=>by simp at h6;exact absurd e h6⟩);refine ab.bif (λ_=>ab.ret λe=>by cases e) (λh7=>k ⟨nv,λe j s hj hs=>?_⟩);rcases nf.1 hj with h5|rfl
  ·exact hI.2 e j s h5 hs
  ·rw[hx]at hs;cases hs;exact h7) (λhI=>by
  show ab ((lM Pf) l 0 _) _;rw[Dh,oS,bD,a6];have:decide (l.Names.length<l.Names.length)=false:=by simp
  rw[this,aF];have nv:∀s∈l.Names,de s=true:=λs hs=>by
   obtain⟨j,hj⟩:=jk hs;exact hI.1 j s (b9.1 hj).1 hj
  have di:l.Kind=6->∀(i:Nat) s,l.Names[i]? =some s->((l.Names.take i).any λy=>s==y)=false:=λe i s hs=>hI.2 e i s (b9.1 hs).1 hs;rw[nq _ (by omega)];refine ab.bif (λh6=>?_) (λh6=>?_)
  ·rw[aw];refine ab.bif (λ_=>ab.ret λe=>by cases e) (λh8=>?_);exact(O7 hB hl' _ (λs=>Rv l s)).mono λr h e=>⟨nv,λ_=>by simpa using h8,di,h e⟩
  ·exact(O7 hB hl' _ (λs=>Rw l s)).mono λr h e=>⟨nv,λh9=>by simp at h6;exact absurd h6 h9,di,h e⟩) 0 (by omega) ⟨λj s hj=>by omega,λ_ j s hj=>by omega⟩
 exact h
theorem O8:∀(n:Nat) (c:dy) (l:ah) (d:Int),l.ok B->0<=c.nodes->c.nodes<=64->(6-d+1).toNat<=n->d<=7->0<=d->ab ((f100 Pf) c l d) (λr=>0<=r.2.nodes/\r.2.nodes<=64/\(r.1=0->pF l/\r.2.nodes=c.nodes+lZ l/\d+lg l<=7))
 |n,c,l,d,hl,h0,h1,hn,hd,hd0=>by
  rw[UP,vg];refine ab.bif (λ_=>ab.ret ⟨h0,h1,λe=>by cases e⟩) (λh6=>?_);have h6:d<=6:=by simp at h6;omega
  match n,hn with
  |0,hn=>omega
  |n+1,hn=>
  refine ab.bif (λ_=>ab.ret ⟨h0,h1,λe=>by cases e⟩) (λh64=>?_);have h64:c.nodes<64:=by simp at h64;omega
  have hw:IntKind.i64.wrap (c.nodes+1)=c.nodes+1:=wrap64 (by omega) (by omega);have hwd:IntKind.i64.wrap (d+1)=d+1:=wrap64 (by omega) (by omega);rw[hw];refine ab.bind (aa7 l) (λy3 hs=>?_);refine ab.bif (λhne=>ab.ret ⟨by simp;omega,by simp;omega,λe=>by simp at hne;exact absurd e hne⟩) (λh3=>?_);have hs:=hs (by simpa using h3);refine ab.bind (Oi l) (λy5 hli=>?_);refine ab.bind (Zb hB hl) (λy6 hsp=>?_);refine ab.bind (Z' l) (λy7 hra=>?_);refine ab.bind (aaa l hs) (λy8 hch=>?_);refine ab.bind (aeG _ (by simp)) (λy9 hor=>?_);refine ab.bif (λhne=>ab.ret ⟨by simp;omega,by simp;omega,λe=>by simp at hne;exact absurd e hne⟩) (λh9=>?_);have hor:=hor (by simpa using h9);have e5:y5=0:=hor y5 (by simp);have e6:y6=0:=hor y6 (by simp);have e7:y7=0:=hor y7 (by simp);have e8:y8=0:=hor y8 (by simp);have hl':=hl;rw[ah.dO]at hl';obtain⟨_,_,_,_,⟨hpl,hp⟩,_⟩:=hl';have h:=dX (L:=λi b=>(mF Pf) l d i b) (P:=λr=>0<=r.2.nodes/\r.2.nodes<=64/\(r.1=0->pF l/\r.2.nodes=c.nodes+lZ l/\d+lg l<=7)) (len:=l.aj.length) (λi b=>0<=b.nodes/\b.nodes<=64/\b.nodes=c.nodes+1+fW (l.aj.take i)/\∀j p,j<i->l.aj[j]? =some p->pF p/\d+1+lg p<=7) (λi b hi hI k=>by
   show ab ((mF Pf) l d i b) _;obtain⟨x,hx⟩:=bw hi;rw[Di,oT,ah.aI,a6];have:decide (i<l.aj.length)=true:=by simpa using hi
   rw[this,aD,bg hx,aw,bM i (by omega),hwd];refine ab.bind (O8 n b x (d+1) (ah.gJ hp (a7 hx)) hI.1 hI.2.1 (by omega) (by omega) (by omega)) (λy hy=>?_);refine ab.bif (λhne=>ab.ret ⟨hy.1,hy.2.1,λe=>by simp at hne;exact absurd e hne⟩) (λhz=>?_);have hy3:=hy.2.2 (by simpa using hz);refine k _ ⟨hy.1,hy.2.1,by rw[Oh hx];have:=hI.2.2.1;omega,λj p hj hp'=>?_⟩;rcases nf.1 hj with h5|rfl
   ·exact hI.2.2.2 j p h5 hp'
   ·rw[hx]at hp';cases hp';exact⟨hy3.1,hy3.2.2⟩) (λb hI=>by
   show ab ((mF Pf) l d _ b) _;rw[Di,oT,ah.aI,a6];have:decide (l.aj.length<l.aj.length)=false:=by simp
   rw[this,aF];have all:∀p∈l.aj,pF p/\d+1+lg p<=7:=λp hp'=>by
    obtain⟨j,hj⟩:=jk hp';exact hI.2.2.2 j p (b9.1 hj).1 hj
   refine ab.ret ⟨hI.1,hI.2.1,λ_=>⟨.mk hs (hli.1 e5) (hsp e6) (hra e7) (hch e8) λp hp'=>(all p hp').1,?_,?_⟩⟩
   ·show b.nodes=_;rw[De];have:=hI.2.2.1;rw[eQ]at this;omega
   ·rw[xy];have:mR l.aj<=(6-d).toNat:=P8 λp hp'=>by have:=(all p hp').2;omega
    omega) 0 {nodes:=c.nodes+1} (by omega) ⟨by simp;omega,by simp;omega,by simp[fW],λj p hj=>by omega⟩
  exact h
theorem P9 {l:ah} (hl:l.ok B) (h:∀r∈l.bl,uN l.Names r) (L:Int->Option Int) (hL:∀s,L s=(bif decide (s<(↑(aU.rows l.bl).length:Int))then((ao (l.bl) (s)).bind λx=>(bif (↑(aB x.If).length:Int)==0 then(some (3))else(((f122 Pf) (x.If)).bind λy=>(bif !y then(some (3))else(((f182 Pf) (x.If) (l.Names)).bind λz=>(bif !z then(some (3))else(((f143 Pf) (l.Names) (x.dt)).bind λu=>(bif !u then(some (3))else(L (IntKind.i64.wrap (s+1)))))))))))else(some (0)))):L 0=some 0:=by
 rw[ah.dO]at hl;obtain⟨_,_,_,⟨hn,_⟩,_,⟨hr,hrr⟩⟩:=hl;refine ab.of (eZ (L:=L) (P:=λr=>r=0) (len:=l.bl.length) (λ_=>True) (λi hi _ k=>?_) (λ_=>?_) 0 (by omega) trivial)
 ·obtain⟨x,hx⟩:=bw hi;have hm:=a7 hx;have hxo:=hrr x hm;obtain⟨r1,r2,r3,r4⟩:=h x hm;rw[hL,aU.aI,a6];have:decide (i<l.bl.length)=true:=by simpa using hi
  have e1:((x.If.length:Int)==0)=false:=by cases hf:x.If;exact absurd hf r1;simp;omega
  rw[this,aD,bg hx,aw,bD,nq _ (by have:=hxo.1.1;omega),Cz _ _ (by have:=hxo.1.1;omega) (by omega),has_eq _ _ (by omega),bM i (by omega),e1,r2,r3,r4];exact k trivial
 ·rw[hL,aU.aI,a6];have:decide (l.bl.length<l.bl.length)=false:=by simp
  rw[this,aF];exact ab.ret rfl
theorem ZA {l:ah} (hl:l.ok B) (h:xR l):(f171 Pf) l=some 0:=by
 rw[UO,rv];have hl':=hl;rw[ah.dO]at hl;obtain⟨_,_,_,⟨hn,hnn⟩,_,⟨hr,hrr⟩⟩:=hl;obtain⟨n1,n2,n3,n4⟩:=h;refine ab.of (eZ (L:=λi=>(lM Pf) l 0 i) (P:=λr=>r=0) (len:=l.Names.length) (λ_=>True) (λi hi _ k=>?_) (λ_=>?_) 0 (by omega) trivial)
 ·show ab ((lM Pf) l 0 i) _;obtain⟨x,hx⟩:=bw hi;have hm:=a7 hx;rw[Dh,oS,bD,a6];have:decide (i<l.Names.length)=true:=by simpa using hi
  have hxl:=hnn x hm;rw[this,aD,bg hx,aw,kN x (by omega),aw,bM i (by omega),ta (by omega),aw,contains_eq _ _ (by rw[gU];omega),aw,n1 x hm];refine ab.bif (λe=>by cases e) (λ_=>?_);refine ab.bif (λh6=>?_) (λ_=>k trivial);rw[n3 (by simpa using h6) i x hx];exact k trivial
 ·show ab ((lM Pf) l 0 _) _;rw[Dh,oS,bD,a6];have:decide (l.Names.length<l.Names.length)=false:=by simp
  rw[this,aF,nq _ (by omega)];refine ab.bif (λh6=>?_) (λh6=>?_)
  ·rw[aw,n2 (by simpa using h6)];exact ab.eq (P9 hB hl' n4 _ (λs=>Rv l s))
  ·exact ab.eq (P9 hB hl' n4 _ (λs=>Rw l s))
theorem Qa:∀(n:Nat) (c:dy) (l:ah) (d:Int),pF l->l.ok B->0<=c.nodes->c.nodes+lZ l<=64->lg l<=n->d+lg l<=7->0<=d->(f100 Pf) c l d=some (0,{nodes:=c.nodes+lZ l})
 |0,c,l,d,h,hl,h0,h1,hn,hd,hd0=>by rw[xy]at hn;omega
 |n+1,c,l,d,h,hl,h0,h1,hn,hd,hd0=>by
  rw[UP,vg];have hdd:=xy l;have hcc:=De l;have e1:decide (d>6)=false:=by simp;omega
  have e2:decide (c.nodes>=64)=false:=by simp;omega
  have hw:IntKind.i64.wrap (c.nodes+1)=c.nodes+1:=wrap64 (by omega) (by omega);have hwd:IntKind.i64.wrap (d+1)=d+1:=wrap64 (by omega) (by omega);cases h with
  |mk hs hli hsp hra hch hpp=>
  obtain⟨y5,e5,h5⟩:=Oi l;rw[h5.2 hli]at e5;rw[hw,e1,e2,ach hs,e5,ZA hB hl hsp,aa8 hra,aa9 hch];simp only[aF,aw,ae8 [0,0,0,0] (by simp) (by simp)];have hl':=hl;rw[ah.dO]at hl';obtain⟨_,_,_,_,⟨hpl,hp⟩,_⟩:=hl';have h:=dX (L:=λi b=>(mF Pf) l d i b) (P:=λr=>r=(0,{nodes:=c.nodes+lZ l})) (len:=l.aj.length) (λi b=>b.nodes=c.nodes+1+fW (l.aj.take i)) (λi b hi hI k=>by
   show ab ((mF Pf) l d i b) _;obtain⟨x,hx⟩:=bw hi;have hm:=a7 hx;rw[Di,oT,ah.aI,a6];have:decide (i<l.aj.length)=true:=by simpa using hi
   have t1:=Oh hx;have t2:=YY (ps:=l.aj) (i+1);have t3:=Gz hm;rw[this,aD,bg hx,aw,bM i (by omega),hwd,Qa n b x (d+1) (hpp x hm) (ah.gJ hp hm) (by omega) (by omega) (by omega) (by omega) (by omega),aw];exact k _ (by simp only;rw[hI,t1];omega)) (λb hI=>by
   show ab ((mF Pf) l d _ b) _;rw[Di,oT,ah.aI,a6];have:decide (l.aj.length<l.aj.length)=false:=by simp
   rw[this,aF];rw[eQ]at hI;refine ab.ret ?_;cases b with|mk bn=>simp only at hI⊢;rw[hI,hcc];simp;omega) 0 {nodes:=c.nodes+1} (by omega) (by simp[fW])
  exact ab.of h
theorem O9 {l:ah} (hl:l.ok B):ab ((f58 Pf) l) (λr=>r=0->cj l):=by
 rw[Xm,vM];exact ab.bind (O8 hB 7 _ l 1 hl (by simp) (by simp) (by decide) (by decide) (by decide)) (λy hy=>ab.ret λe=>by
  obtain⟨h1,h2,h3⟩:=hy.2.2 e;have h4:=hy.2.1;exact⟨h1,by simp at h2;omega,by omega⟩)
theorem CO {l:ah} (hl:l.ok B) (h:cj l):(f58 Pf) l=some 0:=by
 rw[Xm,vM,Qa hB 7 _ l 1 h.i hl (by simp) (by have:=h.eW;simp;omega) (by have:=h.dep;omega) (by have:=h.dep;omega) (by decide)];rfl
theorem aaZ {l:ah} (hl:l.ok B):ab ((f58 Pf) l) (λr=>r=0↔cj l):=by
 obtain⟨r,e,h⟩:=O9 hB hl;exact⟨r,e,h,λg=>by rw[CO hB hl g]at e;cases e;rfl⟩
end
end Go.Proofs.YtmbalfjhlngncaaGreat
end

section
namespace Go.Proofs.YtmbalfjhlngncaaGreat
open Go Go.Bw
theorem wX {i:Nat} (h:i<9223372036854775807):IntKind.i64.wrap ((i:Int)+1)=((i+1:Nat):Int):=bM i h
theorem ah.ind {P:ah->Prop} (h:∀x:ah,(∀k∈x.aj,P k)->P x):∀x,P x:=by
 intro x;refine ah.rec (motive_1:=P) (motive_2:=λks=>∀k∈ks,P k) ?_ ?_ ?_ x
 ·intro k lo hi ns ps rs ih;exact h ⟨k,lo,hi,ns,ps,rs⟩ ih
 ·intro k hk;cases hk
 ·intro k ks h1 h2 x hx;rcases b6.1 hx with rfl|hx
  ·exact h1
  ·exact h2 x hx
def lY (a b:aU):Bool:=a.dt==b.dt&&a.If==b.If
mutual
def nP:ah->ah->Bool
 |⟨k,lo,hi,ns,ps,rs⟩,⟨k',lo',hi',ns',ps',rs'⟩=>k==k'&&(lo==lo'&&(hi==hi'&&(ns==ns'&&((rs.length==rs'.length&&(rs.zip rs').all (λq=>lY q.1 q.2))&&kC ps ps'))))
def kC:List ah->List ah->Bool
 |[],[]=>true
 |x::r,y::s=>nP x y&&kC r s
 |_,_=>false
end
theorem O3:∀{a b:List ah},a.length=b.length->kC a b=(a.zip b).all (λq=>nP q.1 q.2)
 |[],[],_=>rfl
 |x::a,y::b,h=>by rw[kC,FI,kH,O3 (by simpa using h)]
 |[],_::_,h=>by simp at h
 |_::_,[],h=>by simp at h
theorem O4:∀{a b:List ah},a.length≠b.length->kC a b=false
 |[],[],h=>absurd rfl h
 |x::a,y::b,h=>by rw[kC,O4 (by simpa using h),Bool.and_false]
 |[],_::_,_=>rfl
 |_::_,[],_=>rfl
variable {B:Nat} (hB:B<=1048576)
section
include hB
theorem Z9 {f:List (List UInt8)->List (List UInt8)->Option Bool} {L:List (List UInt8)->List (List UInt8)->Int->Option Bool} (hf:∀a b,f a b=(bif (↑(aB a).length:Int) !=(↑(aB b).length:Int)then(some (false))else L a b 0))
  (hL:∀a b s,L a b s=(bif decide (s<(↑(aB a).length:Int))then((ao (a) (s)).bind λx=>((ao (b) (s)).bind λy=>(bif !(x==y)then(some (false))else(L a b (IntKind.i64.wrap (s+1))))))else(some (true))))
  {a b:List (List UInt8)} (ha:a.length<=B):f a b=some (a==b):=by
 rw[hf];simp only[bD];by_cases hl:a.length=b.length
 ·have h0:((a.length:Int) !=(b.length:Int))=false:=by simp[hl]
  rw[h0];show L a b 0=_;rw[CU (a:=a) (b:=b) (L:=L a b) (λx y=>x==y) true hl ?_ ?_,rQ,aeD hl]
  ·intro i x y hx hy hi;rw[hL,bD,wX (by omega)];have h1:decide ((i:Int)<(a.length:Int))=true:=by simpa using hi
   rw[h1,bg hx,bg hy];show(bif !(x==y)then _ else _)=_;cases (x==y)<;>rfl
  ·rw[hL,bD];simp
 ·have h0:((a.length:Int) !=(b.length:Int))=true:=by simp;omega
  rw[h0];have:(a==b)=false:=by
   cases h:a==b with
   |false=>rfl
   |true=>exact absurd (congrArg List.length (eq_of_beq h)) hl
  rw[this];rfl
theorem Xl {a b:List (List UInt8)} (ha:a.length<=B):(f234 Pf) a b=some (a==b):=Z9 hB agO adK ha
theorem p95 {a b:aU} (ha:a.ok B):(f236 Pf) a b=some (lY a b):=by
 rw[agP,AD,Xl hB ha.1.1,lY];cases a.dt==b.dt<;>rfl
theorem p94 {a b:List aU} (hl:a.length<=B) (ha:∀x∈a,x.ok B):(CX Pf) a b=some (a.length==b.length&&(a.zip b).all (λq=>lY q.1 q.2)):=by
 rw[ace,xh];simp only[aU.aI];by_cases h:a.length=b.length
 ·have h0:((a.length:Int) !=(b.length:Int))=false:=by simp[h]
  rw[h0];show(r8 Pf) a b 0=_;rw[CU (a:=a) (b:=b) (L:=(r8 Pf) a b) lY true h ?_ ?_]
  ·simp[h]
  ·intro i x y hx hy hi;rw[Ny,r9,aU.aI,wX (by omega)];have h1:decide ((i:Int)<(a.length:Int))=true:=by simpa using hi
   rw[h1,bg hx,bg hy];show(((f236 Pf) x y).bind _)=_;rw[p95 hB (ha x (a7 hx))];show(bif !(lY x y)then _ else _)=_;cases lY x y<;>rfl
  ·rw[Ny,r9,aU.aI];simp
 ·have h0:((a.length:Int) !=(b.length:Int))=true:=by simp;omega
  rw[h0];simp[h]
theorem p51:∀a b:ah,a.ok B->(f181 Pf) a b=some (nP a b):=by
 refine ah.ind ?_;intro a ih b ha;rw[ah.dO]at ha;obtain⟨_,_,_,hn,hp,hr⟩:=ha;rw[agQ,AF,Xl hB hn.1,p94 hB hr.1 hr.2];have h96:(CY Pf) a.aj b.aj=some (kC a.aj b.aj):=by
  rw[acf,xi];simp only[ah.aI];by_cases h:a.aj.length=b.aj.length
  ·have h0:((a.aj.length:Int) !=(b.aj.length:Int))=false:=by simp[h]
   rw[h0];show(sc Pf) a.aj b.aj 0=_;rw[CU (a:=a.aj) (b:=b.aj) (L:=(sc Pf) a.aj b.aj) nP true h ?_ ?_]
   ·rw[O3 h,rQ]
   ·intro i x y hx hy hi;rw[Nz,sd,ah.aI,wX (by omega)];have h1:decide ((i:Int)<(a.aj.length:Int))=true:=by simpa using hi
    have hx':=a7 hx;rw[h1,bg hx,bg hy];show(((f181 Pf) x y).bind _)=_;rw[ih x hx' y (ah.gJ hp.2 hx')];show(bif !(nP x y)then _ else _)=_;cases nP x y<;>rfl
   ·rw[Nz,sd,ah.aI];simp
  ·have h0:((a.aj.length:Int) !=(b.aj.length:Int))=true:=by simp;omega
   rw[h0,O4 h];rfl
 rw[h96];obtain⟨k,lo,hi,ns,ps,rs⟩:=a;obtain⟨k',lo',hi',ns',ps',rs'⟩:=b;simp only[nP];generalize (k==k')=c1;generalize (lo==lo')=c2;generalize (hi==hi')=c3;generalize (ns==ns')=c4;generalize (rs.length==rs'.length&&(rs.zip rs').all λq=>lY q.1 q.2)=c5;generalize kC ps ps'=c6;cases c1<;>cases c2<;>cases c3<;>cases c4<;>cases c5<;>cases c6<;>rfl
end
theorem acg {a b:aU}:lY a b=true↔a=b:=by
 cases a;cases b;simp[lY,and_comm]
theorem P7:∀{a b:List aU},(a.length==b.length&&(a.zip b).all (λq=>lY q.1 q.2))=true↔a=b
 |[],[]=>by simp
 |[],_::_=>by simp
 |_::_,[]=>by simp
 |x::a,y::b=>by
  have:=P7 (a:=a) (b:=b);simp only[bJ,beq_iff_eq]at this;simp only[kI,FI,kH,bJ,beq_iff_eq,kb,acg];constructor
  ·rintro ⟨h1,h2,h3⟩;exact⟨h2,this.1 ⟨by omega,h3⟩⟩
  ·rintro ⟨rfl,rfl⟩;exact⟨rfl,rfl,(this.2 rfl).2⟩
mutual
theorem P6:∀{a b:ah},nP a b=true↔a=b
 |⟨k,lo,hi,ns,ps,rs⟩,⟨k',lo',hi',ns',ps',rs'⟩=>by
  rw[nP];have h1:=O5 (a:=ps) (b:=ps');have h2:=P7 (a:=rs) (b:=rs');rw[bJ,bJ,bJ,bJ,bJ,h1,h2];simp only[beq_iff_eq,ah.mk.injEq];constructor
  ·rintro ⟨a,b,c,d,e,f⟩;exact⟨a,b,c,d,f,e⟩
  ·rintro ⟨a,b,c,d,e,f⟩;exact⟨a,b,c,d,f,e⟩
theorem O5:∀{a b:List ah},kC a b=true↔a=b
 |[],[]=>by simp[kC]
 |[],_::_=>by simp[kC]
 |_::_,[]=>by simp[kC]
 |x::a,y::b=>by rw[kC,bJ,P6,O5,kb]
end
end Go.Proofs.YtmbalfjhlngncaaGreat
end

section
namespace Go.Proofs.YtmbalfjhlngncaaGreat
open Go Go.Bw
theorem G5 {α:Type}:∀{l:List α} {i:Nat} {x:α},l[i]? =some x->l.set i x=l
 |y::l,0,x,h=>by simp only[jj,aC]at h;subst h;rfl
 |y::l,i+1,x,h=>by rw[pT,G5 (by simpa using h)]
theorem mw {α:Type} {l:List α} (h:l.length<=274877906944):(bif decide ((([]:List α)++l).length<=274877906944)then some ([]++l)else none)=some l:=by
 have:decide ((([]:List α)++l).length<=274877906944)=true:=by simpa using h
 rw[this];rfl
variable {B:Nat} (hB:B<=1048576)
section
include hB
theorem O2 {a:List (List UInt8)} (h:a.length<=B):(f51 Pf) a=some a:=by
 rw[Bd,Bt];exact mw (by omega)
theorem O1:∀l:ah,l.ok B->(f178 Pf) l=some l:=by
 refine ah.ind λl ih hl=>?_;rw[ah.dO]at hl;obtain⟨_,_,_,⟨hn,_⟩,⟨hp,hpp⟩,⟨hr,hrr⟩⟩:=hl;have h2:∀k i:Nat,k=l.aj.length-i->i<=l.aj.length->(xz Pf) l l.Names l.aj (i:Int) l.aj l.bl=some l:=by
  intro k
  induction k with
  |zero=>
   intro i hk hi;have:i=l.aj.length:=by omega
   subst this;rw[Rt,tP,ah.aI,a6];have:decide (l.aj.length<l.aj.length)=false:=by simp
   rw[this,aF];cases l;rfl
  |succ k ihk=>
   intro i hk hi;have hi':i<l.aj.length:=by omega
   obtain⟨x,hx⟩:=bw hi';rw[Rt,tP,ah.aI,a6];have:decide (i<l.aj.length)=true:=by simpa using hi'
   have hm:=a7 hx;rw[this,aD,bg hx];simp only[aw];rw[ih x hm (ah.gJ hpp hm)];simp only[aw];rw[bM i (by omega),lD,G5 hx];exact ihk (i+1) (by omega) (by omega)
 have h1:∀k i:Nat,k=l.bl.length-i->i<=l.bl.length->(xA Pf) l l.Names l.bl (i:Int) l.bl=some l:=by
  intro k
  induction k with
  |zero=>
   intro i hk hi;have:i=l.bl.length:=by omega
   subst this;rw[Ru,tQ,aU.aI,a6];have:decide (l.bl.length<l.bl.length)=false:=by simp
   rw[this,aF,ae6,yy,mw (by omega),aw];exact h2 _ 0 rfl (by omega)
  |succ k ihk=>
   intro i hk hi;have hi':i<l.bl.length:=by omega
   obtain⟨x,hx⟩:=bw hi';rw[Ru,tQ,aU.aI,a6];have:decide (i<l.bl.length)=true:=by simpa using hi'
   have hm:=a7 hx;rw[this,aD,bg hx];simp only[aw];rw[O2 hB (hrr x hm).1.1];simp only[aw];rw[bM i (by omega),lD,G5 hx];exact ihk (i+1) (by omega) (by omega)
 rw[agH,Ay,O2 hB hn,aw,ae7,yA,mw (by omega),aw];exact h1 _ 0 rfl (by omega)
theorem P3 {a b:aP} (ha:a.aL.ok B):ab ((f114 Pf) a b) (λr=>r=true↔a=b):=by
 rw[agI,Az];cases a with|mk s l=>cases b with|mk s' l'=>
 refine ab.bif (λh=>?_) (λh=>ab.ret ⟨λe=>(by cases e),λe=>?_⟩)
 ·rw[p51 hB _ _ ha,aw];refine ab.ret ?_;have h:s=s':=by simpa using h
  rw[P6,h];simp
 ·cases e;simp at h
end
theorem Dd (t:aP):(f179 Pf) t=some (isNone t):=by
 rw[agJ,AA,isNone];cases t.aX==0<;>rfl
theorem iu (n:Int):(f113 Pf) n=some (bm n):=agK n
theorem of_eq (l:ah):(f112 Pf) l=some (dD l):=agL l
theorem adJ (l:ah) (f:bU):(f62 Pf) l f=some (bif f.Result==0 then dD l else bm f.Result):=by
 rw[e62,Bu,of_eq,iu];cases f.Result==0<;>rfl
def D' (f:bU):Prop:=de f.Name=true/\de f.On=true/\f.Params.length<=8/\0<=f.Result/\f.Result<=4/\
 ∀(i:Nat) p,f.Params[i]? =some p->de p.Name=true/\1<=p.aX/\p.aX<=4/\∀(j:Nat) q,j<i->f.Params[j]? =some q->q.Name≠p.Name
theorem aeF (a:List TParam) (p:TParam) (ha:a.length<9223372036854775807):(CC Pf) a p=some (a.any λq:TParam=>q.Name==p.Name):=by
 rw[aa5,wR];have:(CD Pf) a p=some (idxOf (λq:TParam=>q.Name==p.Name) a 0):=by
  rw[aa6,sI];refine w9 (λq:TParam=>q.Name==p.Name) (λi y hy hi=>?_) ?_
  ·rw[Nd,rX,TParam.aI,a6];have:decide (i<a.length)=true:=by simpa using hi
   rw[this,aD,bg hy,aw,agM,AB,aw,bM i (by omega)]
  ·rw[Nd,rX,TParam.aI,a6];have:decide (a.length<a.length)=false:=by simp
   rw[this];rfl
 rw[this,aw,FV]
theorem Z8 {f:bU} (h1:f.Name.length<1048577) (h2:f.On.length<1048577) (h3:∀p∈f.Params,p.Name.length<1048577):ab ((f59 Pf) f) (λr=>r=true->D' f):=by
 rw[e59,Bv,kN _ (by omega),kN _ (by omega),TParam.aI];simp only[aw];refine ab.bif (λ_=>ab.ret λe=>by cases e) (λg1=>?_);refine ab.bif (λ_=>ab.ret λe=>by cases e) (λg2=>?_);refine ab.bif (λ_=>ab.ret λe=>by cases e) (λg3=>?_);refine ab.bif (λ_=>ab.ret λe=>by cases e) (λg4=>?_);refine ab.bif (λ_=>ab.ret λe=>by cases e) (λg5=>?_);have g3:f.Params.length<=8:=by simp at g3;omega
 have h:=eZ (L:=λi=>(qS Pf) f i) (P:=λr=>r=true->D' f) (len:=f.Params.length) (λi=>∀(k:Nat) p,k<i->f.Params[k]? =some p->de p.Name=true/\1<=p.aX/\p.aX<=4/\∀(j:Nat) q,j<k->f.Params[j]? =some q->q.Name≠p.Name) (λi hi hI k=>by
  show ab ((qS Pf) f i) _;obtain⟨x,hx⟩:=bw hi;rw[Tt,uz,TParam.aI,a6];have:decide (i<f.Params.length)=true:=by simpa using hi
  rw[this,aD,bg hx,aw,kN _ (by have:=h3 x (a7 hx);omega),aw,ta (by omega),aw,aeF _ _ (by rw[gU];omega),aw,bM i (by omega)];refine ab.bif (λ_=>ab.ret λe=>by cases e) (λk1=>?_);refine ab.bif (λ_=>ab.ret λe=>by cases e) (λk2=>?_);refine ab.bif (λ_=>ab.ret λe=>by cases e) (λk3=>?_);refine ab.bif (λ_=>ab.ret λe=>by cases e) (λk4=>k λm p hm hp=>?_);rcases nf.1 hm with h5|rfl
  ·exact hI m p h5 hp
  ·rw[hx]at hp;cases hp;refine⟨by simpa using k1,by simp at k2;omega,by simp at k3;omega,λj q hj hq e=>?_⟩;rw[YH]at k4;exact k4 q (a7 (i:=j) (by rw[MT hj];exact hq)) (by simpa using e)) (λhI=>by
  show ab ((qS Pf) f _) _;rw[Tt,uz,TParam.aI,a6];have:decide (f.Params.length<f.Params.length)=false:=by simp
  rw[this,aF];exact ab.ret λ_=>⟨by simpa using g1,by simpa using g2,g3,by simp at g4;omega,by simp at g5;omega,λi p hp=>hI i p (b9.1 hp).1 hp⟩) 0 (by omega) (λk p hk=>by omega)
 exact h
