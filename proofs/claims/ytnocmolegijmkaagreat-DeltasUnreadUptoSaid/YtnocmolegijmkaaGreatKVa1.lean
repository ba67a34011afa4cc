/- What the small functions under types.Valid answer: names, lists, loops. -/
import Derived.Test.YtnocmolegijmkaaGreatKPl
import Derived.Test.YtnocmolegijmkaaGreatKG4
import Derived.Test.YtnocmolegijmkaaGreatKGk
set_option linter.all false
section
namespace Go.Proofs.YtnocmolegijmkaaGreat
open Go Go.Bw
theorem zj {D:Type} {a:List D} {L:Int->Option Bool} (p:D->Bool) (e:Bool) (hs:∀(i:Nat) x,a[i]? =some x->i<a.length->L (i:Int)=bif p x then L ((i+1:Nat):Int)else some false) (he:L (a.length:Int)=some e):
  L 0=some (a.all p&&e):=by
 have key:∀k i:Nat,k=a.length-i->i<=a.length->L (i:Int)=some ((a.drop i).all p&&e):=by
  intro k
  induction k with
  |zero=>
   intro i hk hi;have:i=a.length:=by omega
   subst this;rw[he];simp
  |succ k ih=>
   intro i hk hi;have hi':i<a.length:=by omega
   obtain⟨x,hx⟩:=bm hi';rw[hs i x hx hi',jU hx,kP];cases p x with
   |false=>rfl
   |true=>simpa using ih (i+1) (by omega) (by omega)
 simpa using key a.length 0 (by omega) (by omega)
def idxOf {D:Type} (p:D->Bool):List D->Int->Int
 |[],_=> -1
 |x::r,i=>bif p x then i else idxOf p r (i+1)
theorem yB {D:Type} {a:List D} {L:Int->Option Int} (p:D->Bool) (hs:∀(i:Nat) x,a[i]? =some x->i<a.length->L (i:Int)=bif p x then some (i:Int)else L ((i+1:Nat):Int)) (he:L (a.length:Int)=some (-1)):
  L 0=some (idxOf p a 0):=by
 have key:∀k i:Nat,k=a.length-i->i<=a.length->L (i:Int)=some (idxOf p (a.drop i) i):=by
  intro k
  induction k with
  |zero=>
   intro i hk hi;have:i=a.length:=by omega
   subst this;rw[he];simp[idxOf]
  |succ k ih=>
   intro i hk hi;have hi':i<a.length:=by omega
   obtain⟨x,hx⟩:=bm hi';rw[hs i x hx hi',jU hx,idxOf];cases p x with
   |true=>rfl
   |false=>simpa using ih (i+1) (by omega) (by omega)
 simpa using key a.length 0 (by omega) (by omega)
theorem xN {D:Type} (p:D->Bool):∀(a:List D) (j:Nat),(idxOf p a j= -1/\∀x∈a,p x=false)\/∃(i:Nat) (x:D),idxOf p a j=((j+i:Nat):Int)/\a[i]? =some x/\p x=true/\∀k y,k<i->a[k]? =some y->p y=false
 |[],j=> .inl ⟨rfl,by simp⟩
 |x::r,j=>by
  rw[idxOf];cases hp:p x with
  |true=>exact .inr ⟨0,x,by simp,by simp,hp,λk y hk=>by omega⟩
  |false=>
   have h:=xN p r (j+1);simp only[aC];have e:((j:Nat):Int)+1=((j+1:Nat):Int):=by omega
   rw[e];rcases h with⟨h1,h2⟩|⟨i,y,h1,h2,h3,h4⟩
   ·refine .inl ⟨h1,λz hz=>?_⟩;rcases ck.1 hz with rfl|hz
    ·exact hp
    ·exact h2 z hz
   ·refine .inr ⟨i+1,y,by rw[h1];congr 1;omega,by simpa using h2,h3,λk z hk hz=>?_⟩;cases k with
    |zero=>simp only[jz,aD]at hz;subst hz;exact hp
    |succ k=>exact h4 k z (by omega) (by simpa using hz)
theorem HD {D:Type} {p:D->Bool} {a:List D}:decide (idxOf p a 0>=0)=a.any p:=by
 rcases xN p a 0 with⟨h1,h2⟩|⟨i,x,h1,h2,h3,_⟩
 ·have e:idxOf p a 0= -1:=h1;rw[e];have:a.any p=false:=by
   rw[aav];intro x hx;simp[h2 x hx]
  rw[this];rfl
 ·have e:idxOf p a 0=((0+i:Nat):Int):=h1;rw[e];have:a.any p=true:=Hq.2 ⟨x,aY h2,h3⟩;rw[this];simp
theorem afB (c:UInt8):(f113 Pf) (c.toNat:Int)=some (sC c):=by
 rw[ajL,BF];unfold sC;have h0:∀n:Nat,(decide ((97:Int)<=(n:Int))=decide (97<=n))/\(decide ((n:Int)<=122)=decide (n<=122))/\(decide ((48:Int)<=(n:Int))=decide (48<=n))/\(decide ((n:Int)<=57)=decide (n<=57))/\(((n:Int)==45)=(n==45)):=λn=>by
  refine⟨?_,?_,?_,?_,?_⟩<;>(rw[mW];simp only[jA,beq_iff_eq];omega)
 obtain⟨h1,h2,h3,h4,h5⟩:=h0 c.toNat;rw[h1,h2,h3,h4,h5];cases decide (97<=c.toNat)<;>cases decide (c.toNat<=122)<;>cases decide (48<=c.toNat)<;>cases decide (c.toNat<=57)<;>rfl
def dw (s:List UInt8):Bool:=match s with
 |[]=>false
 |c::_=>decide (s.length<=16)&&decide (97<=c.toNat)&&decide (c.toNat<=122)&&s.all sC
theorem Jl {s:List UInt8}:dw s=true↔NV s:=by
 cases s with
 |nil=>simp[dw,NV]
 |cons c r=>simp[dw,NV,and_assoc]
theorem lM (s:List UInt8) (hs:s.length<9223372036854775807):(f68 Pf) s=some (dw s):=by
 rw[e68,C2];cases s with
 |nil=>rfl
 |cons c r=>
  have e0:((((c::r).length:Nat):Int)==0)=false:=by simp;omega
  rw[e0,aC];have hL:(Aa Pf) (c::r) 0=some ((c::r).all sC&&true):=by
   refine zj sC true (λi x hx hi=>?_) ?_
   ·rw[Wm,vq];have:decide ((i:Int)<(((c::r).length:Nat):Int))=true:=by simp;simp at hi;omega
    rw[this,aB,a7 hx,ax,afB,ax,bO i (by omega)];cases sC x<;>rfl
   ·rw[Wm,vq];have:decide ((((c::r).length:Nat):Int)<(((c::r).length:Nat):Int))=false:=by simp
    rw[this];rfl
  have hi:aq (c::r:List UInt8) 0=some c:=rfl;rw[hi,hL];simp only[ax,qC];have h1:decide ((((c::r).length:Nat):Int)>16)= !decide ((c::r).length<=16):=by rw[mW];simp;omega
  have h2:decide (((c.toNat:Nat):Int)<97)= !decide (97<=c.toNat):=by rw[mW];simp;omega
  have h3:decide (((c.toNat:Nat):Int)>122)= !decide (c.toNat<=122):=by rw[mW];simp;omega
  rw[h1,h2,h3];unfold dw;simp only;cases decide ((c::r).length<=16)<;>cases decide (97<=c.toNat)<;>cases decide (c.toNat<=122)<;>rfl
theorem Ex (a:List (List UInt8)) (x:List UInt8) (ha:a.length<9223372036854775807):(f93 Pf) a x=some (idxOf (λy=>x==y) a 0):=by
 rw[e93,xi];refine yB (λy=>x==y) (λi y hy hi=>?_) ?_
 ·rw[Wn,vt];have:decide ((i:Int)<((aG a).length:Int))=true:=by rw[bH];simp;omega
  rw[this,aB,a7 hy,ax,bO i (by omega)]
 ·rw[Wn,vt];have:decide ((a.length:Int)<((aG a).length:Int))=false:=by rw[bH];simp
  rw[this];rfl
theorem contains_eq (a:List (List UInt8)) (x:List UInt8) (ha:a.length<9223372036854775807):(f148 Pf) a x=some (a.any λy=>x==y):=by
 rw[ajM,BG,Ex a x ha,ax,HD]
theorem has_eq (a:List (List UInt8)) (x:List UInt8) (ha:a.length<9223372036854775807):(f140 Pf) a x=some (a.any λy=>x==y):=by
 rw[ajN,BH,contains_eq a x ha];rfl
theorem Ef (a b:List (List UInt8)) (ha:a.length<9223372036854775807) (hb:b.length<9223372036854775807):(f92 Pf) a b=some (a.all λx=>b.any λy=>x==y):=by
 rw[e92,xj];have h:=zj (a:=a) (L:=λi=>(rM Pf) a b i) (λx=>b.any λy=>x==y) true (λi x hx hi=>by
  show(rM Pf) a b i=_;rw[Wo,vw];have:decide ((i:Int)<((aG a).length:Int))=true:=by rw[bH];simp;omega
  rw[this,aB,a7 hx,ax,has_eq b x hb,ax,bO i (by omega)];cases b.any λy=>x==y<;>rfl) (by
  show(rM Pf) a b _=_;rw[Wo,vw];have:decide ((a.length:Int)<((aG a).length:Int))=false:=by rw[bH];simp
  rw[this];rfl)
 simpa using h
theorem rm (b:Bool) (e:Int):(f160 Pf) b e=some (bif b then e else 0):=by
 rw[ajI,BD];cases b<;>rfl
theorem aW (n m:Nat):decide (((n:Nat):Int)<(m:Int))=decide (n<m):=by rw[mW];simp only[jA];omega
theorem abq {a:List (List UInt8)} {i:Nat} {x y:List UInt8} (hx:a[i]? =some x) (hy:a[i+1]? =some y):rising (a.drop i)=(Op.bytesLess x y&&rising (a.drop (i+1))):=by
 rw[jU hx,jU hy];rfl
theorem og (a:List (List UInt8)) (ha:a.length<9223372036854775807):(f126 Pf) a=some (rising a):=by
 rw[ajJ,wK];have key:∀k i:Nat,k=a.length-(i+1)->i+1<=a.length->(zH Pf) a ((i+1:Nat):Int)=some (rising (a.drop i)):=by
  intro k
  induction k with
  |zero=>
   intro i hk hi;have e:i+1=a.length:=by omega
   rw[Jt,rn,bH,aW];have:decide (i+1<a.length)=false:=by simp;omega
   rw[this,aC];obtain⟨x,hx⟩:=bm (by omega:i<a.length);rw[jU hx,show a.drop (i+1)=[]from PW (by omega)];rfl
  |succ k ih=>
   intro i hk hi;obtain⟨x,hx⟩:=bm (by omega:i<a.length);obtain⟨y,hy⟩:=bm (by omega:i+1<a.length);rw[Jt,rn,bH,aW];have:decide (i+1<a.length)=true:=by simp;omega
   have e:IntKind.i64.wrap (((i+1:Nat):Int)-1)=(i:Int):=by rw[wrap64 (by omega) (by omega)];omega
   rw[this,aB,e,a7 hx,a7 hy,ax,ax,bO (i+1) (by omega),abq hx hy,ih (i+1) (by omega) (by omega)];cases Op.bytesLess x y<;>rfl
 cases a with
 |nil=>rw[Jt,rn];rfl
 |cons x r=>exact key _ 0 rfl (by simp)
def iD (l:ai):Prop:=
 (l.Kind=1\/l.Kind=9)/\l.ak=[]/\l.Names=[]/\l.bI=[]/\l.Lo=0/\l.Hi=0\/
 (l.Kind=2\/l.Kind=3)/\l.ak=[]/\l.Names=[]/\l.bI=[]\/
 (l.Kind=4\/l.Kind=8)/\l.ak=[]/\l.bI=[]/\l.Lo=0/\l.Hi=0\/
 l.Kind=5/\l.ak.length=1/\l.bI=[]/\l.Lo=0/\l.Hi=0\/
 l.Kind=7/\l.ak.length=2/\l.Names=[]/\l.bI=[]/\l.Lo=0/\l.Hi=0\/
 l.Kind=6/\l.ak.length=l.Names.length/\l.Names≠[]/\l.bI=[]/\l.Lo=0/\l.Hi=0\/
 l.Kind=10/\l.ak=[]/\l.Names≠[]/\l.Lo=0/\l.Hi=0
theorem acX (l:ai):ae ((f107 Pf) l) (λr=>r=0->iD l):=by
 rw[X1,wL];simp only[rm,ax,bH,ai.aF,aV.aF]
 repeat' (first|refine ae.bif (λ_=>?_) (λ_=>?_)|refine ae.ret (λhr=>?_))
 all_goals (first|(exfalso;revert hr;decide)|(have hn:l.Names≠[]:=(by intro e;rw[e]at hr;revert hr;decide);clear hr;simp at*;simp[iD, *];done)|(have hn:l.Names≠[]:=(by intro e;rw[e]at hr;revert hr;decide);clear hr;simp at*;simp[iD, *];omega)|(simp at*;simp[iD, *];done)|(simp at*;simp[iD, *];omega)|skip)
def Bv (l:ai):Prop:=l.Names.length<=(if l.Kind=6 then 8 else if l.Kind=10 then 12 else 32)/\l.bI.length<=32
theorem Ri (l:ai):ae ((f109 Pf) l) (λr=>r=0↔Bv l):=by
 rw[ajK,BE];simp only[rm,ax,bH,aV.aF];have e:decide ((l.bI.length:Int)>32)= !decide (l.bI.length<=32):=by rw[mW];simp;omega
 rw[e];unfold Bv
 repeat' (first|refine ae.bif (λh=>?_) (λh=>?_)|refine ae.ret ?_)
 all_goals (simp at*;first|omega|(cases hd:decide (l.bI.length<=32)<;>simp at hd<;>simp[*]<;>omega))
theorem ab4 (l:ai):ae ((f111 Pf) l) (λr=>r=0-> -1000000000<=l.Lo/\l.Lo<=l.Hi/\l.Hi<=1000000000):=by
 rw[X2,wM];simp only[rm,ax]
 repeat' (first|refine ae.bif (λ_=>?_) (λ_=>?_)|refine ae.ret (λhr=>?_))
 all_goals (first|(exfalso;revert hr;decide)|(cases h5:decide (l.Hi>1000000000)<;>rw[h5]at hr<;>simp at* <;>omega))
theorem IJ {l:ai} {p:ai} (h:p∈l.ak):SizeOf.sizeOf p<SizeOf.sizeOf l:=by
 cases l;have:=List.sizeOf_lt_of_mem h;simp only[ai.mk.sizeOf_spec]at*
 omega
inductive me:ai->Prop
 |one {l:ai}:(l.Kind=1\/l.Kind=2\/l.Kind=3)->me l
 |lex {l p q:ai}:l.Kind=7->l.ak=[p,q]->me p->me q->me l
theorem Ie:∀(n:Nat) (l:ai),SizeOf.sizeOf l<=n->ae ((f161 Pf) l) (λr=>r=true->me l)
 |0,l,h=>by cases l;simp only[ai.mk.sizeOf_spec]at h;omega
 |n+1,l,h=>by
  rw[Lu,sA,ai.aF];refine ae.bif (λh1=>ae.ret λ_=> .one (.inl (by simpa using h1))) (λ_=>?_);refine ae.bif (λh1=>ae.ret λ_=> .one (.inr (.inl (by simpa using h1)))) (λ_=>?_);refine ae.bif (λh1=>ae.ret λ_=> .one (.inr (.inr (by simpa using h1)))) (λ_=>?_);refine ae.bif (λh7=>?_) (λ_=>ae.ret λh=>by cases h);refine ae.bif (λh2=>?_) (λ_=>ae.ret λh=>by cases h);have h2:l.ak.length=2:=by simp at h2;omega
  obtain⟨p,q,e⟩:∃p q,l.ak=[p,q]:=by
   match hp:l.ak,h2 with
   |[p,q],_=>exact⟨p,q,rfl⟩
  have hp:SizeOf.sizeOf p<SizeOf.sizeOf l:=IJ (by rw[e];simp);have hq:SizeOf.sizeOf q<SizeOf.sizeOf l:=IJ (by rw[e];simp);have e0:aq l.ak 0=some p:=by rw[e];rfl
  have e1:aq l.ak 1=some q:=by rw[e];rfl
  rw[e0,e1];simp only[ax];refine ae.bind (Ie n p (by omega)) (λy hy=>?_);refine ae.bif (λhb=>?_) (λ_=>ae.ret λh=>by cases h);refine ae.bind (Ie n q (by omega)) (λz hz=>ae.ret λh=> .lex (by simpa using h7) e (hy hb) (hz h))
theorem ab5 (l:ai) (hs:iD l):ae ((f112 Pf) l) (λr=>r=0->l.Kind=7->∃p,l.ak[0]? =some p/\me p):=by
 rw[X3,wN];simp only[rm,ax];refine ae.bif (λh7=>?_) (λh7=>ae.ret λ_ h=>by simp at h7;exact absurd h h7);have h2:l.ak.length=2:=by
  simp at h7;simp[iD,h7]at hs;exact hs.1
 obtain⟨p,hp⟩:=bm (l:=l.ak) (i:=0) (by omega);have e0:aq l.ak 0=some p:=hp;rw[e0,ax];refine ae.bind (Ie _ p (bW _)) (λy hy=>ae.ret λhr _=>⟨p,hp,hy ?_⟩);cases y with
 |true=>rfl
 |false=>revert hr;decide
theorem agx (l:List Int) (hl:l.length<9223372036854775807):ae ((f108 Pf) l) (λr=>r=0->∀x∈l,x=0):=by
 rw[X4,sB];have:=fT (L:=λi=>(ny Pf) l i) (P:=λr=>r=0->∀x∈l,x=0) (len:=l.length) (λi=>∀j x,j<i->l[j]? =some x->x=0) (λi hi hI k=>by
  show ae ((ny Pf) l i) _;obtain⟨x,hx⟩:=bm hi;rw[E0,pI,n9,aW];have:decide (i<l.length)=true:=by simpa using hi
  rw[this,aB,a7 hx,ax,bO i (by omega)];refine ae.bif (λh=>ae.ret λe=>by simp at h;exact absurd e h) (λh=>k λj y hj hy=>?_);rcases nW.1 hj with h1|rfl
  ·exact hI j y h1 hy
  ·rw[hx]at hy;cases hy;simpa using h) (λhI=>by
  show ae ((ny Pf) l _) _;rw[E0,pI,n9,aW];have:decide (l.length<l.length)=false:=by simp
  rw[this,aC];refine ae.ret λ_ x hx=>?_;obtain⟨j,hj⟩:=jB hx;exact hI j x (cr.1 hj).1 hj) 0 (by omega) (λj x hj=>by omega)
 exact this
theorem ad9 {l:ai} (h:iD l):(f107 Pf) l=some 0:=by
 rw[X1,wL];simp only[rm,ax,bH,ai.aF,aV.aF];have ne:∀{D:Type} {a:List D},a≠[]->((a.length:Int)==0)=false:=λ{D a} h=>by cases a;exact absurd rfl h;simp;omega
 rcases h with⟨h1|h1,h2,h3,h4,h5,h6⟩|⟨h1|h1,h2,h3,h4⟩|⟨h1|h1,h2,h3,h4,h5⟩|⟨h1,h2,h3,h4,h5⟩|⟨h1,h2,h3,h4,h5,h6⟩|⟨h1,h2,h3,h4,h5,h6⟩|⟨h1,h2,h3,h4,h5⟩<;>simp[*]
theorem acY {l:ai} (h: -1000000000<=l.Lo/\l.Lo<=l.Hi/\l.Hi<=1000000000):(f111 Pf) l=some 0:=by
 rw[X2,wM];simp only[rm,ax];obtain⟨h1,h2,h3⟩:=h;have e1:¬l.Lo>l.Hi:=by omega
 have e2:¬l.Lo< -1000000000:=by omega
 have e3:¬l.Lo>1000000000:=by omega
 have e4:¬l.Hi< -1000000000:=by omega
 have e5:¬l.Hi>1000000000:=by omega
 simp[e1,e2,e3,e4,e5]
theorem ad' {l:ai} (h:me l):(f161 Pf) l=some true:=by
 induction h with
 |one hk=>
  rw[Lu,sA];rcases hk with hk|hk|hk<;>simp[hk]
 |lex hk hp _ _ i1 i2=>
  rw[Lu,sA,ai.aF,hp];simp[hk,aq,i1,i2]
theorem acZ {l:ai} (h:l.Kind=7->∃p,l.ak[0]? =some p/\me p):(f112 Pf) l=some 0:=by
 rw[X3,wN];simp only[rm,ax];by_cases h7:l.Kind=7
 ·obtain⟨p,hp,hc⟩:=h h7;have e0:aq l.ak 0=some p:=hp;rw[e0];simp[h7,ad' hc]
 ·have:(l.Kind==7)=false:=by simpa using h7
  rw[this];rfl
theorem ag' (l:List Int) (hl:l.length<9223372036854775807) (h:∀x∈l,x=0):(f108 Pf) l=some 0:=by
 rw[X4,sB];have:=fT (L:=λi=>(ny Pf) l i) (P:=λr=>r=0) (len:=l.length) (λ_=>True) (λi hi hI k=>by
  show ae ((ny Pf) l i) _;obtain⟨x,hx⟩:=bm hi;rw[E0,pI,n9,aW];have:decide (i<l.length)=true:=by simpa using hi
  rw[this,aB,a7 hx,ax,bO i (by omega)];have e:=h x (aY hx);refine ae.bif (λh=>?_) (λh=>k trivial);subst e;cases h) (λhI=>by
  show ae ((ny Pf) l _) _;rw[E0,pI,n9,aW];have:decide (l.length<l.length)=false:=by simp
  rw[this,aC];exact ae.ret rfl) 0 (by omega) trivial
 exact ae.of this
def vP (names:List (List UInt8)) (r:aV):Prop:=r.If≠[]/\rising r.If=true/\(r.If.all λx=>names.any λy=>x==y)=true/\(names.any λy=>r.dT==y)=true
def z8 (l:ai):Prop:=(∀s∈l.Names,dw s=true)/\(l.Kind≠6->rising l.Names=true)/\(l.Kind=6->∀(i:Nat) s,l.Names[i]? =some s->((l.Names.take i).any λy=>s==y)=false)/\∀r∈l.bI,vP l.Names r
mutual
def mN:ai->Nat
 |⟨_,_,_,_,ps,_⟩=>1+gJ ps
def gJ:List ai->Nat
 |[]=>0
 |p::ps=>mN p+gJ ps
end
mutual
def l4:ai->Nat
 |⟨_,_,_,_,ps,_⟩=>1+nL ps
def nL:List ai->Nat
 |[]=>0
 |p::ps=>max (l4 p) (nL ps)
end
theorem EW (l:ai):mN l=1+gJ l.ak:=by cases l;rw[mN]
theorem zA (l:ai):l4 l=1+nL l.ak:=by cases l;rw[l4]
theorem R4:∀{ps:List ai} {p:ai},p∈ps->mN p<=gJ ps
 |q::ps,p,h=>by
  rw[gJ];rcases ck.1 h with rfl|h
  ·omega
  ·have:=R4 h;omega
theorem Ic:∀{ps:List ai} {p:ai},p∈ps->l4 p<=nL ps
 |q::ps,p,h=>by
  rw[nL];rcases ck.1 h with rfl|h
  ·omega
  ·have:=Ic h;omega
theorem Te {n:Nat}:∀{ps:List ai},(∀p∈ps,l4 p<=n)->nL ps<=n
 |[],_=>by rw[nL];omega
 |p::ps,h=>by
  rw[nL];have h1:=h p (by simp);have h2:=Te (ps:=ps) (n:=n) λq hq=>h q (by simp[hq]);omega
theorem Rh {ps:List ai}:∀{i:Nat} {p:ai},ps[i]? =some p->gJ (ps.take (i+1))=gJ (ps.take i)+mN p:=by
 induction ps with
 |nil=>intro i p h;simp at h
 |cons q ps ih=>
  intro i p h;cases i with
  |zero=>simp only[jz,aD]at h;subst h;simp[gJ]
  |succ i=>
   simp only[mU]at h;have:=ih h;rw[xr,xr,gJ,gJ,this];omega
theorem aaN {ps:List ai} (i:Nat):gJ (ps.take i)<=gJ ps:=by
 induction ps generalizing i with
 |nil=>simp
 |cons q ps ih=>
  cases i with
  |zero=>simp[gJ]
  |succ i=>rw[xr,gJ,gJ];have:=ih i;omega
inductive qt:ai->Prop
 |mk {l:ai}:iD l->Bv l->z8 l->(-1000000000<=l.Lo/\l.Lo<=l.Hi/\l.Hi<=1000000000)->(l.Kind=7->∃p,l.ak[0]? =some p/\me p)->(∀p∈l.ak,qt p)->qt l
structure cx (l:ai):Prop where
 i:qt l
 fG:mN l<=64
 dep:l4 l<=6
theorem cx.part {l p:ai} (h:cx l) (hp:p∈l.ak):cx p:=by
 have h1:=h.fG;have h2:=h.dep;rw[EW]at h1;rw[zA]at h2;have h3:=R4 hp;have h4:=Ic hp;exact⟨by have h:=h.i;cases h with|mk _ _ _ _ _ h=>exact h p hp,by omega,by omega⟩
theorem cx.shape {l:ai} (h:cx l):iD l:=by have h:=h.i;cases h;assumption
theorem cx.Lt {l:ai} (h:cx l):Bv l:=by have h:=h.i;cases h;assumption
theorem cx.names {l:ai} (h:cx l):z8 l:=by have h:=h.i;cases h;assumption
theorem cx.range {l:ai} (h:cx l): -1000000000<=l.Lo/\l.Lo<=l.Hi/\l.Hi<=1000000000:=by have h:=h.i;cases h;assumption
theorem cx.chain {l:ai} (h:cx l):l.Kind=7->∃p,l.ak[0]? =some p/\me p:=by have h:=h.i;cases h;assumption
theorem uk {D:Type} {l:List D} {i:Nat} (h:i<=l.length):cn l 0 (i:Int)=some (l.take i):=by
 have:cn l ((0:Nat):Int) (i:Int)=some (l.take i):=by
  show(bif Nat.ble 0 i&&Nat.ble i l.length then some ((l.take i).drop 0)else none)=_;rw[qA (mT i),qA h];rfl
 exact this
section
variable {B:Nat} (hB:B<1099511627776)
include hB
theorem R5 {l:ai} (hl:l.ok B) (L:Int->Option Int) (hL:∀s,L s=(bif decide (s<(↑(aV.rows l.bI).length:Int))then((aq (l.bI) (s)).bind λx=>(bif (↑(aG x.If).length:Int)==0 then(some (3))else(((f126 Pf) (x.If)).bind λy=>(bif !y then(some (3))else(((f92 Pf) (x.If) (l.Names)).bind λz=>(bif !z then(some (3))else(((f140 Pf) (l.Names) (x.dT)).bind λu=>(bif !u then(some (3))else(L (IntKind.i64.wrap (s+1)))))))))))else(some (0)))):
  ae (L 0) (λr=>r=0->∀x∈l.bI,vP l.Names x):=by
 rw[ai.dA]at hl;obtain⟨_,_,_,⟨hn,_⟩,_,⟨hr,hrr⟩⟩:=hl;have h:=fT (L:=L) (P:=λr=>r=0->∀x∈l.bI,vP l.Names x) (len:=l.bI.length) (λi=>∀j x,j<i->l.bI[j]? =some x->vP l.Names x) (λi hi hI k=>by
  obtain⟨x,hx⟩:=bm hi;have hxo:=hrr x (aY hx);rw[hL,aV.aF,aW];have:decide (i<l.bI.length)=true:=by simpa using hi
  rw[this,aB,a7 hx,ax,bH,og _ (by have:=hxo.1.1;omega),Ef _ _ (by have:=hxo.1.1;omega) (by omega),has_eq _ _ (by omega),bO i (by omega)];simp only[ax];refine ae.bif (λ_=>ae.ret λe=>by cases e) (λh1=>?_);refine ae.bif (λ_=>ae.ret λe=>by cases e) (λh2=>?_);refine ae.bif (λ_=>ae.ret λe=>by cases e) (λh3=>?_);refine ae.bif (λ_=>ae.ret λe=>by cases e) (λh4=>?_);refine k λj y hj hy=>?_;rcases nW.1 hj with h5|rfl
  ·exact hI j y h5 hy
  ·rw[hx]at hy;cases hy;refine⟨λe=>?_,by simpa using h2,by simpa only[PZ]using h3,by simpa only[PZ]using h4⟩;rw[e]at h1;simp at h1) (λhI=>by
  rw[hL,aV.aF,aW];have:decide (l.bI.length<l.bI.length)=false:=by simp
  rw[this,aC];refine ae.ret λ_ x hx=>?_;obtain⟨j,hj⟩:=jB hx;exact hI j x (cr.1 hj).1 hj) 0 (by omega) (λj x hj=>by omega)
 exact h
theorem aa2 {l:ai} (hl:l.ok B):ae ((f110 Pf) l) (λr=>r=0->z8 l):=by
 rw[X0,sy];have hl':=hl;rw[ai.dA]at hl;obtain⟨_,_,_,⟨hn,hnn⟩,_,⟨hr,hrr⟩⟩:=hl;have h:=fT (L:=λi=>(mu Pf) l 0 i) (P:=λr=>r=0->z8 l) (len:=l.Names.length) (λi=>(∀j s,j<i->l.Names[j]? =some s->dw s=true)/\(l.Kind=6->∀j s,j<i->l.Names[j]? =some s->((l.Names.take j).any λy=>s==y)=false)) (λi hi hI k=>by
  show ae ((mu Pf) l 0 i) _;obtain⟨x,hx⟩:=bm hi;rw[EZ,pH,bH,aW];have:decide (i<l.Names.length)=true:=by simpa using hi
  have hxl:=hnn x (aY hx);rw[this,aB,a7 hx,ax,lM x (by omega),ax,bO i (by omega),uk (by omega),ax,contains_eq _ _ (by rw[iv];omega),ax];refine ae.bif (λ_=>ae.ret λe=>by cases e) (λh1=>?_);have h1:dw x=true:=by simpa using h1
  have nv:∀j s,j<i+1->l.Names[j]? =some s->dw s=true:=λj s hj hs=>by
   rcases nW.1 hj with h5|rfl
   ·exact hI.1 j s h5 hs
   ·rw[hx]at hs;cases hs;exact h1
  refine ae.bif (λh6=>?_) (λh6=>k ⟨nv,λe=>by simp at h6;exact absurd e h6⟩);refine ae.bif (λ_=>ae.ret λe=>by cases e) (λh7=>k ⟨nv,λe j s hj hs=>?_⟩);rcases nW.1 hj with h5|rfl
  ·exact hI.2 e j s h5 hs
  ·rw[hx]at hs;cases hs;exact h7) (λhI=>by
  show ae ((mu Pf) l 0 _) _;rw[EZ,pH,bH,aW];have:decide (l.Names.length<l.Names.length)=false:=by simp
  rw[this,aC];have nv:∀s∈l.Names,dw s=true:=λs hs=>by
   obtain⟨j,hj⟩:=jB hs;exact hI.1 j s (cr.1 hj).1 hj
  have di:l.Kind=6->∀(i:Nat) s,l.Names[i]? =some s->((l.Names.take i).any λy=>s==y)=false:=λe i s hs=>hI.2 e i s (cr.1 hs).1 hs;rw[og _ (by omega)];refine ae.bif (λh6=>?_) (λh6=>?_)
  ·rw[ax];refine ae.bif (λ_=>ae.ret λe=>by cases e) (λh8=>?_);exact(R5 hB hl' _ (λs=>UJ l s)).mono λr h e=>⟨nv,λ_=>by simpa using h8,di,h e⟩
  ·exact(R5 hB hl' _ (λs=>UK l s)).mono λr h e=>⟨nv,λh9=>by simp at h6;exact absurd h6 h9,di,h e⟩) 0 (by omega) ⟨λj s hj=>by omega,λ_ j s hj=>by omega⟩
 exact h
theorem R6:∀(n:Nat) (c:dO) (l:ai) (d:Int),l.ok B->0<=c.nodes->c.nodes<=64->(6-d+1).toNat<=n->d<=7->0<=d->ae ((f67 Pf) c l d) (λr=>0<=r.2.nodes/\r.2.nodes<=64/\(r.1=0->qt l/\r.2.nodes=c.nodes+mN l/\d+l4 l<=7))
 |n,c,l,d,hl,h0,h1,hn,hd,hd0=>by
  rw[Z7,xg];refine ae.bif (λ_=>ae.ret ⟨h0,h1,λe=>by cases e⟩) (λh6=>?_);have h6:d<=6:=by simp at h6;omega
  match n,hn with
  |0,hn=>omega
  |n+1,hn=>
  refine ae.bif (λ_=>ae.ret ⟨h0,h1,λe=>by cases e⟩) (λh64=>?_);have h64:c.nodes<64:=by simp at h64;omega
  have hw:IntKind.i64.wrap (c.nodes+1)=c.nodes+1:=wrap64 (by omega) (by omega);have hwd:IntKind.i64.wrap (d+1)=d+1:=wrap64 (by omega) (by omega);rw[hw];refine ae.bind (acX l) (λy3 hs=>?_);refine ae.bif (λhne=>ae.ret ⟨by simp;omega,by simp;omega,λe=>by simp at hne;exact absurd e hne⟩) (λh3=>?_);have hs:=hs (by simpa using h3);refine ae.bind (Ri l) (λy5 hli=>?_);refine ae.bind (aa2 hB hl) (λy6 hsp=>?_);refine ae.bind (ab4 l) (λy7 hra=>?_);refine ae.bind (ab5 l hs) (λy8 hch=>?_);refine ae.bind (agx _ (by simp)) (λy9 hor=>?_);refine ae.bif (λhne=>ae.ret ⟨by simp;omega,by simp;omega,λe=>by simp at hne;exact absurd e hne⟩) (λh9=>?_);have hor:=hor (by simpa using h9);have e5:y5=0:=hor y5 (by simp);have e6:y6=0:=hor y6 (by simp);have e7:y7=0:=hor y7 (by simp);have e8:y8=0:=hor y8 (by simp);have hl':=hl;rw[ai.dA]at hl';obtain⟨_,_,_,_,⟨hpl,hp⟩,_⟩:=hl';have h:=dZ (L:=λi b=>(nE Pf) l d i b) (P:=λr=>0<=r.2.nodes/\r.2.nodes<=64/\(r.1=0->qt l/\r.2.nodes=c.nodes+mN l/\d+l4 l<=7)) (len:=l.ak.length) (λi b=>0<=b.nodes/\b.nodes<=64/\b.nodes=c.nodes+1+gJ (l.ak.take i)/\∀j p,j<i->l.ak[j]? =some p->qt p/\d+1+l4 p<=7) (λi b hi hI k=>by
   show ae ((nE Pf) l d i b) _;obtain⟨x,hx⟩:=bm hi;rw[Fu,p4,ai.aF,aW];have:decide (i<l.ak.length)=true:=by simpa using hi
   rw[this,aB,a7 hx,ax,bO i (by omega),hwd];refine ae.bind (R6 n b x (d+1) (ai.fU hp (aY hx)) hI.1 hI.2.1 (by omega) (by omega) (by omega)) (λy hy=>?_);refine ae.bif (λhne=>ae.ret ⟨hy.1,hy.2.1,λe=>by simp at hne;exact absurd e hne⟩) (λhz=>?_);have hy3:=hy.2.2 (by simpa using hz);refine k _ ⟨hy.1,hy.2.1,by rw[Rh hx];have:=hI.2.2.1;omega,λj p hj hp'=>?_⟩;rcases nW.1 hj with h5|rfl
   ·exact hI.2.2.2 j p h5 hp'
   ·rw[hx]at hp';cases hp';exact⟨hy3.1,hy3.2.2⟩) (λb hI=>by
   show ae ((nE Pf) l d _ b) _;rw[Fu,p4,ai.aF,aW];have:decide (l.ak.length<l.ak.length)=false:=by simp
   rw[this,aC];have all:∀p∈l.ak,qt p/\d+1+l4 p<=7:=λp hp'=>by
    obtain⟨j,hj⟩:=jB hp';exact hI.2.2.2 j p (cr.1 hj).1 hj
   refine ae.ret ⟨hI.1,hI.2.1,λ_=>⟨.mk hs (hli.1 e5) (hsp e6) (hra e7) (hch e8) λp hp'=>(all p hp').1,?_,?_⟩⟩
   ·show b.nodes=_;rw[EW];have:=hI.2.2.1;rw[eN]at this;omega
   ·rw[zA];have:nL l.ak<=(6-d).toNat:=Te λp hp'=>by have:=(all p hp').2;omega
    omega) 0 {nodes:=c.nodes+1} (by omega) ⟨by simp;omega,by simp;omega,by simp[gJ],λj p hj=>by omega⟩
  exact h
theorem Tf {l:ai} (hl:l.ok B) (h:∀r∈l.bI,vP l.Names r) (L:Int->Option Int) (hL:∀s,L s=(bif decide (s<(↑(aV.rows l.bI).length:Int))then((aq (l.bI) (s)).bind λx=>(bif (↑(aG x.If).length:Int)==0 then(some (3))else(((f126 Pf) (x.If)).bind λy=>(bif !y then(some (3))else(((f92 Pf) (x.If) (l.Names)).bind λz=>(bif !z then(some (3))else(((f140 Pf) (l.Names) (x.dT)).bind λu=>(bif !u then(some (3))else(L (IntKind.i64.wrap (s+1)))))))))))else(some (0)))):L 0=some 0:=by
 rw[ai.dA]at hl;obtain⟨_,_,_,⟨hn,_⟩,_,⟨hr,hrr⟩⟩:=hl;refine ae.of (fT (L:=L) (P:=λr=>r=0) (len:=l.bI.length) (λ_=>True) (λi hi _ k=>?_) (λ_=>?_) 0 (by omega) trivial)
 ·obtain⟨x,hx⟩:=bm hi;have hm:=aY hx;have hxo:=hrr x hm;obtain⟨r1,r2,r3,r4⟩:=h x hm;rw[hL,aV.aF,aW];have:decide (i<l.bI.length)=true:=by simpa using hi
  have e1:((x.If.length:Int)==0)=false:=by cases hf:x.If;exact absurd hf r1;simp;omega
  rw[this,aB,a7 hx,ax,bH,og _ (by have:=hxo.1.1;omega),Ef _ _ (by have:=hxo.1.1;omega) (by omega),has_eq _ _ (by omega),bO i (by omega),e1,r2,r3,r4];exact k trivial
 ·rw[hL,aV.aF,aW];have:decide (l.bI.length<l.bI.length)=false:=by simp
  rw[this,aC];exact ae.ret rfl
theorem abp {l:ai} (hl:l.ok B) (h:z8 l):(f110 Pf) l=some 0:=by
 rw[X0,sy];have hl':=hl;rw[ai.dA]at hl;obtain⟨_,_,_,⟨hn,hnn⟩,_,⟨hr,hrr⟩⟩:=hl;obtain⟨n1,n2,n3,n4⟩:=h;refine ae.of (fT (L:=λi=>(mu Pf) l 0 i) (P:=λr=>r=0) (len:=l.Names.length) (λ_=>True) (λi hi _ k=>?_) (λ_=>?_) 0 (by omega) trivial)
 ·show ae ((mu Pf) l 0 i) _;obtain⟨x,hx⟩:=bm hi;have hm:=aY hx;rw[EZ,pH,bH,aW];have:decide (i<l.Names.length)=true:=by simpa using hi
  have hxl:=hnn x hm;rw[this,aB,a7 hx,ax,lM x (by omega),ax,bO i (by omega),uk (by omega),ax,contains_eq _ _ (by rw[iv];omega),ax,n1 x hm];refine ae.bif (λe=>by cases e) (λ_=>?_);refine ae.bif (λh6=>?_) (λ_=>k trivial);rw[n3 (by simpa using h6) i x hx];exact k trivial
 ·show ae ((mu Pf) l 0 _) _;rw[EZ,pH,bH,aW];have:decide (l.Names.length<l.Names.length)=false:=by simp
  rw[this,aC,og _ (by omega)];refine ae.bif (λh6=>?_) (λh6=>?_)
  ·rw[ax,n2 (by simpa using h6)];exact ae.eq (Tf hB hl' n4 _ (λs=>UJ l s))
  ·exact ae.eq (Tf hB hl' n4 _ (λs=>UK l s))
theorem Tg:∀(n:Nat) (c:dO) (l:ai) (d:Int),qt l->l.ok B->0<=c.nodes->c.nodes+mN l<=64->l4 l<=n->d+l4 l<=7->0<=d->(f67 Pf) c l d=some (0,{nodes:=c.nodes+mN l})
 |0,c,l,d,h,hl,h0,h1,hn,hd,hd0=>by rw[zA]at hn;omega
 |n+1,c,l,d,h,hl,h0,h1,hn,hd,hd0=>by
  rw[Z7,xg];have hdd:=zA l;have hcc:=EW l;have e1:decide (d>6)=false:=by simp;omega
  have e2:decide (c.nodes>=64)=false:=by simp;omega
  have hw:IntKind.i64.wrap (c.nodes+1)=c.nodes+1:=wrap64 (by omega) (by omega);have hwd:IntKind.i64.wrap (d+1)=d+1:=wrap64 (by omega) (by omega);cases h with
  |mk hs hli hsp hra hch hpp=>
  obtain⟨y5,e5,h5⟩:=Ri l;rw[h5.2 hli]at e5;rw[hw,e1,e2,ad9 hs,e5,abp hB hl hsp,acY hra,acZ hch];simp only[aC,ax,ag' [0,0,0,0] (by simp) (by simp)];have hl':=hl;rw[ai.dA]at hl';obtain⟨_,_,_,_,⟨hpl,hp⟩,_⟩:=hl';have h:=dZ (L:=λi b=>(nE Pf) l d i b) (P:=λr=>r=(0,{nodes:=c.nodes+mN l})) (len:=l.ak.length) (λi b=>b.nodes=c.nodes+1+gJ (l.ak.take i)) (λi b hi hI k=>by
   show ae ((nE Pf) l d i b) _;obtain⟨x,hx⟩:=bm hi;have hm:=aY hx;rw[Fu,p4,ai.aF,aW];have:decide (i<l.ak.length)=true:=by simpa using hi
   have t1:=Rh hx;have t2:=aaN (ps:=l.ak) (i+1);have t3:=Ic hm;rw[this,aB,a7 hx,ax,bO i (by omega),hwd,Tg n b x (d+1) (hpp x hm) (ai.fU hp hm) (by omega) (by omega) (by omega) (by omega) (by omega),ax];exact k _ (by simp only;rw[hI,t1];omega)) (λb hI=>by
   show ae ((nE Pf) l d _ b) _;rw[Fu,p4,ai.aF,aW];have:decide (l.ak.length<l.ak.length)=false:=by simp
   rw[this,aC];rw[eN]at hI;refine ae.ret ?_;cases b with|mk bn=>simp only at hI⊢;rw[hI,hcc];simp;omega) 0 {nodes:=c.nodes+1} (by omega) (by simp[gJ])
  exact ae.of h
theorem R7 {l:ai} (hl:l.ok B):ae ((f31 Pf) l) (λr=>r=0->cx l):=by
 rw[Z8,xh];exact ae.bind (R6 hB 7 _ l 1 hl (by simp) (by simp) (by decide) (by decide) (by decide)) (λy hy=>ae.ret λe=>by
  obtain⟨h1,h2,h3⟩:=hy.2.2 e;have h4:=hy.2.1;exact⟨h1,by simp at h2;omega,by omega⟩)
theorem Ew {l:ai} (hl:l.ok B) (h:cx l):(f31 Pf) l=some 0:=by
 rw[Z8,xh,Tg hB 7 _ l 1 h.i hl (by simp) (by have:=h.fG;simp;omega) (by have:=h.dep;omega) (by have:=h.dep;omega) (by decide)];rfl
theorem acR {l:ai} (hl:l.ok B):ae ((f31 Pf) l) (λr=>r=0↔cx l):=by
 obtain⟨r,e,h⟩:=R7 hB hl;exact⟨r,e,h,λg=>by rw[Ew hB hl g]at e;cases e;rfl⟩
end
end Go.Proofs.YtnocmolegijmkaaGreat
end

section
namespace Go.Proofs.YtnocmolegijmkaaGreat
open Go Go.Bw
theorem tO {i:Nat} (h:i<9223372036854775807):IntKind.i64.wrap ((i:Int)+1)=((i+1:Nat):Int):=bO i h
theorem ai.ind {P:ai->Prop} (h:∀x:ai,(∀k∈x.ak,P k)->P x):∀x,P x:=by
 intro x;refine ai.rec (motive_1:=P) (motive_2:=λks=>∀k∈ks,P k) ?_ ?_ ?_ x
 ·intro k lo hi ns ps rs ih;exact h ⟨k,lo,hi,ns,ps,rs⟩ ih
 ·intro k hk;cases hk
 ·intro k ks h1 h2 x hx;rcases ck.1 hx with rfl|hx
  ·exact h1
  ·exact h2 x hx
def mM (a b:aV):Bool:=a.dT==b.dT&&a.If==b.If
mutual
def oL:ai->ai->Bool
 |⟨k,lo,hi,ns,ps,rs⟩,⟨k',lo',hi',ns',ps',rs'⟩=>k==k'&&(lo==lo'&&(hi==hi'&&(ns==ns'&&((rs.length==rs'.length&&(rs.zip rs').all (λq=>mM q.1 q.2))&&lk ps ps'))))
def lk:List ai->List ai->Bool
 |[],[]=>true
 |x::r,y::s=>oL x y&&lk r s
 |_,_=>false
end
theorem R1:∀{a b:List ai},a.length=b.length->lk a b=(a.zip b).all (λq=>oL q.1 q.2)
 |[],[],_=>rfl
 |x::a,y::b,h=>by rw[lk,Dz,kP,R1 (by simpa using h)]
 |[],_::_,h=>by simp at h
 |_::_,[],h=>by simp at h
theorem R2:∀{a b:List ai},a.length≠b.length->lk a b=false
 |[],[],h=>absurd rfl h
 |x::a,y::b,h=>by rw[lk,R2 (by simpa using h),Bool.and_false]
 |[],_::_,_=>rfl
 |_::_,[],_=>rfl
variable {B:Nat} (hB:B<=1048576)
section
include hB
theorem ab3 {f:List (List UInt8)->List (List UInt8)->Option Bool} {L:List (List UInt8)->List (List UInt8)->Int->Option Bool} (hf:∀a b,f a b=(bif (↑(aG a).length:Int) !=(↑(aG b).length:Int)then(some (false))else L a b 0))
  (hL:∀a b s,L a b s=(bif decide (s<(↑(aG a).length:Int))then((aq (a) (s)).bind λx=>((aq (b) (s)).bind λy=>(bif !(x==y)then(some (false))else(L a b (IntKind.i64.wrap (s+1))))))else(some (true))))
  {a b:List (List UInt8)} (ha:a.length<=B):f a b=some (a==b):=by
 rw[hf];simp only[bH];by_cases hl:a.length=b.length
 ·have h0:((a.length:Int) !=(b.length:Int))=false:=by simp[hl]
  rw[h0];show L a b 0=_;rw[yR (a:=a) (b:=b) (L:=L a b) (λx y=>x==y) true hl ?_ ?_,qC,agu hl]
  ·intro i x y hx hy hi;rw[hL,bH,tO (by omega)];have h1:decide ((i:Int)<(a.length:Int))=true:=by simpa using hi
   rw[h1,a7 hx,a7 hy];show(bif !(x==y)then _ else _)=_;cases (x==y)<;>rfl
  ·rw[hL,bH];simp
 ·have h0:((a.length:Int) !=(b.length:Int))=true:=by simp;omega
  rw[h0];have:(a==b)=false:=by
   cases h:a==b with
   |false=>rfl
   |true=>exact absurd (congrArg List.length (eq_of_beq h)) hl
  rw[this];rfl
theorem Z6 {a b:List (List UInt8)} (ha:a.length<=B):(f168 Pf) a b=some (a==b):=ab3 hB ajF afA ha
theorem p95 {a b:aV} (ha:a.ok B):(f170 Pf) a b=some (mM a b):=by
 rw[ajG,BB,Z6 hB ha.1.1,mM];cases a.dT==b.dT<;>rfl
theorem p94 {a b:List aV} (hl:a.length<=B) (ha:∀x∈a,x.ok B):(ED Pf) a b=some (a.length==b.length&&(a.zip b).all (λq=>mM q.1 q.2)):=by
 rw[ad6,yS];simp only[aV.aF];by_cases h:a.length=b.length
 ·have h0:((a.length:Int) !=(b.length:Int))=false:=by simp[h]
  rw[h0];show(ta Pf) a b 0=_;rw[yR (a:=a) (b:=b) (L:=(ta Pf) a b) mM true h ?_ ?_]
  ·simp[h]
  ·intro i x y hx hy hi;rw[QC,tc,aV.aF,tO (by omega)];have h1:decide ((i:Int)<(a.length:Int))=true:=by simpa using hi
   rw[h1,a7 hx,a7 hy];show(((f170 Pf) x y).bind _)=_;rw[p95 hB (ha x (aY hx))];show(bif !(mM x y)then _ else _)=_;cases mM x y<;>rfl
  ·rw[QC,tc,aV.aF];simp
 ·have h0:((a.length:Int) !=(b.length:Int))=true:=by simp;omega
  rw[h0];simp[h]
theorem p51:∀a b:ai,a.ok B->(f120 Pf) a b=some (oL a b):=by
 refine ai.ind ?_;intro a ih b ha;rw[ai.dA]at ha;obtain⟨_,_,_,hn,hp,hr⟩:=ha;rw[ajH,BC,Z6 hB hn.1,p94 hB hr.1 hr.2];have h96:(EF Pf) a.ak b.ak=some (lk a.ak b.ak):=by
  rw[ad7,yV];simp only[ai.aF];by_cases h:a.ak.length=b.ak.length
  ·have h0:((a.ak.length:Int) !=(b.ak.length:Int))=false:=by simp[h]
   rw[h0];show(te Pf) a.ak b.ak 0=_;rw[yR (a:=a.ak) (b:=b.ak) (L:=(te Pf) a.ak b.ak) oL true h ?_ ?_]
   ·rw[R1 h,qC]
   ·intro i x y hx hy hi;rw[QD,tf,ai.aF,tO (by omega)];have h1:decide ((i:Int)<(a.ak.length:Int))=true:=by simpa using hi
    have hx':=aY hx;rw[h1,a7 hx,a7 hy];show(((f120 Pf) x y).bind _)=_;rw[ih x hx' y (ai.fU hp.2 hx')];show(bif !(oL x y)then _ else _)=_;cases oL x y<;>rfl
   ·rw[QD,tf,ai.aF];simp
  ·have h0:((a.ak.length:Int) !=(b.ak.length:Int))=true:=by simp;omega
   rw[h0,R2 h];rfl
 rw[h96];obtain⟨k,lo,hi,ns,ps,rs⟩:=a;obtain⟨k',lo',hi',ns',ps',rs'⟩:=b;simp only[oL];generalize (k==k')=c1;generalize (lo==lo')=c2;generalize (hi==hi')=c3;generalize (ns==ns')=c4;generalize (rs.length==rs'.length&&(rs.zip rs').all λq=>mM q.1 q.2)=c5;generalize lk ps ps'=c6;cases c1<;>cases c2<;>cases c3<;>cases c4<;>cases c5<;>cases c6<;>rfl
end
theorem ad8 {a b:aV}:mM a b=true↔a=b:=by
 cases a;cases b;simp[mM,and_comm]
theorem Td:∀{a b:List aV},(a.length==b.length&&(a.zip b).all (λq=>mM q.1 q.2))=true↔a=b
 |[],[]=>by simp
 |[],_::_=>by simp
 |_::_,[]=>by simp
 |x::a,y::b=>by
  have:=Td (a:=a) (b:=b);simp only[bN,beq_iff_eq]at this;simp only[gD,Dz,kP,bN,beq_iff_eq,jQ,ad8];constructor
  ·rintro ⟨h1,h2,h3⟩;exact⟨h2,this.1 ⟨by omega,h3⟩⟩
  ·rintro ⟨rfl,rfl⟩;exact⟨rfl,rfl,(this.2 rfl).2⟩
mutual
theorem Tc:∀{a b:ai},oL a b=true↔a=b
 |⟨k,lo,hi,ns,ps,rs⟩,⟨k',lo',hi',ns',ps',rs'⟩=>by
  rw[oL];have h1:=R3 (a:=ps) (b:=ps');have h2:=Td (a:=rs) (b:=rs');rw[bN,bN,bN,bN,bN,h1,h2];simp only[beq_iff_eq,ai.mk.injEq];constructor
  ·rintro ⟨a,b,c,d,e,f⟩;exact⟨a,b,c,d,f,e⟩
  ·rintro ⟨a,b,c,d,e,f⟩;exact⟨a,b,c,d,f,e⟩
theorem R3:∀{a b:List ai},lk a b=true↔a=b
 |[],[]=>by simp[lk]
 |[],_::_=>by simp[lk]
 |_::_,[]=>by simp[lk]
 |x::a,y::b=>by rw[lk,bN,Tc,R3,jQ]
end
end Go.Proofs.YtnocmolegijmkaaGreat
end

section
namespace Go.Proofs.YtnocmolegijmkaaGreat
open Go Go.Bw
theorem IL {D:Type}:∀{l:List D} {i:Nat} {x:D},l[i]? =some x->l.set i x=l
 |y::l,0,x,h=>by simp only[jz,aD]at h;subst h;rfl
 |y::l,i+1,x,h=>by rw[qB,IL (by simpa using h)]
theorem nf {D:Type} {l:List D} (h:l.length<=274877906944):(bif decide ((([]:List D)++l).length<=274877906944)then some ([]++l)else none)=some l:=by
 have:decide ((([]:List D)++l).length<=274877906944)=true:=by simpa using h
 rw[this];rfl
variable {B:Nat} (hB:B<=1048576)
section
include hB
theorem RZ {a:List (List UInt8)} (h:a.length<=B):(f129 Pf) a=some a:=by
 rw[FZ,By];exact nf (by omega)
theorem RY:∀l:ai,l.ok B->(f117 Pf) l=some l:=by
 refine ai.ind λl ih hl=>?_;rw[ai.dA]at hl;obtain⟨_,_,_,⟨hn,_⟩,⟨hp,hpp⟩,⟨hr,hrr⟩⟩:=hl;have h2:∀k i:Nat,k=l.ak.length-i->i<=l.ak.length->(zB Pf) l l.Names l.ak (i:Int) l.ak l.bI=some l:=by
  intro k
  induction k with
  |zero=>
   intro i hk hi;have:i=l.ak.length:=by omega
   subst this;rw[UH,uQ,ai.aF,aW];have:decide (l.ak.length<l.ak.length)=false:=by simp
   rw[this,aC];cases l;rfl
  |succ k ihk=>
   intro i hk hi;have hi':i<l.ak.length:=by omega
   obtain⟨x,hx⟩:=bm hi';rw[UH,uQ,ai.aF,aW];have:decide (i<l.ak.length)=true:=by simpa using hi'
   have hm:=aY hx;rw[this,aB,a7 hx];simp only[ax];rw[ih x hm (ai.fU hpp hm)];simp only[ax];rw[bO i (by omega),mj,IL hx];exact ihk (i+1) (by omega) (by omega)
 have h1:∀k i:Nat,k=l.bI.length-i->i<=l.bI.length->(zE Pf) l l.Names l.bI (i:Int) l.bI=some l:=by
  intro k
  induction k with
  |zero=>
   intro i hk hi;have:i=l.bI.length:=by omega
   subst this;rw[UI,uR,aV.aF,aW];have:decide (l.bI.length<l.bI.length)=false:=by simp
   rw[this,aC,ag8,Aq,nf (by omega),ax];exact h2 _ 0 rfl (by omega)
  |succ k ihk=>
   intro i hk hi;have hi':i<l.bI.length:=by omega
   obtain⟨x,hx⟩:=bm hi';rw[UI,uR,aV.aF,aW];have:decide (i<l.bI.length)=true:=by simpa using hi'
   have hm:=aY hx;rw[this,aB,a7 hx];simp only[ax];rw[RZ hB (hrr x hm).1.1];simp only[ax];rw[bO i (by omega),mj,IL hx];exact ihk (i+1) (by omega) (by omega)
 rw[ajD,Bz,RZ hB hn,ax,ag9,Ar,nf (by omega),ax];exact h1 _ 0 rfl (by omega)
theorem IK {a b:aP} (ha:a.aJ.ok B):ae ((f81 Pf) a b) (λr=>r=true↔a=b):=by
 rw[e81,CY];cases a with|mk s l=>cases b with|mk s' l'=>
 refine ae.bif (λh=>?_) (λh=>ae.ret ⟨λe=>(by cases e),λe=>?_⟩)
 ·rw[p51 hB _ _ ha,ax];refine ae.ret ?_;have h:s=s':=by simpa using h
  rw[Tc,h];simp
 ·cases e;simp at h
end
theorem EV (t:aP):(f118 Pf) t=some (isNone t):=by
 rw[ajE,BA,isNone];cases t.a6==0<;>rfl
theorem jc (n:Int):(f80 Pf) n=some (bo n):=e80 n
theorem of_eq (l:ai):(f79 Pf) l=some (dc l):=e79 l
theorem afy (l:ai) (f:b9):(f35 Pf) l f=some (bif f.Result==0 then dc l else bo f.Result):=by
 rw[e35,CZ,of_eq,jc];cases f.Result==0<;>rfl
def FN (f:b9):Prop:=dw f.Name=true/\dw f.On=true/\f.Params.length<=8/\0<=f.Result/\f.Result<=4/\
 ∀(i:Nat) p,f.Params[i]? =some p->dw p.Name=true/\1<=p.a6/\p.a6<=4/\∀(j:Nat) q,j<i->f.Params[j]? =some q->q.Name≠p.Name
theorem agw (a:List TParam) (p:TParam) (ha:a.length<9223372036854775807):(EY Pf) a p=some (a.any λq:TParam=>q.Name==p.Name):=by
 rw[afz,zG];have:(EC Pf) a p=some (idxOf (λq:TParam=>q.Name==p.Name) a 0):=by
  rw[ad5,tT];refine yB (λq:TParam=>q.Name==p.Name) (λi y hy hi=>?_) ?_
  ·rw[QB,sZ,TParam.aF,aW];have:decide (i<a.length)=true:=by simpa using hi
   rw[this,aB,a7 hy,ax,e70,C0,ax,bO i (by omega)]
  ·rw[QB,sZ,TParam.aF,aW];have:decide (a.length<a.length)=false:=by simp
   rw[this];rfl
 rw[this,ax,HD]
theorem ab2 {f:b9} (h1:f.Name.length<1048577) (h2:f.On.length<1048577) (h3:∀p∈f.Params,p.Name.length<1048577):ae ((f32 Pf) f) (λr=>r=true->FN f):=by
 rw[e32,C1,lM _ (by omega),lM _ (by omega),TParam.aF];simp only[ax];refine ae.bif (λ_=>ae.ret λe=>by cases e) (λg1=>?_);refine ae.bif (λ_=>ae.ret λe=>by cases e) (λg2=>?_);refine ae.bif (λ_=>ae.ret λe=>by cases e) (λg3=>?_);refine ae.bif (λ_=>ae.ret λe=>by cases e) (λg4=>?_);refine ae.bif (λ_=>ae.ret λe=>by cases e) (λg5=>?_);have g3:f.Params.length<=8:=by simp at g3;omega
 have h:=fT (L:=λi=>(rL Pf) f i) (P:=λr=>r=true->FN f) (len:=f.Params.length) (λi=>∀(k:Nat) p,k<i->f.Params[k]? =some p->dw p.Name=true/\1<=p.a6/\p.a6<=4/\∀(j:Nat) q,j<k->f.Params[j]? =some q->q.Name≠p.Name) (λi hi hI k=>by
  show ae ((rL Pf) f i) _;obtain⟨x,hx⟩:=bm hi;rw[Wl,vp,TParam.aF,aW];have:decide (i<f.Params.length)=true:=by simpa using hi
  rw[this,aB,a7 hx,ax,lM _ (by have:=h3 x (aY hx);omega),ax,uk (by omega),ax,agw _ _ (by rw[iv];omega),ax,bO i (by omega)];refine ae.bif (λ_=>ae.ret λe=>by cases e) (λk1=>?_);refine ae.bif (λ_=>ae.ret λe=>by cases e) (λk2=>?_);refine ae.bif (λ_=>ae.ret λe=>by cases e) (λk3=>?_);refine ae.bif (λ_=>ae.ret λe=>by cases e) (λk4=>k λm p hm hp=>?_);rcases nW.1 hm with h5|rfl
  ·exact hI m p h5 hp
  ·rw[hx]at hp;cases hp;refine⟨by simpa using k1,by simp at k2;omega,by simp at k3;omega,λj q hj hq e=>?_⟩;rw[aav]at k4;exact k4 q (aY (i:=j) (by rw[PX hj];exact hq)) (by simpa using e)) (λhI=>by
  show ae ((rL Pf) f _) _;rw[Wl,vp,TParam.aF,aW];have:decide (f.Params.length<f.Params.length)=false:=by simp
  rw[this,aC];exact ae.ret λ_=>⟨by simpa using g1,by simpa using g2,g3,by simp at g4;omega,by simp at g5;omega,λi p hp=>hI i p (cr.1 hp).1 hp⟩) 0 (by omega) (λk p hk=>by omega)
 exact h
