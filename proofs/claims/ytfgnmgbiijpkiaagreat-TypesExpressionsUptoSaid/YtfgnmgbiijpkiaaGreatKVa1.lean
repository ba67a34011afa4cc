/- What the small functions under types.Valid answer: names, lists, loops. -/
import Derived.Test.YtfgnmgbiijpkiaaGreatKPl
import Derived.Test.YtfgnmgbiijpkiaaGreatKG3
import Derived.Test.YtfgnmgbiijpkiaaGreatKGk
set_option linter.all false
section
namespace Go.Proofs.YtfgnmgbiijpkiaaGreat
open Go Go.Bw
theorem HL {D:Type} {a:List D} {L:Int->Option Bool} (p:D->Bool) (e:Bool) (hs:∀(i:Nat) x,a[i]? =some x->i<a.length->L (i:Int)=bif p x then L ((i+1:Nat):Int)else some false) (he:L (a.length:Int)=some e):
  L 0=some (a.all p&&e):=by
 have key:∀k i:Nat,k=a.length-i->i<=a.length->L (i:Int)=some ((a.drop i).all p&&e):=by
  intro k
  induction k with
  |zero=>
   intro i hk hi;have:i=a.length:=by omega
   subst this;rw[he];simp
  |succ k ih=>
   intro i hk hi;have hi':i<a.length:=by omega
   obtain⟨x,hx⟩:=cn hi';rw[hs i x hx hi',pq hx,jg];cases p x with
   |false=>rfl
   |true=>simpa using ih (i+1) (by omega) (by omega)
 simpa using key a.length 0 (by omega) (by omega)
def idxOf {D:Type} (p:D->Bool):List D->Int->Int
 |[],_=> -1
 |x::r,i=>bif p x then i else idxOf p r (i+1)
theorem zt {D:Type} {a:List D} {L:Int->Option Int} (p:D->Bool) (hs:∀(i:Nat) x,a[i]? =some x->i<a.length->L (i:Int)=bif p x then some (i:Int)else L ((i+1:Nat):Int)) (he:L (a.length:Int)=some (-1)):
  L 0=some (idxOf p a 0):=by
 have key:∀k i:Nat,k=a.length-i->i<=a.length->L (i:Int)=some (idxOf p (a.drop i) i):=by
  intro k
  induction k with
  |zero=>
   intro i hk hi;have:i=a.length:=by omega
   subst this;rw[he];simp[idxOf]
  |succ k ih=>
   intro i hk hi;have hi':i<a.length:=by omega
   obtain⟨x,hx⟩:=cn hi';rw[hs i x hx hi',pq hx,idxOf];cases p x with
   |true=>rfl
   |false=>simpa using ih (i+1) (by omega) (by omega)
 simpa using key a.length 0 (by omega) (by omega)
theorem rB {D:Type} (p:D->Bool):∀(a:List D) (j:Nat),(idxOf p a j= -1/\∀x∈a,p x=false)\/∃(i:Nat) (x:D),idxOf p a j=((j+i:Nat):Int)/\a[i]? =some x/\p x=true/\∀k y,k<i->a[k]? =some y->p y=false
 |[],j=> .inl ⟨rfl,by simp⟩
 |x::r,j=>by
  rw[idxOf];cases hp:p x with
  |true=>exact .inr ⟨0,x,by simp,by simp,hp,λk y hk=>by omega⟩
  |false=>
   have h:=rB p r (j+1);simp only[cp];have e:((j:Nat):Int)+1=((j+1:Nat):Int):=by omega
   rw[e];rcases h with⟨h1,h2⟩|⟨i,y,h1,h2,h3,h4⟩
   ·refine .inl ⟨h1,λz hz=>?_⟩;rcases dc.1 hz with rfl|hz
    ·exact hp
    ·exact h2 z hz
   ·refine .inr ⟨i+1,y,by rw[h1];congr 1;omega,by simpa using h2,h3,λk z hk hz=>?_⟩;cases k with
    |zero=>simp only[oN,aA]at hz;subst hz;exact hp
    |succ k=>exact h4 k z (by omega) (by simpa using hz)
theorem MX {D:Type} {p:D->Bool} {a:List D}:decide (idxOf p a 0>=0)=a.any p:=by
 rcases rB p a 0 with⟨h1,h2⟩|⟨i,x,h1,h2,h3,_⟩
 ·have e:idxOf p a 0= -1:=h1;rw[e];have:a.any p=false:=by
   rw[Ed];intro x hx;simp[h2 x hx]
  rw[this];rfl
 ·have e:idxOf p a 0=((0+i:Nat):Int):=h1;rw[e];have:a.any p=true:=l3.2 ⟨x,cy h2,h3⟩;rw[this];simp
def gU (s:List UInt8):Bool:=match s with
 |[]=>false
 |c::_=>decide (s.length<=16)&&decide (97<=c.toNat)&&decide (c.toNat<=122)&&s.all gm
theorem PI {s:List UInt8}:gU s=true↔NV s:=by
 cases s with
 |nil=>simp[gU,NV]
 |cons c r=>simp[gU,NV,and_assoc]
theorem vb (a:List (List UInt8)) (x:List UInt8) (ha:a.length<9223372036854775807):(f185 Pf) a x=some (idxOf (λy=>x==y) a 0):=by
 rw[SG,qy];refine zt (λy=>x==y) (λi y hy hi=>?_) ?_
 ·rw[Gr,pw];have:decide ((i:Int)<((bn a).length:Int))=true:=by rw[du];simp;omega
  rw[this,bE,bW hy,aN,cD i (by omega)]
 ·rw[Gr,pw];have:decide ((a.length:Int)<((bn a).length:Int))=false:=by rw[du];simp
  rw[this];rfl
theorem bX (n m:Nat):decide (((n:Nat):Int)<(m:Int))=decide (n<m):=by rw[gx];simp only[jh];omega
def ig (l:ai):Prop:=
 (l.Kind=1\/l.Kind=9)/\l.aB=[]/\l.Names=[]/\l.bw=[]/\l.Lo=0/\l.Hi=0\/
 (l.Kind=2\/l.Kind=3)/\l.aB=[]/\l.Names=[]/\l.bw=[]\/
 (l.Kind=4\/l.Kind=8)/\l.aB=[]/\l.bw=[]/\l.Lo=0/\l.Hi=0\/
 l.Kind=5/\l.aB.length=1/\l.bw=[]/\l.Lo=0/\l.Hi=0\/
 l.Kind=7/\l.aB.length=2/\l.Names=[]/\l.bw=[]/\l.Lo=0/\l.Hi=0\/
 l.Kind=6/\l.aB.length=l.Names.length/\l.Names≠[]/\l.bw=[]/\l.Lo=0/\l.Hi=0\/
 l.Kind=10/\l.aB=[]/\l.Names≠[]/\l.Lo=0/\l.Hi=0
def oD (l:ai):Prop:=l.Names.length<=(if l.Kind=6 then 8 else if l.Kind=10 then 12 else 32)/\l.bw.length<=32
theorem Gh {l:ai} {p:ai} (h:p∈l.aB):SizeOf.sizeOf p<SizeOf.sizeOf l:=by
 cases l;have:=List.sizeOf_lt_of_mem h;simp only[ai.mk.sizeOf_spec]at*
 omega
inductive oL:ai->Prop
 |one {l:ai}:(l.Kind=1\/l.Kind=2\/l.Kind=3)->oL l
 |lex {l p q:ai}:l.Kind=7->l.aB=[p,q]->oL p->oL q->oL l
def JB (names:List (List UInt8)) (r:aV):Prop:=r.If≠[]/\rising r.If=true/\(r.If.all λx=>names.any λy=>x==y)=true/\(names.any λy=>r.eU==y)=true
def sy (l:ai):Prop:=(∀s∈l.Names,gU s=true)/\(l.Kind≠6->rising l.Names=true)/\(l.Kind=6->∀(i:Nat) s,l.Names[i]? =some s->((l.Names.take i).any λy=>s==y)=false)/\∀r∈l.bw,JB l.Names r
mutual
def oC:ai->Nat
 |⟨_,_,_,_,ps,_⟩=>1+iW ps
def iW:List ai->Nat
 |[]=>0
 |p::ps=>oC p+iW ps
end
mutual
def lO:ai->Nat
 |⟨_,_,_,_,ps,_⟩=>1+kX ps
def kX:List ai->Nat
 |[]=>0
 |p::ps=>max (lO p) (kX ps)
end
theorem z8 (l:ai):oC l=1+iW l.aB:=by cases l;rw[oC]
theorem Aa (l:ai):lO l=1+kX l.aB:=by cases l;rw[lO]
theorem FB:∀{ps:List ai} {p:ai},p∈ps->oC p<=iW ps
 |q::ps,p,h=>by
  rw[iW];rcases dc.1 h with rfl|h
  ·omega
  ·have:=FB h;omega
theorem FC:∀{ps:List ai} {p:ai},p∈ps->lO p<=kX ps
 |q::ps,p,h=>by
  rw[kX];rcases dc.1 h with rfl|h
  ·omega
  ·have:=FC h;omega
theorem Gg {n:Nat}:∀{ps:List ai},(∀p∈ps,lO p<=n)->kX ps<=n
 |[],_=>by rw[kX];omega
 |p::ps,h=>by
  rw[kX];have h1:=h p (by simp);have h2:=Gg (ps:=ps) (n:=n) λq hq=>h q (by simp[hq]);omega
theorem NA {ps:List ai}:∀{i:Nat} {p:ai},ps[i]? =some p->iW (ps.take (i+1))=iW (ps.take i)+oC p:=by
 induction ps with
 |nil=>intro i p h;simp at h
 |cons q ps ih=>
  intro i p h;cases i with
  |zero=>simp only[oN,aA]at h;subst h;simp[iW]
  |succ i=>
   simp only[D0]at h;have:=ih h;rw[xo,xo,iW,iW,this];omega
inductive qU:ai->Prop
 |mk {l:ai}:ig l->oD l->sy l->(-1000000000<=l.Lo/\l.Lo<=l.Hi/\l.Hi<=1000000000)->(l.Kind=7->∃p,l.aB[0]? =some p/\oL p)->(∀p∈l.aB,qU p)->qU l
structure ew (l:ai):Prop where
 i:qU l
 eB:oC l<=64
 dep:lO l<=6
theorem ew.part {l p:ai} (h:ew l) (hp:p∈l.aB):ew p:=by
 have h1:=h.eB;have h2:=h.dep;rw[z8]at h1;rw[Aa]at h2;have h3:=FB hp;have h4:=FC hp;exact⟨by have h:=h.i;cases h with|mk _ _ _ _ _ h=>exact h p hp,by omega,by omega⟩
theorem ew.shape {l:ai} (h:ew l):ig l:=by have h:=h.i;cases h;assumption
theorem ew.names {l:ai} (h:ew l):sy l:=by have h:=h.i;cases h;assumption
theorem ew.range {l:ai} (h:ew l): -1000000000<=l.Lo/\l.Lo<=l.Hi/\l.Hi<=1000000000:=by have h:=h.i;cases h;assumption
theorem PJ {D:Type} {l:List D} {i:Nat} (h:i<=l.length):ij l 0 (i:Int)=some (l.take i):=by
 have:ij l ((0:Nat):Int) (i:Int)=some (l.take i):=by
  show(bif Nat.ble 0 i&&Nat.ble i l.length then some ((l.take i).drop 0)else none)=_;rw[rk (mU i),rk h];rfl
 exact this
section
variable {B:Nat} (hB:B<1099511627776)
include hB
end
end Go.Proofs.YtfgnmgbiijpkiaaGreat
end

section
namespace Go.Proofs.YtfgnmgbiijpkiaaGreat
open Go Go.Bw
theorem ng {i:Nat} (h:i<9223372036854775807):IntKind.i64.wrap ((i:Int)+1)=((i+1:Nat):Int):=cD i h
theorem ai.ind {P:ai->Prop} (h:∀x:ai,(∀k∈x.aB,P k)->P x):∀x,P x:=by
 intro x;refine ai.rec (motive_1:=P) (motive_2:=λks=>∀k∈ks,P k) ?_ ?_ ?_ x
 ·intro k lo hi ns ps rs ih;exact h ⟨k,lo,hi,ns,ps,rs⟩ ih
 ·intro k hk;cases hk
 ·intro k ks h1 h2 x hx;rcases dc.1 hx with rfl|hx
  ·exact h1
  ·exact h2 x hx
def gT (a b:aV):Bool:=a.eU==b.eU&&a.If==b.If
mutual
def gl:ai->ai->Bool
 |⟨k,lo,hi,ns,ps,rs⟩,⟨k',lo',hi',ns',ps',rs'⟩=>k==k'&&(lo==lo'&&(hi==hi'&&(ns==ns'&&((rs.length==rs'.length&&(rs.zip rs').all (λq=>gT q.1 q.2))&&gP ps ps'))))
def gP:List ai->List ai->Bool
 |[],[]=>true
 |x::r,y::s=>gl x y&&gP r s
 |_,_=>false
end
theorem yB:∀{a b:List ai},a.length=b.length->gP a b=(a.zip b).all (λq=>gl q.1 q.2)
 |[],[],_=>rfl
 |x::a,y::b,h=>by rw[gP,xx,jg,yB (by simpa using h)]
 |[],_::_,h=>by simp at h
 |_::_,[],h=>by simp at h
theorem yD:∀{a b:List ai},a.length≠b.length->gP a b=false
 |[],[],h=>absurd rfl h
 |x::a,y::b,h=>by rw[gP,yD (by simpa using h),MD]
 |[],_::_,_=>rfl
 |_::_,[],_=>rfl
variable {B:Nat} (hB:B<=1048576)
section
include hB
theorem E3 {f:List (List UInt8)->List (List UInt8)->Option Bool} {L:List (List UInt8)->List (List UInt8)->Int->Option Bool} (hf:∀a b,f a b=(bif (↑(bn a).length:Int) !=(↑(bn b).length:Int)then(some (false))else L a b 0))
  (hL:∀a b s,L a b s=(bif decide (s<(↑(bn a).length:Int))then((ax (a) (s)).bind λx=>((ax (b) (s)).bind λy=>(bif !(x==y)then(some (false))else(L a b (IntKind.i64.wrap (s+1))))))else(some (true))))
  {a b:List (List UInt8)} (ha:a.length<=B):f a b=some (a==b):=by
 rw[hf];simp only[du];by_cases hl:a.length=b.length
 ·have h0:((a.length:Int) !=(b.length:Int))=false:=by simp[hl]
  rw[h0];show L a b 0=_;rw[pr (a:=a) (b:=b) (L:=L a b) (λx y=>x==y) true hl ?_ ?_,uv,Qx hl]
  ·intro i x y hx hy hi;rw[hL,du,ng (by omega)];have h1:decide ((i:Int)<(a.length:Int))=true:=by simpa using hi
   rw[h1,bW hx,bW hy];show(bif !(x==y)then _ else _)=_;cases (x==y)<;>rfl
  ·rw[hL,du];simp
 ·have h0:((a.length:Int) !=(b.length:Int))=true:=by simp;omega
  rw[h0];have:(a==b)=false:=by
   cases h:a==b with
   |false=>rfl
   |true=>exact absurd (congrArg List.length (eq_of_beq h)) hl
  rw[this];rfl
theorem Mj {a b:List (List UInt8)} (ha:a.length<=B):(f205 Pf) a b=some (a==b):=E3 hB SI O6 ha
theorem Wc {a b:aV} (ha:a.ok B):(f207 Pf) a b=some (gT a b):=by
 rw[SJ,sP,Mj hB ha.1.1,gT];cases a.eU==b.eU<;>rfl
theorem Wd {a b:List aV} (hl:a.length<=B) (ha:∀x∈a,x.ok B):(u1 Pf) a b=some (a.length==b.length&&(a.zip b).all (λq=>gT q.1 q.2)):=by
 rw[Ov,rI];simp only[aV.bc];by_cases h:a.length=b.length
 ·have h0:((a.length:Int) !=(b.length:Int))=false:=by simp[h]
  rw[h0];show(oT Pf) a b 0=_;rw[pr (a:=a) (b:=b) (L:=(oT Pf) a b) gT true h ?_ ?_]
  ·simp[h]
  ·intro i x y hx hy hi;rw[Eu,oU,aV.bc,ng (by omega)];have h1:decide ((i:Int)<(a.length:Int))=true:=by simpa using hi
   rw[h1,bW hx,bW hy];show(((f207 Pf) x y).bind _)=_;rw[Wc hB (ha x (cy hx))];show(bif !(gT x y)then _ else _)=_;cases gT x y<;>rfl
  ·rw[Eu,oU,aV.bc];simp
 ·have h0:((a.length:Int) !=(b.length:Int))=true:=by simp;omega
  rw[h0];simp[h]
theorem Wb:∀a b:ai,a.ok B->(f161 Pf) a b=some (gl a b):=by
 refine ai.ind ?_;intro a ih b ha;rw[ai.eP]at ha;obtain⟨_,_,_,hn,hp,hr⟩:=ha;rw[SK,sQ,Mj hB hn.1,Wd hB hr.1 hr.2];have h96:(u2 Pf) a.aB b.aB=some (gP a.aB b.aB):=by
  rw[Ow,rJ];simp only[ai.bc];by_cases h:a.aB.length=b.aB.length
  ·have h0:((a.aB.length:Int) !=(b.aB.length:Int))=false:=by simp[h]
   rw[h0];show(oV Pf) a.aB b.aB 0=_;rw[pr (a:=a.aB) (b:=b.aB) (L:=(oV Pf) a.aB b.aB) gl true h ?_ ?_]
   ·rw[yB h,uv]
   ·intro i x y hx hy hi;rw[Ev,oW,ai.bc,ng (by omega)];have h1:decide ((i:Int)<(a.aB.length:Int))=true:=by simpa using hi
    have hx':=cy hx;rw[h1,bW hx,bW hy];show(((f161 Pf) x y).bind _)=_;rw[ih x hx' y (ai.pM hp.2 hx')];show(bif !(gl x y)then _ else _)=_;cases gl x y<;>rfl
   ·rw[Ev,oW,ai.bc];simp
  ·have h0:((a.aB.length:Int) !=(b.aB.length:Int))=true:=by simp;omega
   rw[h0,yD h];rfl
 rw[h96];obtain⟨k,lo,hi,ns,ps,rs⟩:=a;obtain⟨k',lo',hi',ns',ps',rs'⟩:=b;simp only[gl];generalize (k==k')=c1;generalize (lo==lo')=c2;generalize (hi==hi')=c3;generalize (ns==ns')=c4;generalize (rs.length==rs'.length&&(rs.zip rs').all λq=>gT q.1 q.2)=c5;generalize gP ps ps'=c6;cases c1<;>cases c2<;>cases c3<;>cases c4<;>cases c5<;>cases c6<;>rfl
end
theorem OS {a b:aV}:gT a b=true↔a=b:=by
 cases a;cases b;simp[gT,and_comm]
theorem Ge:∀{a b:List aV},(a.length==b.length&&(a.zip b).all (λq=>gT q.1 q.2))=true↔a=b
 |[],[]=>by simp
 |[],_::_=>by simp
 |_::_,[]=>by simp
 |x::a,y::b=>by
  have:=Ge (a:=a) (b:=b);simp only[bI,beq_iff_eq]at this;simp only[jM,xx,jg,bI,beq_iff_eq,jK,OS];constructor
  ·rintro ⟨h1,h2,h3⟩;exact⟨h2,this.1 ⟨by omega,h3⟩⟩
  ·rintro ⟨rfl,rfl⟩;exact⟨rfl,rfl,(this.2 rfl).2⟩
mutual
theorem rP:∀{a b:ai},gl a b=true↔a=b
 |⟨k,lo,hi,ns,ps,rs⟩,⟨k',lo',hi',ns',ps',rs'⟩=>by
  rw[gl];have h1:=FA (a:=ps) (b:=ps');have h2:=Ge (a:=rs) (b:=rs');rw[bI,bI,bI,bI,bI,h1,h2];simp only[beq_iff_eq,ai.mk.injEq];constructor
  ·rintro ⟨a,b,c,d,e,f⟩;exact⟨a,b,c,d,f,e⟩
  ·rintro ⟨a,b,c,d,e,f⟩;exact⟨a,b,c,d,f,e⟩
theorem FA:∀{a b:List ai},gP a b=true↔a=b
 |[],[]=>by simp[gP]
 |[],_::_=>by simp[gP]
 |_::_,[]=>by simp[gP]
 |x::a,y::b=>by rw[gP,bI,rP,FA,jK]
end
end Go.Proofs.YtfgnmgbiijpkiaaGreat
end

section
namespace Go.Proofs.YtfgnmgbiijpkiaaGreat
open Go Go.Bw
theorem zm {D:Type}:∀{l:List D} {i:Nat} {x:D},l[i]? =some x->l.set i x=l
 |y::l,0,x,h=>by simp only[oN,aA]at h;subst h;rfl
 |y::l,i+1,x,h=>by rw[mT,zm (by simpa using h)]
theorem zr {D:Type} {l:List D} (h:l.length<=274877906944):(bif decide ((([]:List D)++l).length<=274877906944)then some ([]++l)else none)=some l:=by
 have:decide ((([]:List D)++l).length<=274877906944)=true:=by simpa using h
 rw[this];rfl
variable {B:Nat} (hB:B<=1048576)
section
include hB
theorem Fz {a:List (List UInt8)} (h:a.length<=B):(f100 Pf) a=some a:=by
 rw[SH,sO];exact zr (by omega)
theorem uY:∀l:ai,l.ok B->(f66 Pf) l=some l:=by
 refine ai.ind λl ih hl=>?_;rw[ai.eP]at hl;obtain⟨_,_,_,⟨hn,_⟩,⟨hp,hpp⟩,⟨hr,hrr⟩⟩:=hl;have h2:∀k i:Nat,k=l.aB.length-i->i<=l.aB.length->(se Pf) l l.Names l.aB (i:Int) l.aB l.bw=some l:=by
  intro k
  induction k with
  |zero=>
   intro i hk hi;have:i=l.aB.length:=by omega
   subst this;rw[HR,pY,ai.bc,bX];have:decide (l.aB.length<l.aB.length)=false:=by simp
   rw[this,cp];cases l;rfl
  |succ k ihk=>
   intro i hk hi;have hi':i<l.aB.length:=by omega
   obtain⟨x,hx⟩:=cn hi';rw[HR,pY,ai.bc,bX];have:decide (i<l.aB.length)=true:=by simpa using hi'
   have hm:=cy hx;rw[this,bE,bW hx];simp only[aN];rw[ih x hm (ai.pM hpp hm)];simp only[aN];rw[cD i (by omega),iJ,zm hx];exact ihk (i+1) (by omega) (by omega)
 have h1:∀k i:Nat,k=l.bw.length-i->i<=l.bw.length->(sd Pf) l l.Names l.bw (i:Int) l.bw=some l:=by
  intro k
  induction k with
  |zero=>
   intro i hk hi;have:i=l.bw.length:=by omega
   subst this;rw[HT,pX,aV.bc,bX];have:decide (l.bw.length<l.bw.length)=false:=by simp
   rw[this,cp,QY,sD,zr (by omega),aN];exact h2 _ 0 rfl (by omega)
  |succ k ihk=>
   intro i hk hi;have hi':i<l.bw.length:=by omega
   obtain⟨x,hx⟩:=cn hi';rw[HT,pX,aV.bc,bX];have:decide (i<l.bw.length)=true:=by simpa using hi'
   have hm:=cy hx;rw[this,bE,bW hx];simp only[aN];rw[Fz hB (hrr x hm).1.1];simp only[aN];rw[cD i (by omega),iJ,zm hx];exact ihk (i+1) (by omega) (by omega)
 rw[Vn,tP,Fz hB hn,aN,QX,sC,zr (by omega),aN];exact h1 _ 0 rfl (by omega)
theorem Gc {a b:az} (ha:a.aj.ok B):ag ((f93 Pf) a b) (λr=>r=true↔a=b):=by
 rw[Vo,tQ];cases a with|mk s l=>cases b with|mk s' l'=>
 refine ag.bif (λh=>?_) (λh=>ag.ret ⟨λe=>(by cases e),λe=>?_⟩)
 ·rw[Wb hB _ _ ha,aN];refine ag.ret ?_;have h:s=s':=by simpa using h
  rw[rP,h];simp
 ·cases e;simp at h
end
theorem jo (t:az):(f92 Pf) t=some (isNone t):=by
 rw[Vm,tO,isNone];cases t.aS==0<;>rfl
theorem dh (n:Int):(f113 Pf) n=some (ba n):=SB n
theorem of_eq (l:ai):(f112 Pf) l=some (cJ l):=SD l
def RH (f:cz):Prop:=gU f.Name=true/\gU f.On=true/\f.Params.length<=8/\0<=f.Result/\f.Result<=4/\
 ∀(i:Nat) p,f.Params[i]? =some p->gU p.Name=true/\1<=p.aS/\p.aS<=4/\∀(j:Nat) q,j<i->f.Params[j]? =some q->q.Name≠p.Name
