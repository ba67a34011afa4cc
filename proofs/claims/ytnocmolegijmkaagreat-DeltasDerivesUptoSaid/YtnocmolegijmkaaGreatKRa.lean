/- When the reference's Check of a lattice answers OK, and that it answers. -/
import Derived.Test.YtnocmolegijmkaaGreatKVa1
import Derived.Test.YtnocmolegijmkaaGreatKVa6
set_option linter.all false
namespace Go.Proofs.YtnocmolegijmkaaGreat
open Go Go.Bw
theorem Xt {D:Type} {a:List D} {L:Int->Option Bool} (p:D->Bool) (hs:∀(i:Nat) x,a[i]? =some x->i<a.length->L (i:Int)=bif p x then some true else L ((i+1:Nat):Int)) (he:L (a.length:Int)=some false):L 0=some (a.any p):=by
 have key:∀k i:Nat,k=a.length-i->i<=a.length->L (i:Int)=some ((a.drop i).any p):=by
  intro k
  induction k with
  |zero=>
   intro i hk hi;have:i=a.length:=by omega
   subst this;rw[he];simp
  |succ k ih=>
   intro i hk hi;have hi':i<a.length:=by omega
   obtain⟨x,hx⟩:=bg hi';rw[hs i x hx hi',mX hx,List.any_cons];cases p x with
   |true=>rfl
   |false=>simpa using ih (i+1) (by omega) (by omega)
 simpa using key a.length 0 (by omega) (by omega)
theorem Bm (s:List UInt8) (hs:s.length<9223372036854775807):(yy Pu) s=some (eR s):=by
 rw[ab1,yE];have h0:∀n:Nat,(decide ((n:Int)<97)= !decide (97<=n))/\(decide ((n:Int)>122)= !decide (n<=122))/\(decide ((n:Int)<48)= !decide (48<=n))/\(decide ((n:Int)>57)= !decide (n<=57))/\(((n:Int) !=45)= !(n==45)):=λn=>by
  refine⟨?_,?_,?_,?_,?_⟩<;>(rw[iP];simp only[pd,bne_iff_ne,lU,decide_eq_false_iff_not,beq_eq_false_iff_ne,ne_eq];omega)
 cases s with
 |nil=>rfl
 |cons c r=>
  have hL:(mc Pu) (c::r) 0=some ((c::r).all jD&&true):=by
   refine BS jD true (λi x hx hi=>?_) ?_
   ·rw[MY,tD];have:decide ((i:Int)<(((c::r).length:Nat):Int))=true:=by simp;simp at hi;omega
    obtain⟨h1,h2,h3,h4,h5⟩:=h0 x.toNat;simp only[this,aO,bc hx,aq,bO i (by omega),h1,h2,h3,h4,h5];unfold jD;cases decide (97<=x.toNat)<;>cases decide (x.toNat<=122)<;>cases decide (48<=x.toNat)<;>cases decide (x.toNat<=57)<;>cases (x.toNat==45)<;>rfl
   ·rw[MY,tD];have:decide ((((c::r).length:Nat):Int)<(((c::r).length:Nat):Int))=false:=by simp
    rw[this];rfl
  have hi:ao (c::r:List UInt8) 0=some c:=rfl;have e1:decide ((((c::r).length:Nat):Int)<1)=false:=by simp;omega
  have e2:decide ((((c::r).length:Nat):Int)>16)= !decide ((c::r).length<=16):=by rw[iP];simp;omega
  obtain⟨h1,h2,_,_,_⟩:=h0 c.toNat;rw[e1,e2,hi];simp only[aq,a6,h1,h2,hL,eR];cases decide ((c::r).length<=16)<;>cases decide (97<=c.toNat)<;>cases decide (c.toNat<=122)<;>simp
theorem uq (a:List (List UInt8)) (s:List UInt8) (ha:a.length<9223372036854775807):(uZ Pu) a s=some (a.any λy=>s==y):=by
 rw[ab2,u4];refine Xt (L:=λi=>(qR Pu) a s i) (λy=>s==y) (λi x hx hi=>?_) ?_
 ·show(qR Pu) a s i=_;rw[MZ,tE,cv,aU];have:decide (i<a.length)=true:=by simpa using hi
  rw[this,aO,bc hx,aq,bO i (by omega),BEq.comm]
 ·show(qR Pu) a s a.length=_;rw[MZ,tE,cv,aU];simp
theorem LS:∀{a:List (List UInt8)},(∀j x y,a[j]? =some x->a[j+1]? =some y->Op.bytesLess x y=true)->rising a=true
 |[],_=>rfl
 |[_],_=>rfl
 |x::y::r,h=>by
  have:=LS (a:=y::r) (λj u v h1 h2=>h (j+1) u v (by simpa using h1) (by simpa using h2));show(Op.bytesLess x y&&rising (y::r))=true;rw[h 0 x y (by simp) (by simp),this];rfl
theorem KE (a:List (List UInt8)) (ha:a.length<9223372036854775807) (hs:∀s∈a,s.length<9223372036854775807):ag ((u0 Pu) a) (λr=>r=true->(∀s∈a,eR s=true)/\rising a=true):=by
 rw[Rm,sf];refine kF (L:=λi=>(me Pu) a i) (len:=a.length) (λi=>(∀j s,j<i->a[j]? =some s->eR s=true)/\∀j x y,j+1<i->a[j]? =some x->a[j+1]? =some y->Op.bytesLess x y=true) (λi hi hI k=>?_) (λhI=>?_) 0 (by omega) ⟨λj s hj=>by omega,λj x y hj=>by omega⟩
 ·show ag ((me Pu) a i) _;obtain⟨x,hx⟩:=bg hi;rw[BG,pA,cv,aU];have:decide (i<a.length)=true:=by simpa using hi
  rw[this,aO,bc hx,aq,Bm x (hs x (bh hx)),aq,bO i (by omega)];refine ag.bif (λ_=>ag.ret λe=>by cases e) (λh1=>?_);have nv:∀j s,j<i+1->a[j]? =some s->eR s=true:=λj s hj h=>by
   rcases lW.1 hj with h5|rfl
   ·exact hI.1 j s h5 h
   ·rw[hx]at h;cases h;simpa using h1
  refine ag.bif (λh2=>?_) (λh2=>k ⟨nv,λj u v hj=>by simp at h2;omega⟩);have h2:0<i:=by simp at h2;omega
  obtain⟨w,hw⟩:=bg (l:=a) (i:=i-1) (by omega);have e:IntKind.i64.wrap ((i:Int)-1)=((i-1:Nat):Int):=by rw[wrap64 (by omega) (by omega)];omega
  rw[e,bc hw,aq,aq];refine ag.bif (λ_=>ag.ret λe=>by cases e) (λh3=>k ⟨nv,λj u v hj h4 h5=>?_⟩);by_cases h6:j+1<i
  ·exact hI.2 j u v h6 h4 h5
  ·have h7:j+1=i:=by omega
   rw[h7,hx]at h5;cases h5;rw[show j=i-1 by omega,hw]at h4;cases h4;simpa using h3
 ·show ag ((me Pu) a a.length) _;rw[BG,pA,cv,aU];have:decide (a.length<a.length)=false:=by simp
  rw[this,a6];refine ag.ret λ_=>⟨λs h=>?_,LS λj x y h1 h2=>hI.2 j x y (cy.1 h2).1 h1 h2⟩;obtain⟨j,hj⟩:=fR h;exact hI.1 j s (cy.1 hj).1 hj
theorem UI (l:ah):ag ((r8 Pu) l) (λr=>r=true->eT l):=by
 rw[Rl,u6];simp only[cv,ah.aB,aP.aB]
 repeat' (first|refine ag.bif (λ_=>?_) (λ_=>?_)|refine ag.ret (λhr=>?_))
 all_goals (first|(exfalso;revert hr;decide)|(simp at*;simp[eT, *];done)|(simp at*;simp[eT, *];omega)|skip)
 all_goals
  have hn:l.Names≠[]:=λe=>by simp[e]at*
  simp at*
  simp[eT, *]
  try omega
theorem Ej:∀(n:Nat) (l:ah),SizeOf.sizeOf l<=n->ag ((sa Pu) l) (λr=>r=true->lk l)
 |0,l,h=>by cases l;simp only[ah.mk.sizeOf_spec]at h;omega
 |n+1,l,h=>by
  rw[II,sk,ah.aB];refine ag.bif (λh1=>ag.ret λ_=> .one (.inl (by simpa using h1))) (λ_=>?_);refine ag.bif (λh1=>ag.ret λ_=> .one (.inr (.inl (by simpa using h1)))) (λ_=>?_);refine ag.bif (λh1=>ag.ret λ_=> .one (.inr (.inr (by simpa using h1)))) (λ_=>?_);refine ag.bif (λh7=>?_) (λ_=>ag.ret λh=>by cases h);refine ag.bif (λh2=>?_) (λ_=>ag.ret λh=>by cases h);have h2:l.aw.length=2:=by simp at h2;omega
  obtain⟨p,q,e⟩:∃p q,l.aw=[p,q]:=by
   match hp:l.aw,h2 with
   |[p,q],_=>exact⟨p,q,rfl⟩
  have hp:SizeOf.sizeOf p<SizeOf.sizeOf l:=Bj (by rw[e];simp);have hq:SizeOf.sizeOf q<SizeOf.sizeOf l:=Bj (by rw[e];simp);have e0:ao l.aw 0=some p:=by rw[e];rfl
  have e1:ao l.aw 1=some q:=by rw[e];rfl
  rw[e0,e1];simp only[aq];refine ag.bind (Ej n p (by omega)) (λy hy=>?_);refine ag.bif (λhb=>?_) (λ_=>ag.ret λh=>by cases h);refine ag.bind (Ej n q (by omega)) (λz hz=>ag.ret λh=> .lex (by simpa using h7) e (hy hb) (hz h))
section
variable {B:Nat} (hB:B<1099511627776)
include hB
theorem UJ {l:ah} (hl:l.ok B) (hsh:eT l):ag ((r9 Pu) l) (λr=>r=true->nD l):=by
 rw[Rn,u7];rw[ah.cM]at hl;obtain⟨_,_,_,⟨hn,hnn⟩,_,⟨hr,hrr⟩⟩:=hl;refine ag.bif (λh6=>?_) (λh6=>?_)
 ·have h6:l.Kind=6:=by simpa using h6
  have hru:l.aX=[]:=by simp[eT,h6]at hsh;exact hsh.2.2.1
  refine kF (L:=λi=>(ng Pu) l i) (len:=l.Names.length) (λi=>(∀j s,j<i->l.Names[j]? =some s->eR s=true)/\∀j s,j<i->l.Names[j]? =some s->((l.Names.take j).any λy=>s==y)=false) (λi hi hI k=>?_) (λhI=>?_) 0 (by omega) ⟨λj s hj=>by omega,λj s hj=>by omega⟩
  ·show ag ((ng Pu) l i) _;obtain⟨x,hx⟩:=bg hi;have hxl:=hnn x (bh hx);rw[BH,pB,cv,aU];have:decide (i<l.Names.length)=true:=by simpa using hi
   rw[this,aO,bc hx,aq,Bm x (by omega),aq,bO i (by omega),tO (by omega),aq,aq,uq _ _ (by rw[gw];omega),aq];refine ag.bif (λ_=>ag.ret λe=>by cases e) (λh1=>?_);refine ag.bif (λ_=>ag.ret λe=>by cases e) (λh2=>k ⟨λj s hj h=>?_,λj s hj h=>?_⟩)
   all_goals rcases lW.1 hj with h5|rfl
   ·exact hI.1 j s h5 h
   ·rw[hx]at h;cases h;simpa using h1
   ·exact hI.2 j s h5 h
   ·rw[hx]at h;cases h;exact h2
  ·show ag ((ng Pu) l l.Names.length) _;rw[BH,pB,cv,aU];have:decide (l.Names.length<l.Names.length)=false:=by simp
   rw[this,a6];refine ag.ret λ_=>⟨λs h=>?_,λe=>absurd h6 e,λ_ i s h=>hI.2 i s (cy.1 h).1 h,by rw[hru];simp⟩;obtain⟨j,hj⟩:=fR h;exact hI.1 j s (cy.1 hj).1 hj
 ·have h6:l.Kind≠6:=by simpa using h6
  refine ag.bind (KE l.Names (by omega) (λs h=>by have:=hnn s h;omega)) (λy14 h14=>ag.bif (λ_=>ag.ret λe=>by cases e) (λe14=>?_));obtain⟨nv,ri⟩:=h14 (by simpa using e14);refine eS (L:=λi s=>(ni Pu) l y14 s i) (len:=l.aX.length) (λi _=>∀j x,j<i->l.aX[j]? =some x->uJ l.Names x) (λi s hi hI k=>?_) (λs hI=>?_) 0 false (by omega) (λj x hj=>by omega)
  ·show ag ((ni Pu) l y14 s i) _;obtain⟨x,hx⟩:=bg hi;have hxo:=hrr x (bh hx);rw[BJ,pD,aP.aB,aU];have:decide (i<l.aX.length)=true:=by simpa using hi
   rw[this,aO,bc hx,aq,cv];refine ag.bif (λ_=>ag.ret λe=>by cases e) (λh1=>?_);refine ag.bind (KE x.If (by have:=hxo.1.1;omega) (λs h=>by have:=hxo.1.2 s h;omega)) (λy22 h22=>ag.bif (λ_=>ag.ret λe=>by cases e) (λe22=>?_));have h22:=h22 (by simpa using e22);rw[uq _ _ (by omega),aq];refine ag.bif (λ_=>ag.ret λe=>by cases e) (λzI=>?_);have zI:(l.Names.any λy=>x.eY==y)=true:=by simpa only[sE]using zI
   refine eS (L:=λi2 s2=>(nh Pu) l y14 s (i:Int) x y22 (l.Names.any λy=>x.eY==y) s2 i2) (len:=x.If.length) (λi2 _=>∀j z,j<i2->x.If[j]? =some z->(l.Names.any λy=>z==y)=true) (λi2 s2 hi2 hI2 k2=>?_) (λs2 hI2=>?_) 0 s (by omega) (λj x hj=>by omega)
   ·show ag ((nh Pu) l y14 s (i:Int) x y22 (l.Names.any λy=>x.eY==y) s2 i2) _;obtain⟨z,hz⟩:=bg hi2;rw[BI,pC,cv,aU];have:decide (i2<x.If.length)=true:=by simpa using hi2
    rw[this,aO,bc hz,aq,uq _ _ (by omega),aq,bO i2 (by have:=hxo.1.1;omega)];refine ag.bif (λ_=>ag.ret λe=>by cases e) (λh3=>k2 s2 λj u hj hu=>?_);rcases lW.1 hj with h5|rfl
    ·exact hI2 j u h5 hu
    ·rw[hz]at hu;cases hu;simpa only[sE]using h3
   ·show ag ((nh Pu) l y14 s (i:Int) x y22 (l.Names.any λy=>x.eY==y) s2 x.If.length) _;rw[BI,pC,cv,aU];have:decide (x.If.length<x.If.length)=false:=by simp
    rw[this,a6,bO i (by omega)];refine k s2 λj u hj hu=>?_;rcases lW.1 hj with h5|rfl
    ·exact hI j u h5 hu
    ·rw[hx]at hu;cases hu;refine⟨λe=>by rw[e]at h1;simp at h1,h22.2,je.2 λz hz=>?_,zI⟩;obtain⟨q,hq⟩:=fR hz;exact hI2 q z (cy.1 hq).1 hq
  ·show ag ((ni Pu) l y14 s l.aX.length) _;rw[BJ,pD,aP.aB,aU];have:decide (l.aX.length<l.aX.length)=false:=by simp
   rw[this,a6];refine ag.ret λ_=>⟨nv,λ_=>ri,λe=>absurd e h6,λr h=>?_⟩;obtain⟨j,hj⟩:=fR h;exact hI j r (cy.1 hj).1 hj
theorem VA {l:ah} (hl:l.ok B) (d b:Int):ag ((yA Pu) l d b) (λr=>r=0->d<=6/\b<64/\eT l/\mF l/\nD l/\(-1000000000<=l.Lo/\l.Lo<=l.Hi/\l.Hi<=1000000000)/\(l.Kind=7->∃p,l.aw[0]? =some p/\lk p)):=by
 rw[Ro,va];simp only[cv,aP.aB];have six:∀{o:Option Int} {Q:Int->Prop},ag o Q->ag o Q:=λh=>h;refine ag.bif (λk6=>?_) (λk6=>ag.bif (λk10=>?_) (λk10=>?_))
 all_goals
  refine ag.bif (λ_=>ag.ret λe=>by cases e) (λh1=>ag.bif (λ_=>ag.ret λe=>by cases e) (λh2=>?_));refine ag.bind (UI l) (λy4 h4=>ag.bif (λ_=>ag.ret λe=>by cases e) (λe4=>?_));have h4:=h4 (by simpa using e4);refine ag.bif (λ_=>ag.ret λe=>by cases e) (λh5=>ag.bif (λ_=>ag.ret λe=>by cases e) (λh6=>?_));refine ag.bind (UJ hB hl h4) (λy8 h8=>ag.bif (λ_=>ag.ret λe=>by cases e) (λe8=>?_));have h8:=h8 (by simpa using e8);refine ag.bif (λ_=>ag.ret λe=>by cases e) (λh9=>ag.bif (λ_=>ag.ret λe=>by cases e) (λh10=>ag.bif (λ_=>ag.ret λe=>by cases e) (λh11=>?_)));have hr: -1000000000<=l.Lo/\l.Lo<=l.Hi/\l.Hi<=1000000000:=by simp at h9 h10 h11;omega
  have h12:d<=6/\b<64:=by simp at h1 h2;omega
 ·have k:l.Kind=6:=by simpa using k6
  exact ag.ret λ_=>⟨h12.1,h12.2,h4,by simp[mF,k];simp at h5 h6;omega,h8,hr,λe=>by rw[k]at e;cases e⟩
 ·have k:l.Kind=10:=by simpa using k10
  exact ag.ret λ_=>⟨h12.1,h12.2,h4,by simp[mF,k];simp at h5 h6;omega,h8,hr,λe=>by rw[k]at e;cases e⟩
 ·have k1:l.Kind≠6:=by simpa using k6
  have k2:l.Kind≠10:=by simpa using k10
  have lim:mF l:=by simp[mF,k1,k2];simp at h5 h6;omega
  refine ag.bif (λh7=>?_) (λh7=>ag.ret λ_=>⟨h12.1,h12.2,h4,lim,h8,hr,λe=>by rw[e]at h7;cases h7⟩);have h7:l.Kind=7:=by simpa using h7
  have h2:l.aw.length=2:=by simp[eT,h7]at h4;exact h4.1
  obtain⟨p,hp⟩:=bg (l:=l.aw) (i:=0) (by omega);have e0:ao l.aw 0=some p:=hp;rw[e0,aq];refine ag.bind (Ej _ p (bU _)) (λy hy=>ag.bif (λ_=>ag.ret λe=>by cases e) (λey=>ag.ret λ_=>⟨h12.1,h12.2,h4,lim,h8,hr,λ_=>⟨p,hp,hy (by simpa using ey)⟩⟩))
theorem LU:∀(n:Nat) (l:ah) (d b:Int),l.ok B->0<=b->b<=64->(6-d+1).toNat<=n->d<=7->0<=d->ag ((u1 Pu) l d b) (λr=>0<=r.1/\r.1<=64/\(r.2=0->lL l/\r.1=b+jC l/\d+ja l<=7))
 |n,l,d,b,hl,h0,h1,hn,hd,hd0=>by
  rw[Rp,vb];refine ag.bind (VA hB hl d b) (λy1 hy1=>ag.bif (λhne=>ag.ret ⟨h0,h1,λe=>by simp at hne;exact absurd e hne⟩) (λe1=>?_));obtain⟨h6,h64,hs,hli,hna,hra,hch⟩:=hy1 (by simpa using e1)
  match n,hn with
  |0,hn=>omega
  |n+1,hn=>
  have hw:IntKind.i64.wrap (b+1)=b+1:=wrap64 (by omega) (by omega);have hwd:IntKind.i64.wrap (d+1)=d+1:=wrap64 (by omega) (by omega);rw[hw];have hl':=hl;rw[ah.cM]at hl';obtain⟨_,_,_,_,⟨hpl,hp⟩,_⟩:=hl';refine eS (L:=λi s=>(nj Pu) l d s i) (len:=l.aw.length) (λi s=>0<=s/\s<=64/\s=b+1+eW (l.aw.take i)/\∀j p,j<i->l.aw[j]? =some p->lL p/\d+1+ja p<=7) (λi s hi hI k=>?_) (λs hI=>?_) 0 (b+1) (by omega) ⟨by omega,by omega,by simp[eW],λj p hj=>by omega⟩
  ·show ag ((nj Pu) l d s i) _;obtain⟨x,hx⟩:=bg hi;rw[BK,pE,ah.aB,aU];have:decide (i<l.aw.length)=true:=by simpa using hi
   rw[this,aO,bc hx,aq,bO i (by omega),hwd];refine ag.bind (LU n x (d+1) s (ah.gF hp (bh hx)) hI.1 hI.2.1 (by omega) (by omega) (by omega)) (λy hy=>?_);refine ag.bif (λhne=>ag.ret ⟨hI.1,hI.2.1,λe=>by simp at hne;exact absurd e hne⟩) (λhz=>?_);have hy3:=hy.2.2 (by simpa using hz);refine k _ ⟨hy.1,hy.2.1,by rw[AM hx];have:=hI.2.2.1;omega,λj p hj hp'=>?_⟩;rcases lW.1 hj with h5|rfl
   ·exact hI.2.2.2 j p h5 hp'
   ·rw[hx]at hp';cases hp';exact⟨hy3.1,hy3.2.2⟩
  ·show ag ((nj Pu) l d s l.aw.length) _;rw[BK,pE,ah.aB,aU];have:decide (l.aw.length<l.aw.length)=false:=by simp
   rw[this,a6];have all:∀p∈l.aw,lL p/\d+1+ja p<=7:=λp hp'=>by
    obtain⟨j,hj⟩:=fR hp';exact hI.2.2.2 j p (cy.1 hj).1 hj
   refine ag.ret ⟨hI.1,hI.2.1,λ_=>⟨.mk hs hli hna hra hch λp hp'=>(all p hp').1,?_,?_⟩⟩
   ·show s=_;rw[tN];have:=hI.2.2.1;rw[jg]at this;omega
   ·rw[q9];have:mw l.aw<=(6-d).toNat:=ET λp hp'=>by have:=(all p hp').2;omega
    omega
theorem UH {l:ah} (hl:l.ok B):ag ((zG Pu) l) (λr=>r=0->ef l):=by
 rw[SO,vF];exact ag.bind (LU hB 7 l 1 0 hl (by simp) (by simp) (by decide) (by decide) (by decide)) (λy hy=>ag.ret λe=>by
  obtain⟨h1,h2,h3⟩:=hy.2.2 e;have h4:=hy.2.1;exact⟨h1,by omega,by omega⟩)
end
theorem Vw (c:UInt8):(CG Pu) (c.toNat:Int)=some (jD c):=by
 rw[ab3,yG];unfold jD;have h0:∀n:Nat,(decide ((n:Int)>=97)=decide (97<=n))/\(decide ((n:Int)<=122)=decide (n<=122))/\(decide ((n:Int)>=48)=decide (48<=n))/\(decide ((n:Int)<=57)=decide (n<=57))/\(((n:Int)==45)=(n==45)):=λn=>by
  refine⟨?_,?_,?_,?_,?_⟩<;>(rw[iP];simp only[pd,beq_iff_eq];omega)
 obtain⟨h1,h2,h3,h4,h5⟩:=h0 c.toNat;rw[h1,h2,h3,h4,h5];cases decide (97<=c.toNat)<;>cases decide (c.toNat<=122)<;>cases decide (48<=c.toNat)<;>cases decide (c.toNat<=57)<;>rfl
theorem wj (s:List UInt8) (hs:s.length<9223372036854775807):(oU Pu) s=some (eR s):=by
 rw[e55,zU];cases s with
 |nil=>rfl
 |cons c r=>
  have hL:(xh Pu) (c::r) 0=some ((c::r).all jD&&true):=by
   refine BS jD true (λi x hx hi=>?_) ?_
   ·rw[Ot,ua,aU];have:decide (i<(c::r).length)=true:=by simpa using hi
    rw[this,aO,bc hx,aq,Vw,aq,bO i (by omega)];cases jD x<;>rfl
   ·rw[Ot,ua,aU];have:decide ((c::r).length<(c::r).length)=false:=by simp
    rw[this];rfl
  have hi:ao (c::r:List UInt8) 0=some c:=rfl;have h0:decide ((((c::r).length:Nat):Int)<1)=false:=by simp;omega
  have h1:decide ((((c::r).length:Nat):Int)>16)= !decide ((c::r).length<=16):=by rw[iP];simp;omega
  have h2:decide (((c.toNat:Nat):Int)<97)= !decide (97<=c.toNat):=by rw[iP];simp;omega
  have h3:decide (((c.toNat:Nat):Int)>122)= !decide (c.toNat<=122):=by rw[iP];simp;omega
  rw[hi,hL,h0,h1];simp only[aq,oY];rw[h2,h3];unfold eR;simp only;cases decide ((c::r).length<=16)<;>cases decide (97<=c.toNat)<;>cases decide (c.toNat<=122)<;>rfl
