/- When the reference's Check of a lattice answers OK, and that it answers. -/
import Derived.Test.YtfgnmgbiijpkiaaGreatKVa1
import Derived.Test.YtfgnmgbiijpkiaaGreatKVa6
set_option linter.all false
namespace Go.Proofs.YtfgnmgbiijpkiaaGreat
open Go Go.Bw
theorem PV {D:Type} {a:List D} {L:Int->Option Bool} (p:D->Bool) (hs:∀(i:Nat) x,a[i]? =some x->i<a.length->L (i:Int)=bif p x then some true else L ((i+1:Nat):Int)) (he:L (a.length:Int)=some false):L 0=some (a.any p):=by
 have key:∀k i:Nat,k=a.length-i->i<=a.length->L (i:Int)=some ((a.drop i).any p):=by
  intro k
  induction k with
  |zero=>
   intro i hk hi;have:i=a.length:=by omega
   subst this;rw[he];simp
  |succ k ih=>
   intro i hk hi;have hi':i<a.length:=by omega
   obtain⟨x,hx⟩:=cn hi';rw[hs i x hx hi',pq hx,List.any_cons];cases p x with
   |true=>rfl
   |false=>simpa using ih (i+1) (by omega) (by omega)
 simpa using key a.length 0 (by omega) (by omega)
theorem Gp (s:List UInt8) (hs:s.length<9223372036854775807):(f194 Pf) s=some (gU s):=by
 rw[SM,sT];have h0:∀n:Nat,(decide ((n:Int)<97)= !decide (97<=n))/\(decide ((n:Int)>122)= !decide (n<=122))/\(decide ((n:Int)<48)= !decide (48<=n))/\(decide ((n:Int)>57)= !decide (n<=57))/\(((n:Int) !=45)= !(n==45)):=λn=>by
  refine⟨?_,?_,?_,?_,?_⟩<;>(rw[gx];simp only[jh,bne_iff_ne,je,decide_eq_false_iff_not,beq_eq_false_iff_ne,ne_eq];omega)
 cases s with
 |nil=>rfl
 |cons c r=>
  have hL:(jX Pf) (c::r) 0=some ((c::r).all gm&&true):=by
   refine HL gm true (λi x hx hi=>?_) ?_
   ·rw[Gs,py];have:decide ((i:Int)<(((c::r).length:Nat):Int))=true:=by simp;simp at hi;omega
    obtain⟨h1,h2,h3,h4,h5⟩:=h0 x.toNat;simp only[this,bE,bW hx,aN,cD i (by omega),h1,h2,h3,h4,h5];unfold gm;cases decide (97<=x.toNat)<;>cases decide (x.toNat<=122)<;>cases decide (48<=x.toNat)<;>cases decide (x.toNat<=57)<;>cases (x.toNat==45)<;>rfl
   ·rw[Gs,py];have:decide ((((c::r).length:Nat):Int)<(((c::r).length:Nat):Int))=false:=by simp
    rw[this];rfl
  have hi:ax (c::r:List UInt8) 0=some c:=rfl;have e1:decide ((((c::r).length:Nat):Int)<1)=false:=by simp;omega
  have e2:decide ((((c::r).length:Nat):Int)>16)= !decide ((c::r).length<=16):=by rw[gx];simp;omega
  obtain⟨h1,h2,_,_,_⟩:=h0 c.toNat;rw[e1,e2,hi];simp only[aN,cp,h1,h2,hL,gU];cases decide ((c::r).length<=16)<;>cases decide (97<=c.toNat)<;>cases decide (c.toNat<=122)<;>simp
theorem AW (a:List (List UInt8)) (s:List UInt8) (ha:a.length<9223372036854775807):(f195 Pf) a s=some (a.any λy=>s==y):=by
 rw[SN,qF];refine PV (L:=λi=>(ni Pf) a s i) (λy=>s==y) (λi x hx hi=>?_) ?_
 ·show(ni Pf) a s i=_;rw[Gt,pz,du,bX];have:decide (i<a.length)=true:=by simpa using hi
  rw[this,bE,bW hx,aN,cD i (by omega),BEq.comm]
 ·show(ni Pf) a s a.length=_;rw[Gt,pz,du,bX];simp
theorem FH:∀{a:List (List UInt8)},(∀j x y,a[j]? =some x->a[j+1]? =some y->Op.bytesLess x y=true)->rising a=true
 |[],_=>rfl
 |[_],_=>rfl
 |x::y::r,h=>by
  have:=FH (a:=y::r) (λj u v h1 h2=>h (j+1) u v (by simpa using h1) (by simpa using h2));show(Op.bytesLess x y&&rising (y::r))=true;rw[h 0 x y (by simp) (by simp),this];rfl
theorem EH (a:List (List UInt8)) (ha:a.length<9223372036854775807) (hs:∀s∈a,s.length<9223372036854775807):ag ((f196 Pf) a) (λr=>r=true->(∀s∈a,gU s=true)/\rising a=true):=by
 rw[SO,qG];refine mY (L:=λi=>(mh Pf) a i) (len:=a.length) (λi=>(∀j s,j<i->a[j]? =some s->gU s=true)/\∀j x y,j+1<i->a[j]? =some x->a[j+1]? =some y->Op.bytesLess x y=true) (λi hi hI k=>?_) (λhI=>?_) 0 (by omega) ⟨λj s hj=>by omega,λj x y hj=>by omega⟩
 ·show ag ((mh Pf) a i) _;obtain⟨x,hx⟩:=cn hi;rw[Gv,pA,du,bX];have:decide (i<a.length)=true:=by simpa using hi
  rw[this,bE,bW hx,aN,Gp x (hs x (cy hx)),aN,cD i (by omega)];refine ag.bif (λ_=>ag.ret λe=>by cases e) (λh1=>?_);have nv:∀j s,j<i+1->a[j]? =some s->gU s=true:=λj s hj h=>by
   rcases xy.1 hj with h5|rfl
   ·exact hI.1 j s h5 h
   ·rw[hx]at h;cases h;simpa using h1
  refine ag.bif (λh2=>?_) (λh2=>k ⟨nv,λj u v hj=>by simp at h2;omega⟩);have h2:0<i:=by simp at h2;omega
  obtain⟨w,hw⟩:=cn (l:=a) (i:=i-1) (by omega);have e:IntKind.i64.wrap ((i:Int)-1)=((i-1:Nat):Int):=by rw[wrap64 (by omega) (by omega)];omega
  rw[e,bW hw,aN,aN];refine ag.bif (λ_=>ag.ret λe=>by cases e) (λh3=>k ⟨nv,λj u v hj h4 h5=>?_⟩);by_cases h6:j+1<i
  ·exact hI.2 j u v h6 h4 h5
  ·have h7:j+1=i:=by omega
   rw[h7,hx]at h5;cases h5;rw[show j=i-1 by omega,hw]at h4;cases h4;simpa using h3
 ·show ag ((mh Pf) a a.length) _;rw[Gv,pA,du,bX];have:decide (a.length<a.length)=false:=by simp
  rw[this,cp];refine ag.ret λ_=>⟨λs h=>?_,FH λj x y h1 h2=>hI.2 j x y (c8.1 h2).1 h1 h2⟩;obtain⟨j,hj⟩:=lx h;exact hI.1 j s (c8.1 hj).1 hj
theorem ND (l:ai):ag ((f153 Pf) l) (λr=>r=true->ig l):=by
 rw[SL,sS];simp only[du,ai.bc,aV.bc]
 repeat' (first|refine ag.bif (λ_=>?_) (λ_=>?_)|refine ag.ret (λhr=>?_))
 all_goals (first|(exfalso;revert hr;decide)|(simp at*;simp[ig, *];done)|(simp at*;simp[ig, *];omega)|skip)
 all_goals
  have hn:l.Names≠[]:=λe=>by simp[e]at*
  simp at*
  simp[ig, *]
  try omega
theorem xU:∀(n:Nat) (l:ai),SizeOf.sizeOf l<=n->ag ((f155 Pf) l) (λr=>r=true->oL l)
 |0,l,h=>by cases l;simp only[ai.mk.sizeOf_spec]at h;omega
 |n+1,l,h=>by
  rw[SQ,sV,ai.bc];refine ag.bif (λh1=>ag.ret λ_=> .one (.inl (by simpa using h1))) (λ_=>?_);refine ag.bif (λh1=>ag.ret λ_=> .one (.inr (.inl (by simpa using h1)))) (λ_=>?_);refine ag.bif (λh1=>ag.ret λ_=> .one (.inr (.inr (by simpa using h1)))) (λ_=>?_);refine ag.bif (λh7=>?_) (λ_=>ag.ret λh=>by cases h);refine ag.bif (λh2=>?_) (λ_=>ag.ret λh=>by cases h);have h2:l.aB.length=2:=by simp at h2;omega
  obtain⟨p,q,e⟩:∃p q,l.aB=[p,q]:=by
   match hp:l.aB,h2 with
   |[p,q],_=>exact⟨p,q,rfl⟩
  have hp:SizeOf.sizeOf p<SizeOf.sizeOf l:=Gh (by rw[e];simp);have hq:SizeOf.sizeOf q<SizeOf.sizeOf l:=Gh (by rw[e];simp);have e0:ax l.aB 0=some p:=by rw[e];rfl
  have e1:ax l.aB 1=some q:=by rw[e];rfl
  rw[e0,e1];simp only[aN];refine ag.bind (xU n p (by omega)) (λy hy=>?_);refine ag.bif (λhb=>?_) (λ_=>ag.ret λh=>by cases h);refine ag.bind (xU n q (by omega)) (λz hz=>ag.ret λh=> .lex (by simpa using h7) e (hy hb) (hz h))
section
variable {B:Nat} (hB:B<1099511627776)
include hB
theorem NF {l:ai} (hl:l.ok B) (hsh:ig l):ag ((f154 Pf) l) (λr=>r=true->sy l):=by
 rw[SP,sU];rw[ai.eP]at hl;obtain⟨_,_,_,⟨hn,hnn⟩,_,⟨hr,hrr⟩⟩:=hl;refine ag.bif (λh6=>?_) (λh6=>?_)
 ·have h6:l.Kind=6:=by simpa using h6
  have hru:l.bw=[]:=by simp[ig,h6]at hsh;exact hsh.2.2.1
  refine mY (L:=λi=>(nj Pf) l i) (len:=l.Names.length) (λi=>(∀j s,j<i->l.Names[j]? =some s->gU s=true)/\∀j s,j<i->l.Names[j]? =some s->((l.Names.take j).any λy=>s==y)=false) (λi hi hI k=>?_) (λhI=>?_) 0 (by omega) ⟨λj s hj=>by omega,λj s hj=>by omega⟩
  ·show ag ((nj Pf) l i) _;obtain⟨x,hx⟩:=cn hi;have hxl:=hnn x (cy hx);rw[Gw,pB,du,bX];have:decide (i<l.Names.length)=true:=by simpa using hi
   rw[this,bE,bW hx,aN,Gp x (by omega),aN,cD i (by omega),PJ (by omega),aN,aN,AW _ _ (by rw[rj];omega),aN];refine ag.bif (λ_=>ag.ret λe=>by cases e) (λh1=>?_);refine ag.bif (λ_=>ag.ret λe=>by cases e) (λh2=>k ⟨λj s hj h=>?_,λj s hj h=>?_⟩)
   all_goals rcases xy.1 hj with h5|rfl
   ·exact hI.1 j s h5 h
   ·rw[hx]at h;cases h;simpa using h1
   ·exact hI.2 j s h5 h
   ·rw[hx]at h;cases h;exact h2
  ·show ag ((nj Pf) l l.Names.length) _;rw[Gw,pB,du,bX];have:decide (l.Names.length<l.Names.length)=false:=by simp
   rw[this,cp];refine ag.ret λ_=>⟨λs h=>?_,λe=>absurd h6 e,λ_ i s h=>hI.2 i s (c8.1 h).1 h,by rw[hru];simp⟩;obtain⟨j,hj⟩:=lx h;exact hI.1 j s (c8.1 hj).1 hj
 ·have h6:l.Kind≠6:=by simpa using h6
  refine ag.bind (EH l.Names (by omega) (λs h=>by have:=hnn s h;omega)) (λy14 h14=>ag.bif (λ_=>ag.ret λe=>by cases e) (λDv=>?_));obtain⟨nv,ri⟩:=h14 (by simpa using Dv);refine rL (L:=λi s=>(nn Pf) l y14 s i) (len:=l.bw.length) (λi _=>∀j x,j<i->l.bw[j]? =some x->JB l.Names x) (λi s hi hI k=>?_) (λs hI=>?_) 0 false (by omega) (λj x hj=>by omega)
  ·show ag ((nn Pf) l y14 s i) _;obtain⟨x,hx⟩:=cn hi;have hxo:=hrr x (cy hx);rw[Gy,pD,aV.bc,bX];have:decide (i<l.bw.length)=true:=by simpa using hi
   rw[this,bE,bW hx,aN,du];refine ag.bif (λ_=>ag.ret λe=>by cases e) (λh1=>?_);refine ag.bind (EH x.If (by have:=hxo.1.1;omega) (λs h=>by have:=hxo.1.2 s h;omega)) (λy22 h22=>ag.bif (λ_=>ag.ret λe=>by cases e) (λe22=>?_));have h22:=h22 (by simpa using e22);rw[AW _ _ (by omega),aN];refine ag.bif (λ_=>ag.ret λe=>by cases e) (λe24=>?_);have e24:(l.Names.any λy=>x.eU==y)=true:=by simpa only[uA]using e24
   refine rL (L:=λi2 s2=>(nk Pf) l y14 s (i:Int) x y22 (l.Names.any λy=>x.eU==y) s2 i2) (len:=x.If.length) (λi2 _=>∀j z,j<i2->x.If[j]? =some z->(l.Names.any λy=>z==y)=true) (λi2 s2 hi2 hI2 k2=>?_) (λs2 hI2=>?_) 0 s (by omega) (λj x hj=>by omega)
   ·show ag ((nk Pf) l y14 s (i:Int) x y22 (l.Names.any λy=>x.eU==y) s2 i2) _;obtain⟨z,hz⟩:=cn hi2;rw[Gx,pC,du,bX];have:decide (i2<x.If.length)=true:=by simpa using hi2
    rw[this,bE,bW hz,aN,AW _ _ (by omega),aN,cD i2 (by have:=hxo.1.1;omega)];refine ag.bif (λ_=>ag.ret λe=>by cases e) (λh3=>k2 s2 λj u hj hu=>?_);rcases xy.1 hj with h5|rfl
    ·exact hI2 j u h5 hu
    ·rw[hz]at hu;cases hu;simpa only[uA]using h3
   ·show ag ((nk Pf) l y14 s (i:Int) x y22 (l.Names.any λy=>x.eU==y) s2 x.If.length) _;rw[Gx,pC,du,bX];have:decide (x.If.length<x.If.length)=false:=by simp
    rw[this,cp,cD i (by omega)];refine k s2 λj u hj hu=>?_;rcases xy.1 hj with h5|rfl
    ·exact hI j u h5 hu
    ·rw[hx]at hu;cases hu;refine⟨λe=>by rw[e]at h1;simp at h1,h22.2,gH.2 λz hz=>?_,e24⟩;obtain⟨q,hq⟩:=lx hz;exact hI2 q z (c8.1 hq).1 hq
  ·show ag ((nn Pf) l y14 s l.bw.length) _;rw[Gy,pD,aV.bc,bX];have:decide (l.bw.length<l.bw.length)=false:=by simp
   rw[this,cp];refine ag.ret λ_=>⟨nv,λ_=>ri,λe=>absurd e h6,λr h=>?_⟩;obtain⟨j,hj⟩:=lx h;exact hI j r (c8.1 hj).1 hj
theorem Oj {l:ai} (hl:l.ok B) (d b:Int):ag ((f90 Pf) l d b) (λr=>r=0->d<=6/\b<64/\ig l/\oD l/\sy l/\(-1000000000<=l.Lo/\l.Lo<=l.Hi/\l.Hi<=1000000000)/\(l.Kind=7->∃p,l.aB[0]? =some p/\oL p)):=by
 rw[Vr,tT];simp only[du,aV.bc];have six:∀{o:Option Int} {Q:Int->Prop},ag o Q->ag o Q:=λh=>h;refine ag.bif (λk6=>?_) (λk6=>ag.bif (λk10=>?_) (λk10=>?_))
 all_goals
  refine ag.bif (λ_=>ag.ret λe=>by cases e) (λh1=>ag.bif (λ_=>ag.ret λe=>by cases e) (λh2=>?_));refine ag.bind (ND l) (λy4 h4=>ag.bif (λ_=>ag.ret λe=>by cases e) (λe4=>?_));have h4:=h4 (by simpa using e4);refine ag.bif (λ_=>ag.ret λe=>by cases e) (λh5=>ag.bif (λ_=>ag.ret λe=>by cases e) (λh6=>?_));refine ag.bind (NF hB hl h4) (λy8 h8=>ag.bif (λ_=>ag.ret λe=>by cases e) (λe8=>?_));have h8:=h8 (by simpa using e8);refine ag.bif (λ_=>ag.ret λe=>by cases e) (λh9=>ag.bif (λ_=>ag.ret λe=>by cases e) (λh10=>ag.bif (λ_=>ag.ret λe=>by cases e) (λh11=>?_)));have hr: -1000000000<=l.Lo/\l.Lo<=l.Hi/\l.Hi<=1000000000:=by simp at h9 h10 h11;omega
  have h12:d<=6/\b<64:=by simp at h1 h2;omega
 ·have k:l.Kind=6:=by simpa using k6
  exact ag.ret λ_=>⟨h12.1,h12.2,h4,by simp[oD,k];simp at h5 h6;omega,h8,hr,λe=>by rw[k]at e;cases e⟩
 ·have k:l.Kind=10:=by simpa using k10
  exact ag.ret λ_=>⟨h12.1,h12.2,h4,by simp[oD,k];simp at h5 h6;omega,h8,hr,λe=>by rw[k]at e;cases e⟩
 ·have k1:l.Kind≠6:=by simpa using k6
  have k2:l.Kind≠10:=by simpa using k10
  have lim:oD l:=by simp[oD,k1,k2];simp at h5 h6;omega
  refine ag.bif (λh7=>?_) (λh7=>ag.ret λ_=>⟨h12.1,h12.2,h4,lim,h8,hr,λe=>by rw[e]at h7;cases h7⟩);have h7:l.Kind=7:=by simpa using h7
  have h2:l.aB.length=2:=by simp[ig,h7]at h4;exact h4.1
  obtain⟨p,hp⟩:=cn (l:=l.aB) (i:=0) (by omega);have e0:ax l.aB 0=some p:=hp;rw[e0,aN];refine ag.bind (xU _ p (bA _)) (λy hy=>ag.bif (λ_=>ag.ret λe=>by cases e) (λey=>ag.ret λ_=>⟨h12.1,h12.2,h4,lim,h8,hr,λ_=>⟨p,hp,hy (by simpa using ey)⟩⟩))
theorem FI:∀(n:Nat) (l:ai) (d b:Int),l.ok B->0<=b->b<=64->(6-d+1).toNat<=n->d<=7->0<=d->ag ((f46 Pf) l d b) (λr=>0<=r.1/\r.1<=64/\(r.2=0->qU l/\r.1=b+oC l/\d+lO l<=7))
 |n,l,d,b,hl,h0,h1,hn,hd,hd0=>by
  rw[Vs,tU];refine ag.bind (Oj hB hl d b) (λy1 hy1=>ag.bif (λhne=>ag.ret ⟨h0,h1,λe=>by simp at hne;exact absurd e hne⟩) (λe1=>?_));obtain⟨h6,h64,hs,hli,hna,hra,hch⟩:=hy1 (by simpa using e1)
  match n,hn with
  |0,hn=>omega
  |n+1,hn=>
  have hw:IntKind.i64.wrap (b+1)=b+1:=wrap64 (by omega) (by omega);have hwd:IntKind.i64.wrap (d+1)=d+1:=wrap64 (by omega) (by omega);rw[hw];have hl':=hl;rw[ai.eP]at hl';obtain⟨_,_,_,_,⟨hpl,hp⟩,_⟩:=hl';refine rL (L:=λi s=>(nI Pf) l d s i) (len:=l.aB.length) (λi s=>0<=s/\s<=64/\s=b+1+iW (l.aB.take i)/\∀j p,j<i->l.aB[j]? =some p->qU p/\d+1+lO p<=7) (λi s hi hI k=>?_) (λs hI=>?_) 0 (b+1) (by omega) ⟨by omega,by omega,by simp[iW],λj p hj=>by omega⟩
  ·show ag ((nI Pf) l d s i) _;obtain⟨x,hx⟩:=cn hi;rw[HY,p7,ai.bc,bX];have:decide (i<l.aB.length)=true:=by simpa using hi
   rw[this,bE,bW hx,aN,cD i (by omega),hwd];refine ag.bind (FI n x (d+1) s (ai.pM hp (cy hx)) hI.1 hI.2.1 (by omega) (by omega) (by omega)) (λy hy=>?_);refine ag.bif (λhne=>ag.ret ⟨hI.1,hI.2.1,λe=>by simp at hne;exact absurd e hne⟩) (λhz=>?_);have hy3:=hy.2.2 (by simpa using hz);refine k _ ⟨hy.1,hy.2.1,by rw[NA hx];have:=hI.2.2.1;omega,λj p hj hp'=>?_⟩;rcases xy.1 hj with h5|rfl
   ·exact hI.2.2.2 j p h5 hp'
   ·rw[hx]at hp';cases hp';exact⟨hy3.1,hy3.2.2⟩
  ·show ag ((nI Pf) l d s l.aB.length) _;rw[HY,p7,ai.bc,bX];have:decide (l.aB.length<l.aB.length)=false:=by simp
   rw[this,cp];have all:∀p∈l.aB,qU p/\d+1+lO p<=7:=λp hp'=>by
    obtain⟨j,hj⟩:=lx hp';exact hI.2.2.2 j p (c8.1 hj).1 hj
   refine ag.ret ⟨hI.1,hI.2.1,λ_=>⟨.mk hs hli hna hra hch λp hp'=>(all p hp').1,?_,?_⟩⟩
   ·show s=_;rw[z8];have:=hI.2.2.1;rw[D6]at this;omega
   ·rw[Aa];have:kX l.aB<=(6-d).toNat:=Gg λp hp'=>by have:=(all p hp').2;omega
    omega
theorem E2 {l:ai} (hl:l.ok B):ag ((f15 Pf) l) (λr=>r=0->ew l):=by
 rw[Vt,tV];exact ag.bind (FI hB 7 l 1 0 hl (by simp) (by simp) (by decide) (by decide) (by decide)) (λy hy=>ag.ret λe=>by
  obtain⟨h1,h2,h3⟩:=hy.2.2 e;have h4:=hy.2.1;exact⟨h1,by omega,by omega⟩)
end
structure oB (t:bl):Prop where
 kind:1<=t.Kind/\t.Kind<=5
 num:t.Kind=3->0<=t.N/\t.N<=1000000000000000
 nv:(t.Kind=1\/t.Kind=4)->NV t.Text
theorem zj {D:Type} {l:List D} {a b:Nat} (h:a<=b) (g:b<=l.length):ij l (a:Int) (b:Int)=some ((l.take b).drop a):=by
 show(bif Nat.ble a b&&Nat.ble b l.length then some ((l.take b).drop a)else none)=_;rw[rk h,rk g];rfl
theorem Oa (c:UInt8):(wA Pu) (c.toNat:Int)=some (gm c):=by
 rw[T7,tq];unfold gm;have h0:∀n:Nat,(decide ((n:Int)>=97)=decide (97<=n))/\(decide ((n:Int)<=122)=decide (n<=122))/\(decide ((n:Int)>=48)=decide (48<=n))/\(decide ((n:Int)<=57)=decide (n<=57))/\(((n:Int)==45)=(n==45)):=λn=>by
  refine⟨?_,?_,?_,?_,?_⟩<;>(rw[gx];simp only[jh,beq_iff_eq];omega)
 obtain⟨h1,h2,h3,h4,h5⟩:=h0 c.toNat;rw[h1,h2,h3,h4,h5];cases decide (97<=c.toNat)<;>cases decide (c.toNat<=122)<;>cases decide (48<=c.toNat)<;>cases decide (c.toNat<=57)<;>rfl
def qT (c:UInt8):Bool:=decide (97<=c.toNat)&&decide (c.toNat<=122)
def tN (c:UInt8):Bool:=decide (48<=c.toNat)&&decide (c.toNat<=57)
theorem I5 (c:UInt8):(tI Pu) (c.toNat:Int)=some (qT c):=by
 rw[TY,th,show decide ((c.toNat:Int)>=97)=decide (97<=c.toNat)by(rw[gx];simp only[jh];omega),show decide ((c.toNat:Int)<=122)=decide (c.toNat<=122)by(rw[gx];simp only[jh];omega),qT];cases decide (97<=c.toNat)<;>rfl
theorem AT (c:UInt8):(qS Pu) (c.toNat:Int)=some (tN c):=by
 rw[TZ,tj,show decide ((c.toNat:Int)>=48)=decide (48<=c.toNat)by(rw[gx];simp only[jh];omega),show decide ((c.toNat:Int)<=57)=decide (c.toNat<=57)by(rw[gx];simp only[jh];omega),tN];cases decide (48<=c.toNat)<;>rfl
theorem PG (c:UInt8):(wu Pu) (c.toNat:Int)=some (gm c):=by
 rw[T0,tm,I5,aN,AT,aN];have h5:((c.toNat:Int)==45)=(c.toNat==45):=by rw[gx];simp only[beq_iff_eq];omega
 rw[h5,qT,tN,gm];cases decide (97<=c.toNat)<;>cases decide (c.toNat<=122)<;>cases decide (48<=c.toNat)<;>cases decide (c.toNat<=57)<;>rfl
theorem Ob (c:Int):ag ((wm Pu) c) (λr=>r=true->c≠35):=by
 rw[TW,tf]
 repeat' (first|refine ag.bif (λh=>?_) (λh=>?_)|refine ag.ret (λhr=>?_))
 all_goals (simp at*;omega)
theorem Oc (s:List UInt8) (hs:s.length<9223372036854775807):(w7 Pu) s=some (gU s):=by
 rw[V5,ue];cases s with
 |nil=>rfl
 |cons c r=>
  have hL:(sv Pu) (c::r) 0=some ((c::r).all gm&&true):=by
   refine HL gm true (λi x hx hi=>?_) ?_
   ·rw[IM,qd,bX];have:decide (i<(c::r).length)=true:=by simpa using hi
    rw[this,bE,bW hx,aN,Oa,aN,cD i (by omega)];cases gm x<;>rfl
   ·rw[IM,qd,bX];have:decide ((c::r).length<(c::r).length)=false:=by simp
    rw[this];rfl
  have hi:ax (c::r:List UInt8) 0=some c:=rfl;have h0:decide ((((c::r).length:Nat):Int)<1)=false:=by simp;omega
  have h1:decide ((((c::r).length:Nat):Int)>16)= !decide ((c::r).length<=16):=by rw[gx];simp;omega
  have h2:decide (((c.toNat:Nat):Int)<97)= !decide (97<=c.toNat):=by rw[gx];simp;omega
  have h3:decide (((c.toNat:Nat):Int)>122)= !decide (c.toNat<=122):=by rw[gx];simp;omega
  rw[hi,hL,h0,h1];simp only[aN,uv];rw[h2,h3];unfold gU;simp only;cases decide ((c::r).length<=16)<;>cases decide (97<=c.toNat)<;>cases decide (c.toNat<=122)<;>rfl
section
variable {a:List UInt8} (ha:a.length<=65536)
include ha
theorem OR {k:Nat} (hk:k<=a.length):ag ((wo Pu) a (k:Int)) (λr=>∃j:Nat,r=(j:Int)/\k<=j/\j<=a.length):=by
 rw[TX,qM]
 let Q:Nat->Int->Prop:=λi r=>∃j:Nat,r=(j:Int)/\i<=j/\j<=a.length
 have up:∀(o:Option Int) (i:Nat),ag o (Q (i+1))->ag o (Q i):=λo i h=>h.mono λr ⟨j,h1,h2,h3⟩=>⟨j,h1,by omega,h3⟩;have key:∀m i:Nat,a.length=i+m->ag ((jm Pu) a (k:Int) (i:Int)) (Q i)/\(∀(s1:Int) (x3:UInt8) (y5:Bool) (x7:UInt8),ag ((rV Pu) a (k:Int) s1 x3 y5 x7 (i:Int)) (Q i))/\∀(s1:Int) (x3:UInt8) (y5:Bool) (x15 x18:UInt8),ag ((rW Pu) a (k:Int) s1 x3 y5 x15 x18 (i:Int)) (Q i):=by
  intro m
  induction m with
  |zero=>
   intro i hi;have no:decide ((i:Int)<(a.length:Int))=false:=by simp;omega
   have h1:ag ((jm Pu) a (k:Int) (i:Int)) (Q i):=by
    rw[Ho,pN,no,cp];exact ag.ret ⟨i,rfl,bA _,by omega⟩
   refine⟨h1,λs1 x3 y5 x7=>?_,λs1 x3 y5 x15 x18=>?_⟩
   ·rw[Hn,pO,no,cp];exact h1
   ·rw[z6,nC,no,cp];exact h1
  |succ m im=>
   intro i hi;obtain⟨g1,g2,g3⟩:=im (i+1) (by omega);have yes:decide ((i:Int)<(a.length:Int))=true:=by simp;omega
   obtain⟨c,hc⟩:=cn (l:=a) (i:=i) (by omega);have h1:ag ((jm Pu) a (k:Int) (i:Int)) (Q i):=by
    rw[Ho,pN,yes,bE,bW hc,aN,cD i (by omega)];refine ag.bind (Ob _) (λb hb=>?_);refine ag.bif (λh=>?_) (λ_=>?_)
    ·refine ag.bj rfl (ag.bif (λ_=>up _ _ g1) (λh35=>?_));exact absurd (by simpa using h35) (hb h)
    ·refine ag.bj rfl (ag.bif (λh35=>?_) (λ_=>ag.ret ⟨i,rfl,bA _,by omega⟩));refine ag.bj rfl (ag.bif (λ_=>up _ _ g1) (λ_=>?_));have h35:(c.toNat:Int)=35:=by simpa using h35
     rw[z6,nC,yes,bE,bW hc,aN,cD i (by omega),h35];exact up _ _ (g3 _ _ _ _ _)
   refine⟨h1,λs1 x3 y5 x7=>?_,λs1 x3 y5 x15 x18=>?_⟩
   ·rw[Hn,pO,yes,bE,bW hc,aN,cD i (by omega)];exact ag.bif (λ_=>up _ _ (g2 _ _ _ _)) (λ_=>h1)
   ·rw[z6,nC,yes,bE,bW hc,aN,cD i (by omega)];exact ag.bif (λ_=>up _ _ (g3 _ _ _ _ _)) (λ_=>h1)
 exact(key (a.length-k) k (by omega)).1
theorem Gb {k:Nat} (hk:k<=a.length):ag ((tJ Pu) a (k:Int)) (λr=>∃j:Nat,r=(j:Int)/\k<=j/\j<=a.length/\(∀i c,k<=i->i<j->a[i]? =some c->gm c=true)/\∀c,a[j]? =some c->gm c=false):=by
 rw[T1,qN];refine mY (L:=λi=>(nD Pu) a i) (len:=a.length) (λi=>k<=i/\∀j c,k<=j->j<i->a[j]? =some c->gm c=true) (λi hi hI kk=>?_) (λhI=>?_) k hk ⟨bA _,λj c h1 h2=>by omega⟩
 ·show ag ((nD Pu) a (i:Int)) _;obtain⟨c,hc⟩:=cn hi;rw[Hq,pP,bX];have:decide (i<a.length)=true:=by simpa using hi
  rw[this,bE,bW hc,aN,PG,aN,cD i (by omega)];refine ag.bif (λh=>kk ⟨by omega,λj d h1 h2 h3=>?_⟩) (λh=>ag.ret ⟨i,rfl,hI.1,by omega,hI.2,λd hd=>?_⟩)
  ·by_cases e:j=i
   ·subst e;rw[hc]at h3;cases h3;exact h
   ·exact hI.2 j d h1 (by omega) h3
  ·rw[hc]at hd;cases hd;exact h
 ·show ag ((nD Pu) a (a.length:Int)) _;rw[Hq,pP,bX];have:decide (a.length<a.length)=false:=by simp
  rw[this,cp];exact ag.ret ⟨a.length,rfl,hI.1,bA _,hI.2,λc hc=>by simp at hc⟩
def uj (a:List UInt8) (k:Nat) (r:bl×Int×aK):Prop:=r.2.2.Code=0->oB r.1/\∃j:Nat,r.2.1=(j:Int)/\k<j/\j<=a.length
theorem mb {k:Nat} (e x:Int) (he:e≠0:=by decide):ag (((fj Pu) e x).bind λy=>some y) (uj a k):=by
 rw[TV,te];exact ag.ret λh=>absurd h he
theorem Nd {k:Nat} {c:UInt8} (hc:a[k]? =some c) (hd:tN c=true):ag ((wy Pu) a (k:Int)) (uj a k):=by
 have hk:k<a.length:=(c8.1 hc).1;rw[T6,qP];have fin:∀(i:Nat) (s:Int),k<i->i<=a.length->0<=s->ag ((ax a (k:Int)).bind λx11=>(bif (x11.toNat:Int)==48 then(bif decide (IntKind.i64.wrap ((i:Int)-(k:Int))>1)then(((fj Pu) 2 (k:Int)).bind λy15=>(some (y15)))else(bif decide (s>1000000000000000)then(((fj Pu) 5 (k:Int)).bind λy17=>(some (y17)))else(some (({Kind:=3,Text:=[],N:=s,At:=(k:Int):bl},(i:Int),{Code:=0,At:=0:aK})))))else(bif decide (s>1000000000000000)then(((fj Pu) 5 (k:Int)).bind λy19=>(some (y19)))else(some (({Kind:=3,Text:=[],N:=s,At:=(k:Int):bl},(i:Int),{Code:=0,At:=0:aK})))))) (uj a k):=by
  intro i s h1 h2 h3;have ok:s<=1000000000000000->ag (some (({Kind:=3,Text:=[],N:=s,At:=(k:Int):bl},(i:Int),{Code:=0,At:=0:aK}))) (uj a k):=λh=>ag.ret λ_=>⟨⟨by simp,λ_=>⟨h3,h⟩,λe=>by simp at e⟩,i,rfl,h1,h2⟩;rw[bW hc,aN];refine ag.bif (λ_=>ag.bif (λ_=>mb ha _ _) (λ_=>ag.bif (λ_=>mb ha _ _) (λh=>ok (by simpa using h)))) (λ_=>ag.bif (λ_=>mb ha _ _) (λh=>ok (by simpa using h)))
 refine rL (L:=λi s=>(mn Pu) a (k:Int) i s) (len:=a.length) (λi s=>(k<i\/i=k)/\0<=s/\s<=10000000000000009) (λi s hi hI kk=>?_) (λs hI=>?_) k 0 (by omega) ⟨.inr rfl,by omega,by omega⟩
 ·show ag ((mn Pu) a (k:Int) (i:Int) s) _;obtain⟨x,hx⟩:=cn hi;rw[Hs,pR,bX];have:decide (i<a.length)=true:=by simpa using hi
  rw[this,bE,bW hx,aN,AT,aN,cD i (by omega),aN];refine ag.bif (λh=>ag.bif (λhs=>?_) (λ_=>kk _ ⟨.inl (by omega),hI.2⟩)) (λh=>?_)
  ·simp only[tN,bI,jh]at h hs;have e1:IntKind.u8.wrap ((x.toNat:Int)-48)=(x.toNat:Int)-48:=by
    simp[IntKind.wrap,IntKind.bits,IntKind.signed];omega
   rw[e1,wrap64 (x:=(x.toNat:Int)-48) (by omega) (by omega),wrap64 (x:=10*s) (by omega) (by omega),wrap64 (by omega) (by omega)];exact kk _ ⟨.inl (by omega),by omega,by omega⟩
  ·refine fin i s ?_ (by omega) hI.2.1;rcases hI.1 with h1|h1
   ·exact h1
   ·subst h1;rw[hc]at hx;cases hx;rw[hd]at h;cases h
 ·show ag ((mn Pu) a (k:Int) (a.length:Int) s) _;rw[Hs,pR,bX];have:decide (a.length<a.length)=false:=by simp
  rw[this,cp];exact fin a.length s (by omega) (bA _) hI.2.1
omit ha in
theorem PH {a:List UInt8} {k j:Nat} {c:UInt8} (hj:j<=a.length) (hk:k<j) (h16:j-k<=16) (hc:a[k]? =some c) (hl:qT c=true) (hall:∀i c,k<=i->i<j->a[i]? =some c->gm c=true):NV ((a.take j).drop k):=by
 have hlen:((a.take j).drop k).length=j-k:=by rw[xi,rj];omega
 refine⟨by omega,⟨c,by rw[mW,MC (by omega)];exact hc,?_⟩,λx hx=>?_⟩
 ·simpa[qT]using hl
 ·obtain⟨i,hi⟩:=lx hx;have hi':=(c8.1 hi).1;rw[mW,MC (by omega)]at hi;exact hall (k+i) x (by omega) (by omega) hi
theorem Nf (s:List UInt8):ag ((wv Pu) s) (λ_=>True):=by
 rw[T5,tp,T2,tn,aN];refine ag.bind (P:=λ_=>True) ?_ (λ_ _=>ag.ret trivial);rw[T3,qO];generalize hl:([_,_,_,_,_,_,_,_,_,_,_,_,_,_,_,_,_,_,_,_,_,_,_,_,_,_,_,_,_,_,_,_,_,_,_,_,_,_,_,_,_,_,_,_]:List (List UInt8))=l;have hlen:l.length=44:=by rw[<-hl];rfl
 clear hl;refine mY (L:=λi=>(nE Pu) l s i) (len:=l.length) (λ_=>True) (λi hi _ kk=>?_) (λ_=>?_) 0 (by omega) trivial
 ·show ag ((nE Pu) l s (i:Int)) _;obtain⟨x,hx⟩:=cn hi;rw[Hr,pQ,du,bX];have:decide (i<l.length)=true:=by simpa using hi
  rw[this,bE,bW hx,aN,cD i (by omega)];exact ag.bif (λ_=>ag.ret trivial) (λ_=>kk trivial)
 ·show ag ((nE Pu) l s (l.length:Int)) _;rw[Hr,pQ,du,bX];have:decide (l.length<l.length)=false:=by simp
  rw[this];exact ag.ret trivial
theorem Od {k:Nat} (hk:k<a.length):ag ((wB Pu) a (k:Int)) (uj a k):=by
 rw[T',tu];obtain⟨c,hc⟩:=cn hk;rw[bW hc,aN,I5,aN];refine ag.bif (λhl=>?_) (λ_=>?_)
 ·refine ag.bind (Gb ha (Nat.le_of_lt hk)) (λr hr=>?_);obtain⟨j,rfl,h1,h2,h3,h4⟩:=hr;have hkj:k<j:=by
   rcases jO k j with h|h
   ·exact h
   ·have:j=k:=by omega
    subst this;have:=h4 c hc;simp[qT]at hl;simp[gm,hl]at this
  rw[wrap64 (by omega) (by omega),zj h1 h2];refine ag.bif (λ_=>mb ha _ _) (λh16=>?_);have h16:j-k<=16:=by simp at h16;omega
  refine ag.bj rfl (ag.bind (Nf ha _) (λb _=>?_));refine ag.bif (λ_=>ag.bj rfl (ag.ret λ_=>⟨⟨by simp,λe=>by simp at e,λe=>by simp at e⟩,j,rfl,hkj,h2⟩)) (λ_=>?_);exact ag.bj rfl (ag.ret λ_=>⟨⟨by simp,λe=>by simp at e,λ_=>PH h2 hkj h16 hc hl h3⟩,j,rfl,hkj,h2⟩)
 rw[AT,aN];refine ag.bif (λhd=>?_) (λ_=>?_)
 ·exact ag.bind (Nd ha hc hd) (λy hy=>ag.ret hy)
 refine ag.bif (λ_=>?_) (λ_=>?_)
 ·rw[cD k (by omega)];refine ag.bind (Gb ha (by omega:k+1<=a.length)) (λr hr=>?_);obtain⟨j,rfl,h1,h2,h3,h4⟩:=hr;refine ag.bif (λ_=>mb ha _ _) (λhj=>?_);have hj:j<a.length:=by simp at hj;omega
  obtain⟨x,hx⟩:=cn hj;rw[bW hx,aN,zj h1 h2,cD j (by omega)];refine ag.bif (λ_=>mb ha _ _) (λ_=>?_);refine ag.bj rfl ?_;rw[Oc _ (by rw[xi,rj];omega),aN];refine ag.bif (λ_=>mb ha _ _) (λhv=>?_);exact ag.bj rfl (ag.ret λ_=>⟨⟨by simp,λe=>by simp at e,λ_=>PI.1 (by simpa using hv)⟩,j+1,rfl,by omega,by omega⟩)
 rw[T8,tr,aN];generalize hl:([_,_,_,_,_,_,_,_,_,_,_,_,_,_,_,_,_]:List (List UInt8))=l;have hlen:l.length=17/\∀x∈l,x.length=1\/x.length=2:=by rw[<-hl];exact⟨rfl,by decide⟩
 clear hl;refine mY (L:=λi=>(mo Pu) a (k:Int) l i) (len:=l.length) (λ_=>True) (λi hi _ kk=>?_) (λ_=>?_) 0 (by omega) trivial
 ·show ag ((mo Pu) a (k:Int) l (i:Int)) _;obtain⟨x,hx⟩:=cn hi;have hxl:=hlen.2 x (cy hx);rw[Ht,pS,du,bX];have:decide (i<l.length)=true:=by simpa using hi
  rw[this,bE,bW hx,aN,cD i (by omega),wrap64 (by omega) (by omega),wrap64 (by omega) (by omega),aN];refine ag.bif (λh=>?_) (λ_=>kk trivial);have h:k+x.length<=a.length:=by simp at h;omega
  have e:(k:Int)+(x.length:Int)=((k+x.length:Nat):Int):=by omega
  rw[e,zj (by omega) h,aN];refine ag.bif (λ_=>?_) (λ_=>kk trivial);exact ag.bj rfl (ag.ret λ_=>⟨⟨by simp,λe=>by simp at e,λe=>by simp at e⟩,k+x.length,rfl,by omega,h⟩)
 ·show ag ((mo Pu) a (k:Int) l (l.length:Int)) _;rw[Ht,pS,du,bX];have:decide (l.length<l.length)=false:=by simp
  rw[this];exact mb ha _ _
def oA (T:List bl):Prop:=∃l e,T=l++[e]/\(∀t∈l,oB t)/\e.Kind=6
theorem PE:ag ((w8 Pu) a) (λr=>r.2.Code=0->oA r.1/\r.1.length<=a.length+1):=by
 rw[V6,rf];have key:∀m i:Nat,a.length=i+m->∀l:List bl,(∀t∈l,oB t)->l.length<=i->ag ((sw Pu) a [] l (i:Int)) (λr=>r.2.Code=0->oA r.1/\r.1.length<=a.length+1):=by
  intro m
  induction m using Nat.strongRecOn with
  |_ m im=>
   intro i hi l hl hli;rw[QQ,sx];have happ:∀t:bl,decide ((l++[t]).length<=274877906944)=true:=λt=>by simp;omega
   refine ag.bind (P:=λr=>r.2.2.Code=0->(r.1.Kind=6\/(oB r.1/\∃j:Nat,r.2.1=(j:Int)/\i<j/\j<=a.length))) ?_ (λr hr=>?_)
   ·rw[Ua,tv];have no1:decide ((a.length:Int)>65536)=false:=by simp;omega
    have no2:decide ((i:Int)<0)=false:=by simp
    have no3:decide ((i:Int)>(a.length:Int))=false:=by simp;omega
    rw[no1,no2,no3,cp,cp,cp];refine ag.bind (OR ha (by omega:i<=a.length)) (λr hr=>?_);obtain⟨j,rfl,h1,h2⟩:=hr;refine ag.bif (λ_=>ag.ret λ_=> .inl rfl) (λhj=>?_);have hj:j<a.length:=by simp at hj;omega
    refine ag.bind (Od ha hj) (λr hr=>ag.ret λh=> .inr ?_);obtain⟨h3,q,h4,h5,h6⟩:=hr h;exact⟨h3,q,h4,by omega,h6⟩
   ·refine ag.bif (λh=>ag.ret λe=>?_) (λh0=>?_)
    ·rw[e]at h;cases h
    ·rw[happ,bE];refine ag.bif (λh6=>ag.ret λ_=>⟨⟨l,r.1,rfl,hl,by simpa using h6⟩,by simp;omega⟩) (λh6=>?_);rcases hr (by simpa using h0)with h|⟨h1,j,h2,h3,h4⟩
     ·rw[h]at h6;cases h6
     ·rw[h2];refine im (a.length-j) (by omega) j (by omega) _ (λt ht=>?_) (by simp;omega);rcases cN.1 ht with ht|ht
      ·exact hl t ht
      ·simp at ht;subst ht;exact h1
 exact key a.length 0 (by omega) [] (by simp) (by simp)
