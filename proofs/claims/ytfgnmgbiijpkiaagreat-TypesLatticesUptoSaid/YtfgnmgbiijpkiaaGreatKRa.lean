/- When the reference's Check of a lattice answers OK, and that it answers. -/
import Derived.Test.YtfgnmgbiijpkiaaGreatKSn
import Derived.Test.YtfgnmgbiijpkiaaGreatKVa6
set_option linter.all false
namespace Go.Proofs.YtfgnmgbiijpkiaaGreat
open Go Go.Bw
theorem YM {D:Type} {a:List D} {L:Int->Option Bool} (p:D->Bool) (hs:∀(i:Nat) x,a[i]? =some x->i<a.length->L (i:Int)=bif p x then some true else L ((i+1:Nat):Int)) (he:L (a.length:Int)=some false):L 0=some (a.any p):=by
 have key:∀k i:Nat,k=a.length-i->i<=a.length->L (i:Int)=some ((a.drop i).any p):=by
  intro k
  induction k with
  |zero=>
   intro i hk hi;have:i=a.length:=by omega
   subst this;rw[he];simp
  |succ k ih=>
   intro i hk hi;have hi':i<a.length:=by omega
   obtain⟨x,hx⟩:=bh hi';rw[hs i x hx hi',lM hx,List.any_cons];cases p x with
   |true=>rfl
   |false=>simpa using ih (i+1) (by omega) (by omega)
 simpa using key a.length 0 (by omega) (by omega)
theorem zO (s:List UInt8) (hs:s.length<9223372036854775807):(f194 Pf) s=some (ek s):=by
 rw[ace,wU];have h0:∀n:Nat,(decide ((n:Int)<97)= !decide (97<=n))/\(decide ((n:Int)>122)= !decide (n<=122))/\(decide ((n:Int)<48)= !decide (48<=n))/\(decide ((n:Int)>57)= !decide (n<=57))/\(((n:Int) !=45)= !(n==45)):=λn=>by
  refine⟨?_,?_,?_,?_,?_⟩<;>(rw[gu];simp only[lB,bne_iff_ne,kQ,decide_eq_false_iff_not,beq_eq_false_iff_ne,ne_eq];omega)
 cases s with
 |nil=>rfl
 |cons c r=>
  have hL:(lR Pf) (c::r) 0=some ((c::r).all jk&&true):=by
   refine Av jk true (λi x hx hi=>?_) ?_
   ·rw[Mq,sS];have:decide ((i:Int)<(((c::r).length:Nat):Int))=true:=by simp;simp at hi;omega
    obtain⟨h1,h2,h3,h4,h5⟩:=h0 x.toNat;simp only[this,aV,bj hx,aw,bP i (by omega),h1,h2,h3,h4,h5];unfold jk;cases decide (97<=x.toNat)<;>cases decide (x.toNat<=122)<;>cases decide (48<=x.toNat)<;>cases decide (x.toNat<=57)<;>cases (x.toNat==45)<;>rfl
   ·rw[Mq,sS];have:decide ((((c::r).length:Nat):Int)<(((c::r).length:Nat):Int))=false:=by simp
    rw[this];rfl
  have hi:au (c::r:List UInt8) 0=some c:=rfl;have e1:decide ((((c::r).length:Nat):Int)<1)=false:=by simp;omega
  have e2:decide ((((c::r).length:Nat):Int)>16)= !decide ((c::r).length<=16):=by rw[gu];simp;omega
  obtain⟨h1,h2,_,_,_⟩:=h0 c.toNat;rw[e1,e2,hi];simp only[aw,bp,h1,h2,hL,ek];cases decide ((c::r).length<=16)<;>cases decide (97<=c.toNat)<;>cases decide (c.toNat<=122)<;>simp
theorem tZ (a:List (List UInt8)) (s:List UInt8) (ha:a.length<9223372036854775807):(f195 Pf) a s=some (a.any λy=>s==y):=by
 rw[acf,uB];refine YM (L:=λi=>(qA Pf) a s i) (λy=>s==y) (λi x hx hi=>?_) ?_
 ·show(qA Pf) a s i=_;rw[Mr,sT,cj,aY];have:decide (i<a.length)=true:=by simpa using hi
  rw[this,aV,bj hx,aw,bP i (by omega),BEq.comm]
 ·show(qA Pf) a s a.length=_;rw[Mr,sT,cj,aY];simp
theorem C2:∀{a:List (List UInt8)},(∀j x y,a[j]? =some x->a[j+1]? =some y->Op.bytesLess x y=true)->rising a=true
 |[],_=>rfl
 |[_],_=>rfl
 |x::y::r,h=>by
  have:=C2 (a:=y::r) (λj u v h1 h2=>h (j+1) u v (by simpa using h1) (by simpa using h2));show(Op.bytesLess x y&&rising (y::r))=true;rw[h 0 x y (by simp) (by simp),this];rfl
theorem Kj (a:List (List UInt8)) (ha:a.length<9223372036854775807) (hs:∀s∈a,s.length<9223372036854775807):ag ((f196 Pf) a) (λr=>r=true->(∀s∈a,ek s=true)/\rising a=true):=by
 rw[Rw,ru];refine kS (L:=λi=>(lS Pf) a i) (len:=a.length) (λi=>(∀j s,j<i->a[j]? =some s->ek s=true)/\∀j x y,j+1<i->a[j]? =some x->a[j+1]? =some y->Op.bytesLess x y=true) (λi hi hI k=>?_) (λhI=>?_) 0 (by omega) ⟨λj s hj=>by omega,λj x y hj=>by omega⟩
 ·show ag ((lS Pf) a i) _;obtain⟨x,hx⟩:=bh hi;rw[Ac,pf,cj,aY];have:decide (i<a.length)=true:=by simpa using hi
  rw[this,aV,bj hx,aw,zO x (hs x (bw hx)),aw,bP i (by omega)];refine ag.bif (λ_=>ag.ret λe=>by cases e) (λh1=>?_);have nv:∀j s,j<i+1->a[j]? =some s->ek s=true:=λj s hj h=>by
   rcases iQ.1 hj with h5|rfl
   ·exact hI.1 j s h5 h
   ·rw[hx]at h;cases h;simpa using h1
  refine ag.bif (λh2=>?_) (λh2=>k ⟨nv,λj u v hj=>by simp at h2;omega⟩);have h2:0<i:=by simp at h2;omega
  obtain⟨w,hw⟩:=bh (l:=a) (i:=i-1) (by omega);have e:IntKind.i64.wrap ((i:Int)-1)=((i-1:Nat):Int):=by rw[wrap64 (by omega) (by omega)];omega
  rw[e,bj hw,aw,aw];refine ag.bif (λ_=>ag.ret λe=>by cases e) (λh3=>k ⟨nv,λj u v hj h4 h5=>?_⟩);by_cases h6:j+1<i
  ·exact hI.2 j u v h6 h4 h5
  ·have h7:j+1=i:=by omega
   rw[h7,hx]at h5;cases h5;rw[show j=i-1 by omega,hw]at h4;cases h4;simpa using h3
 ·show ag ((lS Pf) a a.length) _;rw[Ac,pf,cj,aY];have:decide (a.length<a.length)=false:=by simp
  rw[this,bp];refine ag.ret λ_=>⟨λs h=>?_,C2 λj x y h1 h2=>hI.2 j x y (cr.1 h2).1 h1 h2⟩;obtain⟨j,hj⟩:=gr h;exact hI.1 j s (cr.1 hj).1 hj
theorem VZ (l:ah):ag ((f153 Pf) l) (λr=>r=true->eV l):=by
 rw[Rv,uD];simp only[cj,ah.aD,aU.aD]
 repeat' (first|refine ag.bif (λ_=>?_) (λ_=>?_)|refine ag.ret (λhr=>?_))
 all_goals (first|(exfalso;revert hr;decide)|(simp at*;simp[eV, *];done)|(simp at*;simp[eV, *];omega)|skip)
 all_goals
  have hn:l.Names≠[]:=λe=>by simp[e]at*
  simp at*
  simp[eV, *]
  try omega
theorem CM:∀(n:Nat) (l:ah),SizeOf.sizeOf l<=n->ag ((f155 Pf) l) (λr=>r=true->kP l)
 |0,l,h=>by cases l;simp only[ah.mk.sizeOf_spec]at h;omega
 |n+1,l,h=>by
  rw[GP,rA,ah.aD];refine ag.bif (λh1=>ag.ret λ_=> .one (.inl (by simpa using h1))) (λ_=>?_);refine ag.bif (λh1=>ag.ret λ_=> .one (.inr (.inl (by simpa using h1)))) (λ_=>?_);refine ag.bif (λh1=>ag.ret λ_=> .one (.inr (.inr (by simpa using h1)))) (λ_=>?_);refine ag.bif (λh7=>?_) (λ_=>ag.ret λh=>by cases h);refine ag.bif (λh2=>?_) (λ_=>ag.ret λh=>by cases h);have h2:l.ax.length=2:=by simp at h2;omega
  obtain⟨p,q,e⟩:∃p q,l.ax=[p,q]:=by
   match hp:l.ax,h2 with
   |[p,q],_=>exact⟨p,q,rfl⟩
  have hp:SizeOf.sizeOf p<SizeOf.sizeOf l:=zN (by rw[e];simp);have hq:SizeOf.sizeOf q<SizeOf.sizeOf l:=zN (by rw[e];simp);have e0:au l.ax 0=some p:=by rw[e];rfl
  have e1:au l.ax 1=some q:=by rw[e];rfl
  rw[e0,e1];simp only[aw];refine ag.bind (CM n p (by omega)) (λy hy=>?_);refine ag.bif (λhb=>?_) (λ_=>ag.ret λh=>by cases h);refine ag.bind (CM n q (by omega)) (λz hz=>ag.ret λh=> .lex (by simpa using h7) e (hy hb) (hz h))
section
variable {B:Nat} (hB:B<1099511627776)
include hB
theorem V0 {l:ah} (hl:l.ok B) (hsh:eV l):ag ((f154 Pf) l) (λr=>r=true->na l):=by
 rw[Rx,uE];rw[ah.c8]at hl;obtain⟨_,_,_,⟨hn,hnn⟩,_,⟨hr,hrr⟩⟩:=hl;refine ag.bif (λh6=>?_) (λh6=>?_)
 ·have h6:l.Kind=6:=by simpa using h6
  have hru:l.aZ=[]:=by simp[eV,h6]at hsh;exact hsh.2.2.1
  refine kS (L:=λi=>(mO Pf) l i) (len:=l.Names.length) (λi=>(∀j s,j<i->l.Names[j]? =some s->ek s=true)/\∀j s,j<i->l.Names[j]? =some s->((l.Names.take j).any λy=>s==y)=false) (λi hi hI k=>?_) (λhI=>?_) 0 (by omega) ⟨λj s hj=>by omega,λj s hj=>by omega⟩
  ·show ag ((mO Pf) l i) _;obtain⟨x,hx⟩:=bh hi;have hxl:=hnn x (bw hx);rw[Ad,pg,cj,aY];have:decide (i<l.Names.length)=true:=by simpa using hi
   rw[this,aV,bj hx,aw,zO x (by omega),aw,bP i (by omega),tc (by omega),aw,aw,tZ _ _ (by rw[gT];omega),aw];refine ag.bif (λ_=>ag.ret λe=>by cases e) (λh1=>?_);refine ag.bif (λ_=>ag.ret λe=>by cases e) (λh2=>k ⟨λj s hj h=>?_,λj s hj h=>?_⟩)
   all_goals rcases iQ.1 hj with h5|rfl
   ·exact hI.1 j s h5 h
   ·rw[hx]at h;cases h;simpa using h1
   ·exact hI.2 j s h5 h
   ·rw[hx]at h;cases h;exact h2
  ·show ag ((mO Pf) l l.Names.length) _;rw[Ad,pg,cj,aY];have:decide (l.Names.length<l.Names.length)=false:=by simp
   rw[this,bp];refine ag.ret λ_=>⟨λs h=>?_,λe=>absurd h6 e,λ_ i s h=>hI.2 i s (cr.1 h).1 h,by rw[hru];simp⟩;obtain⟨j,hj⟩:=gr h;exact hI.1 j s (cr.1 hj).1 hj
 ·have h6:l.Kind≠6:=by simpa using h6
  refine ag.bind (Kj l.Names (by omega) (λs h=>by have:=hnn s h;omega)) (λy14 h14=>ag.bif (λ_=>ag.ret λe=>by cases e) (λe14=>?_));obtain⟨nv,ri⟩:=h14 (by simpa using e14);refine eg (L:=λi s=>(mQ Pf) l y14 s i) (len:=l.aZ.length) (λi _=>∀j x,j<i->l.aZ[j]? =some x->um l.Names x) (λi s hi hI k=>?_) (λs hI=>?_) 0 false (by omega) (λj x hj=>by omega)
  ·show ag ((mQ Pf) l y14 s i) _;obtain⟨x,hx⟩:=bh hi;have hxo:=hrr x (bw hx);rw[Af,pj,aU.aD,aY];have:decide (i<l.aZ.length)=true:=by simpa using hi
   rw[this,aV,bj hx,aw,cj];refine ag.bif (λ_=>ag.ret λe=>by cases e) (λh1=>?_);refine ag.bind (Kj x.If (by have:=hxo.1.1;omega) (λs h=>by have:=hxo.1.2 s h;omega)) (λy22 h22=>ag.bif (λ_=>ag.ret λe=>by cases e) (λI4=>?_));have h22:=h22 (by simpa using I4);rw[tZ _ _ (by omega),aw];refine ag.bif (λ_=>ag.ret λe=>by cases e) (λe24=>?_);have e24:(l.Names.any λy=>x.eP==y)=true:=by simpa only[r6]using e24
   refine eg (L:=λi2 s2=>(mP Pf) l y14 s (i:Int) x y22 (l.Names.any λy=>x.eP==y) s2 i2) (len:=x.If.length) (λi2 _=>∀j z,j<i2->x.If[j]? =some z->(l.Names.any λy=>z==y)=true) (λi2 s2 hi2 hI2 k2=>?_) (λs2 hI2=>?_) 0 s (by omega) (λj x hj=>by omega)
   ·show ag ((mP Pf) l y14 s (i:Int) x y22 (l.Names.any λy=>x.eP==y) s2 i2) _;obtain⟨z,hz⟩:=bh hi2;rw[Ae,ph,cj,aY];have:decide (i2<x.If.length)=true:=by simpa using hi2
    rw[this,aV,bj hz,aw,tZ _ _ (by omega),aw,bP i2 (by have:=hxo.1.1;omega)];refine ag.bif (λ_=>ag.ret λe=>by cases e) (λh3=>k2 s2 λj u hj hu=>?_);rcases iQ.1 hj with h5|rfl
    ·exact hI2 j u h5 hu
    ·rw[hz]at hu;cases hu;simpa only[r6]using h3
   ·show ag ((mP Pf) l y14 s (i:Int) x y22 (l.Names.any λy=>x.eP==y) s2 x.If.length) _;rw[Ae,ph,cj,aY];have:decide (x.If.length<x.If.length)=false:=by simp
    rw[this,bp,bP i (by omega)];refine k s2 λj u hj hu=>?_;rcases iQ.1 hj with h5|rfl
    ·exact hI j u h5 hu
    ·rw[hx]at hu;cases hu;refine⟨λe=>by rw[e]at h1;simp at h1,h22.2,iA.2 λz hz=>?_,e24⟩;obtain⟨q,hq⟩:=gr hz;exact hI2 q z (cr.1 hq).1 hq
  ·show ag ((mQ Pf) l y14 s l.aZ.length) _;rw[Af,pj,aU.aD,aY];have:decide (l.aZ.length<l.aZ.length)=false:=by simp
   rw[this,bp];refine ag.ret λ_=>⟨nv,λ_=>ri,λe=>absurd e h6,λr h=>?_⟩;obtain⟨j,hj⟩:=gr h;exact hI j r (cr.1 hj).1 hj
theorem WY {l:ah} (hl:l.ok B) (d b:Int):ag ((f90 Pf) l d b) (λr=>r=0->d<=6/\b<64/\eV l/\mm l/\na l/\(-1000000000<=l.Lo/\l.Lo<=l.Hi/\l.Hi<=1000000000)/\(l.Kind=7->∃p,l.ax[0]? =some p/\kP p)):=by
 rw[TR,uU];simp only[cj,aU.aD];have six:∀{o:Option Int} {Q:Int->Prop},ag o Q->ag o Q:=λh=>h;refine ag.bif (λk6=>?_) (λk6=>ag.bif (λk10=>?_) (λk10=>?_))
 all_goals
  refine ag.bif (λ_=>ag.ret λe=>by cases e) (λh1=>ag.bif (λ_=>ag.ret λe=>by cases e) (λh2=>?_));refine ag.bind (VZ l) (λy4 h4=>ag.bif (λ_=>ag.ret λe=>by cases e) (λe4=>?_));have h4:=h4 (by simpa using e4);refine ag.bif (λ_=>ag.ret λe=>by cases e) (λh5=>ag.bif (λ_=>ag.ret λe=>by cases e) (λh6=>?_));refine ag.bind (V0 hB hl h4) (λy8 h8=>ag.bif (λ_=>ag.ret λe=>by cases e) (λe8=>?_));have h8:=h8 (by simpa using e8);refine ag.bif (λ_=>ag.ret λe=>by cases e) (λh9=>ag.bif (λ_=>ag.ret λe=>by cases e) (λh10=>ag.bif (λ_=>ag.ret λe=>by cases e) (λh11=>?_)));have hr: -1000000000<=l.Lo/\l.Lo<=l.Hi/\l.Hi<=1000000000:=by simp at h9 h10 h11;omega
  have h12:d<=6/\b<64:=by simp at h1 h2;omega
 ·have k:l.Kind=6:=by simpa using k6
  exact ag.ret λ_=>⟨h12.1,h12.2,h4,by simp[mm,k];simp at h5 h6;omega,h8,hr,λe=>by rw[k]at e;cases e⟩
 ·have k:l.Kind=10:=by simpa using k10
  exact ag.ret λ_=>⟨h12.1,h12.2,h4,by simp[mm,k];simp at h5 h6;omega,h8,hr,λe=>by rw[k]at e;cases e⟩
 ·have k1:l.Kind≠6:=by simpa using k6
  have k2:l.Kind≠10:=by simpa using k10
  have lim:mm l:=by simp[mm,k1,k2];simp at h5 h6;omega
  refine ag.bif (λh7=>?_) (λh7=>ag.ret λ_=>⟨h12.1,h12.2,h4,lim,h8,hr,λe=>by rw[e]at h7;cases h7⟩);have h7:l.Kind=7:=by simpa using h7
  have h2:l.ax.length=2:=by simp[eV,h7]at h4;exact h4.1
  obtain⟨p,hp⟩:=bh (l:=l.ax) (i:=0) (by omega);have e0:au l.ax 0=some p:=hp;rw[e0,aw];refine ag.bind (CM _ p (bQ _)) (λy hy=>ag.bif (λ_=>ag.ret λe=>by cases e) (λey=>ag.ret λ_=>⟨h12.1,h12.2,h4,lim,h8,hr,λ_=>⟨p,hp,hy (by simpa using ey)⟩⟩))
theorem LD:∀(n:Nat) (l:ah) (d b:Int),l.ok B->0<=b->b<=64->(6-d+1).toNat<=n->d<=7->0<=d->ag ((f46 Pf) l d b) (λr=>0<=r.1/\r.1<=64/\(r.2=0->ln l/\r.1=b+jj l/\d+iK l<=7))
 |n,l,d,b,hl,h0,h1,hn,hd,hd0=>by
  rw[TU,uV];refine ag.bind (WY hB hl d b) (λy1 hy1=>ag.bif (λhne=>ag.ret ⟨h0,h1,λe=>by simp at hne;exact absurd e hne⟩) (λe1=>?_));obtain⟨h6,h64,hs,hli,hna,hra,hch⟩:=hy1 (by simpa using e1)
  match n,hn with
  |0,hn=>omega
  |n+1,hn=>
  have hw:IntKind.i64.wrap (b+1)=b+1:=wrap64 (by omega) (by omega);have hwd:IntKind.i64.wrap (d+1)=d+1:=wrap64 (by omega) (by omega);rw[hw];have hl':=hl;rw[ah.c8]at hl';obtain⟨_,_,_,_,⟨hpl,hp⟩,_⟩:=hl';refine eg (L:=λi s=>(mW Pf) l d s i) (len:=l.ax.length) (λi s=>0<=s/\s<=64/\s=b+1+eX (l.ax.take i)/\∀j p,j<i->l.ax[j]? =some p->ln p/\d+1+iK p<=7) (λi s hi hI k=>?_) (λs hI=>?_) 0 (b+1) (by omega) ⟨by omega,by omega,by simp[eX],λj p hj=>by omega⟩
  ·show ag ((mW Pf) l d s i) _;obtain⟨x,hx⟩:=bh hi;rw[AB,pD,ah.aD,aY];have:decide (i<l.ax.length)=true:=by simpa using hi
   rw[this,aV,bj hx,aw,bP i (by omega),hwd];refine ag.bind (LD n x (d+1) s (ah.iS hp (bw hx)) hI.1 hI.2.1 (by omega) (by omega) (by omega)) (λy hy=>?_);refine ag.bif (λhne=>ag.ret ⟨hI.1,hI.2.1,λe=>by simp at hne;exact absurd e hne⟩) (λhz=>?_);have hy3:=hy.2.2 (by simpa using hz);refine k _ ⟨hy.1,hy.2.1,by rw[yM hx];have:=hI.2.2.1;omega,λj p hj hp'=>?_⟩;rcases iQ.1 hj with h5|rfl
   ·exact hI.2.2.2 j p h5 hp'
   ·rw[hx]at hp';cases hp';exact⟨hy3.1,hy3.2.2⟩
  ·show ag ((mW Pf) l d s l.ax.length) _;rw[AB,pD,ah.aD,aY];have:decide (l.ax.length<l.ax.length)=false:=by simp
   rw[this,bp];have all:∀p∈l.ax,ln p/\d+1+iK p<=7:=λp hp'=>by
    obtain⟨j,hj⟩:=gr hp';exact hI.2.2.2 j p (cr.1 hj).1 hj
   refine ag.ret ⟨hI.1,hI.2.1,λ_=>⟨.mk hs hli hna hra hch λp hp'=>(all p hp').1,?_,?_⟩⟩
   ·show s=_;rw[te];have:=hI.2.2.1;rw[jW]at this;omega
   ·rw[qL];have:l9 l.ax<=(6-d).toNat:=Dw λp hp'=>by have:=(all p hp').2;omega
    omega
theorem VY {l:ah} (hl:l.ok B):ag ((f15 Pf) l) (λr=>r=0->dw l):=by
 rw[TV,uW];exact ag.bind (LD hB 7 l 1 0 hl (by simp) (by simp) (by decide) (by decide) (by decide)) (λy hy=>ag.ret λe=>by
  obtain⟨h1,h2,h3⟩:=hy.2.2 e;have h4:=hy.2.1;exact⟨h1,by omega,by omega⟩)
end
structure adv (t:bG):Prop where
 kind:1<=t.Kind/\t.Kind<=5
 num:t.Kind=3->0<=t.N/\t.N<=1000000000000000
 nv:(t.Kind=1\/t.Kind=4)->NV t.Text
theorem adL {D:Type} {l:List D} {a b:Nat} (h:a<=b) (g:b<=l.length):iV l (a:Int) (b:Int)=some ((l.take b).drop a):=by
 show(bif Nat.ble a b&&Nat.ble b l.length then some ((l.take b).drop a)else none)=_;rw[B9 h,B9 g];rfl
theorem WU (c:UInt8):(Bt Pu) (c.toNat:Int)=some (jk c):=by
 rw[adf,w8];unfold jk;have h0:∀n:Nat,(decide ((n:Int)>=97)=decide (97<=n))/\(decide ((n:Int)<=122)=decide (n<=122))/\(decide ((n:Int)>=48)=decide (48<=n))/\(decide ((n:Int)<=57)=decide (n<=57))/\(((n:Int)==45)=(n==45)):=λn=>by
  refine⟨?_,?_,?_,?_,?_⟩<;>(rw[gu];simp only[lB,beq_iff_eq];omega)
 obtain⟨h1,h2,h3,h4,h5⟩:=h0 c.toNat;rw[h1,h2,h3,h4,h5];cases decide (97<=c.toNat)<;>cases decide (c.toNat<=122)<;>cases decide (48<=c.toNat)<;>cases decide (c.toNat<=57)<;>rfl
def adK (c:UInt8):Bool:=decide (97<=c.toNat)&&decide (c.toNat<=122)
def ad3 (c:UInt8):Bool:=decide (48<=c.toNat)&&decide (c.toNat<=57)
theorem afo (c:UInt8):(HZ Pu) (c.toNat:Int)=some (adK c):=by
 rw[agW,G6,show decide ((c.toNat:Int)>=97)=decide (97<=c.toNat)by(rw[gu];simp only[lB];omega),show decide ((c.toNat:Int)<=122)=decide (c.toNat<=122)by(rw[gu];simp only[lB];omega),adK];cases decide (97<=c.toNat)<;>rfl
theorem aer (c:UInt8):(Bs Pu) (c.toNat:Int)=some (ad3 c):=by
 rw[agX,G7,show decide ((c.toNat:Int)>=48)=decide (48<=c.toNat)by(rw[gu];simp only[lB];omega),show decide ((c.toNat:Int)<=57)=decide (c.toNat<=57)by(rw[gu];simp only[lB];omega),ad3];cases decide (48<=c.toNat)<;>rfl
theorem agc (c:UInt8):(Ss Pu) (c.toNat:Int)=some (jk c):=by
 rw[agY,G8,afo,aw,aer,aw];have h5:((c.toNat:Int)==45)=(c.toNat==45):=by rw[gu];simp only[beq_iff_eq];omega
 rw[h5,adK,ad3,jk];cases decide (97<=c.toNat)<;>cases decide (c.toNat<=122)<;>cases decide (48<=c.toNat)<;>cases decide (c.toNat<=57)<;>rfl
theorem afR (c:Int):ag ((Sq Pu) c) (λr=>r=true->c≠35):=by
 rw[agU,G5]
 repeat' (first|refine ag.bif (λh=>?_) (λh=>?_)|refine ag.ret (λhr=>?_))
 all_goals (simp at*;omega)
theorem sF (s:List UInt8) (hs:s.length<9223372036854775807):(p7 Pu) s=some (ek s):=by
 rw[e58,xB];cases s with
 |nil=>rfl
 |cons c r=>
  have hL:(wj Pu) (c::r) 0=some ((c::r).all jk&&true):=by
   refine Av jk true (λi x hx hi=>?_) ?_
   ·rw[O9,tV,aY];have:decide (i<(c::r).length)=true:=by simpa using hi
    rw[this,aV,bj hx,aw,WU,aw,bP i (by omega)];cases jk x<;>rfl
   ·rw[O9,tV,aY];have:decide ((c::r).length<(c::r).length)=false:=by simp
    rw[this];rfl
  have hi:au (c::r:List UInt8) 0=some c:=rfl;have h0:decide ((((c::r).length:Nat):Int)<1)=false:=by simp;omega
  have h1:decide ((((c::r).length:Nat):Int)>16)= !decide ((c::r).length<=16):=by rw[gu];simp;omega
  have h2:decide (((c.toNat:Nat):Int)<97)= !decide (97<=c.toNat):=by rw[gu];simp;omega
  have h3:decide (((c.toNat:Nat):Int)>122)= !decide (c.toNat<=122):=by rw[gu];simp;omega
  rw[hi,hL,h0,h1];simp only[aw,rZ];rw[h2,h3];unfold ek;simp only;cases decide ((c::r).length<=16)<;>cases decide (97<=c.toNat)<;>cases decide (c.toNat<=122)<;>rfl
section
variable {a:List UInt8} (ha:a.length<=65536)
include ha
theorem af2 {k:Nat} (hk:k<=a.length):ag ((Sr Pu) a (k:Int)) (λr=>∃j:Nat,r=(j:Int)/\k<=j/\j<=a.length):=by
 rw[agV,Bm]
 let Q:Nat->Int->Prop:=λi r=>∃j:Nat,r=(j:Int)/\i<=j/\j<=a.length
 have up:∀(o:Option Int) (i:Nat),ag o (Q (i+1))->ag o (Q i):=λo i h=>h.mono λr ⟨j,h1,h2,h3⟩=>⟨j,h1,by omega,h3⟩;have key:∀m i:Nat,a.length=i+m->ag ((pv Pu) a (k:Int) (i:Int)) (Q i)/\(∀(s1:Int) (x3:UInt8) (y5:Bool) (x7:UInt8),ag ((DX Pu) a (k:Int) s1 x3 y5 x7 (i:Int)) (Q i))/\∀(s1:Int) (x3:UInt8) (y5:Bool) (x15 x18:UInt8),ag ((DZ Pu) a (k:Int) s1 x3 y5 x15 x18 (i:Int)) (Q i):=by
  intro m
  induction m with
  |zero=>
   intro i hi;have no:decide ((i:Int)<(a.length:Int))=false:=by simp;omega
   have h1:ag ((pv Pu) a (k:Int) (i:Int)) (Q i):=by
    rw[ae5,DW,no,bp];exact ag.ret ⟨i,rfl,bQ _,by omega⟩
   refine⟨h1,λs1 x3 y5 x7=>?_,λs1 x3 y5 x15 x18=>?_⟩
   ·rw[ae4,DY,no,bp];exact h1
   ·rw[aeo,D0,no,bp];exact h1
  |succ m im=>
   intro i hi;obtain⟨g1,g2,g3⟩:=im (i+1) (by omega);have yes:decide ((i:Int)<(a.length:Int))=true:=by simp;omega
   obtain⟨c,hc⟩:=bh (l:=a) (i:=i) (by omega);have h1:ag ((pv Pu) a (k:Int) (i:Int)) (Q i):=by
    rw[ae5,DW,yes,aV,bj hc,aw,bP i (by omega)];refine ag.bind (afR _) (λb hb=>?_);refine ag.bif (λh=>?_) (λ_=>?_)
    ·refine ag.aB rfl (ag.bif (λ_=>up _ _ g1) (λh35=>?_));exact absurd (by simpa using h35) (hb h)
    ·refine ag.aB rfl (ag.bif (λh35=>?_) (λ_=>ag.ret ⟨i,rfl,bQ _,by omega⟩));refine ag.aB rfl (ag.bif (λ_=>up _ _ g1) (λ_=>?_));have h35:(c.toNat:Int)=35:=by simpa using h35
     rw[aeo,D0,yes,aV,bj hc,aw,bP i (by omega),h35];exact up _ _ (g3 _ _ _ _ _)
   refine⟨h1,λs1 x3 y5 x7=>?_,λs1 x3 y5 x15 x18=>?_⟩
   ·rw[ae4,DY,yes,aV,bj hc,aw,bP i (by omega)];exact ag.bif (λ_=>up _ _ (g2 _ _ _ _)) (λ_=>h1)
   ·rw[aeo,D0,yes,aV,bj hc,aw,bP i (by omega)];exact ag.bif (λ_=>up _ _ (g3 _ _ _ _ _)) (λ_=>h1)
 exact(key (a.length-k) k (by omega)).1
theorem aeP {k:Nat} (hk:k<=a.length):ag ((H0 Pu) a (k:Int)) (λr=>∃j:Nat,r=(j:Int)/\k<=j/\j<=a.length/\(∀i c,k<=i->i<j->a[i]? =some c->jk c=true)/\∀c,a[j]? =some c->jk c=false):=by
 rw[agZ,Bn];refine kS (L:=λi=>(D1 Pu) a i) (len:=a.length) (λi=>k<=i/\∀j c,k<=j->j<i->a[j]? =some c->jk c=true) (λi hi hI kk=>?_) (λhI=>?_) k hk ⟨bQ _,λj c h1 h2=>by omega⟩
 ·show ag ((D1 Pu) a (i:Int)) _;obtain⟨c,hc⟩:=bh hi;rw[ae6,D2,aY];have:decide (i<a.length)=true:=by simpa using hi
  rw[this,aV,bj hc,aw,agc,aw,bP i (by omega)];refine ag.bif (λh=>kk ⟨by omega,λj d h1 h2 h3=>?_⟩) (λh=>ag.ret ⟨i,rfl,hI.1,by omega,hI.2,λd hd=>?_⟩)
  ·by_cases e:j=i
   ·subst e;rw[hc]at h3;cases h3;exact h
   ·exact hI.2 j d h1 (by omega) h3
  ·rw[hc]at hd;cases hd;exact h
 ·show ag ((D1 Pu) a (a.length:Int)) _;rw[ae6,D2,aY];have:decide (a.length<a.length)=false:=by simp
  rw[this,bp];exact ag.ret ⟨a.length,rfl,hI.1,bQ _,hI.2,λc hc=>by simp at hc⟩
def TkP (a:List UInt8) (k:Nat) (r:bG×Int×aM):Prop:=r.2.2.Code=0->adv r.1/\∃j:Nat,r.2.1=(j:Int)/\k<j/\j<=a.length
theorem k5 {k:Nat} (e x:Int) (he:e≠0:=by decide):ag (((jh Pu) e x).bind λy=>some y) (TkP a k):=by
 rw[agT,G4];exact ag.ret λh=>absurd h he
theorem afG {k:Nat} {c:UInt8} (hc:a[k]? =some c) (hd:ad3 c=true):ag ((Sx Pu) a (k:Int)) (TkP a k):=by
 have hk:k<a.length:=(cr.1 hc).1;rw[ag3,Bp];have fin:∀(i:Nat) (s:Int),k<i->i<=a.length->0<=s->ag ((au a (k:Int)).bind λx11=>(bif (x11.toNat:Int)==48 then(bif decide (IntKind.i64.wrap ((i:Int)-(k:Int))>1)then(((jh Pu) 2 (k:Int)).bind λy15=>(some (y15)))else(bif decide (s>1000000000000000)then(((jh Pu) 5 (k:Int)).bind λy17=>(some (y17)))else(some (({Kind:=3,Text:=[],N:=s,At:=(k:Int):bG},(i:Int),{Code:=0,At:=0:aM})))))else(bif decide (s>1000000000000000)then(((jh Pu) 5 (k:Int)).bind λy19=>(some (y19)))else(some (({Kind:=3,Text:=[],N:=s,At:=(k:Int):bG},(i:Int),{Code:=0,At:=0:aM})))))) (TkP a k):=by
  intro i s h1 h2 h3;have ok:s<=1000000000000000->ag (some (({Kind:=3,Text:=[],N:=s,At:=(k:Int):bG},(i:Int),{Code:=0,At:=0:aM}))) (TkP a k):=λh=>ag.ret λ_=>⟨⟨by simp,λ_=>⟨h3,h⟩,λe=>by simp at e⟩,i,rfl,h1,h2⟩;rw[bj hc,aw];refine ag.bif (λ_=>ag.bif (λ_=>k5 ha _ _) (λ_=>ag.bif (λ_=>k5 ha _ _) (λh=>ok (by simpa using h)))) (λ_=>ag.bif (λ_=>k5 ha _ _) (λh=>ok (by simpa using h)))
 refine eg (L:=λi s=>(Aq Pu) a (k:Int) i s) (len:=a.length) (λi s=>(k<i\/i=k)/\0<=s/\s<=10000000000000009) (λi s hi hI kk=>?_) (λs hI=>?_) k 0 (by omega) ⟨.inr rfl,by omega,by omega⟩
 ·show ag ((Aq Pu) a (k:Int) (i:Int) s) _;obtain⟨x,hx⟩:=bh hi;rw[ae8,D5,aY];have:decide (i<a.length)=true:=by simpa using hi
  rw[this,aV,bj hx,aw,aer,aw,bP i (by omega),aw];refine ag.bif (λh=>ag.bif (λhs=>?_) (λ_=>kk _ ⟨.inl (by omega),hI.2⟩)) (λh=>?_)
  ·simp only[ad3,bL,lB]at h hs;have e1:IntKind.u8.wrap ((x.toNat:Int)-48)=(x.toNat:Int)-48:=by
    simp[IntKind.wrap,IntKind.bits,IntKind.signed];omega
   rw[e1,wrap64 (x:=(x.toNat:Int)-48) (by omega) (by omega),wrap64 (x:=10*s) (by omega) (by omega),wrap64 (by omega) (by omega)];exact kk _ ⟨.inl (by omega),by omega,by omega⟩
  ·refine fin i s ?_ (by omega) hI.2.1;rcases hI.1 with h1|h1
   ·exact h1
   ·subst h1;rw[hc]at hx;cases hx;rw[hd]at h;cases h
 ·show ag ((Aq Pu) a (k:Int) (a.length:Int) s) _;rw[ae8,D5,aY];have:decide (a.length<a.length)=false:=by simp
  rw[this,bp];exact fin a.length s (by omega) (bQ _) hI.2.1
omit ha in
theorem agd {a:List UInt8} {k j:Nat} {c:UInt8} (hj:j<=a.length) (hk:k<j) (h16:j-k<=16) (hc:a[k]? =some c) (hl:adK c=true) (hall:∀i c,k<=i->i<j->a[i]? =some c->jk c=true):NV ((a.take j).drop k):=by
 have hlen:((a.take j).drop k).length=j-k:=by rw[Ul,gT];omega
 refine⟨by omega,⟨c,by rw[u6,Cj (by omega)];exact hc,?_⟩,λx hx=>?_⟩
 ·simpa[adK]using hl
 ·obtain⟨i,hi⟩:=gr hx;have hi':=(cr.1 hi).1;rw[u6,Cj (by omega)]at hi;exact hall (k+i) x (by omega) (by omega) hi
theorem afH (s:List UInt8):ag ((Sw Pu) s) (λ_=>True):=by
 rw[ag2,Ha,ag0,G',aw];refine ag.bind (P:=λ_=>True) ?_ (λ_ _=>ag.ret trivial);rw[ag1,Bo];generalize hl:([_,_,_,_,_,_,_,_,_,_,_,_,_,_,_,_,_,_,_,_,_,_,_,_,_,_,_,_,_,_,_,_,_,_,_,_,_,_,_,_,_,_,_,_]:List (List UInt8))=l;have hlen:l.length=44:=by rw[<-hl];rfl
 clear hl;refine kS (L:=λi=>(D3 Pu) l s i) (len:=l.length) (λ_=>True) (λi hi _ kk=>?_) (λ_=>?_) 0 (by omega) trivial
 ·show ag ((D3 Pu) l s (i:Int)) _;obtain⟨x,hx⟩:=bh hi;rw[ae7,D4,cj,aY];have:decide (i<l.length)=true:=by simpa using hi
  rw[this,aV,bj hx,aw,bP i (by omega)];exact ag.bif (λ_=>ag.ret trivial) (λ_=>kk trivial)
 ·show ag ((D3 Pu) l s (l.length:Int)) _;rw[ae7,D4,cj,aY];have:decide (l.length<l.length)=false:=by simp
  rw[this];exact ag.ret trivial
theorem afS {k:Nat} (hk:k<a.length):ag ((Sz Pu) a (k:Int)) (TkP a k):=by
 rw[ag5,Hc];obtain⟨c,hc⟩:=bh hk;rw[bj hc,aw,afo,aw];refine ag.bif (λhl=>?_) (λ_=>?_)
 ·refine ag.bind (aeP ha (Nat.le_of_lt hk)) (λr hr=>?_);obtain⟨j,rfl,h1,h2,h3,h4⟩:=hr;have hkj:k<j:=by
   rcases mz k j with h|h
   ·exact h
   ·have:j=k:=by omega
    subst this;have:=h4 c hc;simp[adK]at hl;simp[jk,hl]at this
  rw[wrap64 (by omega) (by omega),adL h1 h2];refine ag.bif (λ_=>k5 ha _ _) (λh16=>?_);have h16:j-k<=16:=by simp at h16;omega
  refine ag.aB rfl (ag.bind (afH ha _) (λb _=>?_));refine ag.bif (λ_=>ag.aB rfl (ag.ret λ_=>⟨⟨by simp,λe=>by simp at e,λe=>by simp at e⟩,j,rfl,hkj,h2⟩)) (λ_=>?_);exact ag.aB rfl (ag.ret λ_=>⟨⟨by simp,λe=>by simp at e,λ_=>agd h2 hkj h16 hc hl h3⟩,j,rfl,hkj,h2⟩)
 rw[aer,aw];refine ag.bif (λhd=>?_) (λ_=>?_)
 ·exact ag.bind (afG ha hc hd) (λy hy=>ag.ret hy)
 refine ag.bif (λ_=>?_) (λ_=>?_)
 ·rw[bP k (by omega)];refine ag.bind (aeP ha (by omega:k+1<=a.length)) (λr hr=>?_);obtain⟨j,rfl,h1,h2,h3,h4⟩:=hr;refine ag.bif (λ_=>k5 ha _ _) (λhj=>?_);have hj:j<a.length:=by simp at hj;omega
  obtain⟨x,hx⟩:=bh hj;rw[bj hx,aw,adL h1 h2,bP j (by omega)];refine ag.bif (λ_=>k5 ha _ _) (λ_=>?_);refine ag.aB rfl ?_;rw[sF _ (by rw[Ul,gT];omega),aw];refine ag.bif (λ_=>k5 ha _ _) (λhv=>?_);exact ag.aB rfl (ag.ret λ_=>⟨⟨by simp,λe=>by simp at e,λ_=>Au.1 (by simpa using hv)⟩,j+1,rfl,by omega,by omega⟩)
 rw[ag4,Hb,aw];generalize hl:([_,_,_,_,_,_,_,_,_,_,_,_,_,_,_,_,_]:List (List UInt8))=l;have hlen:l.length=17/\∀x∈l,x.length=1\/x.length=2:=by rw[<-hl];exact⟨rfl,by decide⟩
 clear hl;refine kS (L:=λi=>(Ar Pu) a (k:Int) l i) (len:=l.length) (λ_=>True) (λi hi _ kk=>?_) (λ_=>?_) 0 (by omega) trivial
 ·show ag ((Ar Pu) a (k:Int) l (i:Int)) _;obtain⟨x,hx⟩:=bh hi;have hxl:=hlen.2 x (bw hx);rw[ae9,D6,cj,aY];have:decide (i<l.length)=true:=by simpa using hi
  rw[this,aV,bj hx,aw,bP i (by omega),wrap64 (by omega) (by omega),wrap64 (by omega) (by omega),aw];refine ag.bif (λh=>?_) (λ_=>kk trivial);have h:k+x.length<=a.length:=by simp at h;omega
  have e:(k:Int)+(x.length:Int)=((k+x.length:Nat):Int):=by omega
  rw[e,adL (by omega) h,aw];refine ag.bif (λ_=>?_) (λ_=>kk trivial);exact ag.aB rfl (ag.ret λ_=>⟨⟨by simp,λe=>by simp at e,λe=>by simp at e⟩,k+x.length,rfl,by omega,h⟩)
 ·show ag ((Ar Pu) a (k:Int) l (l.length:Int)) _;rw[ae9,D6,cj,aY];have:decide (l.length<l.length)=false:=by simp
  rw[this];exact k5 ha _ _
def gv (T:List bG):Prop:=∃l e,T=l++[e]/\(∀t∈l,adv t)/\e.Kind=6
theorem agb:ag ((Ue Pu) a) (λr=>r.2.Code=0->gv r.1/\r.1.length<=a.length+1):=by
 rw[e73,BY];have key:∀m i:Nat,a.length=i+m->∀l:List bG,(∀t∈l,adv t)->l.length<=i->ag ((EC Pu) a [] l (i:Int)) (λr=>r.2.Code=0->gv r.1/\r.1.length<=a.length+1):=by
  intro m
  induction m using Nat.strongRecOn with
  |_ m im=>
   intro i hi l hl hli;rw[agh,ED];have happ:∀t:bG,decide ((l++[t]).length<=274877906944)=true:=λt=>by simp;omega
   refine ag.bind (P:=λr=>r.2.2.Code=0->(r.1.Kind=6\/(adv r.1/\∃j:Nat,r.2.1=(j:Int)/\i<j/\j<=a.length))) ?_ (λr hr=>?_)
   ·rw[ag6,Hd];have no1:decide ((a.length:Int)>65536)=false:=by simp;omega
    have no2:decide ((i:Int)<0)=false:=by simp
    have no3:decide ((i:Int)>(a.length:Int))=false:=by simp;omega
    rw[no1,no2,no3,bp,bp,bp];refine ag.bind (af2 ha (by omega:i<=a.length)) (λr hr=>?_);obtain⟨j,rfl,h1,h2⟩:=hr;refine ag.bif (λ_=>ag.ret λ_=> .inl rfl) (λhj=>?_);have hj:j<a.length:=by simp at hj;omega
    refine ag.bind (afS ha hj) (λr hr=>ag.ret λh=> .inr ?_);obtain⟨h3,q,h4,h5,h6⟩:=hr h;exact⟨h3,q,h4,by omega,h6⟩
   ·refine ag.bif (λh=>ag.ret λe=>?_) (λh0=>?_)
    ·rw[e]at h;cases h
    ·rw[happ,aV];refine ag.bif (λh6=>ag.ret λ_=>⟨⟨l,r.1,rfl,hl,by simpa using h6⟩,by simp;omega⟩) (λh6=>?_);rcases hr (by simpa using h0)with h|⟨h1,j,h2,h3,h4⟩
     ·rw[h]at h6;cases h6
     ·rw[h2];refine im (a.length-j) (by omega) j (by omega) _ (λt ht=>?_) (by simp;omega);rcases cJ.1 ht with ht|ht
      ·exact hl t ht
      ·simp at ht;subst ht;exact h1
 exact key a.length 0 (by omega) [] (by simp) (by simp)
