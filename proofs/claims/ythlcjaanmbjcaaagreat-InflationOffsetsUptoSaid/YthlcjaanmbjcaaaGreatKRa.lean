/- When the reference's Check of a lattice answers OK, and that it answers. -/
import Derived.Test.YthlcjaanmbjcaaaGreatKVa1
import Derived.Test.YthlcjaanmbjcaaaGreatKVa9
set_option linter.all false
namespace Go.Proofs.YthlcjaanmbjcaaaGreat
open Go Go.Bw
theorem MJ {D:Type} {a:List D} {L:Int->Option Bool} (p:D->Bool) (hs:∀(i:Nat) x,a[i]? =some x->i<a.length->L (i:Int)=bif p x then some true else L ((i+1:Nat):Int)) (he:L (a.length:Int)=some false):L 0=some (a.any p):=by
 have key:∀k i:Nat,k=a.length-i->i<=a.length->L (i:Int)=some ((a.drop i).any p):=by
  intro k
  induction k with
  |zero=>
   intro i hk hi;have:i=a.length:=by omega
   subst this;rw[he];simp
  |succ k ih=>
   intro i hk hi;have hi':i<a.length:=by omega
   obtain⟨x,hx⟩:=b3 hi';rw[hs i x hx hi',jo hx,List.any_cons];cases p x with
   |true=>rfl
   |false=>simpa using ih (i+1) (by omega) (by omega)
 simpa using key a.length 0 (by omega) (by omega)
theorem Ek (s:List UInt8) (hs:s.length<9223372036854775807):(f89 Pf) s=some (eF s):=by
 rw[PX,qZ];have h0:∀n:Nat,(decide ((n:Int)<97)= !decide (97<=n))/\(decide ((n:Int)>122)= !decide (n<=122))/\(decide ((n:Int)<48)= !decide (48<=n))/\(decide ((n:Int)>57)= !decide (n<=57))/\(((n:Int) !=45)= !(n==45)):=λn=>by
  refine⟨?_,?_,?_,?_,?_⟩<;>(rw[kF];simp only[jc,bne_iff_ne,iA,decide_eq_false_iff_not,beq_eq_false_iff_ne,ne_eq];omega)
 cases s with
 |nil=>rfl
 |cons c r=>
  have hL:(iK Pf) (c::r) 0=some ((c::r).all jE&&true):=by
   refine wO jE true (λi x hx hi=>?_) ?_
   ·rw[FL,nH];have:decide ((i:Int)<(((c::r).length:Nat):Int))=true:=by simp;simp at hi;omega
    obtain⟨h1,h2,h3,h4,h5⟩:=h0 x.toNat;simp only[this,bZ,b0 hx,aP,cI i (by omega),h1,h2,h3,h4,h5];unfold jE;cases decide (97<=x.toNat)<;>cases decide (x.toNat<=122)<;>cases decide (48<=x.toNat)<;>cases decide (x.toNat<=57)<;>cases (x.toNat==45)<;>rfl
   ·rw[FL,nH];have:decide ((((c::r).length:Nat):Int)<(((c::r).length:Nat):Int))=false:=by simp
    rw[this];rfl
  have hi:aq (c::r:List UInt8) 0=some c:=rfl;have e1:decide ((((c::r).length:Nat):Int)<1)=false:=by simp;omega
  have e2:decide ((((c::r).length:Nat):Int)>16)= !decide ((c::r).length<=16):=by rw[kF];simp;omega
  obtain⟨h1,h2,_,_,_⟩:=h0 c.toNat;rw[e1,e2,hi];simp only[aP,cw,h1,h2,hL,eF];cases decide ((c::r).length<=16)<;>cases decide (97<=c.toNat)<;>cases decide (c.toNat<=122)<;>simp
theorem xi (a:List (List UInt8)) (s:List UInt8) (ha:a.length<9223372036854775807):(f90 Pf) a s=some (a.any λy=>s==y):=by
 rw[PY,oQ];refine MJ (L:=λi=>(lV Pf) a s i) (λy=>s==y) (λi x hx hi=>?_) ?_
 ·show(lV Pf) a s i=_;rw[FM,nI,cX,bO];have:decide (i<a.length)=true:=by simpa using hi
  rw[this,bZ,b0 hx,aP,cI i (by omega),BEq.comm]
 ·show(lV Pf) a s a.length=_;rw[FM,nI,cX,bO];simp
theorem DB:∀{a:List (List UInt8)},(∀j x y,a[j]? =some x->a[j+1]? =some y->Op.bytesLess x y=true)->rising a=true
 |[],_=>rfl
 |[_],_=>rfl
 |x::y::r,h=>by
  have:=DB (a:=y::r) (λj u v h1 h2=>h (j+1) u v (by simpa using h1) (by simpa using h2));show(Op.bytesLess x y&&rising (y::r))=true;rw[h 0 x y (by simp) (by simp),this];rfl
theorem Cr (a:List (List UInt8)) (ha:a.length<9223372036854775807) (hs:∀s∈a,s.length<9223372036854775807):ae ((f91 Pf) a) (λr=>r=true->(∀s∈a,eF s=true)/\rising a=true):=by
 rw[PZ,oR];refine kJ (L:=λi=>(kX Pf) a i) (len:=a.length) (λi=>(∀j s,j<i->a[j]? =some s->eF s=true)/\∀j x y,j+1<i->a[j]? =some x->a[j+1]? =some y->Op.bytesLess x y=true) (λi hi hI k=>?_) (λhI=>?_) 0 (by omega) ⟨λj s hj=>by omega,λj x y hj=>by omega⟩
 ·show ae ((kX Pf) a i) _;obtain⟨x,hx⟩:=b3 hi;rw[FN,nJ,cX,bO];have:decide (i<a.length)=true:=by simpa using hi
  rw[this,bZ,b0 hx,aP,Ek x (hs x (bV hx)),aP,cI i (by omega)];refine ae.bif (λ_=>ae.ret λe=>by cases e) (λh1=>?_);have nv:∀j s,j<i+1->a[j]? =some s->eF s=true:=λj s hj h=>by
   rcases jK.1 hj with h5|rfl
   ·exact hI.1 j s h5 h
   ·rw[hx]at h;cases h;simpa using h1
  refine ae.bif (λh2=>?_) (λh2=>k ⟨nv,λj u v hj=>by simp at h2;omega⟩);have h2:0<i:=by simp at h2;omega
  obtain⟨w,hw⟩:=b3 (l:=a) (i:=i-1) (by omega);have e:IntKind.i64.wrap ((i:Int)-1)=((i-1:Nat):Int):=by rw[wrap64 (by omega) (by omega)];omega
  rw[e,b0 hw,aP,aP];refine ae.bif (λ_=>ae.ret λe=>by cases e) (λh3=>k ⟨nv,λj u v hj h4 h5=>?_⟩);by_cases h6:j+1<i
  ·exact hI.2 j u v h6 h4 h5
  ·have h7:j+1=i:=by omega
   rw[h7,hx]at h5;cases h5;rw[show j=i-1 by omega,hw]at h4;cases h4;simpa using h3
 ·show ae ((kX Pf) a a.length) _;rw[FN,nJ,cX,bO];have:decide (a.length<a.length)=false:=by simp
  rw[this,cw];refine ae.ret λ_=>⟨λs h=>?_,DB λj x y h1 h2=>hI.2 j x y (cT.1 h2).1 h1 h2⟩;obtain⟨j,hj⟩:=gA h;exact hI.1 j s (cT.1 hj).1 hj
theorem KU (l:af):ae ((f59 Pf) l) (λr=>r=true->ed l):=by
 rw[P0,q0];simp only[cX,af.a8,aK.a8]
 repeat' (first|refine ae.bif (λ_=>?_) (λ_=>?_)|refine ae.ret (λhr=>?_))
 all_goals (first|(exfalso;revert hr;decide)|(simp at*;simp[ed, *];done)|(simp at*;simp[ed, *];omega)|skip)
 all_goals
  have hn:l.Names≠[]:=λe=>by simp[e]at*
  simp at*
  simp[ed, *]
  try omega
theorem vC:∀(n:Nat) (l:af),SizeOf.sizeOf l<=n->ae ((f61 Pf) l) (λr=>r=true->kA l)
 |0,l,h=>by cases l;simp only[af.mk.sizeOf_spec]at h;omega
 |n+1,l,h=>by
  rw[P1,q8,af.a8];refine ae.bif (λh1=>ae.ret λ_=> .one (.inl (by simpa using h1))) (λ_=>?_);refine ae.bif (λh1=>ae.ret λ_=> .one (.inr (.inl (by simpa using h1)))) (λ_=>?_);refine ae.bif (λh1=>ae.ret λ_=> .one (.inr (.inr (by simpa using h1)))) (λ_=>?_);refine ae.bif (λh7=>?_) (λ_=>ae.ret λh=>by cases h);refine ae.bif (λh2=>?_) (λ_=>ae.ret λh=>by cases h);have h2:l.az.length=2:=by simp at h2;omega
  obtain⟨p,q,e⟩:∃p q,l.az=[p,q]:=by
   match hp:l.az,h2 with
   |[p,q],_=>exact⟨p,q,rfl⟩
  have hp:SizeOf.sizeOf p<SizeOf.sizeOf l:=sF (by rw[e];simp);have hq:SizeOf.sizeOf q<SizeOf.sizeOf l:=sF (by rw[e];simp);have e0:aq l.az 0=some p:=by rw[e];rfl
  have e1:aq l.az 1=some q:=by rw[e];rfl
  rw[e0,e1];simp only[aP];refine ae.bind (vC n p (by omega)) (λy hy=>?_);refine ae.bif (λhb=>?_) (λ_=>ae.ret λh=>by cases h);refine ae.bind (vC n q (by omega)) (λz hz=>ae.ret λh=> .lex (by simpa using h7) e (hy hb) (hz h))
section
variable {B:Nat} (hB:B<1099511627776)
include hB
theorem KV {l:af} (hl:l.ok B) (hsh:ed l):ae ((f60 Pf) l) (λr=>r=true->nK l):=by
 rw[P2,ra];rw[af.dv]at hl;obtain⟨_,_,_,⟨hn,hnn⟩,_,⟨hr,hrr⟩⟩:=hl;refine ae.bif (λh6=>?_) (λh6=>?_)
 ·have h6:l.Kind=6:=by simpa using h6
  have hru:l.a6=[]:=by simp[ed,h6]at hsh;exact hsh.2.2.1
  refine kJ (L:=λi=>(lW Pf) l i) (len:=l.Names.length) (λi=>(∀j s,j<i->l.Names[j]? =some s->eF s=true)/\∀j s,j<i->l.Names[j]? =some s->((l.Names.take j).any λy=>s==y)=false) (λi hi hI k=>?_) (λhI=>?_) 0 (by omega) ⟨λj s hj=>by omega,λj s hj=>by omega⟩
  ·show ae ((lW Pf) l i) _;obtain⟨x,hx⟩:=b3 hi;have hxl:=hnn x (bV hx);rw[FO,nL,cX,bO];have:decide (i<l.Names.length)=true:=by simpa using hi
   rw[this,bZ,b0 hx,aP,Ek x (by omega),aP,cI i (by omega),sR (by omega),aP,aP,xi _ _ (by rw[o6];omega),aP];refine ae.bif (λ_=>ae.ret λe=>by cases e) (λh1=>?_);refine ae.bif (λ_=>ae.ret λe=>by cases e) (λh2=>k ⟨λj s hj h=>?_,λj s hj h=>?_⟩)
   all_goals rcases jK.1 hj with h5|rfl
   ·exact hI.1 j s h5 h
   ·rw[hx]at h;cases h;simpa using h1
   ·exact hI.2 j s h5 h
   ·rw[hx]at h;cases h;exact h2
  ·show ae ((lW Pf) l l.Names.length) _;rw[FO,nL,cX,bO];have:decide (l.Names.length<l.Names.length)=false:=by simp
   rw[this,cw];refine ae.ret λ_=>⟨λs h=>?_,λe=>absurd h6 e,λ_ i s h=>hI.2 i s (cT.1 h).1 h,by rw[hru];simp⟩;obtain⟨j,hj⟩:=gA h;exact hI.1 j s (cT.1 hj).1 hj
 ·have h6:l.Kind≠6:=by simpa using h6
  refine ae.bind (Cr l.Names (by omega) (λs h=>by have:=hnn s h;omega)) (λy14 h14=>ae.bif (λ_=>ae.ret λe=>by cases e) (λIj=>?_));obtain⟨nv,ri⟩:=h14 (by simpa using Ij);refine jO (L:=λi s=>(lX Pf) l y14 s i) (len:=l.a6.length) (λi _=>∀j x,j<i->l.a6[j]? =some x->qd l.Names x) (λi s hi hI k=>?_) (λs hI=>?_) 0 false (by omega) (λj x hj=>by omega)
  ·show ae ((lX Pf) l y14 s i) _;obtain⟨x,hx⟩:=b3 hi;have hxo:=hrr x (bV hx);rw[FP,nM,aK.a8,bO];have:decide (i<l.a6.length)=true:=by simpa using hi
   rw[this,bZ,b0 hx,aP,cX];refine ae.bif (λ_=>ae.ret λe=>by cases e) (λh1=>?_);refine ae.bind (Cr x.If (by have:=hxo.1.1;omega) (λs h=>by have:=hxo.1.2 s h;omega)) (λy22 h22=>ae.bif (λ_=>ae.ret λe=>by cases e) (λIk=>?_));have h22:=h22 (by simpa using Ik);rw[xi _ _ (by omega),aP];refine ae.bif (λ_=>ae.ret λe=>by cases e) (λe24=>?_);have e24:(l.Names.any λy=>x.er==y)=true:=by simpa only[rU]using e24
   refine jO (L:=λi2 s2=>(lY Pf) l y14 s (i:Int) x y22 (l.Names.any λy=>x.er==y) s2 i2) (len:=x.If.length) (λi2 _=>∀j z,j<i2->x.If[j]? =some z->(l.Names.any λy=>z==y)=true) (λi2 s2 hi2 hI2 k2=>?_) (λs2 hI2=>?_) 0 s (by omega) (λj x hj=>by omega)
   ·show ae ((lY Pf) l y14 s (i:Int) x y22 (l.Names.any λy=>x.er==y) s2 i2) _;obtain⟨z,hz⟩:=b3 hi2;rw[FQ,nN,cX,bO];have:decide (i2<x.If.length)=true:=by simpa using hi2
    rw[this,bZ,b0 hz,aP,xi _ _ (by omega),aP,cI i2 (by have:=hxo.1.1;omega)];refine ae.bif (λ_=>ae.ret λe=>by cases e) (λh3=>k2 s2 λj u hj hu=>?_);rcases jK.1 hj with h5|rfl
    ·exact hI2 j u h5 hu
    ·rw[hz]at hu;cases hu;simpa only[rU]using h3
   ·show ae ((lY Pf) l y14 s (i:Int) x y22 (l.Names.any λy=>x.er==y) s2 x.If.length) _;rw[FQ,nN,cX,bO];have:decide (x.If.length<x.If.length)=false:=by simp
    rw[this,cw,cI i (by omega)];refine k s2 λj u hj hu=>?_;rcases jK.1 hj with h5|rfl
    ·exact hI j u h5 hu
    ·rw[hx]at hu;cases hu;refine⟨λe=>by rw[e]at h1;simp at h1,h22.2,fH.2 λz hz=>?_,e24⟩;obtain⟨q,hq⟩:=gA hz;exact hI2 q z (cT.1 hq).1 hq
  ·show ae ((lX Pf) l y14 s l.a6.length) _;rw[FP,nM,aK.a8,bO];have:decide (l.a6.length<l.a6.length)=false:=by simp
   rw[this,cw];refine ae.ret λ_=>⟨nv,λ_=>ri,λe=>absurd e h6,λr h=>?_⟩;obtain⟨j,hj⟩:=gA h;exact hI j r (cT.1 hj).1 hj
theorem Lx {l:af} (hl:l.ok B) (d b:Int):ae ((f44 Pf) l d b) (λr=>r=0->d<=6/\b<64/\ed l/\kf l/\nK l/\(-1000000000<=l.Lo/\l.Lo<=l.Hi/\l.Hi<=1000000000)/\(l.Kind=7->∃p,l.az[0]? =some p/\kA p)):=by
 rw[P3,rb];simp only[cX,aK.a8];have six:∀{o:Option Int} {Q:Int->Prop},ae o Q->ae o Q:=λh=>h;refine ae.bif (λk6=>?_) (λk6=>ae.bif (λk10=>?_) (λk10=>?_))
 all_goals
  refine ae.bif (λ_=>ae.ret λe=>by cases e) (λh1=>ae.bif (λ_=>ae.ret λe=>by cases e) (λh2=>?_));refine ae.bind (KU l) (λy4 h4=>ae.bif (λ_=>ae.ret λe=>by cases e) (λe4=>?_));have h4:=h4 (by simpa using e4);refine ae.bif (λ_=>ae.ret λe=>by cases e) (λh5=>ae.bif (λ_=>ae.ret λe=>by cases e) (λh6=>?_));refine ae.bind (KV hB hl h4) (λy8 h8=>ae.bif (λ_=>ae.ret λe=>by cases e) (λe8=>?_));have h8:=h8 (by simpa using e8);refine ae.bif (λ_=>ae.ret λe=>by cases e) (λh9=>ae.bif (λ_=>ae.ret λe=>by cases e) (λh10=>ae.bif (λ_=>ae.ret λe=>by cases e) (λh11=>?_)));have hr: -1000000000<=l.Lo/\l.Lo<=l.Hi/\l.Hi<=1000000000:=by simp at h9 h10 h11;omega
  have h12:d<=6/\b<64:=by simp at h1 h2;omega
 ·have k:l.Kind=6:=by simpa using k6
  exact ae.ret λ_=>⟨h12.1,h12.2,h4,by simp[kf,k];simp at h5 h6;omega,h8,hr,λe=>by rw[k]at e;cases e⟩
 ·have k:l.Kind=10:=by simpa using k10
  exact ae.ret λ_=>⟨h12.1,h12.2,h4,by simp[kf,k];simp at h5 h6;omega,h8,hr,λe=>by rw[k]at e;cases e⟩
 ·have k1:l.Kind≠6:=by simpa using k6
  have k2:l.Kind≠10:=by simpa using k10
  have lim:kf l:=by simp[kf,k1,k2];simp at h5 h6;omega
  refine ae.bif (λh7=>?_) (λh7=>ae.ret λ_=>⟨h12.1,h12.2,h4,lim,h8,hr,λe=>by rw[e]at h7;cases h7⟩);have h7:l.Kind=7:=by simpa using h7
  have h2:l.az.length=2:=by simp[ed,h7]at h4;exact h4.1
  obtain⟨p,hp⟩:=b3 (l:=l.az) (i:=0) (by omega);have e0:aq l.az 0=some p:=hp;rw[e0,aP];refine ae.bind (vC _ p (bq _)) (λy hy=>ae.bif (λ_=>ae.ret λe=>by cases e) (λey=>ae.ret λ_=>⟨h12.1,h12.2,h4,lim,h8,hr,λ_=>⟨p,hp,hy (by simpa using ey)⟩⟩))
theorem DD:∀(n:Nat) (l:af) (d b:Int),l.ok B->0<=b->b<=64->(6-d+1).toNat<=n->d<=7->0<=d->ae ((f27 Pf) l d b) (λr=>0<=r.1/\r.1<=64/\(r.2=0->jF l/\r.1=b+kg l/\d+gO l<=7))
 |n,l,d,b,hl,h0,h1,hn,hd,hd0=>by
  rw[P4,re];refine ae.bind (Lx hB hl d b) (λy1 hy1=>ae.bif (λhne=>ae.ret ⟨h0,h1,λe=>by simp at hne;exact absurd e hne⟩) (λe1=>?_));obtain⟨h6,h64,hs,hli,hna,hra,hch⟩:=hy1 (by simpa using e1)
  match n,hn with
  |0,hn=>omega
  |n+1,hn=>
  have hw:IntKind.i64.wrap (b+1)=b+1:=wrap64 (by omega) (by omega);have hwd:IntKind.i64.wrap (d+1)=d+1:=wrap64 (by omega) (by omega);rw[hw];have hl':=hl;rw[af.dv]at hl';obtain⟨_,_,_,_,⟨hpl,hp⟩,_⟩:=hl';refine jO (L:=λi s=>(lZ Pf) l d s i) (len:=l.az.length) (λi s=>0<=s/\s<=64/\s=b+1+fT (l.az.take i)/\∀j p,j<i->l.az[j]? =some p->jF p/\d+1+gO p<=7) (λi s hi hI k=>?_) (λs hI=>?_) 0 (b+1) (by omega) ⟨by omega,by omega,by simp[fT],λj p hj=>by omega⟩
  ·show ae ((lZ Pf) l d s i) _;obtain⟨x,hx⟩:=b3 hi;rw[FR,nO,af.a8,bO];have:decide (i<l.az.length)=true:=by simpa using hi
   rw[this,bZ,b0 hx,aP,cI i (by omega),hwd];refine ae.bind (DD n x (d+1) s (af.gf hp (bV hx)) hI.1 hI.2.1 (by omega) (by omega) (by omega)) (λy hy=>?_);refine ae.bif (λhne=>ae.ret ⟨hI.1,hI.2.1,λe=>by simp at hne;exact absurd e hne⟩) (λhz=>?_);have hy3:=hy.2.2 (by simpa using hz);refine k _ ⟨hy.1,hy.2.1,by rw[CT hx];have:=hI.2.2.1;omega,λj p hj hp'=>?_⟩;rcases jK.1 hj with h5|rfl
   ·exact hI.2.2.2 j p h5 hp'
   ·rw[hx]at hp';cases hp';exact⟨hy3.1,hy3.2.2⟩
  ·show ae ((lZ Pf) l d s l.az.length) _;rw[FR,nO,af.a8,bO];have:decide (l.az.length<l.az.length)=false:=by simp
   rw[this,cw];have all:∀p∈l.az,jF p/\d+1+gO p<=7:=λp hp'=>by
    obtain⟨j,hj⟩:=gA hp';exact hI.2.2.2 j p (cT.1 hj).1 hj
   refine ae.ret ⟨hI.1,hI.2.1,λ_=>⟨.mk hs hli hna hra hch λp hp'=>(all p hp').1,?_,?_⟩⟩
   ·show s=_;rw[sS];have:=hI.2.2.1;rw[uT]at this;omega
   ·rw[sT];have:iT l.az<=(6-d).toNat:=wg λp hp'=>by have:=(all p hp').2;omega
    omega
theorem KS {l:af} (hl:l.ok B):ae ((f18 Pf) l) (λr=>r=0->dp l):=by
 rw[P5,rf];exact ae.bind (DD hB 7 l 1 0 hl (by simp) (by simp) (by decide) (by decide) (by decide)) (λy hy=>ae.ret λe=>by
  obtain⟨h1,h2,h3⟩:=hy.2.2 e;have h4:=hy.2.1;exact⟨h1,by omega,by omega⟩)
end
mutual
def eY:ab->Nat
 |⟨_,_,_,_,_,ks⟩=>1+fq ks
def fq:List ab->Nat
 |[]=>0
 |k::ks=>eY k+fq ks
end
theorem sQ (x:ab):eY x=1+fq x.Kids:=by cases x;rw[eY]
theorem Dz:∀{ks:List ab} {k:ab},k∈ks->eY k<=fq ks
 |q::ks,k,h=>by
  rw[fq];rcases cL.1 h with rfl|h
  ·omega
  ·have:=Dz h;omega
theorem sE {x k:ab} (h:k∈x.Kids):eY k<eY x:=by rw[sQ x];have:=Dz h;omega
theorem DA:∀{a b:List ab},fq (a++b)=fq a+fq b
 |[],b=>by simp[fq]
 |x::a,b=>by rw[gT,fq,fq,DA];omega
theorem KT {ks:List ab} {i:Nat} {k:ab} (h:ks[i]? =some k):fq (ks.take (i+1))=fq (ks.take i)+eY k:=by
 rw[List.take_add_one,h,DA];simp[fq]
theorem SX {ks:List ab} {i:Nat}:fq (ks.take i)<=fq ks:=by
 have:fq ks=fq (ks.take i)+fq (ks.drop i):=by rw[<-DA,uM]
 omega
inductive Sb:ab->ab->Prop
 |refl {x:ab}:Sb x x
 |kz {x k y:ab}:k∈x.Kids->Sb y k->Sb y x
theorem LX:∀(x:ab) (k:Int),k<=1000000->0<=k->ae ((f19 Pf) x k) (λr=> -1<=r/\r<=k/\(0<=r->(eY x:Int)+r<=k)):=by
 refine ab.ind λx ih k hk hk0=>?_;rw[PW,oP,wrap64 (by omega) (by omega)];refine jO (L:=λi s=>(lU Pf) x s i) (P:=λr=> -1<=r/\r<=k/\(0<=r->(eY x:Int)+r<=k)) (len:=x.Kids.length) (λi s=> -1<=s/\s<=k/\(0<=s->(1:Int)+fq (x.Kids.take i)+s<=k)/\i<=1000001/\(0<=s->(i:Int)+s<=k)) (λi s hi hI kk=>?_) (λs hI=>?_) 0 (k-1) (by omega) ⟨by omega,by omega,λ_=>by simp[fq];omega,by omega,λ_=>by omega⟩
 ·show ae ((lU Pf) x s i) _;obtain⟨y,hy⟩:=b3 hi;have ht:=KT hy;have:decide (i<x.Kids.length)=true:=by simpa using hi
  rw[FK,nG];simp only[ab.a8];rw[bO,this,bZ];refine ae.bif (λh=>?_) (λh=>ae.ret ⟨hI.1,hI.2.1,λg=>?_⟩)
  ·have h:0<=s:=by simpa using h
   have h5:=hI.2.2.2.2 h;rw[b0 hy,aP,cI i (by omega)];refine ae.bind (ih y (bV hy) s (by omega) h) (λr hr=>kk r ⟨hr.1,by omega,λg=>?_,by omega,λg=>?_⟩)
   ·have:=hr.2.2 g;have:=hI.2.2.1 h;omega
   ·have:=hr.2.2 g;have:=sQ y;omega
  ·have h:¬0<=s:=by simpa using h
   omega
 ·show ae ((lU Pf) x s x.Kids.length) _;have:decide (x.Kids.length<x.Kids.length)=false:=by simp
  rw[uT]at hI;rw[FK,nG];simp only[ab.a8];rw[bO,this,cw];exact ae.ret ⟨hI.1,hI.2.1,λg=>by rw[sQ];have:=hI.2.2.1 g;omega⟩
theorem vl (x:ab) {k:Int} (hk:k<=1000000) (hk0:0<=k):ae ((f8 Pf) x k) (λr=>r=true->(eY x:Int)<=k):=by
 rw[e8,B8];refine ae.bind (LX x k hk hk0) (λr hr=>ae.ret λh=>?_);have h:0<=r:=by simpa using h
 have:=hr.2.2 h;omega
theorem Sb.trans {x y z:ab} (h:Sb z y) (g:Sb y x):Sb z x:=by
 induction g with
 |refl=>exact h
 |kz hk _ ih=>exact .kz hk (ih h)
