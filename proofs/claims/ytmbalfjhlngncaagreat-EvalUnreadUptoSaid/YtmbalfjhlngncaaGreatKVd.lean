/- What the comparisons answer. -/
import Derived.Test.YtmbalfjhlngncaaGreatKPl
import Derived.Test.YtmbalfjhlngncaaGreatKGA1
set_option linter.all false
namespace Go.Proofs.YtmbalfjhlngncaaGreat
open Go Go.Bw
theorem ja (n m:Nat):decide (((n:Nat):Int)<(m:Int))=decide (n<m):=by rw[mi];simp only[iL];omega
theorem pG (n m:Nat):decide (((n:Nat):Int)>=(m:Int))=decide (m<=n):=by rw[mi];simp only[iL];omega
theorem vb {x:Int} (h:x≠0):(x !=0)=true:=by simpa using h
theorem DF {α:Type} {a b:List α} {c:α->α->Int} {L:Int->Option Int}
  (hs:∀(i:Nat) x y,a[i]? =some x->b[i]? =some y->L (i:Int)=bif c x y !=0 then some (c x y)else L ((i+1:Nat):Int))
  (h1:∀(i:Nat) x,a[i]? =some x->b.length<=i->L (i:Int)=some 1) (he:L (a.length:Int)=some (bif decide (a.length<b.length)then-1 else 0)):L 0=some (cmpL c a b):=by
 have key:∀k i:Nat,k=a.length-i->i<=a.length->L (i:Int)=some (cmpL c (a.drop i) (b.drop i)):=by
  intro k
  induction k with
  |zero=>
   intro i hk hi;have:i=a.length:=by omega
   subst this;rw[he,FG];by_cases h:a.length<b.length
   ·obtain⟨y,hy⟩:=bw h;rw[jq hy];simp[h,cmpL]
   ·rw[YL (by omega)];simp[h,cmpL]
  |succ k ih=>
   intro i hk hi;obtain⟨x,hx⟩:=bw (by omega:i<a.length);rw[jq hx];by_cases h:i<b.length
   ·obtain⟨y,hy⟩:=bw h;rw[hs i x y hx hy,jq hy,cmpL,fB];by_cases h0:c x y=0
    ·rw[bq h0,<-ih (i+1) (by omega) (by omega)];simp[h0]
    ·rw[aN h0,vb h0];rfl
   ·have e:b.drop i=[]:=YL (by omega);rw[h1 i x hx (by omega),e,cmpL]
 simpa using key a.length 0 (by omega) (by omega)
theorem Pa (a b:Int):(AU Pu) a b=some (jU a b):=by
 rw[ahb,AW,UW,vv,UW,vv];unfold jU;by_cases h:a<b
 ·simp[h]
 ·by_cases g:b<a<;>simp[h,g]
theorem Rk (a b:Int):(vt Pu) a b=some (jU a b):=by
 rw[ahc,AX,UX,vw,UX,vw];unfold jU;by_cases h:a<b
 ·simp[h]
 ·by_cases g:b<a<;>simp[h,g]
theorem acj (a b:List UInt8):(EI Pu) a b=some (dU a b):=by
 rw[ahd,AY,Ek,pE,Ek,pE];unfold dU;rcases qQ a b with rfl|h|h
 ·simp[jG]
 ·simp[h]
 ·have:(a==b)=false:=by
   rw[beq_eq_false_iff_ne];rintro rfl;rw[jG]at h;cases h
  simp[h,oF h,this]
theorem MZ:∀a b:List UInt8,Lib.compareBytes a b=dU a b
 |[],[]=>rfl
 |[],_::_=>rfl
 |_::_,[]=>rfl
 |x::a,y::b=>by
  rw[Lib.compareBytes,MZ a b];have e1:=tK x y a b;have e2:=tK y x b a;unfold dU;by_cases h:x<y
  ·rw[bq h,e1.2 (.inl h)];rfl
  ·rw[aN h];by_cases g:y<x
   ·have n1:Op.bytesLess (x::a) (y::b)=false:=by
     rw[Bool.eq_false_iff,ne_eq,e1];rintro (h'|⟨rfl,_⟩)
     ·exact h h'
     ·exact h g
    rw[bq g,n1,e2.2 (.inl g)];rfl
   ·have e:x=y:=by
     rw[ID]at h g;exact UInt8.toNat_inj.1 (by omega)
    subst e;have n1:Op.bytesLess (x::a) (x::b)=Op.bytesLess a b:=by rw[mi,e1];simp[h]
    have n2:Op.bytesLess (x::b) (x::a)=Op.bytesLess b a:=by rw[mi,e2];simp[h]
    rw[aN g,n1,n2]
theorem or_eq (x y:Int):(vx Pu) [x,y]=some (fB x y):=by
 rw[ahe,vy,HU,qI];have e0:ao [x,y] 0=some x:=rfl;have e1:ao [x,y] 1=some y:=rfl;have l0:decide ((0:Int)<((dJ IntKind.i64 [x,y]).length:Int))=true:=rfl;have l1:decide ((1:Int)<((dJ IntKind.i64 [x,y]).length:Int))=true:=rfl;have l2:decide ((2:Int)<((dJ IntKind.i64 [x,y]).length:Int))=false:=rfl;have w0:IntKind.i64.wrap (0+1)=1:=rfl;have w1:IntKind.i64.wrap (1+1)=2:=rfl;rw[l0,aD,e0,aw,w0,HU,qI,l1,aD,e1,aw,w1,HU,qI,l2,aF];unfold fB;by_cases h:x=0
 ·subst h;by_cases g:y=0
  ·simp[g]
  ·rw[vb g];rfl
 ·rw[vb h,aN h];rfl
theorem ack (a b:ai):(EJ Pu) a b=some (En a b):=by
 rw[ahf,AZ,Rk,aw,Pa,aw,or_eq];rfl
theorem aba (a b:List ai) (ha:a.length<9223372036854775807):(CZ Pu) a b=some (cmpL En a b):=by
 rw[acm,sO];refine DF (L:=λi=>(ox Pu) a b i) (λi x y hx hy=>?_) (λi x hx hb=>?_) ?_
 ·show(ox Pu) a b i=_;have l1:=(b9.1 hx).1;have l2:=(b9.1 hy).1;rw[F9,pX,ai.aI,ai.aI,ja,pG,dI l1,aD,bg hx,aw,dM (by omega),aF,bg hy,aw,ack,aw,bM i (by omega)]
 ·show(ox Pu) a b i=_;have l1:=(b9.1 hx).1;rw[F9,pX,ai.aI,ai.aI,ja,pG,dI l1,aD,bg hx,aw,dI hb,aD]
 ·show(ox Pu) a b _=_;rw[F9,pX,ai.aI,ai.aI,ja,ja,dM (by omega),aF];cases decide (a.length<b.length)<;>rfl
theorem Og (a b:ax) (ha:a.aY.length<9223372036854775807):(vp Pu) a b=some (eO a b):=by
 rw[ahg,A0,ae9,(adO _ _),MZ,aw,aba _ _ ha,aw,or_eq];rfl
mutual
def rC:af->af->Int
 |⟨n,ns,ps,es⟩,⟨n',ns',ps',es'⟩=>fB (fB (jU n n') (cmpL dU ns ns')) (fB (jw ps ps') (cmpL eO es es'))
def jw:List af->List af->Int
 |[],[]=>0
 |[],_::_=> -1
 |_::_,[]=>1
 |x::a,y::b=>fB (rC x y) (jw a b)
end
theorem SG:∀a b:List af,jw a b=cmpL rC a b
 |[],[]=>by rw[jw,cmpL]
 |[],_::_=>by rw[jw,cmpL]
 |_::_,[]=>by rw[jw,cmpL]
 |x::a,y::b=>by rw[jw,cmpL,SG a b]
theorem C0 {x y:Int}:fB x y=0↔x=0/\y=0:=by unfold fB;split<;>omega
mutual
theorem OZ:∀{a b:af},rC a b=0↔a=b
 |⟨n,ns,ps,es⟩,⟨n',ns',ps',es'⟩=>by
  have h:=Oq (a:=ps) (b:=ps');rw[rC,C0,C0,C0,CT.eU,(CF mx).eU,h,(CF oE).eU,af.mk.injEq,and_assoc]
theorem Oq:∀{a b:List af},jw a b=0↔a=b
 |[],[]=>by simp[jw]
 |[],_::_=>by simp[jw]
 |_::_,[]=>by simp[jw]
 |x::a,y::b=>by rw[jw,C0,OZ,Oq,kb]
end
theorem P0 (a b:List (List UInt8)) (ha:a.length<9223372036854775807):(vq Pu) a b=some (cmpL dU a b):=by
 rw[ahh,vz];refine DF (L:=λi=>(oW Pu) a b i) (λi x y hx hy=>?_) (λi x hx hb=>?_) ?_
 ·show(oW Pu) a b i=_;have l1:=(b9.1 hx).1;have l2:=(b9.1 hy).1;rw[HV,qJ,bD,bD,ja,pG,dI l1,aD,bg hx,aw,dM (by omega),aF,bg hy,aw,acj,aw,bM i (by omega)]
 ·show(oW Pu) a b i=_;have l1:=(b9.1 hx).1;rw[HV,qJ,bD,bD,ja,pG,dI l1,aD,bg hx,aw,dI hb,aD]
 ·show(oW Pu) a b _=_;rw[HV,qJ,bD,bD,ja,ja,dM (by omega),aF];cases decide (a.length<b.length)<;>rfl
theorem acn (a b:List ax) (ha:a.length<9223372036854775807) (hc:∀e∈a,e.aY.length<9223372036854775807):(C1 Pu) a b=some (cmpL eO a b):=by
 rw[aco,sP];refine DF (L:=λi=>(oy Pu) a b i) (λi x y hx hy=>?_) (λi x hx hb=>?_) ?_
 ·show(oy Pu) a b i=_;have l1:=(b9.1 hx).1;have l2:=(b9.1 hy).1;rw[F',pY,ax.aI,ax.aI,ja,pG,dI l1,aD,bg hx,aw,dM (by omega),aF,bg hy,aw,Og _ _ (hc x (a7 hx)),aw,bM i (by omega)]
 ·show(oy Pu) a b i=_;have l1:=(b9.1 hx).1;rw[F',pY,ax.aI,ax.aI,ja,pG,dI l1,aD,bg hx,aw,dI hb,aD]
 ·show(oy Pu) a b _=_;rw[F',pY,ax.aI,ax.aI,ja,ja,dM (by omega),aF];cases decide (a.length<b.length)<;>rfl
theorem Oe {m:Nat} (hm:m<9223372036854775807):∀a b:af,BV m a->(rB Pu) a b=some (rC a b):=by
 refine af.ind λa ih b ha=>?_;have l1:=ha.names;have l2:=ha.parts;have l3:=ha.entries;have hp:(C2 Pu) a.aj b.aj=some (jw a.aj b.aj):=by
  rw[acp,sQ,SG];refine DF (L:=λi=>(oz Pu) a.aj b.aj i) (λi x y hx hy=>?_) (λi x hx hb=>?_) ?_
  ·show(oz Pu) a.aj b.aj i=_;have l1:=(b9.1 hx).1;have l2:=(b9.1 hy).1;have hm:=a7 hx;rw[Ga,pZ,af.aI,af.aI,ja,pG,dI l1,aD,bg hx,aw,dM (by omega),aF,bg hy,aw,ih x hm y (ha.part hm),aw,bM i (by omega)]
  ·show(oz Pu) a.aj b.aj i=_;have l1:=(b9.1 hx).1;rw[Ga,pZ,af.aI,af.aI,ja,pG,dI l1,aD,bg hx,aw,dI hb,aD]
  ·show(oz Pu) a.aj b.aj _=_;rw[Ga,pZ,af.aI,af.aI,ja,ja,dM (by omega),aF];cases decide (a.aj.length<b.aj.length)<;>rfl
 rw[ahi,A1,Pa,aw,P0 _ _ (by omega),aw,or_eq,aw,hp,aw,acn _ _ (by omega) (λe he=>by have:=ha.DU e he;omega),aw];obtain⟨n,ns,ps,es⟩:=a;obtain⟨n',ns',ps',es'⟩:=b;rw[rC];simp only;generalize fB (jU n n') (cmpL dU ns ns')=x;generalize jw ps ps'=y;generalize cmpL eO es es'=z;unfold fB;by_cases h:x=0
 ·by_cases g:y=0
  ·simp[h,g]
  ·rw[vb g];simp[h,g]
 ·rw[vb h];simp[h]
theorem aab (a b:ax) (ha:a.aY.length<=274877906944):(vA Pu) a b=some (eO a b):=by
 rw[ahj,A2,Oe (m:=274877906944) (by omega) _ _ (.mk (by simp) (by simp) (by simp) (by simpa using ha) (by simp)),aw];simp[rC,jw,cmpL,jU,fB];exactλh=>h.symm
