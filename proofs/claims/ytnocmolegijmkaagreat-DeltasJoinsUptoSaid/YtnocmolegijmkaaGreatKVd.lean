/- What the comparisons answer. -/
import Derived.Test.YtnocmolegijmkaaGreatKVc
import Derived.Test.YtnocmolegijmkaaGreatKGA1
import Derived.Shelf.SlSortCmp.WholeK
import Derived.Shelf.SlSortCmp.NoneTotal
import Derived.WalkKit
import Derived.Shelf.Sort.Plain
import Derived.Shelf.Slices.CompactS
import Derived.Shelf.Slices.In.SortNone
import Derived.Sort.OwnSorted
import Derived.Lib.OwnBridge
set_option linter.all false
section
namespace Go.Proofs.YtnocmolegijmkaaGreat
open Go Go.Bw
theorem kf (n m:Nat):decide (((n:Nat):Int)<(m:Int))=decide (n<m):=by rw[nF];simp only[jQ];omega
theorem qQ (n m:Nat):decide (((n:Nat):Int)>=(m:Int))=decide (m<=n):=by rw[nF];simp only[jQ];omega
theorem w4 {x:Int} (h:x≠0):(x !=0)=true:=by simpa using h
theorem Fq {D:Type} {a b:List D} {c:D->D->Int} {L:Int->Option Int}
  (hs:∀(i:Nat) x y,a[i]? =some x->b[i]? =some y->L (i:Int)=bif c x y !=0 then some (c x y)else L ((i+1:Nat):Int))
  (h1:∀(i:Nat) x,a[i]? =some x->b.length<=i->L (i:Int)=some 1) (he:L (a.length:Int)=some (bif decide (a.length<b.length)then-1 else 0)):L 0=some (cmpL c a b):=by
 have key:∀k i:Nat,k=a.length-i->i<=a.length->L (i:Int)=some (cmpL c (a.drop i) (b.drop i)):=by
  intro k
  induction k with
  |zero=>
   intro i hk hi;have:i=a.length:=by omega
   subst this;rw[he,HL];by_cases h:a.length<b.length
   ·obtain⟨y,hy⟩:=bo h;rw[kr hy];simp[h,cmpL]
   ·rw[OQ (by omega)];simp[h,cmpL]
  |succ k ih=>
   intro i hk hi;obtain⟨x,hx⟩:=bo (by omega:i<a.length);rw[kr hx];by_cases h:i<b.length
   ·obtain⟨y,hy⟩:=bo h;rw[hs i x y hx hy,kr hy,cmpL,gx];by_cases h0:c x y=0
    ·rw[bg h0,<-ih (i+1) (by omega) (by omega)];simp[h0]
    ·rw[aM h0,w4 h0];rfl
   ·have e:b.drop i=[]:=OQ (by omega);rw[h1 i x hx (by omega),e,cmpL]
 simpa using key a.length 0 (by omega) (by omega)
theorem Q0 (a b:Int):(B' Pu) a b=some (lh a b):=by
 rw[ajW,Ca,WV,xi,WV,xi];unfold lh;by_cases h:a<b
 ·simp[h]
 ·by_cases g:b<a<;>simp[h,g]
theorem Tj (a b:Int):(xh Pu) a b=some (lh a b):=by
 rw[ajX,Cb,WW,xj,WW,xj];unfold lh;by_cases h:a<b
 ·simp[h]
 ·by_cases g:b<a<;>simp[h,g]
theorem ad3 (a b:List UInt8):(GB Pu) a b=some (eK a b):=by
 rw[ajY,Cc,Gg,qO,Gg,qO];unfold eK;rcases sd a b with rfl|h|h
 ·simp[kP]
 ·simp[h]
 ·have:(a==b)=false:=by
   rw[beq_eq_false_iff_ne];rintro rfl;rw[kP]at h;cases h
  simp[h,pQ h,this]
theorem OT:∀a b:List UInt8,Lib.compareBytes a b=eK a b
 |[],[]=>rfl
 |[],_::_=>rfl
 |_::_,[]=>rfl
 |x::a,y::b=>by
  rw[Lib.compareBytes,OT a b];have e1:=vc x y a b;have e2:=vc y x b a;unfold eK;by_cases h:x<y
  ·rw[bg h,e1.2 (.inl h)];rfl
  ·rw[aM h];by_cases g:y<x
   ·have n1:Op.bytesLess (x::a) (y::b)=false:=by
     rw[Bool.eq_false_iff,ne_eq,e1];rintro (h'|⟨rfl,_⟩)
     ·exact h h'
     ·exact h g
    rw[bg g,n1,e2.2 (.inl g)];rfl
   ·have e:x=y:=by
     rw[KC]at h g;exact UInt8.toNat_inj.1 (by omega)
    subst e;have n1:Op.bytesLess (x::a) (x::b)=Op.bytesLess a b:=by rw[nF,e1];simp[h]
    have n2:Op.bytesLess (x::b) (x::a)=Op.bytesLess b a:=by rw[nF,e2];simp[h]
    rw[aM g,n1,n2]
theorem or_eq (x y:Int):(xk Pu) [x,y]=some (gx x y):=by
 rw[ajZ,xl,JY,rS];have e0:aj [x,y] 0=some x:=rfl;have e1:aj [x,y] 1=some y:=rfl;have l0:decide ((0:Int)<((dX IntKind.i64 [x,y]).length:Int))=true:=rfl;have l1:decide ((1:Int)<((dX IntKind.i64 [x,y]).length:Int))=true:=rfl;have l2:decide ((2:Int)<((dX IntKind.i64 [x,y]).length:Int))=false:=rfl;have w0:IntKind.i64.wrap (0+1)=1:=rfl;have w1:IntKind.i64.wrap (1+1)=2:=rfl;rw[l0,aB,e0,au,w0,JY,rS,l1,aB,e1,au,w1,JY,rS,l2,aC];unfold gx;by_cases h:x=0
 ·subst h;by_cases g:y=0
  ·simp[g]
  ·rw[w4 g];rfl
 ·rw[w4 h,aM h];rfl
theorem ad4 (a b:ah):(GC Pu) a b=some (Gj a b):=by
 rw[aj0,Cd,Tj,au,Q0,au,or_eq];rfl
theorem acV (a b:List ah) (ha:a.length<9223372036854775807):(EO Pu) a b=some (cmpL Gj a b):=by
 rw[ad5,uA];refine Fq (L:=λi=>(pH Pu) a b i) (λi x y hx hy=>?_) (λi x hx hb=>?_) ?_
 ·show(pH Pu) a b i=_;have l1:=(cr.1 hx).1;have l2:=(cr.1 hy).1;rw[Ia,rf,ah.aH,ah.aH,kf,qQ,dT l1,aB,bf hx,au,dH (by omega),aC,bf hy,au,ad4,au,bW i (by omega)]
 ·show(pH Pu) a b i=_;have l1:=(cr.1 hx).1;rw[Ia,rf,ah.aH,ah.aH,kf,qQ,dT l1,aB,bf hx,au,dT hb,aB]
 ·show(pH Pu) a b _=_;rw[Ia,rf,ah.aH,ah.aH,kf,kf,dH (by omega),aC];cases decide (a.length<b.length)<;>rfl
theorem P4 (a b:az) (ha:a.a8.length<9223372036854775807):(xe Pu) a b=some (fJ a b):=by
 rw[aj1,Ce,ag1,(afs _ _),OT,au,acV _ _ ha,au,or_eq];rfl
mutual
def ta:af->af->Int
 |⟨n,ns,ps,es⟩,⟨n',ns',ps',es'⟩=>gx (gx (lh n n') (cmpL eK ns ns')) (gx (kz ps ps') (cmpL fJ es es'))
def kz:List af->List af->Int
 |[],[]=>0
 |[],_::_=> -1
 |_::_,[]=>1
 |x::a,y::b=>gx (ta x y) (kz a b)
end
theorem Uw:∀a b:List af,kz a b=cmpL ta a b
 |[],[]=>by rw[kz,cmpL]
 |[],_::_=>by rw[kz,cmpL]
 |_::_,[]=>by rw[kz,cmpL]
 |x::a,y::b=>by rw[kz,cmpL,Uw a b]
theorem ER {x y:Int}:gx x y=0↔x=0/\y=0:=by unfold gx;split<;>omega
mutual
theorem QK:∀{a b:af},ta a b=0↔a=b
 |⟨n,ns,ps,es⟩,⟨n',ns',ps',es'⟩=>by
  have h:=P8 (a:=ps) (b:=ps');rw[ta,ER,ER,ER,EJ.fQ,(Er nN).fQ,h,(Er pP).fQ,af.mk.injEq,and_assoc]
theorem P8:∀{a b:List af},kz a b=0↔a=b
 |[],[]=>by simp[kz]
 |[],_::_=>by simp[kz]
 |_::_,[]=>by simp[kz]
 |x::a,y::b=>by rw[kz,ER,QK,P8,kn]
end
theorem RO (a b:List (List UInt8)) (ha:a.length<9223372036854775807):(xf Pu) a b=some (cmpL eK a b):=by
 rw[aj2,xm];refine Fq (L:=λi=>(qb Pu) a b i) (λi x y hx hy=>?_) (λi x hx hb=>?_) ?_
 ·show(qb Pu) a b i=_;have l1:=(cr.1 hx).1;have l2:=(cr.1 hy).1;rw[JZ,rT,bN,bN,kf,qQ,dT l1,aB,bf hx,au,dH (by omega),aC,bf hy,au,ad3,au,bW i (by omega)]
 ·show(qb Pu) a b i=_;have l1:=(cr.1 hx).1;rw[JZ,rT,bN,bN,kf,qQ,dT l1,aB,bf hx,au,dT hb,aB]
 ·show(qb Pu) a b _=_;rw[JZ,rT,bN,bN,kf,kf,dH (by omega),aC];cases decide (a.length<b.length)<;>rfl
theorem ad6 (a b:List az) (ha:a.length<9223372036854775807) (hc:∀e∈a,e.a8.length<9223372036854775807):(ES Pu) a b=some (cmpL fJ a b):=by
 rw[ad7,uB];refine Fq (L:=λi=>(pI Pu) a b i) (λi x y hx hy=>?_) (λi x hx hb=>?_) ?_
 ·show(pI Pu) a b i=_;have l1:=(cr.1 hx).1;have l2:=(cr.1 hy).1;rw[Ib,rh,az.aH,az.aH,kf,qQ,dT l1,aB,bf hx,au,dH (by omega),aC,bf hy,au,P4 _ _ (hc x (aV hx)),au,bW i (by omega)]
 ·show(pI Pu) a b i=_;have l1:=(cr.1 hx).1;rw[Ib,rh,az.aH,az.aH,kf,qQ,dT l1,aB,bf hx,au,dT hb,aB]
 ·show(pI Pu) a b _=_;rw[Ib,rh,az.aH,az.aH,kf,kf,dH (by omega),aC];cases decide (a.length<b.length)<;>rfl
theorem P3 {m:Nat} (hm:m<9223372036854775807):∀a b:af,BV m a->(sZ Pu) a b=some (ta a b):=by
 refine af.ind λa ih b ha=>?_;have l1:=ha.names;have l2:=ha.parts;have l3:=ha.entries;have hp:(ET Pu) a.ai b.ai=some (kz a.ai b.ai):=by
  rw[ad8,uC,Uw];refine Fq (L:=λi=>(pJ Pu) a.ai b.ai i) (λi x y hx hy=>?_) (λi x hx hb=>?_) ?_
  ·show(pJ Pu) a.ai b.ai i=_;have l1:=(cr.1 hx).1;have l2:=(cr.1 hy).1;have hm:=aV hx;rw[Ic,ri,af.aH,af.aH,kf,qQ,dT l1,aB,bf hx,au,dH (by omega),aC,bf hy,au,ih x hm y (ha.part hm),au,bW i (by omega)]
  ·show(pJ Pu) a.ai b.ai i=_;have l1:=(cr.1 hx).1;rw[Ic,ri,af.aH,af.aH,kf,qQ,dT l1,aB,bf hx,au,dT hb,aB]
  ·show(pJ Pu) a.ai b.ai _=_;rw[Ic,ri,af.aH,af.aH,kf,kf,dH (by omega),aC];cases decide (a.ai.length<b.ai.length)<;>rfl
 rw[aj3,Cf,Q0,au,RO _ _ (by omega),au,or_eq,au,hp,au,ad6 _ _ (by omega) (λe he=>by have:=ha.FE e he;omega),au];obtain⟨n,ns,ps,es⟩:=a;obtain⟨n',ns',ps',es'⟩:=b;rw[ta];simp only;generalize gx (lh n n') (cmpL eK ns ns')=x;generalize kz ps ps'=y;generalize cmpL fJ es es'=z;unfold gx;by_cases h:x=0
 ·by_cases g:y=0
  ·simp[h,g]
  ·rw[w4 g];simp[h,g]
 ·rw[w4 h];simp[h]
theorem ab3 (a b:az) (ha:a.a8.length<=274877906944):(xn Pu) a b=some (fJ a b):=by
 rw[aj4,Cg,P3 (m:=274877906944) (by omega) _ _ (.mk (by simp) (by simp) (by simp) (by simpa using ha) (by simp)),au];simp[ta,kz,cmpL,lh,gx];exactλh=>h.symm
end Go.Proofs.YtnocmolegijmkaaGreat
end

section
namespace Go.Proofs
open Go.Shelf
def aaN:Go.Shelf.Ren:=⟨λ|6=>243|15=>276|14=>281|28=>293|29=>294|20=>296|21=>297|22=>298|23=>299|24=>300|25=>301|26=>302|27=>303|46=>309|47=>305|48=>306|49=>310|50=>311|57=>313|n=>n,λ|22=>38|24=>126|25=>123|3=>3|39=>220|0=>0|53=>297|55=>218|4=>4|46=>291|45=>290|50=>171|5=>5|9=>9|66=>309|70=>312|76=>316|77=>102|n=>n,λ|n=>n⟩
theorem QZ:Go.Proofs.SlLaysF0.n6 Tryz.prog aaN:={
 mixed:=by kernel_rfl
 f6:=⟨Tryz.f243.name,by decide,Tryz.func243.trans (congrArg some (by kernel_rfl))⟩
 f14:=⟨Tryz.f281.name,by decide,Tryz.func281.trans (congrArg some (by kernel_rfl))⟩
 f15:=Tryz.func276.trans (congrArg some (by kernel_rfl))
 f20:=⟨Tryz.f296.name,by decide,Tryz.func296.trans (congrArg some (by kernel_rfl))⟩
 f21:=⟨Tryz.f297.name,by decide,Tryz.func297.trans (congrArg some (by kernel_rfl))⟩
 f22:=⟨Tryz.f298.name,by decide,Tryz.func298.trans (congrArg some (by kernel_rfl))⟩
 f23:=⟨Tryz.f299.name,by decide,Tryz.func299.trans (congrArg some (by kernel_rfl))⟩
 f24:=⟨Tryz.f300.name,by decide,Tryz.func300.trans (congrArg some (by kernel_rfl))⟩
 f25:=⟨Tryz.f301.name,by decide,Tryz.func301.trans (congrArg some (by kernel_rfl))⟩
 f26:=⟨Tryz.f302.name,by decide,Tryz.func302.trans (congrArg some (by kernel_rfl))⟩
 f27:=⟨Tryz.f303.name,by decide,Tryz.func303.trans (congrArg some (by kernel_rfl))⟩
 f28:=Tryz.func293.trans (congrArg some (by kernel_rfl))
 f29:=Tryz.func294.trans (congrArg some (by kernel_rfl))
 f46:=⟨Tryz.f309.name,by decide,Tryz.func309.trans (congrArg some (by kernel_rfl))⟩
 f47:=Tryz.func305.trans (congrArg some (by kernel_rfl))
 f48:=Tryz.func306.trans (congrArg some (by kernel_rfl))
 f49:=⟨Tryz.f310.name,by decide,Tryz.func310.trans (congrArg some (by kernel_rfl))⟩
 f50:=⟨Tryz.f311.name,by decide,Tryz.func311.trans (congrArg some (by kernel_rfl))⟩
 f57:=⟨Tryz.f313.name,by decide,Tryz.func313.trans (congrArg some (by kernel_rfl))⟩
 t0:=Tryz.underlying0
 a0:=Tryz.isAgg0
 z0:=Tryz.sizeOf0
 v0:=Tryz.zeroValue0
 t3:=Tryz.underlying3
 a3:=Tryz.isAgg3
 z3:=Tryz.sizeOf3
 v3:=Tryz.zeroValue3
 t4:=Tryz.underlying4
 a4:=Tryz.isAgg4
 z4:=Tryz.sizeOf4
 v4:=Tryz.zeroValue4
 t5:=Tryz.underlying5
 a5:=Tryz.isAgg5
 z5:=Tryz.sizeOf5
 v5:=Tryz.zeroValue5
 t9:=Tryz.underlying9
 a9:=Tryz.isAgg9
 z9:=Tryz.sizeOf9
 v9:=Tryz.zeroValue9
 t22:=Tryz.underlying38
 a22:=Tryz.isAgg38
 z22:=Tryz.sizeOf38
 v22:=Tryz.zeroValue38
 t25:=Tryz.underlying123
 a25:=Tryz.isAgg123
 z25:=Tryz.sizeOf123
 v25:=Tryz.zeroValue123
 t39:=Tryz.underlying220
 a39:=Tryz.isAgg220
 z39:=Tryz.sizeOf220
 v39:=Tryz.zeroValue220
 t45:=Tryz.underlying290
 a45:=Tryz.isAgg290
 z45:=Tryz.sizeOf290
 v45:=Tryz.zeroValue290
 t46:=Tryz.underlying291
 a46:=Tryz.isAgg291
 z46:=Tryz.sizeOf291
 v46:=Tryz.zeroValue291
 t50:=Tryz.underlying171
 a50:=Tryz.isAgg171
 z50:=Tryz.sizeOf171
 v50:=Tryz.zeroValue171
 t53:=Tryz.underlying297
 a53:=Tryz.isAgg297
 z53:=Tryz.sizeOf297
 v53:=Tryz.zeroValue297
 t55:=Tryz.underlying218
 a55:=Tryz.isAgg218
 z55:=Tryz.sizeOf218
 v55:=Tryz.zeroValue218
 t66:=Tryz.underlying309
 a66:=Tryz.isAgg309
 z66:=Tryz.sizeOf309
 v66:=Tryz.zeroValue309
 t70:=Tryz.underlying312
 a70:=Tryz.isAgg312
 z70:=Tryz.sizeOf312
 v70:=Tryz.zeroValue312
 t76:=Tryz.underlying316
 a76:=Tryz.isAgg316
 z76:=Tryz.sizeOf316
 v76:=Tryz.zeroValue316
 t77:=Tryz.underlying102
 a77:=Tryz.isAgg102
 z77:=Tryz.sizeOf102
 v77:=Tryz.zeroValue102}
end Go.Proofs
namespace Go.Proofs.YtnocmolegijmkaaGreat
open Go Go.Bw
theorem acU:Iu env.P 243 244 2:=by
 refine⟨λD _ enc hk h1 cf hO fR off cap d w hcmp hH hb hl=>?_,λp cap fv w=>AnyF.slices_SortFunc_none {QZ with} p cap fv w⟩;exact AnyQ.slices_SortFunc QZ 2 Tryz.isAgg126 Tryz.sizeOf126 enc hk h1 cf hO 244 #[] fR off cap d w (enters_of Tryz.func244 (by kernel_rfl) rfl) hcmp hH hb hl
def AK (es:List az):Bool:=es.all λe=>decide (e.a8.length<=274877906944)
abbrev Jk:=List az->Option (Unit×List az)
def uy:Jk:=λa0=>bif decide (a0.length<=274877906944)&&AK a0 then some ((),dR fJ a0)else none
def R2 (p:Jk):Prop:=∀a0 r,p a0=some r->kv env 243 [(.os 0 (az.rows a0).length),(.d (.v (.func (.func 244) #[] #[])))] (.row 126 2 (az.rows a0)) (.bY []) (.row 126 2 (az.rows r.2))
theorem Jl:R2 uy:=by
 intro a0 r h;rw[uy]at h;cases hd:decide (a0.length<=274877906944)&&AK a0 with
 |false=>rw[hd]at h;cases h
 |true=>
  rw[hd,aB]at h;cases h;rw[bS,jQ]at hd;refine kv.adh (E:=env) (T:=az) (cs:=az.cs) ⟨_,Tryz.func243,by kernel_rfl,by kernel_rfl⟩ acU (by omega) pP (λt=>rfl) (λx hx y _=>?_) (az.aH a0) (by omega);have hc:x.a8.length<=274877906944:=jl (gf.1 hd.2 x hx);exact ajV _ _ _ (ab3 x y hc)
theorem abe (a0):uy a0=bif decide (a0.length<=274877906944)&&AK a0 then some ((),dR fJ a0)else none:=rfl
end Go.Proofs.YtnocmolegijmkaaGreat
end

section
namespace Go.Proofs
open Go.Shelf
def aaC:Go.Shelf.Ren:=⟨λ|194=>267|n=>n,λ|31=>22|9=>9|3=>3|4=>4|0=>0|n=>n,λ|n=>n⟩
theorem PC:Go.Proofs.Lays.n194 Tryz.prog aaC:={
 mixed:=by kernel_rfl
 f194:=Tryz.func267.trans (congrArg some (by kernel_rfl))
 t0:=Tryz.underlying0
 a0:=Tryz.isAgg0
 z0:=Tryz.sizeOf0
 v0:=Tryz.zeroValue0
 t3:=Tryz.underlying3
 a3:=Tryz.isAgg3
 z3:=Tryz.sizeOf3
 v3:=Tryz.zeroValue3
 t4:=Tryz.underlying4
 a4:=Tryz.isAgg4
 z4:=Tryz.sizeOf4
 v4:=Tryz.zeroValue4
 t9:=Tryz.underlying9
 a9:=Tryz.isAgg9
 z9:=Tryz.sizeOf9
 v9:=Tryz.zeroValue9
 t31:=Tryz.underlying22
 a31:=Tryz.isAgg22
 z31:=Tryz.sizeOf22
 v31:=Tryz.zeroValue22}
end Go.Proofs
namespace Go.Proofs.YtnocmolegijmkaaGreat
open Go.RowKit Go.Shelf Go.Sort
def nA (base:Nat) (w w':World):Prop:=Below base w w'/\w.drawn<=w'.drawn
theorem nA.trans {b:Nat} {w w1 w2:World} (h:nA b w w1) (g:nA b w1 w2):nA b w w2:=⟨h.1.trans g.1,iM h.2 g.2⟩
def Has (base:Nat) (w:World) (v:Value) (ss:List (List UInt8)):Prop:=w.ownsRow base 9 1 v ss.length (ss.map encStr)
theorem aee {base:Nat} {a:Option Addr} {c:Nat} {ss:List (List UInt8)} {w:World} (h:Has base w (.slice a ss.length c) ss) (hl:ss.length<4611686018427387904):
  Calls Tryz.prog 236 #[.slice a ss.length c] w λe w'=>e= .returned (.tuple #[])/\Has base w' (.slice a ss.length c) (Bw.dR eK ss)/\nA base w w':=by
 have hsl:(Bw.dR eK ss).length=ss.length:=Bw.nL ss;rcases h.2 with⟨h0,h1⟩|⟨g,cap,cur,hv,hbase,hb,h1,h2,h3,h4⟩
 ·have e0:ss=[]:=jb h1;subst e0;exact(Any.slices_Sort_string_none EU a c w).mono λe w' ⟨he,hw⟩=>by subst he hw;exact⟨rfl,h,Below.refl _ _,bX _⟩
 ·simp only[Value.slice.injEq]at hv;obtain⟨rfl,_,rfl⟩:=hv;have hg:g<w.heap.size:=(gQ.1 hb).1;have hH:Holds encStr w g 0 ss.toArray:=λj hj=>by
   have hj':j<ss.length:=by simpa using hj
   have hc:cur[j]? =some (encStr ss[j]):=by
    have:=congrArg (λt=>t[j]?) h4;simp only[xM,fT,hj',if_true,iL,Dz]at this;rw[this];simp[hj']
   constructor
   ·simp[World.cell?,hb,hc,hj']
   ·simp[World.frozen?,hb]
  have hms:=OY ss;refine(Any.slices_Sort_string EU g 0 c ss w hH hg hl).mono λe w' ⟨he,nn,os,hw⟩=>?_;subst he;rw[hms]at hw;subst hw;have hs:=ownsRow_sorted (n:=nn) (os:=os) (ts:=Bw.dR eK ss) hsl hbase hb h1 h2 h3;refine⟨rfl,?_,?_,OE _ _⟩
  ·unfold Has;rw[hsl];exact hs
  ·exact(Below.refl base w).grown (grownBy_sorted _) (by omega) (λj hj=>by cases hj;exact hbase)
theorem abq {base:Nat} {a:Option Addr} {c:Nat} {ss:List (List UInt8)} {w:World} (h:Has base w (.slice a ss.length c) ss) (hl:ss.length<4611686018427387904):
  Calls Tryz.prog 267 #[.slice a ss.length c] w λe w'=>∃c',e= .returned (.slice a (Lib.compact ss).length c')/\Has base w' (.slice a (Lib.compact ss).length c') (Lib.compact ss)/\nA base w w':=by
 have hle:=Lib.compact_length_le ss;rcases h.2 with⟨h0,h1⟩|⟨g,cap,cur,hv,hbase,hb,h1,h2,h3,h4⟩
 ·have e0:ss=[]:=jb h1;subst e0;simp only[Value.slice.injEq]at h0;obtain⟨rfl,_,rfl⟩:=h0;exact(Any.slices_Compact_string_empty PC none 0 w).mono λe w' ⟨he,hw⟩=>by
   subst he hw;exact⟨0,rfl,h,Below.refl _ _,bX _⟩
 ·simp only[Value.slice.injEq]at hv;obtain⟨rfl,_,rfl⟩:=hv;have hg:g<w.heap.size:=(gQ.1 hb).1;have hH:Holds encStr w g 0 ss.toArray:=λj hj=>by
   have hj':j<ss.length:=by simpa using hj
   have hc:cur[j]? =some (encStr ss[j]):=by
    have:=congrArg (λt=>t[j]?) h4;simp only[xM,fT,hj',if_true,iL,Dz]at this;rw[this];simp[hj']
   constructor
   ·simp[World.cell?,hb,hc,hj']
   ·simp[World.frozen?,hb]
  refine(Any.slices_Compact_string PC g 0 c ss w hH (by omega) h1).mono λe w' ⟨he,q,hw⟩=>?_;subst he hw;have hc:=Lib.ownsRow_putRow (q:=q) (k:=(Lib.compact ss).length) (ys:=Lib.compact ss++List.replicate (ss.length-(Lib.compact ss).length) []) h (by simp;omega) (by omega);rw[OK]at hc;exact⟨_,rfl,hc,Lib.below_putRow (Below.refl base w) hbase,OE _ _⟩
def fh (l:List (List UInt8)):List (List UInt8):=Lib.compact (Bw.dR eK l)
set_option maxHeartbeats 2000000 in
set_option maxRecDepth 100000 in
theorem afu (arg : Value) (ss : List (List UInt8)) (w : World) (hl : ss.length < 4611686018427387904)
    (hclone : Calls Tryz.prog 129 #[arg] w fun e w' => ∃ a c, e = .returned (.slice a ss.length c) ∧ Has w.heap.size w' (.slice a ss.length c) ss ∧ nA w.heap.size w w') :
    Calls Tryz.prog 232 #[arg] w fun e w' => ∃ a c, e = .returned (.slice a (fh ss).length c) ∧ Has w.heap.size w' (.slice a (fh ss).length c) (fh ss) ∧ nA w.heap.size w w' := by
  have hsl : (Bw.dR eK ss).length = ss.length := Bw.nL ss
  go_enter Tryz.func232, Tryz.ntmps232
  go_wp2_with (first
    | (go_at_call 129; refine hclone.mono ?_; rintro e w1 ⟨a, c, rfl, hown, hg⟩
       have hsort := aee hown hl
       have X : Aside (nA w.heap.size w w1) := hg
       clear hown hg hclone)
    | (go_at_call 236; refine hsort.mono ?_; rintro e w2 ⟨rfl, hown2, hg2⟩
       have hcomp := abq (ss := Bw.dR eK ss) (by rw [hsl]; exact hown2) (by omega)
       rw [hsl] at hcomp
       have Y : Aside (nA w.heap.size w1 w2) := hg2
       clear hown2 hg2 hsort)
    | (go_at_call 267; refine hcomp.mono ?_; rintro e w3 ⟨c3, rfl, hown3, hg3⟩))
  go_ret
  exact ⟨a, c3, rfl, hown3, (X.out.trans Y.out).trans hg3⟩
open Go Go.Bw in
theorem abr {l:List (List UInt8)} (hF:kX env 129 [.sl 1 (aG l)] 9 1 (aG l)) {F:Nat->Prop} {w:World} {v:Value} (hk:bM env.toCx.G w F []) (hv:Rel w (Al F []) (.sl 1 (aG l)) v):
  Calls Tryz.prog 129 #[v] w λe w'=>∃a c,e= .returned (.slice a l.length c)/\Has w.heap.size w' (.slice a l.length c) l/\nA w.heap.size w w':=by
 have h0:=(kX.frame (L:=Hp.nil) hF (cs:=[.d (.sl 1 (aG l))]) rfl) ⟨λ_=>none,λ_ _=>none⟩ [.sl 1 (aG l)] [] (by simp only[aS];exact⟨_,_,rfl,rfl,rfl⟩) (HS.nil _ λ_=>⟨rfl,λ_=>rfl⟩);refine(h0.2 F w [v] hk (by simp only[aL];exact⟨v,_,rfl,hv,rfl⟩)).mono ?_;rintro e' w' ⟨r',LB',⟨Z',d,L1,h1,h2,h3,rfl,rfl⟩,hv,hh',hx⟩;obtain⟨u,rfl,h2⟩:=h2;obtain⟨v,rfl,hv⟩:=hv;simp only[aK]at h2;obtain⟨a,c,t',hs,rfl⟩:=h2;simp only[Rel]at hv;subst hv;have hget:(Hp.nil.push (.row 9 1 (aG l))).e.get 0=some (.row 9 1 (aG l)):=rfl;obtain⟨q,hq1,hq2⟩:=h3.en 0 _ hget;obtain⟨⟨a',c',hb,rfl⟩,_⟩:=hq2;have hs:Z'.s 0 (aG l).length=some (a,c):=hs;rw[hs]at hb;cases hb;have hlen:(aG l).length=l.length:=bN;obtain⟨us,f4,f5⟩:=ju hh' hq1;have:=H0 f4;subst this;rw[hlen]at f5⊢;refine⟨a,c,rfl,⟨f5.1,?_⟩,⟨hx.os,hx.tape,hx.output,hx.size,λb hb=>hx.block b hb (by simp[ids])⟩,hx.drawn.le⟩;rcases f5.2 with h|⟨g,cap,cur,hv,_,hr⟩
 ·exact .inl h
 ·refine .inr ⟨g,cap,cur,hv,?_,hr⟩;simp only[Value.slice.injEq]at hv;obtain⟨rfl,_,rfl⟩:=hv;refine(hx.new g (gB.2 ⟨_,aV (by rw[<-cM];exact hq1),by simp[aq.ids,Value.ownBlock]⟩)).elim (λh=>by simp[ids]at h) id
open Go Go.Bw in
theorem aef {l:List (List UInt8)} (hl:l.length<=274877906944) (hF:kX env 129 [.sl 1 (aG l)] 9 1 (aG l)):Bw.Pure env.toCx 232 [.sl 1 (aG l)] (.ret (.sl 1 (aG (fh l)))):=by
 refine⟨⟨_,Tryz.func232,by kernel_rfl,by kernel_rfl⟩,λF w vs hk hr=>?_⟩;simp only[aL]at hr;obtain⟨v,_,rfl,hv,rfl⟩:=hr;refine(afu v l w (by omega) (abr hF hk hv)).mono ?_;rintro e w' ⟨a,c,rfl,hown,hg,hd⟩;have hrest:bM env.G w' F []/\Bw.Ext [] w [] w':=⟨⟨by simp,by simp[ids],by simp[ids],λb hF=>oG (hk.bound b hF) hg.size,hk.gK.keep ⟨hg.size,λb hlt ha=>⟨ha,hg.block b hlt⟩⟩⟩,⟨hg.os,hg.tape,hg.output,hg.size,λb hlt _=>hg.block b hlt,λb hm=>by simp[ids]at hm,nr.of hd⟩⟩;refine⟨_,_,⟨rfl,rfl⟩,⟨_,rfl,?_⟩,hrest.1,hrest.2⟩;simp only[Rel];rcases hown.2 with⟨h0,h1⟩|⟨g',cap',cur,hv,hbase,hb,h1,h2,h3,h4⟩
 ·simp only[Value.slice.injEq]at h0;obtain⟨rfl,h0,rfl⟩:=h0;have:fh l=[]:=jb h1;exact .inl ⟨by rw[this];rfl,none,0,by rw[this];rfl⟩
 ·simp only[Value.slice.injEq]at hv;obtain⟨rfl,_,rfl⟩:=hv;have hgl:g'<w'.heap.size:=(gQ.1 hb).1;refine .inr ⟨g',0,c,(fh l).map encStr,by rw[bN],⟨hgl,λhF=>absurd (hk.bound g' hF) (by omega),by simp[ids]⟩,by rw[bN];exact h1,h2,H2,λj u hu=>?_⟩;have h5:cur.toList.take (fh l).length=(fh l).map encStr:=by simpa using h4
  rw[<-h5]at hu;have hj:cur[j]? =some u:=by
   rw[fT]at hu;split at hu
   ·simpa using hu
   ·cases hu
  simp[World.cell?,hb,hj]
open Go Go.Bw
abbrev MH:=List (List UInt8)->Option (List (List UInt8))
def wZ:MH:=λa0=>bif decide (a0.length<=274877906944)then some (fh a0)else none
def W4 (p:MH):Prop:=∀a0 r,p a0=some r->Bw.Pure env.toCx 232 [.sl 1 (aG a0)] (.ret (.sl 1 (aG r)))
theorem xo:W4 wZ:=by
 intro a0 r h;rw[wZ]at h;cases hd:decide (a0.length<=274877906944)with
 |false=>rw[hd]at h;cases h
 |true=>
  rw[hd,aB]at h;cases h;have hl:=jl hd;refine aef hl (ag3 _ _ ?_);rw[Wd,wu];have:decide ((([]:List (List UInt8))++a0).length<=274877906944)=true:=by simpa using hd
  rw[this];rfl
theorem afm (a0):wZ a0=bif decide (a0.length<=274877906944)then some (fh a0)else none:=rfl
