/- Valid functions, put together. -/
import Derived.Test.YthlcjaanmbjcaaaGreatKRa
set_option linter.all false
namespace Go.Proofs.YthlcjaanmbjcaaaGreat
open Go Go.Bw
theorem LC {D:Type} {L L':Int->Option D} {len:Nat} (step:∀i:Nat,i<len->L ((i+1:Nat):Int)=L' ((i+1:Nat):Int)->L (i:Int)=L' (i:Int)) (stop:L (len:Int)=L' (len:Int)):L 0=L' 0:=by
 have key:∀k i:Nat,k=len-i->i<=len->L (i:Int)=L' (i:Int):=by
  intro k
  induction k with
  |zero=>intro i hk hi;rw[show i=len by omega];exact stop
  |succ k ih=>intro i hk hi;exact step i (by omega) (ih (i+1) (by omega) (by omega))
 exact key len 0 (by omega) (by omega)
def wB (f:bl) (b:ab):bl:={Name:=f.Name,On:=f.On,Params:=f.Params,Result:=f.Result,Body:=b}
theorem DW (f:bl) (b:ab) (hp:f.Params.length<9223372036854775807):(f46 Pf) (wB f b)=(f46 Pf) f:=by
 have hL:(iL Pf) (wB f b) 0=(iL Pf) f 0:=by
  refine LC (L:=(iL Pf) (wB f b)) (L':=(iL Pf) f) (len:=f.Params.length) (λi hi h=>?_) ?_
  ·rw[nT,jx,nT f,jx,cI i (by omega),h];rfl
  ·rw[nT,jx,nT f,jx];simp[TParam.a8,wB]
 rw[Aa,mE,Aa f,mE,hL];rfl
structure VI (B:Nat) (l:af) (f:bl) (n:aj):Prop where
 check:(f45 Pf) l=some 0
 ej:dp l
 form:(f46 Pf) f=some true
 wn:WN B n
 bare:(f47 Pf) f.Params f.Body=some (n,true)
 el:(f73 Pf) ⟨l,f.Params⟩ n (bG l)=some (.ret f.Body)
section
variable {B:Nat} (hB:B<=1048576)
include hB
theorem DX {l:af} {f:bl} (hl:l.ok B) (hf:f.ok B) (h0:f.Result=0) (h:(f28 Pf) l f=some true):∃n,VI B l f n:=by
 have hf':=hf;obtain⟨hn,ho,⟨hpl,hp⟩,_,hb⟩:=hf';rw[Ac,mG]at h;obtain⟨y1,q1,h1⟩:=DK (by omega) hl;rw[q1,aP]at h;cases e1:(y1 !=0)with
 |true=>rw[e1]at h;cases h
 |false=>
 have e1:y1=0:=by simpa using e1
 subst e1;have hlat:=h1 rfl;obtain⟨y3,q3,h3⟩:=vE (f:=f) (by omega) (by omega) (λp hm=>by have:=(hp p hm).1;omega);rw[q3]at h;cases y3 with
 |false=>cases h
 |true=>
 have hform:=h3 rfl;have hce:CE B ⟨l,f.Params⟩:=⟨hlat,hl,λp hm=>by
  obtain⟨i,hi⟩:=gA hm;have:=hform.2.2.2.2.2 i p hi;exact⟨this.2.1,this.2.2.1⟩,hpl⟩
 obtain⟨⟨n,b5⟩,q5,h5⟩:=wo hB (ps:=f.Params) f.Body hb;rw[q5]at h;cases b5 with
 |false=>cases h
 |true=>
 have hwn:=h5 rfl;have hww:cR B (bG l):= .inr (bj.of hlat hl);obtain⟨r,qr,hr⟩:=wq hB hce hwn (bG l) hww;have hx:(f48 Pf) l f.Params (bG l) n=dy 87 (some r) (λc3 c4=>(bif c3 !=0 then(some (({Op:=0,aA:={aS:=0,aF:={Kind:=0,Lo:=0,Hi:=0,Names:=[],az:=[],a6:=[]:af}:aB},N:=0,Text:=[],At:=0,Kids:=[]:ab},{Code:=c3,At:=c4:dc})))else(some (({Op:=0,aA:={aS:=0,aF:={Kind:=0,Lo:=0,Hi:=0,Names:=[],az:=[],a6:=[]:af}:aB},N:=0,Text:=[],At:=0,Kids:=[]:ab},{Code:=c3,At:=c4:dc}))))) λy2=>(some ((y2,{Code:=0,At:=0:dc}))):=by
  rw[Ab,mF,qr]
 have hwant:(f49 Pf) l f=some (bG l):=by rw[wZ,h0];rfl
 simp only[aP,u1,cw,bne_self_eq_false,hwant,hx]at h;cases r with
 |aD z=>
  obtain⟨a,b,ha,rfl⟩:=hr;simp[dy,jR]at h;rw[beq_eq_false_iff_ne.2 ha]at h;cases h
 |ret y=>
  simp only[dy,aP]at h;have htt:=W.tt hce hr.2.2.2 hww;rw[wm hB y htt f.Body hb]at h;have e:y=f.Body:=by
   have:eV y f.Body=true:=by simpa using h
   exact pM.1 this
  subst e;exact⟨n,q1,hlat,q3,hwn,q5,qr⟩
theorem L8 {l:af} {f:bl} {n:aj} (hl:l.ok B) (hf:f.ok B) (h0:f.Result=0) (h:VI B l f n):(f28 Pf) l f=some true:=by
 obtain⟨hn,ho,⟨hpl,hp⟩,_,hb⟩:=hf;have hform:qh f:=by
  obtain⟨y3,q3,h3⟩:=vE (f:=f) (by omega) (by omega) (λp hm=>by have:=(hp p hm).1;omega);rw[h.form]at q3;cases q3;exact h3 rfl
 have hce:CE B ⟨l,f.Params⟩:=⟨h.ej,hl,λp hm=>by
  obtain⟨i,hi⟩:=gA hm;have:=hform.2.2.2.2.2 i p hi;exact⟨this.2.1,this.2.2.1⟩,hpl⟩
 have hww:cR B (bG l):= .inr (bj.of h.ej hl);have hep:EP B ⟨l,f.Params⟩ n (bG l) f.Body:=by
  obtain⟨r,qr,hr⟩:=wq hB hce h.wn (bG l) hww;rw[h.el]at qr;cases qr;exact hr
 have hwant:(f49 Pf) l f=some (bG l):=by rw[wZ,h0];rfl
 rw[Ac,mG,h.check,h.form,h.bare,hwant];simp only[aP,u1,cw,bne_self_eq_false];rw[Ab,mF,h.el];simp only[dy,aP];rw[wm hB f.Body (W.tt hce hep.2.2.2 hww) f.Body hb];simp[eV]
end
def jn (l:af) (a b:ab):ab:={Op:=16,aA:={aS:=0,aF:=l},N:=0,Text:=[],At:=0,Kids:=[a,b]}
theorem Ff {ps:List TParam} {l:af} {a b:ab} {na nb:aj} (ha:(f47 Pf) ps a=some (na,true)) (hb:(f47 Pf) ps b=some (nb,true)):(f47 Pf) ps (jn l a b)=some (⟨39,[],0,0,[na,nb]⟩,true):=by
 have hleaf:(f66 Pf) ps (jn l a b)=some (⟨0,[],0,0,[]⟩,false):=by rw[Im,oU];rfl
 rw[Ip,oW,hleaf,aP,cw];have h0:(iN Pf) ps (jn l a b) false 0 []=(iN Pf) ps (jn l a b) false 1 [na]:=by
  rw[pY,jS];show(bif true then((some a).bind λx11=>((f47 Pf) ps x11).bind _)else _)=_;rw[bZ,aP,ha];rfl
 have h1:(iN Pf) ps (jn l a b) false 1 [na]=(iN Pf) ps (jn l a b) false 2 [na,nb]:=by
  rw[pY,jS];show(bif true then((some b).bind λx11=>((f47 Pf) ps x11).bind _)else _)=_;rw[bZ,aP,hb];rfl
 rw[h0,h1,pY,jS];show(bif false then _ else(((f67 Pf) 16).bind _))=_;rw[cw,Io,oV];rfl
section
variable {B:Nat} (hB:B<=1048576)
include hB
theorem MW {l:af} {ps:List TParam} {a b:ab} {na nb:aj} (hl:l.ok B) (hk:1<=l.Kind) (ha:(f73 Pf) ⟨l,ps⟩ na (bG l)=some (.ret a)) (hb:(f73 Pf) ⟨l,ps⟩ nb (bG l)=some (.ret b)):
  (f73 Pf) ⟨l,ps⟩ ⟨39,[],0,0,[na,nb]⟩ (bG l)=some (.ret (jn l a b)):=by
 have hpair:(f122 Pf) ⟨l,ps⟩ 16 ⟨39,[],0,0,[na,nb]⟩ (bG l) (bG l) (bG l)=some (.ret (jn l a b)):=by
  rw[Hs,oD];show(aG ((f73 Pf) ⟨l,ps⟩ na (bG l)) _)=_;rw[ha];show(aG ((f73 Pf) ⟨l,ps⟩ nb (bG l)) _)=_;rw[hb];rfl
 have hnone:isNone (bG l)=false:=by
  have:(l.Kind==0)=false:=by simp;omega
  simp[isNone,bG,this]
 have bQ:(f124 Pf) ⟨l,ps⟩ ⟨39,[],0,0,[na,nb]⟩ (bG l)=some (.ret (jn l a b)):=by
  rw[Ht,oE,ec,nA,hnone];show(aG ((f122 Pf) ⟨l,ps⟩ 16 ⟨39,[],0,0,[na,nb]⟩ (bG l) (bG l) (bG l)) _)=_;rw[hpair];rfl
 have hany:(f101 Pf) ⟨l,ps⟩ ⟨39,[],0,0,[na,nb]⟩ (bG l)=some (.ret (jn l a b)):=by
  rw[Hr,oC,ec,ec,ec];show(aG ((f124 Pf) ⟨l,ps⟩ ⟨39,[],0,0,[na,nb]⟩ (bG l)) _)=_;rw[bQ];rfl
 rw[Iq,oX,hany];show(((f102 Pf) l).bind _)=_;rw[vQ hB l hl,nA,hnone];simp only[aP,BM,bZ];obtain⟨r,q,hr⟩:=pA (a:=bG l) (b:=bG l) hB hl;have:r=true:=hr.2 rfl;subst this;show(((f55 Pf) (bG l) (bG l)).bind _)=_;rw[q];rfl
theorem Ej {l:af} {f:bl} {a b:ab} (hl:l.ok B) (hf:f.ok B) (h0:f.Result=0) (ha:a.ok B) (hb:b.ok B) (h2:2<=B) (va:(f28 Pf) l (wB f a)=some true) (vb:(f28 Pf) l (wB f b)=some true):(f28 Pf) l (wB f (jn l a b))=some true:=by
 obtain⟨hn,ho,hps,hr,_⟩:=hf;obtain⟨na,ia⟩:=DX hB hl (f:=wB f a) ⟨hn,ho,hps,hr,ha⟩ h0 va;obtain⟨nb,ib⟩:=DX hB hl (f:=wB f b) ⟨hn,ho,hps,hr,hb⟩ h0 vb;have hjo:(jn l a b).ok B:=by
  rw[ab.dv];exact⟨(by decide:(Lit.int .i64 16).wf=true),⟨(by decide:(Lit.int .i64 0).wf=true),hl⟩,(by decide:(Lit.int .i64 0).wf=true),by simp[jn],(by decide:(Lit.int .i64 0).wf=true),by simpa[jn]using h2,by simp[jn,ab.dR,ha,hb]⟩
 have hform:(f46 Pf) f=some true:=by rw[<-DW f a (by omega)];exact ia.form
 refine L8 hB (n:=⟨39,[],0,0,[na,nb]⟩) hl ⟨hn,ho,hps,hr,hjo⟩ h0 ⟨ia.check,ia.ej,by rw[DW f _ (by omega)];exact hform,?_,Ff ia.bare ib.bare,MW hB hl ia.ej.kind.1 ia.el ib.el⟩;obtain⟨r,e,h⟩:=wo hB (ps:=f.Params) (jn l a b) hjo;have q:(f47 Pf) f.Params (jn l a b)=some (⟨39,[],0,0,[na,nb]⟩,true):=Ff ia.bare ib.bare;rw[q]at e;cases e;exact h rfl
