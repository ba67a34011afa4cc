/- InflationJoins, InflationState. -/
import Derived.Test.YthlcjaanmbjcaaaGreatKIa
import Derived.Test.YthlcjaanmbjcaaaGreatKIb
set_option linter.all false
namespace Go.Proofs.YthlcjaanmbjcaaaGreat
open Go Go.Bw
def iw (l:af) (c a b:ab):ab:={Op:=7,aA:={aS:=0,aF:=l},N:=0,Text:=[],At:=0,Kids:=[c,a,b]}
def mB:bd:={path:=[]}
theorem xM {t:bd} {x:ab} (h5:(x.Op==5)=false) (h1:(x.Op==19)=false) (h2:(x.Op==35)=false) (h3:(x.Op==36)=false):(f29 Pf) t x=some false:=by
 rw[zZ,mC,z6,mD,h5,h1,h2,h3];rfl
theorem pW {x k:ab} {i:Nat} (h:x.Kids[i]? =some k):(f30 Pf) x i=some k:=by
 obtain⟨r,e,hr⟩:=wM x i;rcases hr with hr|⟨hr,_⟩
 ·rw[h]at hr;cases hr;exact e
 ·rw[uX hr]at h;cases h
theorem ME {t:bd} {l:af} {a b:ab} (h:(f21 Pf) t a=some true):(f21 Pf) t (jn l a b)=some true:=by
 rw[qR,ky,xM rfl rfl rfl rfl];show(((f30 Pf) (jn l a b) (0:Nat)).bind _)=_;rw[pW (k:=a) rfl,aP,h];rfl
theorem MF {t:bd} {l:af} {a b:ab} {r:Bool} (g:(f21 Pf) t a=some r) (h:(f21 Pf) t b=some true):(f21 Pf) t (jn l a b)=some true:=by
 rw[qR,ky,xM rfl rfl rfl rfl];show(((f30 Pf) (jn l a b) (0:Nat)).bind _)=_;rw[pW (k:=a) rfl,aP,g,aP];cases r with
 |true=>rfl
 |false=>
  show(((f30 Pf) (jn l a b) (1:Nat)).bind _)=_;rw[pW (k:=b) rfl,aP,h];rfl
theorem ND {t:bd} {l:af} {c a b:ab} {r:Bool} (g:(f21 Pf) t a=some true) (h:(f21 Pf) t b=some r):(f21 Pf) t (iw l c a b)=some r:=by
 rw[qR,ky,xM rfl rfl rfl rfl];show(((f30 Pf) (iw l c a b) (1:Nat)).bind _)=_;rw[pW (k:=a) rfl,aP,g,aP,bZ];show(((f30 Pf) (iw l c a b) (2:Nat)).bind _)=_;rw[pW (k:=b) rfl,aP,h];rfl
section
variable {B:Nat} (hB:B<=1048576)
include hB
omit hB in
theorem Ei {l:af} {f:bl} {c:Bool} (h0:f.Result=0) (hv:(f28 Pf) l f=some true) (hc:(f21 Pf) mB f.Body=some c):(f9 Pf) l f=some (c,0):=by
 rw[e9,B9,Ib,oK,h0,hv];show(((f21 Pf) mB f.Body).bind _)=_;rw[hc];rfl
theorem vB {l:af} {f:bl} (hl:l.ok B) (hf:f.ok B) (hs:eY f.Body<1000000):ae ((f9 Pf) l f) (λr=>r.2=0->f.Result=0/\(f28 Pf) l f=some true/\(f21 Pf) mB f.Body=some r.1):=by
 rw[e9,B9,Ib,oK];have hb:=hf.2.2.2.2;refine ae.bind (P:=λy=>y=true->f.Result=0/\(f28 Pf) l f=some true) ?_ (λy1 h1=>ae.bif (λ_=>ae.ret λe=>by cases e) (λe1=>?_))
 ·refine ae.bif (λh=>?_) (λ_=>ae.ret λe=>by cases e);obtain⟨r,q,_⟩:=Lv hB hl hf;rw[q,aP];exact ae.ret λe=>⟨by simpa using h,by rw[e]⟩
 ·have h1:=h1 (by simpa using e1);obtain⟨r,q,_⟩:=(PO hB hb (t:=mB) (by simp[mB];omega)).gQ;show ae (((f21 Pf) mB f.Body).bind _) _;rw[q,aP];exact ae.ret λ_=>⟨h1.1,h1.2,rfl⟩
theorem Lw {l:af} {f:bl} (hl:l.ok B):ae ((f7 Pf) l f) (λr=>r=true->eY f.Body<=80/\dp l):=by
 rw[e7,B7];refine ae.bind (vl f.Body (k:=80) (by omega) (by omega)) (λy1 h1=>ae.bif (λe1=>ae.bif (λ_=>?_) (λ_=>ae.ret λe=>by cases e)) (λ_=>ae.ret λe=>by cases e));refine ae.bind (KS (by omega) hl) (λy4 h4=>ae.ret λe=>⟨by have:=h1 e1;omega,h4 (by simpa using e)⟩)
omit hB in
theorem Oh {l:af} {c a b:ab} (hl:l.ok B) (hc:c.ok B) (ha:a.ok B) (hb:b.ok B) (h2:3<=B):(iw l c a b).ok B:=by
 rw[ab.dv];exact⟨(by decide:(Lit.int .i64 7).wf=true),⟨(by decide:(Lit.int .i64 0).wf=true),hl⟩,(by decide:(Lit.int .i64 0).wf=true),by simp[iw],(by decide:(Lit.int .i64 0).wf=true),by simp[iw];omega,by simp[iw,ab.dR,ha,hb,hc]⟩
omit hB in
theorem GS {f:bl} {b:ab} (hf:f.ok B) (hb:b.ok B):(wB f b).ok B:=by
 obtain⟨h1,h2,h3,h4,_⟩:=hf;exact⟨h1,h2,h3,h4,hb⟩
theorem K4 {l:af} {f g:bl} {c:ab} (haw:(f6 Pf)=some true) (hl:l.ok B) (hf:f.ok B) (hg:g.ok B) (hc:c.ok B) (h3:3<=B):(f3 Pf) l f g c=some true:=by
 rw[e3,B3,haw,aP,u1,cw];have hfb:=hf.2.2.2.2;have hgb:=hg.2.2.2.2;refine ae.of (ae.bind (Lw hB hl) (λy3 q3=>ae.bif (λ_=>ae.ret rfl) (λe3=>?_)));have hs:=(q3 (by simpa using e3)).1;refine ae.bind (vl g.Body (k:=40) (by omega) (by omega)) (λy5 q5=>ae.bif (λ_=>ae.ret rfl) (λe5=>?_));have hs5:=q5 (by simpa using e5);refine ae.bind (vl c (k:=20) (by omega) (by omega)) (λy7 q7=>ae.bif (λ_=>ae.ret rfl) (λe7=>?_));have hs7:=q7 (by simpa using e7);refine ae.bind (vB hB hl hf (by omega)) (λy9 q9=>?_);refine ae.bind (vB hB (f:=wB f g.Body) hl (GS hf hgb) (by show eY g.Body<_;omega)) (λy10 q10=>?_);refine ae.bif (λ_=>ae.ret rfl) (λe9=>ae.bif (λ_=>ae.ret rfl) (λIc=>ae.bif (λ_=>ae.ret rfl) (λui=>?_)));obtain⟨h0,vf,cf⟩:=q9 (by simpa using e9);obtain⟨_,vg,cg⟩:=q10 (by simpa using Ic);have ui:y9.1=true:=by simpa using ui
 rw[ui]at cf;have k0:(f9 Pf) l (wB f (jn l f.Body g.Body))=some (true,0):=Ei h0 (Ej hB hl hf h0 hfb hgb (by omega) vf vg) (ME cf);have k1:(f9 Pf) l (wB f (jn l g.Body f.Body))=some (true,0):=Ei h0 (Ej hB hl hf h0 hgb hfb (by omega) vg vf) (MF cg cf);have dL:eY (iw l c f.Body g.Body)<1000000:=by rw[sQ];simp[iw,fq];omega
 obtain⟨r,k2,q2⟩:=vB hB (f:=wB f (iw l c f.Body g.Body)) hl (GS hf (Oh hl hc hfb hgb h3)) dL;have hr:r.2=0->r.1=y10.1:=λe=>by
  have h:=(q2 e).2.2;have h':(f21 Pf) mB (wB f (iw l c f.Body g.Body)).Body=some y10.1:=ND cf cg;exact cQ (h.symm.trans h')
 refine ae.eq ?_;have L3:(fS Pf) l f g c y10 3=some true:=by rw[tO,lb];rfl
 have L2:(fS Pf) l f g c y10 2=some true:=by
  rw[tO,lb];show(((f9 Pf) l (wB f (iw l c f.Body g.Body))).bind λy24=>bif y24.2==0 then(bif !(y24.1==y10.1)then some false else(fS Pf) l f g c y10 3)else(fS Pf) l f g c y10 3)=some true;rw[k2,aP,L3];cases e:r.2==0 with
  |true=>rw[hr (by simpa using e)];simp
  |false=>rfl
 have L1:(fS Pf) l f g c y10 1=some true:=by
  rw[tO,lb];show(((f9 Pf) l (wB f (jn l g.Body f.Body))).bind λy24=>bif y24.2==0 then(bif !(y24.1==true)then some false else(fS Pf) l f g c y10 2)else some false)=some true;rw[k1,aP,L2];rfl
 rw[tO,lb];show(((f9 Pf) l (wB f (jn l f.Body g.Body))).bind λy24=>bif y24.2==0 then(bif !(y24.1==true)then some false else(fS Pf) l f g c y10 1)else some false)=some true;rw[k0,aP,L1];rfl
