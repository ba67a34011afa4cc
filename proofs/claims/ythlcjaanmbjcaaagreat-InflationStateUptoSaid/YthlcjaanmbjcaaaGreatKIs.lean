/- InflationState. -/
import Derived.Test.YthlcjaanmbjcaaaGreatKIj
set_option linter.all false
namespace Go.Proofs.YthlcjaanmbjcaaaGreat
open Go Go.Bw
def cg (l:af):ab:={Op:=5,aA:={aS:=0,aF:=l},N:=0,Text:=[],At:=3,Kids:=[]}
def q9 (l:af):ab:={Op:=6,aA:={aS:=0,aF:=l},N:=0,Text:=[],At:=0,Kids:=[]}
def q7 (b:ab):bl:={Name:=[117],On:=[111],Params:=[],Result:=0,Body:=b}
theorem Sz {ps:List TParam} {l:af}:(f47 Pf) ps (cg l)=some (⟨49,[],0,3,[]⟩,true):=by
 have hleaf:(f66 Pf) ps (cg l)=some (⟨0,[],0,3,[]⟩,false):=by rw[Im,oU];rfl
 rw[Ip,oW,hleaf,aP,cw,pY,jS];show(bif false then _ else(((f67 Pf) 5).bind _))=_;rw[cw,Io,oV];rfl
theorem SA {ps:List TParam} {l:af}:(f47 Pf) ps (q9 l)=some (⟨50,[],0,0,[]⟩,true):=by
 have hleaf:(f66 Pf) ps (q9 l)=some (⟨0,[],0,0,[]⟩,false):=by rw[Im,oU];rfl
 rw[Ip,oW,hleaf,aP,cw,pY,jS];show(bif false then _ else(((f67 Pf) 6).bind _))=_;rw[cw,Io,oV];rfl
theorem SB {l:af} (hk:1<=l.Kind):isNone (bG l)=false:=by
 have:(l.Kind==0)=false:=by simp;omega
 simp[isNone,bG,this]
section
variable {B:Nat} (hB:B<=1048576)
include hB
theorem SC {l:af} {ps:List TParam} {n:aj} {x:ab} (hl:l.ok B) (hk:1<=l.Kind) (ha:(f101 Pf) ⟨l,ps⟩ n (bG l)=some (.ret x)) (ht:x.aA=bG l) (hat:x.At=n.At\/x.At=0):
  (f73 Pf) ⟨l,ps⟩ n (bG l)=some (.ret {Op:=x.Op,aA:=bG l,N:=x.N,Text:=x.Text,At:=n.At,Kids:=x.Kids}):=by
 rw[Iq,oX,ha];show(((f102 Pf) x.aA.aF).bind _)=_;rw[ht];show(((f102 Pf) l).bind _)=_;rw[vQ hB l hl,nA,SB hk];simp only[aP,BM,bZ];obtain⟨r,q,hr⟩:=pA (a:=bG l) (b:=bG l) hB hl;have:r=true:=hr.2 rfl;subst this;show(((f55 Pf) (bG l) (bG l)).bind _)=_;rw[q];rfl
theorem SQ {l:af} {ps:List TParam} (hl:l.ok B) (hk:1<=l.Kind):(f73 Pf) ⟨l,ps⟩ ⟨49,[],0,3,[]⟩ (bG l)=some (.ret (cg l)):=by
 have ha:(f101 Pf) ⟨l,ps⟩ ⟨49,[],0,3,[]⟩ (bG l)=some (.ret {Op:=5,aA:=bG l,N:=0,Text:=[],At:=0,Kids:=[]}):=by
  rw[Hr,oC,ec,ec,ec,of_eq];rfl
 exact SC hB hl hk ha rfl (.inr rfl)
theorem SR {l:af} {ps:List TParam} (hl:l.ok B) (hk:1<=l.Kind):(f73 Pf) ⟨l,ps⟩ ⟨50,[],0,0,[]⟩ (bG l)=some (.ret (q9 l)):=by
 have ha:(f101 Pf) ⟨l,ps⟩ ⟨50,[],0,0,[]⟩ (bG l)=some (.ret {Op:=6,aA:=bG l,N:=0,Text:=[],At:=0,Kids:=[]}):=by
  rw[Hr,oC,ec,ec,ec,nA,SB hk];rfl
 exact SC hB hl hk ha rfl (.inr rfl)
omit hB in
theorem SF {l:af} (hl:l.ok B):(cg l).ok B:=by
 rw[ab.dv];exact⟨(by decide:(Lit.int .i64 5).wf=true),⟨(by decide:(Lit.int .i64 0).wf=true),hl⟩,(by decide:(Lit.int .i64 0).wf=true),by simp[cg],(by decide:(Lit.int .i64 3).wf=true),by simp[cg],by simp[cg,ab.dR]⟩
omit hB in
theorem SG {l:af} (hl:l.ok B):(q9 l).ok B:=by
 rw[ab.dv];exact⟨(by decide:(Lit.int .i64 6).wf=true),⟨(by decide:(Lit.int .i64 0).wf=true),hl⟩,(by decide:(Lit.int .i64 0).wf=true),by simp[q9],(by decide:(Lit.int .i64 0).wf=true),by simp[q9],by simp[q9,ab.dR]⟩
omit hB in
theorem SD (b:ab):(f46 Pf) (q7 b)=some true:=by
 have h1:(f63 Pf) (q7 b).Name=some true:=by rw[pB _ (by simp[q7])];rfl
 have h2:(f63 Pf) (q7 b).On=some true:=by rw[pB _ (by simp[q7])];rfl
 have h3:(iL Pf) (q7 b) 0=some true:=by rw[nT,jx];rfl
 rw[Aa,mE,h1,h2];show(iL Pf) (q7 b) 0=some true;exact h3
theorem vg {l:af} {f:bl} (hl:l.ok B) (hla:dp l) (hf:f.ok B) (h0:f.Result=0) (hform:(f46 Pf) f=some true):(f28 Pf) l (wB f (cg l))=some true:=by
 have hso:=SF (B:=B) hl;refine L8 hB (n:=⟨49,[],0,3,[]⟩) hl (GS hf hso) h0 ⟨L1 (by omega) hl hla,hla,by rw[DW f _ (by have:=hf.2.2.1.1;omega)];exact hform,?_,Sz,SQ hB hl hla.kind.1⟩;obtain⟨r,e,h⟩:=wo hB (ps:=f.Params) (cg l) hso;rw[Sz]at e;cases e;exact h rfl
theorem SN {l:af} {f:bl} (hl:l.ok B) (hla:dp l) (hf:f.ok B) (h0:f.Result=0) (hform:(f46 Pf) f=some true):(f28 Pf) l (wB f (q9 l))=some true:=by
 have hso:=SG (B:=B) hl;refine L8 hB (n:=⟨50,[],0,0,[]⟩) hl (GS hf hso) h0 ⟨L1 (by omega) hl hla,hla,by rw[DW f _ (by have:=hf.2.2.1.1;omega)];exact hform,?_,SA,SR hB hl hla.kind.1⟩;obtain⟨r,e,h⟩:=wo hB (ps:=f.Params) (q9 l) hso;rw[SA]at e;cases e;exact h rfl
omit hB in
theorem SE {l:af}:(f21 Pf) mB (cg l)=some true:=by
 rw[qR,ky,zZ,mC];rfl
omit hB in
theorem SU {l:af}:(f21 Pf) mB (q9 l)=some false:=by
 rw[qR,ky,xM rfl rfl rfl rfl];rfl
theorem SK {l:af} {f:bl} (haw:(f6 Pf)=some true) (hl:l.ok B) (hf:f.ok B) (h3:3<=B):(f4 Pf) l f=some true:=by
 rw[e4,B4,haw,aP,u1,cw];have hfb:=hf.2.2.2.2;refine ae.of (ae.bind (Lw hB hl) (λy3 q3=>ae.bif (λ_=>ae.ret rfl) (λe3=>?_)));obtain⟨hs,hla⟩:=q3 (by simpa using e3);have hst:=SF (B:=B) hl;have uf:∀b:ab,b.ok B->(q7 b).ok B:=λb hb=>⟨by simp[q7];omega,by simp[q7];omega,⟨by simp[q7],by simp[q7]⟩,(by decide:(Lit.int .i64 0).wf=true),hb⟩;have es:(f11 Pf) l=some (cg l):=ui l;have eu:∀b,(f10 Pf) b=some (q7 b):=λb=>Ic b;have k8:(f9 Pf) l (q7 (cg l))=some (true,0):=Ei rfl (vg hB (f:=q7 (cg l)) hl hla (uf _ hst) rfl (SD _)) SE;have k9:(f9 Pf) l (q7 (q9 l))=some (false,0):=Ei rfl (SN hB (f:=q7 (q9 l)) hl hla (uf _ (SG hl)) rfl (SD _)) SU;have e7:(f10 Pf) {Op:=6,aA:={aS:=0,aF:=l},N:=0,Text:=[],At:=0,Kids:=[]}=some (q7 (q9 l)):=eu (q9 l);rw[es,aP,eu,aP,e7,aP,k8,aP,k9,aP];obtain⟨y14,q14,h14⟩:=vB hB hl hf (by omega);have dL:eY (jn l f.Body (cg l))<1000000:=by rw[sQ];simp[jn,fq,sQ (cg l)];simp[cg,fq];omega
 obtain⟨y15,q15,h15⟩:=vB hB (f:=wB f (jn l f.Body (cg l))) hl (GS hf (SV hl hfb hst h3)) dL;refine ae.eq ?_;show(((f9 Pf) l f).bind λy14=>((f9 Pf) l (wB f (jn l f.Body (cg l)))).bind λy15=>bif y14.2 !=0 then some true else bif y15.2==0 then some y15.1 else some false)=some true;rw[q14,q15];simp only[aP];cases e:(y14.2 !=0)with
 |true=>rfl
 |false=>
  obtain⟨h0,vf,cf⟩:=h14 (by simpa using e);obtain⟨n,iv⟩:=DX hB hl hf h0 vf;have vs:=vg hB hl hla hf h0 iv.form;have k:=Ei (f:=wB f (jn l f.Body (cg l))) h0 (Ej hB hl hf h0 hfb hst (by omega) vf vs) (MF cf SE);rw[k]at q15;cases q15;rfl
