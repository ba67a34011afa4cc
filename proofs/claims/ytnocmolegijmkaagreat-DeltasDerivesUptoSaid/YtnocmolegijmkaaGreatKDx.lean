/- DeltasDerives. -/
import Derived.Test.YtnocmolegijmkaaGreatKDm
import Derived.Test.YtnocmolegijmkaaGreatKAw
import Derived.Test.YtnocmolegijmkaaGreatKGk
set_option linter.all false
namespace Go.Proofs.YtnocmolegijmkaaGreat
open Go Go.Bw
section
variable {B:Nat} (hB:B<=1048576)
include hB
theorem TV {l:ah} {f:bD} (hl:l.ok B) (hf:f.ok B):ag ((yZ Pu) l f) (λr=>(VX l f/\f.Result=0->r=(qd l f,0))/\(¬(VX l f/\f.Result=0)->r=(bD.z,1))):=by
 rw[e10,z8];refine ag.bind (Uq hB hl hf) (λy hy=>ag.bif (λg=>ag.ret ⟨λh=>?_,λ_=>rfl⟩) (λg=>ag.bif (λg2=>ag.ret ⟨λh=>?_,λ_=>rfl⟩) (λg2=>?_)))
 ·rw[hy.2 h.1]at g;cases g
 ·rw[h.2]at g2;cases g2
 ·have hv:=hy.1 (by simpa using g);have h0:f.Result=0:=by simpa using g2
  obtain⟨hce,htt,hw⟩:=hv.parts hB hl hf h0;have ed:(kq Pu) ⟨5,⟨0,l⟩,0,[],0,[]⟩ f.Body=some (bE bu (pY l) f.Body):=ZP hB hce hw (a7.of hv.1 hl) rfl hf.2.2.2.2 htt (pY l) (NL hB hl hf hv) rfl;rw[ed];exact ag.ret ⟨λ_=>rfl,λh=>absurd ⟨hv,h0⟩ h⟩
theorem Ur:(mK Pu) ab.z ab.z=some true:=by
 obtain⟨r,e1,hr⟩:=AZ (a:=ab.z.aj) (b:=ab.z.aj) hB (by show(⟨0,0,0,[],[],[]⟩:ah).ok B;simp only[ah.ok];exact⟨rfl,rfl,rfl,by simp,⟨by simp,by simp[ah.gu]⟩,by simp⟩);have e2:r=true:=hr.2 rfl;rw[SP,vG,e1,e2,ab.aB,Fw,rm,ab.aB];rfl
theorem TH {l:ah} {f:bD} (hl:l.ok B) (hf:f.ok B):(f3 Pf) l f=some true:=by
 rw[e3,B3,x10,x11,x7,x8,x9,Yk,aq,qx,a6];refine ag.of (ag.bind (Ut f) (λy hy=>ag.bif (λ_=>ag.ret rfl) (λ_=>?_)));obtain⟨r,e,h1,h2⟩:=Uu hB hl hf;obtain⟨s,e',k1,k2⟩:=TV hB hl hf;rw[e,e',aq,aq];by_cases h:VX l f/\f.Result=0
 ·rw[h1 h,k1 h];refine ag.bif (λ_=>?_) (λg=>by cases g);show ag (((qg Pu) (qd l f) (qd l f)).bind _) _;rw[W3 hB hl (W4 hB hf) (W5 hB hl hf h.1 h.2)];exact ag.ret rfl
 ·rw[h2 h,k2 h];refine ag.bif (λ_=>?_) (λg=>by cases g);show ag (((qg Pu) bD.z bD.z).bind _) _;rw[Mi hB (o8 _) (Ur hB)];exact ag.ret rfl
end
set_option maxRecDepth 100000 in
theorem Th (xs:List AV) (h:tP Tryz.prog 1048576 Tryz.f3.params.toList xs):Bw.Pure env.toCx 3 xs (.ret (Pa true)):=by
 rw[Tryz.params3]at h;obtain⟨x,r,rfl,hx,x2,r2,rfl,hx2,hr⟩:=h;simp only[tP]at hr;subst hr;simp only[ow,Tryz.underlying26,Tryz.underlying34]at hx hx2;obtain⟨n,row,hx,rfl⟩:=hx;obtain⟨n2,row2,hx2,rfl⟩:=hx2;obtain⟨l,rfl,hl⟩:=ah.sh _ _ hx;obtain⟨f,rfl,hf⟩:=bD.sh _ _ hx2;exact p3 _ _ _ (TH (bU _) hl hf)
