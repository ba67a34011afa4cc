/- InflationJoins, InflationState. -/
import Derived.Test.YthlcjaanmbjcaaaGreatKIa
import Derived.Test.YthlcjaanmbjcaaaGreatKIb
set_option linter.all false
namespace Go.Proofs.YthlcjaanmbjcaaaGreat
open Go Go.Bw
def mB:bd:={path:=[]}
theorem pW {x k:ab} {i:Nat} (h:x.Kids[i]? =some k):(f30 Pf) x i=some k:=by
 obtain⟨r,e,hr⟩:=wM x i;rcases hr with hr|⟨hr,_⟩
 ·rw[h]at hr;cases hr;exact e
 ·rw[uX hr]at h;cases h
section
variable {B:Nat} (hB:B<=1048576)
include hB
theorem vB {l:af} {f:bl} (hl:l.ok B) (hf:f.ok B) (hs:eY f.Body<1000000):ae ((f9 Pf) l f) (λr=>r.2=0->f.Result=0/\(f28 Pf) l f=some true/\(f21 Pf) mB f.Body=some r.1):=by
 rw[e9,B9,Ib,oK];have hb:=hf.2.2.2.2;refine ae.bind (P:=λy=>y=true->f.Result=0/\(f28 Pf) l f=some true) ?_ (λy1 h1=>ae.bif (λ_=>ae.ret λe=>by cases e) (λe1=>?_))
 ·refine ae.bif (λh=>?_) (λ_=>ae.ret λe=>by cases e);obtain⟨r,q,_⟩:=Lv hB hl hf;rw[q,aP];exact ae.ret λe=>⟨by simpa using h,by rw[e]⟩
 ·have h1:=h1 (by simpa using e1);obtain⟨r,q,_⟩:=(PO hB hb (t:=mB) (by simp[mB];omega)).gQ;show ae (((f21 Pf) mB f.Body).bind _) _;rw[q,aP];exact ae.ret λ_=>⟨h1.1,h1.2,rfl⟩
theorem Lw {l:af} {f:bl} (hl:l.ok B):ae ((f7 Pf) l f) (λr=>r=true->eY f.Body<=80/\dp l):=by
 rw[e7,B7];refine ae.bind (vl f.Body (k:=80) (by omega) (by omega)) (λy1 h1=>ae.bif (λe1=>ae.bif (λ_=>?_) (λ_=>ae.ret λe=>by cases e)) (λ_=>ae.ret λe=>by cases e));refine ae.bind (KS (by omega) hl) (λy4 h4=>ae.ret λe=>⟨by have:=h1 e1;omega,h4 (by simpa using e)⟩)
