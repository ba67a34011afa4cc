/- The elaborator answers well-typed expressions, or a fault; types.Valid answers, and true only to well-typed functions. -/
import Derived.Test.YtfgnmgbiijpkiaaGreatKVa6
set_option linter.all false
namespace Go.Proofs.YtfgnmgbiijpkiaaGreat
open Go Go.Bw
theorem UR (t:List UInt8):ag ((f197 Pf) t) (λr=>(r= -1/\(t=[115,101,116]\/t=dC\/t=dg))\/(r=3/\t=[119,114,105,116,101])\/(r=2/\t=[112,97,105,114])\/(r=1/\t≠[115,101,116]/\t≠dC/\t≠dg/\t≠[119,114,105,116,101]/\t≠[112,97,105,114])):=by
 rw[eu,dL]
 repeat' (first|refine ag.bif (λh=>?_) (λh=>?_)|refine ag.ret ?_)
 all_goals (simp at*;simp[dC,dg, *])
theorem sG {D:Type}:∀l:List (D×D),(l.flatMap λq=>[q.1,q.2]).length=2*l.length
 |[]=>rfl
 |q::l=>by rw[u3,jV,sG l];simp;omega
theorem wH {n:ab} (h:n.Kind=51) (ht:n.Text=dC\/n.Text=dg):fh n=n.Kids.flatMap (·.Kids):=by
 rw[fh,h];rcases ht with e|e<;>rw[e]<;>rfl
theorem AT {n:ab} (h1:n.Text≠dC) (h2:n.Text≠dg):fh n=n.Kids:=by
 have e1:(n.Text==dC)=false:=by simpa using h1
 have e2:(n.Text==dg)=false:=by simpa using h2
 rw[fh,e1,e2];simp
section
variable {B:Nat} (hB:B<=1048576) {c:bO} (hc:CE B c)
theorem qp {ks:List Int} {w:az} {n:ab} (hk:ks.length<9223372036854775807):af ((f198 Pf) ks w n) (λ_=>w.aP=0/\w.aj.Kind∈ks) dW:=by
 rw[GK,rn];refine af.bif (λ_=>fC _ _) (λhs=>?_);refine af.aB (kq ks _ hk) ?_;refine af.bif (λ_=>fC _ _) (λhm=>af.ret ⟨by simpa using hs,?_⟩);simp only[r6,ka,beq_iff_eq]at hm;obtain⟨k,h1,h2⟩:=hm;rw[h2];exact h1
include hB in
theorem YJ {n:ab} {w:az} (hw:bq B w) (hs:w.aP=0) (hk:w.aj.Kind=4\/w.aj.Kind=10) (hn:n.Kids.length<=B) (ih:∀k∈n.Kids,EE B c k):af ((gz Pf) c n w 0 []) (AP B c w) dW:=by
 have h:=oW (L:=λi (b:List ae)=>(gz Pf) c n w i b) (P:=AP B c w) (E:=dW) (len:=n.Kids.length) (λi b=>b.length=i/\∀x∈b,W c.l c.params x (aL 0)/\(x.ai.aP=3\/x.ai.aP=4)) (λi b hi hI k=>by
   show af ((gz Pf) c n w i b) _ _;rw[pe,kT,ab.aD,aY];have:decide (i<n.Kids.length)=true:=by simpa using hi
   obtain⟨e,he⟩:=bh hi;rw[this,aV,bj he,aw,bP i (by omega)];refine af.aA (ih e (bw he) (aL 0) (.inl rfl)) (λy hy=>?_);have hlen:decide ((b++[ae.z]).length<=274877906944)=true:=by simp;omega
   rw[hlen,aV,ae.aD,lI,fj,kX];have e1:(b++[ae.z])[b.length]? =some ae.z:=by simp
   have e2:IntKind.i64.wrap ((((ae.rows b++ae.rows [ae.z]).length:Nat):Int)-1)=(b.length:Int):=by
    rw[jV,ae.aD,ae.aD,wrap64 (by simp<;>omega) (by simp<;>omega)];simp
   have e3:(b++[y])[b.length]? =some y:=by simp
   rw[e1,aw,e2,lI,e3,aw];have go:(y.ai.aP=3\/y.ai.aP=4)->af ((gz Pf) c n w ((i+1:Nat):Int) (b++[y])) (AP B c w) dW:=λhsy=>by
    refine k _ ⟨by simp[hI.1],λx hx=>?_⟩;rcases cJ.1 hx with hx|hx
    ·exact hI.2 x hx
    ·simp at hx;subst hx;exact⟨hy.2.2.2,hsy⟩
   refine af.bif (λ_=>?_) (λh=>go (.inl (by simpa using h)));exact af.bif (λ_=>fC _ _) (λh=>go (.inr (by simpa using h)))) (λb hI=>by
   show af ((gz Pf) c n w _ b) _ _;rw[pe,kT,ab.aD,aY];have:decide (n.Kids.length<n.Kids.length)=false:=by simp
   rw[this,bp];exact af.ret ⟨hw,λa _=> .jO hs hk (by show b.length<=_;have:=hI.1;omega) (λx hx=>(hI.2 x hx).1) (λx hx=>(hI.2 x hx).2)⟩) 0 [] (by omega) ⟨rfl,by simp⟩
 exact h
include hB in
theorem YK {n:ab} {w:az} (hw:bq B w) (hs:w.aP=0) (hk:w.aj.Kind=5) (hn:n.Kids.length<=B) (ih:∀e∈n.Kids,∃a b,e.Kids=[a,b]/\EE B c a/\EE B c b):af ((jy Pf) c n w 0 []) (AP B c w) dW:=by
 obtain⟨p,hp⟩:=tX (hw.dy hs).1 hk;have hwp:bq B (b7 p):=iT hw hs (by rw[hp];simp);have h:=oW (L:=λi (b:List ae)=>(jy Pf) c n w i b) (P:=AP B c w) (E:=dW) (len:=n.Kids.length) (λi b=>b.length=2*i/\∃qs:List (ae×ae),b=(qs.flatMap λq=>[q.1,q.2])/\∀q∈qs,W c.l c.params q.1 (aL 3)/\W c.l c.params q.2 (b7 p)) (λi b hi hI k=>by
   show af ((jy Pf) c n w i b) _ _;rw[sP,mL,ab.aD,aY];have:decide (i<n.Kids.length)=true:=by simpa using hi
   obtain⟨e,he⟩:=bh hi;obtain⟨x,z,hxz,hx,hz⟩:=ih e (bw he);rw[this,aV,bj he,aw,bP i (by omega),hxz,hp];refine af.aB (v:=x) rfl (af.aB (bC 3) ?_);refine af.aA (hx (aL 3) (.inr (bq.sort (by simp)))) (λu hu=>?_);have hlen:decide ((b++[ae.z]).length<=274877906944)=true:=by simp;omega
   rw[hlen,aV,ae.aD,fj,kX];have e1:(b++[ae.z])[b.length]? =some ae.z:=by simp
   refine af.aB (er e1) (af.aB (v:=z) rfl (af.aB (v:=p) rfl (af.aB (of_eq p) ?_)));refine af.aA (hz (b7 p) (.inr hwp)) (λv hv=>?_);have hlen2:decide (((b++[u])++[ae.z]).length<=274877906944)=true:=by simp;omega
   have e2:(((ae.rows b++ae.rows [ae.z]).length:Nat):Int)=(((b++[u]).length:Nat):Int):=by
    rw[jV,ae.aD,ae.aD];simp
   have e3:((b++[u])++[ae.z])[(b++[u]).length]? =some ae.z:=by simp
   rw[hlen2,aV,e2];refine af.aB (er e3) ?_;rw[fj,kX];refine k _ ⟨by simp[hI.1];omega,?_⟩;obtain⟨qs,hb,hq⟩:=hI.2;refine⟨qs++[(u,v)],by rw[hb];simp,λq hm=>?_⟩;rcases cJ.1 hm with hm|hm
   ·exact hq q hm
   ·simp at hm;subst hm;exact⟨hu.2.2.2,hv.2.2.2⟩) (λb hI=>by
   show af ((jy Pf) c n w _ b) _ _;rw[sP,mL,ab.aD,aY];have:decide (n.Kids.length<n.Kids.length)=false:=by simp
   rw[this,bp];obtain⟨hlb,qs,rfl,hq⟩:=hI;exact af.ret ⟨hw,λa _=> .map hs hk (p:=p) (by show qs.length<=_;rw[sG]at hlb;omega) (by rw[hp];rfl) (λq hm=>(hq q hm).1) (λq hm=>(hq q hm).2)⟩) 0 [] (by omega) ⟨rfl,[],rfl,by simp⟩
 exact h
include hB in
theorem XF {n:ab} {w:az} (hw:bY B w) (h51:n.Kind=51) (hs:dJ n) (hn:n.Kids.length<=B) (ih:∀k∈fh n,EE B c k):af ((f159 Pf) c n w) (AP B c w) dW:=by
 have hs:(n.Text=dC->∀e∈n.Kids,e.Kids.length=2)/\(n.Text=dg->∀e∈n.Kids,e.Kids.length=1):=by
  unfold dJ at hs;rcases hs with h|h|h|h|h
  ·omega
  ·omega
  ·omega
  ·omega
  ·exact h.2
 have s1:bY B (aL 1):= .inr (bq.sort (by simp));have s2:bY B (aL 2):= .inr (bq.sort (by simp));have s3:bY B (aL 3):= .inr (bq.sort (by simp));have wty:∀ks:List Int,(0:Int)∉ks->(w.aP=0/\w.aj.Kind∈ks)->bq B w:=λks h0 h=>hw.some (hw.kind h.1 (λe=>h0 (by rw[<-e];exact h.2))).2.2;rw[ew,dM];refine af.bind (UR n.Text) (λr hr=>?_);refine af.bif (λh0=>?_) (λh0=>?_)
 ·have h0:0<=r:=by simpa using h0
  have nm:n.Text≠dC/\n.Text≠dg/\n.Text≠[115,101,116]:=by
   rcases hr with h|⟨_,h⟩|⟨_,h⟩|h
   ·omega
   ·rw[h];exact⟨by decide,by decide,by decide⟩
   ·rw[h];exact⟨by decide,by decide,by decide⟩
   ·exact⟨h.2.2.1,h.2.2.2.1,h.2.1⟩
  rw[AT nm.1 nm.2.1]at ih;refine af.bif (λ_=>fC _ _) (λhl=>?_);have hl:r=(n.Kids.length:Int):=by rw[ab.aD]at hl;simpa using hl
  have one:n.Text≠[119,114,105,116,101]->n.Text≠[112,97,105,114]->∃x,n.Kids=[x]:=λh1 h2=>iZ (by
   rcases hr with h|h|h|h
   ·omega
   ·exact absurd h.2 h1
   ·exact absurd h.2 h2
   ·omega)
  refine af.bif (λht=>?_) (λ_=>?_)
  ·have ht:n.Text=[102,108,97,103]:=by simpa using ht
   obtain⟨x,hx⟩:=one (by rw[ht];decide) (by rw[ht];decide);rw[hx]at ih⊢;refine af.cx (λ_ h=>h.ref) (qp (by simp)) (λ_ hk=>?_);refine af.aB (v:=x) rfl (af.aB (bC 2) ?_);refine af.aA (ih x (by simp) (aL 2) s2) (λy hy=>?_);exact af.ret ⟨wty _ (by simp) hk,λa _=> .flag hk.1 (by simpa using hk.2) hy.2.2.2⟩
  refine af.bif (λht=>?_) (λ_=>?_)
  ·have ht:n.Text=[110,117,109]:=by simpa using ht
   obtain⟨x,hx⟩:=one (by rw[ht];decide) (by rw[ht];decide);rw[hx]at ih⊢;refine af.cx (λ_ h=>h.ref) (qp (by simp)) (λ_ hk=>?_);refine af.aB (v:=x) rfl (af.aB (bC 1) ?_);refine af.aA (ih x (by simp) (aL 1) s1) (λy hy=>?_);exact af.ret ⟨wty _ (by simp) hk,λa _=> .num hk.1 (by simpa using hk.2) hy.2.2.2⟩
  refine af.bif (λht=>absurd (by simpa using ht) nm.2.2) (λ_=>?_);refine af.bif (λht=>absurd (eq_of_beq ht) nm.1) (λ_=>?_);refine af.bif (λht=>absurd (eq_of_beq ht) nm.2.1) (λ_=>?_);refine af.bif (λht=>?_) (λhp=>?_)
  ·have ht:n.Text=[112,97,105,114]:=by simpa using ht
   obtain⟨x,z,hx⟩:=gC (l:=n.Kids) (by
    rcases hr with h|h|h|h
    ·omega
    ·have:=h.2;rw[ht]at this;exact absurd this (by decide)
    ·omega
    ·exact absurd ht h.2.2.2.2.2)
   rw[hx]at ih⊢;refine af.cx (λ_ h=>h.ref) (qp (by simp)) (λ_ hk=>?_);have hw':=wty _ (by simp) hk;have h7:w.aj.Kind=7:=by simpa using hk.2
   obtain⟨p,q,hp⟩:=tY (hw'.dy hk.1).1 h7;rw[hp];refine af.aB (v:=x) rfl (af.aB (v:=p) rfl (af.aB (of_eq p) ?_));refine af.aA (ih x (by simp) _ (.inr (iT hw' hk.1 (by rw[hp];simp)))) (λu hu=>?_);refine af.bif (λ_=>?_) (λe=>absurd e (by simp));refine af.aB (v:=ae.z) rfl (af.aB (v:=z) rfl (af.aB (v:=q) rfl (af.aB (of_eq q) ?_)));refine af.aA (ih z (by simp) _ (.inr (iT hw' hk.1 (by rw[hp];simp)))) (λv hv=>?_);refine af.bif (λ_=>?_) (λe=>absurd e (by simp));refine af.aB (v:=ae.z) rfl ?_;exact af.ret ⟨hw',λa _=> .pair hk.1 h7 (p:=p) (q:=q) (by rw[hp];rfl) (by rw[hp];rfl) hu.2.2.2 hv.2.2.2⟩
  have hp:n.Text≠[112,97,105,114]:=by simpa using hp
  refine af.bif (λht=>?_) (λ_=>?_)
  ·have ht:n.Text=[111,110,101]:=by simpa using ht
   obtain⟨x,hx⟩:=one (by rw[ht];decide) (by rw[ht];decide);rw[hx]at ih⊢;refine af.cx (λ_ h=>h.ref) (qp (by simp)) (λ_ hk=>?_);refine af.aB (v:=x) rfl (af.aB (bC 3) ?_);refine af.aA (ih x (by simp) (aL 3) s3) (λy hy=>?_);exact af.ret ⟨wty _ (by simp) hk,λa _=> .one hk.1 (by simpa using hk.2) hy.2.2.2⟩
  refine af.bif (λht=>?_) (λhwr=>?_)
  ·have ht:n.Text=[119,114,105,116,101]:=by simpa using ht
   obtain⟨x,y,z,hx⟩:=ni (l:=n.Kids) (by
    rcases hr with h|h|h|h
    ·omega
    ·omega
    ·have:=h.2;rw[ht]at this;exact absurd this (by decide)
    ·exact absurd ht h.2.2.2.2.1)
   rw[hx]at ih⊢;have wr:bq B (b7 eF):=bq.of vB (vR B);refine af.aB (of_eq eF) (af.aB (v:=x) rfl ?_);refine af.aA (ih x (by simp) _ (.inr wr)) (λu hu=>?_);refine af.bif (λ_=>?_) (λe=>absurd e (by simp));refine af.aB (v:=ae.z) rfl (af.aB (v:=y) rfl (af.aB (bC 1) ?_));refine af.aA (ih y (by simp) _ s1) (λv hv=>?_);refine af.bif (λ_=>?_) (λe=>absurd e (by simp));refine af.aB (v:=ae.z) rfl (af.aB (v:=z) rfl (af.aB (bC 3) ?_));refine af.aA (ih z (by simp) _ s3) (λt ht=>?_);refine af.bif (λ_=>?_) (λe=>absurd e (by simp));refine af.aB (v:=ae.z) rfl ?_;exact af.ret ⟨wr,λa hf=> .write hu.2.2.2 hv.2.2.2 ht.2.2.2 hf⟩
  obtain⟨x,hx⟩:=one (by simpa using hwr) hp;exact af.aA (U6 hx (ih x (by rw[hx];simp))) λy hy=>af.ret hy
 ·have h0:r<0:=by simpa using h0
  have hm:n.Text=[115,101,116]\/n.Text=dC\/n.Text=dg:=by
   rcases hr with h|h|h|h
   ·exact h.2
   ·omega
   ·omega
   ·omega
  have no:∀t:List UInt8,t≠[115,101,116]->t≠dC->t≠dg->(n.Text==t)=true->False:=λt h1 h2 h3 e=>by
   have e:n.Text=t:=by simpa using e
   rw[e]at hm;rcases hm with h|h|h
   ·exact h1 h
   ·exact h2 h
   ·exact h3 h
  refine af.bif (λht=>(no _ (by decide) (by decide) (by decide) ht).elim) (λ_=>?_);refine af.bif (λht=>(no _ (by decide) (by decide) (by decide) ht).elim) (λ_=>?_);refine af.bif (λht=>?_) (λhns=>?_)
  ·have ht:n.Text=[115,101,116]:=by simpa using ht
   rw[AT (by rw[ht];decide) (by rw[ht];decide)]at ih;refine af.cx (λ_ h=>h.ref) (qp (by simp)) (λ_ hk=>?_);exact YJ hB (wty _ (by simp) hk) hk.1 (by simpa using hk.2) hn ih
  refine af.bif (λht=>?_) (λhnm=>?_)
  ·have ht:n.Text=dC:=eq_of_beq ht;rw[wH h51 (.inl ht)]at ih;refine af.cx (λ_ h=>h.ref) (qp (by simp)) (λ_ hk=>?_);refine YK hB (wty _ (by simp) hk) hk.1 (by simpa using hk.2) hn (λe he=>?_);obtain⟨a,b,hab⟩:=gC (hs.1 ht e he);exact⟨a,b,hab,ih a (ef.2 ⟨e,he,by rw[hab];simp⟩),ih b (ef.2 ⟨e,he,by rw[hab];simp⟩)⟩
  have ht:n.Text=dg:=by
   rcases hm with h|h|h
   ·rw[h]at hns;simp at hns
   ·rw[h]at hnm;simp[dC]at hnm
   ·exact h
  refine af.bif (λ_=>?_) (λe=>by rw[ht]at e;simp[dg]at e);rw[wH h51 (.inr ht)]at ih;refine af.cx (λ_ h=>h.ref) (qp (by simp)) (λ_ hk=>?_);have hw':=wty _ (by simp) hk;have h6:w.aj.Kind=6:=by simpa using hk.2
  refine af.aA (VS hB (hw'.dy hk.1).1 (hw'.dy hk.1).2 h6 hn (λe he=>?_)) (λy hy=>?_)
  ·obtain⟨a,ha⟩:=iZ (hs.2 ht e he);exact⟨a,ha,ih a (ef.2 ⟨e,he,by rw[ha];simp⟩)⟩
  ·exact af.ret ⟨hw',λa _=> .kI hk.1 h6 (by have ho:=(hw'.dy hk.1).2;rw[ah.c8]at ho;have:=ho.2.2.2.2.1.1;rw[hy.1];omega) hy.1 hy.2⟩
include hB in
theorem U7 {n:ab} {w:az} (hw:bY B w) (hs:dJ n) (hk:n.Kind=30\/n.Kind=36\/n.Kind=38\/n.Kind=39\/n.Kind=42\/n.Kind=43) (hW:∀k∈n.Kids,WN B k) (ih:∀k∈n.Kids,EE B c k):af ((f160 Pf) c n w) (AP B c w) dW:=by
 have s2:bY B (aL 2):= .inr (bq.sort (by simp));rw[kA,ie];refine af.aB (bC 2) ?_;refine af.bif (λh=>?_) (λn30=>?_)
 ·have h:n.Kind=30:=by simpa using h
  obtain⟨x,y,z,hx⟩:=ni (l:=n.Kids) (by unfold dJ at hs;omega);rw[hx]at hW ih⊢;refine af.aB (v:=x) rfl (af.aA (ih x (by simp) _ s2) λu hu=>?_);refine af.aB (fD w) ?_;refine af.bif (λhn=>?_) (λhn=>?_)
  ·have hn:isNone w=true:=hn;refine af.aB (v:=y) rfl (af.aB (v:=z) rfl ?_);refine af.aA (Cu (hW y (by simp)) (hW z (by simp)) (ih y (by simp)) (ih z (by simp))) (λr hr=>?_);rcases hr with⟨h1,h2,_⟩|⟨h1,h2,_⟩
   ·exact af.ret ⟨h1.2.1,λa _=> .nE hn hu.2.2.2 h1.2.2.2 h2.2.2.2⟩
   ·exact af.ret ⟨h2.2.1,λa _=> .nF hn hu.2.2.2 h1.2.2.2 h2.2.2.2⟩
  ·have hn:isNone w=false:=hn;refine af.aB (v:=y) rfl (af.aA (ih y (by simp) _ hw) λv hv=>?_);refine af.aB (v:=z) rfl (af.aA (ih z (by simp) _ hw) λt ht=>?_);refine af.ret ⟨hv.2.1,λa _=>?_⟩;show W c.l c.params ⟨7,v.ai,0,[],a,[u,v,t]⟩ w;rw[<-hv.2.2.1 hn];exact .nD hn hu.2.2.2 hv.2.2.2 ht.2.2.2
 refine af.bif (λh=>?_) (λn36=>?_)
 ·have h:n.Kind=36:=by simpa using h
  obtain⟨x,y,hx⟩:=gC (l:=n.Kids) (by unfold dJ at hs;omega);rw[hx]at ih⊢;refine af.aB (v:=x) rfl (af.aA (ih x (by simp) _ (.inl rfl)) λu hu=>?_);refine af.bif (λ_=>af.aB (v:=x) rfl (fC _ _)) (λhs0=>?_);refine af.aB (v:=y) rfl (af.aA (ih y (by simp) _ (.inr hu.2.1)) λv hv=>?_);exact af.ret ⟨bq.sort (by simp),λa hf=> .equal hu.2.2.2 (by simpa using hs0) hv.2.2.2 hf⟩
 refine af.bif (λh=>?_) (λn38=>?_)
 ·have h:n.Kind=38:=by simpa using h
  obtain⟨x,y,hx⟩:=gC (l:=n.Kids) (by unfold dJ at hs;omega);rw[hx]at hW ih⊢;refine af.aB (v:=x) rfl (af.aB (v:=y) rfl ?_);refine af.aA (Cu (hW x (by simp)) (hW y (by simp)) (ih x (by simp)) (ih y (by simp))) (λr hr=>?_);rcases hr with⟨h1,h2,h3⟩|⟨h1,h2,h3⟩
  ·exact af.ret ⟨bq.sort (by simp),λa hf=> .oE h1.2.2.2 (h3 rfl) h2.2.2.2 hf⟩
  ·exact af.ret ⟨bq.sort (by simp),λa hf=> .oF h1.2.2.2 (h3 rfl) h2.2.2.2 hf⟩
 refine af.bif (λh=>?_) (λn39=>?_)
 ·have h:n.Kind=39:=by simpa using h
  obtain⟨x,y,hx⟩:=gC (l:=n.Kids) (by unfold dJ at hs;omega);refine af.aB (fD w) ?_;refine af.bif (λhn=>?_) (λhn=>?_)
  ·have hn:isNone w=false:=by simpa using hn
   refine af.bif (λ_=>fC _ _) (λhs0=>?_);refine af.aA (Me hx (ih x (by rw[hx];simp)) (ih y (by rw[hx];simp)) hw hw) (λr hr=>?_);obtain⟨u,v,rfl,hu,hv⟩:=hr;exact af.ret ⟨hw.some hn,λa _=> .nj hn (by simpa using hs0) hu.2.2.2 hv.2.2.2⟩
  ·have hn:isNone w=true:=by simpa using hn
   rw[hx]at hW ih⊢;refine af.aB (v:=x) rfl (af.aB (v:=y) rfl ?_);refine af.aA (Cu (hW x (by simp)) (hW y (by simp)) (ih x (by simp)) (ih y (by simp))) (λr hr=>?_);rcases hr with⟨h1,h2,h3⟩|⟨h1,h2,h3⟩
   ·exact af.ret ⟨h1.2.1,λa hf=> .nk hn h1.2.2.2 (h3 rfl) h2.2.2.2⟩
   ·exact af.ret ⟨h2.2.1,λa hf=> .nq hn h1.2.2.2 (h3 rfl) h2.2.2.2⟩
 refine af.bif (λh=>?_) (λn42=>?_)
 ·have h:n.Kind=42:=by simpa using h
  obtain⟨x,hx⟩:=iZ (l:=n.Kids) (by unfold dJ at hs;omega);rw[hx]at ih⊢;refine af.aB (v:=x) rfl (af.aA (CB (by simp) (ih x (by simp))) λu hu=>?_);have h6:u.ai.aj.Kind=6:=by simpa using hu.2.2
  have hl:=(hu.1.2.1.dy hu.2.1);have hnl:u.ai.aj.Names.length<=B:=by have:=hl.2;rw[ah.c8]at this;exact this.2.2.2.1.1
  refine af.aB (qw _ _ (by omega)) ?_;refine af.bif (λ_=>fC _ _) (λh2=>?_);obtain⟨j,t,hj,ht,_⟩:=yn (by simpa using h2);rw[hj];have hjl:=(cr.1 ht).1;obtain⟨p,hp⟩:=bh (l:=u.ai.aj.ax) (i:=j) (by rw[qZ hl.1 h6];exact hjl);refine af.aB (er hp) (af.aB (of_eq p) ?_);exact af.ret ⟨iT hu.1.2.1 hu.2.1 (bw hp),λa hf=> .field hu.1.2.2.2 hu.2.1 h6 hjl hp hf⟩
 have h:n.Kind=43:=by simp at n30 n36 n38 n39 n42;omega
 obtain⟨x,y,hx⟩:=gC (l:=n.Kids) (by unfold dJ at hs;omega);rw[hx]at ih⊢;refine af.aB (v:=x) rfl (af.aA (CB (by simp) (ih x (by simp))) λu hu=>?_);have h5:u.ai.aj.Kind=5:=by simpa using hu.2.2
 obtain⟨p,hp⟩:=tX (hu.1.2.1.dy hu.2.1).1 h5;refine af.aB (v:=y) rfl (af.aB (bC 3) (af.aA (ih y (by simp) _ (.inr (bq.sort (by simp)))) λv hv=>?_));rw[hp];refine af.aB (v:=p) rfl (af.aB (of_eq p) ?_);exact af.ret ⟨iT hu.1.2.1 hu.2.1 (by rw[hp];simp),λa hf=> .at_ hu.1.2.2.2 hu.2.1 h5 (by rw[hp];rfl) hv.2.2.2 hf⟩
include hB hc in
theorem NN {n:ab} {w:az} (hw:bY B w) (h:WN B n) (ih:∀k∈fh n,EE B c k):af ((f91 Pf) c n w) (AP B c w) dW:=by
 obtain⟨hs,hl,h44,h47,hk⟩:=h;have s1:bY B (aL 1):= .inr (bq.sort (by simp));have s2:bY B (aL 2):= .inr (bq.sort (by simp));have s3:bY B (aL 3):= .inr (bq.sort (by simp));have s4:bY B (aL 4):= .inr (bq.sort (by simp));have two:∀(op:Int) (a b t:az) (k:Int),n.Kind=k->31<=k/\k<=43/\k≠33/\k≠42->bY B a->bY B b->bq B t->(∀(u v:ae) (x:Int),W c.l c.params u a->W c.l c.params v b->Fit w t->W c.l c.params ⟨op,t,0,[],x,[u,v]⟩ w)->
   af (Bw.aA ((f158 Pf) c op n a b t) λy=>some (.ret y)) (AP B c w) dW:=by
  intro op a b t k hn hkk ha hb ht hW;obtain⟨x,y,hx⟩:=gC (l:=n.Kids) (by unfold dJ at hs;omega);rw[nb (by omega),hx]at ih;refine af.aA (Me hx (ih x (by simp)) (ih y (by simp)) ha hb) (λr hr=>?_);obtain⟨u,v,rfl,hu,hv⟩:=hr;exact af.ret ⟨ht,λq hf=>hW u v q hu.2.2.2 hv.2.2.2 hf⟩
 rw[eA,dN];refine af.aB (bC 2) (af.aB (bC 1) (af.aB (bC 3) ?_));refine af.bif (λh=>?_) (λ_=>?_)
 ·have:=h44 (by simpa using h);exact af.ret ⟨bq.sort (by simp),λa hf=> .int this.1 this.2 hf⟩
 refine af.bif (λ_=>af.ret ⟨bq.sort (by simp),λa hf=> .bool (.inr rfl) hf⟩) (λ_=>?_);refine af.bif (λ_=>af.ret ⟨bq.sort (by simp),λa hf=> .bool (.inl rfl) hf⟩) (λ_=>?_);refine af.bif (λh=>af.ret ⟨bq.sort (by simp),λa hf=> .name (h47 (by simpa using h)) hf⟩) (λ_=>?_);refine af.bif (λ_=>?_) (λ_=>?_)
 ·refine af.aB (E7 _ _ (by have:=hc.num;omega)) ?_;refine af.bif (λ_=>fC _ _) (λh2=>?_);obtain⟨j,p,hj,hp,_⟩:=yn (by simpa using h2);rw[hj];refine af.aB (er hp) (af.aB (bC _) ?_);exact af.ret ⟨bq.sort (hc.par p (bw hp)),λa hf=> .param hp hf⟩
 refine af.bif (λ_=>?_) (λ_=>?_)
 ·refine af.aB (of_eq _) ?_;exact af.ret ⟨bq.of hc.dy hc.ok,λa hf=> .state hf⟩
 refine af.bif (λ_=>?_) (λ_=>?_)
 ·refine af.bif (λ_=>fC _ _) (λh0=>?_);refine af.aB (fD w) ?_;refine af.bif (λ_=>fC _ _) (λhn=>?_);exact af.ret ⟨hw.some hn,λa hf=> .kZ (by simpa using h0) hn⟩
 refine af.bif (λh=>two 8 _ _ _ 31 (by simpa using h) (by decide) s2 s2 (bq.sort (by simp)) (λu v x hu hv hf=> .conn (.inl rfl) hu hv hf)) (λ_=>?_);refine af.bif (λh=>two 9 _ _ _ 32 (by simpa using h) (by decide) s2 s2 (bq.sort (by simp)) (λu v x hu hv hf=> .conn (.inr rfl) hu hv hf)) (λ_=>?_);refine af.bif (λh=>?_) (λ_=>?_)
 ·have h:n.Kind=33:=by simpa using h
  obtain⟨x,hx⟩:=iZ (l:=n.Kids) (by unfold dJ at hs;omega);rw[nb (by omega),hx]at ih;rw[hx];refine af.aB (v:=x) rfl (af.aA (ih x (by simp) _ s2) λu hu=>?_);exact af.ret ⟨bq.sort (by simp),λa hf=> .not hu.2.2.2 hf⟩
 refine af.bif (λh=>two 11 _ _ _ 34 (by simpa using h) (by decide) s1 s1 (bq.sort (by simp)) (λu v x hu hv hf=> .less (.inl rfl) hu hv hf)) (λ_=>?_);refine af.bif (λh=>two 12 _ _ _ 35 (by simpa using h) (by decide) s1 s1 (bq.sort (by simp)) (λu v x hu hv hf=> .less (.inr rfl) hu hv hf)) (λ_=>?_);refine af.bif (λh=>af.aB (bC 4) (two 14 _ _ _ 37 (by simpa using h) (by decide) s3 s4 (bq.sort (by simp)) (λu v x hu hv hf=> .oD hu hv hf))) (λ_=>?_);refine af.bif (λh=>two 17 _ _ _ 40 (by simpa using h) (by decide) s1 s1 (bq.sort (by simp)) (λu v x hu hv hf=> .ml (.inl rfl) hu hv hf)) (λ_=>?_);refine af.bif (λh=>two 18 _ _ _ 41 (by simpa using h) (by decide) s1 s1 (bq.sort (by simp)) (λu v x hu hv hf=> .ml (.inr rfl) hu hv hf)) (λ_=>?_);refine af.bif (λh=>af.aA (XF hB hw (by simpa using h) hs hl ih) λy hy=>af.ret hy) (λh51=>?_);have h51:n.Kind≠51:=by simpa using h51
 rw[nb h51]at ih hk;refine af.aA (U7 hB hw hs ?_ hk ih) λy hy=>af.ret hy;simp at*
 unfold dJ at hs;omega
include hB hc in
theorem Mb {n:ab} (h:WN B n):EE B c n:=by
 induction h with
 |mk hs hl h44 h47 hk ih=>exactλw hw=>NO hB hw (NN hB hc hw (.mk hs hl h44 h47 hk) ih)
end
inductive TT (B:Nat):ae->Prop
 |mk {y:ae}:bq B y.ai->(∀k∈y.Kids,TT B k)->TT B y
theorem TT.ty {B:Nat} {y:ae} (h:TT B y):bq B y.ai:=by cases h;assumption
theorem TT.mx {B:Nat} {y k:ae} (h:TT B y) (hk:k∈y.Kids):TT B k:=by cases h with|mk _ h=>exact h k hk
section
variable {B:Nat} {c:bO} (hc:CE B c)
include hc
theorem W.tt {y:ae} {w:az} (h:W c.l c.params y w):bY B w->TT B y:=by
 have s:∀n:Int,1<=n/\n<=4->bY B (aL n):=λn hn=> .inr (bq.sort hn);have s0:bY B (aL 0):= .inl rfl;have no:∀k∈([]:List ae),TT B k:=by simp
 have one:∀{x:ae},TT B x->∀k∈[x],TT B k:=λhx k hk=>by simp at hk;subst hk;exact hx
 have two:∀{x y:ae},TT B x->TT B y->∀k∈[x,y],TT B k:=λhx hy k hk=>by simp at hk;rcases hk with rfl|rfl<;>assumption
 have three:∀{x y z:ae},TT B x->TT B y->TT B z->∀k∈[x,y,z],TT B k:=λhx hy hz k hk=>by simp at hk;rcases hk with rfl|rfl|rfl<;>assumption
 have part:∀{t:az} {p:ah} {i:Nat},bq B t->t.aP=0->t.aj.ax[i]? =some p->bq B (b7 p):=λht hs hp=>iT ht hs (bw hp)
 induction h with
 |int _ _ _=>exactλ_=> .mk (bq.sort (by simp)) no
 |bool _ _=>exactλ_=> .mk (bq.sort (by simp)) no
 |name _ _=>exactλ_=> .mk (bq.sort (by simp)) no
 |param hp _=>exactλ_=> .mk (bq.sort (hc.par _ (bw hp))) no
 |state _=>exactλ_=> .mk (bq.of hc.dy hc.ok) no
 |kZ _ hn=>exactλhw=> .mk (hw.some hn) no
 |nD hn _ _ _ i1 i2 i3=>exactλhw=> .mk (hw.some hn) (three (i1 (s 2 (by simp))) (i2 hw) (i3 hw))
 |nE _ _ _ _ i1 i2 i3=>exactλ_=> .mk (i2 s0).ty (three (i1 (s 2 (by simp))) (i2 s0) (i3 (.inr (i2 s0).ty)))
 |nF _ _ _ _ i1 i2 i3=>exactλ_=> .mk (i3 (.inr (i2 s0).ty)).ty (three (i1 (s 2 (by simp))) (i3 (.inr (i2 s0).ty)) (i2 s0))
 |conn _ _ _ _ i1 i2=>exactλ_=> .mk (bq.sort (by simp)) (two (i1 (s 2 (by simp))) (i2 (s 2 (by simp))))
 |not _ _ i1=>exactλ_=> .mk (bq.sort (by simp)) (one (i1 (s 2 (by simp))))
 |less _ _ _ _ i1 i2=>exactλ_=> .mk (bq.sort (by simp)) (two (i1 (s 1 (by simp))) (i2 (s 1 (by simp))))
 |equal _ _ _ _ i1 i2=>exactλ_=> .mk (bq.sort (by simp)) (two (i1 s0) (i2 (.inr (i1 s0).ty)))
 |oD _ _ _ i1 i2=>exactλ_=> .mk (bq.sort (by simp)) (two (i1 (s 3 (by simp))) (i2 (s 4 (by simp))))
 |oE _ _ _ _ i1 i2=>exactλ_=> .mk (bq.sort (by simp)) (two (i1 s0) (i2 (.inr (i1 s0).ty)))
 |oF _ _ _ _ i1 i2=>exactλ_=> .mk (bq.sort (by simp)) (two (i2 (.inr (i1 s0).ty)) (i1 s0))
 |nj hn _ _ _ i1 i2=>exactλhw=> .mk (hw.some hn) (two (i1 hw) (i2 hw))
 |nk _ _ _ _ i1 i2=>exactλ_=> .mk (i1 s0).ty (two (i1 s0) (i2 (.inr (i1 s0).ty)))
 |nq _ _ _ _ i1 i2=>exactλ_=> .mk (i2 (.inr (i1 s0).ty)).ty (two (i2 (.inr (i1 s0).ty)) (i1 s0))
 |ml _ _ _ _ i1 i2=>exactλ_=> .mk (bq.sort (by simp)) (two (i1 (s 1 (by simp))) (i2 (s 1 (by simp))))
 |field _ hs _ _ hp _ i1=>exactλ_=> .mk (part (i1 s0).ty hs hp) (one (i1 s0))
 |at_ _ hs _ hp _ _ i1 i2=>exactλ_=> .mk (part (i1 s0).ty hs hp) (two (i1 s0) (i2 (s 3 (by simp))))
 |flag h0 hk _ i1=>exactλhw=> .mk (hw.some (hw.kind h0 (by rw[hk];decide)).2.2) (one (i1 (s 2 (by simp))))
 |num h0 hk _ i1=>exactλhw=> .mk (hw.some (hw.kind h0 (by rcases hk with hk|hk<;>rw[hk]<;>decide)).2.2) (one (i1 (s 1 (by simp))))
 |jO h0 hk _ _ _ i1=>exactλhw=> .mk (hw.some (hw.kind h0 (by rcases hk with hk|hk<;>rw[hk]<;>decide)).2.2) (λk hm=>i1 k hm s0)
 |map h0 hk _ hp _ _ i1 i2=>
  intro hw;have hw':=hw.some (hw.kind h0 (by rw[hk];decide)).2.2;refine .mk hw' (λk hm=>?_);obtain⟨q,h1,h2⟩:=ef.1 hm;simp at h2;rcases h2 with rfl|rfl
  ·exact i1 q h1 (s 3 (by simp))
  ·exact i2 q h1 (.inr (part hw' h0 hp))
 |kI h0 hk _ hl _ i1=>
  intro hw;have hw':=hw.some (hw.kind h0 (by rw[hk];decide)).2.2;refine .mk hw' (λk hm=>?_);obtain⟨i,hi⟩:=gr hm;obtain⟨p,hp⟩:=bh (i:=i) (by rw[<-hl];exact(cr.1 hi).1);exact i1 i k p hi hp (.inr (part hw' h0 hp))
 |pair h0 hk hp hq _ _ i1 i2=>
  intro hw;have hw':=hw.some (hw.kind h0 (by rw[hk];decide)).2.2;exact .mk hw' (two (i1 (.inr (part hw' h0 hp))) (i2 (.inr (part hw' h0 hq))))
 |one h0 hk _ i1=>exactλhw=> .mk (hw.some (hw.kind h0 (by rw[hk];decide)).2.2) (one (i1 (s 3 (by simp))))
 |write _ _ _ _ i1 i2 i3=>exactλ_=> .mk (bq.of vB (vR B)) (three (i1 (.inr (bq.of vB (vR B)))) (i2 (s 1 (by simp))) (i3 (s 3 (by simp))))
 |size _ _ _ i1=>exactλ_=> .mk (bq.sort (by simp)) (one (i1 s0))
 |sum _ _ _ _ _ _ i1=>exactλ_=> .mk (bq.sort (by simp)) (one (i1 s0))
 |oN hm _ _ _ _ i1=>exactλ_=> .mk (bq.sort (by simp at hm;omega)) (one (i1 s0))
 |part _ _ hs _ hp _ i1=>exactλ_=> .mk (part (i1 s0).ty hs hp) (one (i1 s0))
end
open Classical in
noncomputable def dO {D:Type} (a b:D):Bool:=decide (a=b)
theorem qK {D:Type} {a b:D}:dO a b=true↔a=b:=by simp[dO]
theorem tW {D:Type} {a b:D} {r:Bool} (h:r=true↔a=b):r=dO a b:=by rw[gu,h,qK]
theorem Ep {D:Type}:∀{a b:List D},a.length=b.length->(a.zip b).all (λq=>dO q.1 q.2)=dO a b
 |[],[],_=>by simp[dO]
 |x::a,y::b,h=>by
  rw[Ci,kR,Ep (by simpa using h)];apply tW;simp[qK]
 |[],_::_,h=>by simp at h
 |_::_,[],h=>by simp at h
section
variable {B:Nat} (hB:B<=1048576)
include hB
theorem L8:∀a:ae,TT B a->∀b:ae,b.ok B->(f64 Pf) a b=some (dO a b):=by
 refine ae.ind λa ih ha b hb=>?_;rw[ae.c8]at hb;obtain⟨_,_,_,_,_,hkl,hkk⟩:=hb;have hkids:(z8 Pf) a.Kids b.Kids=some (dO a.Kids b.Kids):=by
  rw[XY,vD];simp only[ae.aD];by_cases h:a.Kids.length=b.Kids.length
  ·have h0:((a.Kids.length:Int) !=(b.Kids.length:Int))=false:=by simp[h]
   rw[h0];show(sk Pf) a.Kids b.Kids 0=_;rw[qt (a:=a.Kids) (b:=b.Kids) (L:=(sk Pf) a.Kids b.Kids) dO true h ?_ ?_]
   ·rw[rZ,Ep h]
   ·intro i x y hx hy hi;rw[Km,sm,ae.aD,o9 (by omega)];have h1:decide ((i:Int)<(a.Kids.length:Int))=true:=by simpa using hi
    have hx':=bw hx;rw[h1,bj hx,bj hy];show(((f64 Pf) x y).bind _)=_;rw[ih x hx' (ha.mx hx') y (ae.iS hkk (bw hy))];show(bif !(dO x y)then _ else _)=_;cases dO x y<;>rfl
   ·rw[Km,sm,ae.aD];simp
  ·have h0:((a.Kids.length:Int) !=(b.Kids.length:Int))=true:=by simp;omega
   rw[h0];show some false=_;congr 1;exact tW (by constructor;intro e;cases e;intro e;exact absurd (congrArg List.length e) h)
 have hty:(f93 Pf) a.ai b.ai=some (dO a.ai b.ai):=by
  obtain⟨r,e,hr⟩:=zJ (b:=b.ai) hB ha.ty.ok;rw[e,tW hr]
 rw[e64,xj,hkids,hty];obtain⟨op,ty,n,t,at',ks⟩:=a;obtain⟨op',ty',n',t',at'',ks'⟩:=b;have e:dO (⟨op,ty,n,t,at',ks⟩:ae) ⟨op',ty',n',t',at'',ks'⟩=(op==op'&&(n==n'&&(t==t'&&(at'==at''&&(dO ty ty'&&dO ks ks'))))):=by
  symm;apply tW;simp only[bL,beq_iff_eq,qK,ae.mk.injEq];constructor
  ·rintro ⟨a,b,c,d,e,f⟩;exact⟨a,e,b,c,d,f⟩
  ·rintro ⟨a,e,b,c,d,f⟩;exact⟨a,b,c,d,e,f⟩
 rw[e];simp only[aw];generalize (op==op')=c1;generalize (n==n')=c2;generalize (t==t')=c3;generalize (at'==at'')=c4;generalize dO ty ty'=c5;generalize dO ks ks'=c6;cases c1<;>cases c2<;>cases c3<;>cases c4<;>cases c5<;>cases c6<;>rfl
def kz (l:ah) (f:bl):az:=bif f.Result==0 then b7 l else aL f.Result
structure VF (B:Nat) (l:ah) (f:bl):Prop where
 ce:CE B ⟨l,f.Params⟩
 form:oc f
 body:W l f.Params f.Body (kz l f)
 tt:TT B f.Body
theorem WA {l:ah} {f:bl} (hl:l.ok B) (hf:f.ok B):ag ((f25 Pf) l f) (λr=>r=true->VF B l f):=by
 obtain⟨hn,ho,⟨hpl,hp⟩,_,hb⟩:=hf;rw[TO,uT];have no:ag (some false) (λr=>r=true->VF B l f):=ag.ret λe=>by cases e
 refine ag.bind (LC (by omega) hl) (λy1 h1=>?_);refine ag.bif (λ_=>no) (λe1=>?_);have hlat:dw l:=h1 (by simpa using e1);refine ag.bind (VU (by omega) (by omega) (λp hm=>by have:=(hp p hm).1;omega)) (λy3 h3=>?_);refine ag.bif (λ_=>no) (λe3=>?_);have hform:oc f:=h3 (by simpa using e3);have hce:CE B ⟨l,f.Params⟩:=⟨hlat,hl,λp hm=>by
  obtain⟨i,hi⟩:=gr hm;have:=hform.2.2.2.2.2 i p hi;exact⟨this.2.1,this.2.2.1⟩,hpl⟩
 refine ag.bind (XI hB f.Body hb) (λy5 h5=>?_);refine ag.bif (λ_=>no) (λe5=>?_);have hwn:=h5 (by simpa using e5);rw[NK,aw];have hww:bY B (kz l f):=by
  unfold kz;cases h:f.Result==0 with
  |true=>exact .inr (bq.of hlat hl)
  |false=>
   have h0:f.Result≠0:=by simpa using h
   have:=hform.2.2.2;exact .inr (bq.sort (by omega))
 have hE:=Mb hB hce hwn (kz l f) hww;refine ag.bind (P:=λr=>r.2.Code=0->EP B ⟨l,f.Params⟩ y5.1 (kz l f) r.1) ?_ (λy8 h8=>?_)
 ·rw[TN,uS];refine ctF hE (λa b ha=>?_) (λy hy=>ag.ret λ_=>hy);exact ag.bif (λh=>ag.ret λe=>absurd e ha) (λh=>ag.ret λe=>absurd e ha)
 ·refine ag.bif (λh=>?_) (λ_=>no);have h8:=h8 (by simpa using h);have htt:=W.tt hce h8.2.2.2 hww;rw[L8 hB y8.1 htt f.Body hb,aw];refine ag.ret λe=>?_;have e:=qK.1 e;rw[e]at h8 htt;exact⟨hce,hform,h8.2.2.2,htt⟩
end
inductive KB:ae->Prop
 |mk {y:ae}:y.Kids.length<=2097152->(∀k∈y.Kids,KB k)->KB y
theorem W.kb {l:ah} {ps:List TParam} {y:ae} {w:az} (h:W l ps y w):KB y:=by
 induction h with
 |map _ _ hn _ _ _ i1 i2=>
  refine .mk (by rw[sG];omega) λk hk=>?_;obtain⟨q,h1,h2⟩:=ef.1 hk;simp at h2;rcases h2 with rfl|rfl
  ·exact i1 q h1
  ·exact i2 q h1
 |jO _ _ hn _ _ i1=>exact .mk (qb hn (by decide)) i1
 |kI _ _ hn hl _ i1=>
  refine .mk (qb hn (by decide)) λk hk=>?_;obtain⟨i,hi⟩:=gr hk;obtain⟨p,hp⟩:=bh (i:=i) (by rw[<-hl];exact(cr.1 hi).1);exact i1 i k p hi hp
 |_=>exact .mk (by simp) (by simp[*])
