/- The elaborator answers well-typed expressions, or a fault; types.Valid answers, and true only to well-typed functions. -/
import Derived.Test.YtfgnmgbiijpkiaaGreatKVa6
set_option linter.all false
namespace Go.Proofs.YtfgnmgbiijpkiaaGreat
open Go Go.Bw
theorem MO (t:List UInt8):ag ((f197 Pf) t) (λr=>(r= -1/\(t=[115,101,116]\/t=eu\/t=er))\/(r=3/\t=[119,114,105,116,101])\/(r=2/\t=[112,97,105,114])\/(r=1/\t≠[115,101,116]/\t≠eu/\t≠er/\t≠[119,114,105,116,101]/\t≠[112,97,105,114])):=by
 rw[kY,iq]
 repeat' (first|refine ag.bif (λh=>?_) (λh=>?_)|refine ag.ret ?_)
 all_goals (simp at*;simp[eu,er, *])
theorem yy {D:Type}:∀l:List (D×D),(l.flatMap λq=>[q.1,q.2]).length=2*l.length
 |[]=>rfl
 |q::l=>by rw[xl,jL,yy l];simp;omega
theorem qt {n:ae} (h:n.Kind=51) (ht:n.Text=eu\/n.Text=er):fJ n=n.Kids.flatMap (·.Kids):=by
 rw[fJ,h];rcases ht with e|e<;>rw[e]<;>rfl
theorem vG {n:ae} (h1:n.Text≠eu) (h2:n.Text≠er):fJ n=n.Kids:=by
 have e1:(n.Text==eu)=false:=by simpa using h1
 have e2:(n.Text==er)=false:=by simpa using h2
 rw[fJ,e1,e2];simp
section
variable {B:Nat} (hB:B<=1048576) {c:bR} (hc:CE B c)
theorem nc {ks:List Int} {w:az} {n:ae} (hk:ks.length<9223372036854775807):ao ((f198 Pf) ks w n) (λ_=>w.aS=0/\w.aj.Kind∈ks) dO:=by
 rw[Km,qx];refine ao.bif (λ_=>eO _ _) (λhs=>?_);refine ao.bj (kN ks _ hk) ?_;refine ao.bif (λ_=>eO _ _) (λhm=>ao.ret ⟨by simpa using hs,?_⟩);simp only[uA,l3,beq_iff_eq]at hm;obtain⟨k,h1,h2⟩:=hm;rw[h2];exact h1
include hB in
theorem PQ {n:ae} {w:az} (hw:bq B w) (hs:w.aS=0) (hk:w.aj.Kind=4\/w.aj.Kind=10) (hn:n.Kids.length<=B) (ih:∀k∈n.Kids,EE B c k):ao ((gZ Pf) c n w 0 []) (AP B c w) dO:=by
 have h:=uZ (L:=λi (b:List ab)=>(gZ Pf) c n w i b) (P:=AP B c w) (E:=dO) (len:=n.Kids.length) (λi b=>b.length=i/\∀x∈b,W c.l c.params x (ba 0)/\(x.ak.aS=3\/x.ak.aS=4)) (λi b hi hI k=>by
   show ao ((gZ Pf) c n w i b) _ _;rw[px,kH,ae.bc,bX];have:decide (i<n.Kids.length)=true:=by simpa using hi
   obtain⟨e,he⟩:=cn hi;rw[this,bE,bW he,aN,cD i (by omega)];refine ao.aH (ih e (cy he) (ba 0) (.inl rfl)) (λy hy=>?_);have hlen:decide ((b++[ab.z]).length<=274877906944)=true:=by simp;omega
   rw[hlen,bE,ab.bc,pe,iJ,nG];have e1:(b++[ab.z])[b.length]? =some ab.z:=by simp
   have e2:IntKind.i64.wrap ((((ab.rows b++ab.rows [ab.z]).length:Nat):Int)-1)=(b.length:Int):=by
    rw[jL,ab.bc,ab.bc,wrap64 (by simp<;>omega) (by simp<;>omega)];simp
   have e3:(b++[y])[b.length]? =some y:=by simp
   rw[e1,aN,e2,pe,e3,aN];have go:(y.ak.aS=3\/y.ak.aS=4)->ao ((gZ Pf) c n w ((i+1:Nat):Int) (b++[y])) (AP B c w) dO:=λhsy=>by
    refine k _ ⟨by simp[hI.1],λx hx=>?_⟩;rcases cN.1 hx with hx|hx
    ·exact hI.2 x hx
    ·simp at hx;subst hx;exact⟨hy.2.2.2,hsy⟩
   refine ao.bif (λ_=>?_) (λh=>go (.inl (by simpa using h)));exact ao.bif (λ_=>eO _ _) (λh=>go (.inr (by simpa using h)))) (λb hI=>by
   show ao ((gZ Pf) c n w _ b) _ _;rw[px,kH,ae.bc,bX];have:decide (n.Kids.length<n.Kids.length)=false:=by simp
   rw[this,cp];exact ao.ret ⟨hw,λa _=> .CR hs hk (by show b.length<=_;have:=hI.1;omega) (λx hx=>(hI.2 x hx).1) (λx hx=>(hI.2 x hx).2)⟩) 0 [] (by omega) ⟨rfl,by simp⟩
 exact h
include hB in
theorem PR {n:ae} {w:az} (hw:bq B w) (hs:w.aS=0) (hk:w.aj.Kind=5) (hn:n.Kids.length<=B) (ih:∀e∈n.Kids,∃a b,e.Kids=[a,b]/\EE B c a/\EE B c b):ao ((kI Pf) c n w 0 []) (AP B c w) dO:=by
 obtain⟨p,hp⟩:=qe (hw.dI hs).1 hk;have hwp:bq B (cJ p):=ke hw hs (by rw[hp];simp);have h:=uZ (L:=λi (b:List ab)=>(kI Pf) c n w i b) (P:=AP B c w) (E:=dO) (len:=n.Kids.length) (λi b=>b.length=2*i/\∃qs:List (ab×ab),b=(qs.flatMap λq=>[q.1,q.2])/\∀q∈qs,W c.l c.params q.1 (ba 3)/\W c.l c.params q.2 (cJ p)) (λi b hi hI k=>by
   show ao ((kI Pf) c n w i b) _ _;rw[vj,mc,ae.bc,bX];have:decide (i<n.Kids.length)=true:=by simpa using hi
   obtain⟨e,he⟩:=cn hi;obtain⟨x,z,hxz,hx,hz⟩:=ih e (cy he);rw[this,bE,bW he,aN,cD i (by omega),hxz,hp];refine ao.bj (v:=x) rfl (ao.bj (dh 3) ?_);refine ao.aH (hx (ba 3) (.inr (bq.sort (by simp)))) (λu hu=>?_);have hlen:decide ((b++[ab.z]).length<=274877906944)=true:=by simp;omega
   rw[hlen,bE,ab.bc,iJ,nG];have e1:(b++[ab.z])[b.length]? =some ab.z:=by simp
   refine ao.bj (fM e1) (ao.bj (v:=z) rfl (ao.bj (v:=p) rfl (ao.bj (of_eq p) ?_)));refine ao.aH (hz (cJ p) (.inr hwp)) (λv hv=>?_);have hlen2:decide (((b++[u])++[ab.z]).length<=274877906944)=true:=by simp;omega
   have e2:(((ab.rows b++ab.rows [ab.z]).length:Nat):Int)=(((b++[u]).length:Nat):Int):=by
    rw[jL,ab.bc,ab.bc];simp
   have e3:((b++[u])++[ab.z])[(b++[u]).length]? =some ab.z:=by simp
   rw[hlen2,bE,e2];refine ao.bj (fM e3) ?_;rw[iJ,nG];refine k _ ⟨by simp[hI.1];omega,?_⟩;obtain⟨qs,hb,hq⟩:=hI.2;refine⟨qs++[(u,v)],by rw[hb];simp,λq hm=>?_⟩;rcases cN.1 hm with hm|hm
   ·exact hq q hm
   ·simp at hm;subst hm;exact⟨hu.2.2.2,hv.2.2.2⟩) (λb hI=>by
   show ao ((kI Pf) c n w _ b) _ _;rw[vj,mc,ae.bc,bX];have:decide (n.Kids.length<n.Kids.length)=false:=by simp
   rw[this,cp];obtain⟨hlb,qs,rfl,hq⟩:=hI;exact ao.ret ⟨hw,λa _=> .map hs hk (p:=p) (by show qs.length<=_;rw[yy]at hlb;omega) (by rw[hp];rfl) (λq hm=>(hq q hm).1) (λq hm=>(hq q hm).2)⟩) 0 [] (by omega) ⟨rfl,[],rfl,by simp⟩
 exact h
include hB in
theorem OY {n:ae} {w:az} (hw:cd B w) (h51:n.Kind=51) (hs:dC n) (hn:n.Kids.length<=B) (ih:∀k∈fJ n,EE B c k):ao ((f159 Pf) c n w) (AP B c w) dO:=by
 have hs:(n.Text=eu->∀e∈n.Kids,e.Kids.length=2)/\(n.Text=er->∀e∈n.Kids,e.Kids.length=1):=by
  unfold dC at hs;rcases hs with h|h|h|h|h
  ·omega
  ·omega
  ·omega
  ·omega
  ·exact h.2
 have s1:cd B (ba 1):= .inr (bq.sort (by simp));have s2:cd B (ba 2):= .inr (bq.sort (by simp));have s3:cd B (ba 3):= .inr (bq.sort (by simp));have wty:∀ks:List Int,(0:Int)∉ks->(w.aS=0/\w.aj.Kind∈ks)->bq B w:=λks h0 h=>hw.some (hw.kind h.1 (λe=>h0 (by rw[<-e];exact h.2))).2.2;rw[kZ,ir];refine ao.bind (MO n.Text) (λr hr=>?_);refine ao.bif (λh0=>?_) (λh0=>?_)
 ·have h0:0<=r:=by simpa using h0
  have nm:n.Text≠eu/\n.Text≠er/\n.Text≠[115,101,116]:=by
   rcases hr with h|⟨_,h⟩|⟨_,h⟩|h
   ·omega
   ·rw[h];exact⟨by decide,by decide,by decide⟩
   ·rw[h];exact⟨by decide,by decide,by decide⟩
   ·exact⟨h.2.2.1,h.2.2.2.1,h.2.1⟩
  rw[vG nm.1 nm.2.1]at ih;refine ao.bif (λ_=>eO _ _) (λhl=>?_);have hl:r=(n.Kids.length:Int):=by rw[ae.bc]at hl;simpa using hl
  have one:n.Text≠[119,114,105,116,101]->n.Text≠[112,97,105,114]->∃x,n.Kids=[x]:=λh1 h2=>jy (by
   rcases hr with h|h|h|h
   ·omega
   ·exact absurd h.2 h1
   ·exact absurd h.2 h2
   ·omega)
  refine ao.bif (λht=>?_) (λ_=>?_)
  ·have ht:n.Text=[102,108,97,103]:=by simpa using ht
   obtain⟨x,hx⟩:=one (by rw[ht];decide) (by rw[ht];decide);rw[hx]at ih⊢;refine ao.cC (λ_ h=>h.ref) (nc (by simp)) (λ_ hk=>?_);refine ao.bj (v:=x) rfl (ao.bj (dh 2) ?_);refine ao.aH (ih x (by simp) (ba 2) s2) (λy hy=>?_);exact ao.ret ⟨wty _ (by simp) hk,λa _=> .flag hk.1 (by simpa using hk.2) hy.2.2.2⟩
  refine ao.bif (λht=>?_) (λ_=>?_)
  ·have ht:n.Text=[110,117,109]:=by simpa using ht
   obtain⟨x,hx⟩:=one (by rw[ht];decide) (by rw[ht];decide);rw[hx]at ih⊢;refine ao.cC (λ_ h=>h.ref) (nc (by simp)) (λ_ hk=>?_);refine ao.bj (v:=x) rfl (ao.bj (dh 1) ?_);refine ao.aH (ih x (by simp) (ba 1) s1) (λy hy=>?_);exact ao.ret ⟨wty _ (by simp) hk,λa _=> .num hk.1 (by simpa using hk.2) hy.2.2.2⟩
  refine ao.bif (λht=>absurd (by simpa using ht) nm.2.2) (λ_=>?_);refine ao.bif (λht=>absurd (eq_of_beq ht) nm.1) (λ_=>?_);refine ao.bif (λht=>absurd (eq_of_beq ht) nm.2.1) (λ_=>?_);refine ao.bif (λht=>?_) (λhp=>?_)
  ·have ht:n.Text=[112,97,105,114]:=by simpa using ht
   obtain⟨x,z,hx⟩:=gg (l:=n.Kids) (by
    rcases hr with h|h|h|h
    ·omega
    ·have:=h.2;rw[ht]at this;exact absurd this (by decide)
    ·omega
    ·exact absurd ht h.2.2.2.2.2)
   rw[hx]at ih⊢;refine ao.cC (λ_ h=>h.ref) (nc (by simp)) (λ_ hk=>?_);have hw':=wty _ (by simp) hk;have h7:w.aj.Kind=7:=by simpa using hk.2
   obtain⟨p,q,hp⟩:=qf (hw'.dI hk.1).1 h7;rw[hp];refine ao.bj (v:=x) rfl (ao.bj (v:=p) rfl (ao.bj (of_eq p) ?_));refine ao.aH (ih x (by simp) _ (.inr (ke hw' hk.1 (by rw[hp];simp)))) (λu hu=>?_);refine ao.bif (λ_=>?_) (λe=>absurd e (by simp));refine ao.bj (v:=ab.z) rfl (ao.bj (v:=z) rfl (ao.bj (v:=q) rfl (ao.bj (of_eq q) ?_)));refine ao.aH (ih z (by simp) _ (.inr (ke hw' hk.1 (by rw[hp];simp)))) (λv hv=>?_);refine ao.bif (λ_=>?_) (λe=>absurd e (by simp));refine ao.bj (v:=ab.z) rfl ?_;exact ao.ret ⟨hw',λa _=> .pair hk.1 h7 (p:=p) (q:=q) (by rw[hp];rfl) (by rw[hp];rfl) hu.2.2.2 hv.2.2.2⟩
  have hp:n.Text≠[112,97,105,114]:=by simpa using hp
  refine ao.bif (λht=>?_) (λ_=>?_)
  ·have ht:n.Text=[111,110,101]:=by simpa using ht
   obtain⟨x,hx⟩:=one (by rw[ht];decide) (by rw[ht];decide);rw[hx]at ih⊢;refine ao.cC (λ_ h=>h.ref) (nc (by simp)) (λ_ hk=>?_);refine ao.bj (v:=x) rfl (ao.bj (dh 3) ?_);refine ao.aH (ih x (by simp) (ba 3) s3) (λy hy=>?_);exact ao.ret ⟨wty _ (by simp) hk,λa _=> .one hk.1 (by simpa using hk.2) hy.2.2.2⟩
  refine ao.bif (λht=>?_) (λhwr=>?_)
  ·have ht:n.Text=[119,114,105,116,101]:=by simpa using ht
   obtain⟨x,y,z,hx⟩:=qv (l:=n.Kids) (by
    rcases hr with h|h|h|h
    ·omega
    ·omega
    ·have:=h.2;rw[ht]at this;exact absurd this (by decide)
    ·exact absurd ht h.2.2.2.2.1)
   rw[hx]at ih⊢;have wr:bq B (cJ eG):=bq.of vc (vv B);refine ao.bj (of_eq eG) (ao.bj (v:=x) rfl ?_);refine ao.aH (ih x (by simp) _ (.inr wr)) (λu hu=>?_);refine ao.bif (λ_=>?_) (λe=>absurd e (by simp));refine ao.bj (v:=ab.z) rfl (ao.bj (v:=y) rfl (ao.bj (dh 1) ?_));refine ao.aH (ih y (by simp) _ s1) (λv hv=>?_);refine ao.bif (λ_=>?_) (λe=>absurd e (by simp));refine ao.bj (v:=ab.z) rfl (ao.bj (v:=z) rfl (ao.bj (dh 3) ?_));refine ao.aH (ih z (by simp) _ s3) (λt ht=>?_);refine ao.bif (λ_=>?_) (λe=>absurd e (by simp));refine ao.bj (v:=ab.z) rfl ?_;exact ao.ret ⟨wr,λa hf=> .write hu.2.2.2 hv.2.2.2 ht.2.2.2 hf⟩
  obtain⟨x,hx⟩:=one (by simpa using hwr) hp;exact ao.aH (M0 hx (ih x (by rw[hx];simp))) λy hy=>ao.ret hy
 ·have h0:r<0:=by simpa using h0
  have hm:n.Text=[115,101,116]\/n.Text=eu\/n.Text=er:=by
   rcases hr with h|h|h|h
   ·exact h.2
   ·omega
   ·omega
   ·omega
  have no:∀t:List UInt8,t≠[115,101,116]->t≠eu->t≠er->(n.Text==t)=true->False:=λt h1 h2 h3 e=>by
   have e:n.Text=t:=by simpa using e
   rw[e]at hm;rcases hm with h|h|h
   ·exact h1 h
   ·exact h2 h
   ·exact h3 h
  refine ao.bif (λht=>(no _ (by decide) (by decide) (by decide) ht).elim) (λ_=>?_);refine ao.bif (λht=>(no _ (by decide) (by decide) (by decide) ht).elim) (λ_=>?_);refine ao.bif (λht=>?_) (λhns=>?_)
  ·have ht:n.Text=[115,101,116]:=by simpa using ht
   rw[vG (by rw[ht];decide) (by rw[ht];decide)]at ih;refine ao.cC (λ_ h=>h.ref) (nc (by simp)) (λ_ hk=>?_);exact PQ hB (wty _ (by simp) hk) hk.1 (by simpa using hk.2) hn ih
  refine ao.bif (λht=>?_) (λhnm=>?_)
  ·have ht:n.Text=eu:=eq_of_beq ht;rw[qt h51 (.inl ht)]at ih;refine ao.cC (λ_ h=>h.ref) (nc (by simp)) (λ_ hk=>?_);refine PR hB (wty _ (by simp) hk) hk.1 (by simpa using hk.2) hn (λe he=>?_);obtain⟨a,b,hab⟩:=gg (hs.1 ht e he);exact⟨a,b,hab,ih a (ec.2 ⟨e,he,by rw[hab];simp⟩),ih b (ec.2 ⟨e,he,by rw[hab];simp⟩)⟩
  have ht:n.Text=er:=by
   rcases hm with h|h|h
   ·rw[h]at hns;simp at hns
   ·rw[h]at hnm;simp[eu]at hnm
   ·exact h
  refine ao.bif (λ_=>?_) (λe=>by rw[ht]at e;simp[er]at e);rw[qt h51 (.inr ht)]at ih;refine ao.cC (λ_ h=>h.ref) (nc (by simp)) (λ_ hk=>?_);have hw':=wty _ (by simp) hk;have h6:w.aj.Kind=6:=by simpa using hk.2
  refine ao.aH (NB hB (hw'.dI hk.1).1 (hw'.dI hk.1).2 h6 hn (λe he=>?_)) (λy hy=>?_)
  ·obtain⟨a,ha⟩:=jy (hs.2 ht e he);exact⟨a,ha,ih a (ec.2 ⟨e,he,by rw[ha];simp⟩)⟩
  ·exact ao.ret ⟨hw',λa _=> .CS hk.1 h6 (by have ho:=(hw'.dI hk.1).2;rw[ai.eP]at ho;have:=ho.2.2.2.2.1.1;rw[hy.1];omega) hy.1 hy.2⟩
include hB in
theorem M1 {n:ae} {w:az} (hw:cd B w) (hs:dC n) (hk:n.Kind=30\/n.Kind=36\/n.Kind=38\/n.Kind=39\/n.Kind=42\/n.Kind=43) (hW:∀k∈n.Kids,WN B k) (ih:∀k∈n.Kids,EE B c k):ao ((f160 Pf) c n w) (AP B c w) dO:=by
 have s2:cd B (ba 2):= .inr (bq.sort (by simp));rw[Kr,qE];refine ao.bj (dh 2) ?_;refine ao.bif (λh=>?_) (λn30=>?_)
 ·have h:n.Kind=30:=by simpa using h
  obtain⟨x,y,z,hx⟩:=qv (l:=n.Kids) (by unfold dC at hs;omega);rw[hx]at hW ih⊢;refine ao.bj (v:=x) rfl (ao.aH (ih x (by simp) _ s2) λu hu=>?_);refine ao.bj (jo w) ?_;refine ao.bif (λhn=>?_) (λhn=>?_)
  ·have hn:isNone w=true:=hn;refine ao.bj (v:=y) rfl (ao.bj (v:=z) rfl ?_);refine ao.aH (xI (hW y (by simp)) (hW z (by simp)) (ih y (by simp)) (ih z (by simp))) (λr hr=>?_);rcases hr with⟨h1,h2,_⟩|⟨h1,h2,_⟩
   ·exact ao.ret ⟨h1.2.1,λa _=> .Lg hn hu.2.2.2 h1.2.2.2 h2.2.2.2⟩
   ·exact ao.ret ⟨h2.2.1,λa _=> .Lh hn hu.2.2.2 h1.2.2.2 h2.2.2.2⟩
  ·have hn:isNone w=false:=hn;refine ao.bj (v:=y) rfl (ao.aH (ih y (by simp) _ hw) λv hv=>?_);refine ao.bj (v:=z) rfl (ao.aH (ih z (by simp) _ hw) λt ht=>?_);refine ao.ret ⟨hv.2.1,λa _=>?_⟩;show W c.l c.params ⟨7,v.ak,0,[],a,[u,v,t]⟩ w;rw[<-hv.2.2.1 hn];exact .Lf hn hu.2.2.2 hv.2.2.2 ht.2.2.2
 refine ao.bif (λh=>?_) (λn36=>?_)
 ·have h:n.Kind=36:=by simpa using h
  obtain⟨x,y,hx⟩:=gg (l:=n.Kids) (by unfold dC at hs;omega);rw[hx]at ih⊢;refine ao.bj (v:=x) rfl (ao.aH (ih x (by simp) _ (.inl rfl)) λu hu=>?_);refine ao.bif (λ_=>ao.bj (v:=x) rfl (eO _ _)) (λhs0=>?_);refine ao.bj (v:=y) rfl (ao.aH (ih y (by simp) _ (.inr hu.2.1)) λv hv=>?_);exact ao.ret ⟨bq.sort (by simp),λa hf=> .equal hu.2.2.2 (by simpa using hs0) hv.2.2.2 hf⟩
 refine ao.bif (λh=>?_) (λn38=>?_)
 ·have h:n.Kind=38:=by simpa using h
  obtain⟨x,y,hx⟩:=gg (l:=n.Kids) (by unfold dC at hs;omega);rw[hx]at hW ih⊢;refine ao.bj (v:=x) rfl (ao.bj (v:=y) rfl ?_);refine ao.aH (xI (hW x (by simp)) (hW y (by simp)) (ih x (by simp)) (ih y (by simp))) (λr hr=>?_);rcases hr with⟨h1,h2,h3⟩|⟨h1,h2,h3⟩
  ·exact ao.ret ⟨bq.sort (by simp),λa hf=> .Lj h1.2.2.2 (h3 rfl) h2.2.2.2 hf⟩
  ·exact ao.ret ⟨bq.sort (by simp),λa hf=> .Lk h1.2.2.2 (h3 rfl) h2.2.2.2 hf⟩
 refine ao.bif (λh=>?_) (λn39=>?_)
 ·have h:n.Kind=39:=by simpa using h
  obtain⟨x,y,hx⟩:=gg (l:=n.Kids) (by unfold dC at hs;omega);refine ao.bj (jo w) ?_;refine ao.bif (λhn=>?_) (λhn=>?_)
  ·have hn:isNone w=false:=by simpa using hn
   refine ao.bif (λ_=>eO _ _) (λhs0=>?_);refine ao.aH (Gk hx (ih x (by rw[hx];simp)) (ih y (by rw[hx];simp)) hw hw) (λr hr=>?_);obtain⟨u,v,rfl,hu,hv⟩:=hr;exact ao.ret ⟨hw.some hn,λa _=> .JC hn (by simpa using hs0) hu.2.2.2 hv.2.2.2⟩
  ·have hn:isNone w=true:=by simpa using hn
   rw[hx]at hW ih⊢;refine ao.bj (v:=x) rfl (ao.bj (v:=y) rfl ?_);refine ao.aH (xI (hW x (by simp)) (hW y (by simp)) (ih x (by simp)) (ih y (by simp))) (λr hr=>?_);rcases hr with⟨h1,h2,h3⟩|⟨h1,h2,h3⟩
   ·exact ao.ret ⟨h1.2.1,λa hf=> .JD hn h1.2.2.2 (h3 rfl) h2.2.2.2⟩
   ·exact ao.ret ⟨h2.2.1,λa hf=> .JE hn h1.2.2.2 (h3 rfl) h2.2.2.2⟩
 refine ao.bif (λh=>?_) (λn42=>?_)
 ·have h:n.Kind=42:=by simpa using h
  obtain⟨x,hx⟩:=jy (l:=n.Kids) (by unfold dC at hs;omega);rw[hx]at ih⊢;refine ao.bj (v:=x) rfl (ao.aH (xM (by simp) (ih x (by simp))) λu hu=>?_);have h6:u.ak.aj.Kind=6:=by simpa using hu.2.2
  have hl:=(hu.1.2.1.dI hu.2.1);have hnl:u.ak.aj.Names.length<=B:=by have:=hl.2;rw[ai.eP]at this;exact this.2.2.2.1.1
  refine ao.bj (vb _ _ (by omega)) ?_;refine ao.bif (λ_=>eO _ _) (λh2=>?_);obtain⟨j,t,hj,ht,_⟩:=uJ (by simpa using h2);rw[hj];have hjl:=(c8.1 ht).1;obtain⟨p,hp⟩:=cn (l:=u.ak.aj.aB) (i:=j) (by rw[sA hl.1 h6];exact hjl);refine ao.bj (fM hp) (ao.bj (of_eq p) ?_);exact ao.ret ⟨ke hu.1.2.1 hu.2.1 (cy hp),λa hf=> .field hu.1.2.2.2 hu.2.1 h6 hjl hp hf⟩
 have h:n.Kind=43:=by simp at n30 n36 n38 n39 n42;omega
 obtain⟨x,y,hx⟩:=gg (l:=n.Kids) (by unfold dC at hs;omega);rw[hx]at ih⊢;refine ao.bj (v:=x) rfl (ao.aH (xM (by simp) (ih x (by simp))) λu hu=>?_);have h5:u.ak.aj.Kind=5:=by simpa using hu.2.2
 obtain⟨p,hp⟩:=qe (hu.1.2.1.dI hu.2.1).1 h5;refine ao.bj (v:=y) rfl (ao.bj (dh 3) (ao.aH (ih y (by simp) _ (.inr (bq.sort (by simp)))) λv hv=>?_));rw[hp];refine ao.bj (v:=p) rfl (ao.bj (of_eq p) ?_);exact ao.ret ⟨ke hu.1.2.1 hu.2.1 (by rw[hp];simp),λa hf=> .at_ hu.1.2.2.2 hu.2.1 h5 (by rw[hp];rfl) hv.2.2.2 hf⟩
include hB hc in
theorem HO {n:ae} {w:az} (hw:cd B w) (h:WN B n) (ih:∀k∈fJ n,EE B c k):ao ((f91 Pf) c n w) (AP B c w) dO:=by
 obtain⟨hs,hl,h44,h47,hk⟩:=h;have s1:cd B (ba 1):= .inr (bq.sort (by simp));have s2:cd B (ba 2):= .inr (bq.sort (by simp));have s3:cd B (ba 3):= .inr (bq.sort (by simp));have s4:cd B (ba 4):= .inr (bq.sort (by simp));have two:∀(op:Int) (a b t:az) (k:Int),n.Kind=k->31<=k/\k<=43/\k≠33/\k≠42->cd B a->cd B b->bq B t->(∀(u v:ab) (x:Int),W c.l c.params u a->W c.l c.params v b->Fit w t->W c.l c.params ⟨op,t,0,[],x,[u,v]⟩ w)->
   ao (Bw.aH ((f158 Pf) c op n a b t) λy=>some (.ret y)) (AP B c w) dO:=by
  intro op a b t k hn hkk ha hb ht hW;obtain⟨x,y,hx⟩:=gg (l:=n.Kids) (by unfold dC at hs;omega);rw[kR (by omega),hx]at ih;refine ao.aH (Gk hx (ih x (by simp)) (ih y (by simp)) ha hb) (λr hr=>?_);obtain⟨u,v,rfl,hu,hv⟩:=hr;exact ao.ret ⟨ht,λq hf=>hW u v q hu.2.2.2 hv.2.2.2 hf⟩
 rw[Dt,oE];refine ao.bj (dh 2) (ao.bj (dh 1) (ao.bj (dh 3) ?_));refine ao.bif (λh=>?_) (λ_=>?_)
 ·have:=h44 (by simpa using h);exact ao.ret ⟨bq.sort (by simp),λa hf=> .int this.1 this.2 hf⟩
 refine ao.bif (λ_=>ao.ret ⟨bq.sort (by simp),λa hf=> .bool (.inr rfl) hf⟩) (λ_=>?_);refine ao.bif (λ_=>ao.ret ⟨bq.sort (by simp),λa hf=> .bool (.inl rfl) hf⟩) (λ_=>?_);refine ao.bif (λh=>ao.ret ⟨bq.sort (by simp),λa hf=> .name (h47 (by simpa using h)) hf⟩) (λ_=>?_);refine ao.bif (λ_=>?_) (λ_=>?_)
 ·refine ao.bj (I6 _ _ (by have:=hc.num;omega)) ?_;refine ao.bif (λ_=>eO _ _) (λh2=>?_);obtain⟨j,p,hj,hp,_⟩:=uJ (by simpa using h2);rw[hj];refine ao.bj (fM hp) (ao.bj (dh _) ?_);exact ao.ret ⟨bq.sort (hc.par p (cy hp)),λa hf=> .param hp hf⟩
 refine ao.bif (λ_=>?_) (λ_=>?_)
 ·refine ao.bj (of_eq _) ?_;exact ao.ret ⟨bq.of hc.dI hc.ok,λa hf=> .state hf⟩
 refine ao.bif (λ_=>?_) (λ_=>?_)
 ·refine ao.bif (λ_=>eO _ _) (λh0=>?_);refine ao.bj (jo w) ?_;refine ao.bif (λ_=>eO _ _) (λhn=>?_);exact ao.ret ⟨hw.some hn,λa hf=> .AU (by simpa using h0) hn⟩
 refine ao.bif (λh=>two 8 _ _ _ 31 (by simpa using h) (by decide) s2 s2 (bq.sort (by simp)) (λu v x hu hv hf=> .conn (.inl rfl) hu hv hf)) (λ_=>?_);refine ao.bif (λh=>two 9 _ _ _ 32 (by simpa using h) (by decide) s2 s2 (bq.sort (by simp)) (λu v x hu hv hf=> .conn (.inr rfl) hu hv hf)) (λ_=>?_);refine ao.bif (λh=>?_) (λ_=>?_)
 ·have h:n.Kind=33:=by simpa using h
  obtain⟨x,hx⟩:=jy (l:=n.Kids) (by unfold dC at hs;omega);rw[kR (by omega),hx]at ih;rw[hx];refine ao.bj (v:=x) rfl (ao.aH (ih x (by simp) _ s2) λu hu=>?_);exact ao.ret ⟨bq.sort (by simp),λa hf=> .not hu.2.2.2 hf⟩
 refine ao.bif (λh=>two 11 _ _ _ 34 (by simpa using h) (by decide) s1 s1 (bq.sort (by simp)) (λu v x hu hv hf=> .less (.inl rfl) hu hv hf)) (λ_=>?_);refine ao.bif (λh=>two 12 _ _ _ 35 (by simpa using h) (by decide) s1 s1 (bq.sort (by simp)) (λu v x hu hv hf=> .less (.inr rfl) hu hv hf)) (λ_=>?_);refine ao.bif (λh=>ao.bj (dh 4) (two 14 _ _ _ 37 (by simpa using h) (by decide) s3 s4 (bq.sort (by simp)) (λu v x hu hv hf=> .Li hu hv hf))) (λ_=>?_);refine ao.bif (λh=>two 17 _ _ _ 40 (by simpa using h) (by decide) s1 s1 (bq.sort (by simp)) (λu v x hu hv hf=> .CU (.inl rfl) hu hv hf)) (λ_=>?_);refine ao.bif (λh=>two 18 _ _ _ 41 (by simpa using h) (by decide) s1 s1 (bq.sort (by simp)) (λu v x hu hv hf=> .CU (.inr rfl) hu hv hf)) (λ_=>?_);refine ao.bif (λh=>ao.aH (OY hB hw (by simpa using h) hs hl ih) λy hy=>ao.ret hy) (λh51=>?_);have h51:n.Kind≠51:=by simpa using h51
 rw[kR h51]at ih hk;refine ao.aH (M1 hB hw hs ?_ hk ih) λy hy=>ao.ret hy;simp at*
 unfold dC at hs;omega
include hB hc in
theorem OZ {n:ae} (h:WN B n):EE B c n:=by
 induction h with
 |mk hs hl h44 h47 hk ih=>exactλw hw=>HM hB hw (HO hB hc hw (.mk hs hl h44 h47 hk) ih)
end
inductive TT (B:Nat):ab->Prop
 |mk {y:ab}:bq B y.ak->(∀k∈y.Kids,TT B k)->TT B y
theorem TT.ty {B:Nat} {y:ab} (h:TT B y):bq B y.ak:=by cases h;assumption
theorem TT.Wa {B:Nat} {y k:ab} (h:TT B y) (hk:k∈y.Kids):TT B k:=by cases h with|mk _ h=>exact h k hk
section
variable {B:Nat} {c:bR} (hc:CE B c)
include hc
theorem W.tt {y:ab} {w:az} (h:W c.l c.params y w):cd B w->TT B y:=by
 have s:∀n:Int,1<=n/\n<=4->cd B (ba n):=λn hn=> .inr (bq.sort hn);have s0:cd B (ba 0):= .inl rfl;have no:∀k∈([]:List ab),TT B k:=by simp
 have one:∀{x:ab},TT B x->∀k∈[x],TT B k:=λhx k hk=>by simp at hk;subst hk;exact hx
 have two:∀{x y:ab},TT B x->TT B y->∀k∈[x,y],TT B k:=λhx hy k hk=>by simp at hk;rcases hk with rfl|rfl<;>assumption
 have three:∀{x y z:ab},TT B x->TT B y->TT B z->∀k∈[x,y,z],TT B k:=λhx hy hz k hk=>by simp at hk;rcases hk with rfl|rfl|rfl<;>assumption
 have part:∀{t:az} {p:ai} {i:Nat},bq B t->t.aS=0->t.aj.aB[i]? =some p->bq B (cJ p):=λht hs hp=>ke ht hs (cy hp)
 induction h with
 |int _ _ _=>exactλ_=> .mk (bq.sort (by simp)) no
 |bool _ _=>exactλ_=> .mk (bq.sort (by simp)) no
 |name _ _=>exactλ_=> .mk (bq.sort (by simp)) no
 |param hp _=>exactλ_=> .mk (bq.sort (hc.par _ (cy hp))) no
 |state _=>exactλ_=> .mk (bq.of hc.dI hc.ok) no
 |AU _ hn=>exactλhw=> .mk (hw.some hn) no
 |Lf hn _ _ _ i1 i2 i3=>exactλhw=> .mk (hw.some hn) (three (i1 (s 2 (by simp))) (i2 hw) (i3 hw))
 |Lg _ _ _ _ i1 i2 i3=>exactλ_=> .mk (i2 s0).ty (three (i1 (s 2 (by simp))) (i2 s0) (i3 (.inr (i2 s0).ty)))
 |Lh _ _ _ _ i1 i2 i3=>exactλ_=> .mk (i3 (.inr (i2 s0).ty)).ty (three (i1 (s 2 (by simp))) (i3 (.inr (i2 s0).ty)) (i2 s0))
 |conn _ _ _ _ i1 i2=>exactλ_=> .mk (bq.sort (by simp)) (two (i1 (s 2 (by simp))) (i2 (s 2 (by simp))))
 |not _ _ i1=>exactλ_=> .mk (bq.sort (by simp)) (one (i1 (s 2 (by simp))))
 |less _ _ _ _ i1 i2=>exactλ_=> .mk (bq.sort (by simp)) (two (i1 (s 1 (by simp))) (i2 (s 1 (by simp))))
 |equal _ _ _ _ i1 i2=>exactλ_=> .mk (bq.sort (by simp)) (two (i1 s0) (i2 (.inr (i1 s0).ty)))
 |Li _ _ _ i1 i2=>exactλ_=> .mk (bq.sort (by simp)) (two (i1 (s 3 (by simp))) (i2 (s 4 (by simp))))
 |Lj _ _ _ _ i1 i2=>exactλ_=> .mk (bq.sort (by simp)) (two (i1 s0) (i2 (.inr (i1 s0).ty)))
 |Lk _ _ _ _ i1 i2=>exactλ_=> .mk (bq.sort (by simp)) (two (i2 (.inr (i1 s0).ty)) (i1 s0))
 |JC hn _ _ _ i1 i2=>exactλhw=> .mk (hw.some hn) (two (i1 hw) (i2 hw))
 |JD _ _ _ _ i1 i2=>exactλ_=> .mk (i1 s0).ty (two (i1 s0) (i2 (.inr (i1 s0).ty)))
 |JE _ _ _ _ i1 i2=>exactλ_=> .mk (i2 (.inr (i1 s0).ty)).ty (two (i2 (.inr (i1 s0).ty)) (i1 s0))
 |CU _ _ _ _ i1 i2=>exactλ_=> .mk (bq.sort (by simp)) (two (i1 (s 1 (by simp))) (i2 (s 1 (by simp))))
 |field _ hs _ _ hp _ i1=>exactλ_=> .mk (part (i1 s0).ty hs hp) (one (i1 s0))
 |at_ _ hs _ hp _ _ i1 i2=>exactλ_=> .mk (part (i1 s0).ty hs hp) (two (i1 s0) (i2 (s 3 (by simp))))
 |flag h0 hk _ i1=>exactλhw=> .mk (hw.some (hw.kind h0 (by rw[hk];decide)).2.2) (one (i1 (s 2 (by simp))))
 |num h0 hk _ i1=>exactλhw=> .mk (hw.some (hw.kind h0 (by rcases hk with hk|hk<;>rw[hk]<;>decide)).2.2) (one (i1 (s 1 (by simp))))
 |CR h0 hk _ _ _ i1=>exactλhw=> .mk (hw.some (hw.kind h0 (by rcases hk with hk|hk<;>rw[hk]<;>decide)).2.2) (λk hm=>i1 k hm s0)
 |map h0 hk _ hp _ _ i1 i2=>
  intro hw;have hw':=hw.some (hw.kind h0 (by rw[hk];decide)).2.2;refine .mk hw' (λk hm=>?_);obtain⟨q,h1,h2⟩:=ec.1 hm;simp at h2;rcases h2 with rfl|rfl
  ·exact i1 q h1 (s 3 (by simp))
  ·exact i2 q h1 (.inr (part hw' h0 hp))
 |CS h0 hk _ hl _ i1=>
  intro hw;have hw':=hw.some (hw.kind h0 (by rw[hk];decide)).2.2;refine .mk hw' (λk hm=>?_);obtain⟨i,hi⟩:=lx hm;obtain⟨p,hp⟩:=cn (i:=i) (by rw[<-hl];exact(c8.1 hi).1);exact i1 i k p hi hp (.inr (part hw' h0 hp))
 |pair h0 hk hp hq _ _ i1 i2=>
  intro hw;have hw':=hw.some (hw.kind h0 (by rw[hk];decide)).2.2;exact .mk hw' (two (i1 (.inr (part hw' h0 hp))) (i2 (.inr (part hw' h0 hq))))
 |one h0 hk _ i1=>exactλhw=> .mk (hw.some (hw.kind h0 (by rw[hk];decide)).2.2) (one (i1 (s 3 (by simp))))
 |write _ _ _ _ i1 i2 i3=>exactλ_=> .mk (bq.of vc (vv B)) (three (i1 (.inr (bq.of vc (vv B)))) (i2 (s 1 (by simp))) (i3 (s 3 (by simp))))
 |size _ _ _ i1=>exactλ_=> .mk (bq.sort (by simp)) (one (i1 s0))
 |sum _ _ _ _ _ _ i1=>exactλ_=> .mk (bq.sort (by simp)) (one (i1 s0))
 |Mk hm _ _ _ _ i1=>exactλ_=> .mk (bq.sort (by simp at hm;omega)) (one (i1 s0))
 |part _ _ hs _ hp _ i1=>exactλ_=> .mk (part (i1 s0).ty hs hp) (one (i1 s0))
end
open Classical in
noncomputable def lu {D:Type} (a b:D):Bool:=decide (a=b)
theorem HP {D:Type} {a b:D}:lu a b=true↔a=b:=by simp[lu]
theorem QS {D:Type} {a b:D} {r:Bool} (h:r=true↔a=b):r=lu a b:=by rw[gx,h,HP]
theorem HJ {D:Type}:∀{a b:List D},a.length=b.length->(a.zip b).all (λq=>lu q.1 q.2)=lu a b
 |[],[],_=>by simp[lu]
 |x::a,y::b,h=>by
  rw[xx,jg,HJ (by simpa using h)];apply QS;simp[HP]
 |[],_::_,h=>by simp at h
 |_::_,[],h=>by simp at h
section
variable {B:Nat} (hB:B<=1048576)
include hB
def RJ (l:ai) (f:cz):az:=bif f.Result==0 then cJ l else ba f.Result
structure VF (B:Nat) (l:ai) (f:cz):Prop where
 ce:CE B ⟨l,f.Params⟩
 form:RH f
 body:W l f.Params f.Body (RJ l f)
 tt:TT B f.Body
