/- The elaborator answers well-typed expressions, or a fault; types.Valid answers, and true only to well-typed functions. -/
import Derived.Test.YtnocmolegijmkaaGreatKVa6
set_option linter.all false
namespace Go.Proofs.YtnocmolegijmkaaGreat
open Go Go.Bw
theorem To (t:List UInt8):ag ((dT Pu) t) (λr=>(r= -1/\(t=[115,101,116]\/t=dD\/t=dc))\/(r=3/\t=[119,114,105,116,101])\/(r=2/\t=[112,97,105,114])\/(r=1/\t≠[115,101,116]/\t≠dD/\t≠dc/\t≠[119,114,105,116,101]/\t≠[112,97,105,114])):=by
 rw[er,dN]
 repeat' (first|refine ag.bif (λh=>?_) (λh=>?_)|refine ag.ret ?_)
 all_goals (simp at*;simp[dD,dc, *])
theorem oc {D:Type}:∀l:List (D×D),(l.flatMap λq=>[q.1,q.2]).length=2*l.length
 |[]=>rfl
 |q::l=>by rw[Af,kA,oc l];simp;omega
theorem xz {n:af} (h:n.Kind=51) (ht:n.Text=dD\/n.Text=dc):fj n=n.Kids.flatMap (·.Kids):=by
 rw[fj,h];rcases ht with e|e<;>rw[e]<;>rfl
theorem Cb {n:af} (h1:n.Text≠dD) (h2:n.Text≠dc):fj n=n.Kids:=by
 have e1:(n.Text==dD)=false:=by simpa using h1
 have e2:(n.Text==dc)=false:=by simpa using h2
 rw[fj,e1,e2];simp
section
variable {B:Nat} (hB:B<=1048576) {c:bJ} (hc:CE B c)
theorem qG {ks:List Int} {w:ay} {n:af} (hk:ks.length<9223372036854775807):ae ((gL Pu) ks w n) (λ_=>w.aK=0/\w.ai.Kind∈ks) dX:=by
 rw[IC,rV];refine ae.bif (λ_=>fI _ _) (λhs=>?_);refine ae.aC (kJ ks _ hk) ?_;refine ae.bif (λ_=>fI _ _) (λhm=>ae.ret ⟨by simpa using hs,?_⟩);simp only[sE,ln,beq_iff_eq]at hm;obtain⟨k,h1,h2⟩:=hm;rw[h2];exact h1
include hB in
theorem W8 {n:af} {w:ay} (hw:a7 B w) (hs:w.aK=0) (hk:w.ai.Kind=4\/w.ai.Kind=10) (hn:n.Kids.length<=B) (ih:∀k∈n.Kids,EE B c k):ae ((gD Pu) c n w 0 []) (AP B c w) dX:=by
 have h:=ph (L:=λi (b:List ab)=>(gD Pu) c n w i b) (P:=AP B c w) (E:=dX) (len:=n.Kids.length) (λi b=>b.length=i/\∀x∈b,W c.l c.params x (aL 0)/\(x.aj.aK=3\/x.aj.aK=4)) (λi b hi hI k=>by
   show ae ((gD Pu) c n w i b) _ _;rw[pz,lu,af.aB,aU];have:decide (i<n.Kids.length)=true:=by simpa using hi
   obtain⟨e,he⟩:=bg hi;rw[this,aO,bc he,aq,bO i (by omega)];refine ae.aA (ih e (bh he) (aL 0) (.inl rfl)) (λy hy=>?_);have hlen:decide ((b++[ab.z]).length<=274877906944)=true:=by simp;omega
   rw[hlen,aO,ab.aB,lY,fv,ly];have e1:(b++[ab.z])[b.length]? =some ab.z:=by simp
   have e2:IntKind.i64.wrap ((((ab.rows b++ab.rows [ab.z]).length:Nat):Int)-1)=(b.length:Int):=by
    rw[kA,ab.aB,ab.aB,wrap64 (by simp<;>omega) (by simp<;>omega)];simp
   have e3:(b++[y])[b.length]? =some y:=by simp
   rw[e1,aq,e2,lY,e3,aq];have go:(y.aj.aK=3\/y.aj.aK=4)->ae ((gD Pu) c n w ((i+1:Nat):Int) (b++[y])) (AP B c w) dX:=λhsy=>by
    refine k _ ⟨by simp[hI.1],λx hx=>?_⟩;rcases cL.1 hx with hx|hx
    ·exact hI.2 x hx
    ·simp at hx;subst hx;exact⟨hy.2.2.2,hsy⟩
   refine ae.bif (λ_=>?_) (λh=>go (.inl (by simpa using h)));exact ae.bif (λ_=>fI _ _) (λh=>go (.inr (by simpa using h)))) (λb hI=>by
   show ae ((gD Pu) c n w _ b) _ _;rw[pz,lu,af.aB,aU];have:decide (n.Kids.length<n.Kids.length)=false:=by simp
   rw[this,a6];exact ae.ret ⟨hw,λa _=> .iY hs hk (by show b.length<=_;have:=hI.1;omega) (λx hx=>(hI.2 x hx).1) (λx hx=>(hI.2 x hx).2)⟩) 0 [] (by omega) ⟨rfl,by simp⟩
 exact h
include hB in
theorem W9 {n:af} {w:ay} (hw:a7 B w) (hs:w.aK=0) (hk:w.ai.Kind=5) (hn:n.Kids.length<=B) (ih:∀e∈n.Kids,∃a b,e.Kids=[a,b]/\EE B c a/\EE B c b):ae ((jO Pu) c n w 0 []) (AP B c w) dX:=by
 obtain⟨p,hp⟩:=um (hw.du hs).1 hk;have hwp:a7 B (bN p):=fJ hw hs (by rw[hp];simp);have h:=ph (L:=λi (b:List ab)=>(jO Pu) c n w i b) (P:=AP B c w) (E:=dX) (len:=n.Kids.length) (λi b=>b.length=2*i/\∃qs:List (ab×ab),b=(qs.flatMap λq=>[q.1,q.2])/\∀q∈qs,W c.l c.params q.1 (aL 3)/\W c.l c.params q.2 (bN p)) (λi b hi hI k=>by
   show ae ((jO Pu) c n w i b) _ _;rw[tA,nb,af.aB,aU];have:decide (i<n.Kids.length)=true:=by simpa using hi
   obtain⟨e,he⟩:=bg hi;obtain⟨x,z,hxz,hx,hz⟩:=ih e (bh he);rw[this,aO,bc he,aq,bO i (by omega),hxz,hp];refine ae.aC (v:=x) rfl (ae.aC (bp 3) ?_);refine ae.aA (hx (aL 3) (.inr (a7.sort (by simp)))) (λu hu=>?_);have hlen:decide ((b++[ab.z]).length<=274877906944)=true:=by simp;omega
   rw[hlen,aO,ab.aB,fv,ly];have e1:(b++[ab.z])[b.length]? =some ab.z:=by simp
   refine ae.aC (eo e1) (ae.aC (v:=z) rfl (ae.aC (v:=p) rfl (ae.aC (of_eq p) ?_)));refine ae.aA (hz (bN p) (.inr hwp)) (λv hv=>?_);have hlen2:decide (((b++[u])++[ab.z]).length<=274877906944)=true:=by simp;omega
   have e2:(((ab.rows b++ab.rows [ab.z]).length:Nat):Int)=(((b++[u]).length:Nat):Int):=by
    rw[kA,ab.aB,ab.aB];simp
   have e3:((b++[u])++[ab.z])[(b++[u]).length]? =some ab.z:=by simp
   rw[hlen2,aO,e2];refine ae.aC (eo e3) ?_;rw[fv,ly];refine k _ ⟨by simp[hI.1];omega,?_⟩;obtain⟨qs,hb,hq⟩:=hI.2;refine⟨qs++[(u,v)],by rw[hb];simp,λq hm=>?_⟩;rcases cL.1 hm with hm|hm
   ·exact hq q hm
   ·simp at hm;subst hm;exact⟨hu.2.2.2,hv.2.2.2⟩) (λb hI=>by
   show ae ((jO Pu) c n w _ b) _ _;rw[tA,nb,af.aB,aU];have:decide (n.Kids.length<n.Kids.length)=false:=by simp
   rw[this,a6];obtain⟨hlb,qs,rfl,hq⟩:=hI;exact ae.ret ⟨hw,λa _=> .map hs hk (p:=p) (by show qs.length<=_;rw[oc]at hlb;omega) (by rw[hp];rfl) (λq hm=>(hq q hm).1) (λq hm=>(hq q hm).2)⟩) 0 [] (by omega) ⟨rfl,[],rfl,by simp⟩
 exact h
include hB in
theorem V5 {n:af} {w:ay} (hw:bW B w) (h51:n.Kind=51) (hs:dL n) (hn:n.Kids.length<=B) (ih:∀k∈fj n,EE B c k):ae ((cV Pu) c n w) (AP B c w) dX:=by
 have hs:(n.Text=dD->∀e∈n.Kids,e.Kids.length=2)/\(n.Text=dc->∀e∈n.Kids,e.Kids.length=1):=by
  unfold dL at hs;rcases hs with h|h|h|h|h
  ·omega
  ·omega
  ·omega
  ·omega
  ·exact h.2
 have s1:bW B (aL 1):= .inr (a7.sort (by simp));have s2:bW B (aL 2):= .inr (a7.sort (by simp));have s3:bW B (aL 3):= .inr (a7.sort (by simp));have wty:∀ks:List Int,(0:Int)∉ks->(w.aK=0/\w.ai.Kind∈ks)->a7 B w:=λks h0 h=>hw.some (hw.kind h.1 (λe=>h0 (by rw[<-e];exact h.2))).2.2;rw[ew,dP];refine ae.bind (To n.Text) (λr hr=>?_);refine ae.bif (λh0=>?_) (λh0=>?_)
 ·have h0:0<=r:=by simpa using h0
  have nm:n.Text≠dD/\n.Text≠dc/\n.Text≠[115,101,116]:=by
   rcases hr with h|⟨_,h⟩|⟨_,h⟩|h
   ·omega
   ·rw[h];exact⟨by decide,by decide,by decide⟩
   ·rw[h];exact⟨by decide,by decide,by decide⟩
   ·exact⟨h.2.2.1,h.2.2.2.1,h.2.1⟩
  rw[Cb nm.1 nm.2.1]at ih;refine ae.bif (λ_=>fI _ _) (λhl=>?_);have hl:r=(n.Kids.length:Int):=by rw[af.aB]at hl;simpa using hl
  have one:n.Text≠[119,114,105,116,101]->n.Text≠[112,97,105,114]->∃x,n.Kids=[x]:=λh1 h2=>ju (by
   rcases hr with h|h|h|h
   ·omega
   ·exact absurd h.2 h1
   ·exact absurd h.2 h2
   ·omega)
  refine ae.bif (λht=>?_) (λ_=>?_)
  ·have ht:n.Text=[102,108,97,103]:=by simpa using ht
   obtain⟨x,hx⟩:=one (by rw[ht];decide) (by rw[ht];decide);rw[hx]at ih⊢;refine ae.cr (λ_ h=>h.ref) (qG (by simp)) (λ_ hk=>?_);refine ae.aC (v:=x) rfl (ae.aC (bp 2) ?_);refine ae.aA (ih x (by simp) (aL 2) s2) (λy hy=>?_);exact ae.ret ⟨wty _ (by simp) hk,λa _=> .flag hk.1 (by simpa using hk.2) hy.2.2.2⟩
  refine ae.bif (λht=>?_) (λ_=>?_)
  ·have ht:n.Text=[110,117,109]:=by simpa using ht
   obtain⟨x,hx⟩:=one (by rw[ht];decide) (by rw[ht];decide);rw[hx]at ih⊢;refine ae.cr (λ_ h=>h.ref) (qG (by simp)) (λ_ hk=>?_);refine ae.aC (v:=x) rfl (ae.aC (bp 1) ?_);refine ae.aA (ih x (by simp) (aL 1) s1) (λy hy=>?_);exact ae.ret ⟨wty _ (by simp) hk,λa _=> .num hk.1 (by simpa using hk.2) hy.2.2.2⟩
  refine ae.bif (λht=>absurd (by simpa using ht) nm.2.2) (λ_=>?_);refine ae.bif (λht=>absurd (eq_of_beq ht) nm.1) (λ_=>?_);refine ae.bif (λht=>absurd (eq_of_beq ht) nm.2.1) (λ_=>?_);refine ae.bif (λht=>?_) (λhp=>?_)
  ·have ht:n.Text=[112,97,105,114]:=by simpa using ht
   obtain⟨x,z,hx⟩:=gJ (l:=n.Kids) (by
    rcases hr with h|h|h|h
    ·omega
    ·have:=h.2;rw[ht]at this;exact absurd this (by decide)
    ·omega
    ·exact absurd ht h.2.2.2.2.2)
   rw[hx]at ih⊢;refine ae.cr (λ_ h=>h.ref) (qG (by simp)) (λ_ hk=>?_);have hw':=wty _ (by simp) hk;have h7:w.ai.Kind=7:=by simpa using hk.2
   obtain⟨p,q,hp⟩:=uo (hw'.du hk.1).1 h7;rw[hp];refine ae.aC (v:=x) rfl (ae.aC (v:=p) rfl (ae.aC (of_eq p) ?_));refine ae.aA (ih x (by simp) _ (.inr (fJ hw' hk.1 (by rw[hp];simp)))) (λu hu=>?_);refine ae.bif (λ_=>?_) (λe=>absurd e (by simp));refine ae.aC (v:=ab.z) rfl (ae.aC (v:=z) rfl (ae.aC (v:=q) rfl (ae.aC (of_eq q) ?_)));refine ae.aA (ih z (by simp) _ (.inr (fJ hw' hk.1 (by rw[hp];simp)))) (λv hv=>?_);refine ae.bif (λ_=>?_) (λe=>absurd e (by simp));refine ae.aC (v:=ab.z) rfl ?_;exact ae.ret ⟨hw',λa _=> .pair hk.1 h7 (p:=p) (q:=q) (by rw[hp];rfl) (by rw[hp];rfl) hu.2.2.2 hv.2.2.2⟩
  have hp:n.Text≠[112,97,105,114]:=by simpa using hp
  refine ae.bif (λht=>?_) (λ_=>?_)
  ·have ht:n.Text=[111,110,101]:=by simpa using ht
   obtain⟨x,hx⟩:=one (by rw[ht];decide) (by rw[ht];decide);rw[hx]at ih⊢;refine ae.cr (λ_ h=>h.ref) (qG (by simp)) (λ_ hk=>?_);refine ae.aC (v:=x) rfl (ae.aC (bp 3) ?_);refine ae.aA (ih x (by simp) (aL 3) s3) (λy hy=>?_);exact ae.ret ⟨wty _ (by simp) hk,λa _=> .one hk.1 (by simpa using hk.2) hy.2.2.2⟩
  refine ae.bif (λht=>?_) (λhwr=>?_)
  ·have ht:n.Text=[119,114,105,116,101]:=by simpa using ht
   obtain⟨x,y,z,hx⟩:=nH (l:=n.Kids) (by
    rcases hr with h|h|h|h
    ·omega
    ·omega
    ·have:=h.2;rw[ht]at this;exact absurd this (by decide)
    ·exact absurd ht h.2.2.2.2.1)
   rw[hx]at ih⊢;have wr:a7 B (bN eE):=a7.of wD (wQ B);refine ae.aC (of_eq eE) (ae.aC (v:=x) rfl ?_);refine ae.aA (ih x (by simp) _ (.inr wr)) (λu hu=>?_);refine ae.bif (λ_=>?_) (λe=>absurd e (by simp));refine ae.aC (v:=ab.z) rfl (ae.aC (v:=y) rfl (ae.aC (bp 1) ?_));refine ae.aA (ih y (by simp) _ s1) (λv hv=>?_);refine ae.bif (λ_=>?_) (λe=>absurd e (by simp));refine ae.aC (v:=ab.z) rfl (ae.aC (v:=z) rfl (ae.aC (bp 3) ?_));refine ae.aA (ih z (by simp) _ s3) (λt ht=>?_);refine ae.bif (λ_=>?_) (λe=>absurd e (by simp));refine ae.aC (v:=ab.z) rfl ?_;exact ae.ret ⟨wr,λa hf=> .write hu.2.2.2 hv.2.2.2 ht.2.2.2 hf⟩
  obtain⟨x,hx⟩:=one (by simpa using hwr) hp;exact ae.aA (Ty hx (ih x (by rw[hx];simp))) λy hy=>ae.ret hy
 ·have h0:r<0:=by simpa using h0
  have hm:n.Text=[115,101,116]\/n.Text=dD\/n.Text=dc:=by
   rcases hr with h|h|h|h
   ·exact h.2
   ·omega
   ·omega
   ·omega
  have no:∀t:List UInt8,t≠[115,101,116]->t≠dD->t≠dc->(n.Text==t)=true->False:=λt h1 h2 h3 e=>by
   have e:n.Text=t:=by simpa using e
   rw[e]at hm;rcases hm with h|h|h
   ·exact h1 h
   ·exact h2 h
   ·exact h3 h
  refine ae.bif (λht=>(no _ (by decide) (by decide) (by decide) ht).elim) (λ_=>?_);refine ae.bif (λht=>(no _ (by decide) (by decide) (by decide) ht).elim) (λ_=>?_);refine ae.bif (λht=>?_) (λhns=>?_)
  ·have ht:n.Text=[115,101,116]:=by simpa using ht
   rw[Cb (by rw[ht];decide) (by rw[ht];decide)]at ih;refine ae.cr (λ_ h=>h.ref) (qG (by simp)) (λ_ hk=>?_);exact W8 hB (wty _ (by simp) hk) hk.1 (by simpa using hk.2) hn ih
  refine ae.bif (λht=>?_) (λhnm=>?_)
  ·have ht:n.Text=dD:=eq_of_beq ht;rw[xz h51 (.inl ht)]at ih;refine ae.cr (λ_ h=>h.ref) (qG (by simp)) (λ_ hk=>?_);refine W9 hB (wty _ (by simp) hk) hk.1 (by simpa using hk.2) hn (λe he=>?_);obtain⟨a,b,hab⟩:=gJ (hs.1 ht e he);exact⟨a,b,hab,ih a (eH.2 ⟨e,he,by rw[hab];simp⟩),ih b (eH.2 ⟨e,he,by rw[hab];simp⟩)⟩
  have ht:n.Text=dc:=by
   rcases hm with h|h|h
   ·rw[h]at hns;simp at hns
   ·rw[h]at hnm;simp[dD]at hnm
   ·exact h
  refine ae.bif (λ_=>?_) (λe=>by rw[ht]at e;simp[dc]at e);rw[xz h51 (.inr ht)]at ih;refine ae.cr (λ_ h=>h.ref) (qG (by simp)) (λ_ hk=>?_);have hw':=wty _ (by simp) hk;have h6:w.ai.Kind=6:=by simpa using hk.2
  refine ae.aA (Ux hB (hw'.du hk.1).1 (hw'.du hk.1).2 h6 hn (λe he=>?_)) (λy hy=>?_)
  ·obtain⟨a,ha⟩:=ju (hs.2 ht e he);exact⟨a,ha,ih a (eH.2 ⟨e,he,by rw[ha];simp⟩)⟩
  ·exact ae.ret ⟨hw',λa _=> .gT hk.1 h6 (by have ho:=(hw'.du hk.1).2;rw[ah.cM]at ho;have:=ho.2.2.2.2.1.1;rw[hy.1];omega) hy.1 hy.2⟩
include hB in
theorem Tz {n:af} {w:ay} (hw:bW B w) (hs:dL n) (hk:n.Kind=30\/n.Kind=36\/n.Kind=38\/n.Kind=39\/n.Kind=42\/n.Kind=43) (hW:∀k∈n.Kids,WN B k) (ih:∀k∈n.Kids,EE B c k):ae ((yx Pu) c n w) (AP B c w) dX:=by
 have s2:bW B (aL 2):= .inr (a7.sort (by simp));rw[kV,iK];refine ae.aC (bp 2) ?_;refine ae.bif (λh=>?_) (λn30=>?_)
 ·have h:n.Kind=30:=by simpa using h
  obtain⟨x,y,z,hx⟩:=nH (l:=n.Kids) (by unfold dL at hs;omega);rw[hx]at hW ih⊢;refine ae.aC (v:=x) rfl (ae.aA (ih x (by simp) _ s2) λu hu=>?_);refine ae.aC (fK w) ?_;refine ae.bif (λhn=>?_) (λhn=>?_)
  ·have hn:isNone w=true:=hn;refine ae.aC (v:=y) rfl (ae.aC (v:=z) rfl ?_);refine ae.aA (D2 (hW y (by simp)) (hW z (by simp)) (ih y (by simp)) (ih z (by simp))) (λr hr=>?_);rcases hr with⟨h1,h2,_⟩|⟨h1,h2,_⟩
   ·exact ae.ret ⟨h1.2.1,λa _=> .kY hn hu.2.2.2 h1.2.2.2 h2.2.2.2⟩
   ·exact ae.ret ⟨h2.2.1,λa _=> .kZ hn hu.2.2.2 h1.2.2.2 h2.2.2.2⟩
  ·have hn:isNone w=false:=hn;refine ae.aC (v:=y) rfl (ae.aA (ih y (by simp) _ hw) λv hv=>?_);refine ae.aC (v:=z) rfl (ae.aA (ih z (by simp) _ hw) λt ht=>?_);refine ae.ret ⟨hv.2.1,λa _=>?_⟩;show W c.l c.params ⟨7,v.aj,0,[],a,[u,v,t]⟩ w;rw[<-hv.2.2.1 hn];exact .iX hn hu.2.2.2 hv.2.2.2 ht.2.2.2
 refine ae.bif (λh=>?_) (λn36=>?_)
 ·have h:n.Kind=36:=by simpa using h
  obtain⟨x,y,hx⟩:=gJ (l:=n.Kids) (by unfold dL at hs;omega);rw[hx]at ih⊢;refine ae.aC (v:=x) rfl (ae.aA (ih x (by simp) _ (.inl rfl)) λu hu=>?_);refine ae.bif (λ_=>ae.aC (v:=x) rfl (fI _ _)) (λhs0=>?_);refine ae.aC (v:=y) rfl (ae.aA (ih y (by simp) _ (.inr hu.2.1)) λv hv=>?_);exact ae.ret ⟨a7.sort (by simp),λa hf=> .equal hu.2.2.2 (by simpa using hs0) hv.2.2.2 hf⟩
 refine ae.bif (λh=>?_) (λn38=>?_)
 ·have h:n.Kind=38:=by simpa using h
  obtain⟨x,y,hx⟩:=gJ (l:=n.Kids) (by unfold dL at hs;omega);rw[hx]at hW ih⊢;refine ae.aC (v:=x) rfl (ae.aC (v:=y) rfl ?_);refine ae.aA (D2 (hW x (by simp)) (hW y (by simp)) (ih x (by simp)) (ih y (by simp))) (λr hr=>?_);rcases hr with⟨h1,h2,h3⟩|⟨h1,h2,h3⟩
  ·exact ae.ret ⟨a7.sort (by simp),λa hf=> .mD h1.2.2.2 (h3 rfl) h2.2.2.2 hf⟩
  ·exact ae.ret ⟨a7.sort (by simp),λa hf=> .mE h1.2.2.2 (h3 rfl) h2.2.2.2 hf⟩
 refine ae.bif (λh=>?_) (λn39=>?_)
 ·have h:n.Kind=39:=by simpa using h
  obtain⟨x,y,hx⟩:=gJ (l:=n.Kids) (by unfold dL at hs;omega);refine ae.aC (fK w) ?_;refine ae.bif (λhn=>?_) (λhn=>?_)
  ·have hn:isNone w=false:=by simpa using hn
   refine ae.bif (λ_=>fI _ _) (λhs0=>?_);refine ae.aA (Mp hx (ih x (by rw[hx];simp)) (ih y (by rw[hx];simp)) hw hw) (λr hr=>?_);obtain⟨u,v,rfl,hu,hv⟩:=hr;exact ae.ret ⟨hw.some hn,λa _=> .jt hn (by simpa using hs0) hu.2.2.2 hv.2.2.2⟩
  ·have hn:isNone w=true:=by simpa using hn
   rw[hx]at hW ih⊢;refine ae.aC (v:=x) rfl (ae.aC (v:=y) rfl ?_);refine ae.aA (D2 (hW x (by simp)) (hW y (by simp)) (ih x (by simp)) (ih y (by simp))) (λr hr=>?_);rcases hr with⟨h1,h2,h3⟩|⟨h1,h2,h3⟩
   ·exact ae.ret ⟨h1.2.1,λa hf=> .kQ hn h1.2.2.2 (h3 rfl) h2.2.2.2⟩
   ·exact ae.ret ⟨h2.2.1,λa hf=> .kR hn h1.2.2.2 (h3 rfl) h2.2.2.2⟩
 refine ae.bif (λh=>?_) (λn42=>?_)
 ·have h:n.Kind=42:=by simpa using h
  obtain⟨x,hx⟩:=ju (l:=n.Kids) (by unfold dL at hs;omega);rw[hx]at ih⊢;refine ae.aC (v:=x) rfl (ae.aA (D9 (by simp) (ih x (by simp))) λu hu=>?_);have h6:u.aj.ai.Kind=6:=by simpa using hu.2.2
  have hl:=(hu.1.2.1.du hu.2.1);have hnl:u.aj.ai.Names.length<=B:=by have:=hl.2;rw[ah.cM]at this;exact this.2.2.2.1.1
  refine ae.aC (qL _ _ (by omega)) ?_;refine ae.bif (λ_=>fI _ _) (λh2=>?_);obtain⟨j,t,hj,ht,_⟩:=AB (by simpa using h2);rw[hj];have hjl:=(cy.1 ht).1;obtain⟨p,hp⟩:=bg (l:=u.aj.ai.aw) (i:=j) (by rw[rq hl.1 h6];exact hjl);refine ae.aC (eo hp) (ae.aC (of_eq p) ?_);exact ae.ret ⟨fJ hu.1.2.1 hu.2.1 (bh hp),λa hf=> .field hu.1.2.2.2 hu.2.1 h6 hjl hp hf⟩
 have h:n.Kind=43:=by simp at n30 n36 n38 n39 n42;omega
 obtain⟨x,y,hx⟩:=gJ (l:=n.Kids) (by unfold dL at hs;omega);rw[hx]at ih⊢;refine ae.aC (v:=x) rfl (ae.aA (D9 (by simp) (ih x (by simp))) λu hu=>?_);have h5:u.aj.ai.Kind=5:=by simpa using hu.2.2
 obtain⟨p,hp⟩:=um (hu.1.2.1.du hu.2.1).1 h5;refine ae.aC (v:=y) rfl (ae.aC (bp 3) (ae.aA (ih y (by simp) _ (.inr (a7.sort (by simp)))) λv hv=>?_));rw[hp];refine ae.aC (v:=p) rfl (ae.aC (of_eq p) ?_);exact ae.ret ⟨fJ hu.1.2.1 hu.2.1 (by rw[hp];simp),λa hf=> .at_ hu.1.2.2.2 hu.2.1 h5 (by rw[hp];rfl) hv.2.2.2 hf⟩
include hB hc in
theorem NN {n:af} {w:ay} (hw:bW B w) (h:WN B n) (ih:∀k∈fj n,EE B c k):ae ((lH Pu) c n w) (AP B c w) dX:=by
 obtain⟨hs,hl,h44,h47,hk⟩:=h;have s1:bW B (aL 1):= .inr (a7.sort (by simp));have s2:bW B (aL 2):= .inr (a7.sort (by simp));have s3:bW B (aL 3):= .inr (a7.sort (by simp));have s4:bW B (aL 4):= .inr (a7.sort (by simp));have two:∀(op:Int) (a b t:ay) (k:Int),n.Kind=k->31<=k/\k<=43/\k≠33/\k≠42->bW B a->bW B b->a7 B t->(∀(u v:ab) (x:Int),W c.l c.params u a->W c.l c.params v b->Fit w t->W c.l c.params ⟨op,t,0,[],x,[u,v]⟩ w)->
   ae (Bw.aA ((iJ Pu) c op n a b t) λy=>some (.ret y)) (AP B c w) dX:=by
  intro op a b t k hn hkk ha hb ht hW;obtain⟨x,y,hx⟩:=gJ (l:=n.Kids) (by unfold dL at hs;omega);rw[nC (by omega),hx]at ih;refine ae.aA (Mp hx (ih x (by simp)) (ih y (by simp)) ha hb) (λr hr=>?_);obtain⟨u,v,rfl,hu,hv⟩:=hr;exact ae.ret ⟨ht,λq hf=>hW u v q hu.2.2.2 hv.2.2.2 hf⟩
 rw[eu,dO];refine ae.aC (bp 2) (ae.aC (bp 1) (ae.aC (bp 3) ?_));refine ae.bif (λh=>?_) (λ_=>?_)
 ·have:=h44 (by simpa using h);exact ae.ret ⟨a7.sort (by simp),λa hf=> .int this.1 this.2 hf⟩
 refine ae.bif (λ_=>ae.ret ⟨a7.sort (by simp),λa hf=> .bool (.inr rfl) hf⟩) (λ_=>?_);refine ae.bif (λ_=>ae.ret ⟨a7.sort (by simp),λa hf=> .bool (.inl rfl) hf⟩) (λ_=>?_);refine ae.bif (λh=>ae.ret ⟨a7.sort (by simp),λa hf=> .name (h47 (by simpa using h)) hf⟩) (λ_=>?_);refine ae.bif (λ_=>?_) (λ_=>?_)
 ·refine ae.aC (Fz _ _ (by have:=hc.num;omega)) ?_;refine ae.bif (λ_=>fI _ _) (λh2=>?_);obtain⟨j,p,hj,hp,_⟩:=AB (by simpa using h2);rw[hj];refine ae.aC (eo hp) (ae.aC (bp _) ?_);exact ae.ret ⟨a7.sort (hc.par p (bh hp)),λa hf=> .param hp hf⟩
 refine ae.bif (λ_=>?_) (λ_=>?_)
 ·refine ae.aC (of_eq _) ?_;exact ae.ret ⟨a7.of hc.du hc.ok,λa hf=> .state hf⟩
 refine ae.bif (λ_=>?_) (λ_=>?_)
 ·refine ae.bif (λ_=>fI _ _) (λh0=>?_);refine ae.aC (fK w) ?_;refine ae.bif (λ_=>fI _ _) (λhn=>?_);exact ae.ret ⟨hw.some hn,λa hf=> .jl (by simpa using h0) hn⟩
 refine ae.bif (λh=>two 8 _ _ _ 31 (by simpa using h) (by decide) s2 s2 (a7.sort (by simp)) (λu v x hu hv hf=> .conn (.inl rfl) hu hv hf)) (λ_=>?_);refine ae.bif (λh=>two 9 _ _ _ 32 (by simpa using h) (by decide) s2 s2 (a7.sort (by simp)) (λu v x hu hv hf=> .conn (.inr rfl) hu hv hf)) (λ_=>?_);refine ae.bif (λh=>?_) (λ_=>?_)
 ·have h:n.Kind=33:=by simpa using h
  obtain⟨x,hx⟩:=ju (l:=n.Kids) (by unfold dL at hs;omega);rw[nC (by omega),hx]at ih;rw[hx];refine ae.aC (v:=x) rfl (ae.aA (ih x (by simp) _ s2) λu hu=>?_);exact ae.ret ⟨a7.sort (by simp),λa hf=> .not hu.2.2.2 hf⟩
 refine ae.bif (λh=>two 11 _ _ _ 34 (by simpa using h) (by decide) s1 s1 (a7.sort (by simp)) (λu v x hu hv hf=> .less (.inl rfl) hu hv hf)) (λ_=>?_);refine ae.bif (λh=>two 12 _ _ _ 35 (by simpa using h) (by decide) s1 s1 (a7.sort (by simp)) (λu v x hu hv hf=> .less (.inr rfl) hu hv hf)) (λ_=>?_);refine ae.bif (λh=>ae.aC (bp 4) (two 14 _ _ _ 37 (by simpa using h) (by decide) s3 s4 (a7.sort (by simp)) (λu v x hu hv hf=> .mC hu hv hf))) (λ_=>?_);refine ae.bif (λh=>two 17 _ _ _ 40 (by simpa using h) (by decide) s1 s1 (a7.sort (by simp)) (λu v x hu hv hf=> .jA (.inl rfl) hu hv hf)) (λ_=>?_);refine ae.bif (λh=>two 18 _ _ _ 41 (by simpa using h) (by decide) s1 s1 (a7.sort (by simp)) (λu v x hu hv hf=> .jA (.inr rfl) hu hv hf)) (λ_=>?_);refine ae.bif (λh=>ae.aA (V5 hB hw (by simpa using h) hs hl ih) λy hy=>ae.ret hy) (λh51=>?_);have h51:n.Kind≠51:=by simpa using h51
 rw[nC h51]at ih hk;refine ae.aA (Tz hB hw hs ?_ hk ih) λy hy=>ae.ret hy;simp at*
 unfold dL at hs;omega
include hB hc in
theorem Mo {n:af} (h:WN B n):EE B c n:=by
 induction h with
 |mk hs hl h44 h47 hk ih=>exactλw hw=>NO hB hw (NN hB hc hw (.mk hs hl h44 h47 hk) ih)
end
inductive TT (B:Nat):ab->Prop
 |mk {y:ab}:a7 B y.aj->(∀k∈y.Kids,TT B k)->TT B y
theorem TT.ty {B:Nat} {y:ab} (h:TT B y):a7 B y.aj:=by cases h;assumption
theorem TT.ez {B:Nat} {y k:ab} (h:TT B y) (hk:k∈y.Kids):TT B k:=by cases h with|mk _ h=>exact h k hk
section
variable {B:Nat} {c:bJ} (hc:CE B c)
include hc
theorem W.tt {y:ab} {w:ay} (h:W c.l c.params y w):bW B w->TT B y:=by
 have s:∀n:Int,1<=n/\n<=4->bW B (aL n):=λn hn=> .inr (a7.sort hn);have s0:bW B (aL 0):= .inl rfl;have no:∀k∈([]:List ab),TT B k:=by simp
 have one:∀{x:ab},TT B x->∀k∈[x],TT B k:=λhx k hk=>by simp at hk;subst hk;exact hx
 have two:∀{x y:ab},TT B x->TT B y->∀k∈[x,y],TT B k:=λhx hy k hk=>by simp at hk;rcases hk with rfl|rfl<;>assumption
 have three:∀{x y z:ab},TT B x->TT B y->TT B z->∀k∈[x,y,z],TT B k:=λhx hy hz k hk=>by simp at hk;rcases hk with rfl|rfl|rfl<;>assumption
 have part:∀{t:ay} {p:ah} {i:Nat},a7 B t->t.aK=0->t.ai.aw[i]? =some p->a7 B (bN p):=λht hs hp=>fJ ht hs (bh hp)
 induction h with
 |int _ _ _=>exactλ_=> .mk (a7.sort (by simp)) no
 |bool _ _=>exactλ_=> .mk (a7.sort (by simp)) no
 |name _ _=>exactλ_=> .mk (a7.sort (by simp)) no
 |param hp _=>exactλ_=> .mk (a7.sort (hc.par _ (bh hp))) no
 |state _=>exactλ_=> .mk (a7.of hc.du hc.ok) no
 |jl _ hn=>exactλhw=> .mk (hw.some hn) no
 |iX hn _ _ _ i1 i2 i3=>exactλhw=> .mk (hw.some hn) (three (i1 (s 2 (by simp))) (i2 hw) (i3 hw))
 |kY _ _ _ _ i1 i2 i3=>exactλ_=> .mk (i2 s0).ty (three (i1 (s 2 (by simp))) (i2 s0) (i3 (.inr (i2 s0).ty)))
 |kZ _ _ _ _ i1 i2 i3=>exactλ_=> .mk (i3 (.inr (i2 s0).ty)).ty (three (i1 (s 2 (by simp))) (i3 (.inr (i2 s0).ty)) (i2 s0))
 |conn _ _ _ _ i1 i2=>exactλ_=> .mk (a7.sort (by simp)) (two (i1 (s 2 (by simp))) (i2 (s 2 (by simp))))
 |not _ _ i1=>exactλ_=> .mk (a7.sort (by simp)) (one (i1 (s 2 (by simp))))
 |less _ _ _ _ i1 i2=>exactλ_=> .mk (a7.sort (by simp)) (two (i1 (s 1 (by simp))) (i2 (s 1 (by simp))))
 |equal _ _ _ _ i1 i2=>exactλ_=> .mk (a7.sort (by simp)) (two (i1 s0) (i2 (.inr (i1 s0).ty)))
 |mC _ _ _ i1 i2=>exactλ_=> .mk (a7.sort (by simp)) (two (i1 (s 3 (by simp))) (i2 (s 4 (by simp))))
 |mD _ _ _ _ i1 i2=>exactλ_=> .mk (a7.sort (by simp)) (two (i1 s0) (i2 (.inr (i1 s0).ty)))
 |mE _ _ _ _ i1 i2=>exactλ_=> .mk (a7.sort (by simp)) (two (i2 (.inr (i1 s0).ty)) (i1 s0))
 |jt hn _ _ _ i1 i2=>exactλhw=> .mk (hw.some hn) (two (i1 hw) (i2 hw))
 |kQ _ _ _ _ i1 i2=>exactλ_=> .mk (i1 s0).ty (two (i1 s0) (i2 (.inr (i1 s0).ty)))
 |kR _ _ _ _ i1 i2=>exactλ_=> .mk (i2 (.inr (i1 s0).ty)).ty (two (i2 (.inr (i1 s0).ty)) (i1 s0))
 |jA _ _ _ _ i1 i2=>exactλ_=> .mk (a7.sort (by simp)) (two (i1 (s 1 (by simp))) (i2 (s 1 (by simp))))
 |field _ hs _ _ hp _ i1=>exactλ_=> .mk (part (i1 s0).ty hs hp) (one (i1 s0))
 |at_ _ hs _ hp _ _ i1 i2=>exactλ_=> .mk (part (i1 s0).ty hs hp) (two (i1 s0) (i2 (s 3 (by simp))))
 |flag h0 hk _ i1=>exactλhw=> .mk (hw.some (hw.kind h0 (by rw[hk];decide)).2.2) (one (i1 (s 2 (by simp))))
 |num h0 hk _ i1=>exactλhw=> .mk (hw.some (hw.kind h0 (by rcases hk with hk|hk<;>rw[hk]<;>decide)).2.2) (one (i1 (s 1 (by simp))))
 |iY h0 hk _ _ _ i1=>exactλhw=> .mk (hw.some (hw.kind h0 (by rcases hk with hk|hk<;>rw[hk]<;>decide)).2.2) (λk hm=>i1 k hm s0)
 |map h0 hk _ hp _ _ i1 i2=>
  intro hw;have hw':=hw.some (hw.kind h0 (by rw[hk];decide)).2.2;refine .mk hw' (λk hm=>?_);obtain⟨q,h1,h2⟩:=eH.1 hm;simp at h2;rcases h2 with rfl|rfl
  ·exact i1 q h1 (s 3 (by simp))
  ·exact i2 q h1 (.inr (part hw' h0 hp))
 |gT h0 hk _ hl _ i1=>
  intro hw;have hw':=hw.some (hw.kind h0 (by rw[hk];decide)).2.2;refine .mk hw' (λk hm=>?_);obtain⟨i,hi⟩:=fR hm;obtain⟨p,hp⟩:=bg (i:=i) (by rw[<-hl];exact(cy.1 hi).1);exact i1 i k p hi hp (.inr (part hw' h0 hp))
 |pair h0 hk hp hq _ _ i1 i2=>
  intro hw;have hw':=hw.some (hw.kind h0 (by rw[hk];decide)).2.2;exact .mk hw' (two (i1 (.inr (part hw' h0 hp))) (i2 (.inr (part hw' h0 hq))))
 |one h0 hk _ i1=>exactλhw=> .mk (hw.some (hw.kind h0 (by rw[hk];decide)).2.2) (one (i1 (s 3 (by simp))))
 |write _ _ _ _ i1 i2 i3=>exactλ_=> .mk (a7.of wD (wQ B)) (three (i1 (.inr (a7.of wD (wQ B)))) (i2 (s 1 (by simp))) (i3 (s 3 (by simp))))
 |size _ _ _ i1=>exactλ_=> .mk (a7.sort (by simp)) (one (i1 s0))
 |sum _ _ _ _ _ _ i1=>exactλ_=> .mk (a7.sort (by simp)) (one (i1 s0))
 |lj hm _ _ _ _ i1=>exactλ_=> .mk (a7.sort (by simp at hm;omega)) (one (i1 s0))
 |part _ _ hs _ hp _ i1=>exactλ_=> .mk (part (i1 s0).ty hs hp) (one (i1 s0))
end
open Classical in
noncomputable def cF {D:Type} (a b:D):Bool:=decide (a=b)
theorem nn {D:Type} {a b:D}:cF a b=true↔a=b:=by simp[cF]
theorem mj {D:Type} {a b:D} {r:Bool} (h:r=true↔a=b):r=cF a b:=by rw[iP,h,nn]
theorem Fg {D:Type}:∀{a b:List D},a.length=b.length->(a.zip b).all (λq=>cF q.1 q.2)=cF a b
 |[],[],_=>by simp[cF]
 |x::a,y::b,h=>by
  rw[Aq,kx,Fg (by simpa using h)];apply mj;simp[nn]
 |[],_::_,h=>by simp at h
 |_::_,[],h=>by simp at h
section
variable {B:Nat} (hB:B<=1048576)
include hB
theorem Mn:∀a:ab,TT B a->∀b:ab,b.ok B->(vu Pu) a b=some (cF a b):=by
 refine ab.ind λa ih ha b hb=>?_;rw[ab.cM]at hb;obtain⟨_,_,_,_,_,hkl,hkk⟩:=hb;have hkids:(BZ Pu) a.Kids b.Kids=some (cF a.Kids b.Kids):=by
  rw[XU,xf];simp only[ab.aB];by_cases h:a.Kids.length=b.Kids.length
  ·have h0:((a.Kids.length:Int) !=(b.Kids.length:Int))=false:=by simp[h]
   rw[h0];show(sX Pu) a.Kids b.Kids 0=_;rw[og (a:=a.Kids) (b:=b.Kids) (L:=(sX Pu) a.Kids b.Kids) cF true h ?_ ?_]
   ·rw[oY,Fg h]
   ·intro i x y hx hy hi;rw[Lx,sY,ab.aB,mW (by omega)];have h1:decide ((i:Int)<(a.Kids.length:Int))=true:=by simpa using hi
    have hx':=bh hx;rw[h1,bc hx,bc hy];show(((vu Pu) x y).bind _)=_;rw[ih x hx' (ha.ez hx') y (ab.gF hkk (bh hy))];show(bif !(cF x y)then _ else _)=_;cases cF x y<;>rfl
   ·rw[Lx,sY,ab.aB];simp
  ·have h0:((a.Kids.length:Int) !=(b.Kids.length:Int))=true:=by simp;omega
   rw[h0];show some false=_;congr 1;exact mj (by constructor;intro e;cases e;intro e;exact absurd (congrArg List.length e) h)
 have hty:(qp Pu) a.aj b.aj=some (cF a.aj b.aj):=by
  obtain⟨r,e,hr⟩:=wE (b:=b.aj) hB ha.ty.ok;rw[e,mj hr]
 rw[e36,zK,hkids,hty];obtain⟨op,ty,n,t,at',ks⟩:=a;obtain⟨op',ty',n',t',at'',ks'⟩:=b;have e:cF (⟨op,ty,n,t,at',ks⟩:ab) ⟨op',ty',n',t',at'',ks'⟩=(op==op'&&(n==n'&&(t==t'&&(at'==at''&&(cF ty ty'&&cF ks ks'))))):=by
  symm;apply mj;simp only[bG,beq_iff_eq,nn,ab.mk.injEq];constructor
  ·rintro ⟨a,b,c,d,e,f⟩;exact⟨a,e,b,c,d,f⟩
  ·rintro ⟨a,e,b,c,d,f⟩;exact⟨a,b,c,d,e,f⟩
 rw[e];simp only[aq];generalize (op==op')=c1;generalize (n==n')=c2;generalize (t==t')=c3;generalize (at'==at'')=c4;generalize cF ty ty'=c5;generalize cF ks ks'=c6;cases c1<;>cases c2<;>cases c3<;>cases c4<;>cases c5<;>cases c6<;>rfl
def iE (l:ah) (f:bD):ay:=bif f.Result==0 then bN l else aL f.Result
structure VF (B:Nat) (l:ah) (f:bD):Prop where
 ce:CE B ⟨l,f.Params⟩
 form:oE f
 body:W l f.Params f.Body (iE l f)
 tt:TT B f.Body
theorem Vd {l:ah} {f:bD} (hl:l.ok B) (hf:f.ok B):ag ((so Pu) l f) (λr=>r=true->VF B l f):=by
 obtain⟨hn,ho,⟨hpl,hp⟩,_,hb⟩:=hf;rw[SN,vE];have no:ag (some false) (λr=>r=true->VF B l f):=ag.ret λe=>by cases e
 refine ag.bind (Ve (by omega) hl) (λy1 h1=>?_);refine ag.bif (λ_=>no) (λe1=>?_);have hlat:ef l:=h1 (by simpa using e1);refine ag.bind (Uw (by omega) (by omega) (λp hm=>by have:=(hp p hm).1;omega)) (λy3 h3=>?_);refine ag.bif (λ_=>no) (λe3=>?_);have hform:oE f:=h3 (by simpa using e3);have hce:CE B ⟨l,f.Params⟩:=⟨hlat,hl,λp hm=>by
  obtain⟨i,hi⟩:=fR hm;have:=hform.2.2.2.2.2 i p hi;exact⟨this.2.1,this.2.2.1⟩,hpl⟩
 refine ag.bind (V4 hB f.Body hb) (λy5 h5=>?_);refine ag.bif (λ_=>no) (λe5=>?_);have hwn:=h5 (by simpa using e5);rw[NM,aq];have hww:bW B (iE l f):=by
  unfold iE;cases h:f.Result==0 with
  |true=>exact .inr (a7.of hlat hl)
  |false=>
   have h0:f.Result≠0:=by simpa using h
   have:=hform.2.2.2;exact .inr (a7.sort (by omega))
 have hE:=Mo hB hce hwn (iE l f) hww;refine ag.bind (P:=λr=>r.2.Code=0->EP B ⟨l,f.Params⟩ y5.1 (iE l f) r.1) ?_ (λy8 h8=>?_)
 ·rw[SM,vD];refine ctF hE (λa b ha=>?_) (λy hy=>ag.ret λ_=>hy);exact ag.bif (λh=>ag.ret λe=>absurd e ha) (λh=>ag.ret λe=>absurd e ha)
 ·refine ag.bif (λh=>?_) (λ_=>no);have h8:=h8 (by simpa using h);have htt:=W.tt hce h8.2.2.2 hww;rw[Mn hB y8.1 htt f.Body hb,aq];refine ag.ret λe=>?_;have e:=nn.1 e;rw[e]at h8 htt;exact⟨hce,hform,h8.2.2.2,htt⟩
end
inductive KB:ab->Prop
 |mk {y:ab}:y.Kids.length<=2097152->(∀k∈y.Kids,KB k)->KB y
theorem W.kb {l:ah} {ps:List TParam} {y:ab} {w:ay} (h:W l ps y w):KB y:=by
 induction h with
 |map _ _ hn _ _ _ i1 i2=>
  refine .mk (by rw[oc];omega) λk hk=>?_;obtain⟨q,h1,h2⟩:=eH.1 hk;simp at h2;rcases h2 with rfl|rfl
  ·exact i1 q h1
  ·exact i2 q h1
 |iY _ _ hn _ _ i1=>exact .mk (nW hn (by decide)) i1
 |gT _ _ hn hl _ i1=>
  refine .mk (nW hn (by decide)) λk hk=>?_;obtain⟨i,hi⟩:=fR hk;obtain⟨p,hp⟩:=bg (i:=i) (by rw[<-hl];exact(cy.1 hi).1);exact i1 i k p hi hp
 |_=>exact .mk (by simp) (by simp[*])
