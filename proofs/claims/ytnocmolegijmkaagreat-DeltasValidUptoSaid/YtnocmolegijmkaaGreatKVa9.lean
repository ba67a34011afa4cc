/- The elaborator answers well-typed expressions, or a fault; types.Valid answers, and true only to well-typed functions. -/
import Derived.Test.YtnocmolegijmkaaGreatKVa6
import Derived.Test.YtnocmolegijmkaaGreatKVa1
set_option linter.all false
namespace Go.Proofs.YtnocmolegijmkaaGreat
open Go Go.Bw
theorem Ns (t:List UInt8):ah ((fc Pu) t) (λr=>(r= -1/\(t=[115,101,116]\/t=dR\/t=dv))\/(r=3/\t=[119,114,105,116,101])\/(r=2/\t=[112,97,105,114])\/(r=1/\t≠[115,101,116]/\t≠dR/\t≠dv/\t≠[119,114,105,116,101]/\t≠[112,97,105,114])):=by
 rw[fY,eM]
 repeat' (first|refine ah.bif (λh=>?_) (λh=>?_)|refine ah.ret ?_)
 all_goals (simp at*;simp[dR,dv, *])
theorem mV {D:Type}:∀l:List (D×D),(l.flatMap λq=>[q.1,q.2]).length=2*l.length
 |[]=>rfl
 |q::l=>by rw[vu,lx,mV l];simp;omega
theorem KE {n:af} (h:n.Kind=51) (ht:n.Text=dR\/n.Text=dv):iI n=n.Kids.flatMap (·.Kids):=by
 rw[iI,h];rcases ht with e|e<;>rw[e]<;>rfl
theorem JZ {n:af} (h1:n.Text≠dR) (h2:n.Text≠dv):iI n=n.Kids:=by
 have e1:(n.Text==dR)=false:=by simpa using h1
 have e2:(n.Text==dv)=false:=by simpa using h2
 rw[iI,e1,e2];simp
section
variable {B:Nat} (hB:B<=1048576) {c:bm} (hc:CE B c)
theorem oB {ks:List Int} {w:ay} {n:af} (hk:ks.length<9223372036854775807):ae ((fX Pu) ks w n) (λ_=>w.aL=0/\w.aw.Kind∈ks) dI:=by
 rw[LO,rG];refine ae.bif (λ_=>eW _ _) (λhs=>?_);refine ae.au (qI ks _ hk) ?_;refine ae.bif (λ_=>eW _ _) (λhm=>ae.ret ⟨by simpa using hs,?_⟩);simp only[FI,vD,beq_iff_eq]at hm;obtain⟨k,h1,h2⟩:=hm;rw[h2];exact h1
include hB in
theorem Q0 {n:af} {w:ay} (hw:a7 B w) (hs:w.aL=0) (hk:w.aw.Kind=4\/w.aw.Kind=10) (hn:n.Kids.length<=B) (ih:∀k∈n.Kids,EE B c k):ae ((ij Pu) c n w 0 []) (AP B c w) dI:=by
 have h:=mW (L:=λi (b:List ab)=>(ij Pu) c n w i b) (P:=AP B c w) (E:=dI) (len:=n.Kids.length) (λi b=>b.length=i/\∀x∈b,W c.l c.params x (aK 0)/\(x.aq.aL=3\/x.aq.aL=4)) (λi b hi hI k=>by
   show ae ((ij Pu) c n w i b) _ _;rw[xc,ni,af.aH,bq];have:decide (i<n.Kids.length)=true:=by simpa using hi
   obtain⟨e,he⟩:=bu hi;rw[this,a6,bw he,aE,cw i (by omega)];refine ae.aF (ih e (br he) (aK 0) (.inl rfl)) (λy hy=>?_);have hlen:decide ((b++[ab.z]).length<=274877906944)=true:=by simp;omega
   rw[hlen,a6,ab.aH,ox,iR,np];have e1:(b++[ab.z])[b.length]? =some ab.z:=by simp
   have e2:IntKind.i64.wrap ((((ab.rows b++ab.rows [ab.z]).length:Nat):Int)-1)=(b.length:Int):=by
    rw[lx,ab.aH,ab.aH,wrap64 (by simp<;>omega) (by simp<;>omega)];simp
   have e3:(b++[y])[b.length]? =some y:=by simp
   rw[e1,aE,e2,ox,e3,aE];have go:(y.aq.aL=3\/y.aq.aL=4)->ae ((ij Pu) c n w ((i+1:Nat):Int) (b++[y])) (AP B c w) dI:=λhsy=>by
    refine k _ ⟨by simp[hI.1],λx hx=>?_⟩;rcases cD.1 hx with hx|hx
    ·exact hI.2 x hx
    ·simp at hx;subst hx;exact⟨hy.2.2.2,hsy⟩
   refine ae.bif (λ_=>?_) (λh=>go (.inl (by simpa using h)));exact ae.bif (λ_=>eW _ _) (λh=>go (.inr (by simpa using h)))) (λb hI=>by
   show ae ((ij Pu) c n w _ b) _ _;rw[xc,ni,af.aH,bq];have:decide (n.Kids.length<n.Kids.length)=false:=by simp
   rw[this,bl];exact ae.ret ⟨hw,λa _=> .gW hs hk (by show b.length<=_;have:=hI.1;omega) (λx hx=>(hI.2 x hx).1) (λx hx=>(hI.2 x hx).2)⟩) 0 [] (by omega) ⟨rfl,by simp⟩
 exact h
include hB in
theorem Q1 {n:af} {w:ay} (hw:a7 B w) (hs:w.aL=0) (hk:w.aw.Kind=5) (hn:n.Kids.length<=B) (ih:∀e∈n.Kids,∃a b,e.Kids=[a,b]/\EE B c a/\EE B c b):ae ((ke Pu) c n w 0 []) (AP B c w) dI:=by
 obtain⟨p,hp⟩:=BV (hw.eT hs).1 hk;have hwp:a7 B (bY p):=gP hw hs (by rw[hp];simp);have h:=mW (L:=λi (b:List ab)=>(ke Pu) c n w i b) (P:=AP B c w) (E:=dI) (len:=n.Kids.length) (λi b=>b.length=2*i/\∃qs:List (ab×ab),b=(qs.flatMap λq=>[q.1,q.2])/\∀q∈qs,W c.l c.params q.1 (aK 3)/\W c.l c.params q.2 (bY p)) (λi b hi hI k=>by
   show ae ((ke Pu) c n w i b) _ _;rw[xd,nj,af.aH,bq];have:decide (i<n.Kids.length)=true:=by simpa using hi
   obtain⟨e,he⟩:=bu hi;obtain⟨x,z,hxz,hx,hz⟩:=ih e (br he);rw[this,a6,bw he,aE,cw i (by omega),hxz,hp];refine ae.au (v:=x) rfl (ae.au (bz 3) ?_);refine ae.aF (hx (aK 3) (.inr (a7.sort (by simp)))) (λu hu=>?_);have hlen:decide ((b++[ab.z]).length<=274877906944)=true:=by simp;omega
   rw[hlen,a6,ab.aH,iR,np];have e1:(b++[ab.z])[b.length]? =some ab.z:=by simp
   refine ae.au (fU e1) (ae.au (v:=z) rfl (ae.au (v:=p) rfl (ae.au (of_eq p) ?_)));refine ae.aF (hz (bY p) (.inr hwp)) (λv hv=>?_);have hlen2:decide (((b++[u])++[ab.z]).length<=274877906944)=true:=by simp;omega
   have e2:(((ab.rows b++ab.rows [ab.z]).length:Nat):Int)=(((b++[u]).length:Nat):Int):=by
    rw[lx,ab.aH,ab.aH];simp
   have e3:((b++[u])++[ab.z])[(b++[u]).length]? =some ab.z:=by simp
   rw[hlen2,a6,e2];refine ae.au (fU e3) ?_;rw[iR,np];refine k _ ⟨by simp[hI.1];omega,?_⟩;obtain⟨qs,hb,hq⟩:=hI.2;refine⟨qs++[(u,v)],by rw[hb];simp,λq hm=>?_⟩;rcases cD.1 hm with hm|hm
   ·exact hq q hm
   ·simp at hm;subst hm;exact⟨hu.2.2.2,hv.2.2.2⟩) (λb hI=>by
   show ae ((ke Pu) c n w _ b) _ _;rw[xd,nj,af.aH,bq];have:decide (n.Kids.length<n.Kids.length)=false:=by simp
   rw[this,bl];obtain⟨hlb,qs,rfl,hq⟩:=hI;exact ae.ret ⟨hw,λa _=> .map hs hk (p:=p) (by show qs.length<=_;rw[mV]at hlb;omega) (by rw[hp];rfl) (λq hm=>(hq q hm).1) (λq hm=>(hq q hm).2)⟩) 0 [] (by omega) ⟨rfl,[],rfl,by simp⟩
 exact h
include hB in
theorem P1 {n:af} {w:ay} (hw:cS B w) (h51:n.Kind=51) (hs:ir n) (hn:n.Kids.length<=B) (ih:∀k∈iI n,EE B c k):ae ((dM Pu) c n w) (AP B c w) dI:=by
 have hs:(n.Text=dR->∀e∈n.Kids,e.Kids.length=2)/\(n.Text=dv->∀e∈n.Kids,e.Kids.length=1):=by
  unfold ir at hs;rcases hs with h|h|h|h|h
  ·omega
  ·omega
  ·omega
  ·omega
  ·exact h.2
 have s1:cS B (aK 1):= .inr (a7.sort (by simp));have s2:cS B (aK 2):= .inr (a7.sort (by simp));have s3:cS B (aK 3):= .inr (a7.sort (by simp));have wty:∀ks:List Int,(0:Int)∉ks->(w.aL=0/\w.aw.Kind∈ks)->a7 B w:=λks h0 h=>hw.some (hw.kind h.1 (λe=>h0 (by rw[<-e];exact h.2))).2.2;rw[fZ,eN];refine ae.bind (Ns n.Text) (λr hr=>?_);refine ae.bif (λh0=>?_) (λh0=>?_)
 ·have h0:0<=r:=by simpa using h0
  have nm:n.Text≠dR/\n.Text≠dv/\n.Text≠[115,101,116]:=by
   rcases hr with h|⟨_,h⟩|⟨_,h⟩|h
   ·omega
   ·rw[h];exact⟨by decide,by decide,by decide⟩
   ·rw[h];exact⟨by decide,by decide,by decide⟩
   ·exact⟨h.2.2.1,h.2.2.2.1,h.2.1⟩
  rw[JZ nm.1 nm.2.1]at ih;refine ae.bif (λ_=>eW _ _) (λhl=>?_);have hl:r=(n.Kids.length:Int):=by rw[af.aH]at hl;simpa using hl
  have one:n.Text≠[119,114,105,116,101]->n.Text≠[112,97,105,114]->∃x,n.Kids=[x]:=λh1 h2=>nM (by
   rcases hr with h|h|h|h
   ·omega
   ·exact absurd h.2 h1
   ·exact absurd h.2 h2
   ·omega)
  refine ae.bif (λht=>?_) (λ_=>?_)
  ·have ht:n.Text=[102,108,97,103]:=by simpa using ht
   obtain⟨x,hx⟩:=one (by rw[ht];decide) (by rw[ht];decide);rw[hx]at ih⊢;refine ae.b9 (λ_ h=>h.ref) (oB (by simp)) (λ_ hk=>?_);refine ae.au (v:=x) rfl (ae.au (bz 2) ?_);refine ae.aF (ih x (by simp) (aK 2) s2) (λy hy=>?_);exact ae.ret ⟨wty _ (by simp) hk,λa _=> .flag hk.1 (by simpa using hk.2) hy.2.2.2⟩
  refine ae.bif (λht=>?_) (λ_=>?_)
  ·have ht:n.Text=[110,117,109]:=by simpa using ht
   obtain⟨x,hx⟩:=one (by rw[ht];decide) (by rw[ht];decide);rw[hx]at ih⊢;refine ae.b9 (λ_ h=>h.ref) (oB (by simp)) (λ_ hk=>?_);refine ae.au (v:=x) rfl (ae.au (bz 1) ?_);refine ae.aF (ih x (by simp) (aK 1) s1) (λy hy=>?_);exact ae.ret ⟨wty _ (by simp) hk,λa _=> .num hk.1 (by simpa using hk.2) hy.2.2.2⟩
  refine ae.bif (λht=>absurd (by simpa using ht) nm.2.2) (λ_=>?_);refine ae.bif (λht=>absurd (eq_of_beq ht) nm.1) (λ_=>?_);refine ae.bif (λht=>absurd (eq_of_beq ht) nm.2.1) (λ_=>?_);refine ae.bif (λht=>?_) (λhp=>?_)
  ·have ht:n.Text=[112,97,105,114]:=by simpa using ht
   obtain⟨x,z,hx⟩:=kY (l:=n.Kids) (by
    rcases hr with h|h|h|h
    ·omega
    ·have:=h.2;rw[ht]at this;exact absurd this (by decide)
    ·omega
    ·exact absurd ht h.2.2.2.2.2)
   rw[hx]at ih⊢;refine ae.b9 (λ_ h=>h.ref) (oB (by simp)) (λ_ hk=>?_);have hw':=wty _ (by simp) hk;have h7:w.aw.Kind=7:=by simpa using hk.2
   obtain⟨p,q,hp⟩:=BW (hw'.eT hk.1).1 h7;rw[hp];refine ae.au (v:=x) rfl (ae.au (v:=p) rfl (ae.au (of_eq p) ?_));refine ae.aF (ih x (by simp) _ (.inr (gP hw' hk.1 (by rw[hp];simp)))) (λu hu=>?_);refine ae.bif (λ_=>?_) (λe=>absurd e (by simp));refine ae.au (v:=ab.z) rfl (ae.au (v:=z) rfl (ae.au (v:=q) rfl (ae.au (of_eq q) ?_)));refine ae.aF (ih z (by simp) _ (.inr (gP hw' hk.1 (by rw[hp];simp)))) (λv hv=>?_);refine ae.bif (λ_=>?_) (λe=>absurd e (by simp));refine ae.au (v:=ab.z) rfl ?_;exact ae.ret ⟨hw',λa _=> .pair hk.1 h7 (p:=p) (q:=q) (by rw[hp];rfl) (by rw[hp];rfl) hu.2.2.2 hv.2.2.2⟩
  have hp:n.Text≠[112,97,105,114]:=by simpa using hp
  refine ae.bif (λht=>?_) (λ_=>?_)
  ·have ht:n.Text=[111,110,101]:=by simpa using ht
   obtain⟨x,hx⟩:=one (by rw[ht];decide) (by rw[ht];decide);rw[hx]at ih⊢;refine ae.b9 (λ_ h=>h.ref) (oB (by simp)) (λ_ hk=>?_);refine ae.au (v:=x) rfl (ae.au (bz 3) ?_);refine ae.aF (ih x (by simp) (aK 3) s3) (λy hy=>?_);exact ae.ret ⟨wty _ (by simp) hk,λa _=> .one hk.1 (by simpa using hk.2) hy.2.2.2⟩
  refine ae.bif (λht=>?_) (λhwr=>?_)
  ·have ht:n.Text=[119,114,105,116,101]:=by simpa using ht
   obtain⟨x,y,z,hx⟩:=pd (l:=n.Kids) (by
    rcases hr with h|h|h|h
    ·omega
    ·omega
    ·have:=h.2;rw[ht]at this;exact absurd this (by decide)
    ·exact absurd ht h.2.2.2.2.1)
   rw[hx]at ih⊢;have wr:a7 B (bY eO):=a7.of wK (xl B);refine ae.au (of_eq eO) (ae.au (v:=x) rfl ?_);refine ae.aF (ih x (by simp) _ (.inr wr)) (λu hu=>?_);refine ae.bif (λ_=>?_) (λe=>absurd e (by simp));refine ae.au (v:=ab.z) rfl (ae.au (v:=y) rfl (ae.au (bz 1) ?_));refine ae.aF (ih y (by simp) _ s1) (λv hv=>?_);refine ae.bif (λ_=>?_) (λe=>absurd e (by simp));refine ae.au (v:=ab.z) rfl (ae.au (v:=z) rfl (ae.au (bz 3) ?_));refine ae.aF (ih z (by simp) _ s3) (λt ht=>?_);refine ae.bif (λ_=>?_) (λe=>absurd e (by simp));refine ae.au (v:=ab.z) rfl ?_;exact ae.ret ⟨wr,λa hf=> .write hu.2.2.2 hv.2.2.2 ht.2.2.2 hf⟩
  obtain⟨x,hx⟩:=one (by simpa using hwr) hp;exact ae.aF (NG hx (ih x (by rw[hx];simp))) λy hy=>ae.ret hy
 ·have h0:r<0:=by simpa using h0
  have hm:n.Text=[115,101,116]\/n.Text=dR\/n.Text=dv:=by
   rcases hr with h|h|h|h
   ·exact h.2
   ·omega
   ·omega
   ·omega
  have no:∀t:List UInt8,t≠[115,101,116]->t≠dR->t≠dv->(n.Text==t)=true->False:=λt h1 h2 h3 e=>by
   have e:n.Text=t:=by simpa using e
   rw[e]at hm;rcases hm with h|h|h
   ·exact h1 h
   ·exact h2 h
   ·exact h3 h
  refine ae.bif (λht=>(no _ (by decide) (by decide) (by decide) ht).elim) (λ_=>?_);refine ae.bif (λht=>(no _ (by decide) (by decide) (by decide) ht).elim) (λ_=>?_);refine ae.bif (λht=>?_) (λhns=>?_)
  ·have ht:n.Text=[115,101,116]:=by simpa using ht
   rw[JZ (by rw[ht];decide) (by rw[ht];decide)]at ih;refine ae.b9 (λ_ h=>h.ref) (oB (by simp)) (λ_ hk=>?_);exact Q0 hB (wty _ (by simp) hk) hk.1 (by simpa using hk.2) hn ih
  refine ae.bif (λht=>?_) (λhnm=>?_)
  ·have ht:n.Text=dR:=eq_of_beq ht;rw[KE h51 (.inl ht)]at ih;refine ae.b9 (λ_ h=>h.ref) (oB (by simp)) (λ_ hk=>?_);refine Q1 hB (wty _ (by simp) hk) hk.1 (by simpa using hk.2) hn (λe he=>?_);obtain⟨a,b,hab⟩:=kY (hs.1 ht e he);exact⟨a,b,hab,ih a (eU.2 ⟨e,he,by rw[hab];simp⟩),ih b (eU.2 ⟨e,he,by rw[hab];simp⟩)⟩
  have ht:n.Text=dv:=by
   rcases hm with h|h|h
   ·rw[h]at hns;simp at hns
   ·rw[h]at hnm;simp[dR]at hnm
   ·exact h
  refine ae.bif (λ_=>?_) (λe=>by rw[ht]at e;simp[dv]at e);rw[KE h51 (.inr ht)]at ih;refine ae.b9 (λ_ h=>h.ref) (oB (by simp)) (λ_ hk=>?_);have hw':=wty _ (by simp) hk;have h6:w.aw.Kind=6:=by simpa using hk.2
  refine ae.aF (Ow hB (hw'.eT hk.1).1 (hw'.eT hk.1).2 h6 hn (λe he=>?_)) (λy hy=>?_)
  ·obtain⟨a,ha⟩:=nM (hs.2 ht e he);exact⟨a,ha,ih a (eU.2 ⟨e,he,by rw[ha];simp⟩)⟩
  ·exact ae.ret ⟨hw',λa _=> .gG hk.1 h6 (by have ho:=(hw'.eT hk.1).2;rw[ai.cY]at ho;have:=ho.2.2.2.2.1.1;rw[hy.1];omega) hy.1 hy.2⟩
include hB in
theorem NH {n:af} {w:ay} (hw:cS B w) (hs:ir n) (hk:n.Kind=30\/n.Kind=36\/n.Kind=38\/n.Kind=39\/n.Kind=42\/n.Kind=43) (hW:∀k∈n.Kids,WN B k) (ih:∀k∈n.Kids,EE B c k):ae ((yD Pu) c n w) (AP B c w) dI:=by
 have s2:cS B (aK 2):= .inr (a7.sort (by simp));rw[kq,gV];refine ae.au (bz 2) ?_;refine ae.bif (λh=>?_) (λn30=>?_)
 ·have h:n.Kind=30:=by simpa using h
  obtain⟨x,y,z,hx⟩:=pd (l:=n.Kids) (by unfold ir at hs;omega);rw[hx]at hW ih⊢;refine ae.au (v:=x) rfl (ae.aF (ih x (by simp) _ s2) λu hu=>?_);refine ae.au (jD w) ?_;refine ae.bif (λhn=>?_) (λhn=>?_)
  ·have hn:isNone w=true:=hn;refine ae.au (v:=y) rfl (ae.au (v:=z) rfl ?_);refine ae.aF (Ap (hW y (by simp)) (hW z (by simp)) (ih y (by simp)) (ih z (by simp))) (λr hr=>?_);rcases hr with⟨h1,h2,_⟩|⟨h1,h2,_⟩
   ·exact ae.ret ⟨h1.2.1,λa _=> .ku hn hu.2.2.2 h1.2.2.2 h2.2.2.2⟩
   ·exact ae.ret ⟨h2.2.1,λa _=> .kv hn hu.2.2.2 h1.2.2.2 h2.2.2.2⟩
  ·have hn:isNone w=false:=hn;refine ae.au (v:=y) rfl (ae.aF (ih y (by simp) _ hw) λv hv=>?_);refine ae.au (v:=z) rfl (ae.aF (ih z (by simp) _ hw) λt ht=>?_);refine ae.ret ⟨hv.2.1,λa _=>?_⟩;show W c.l c.params ⟨7,v.aq,0,[],a,[u,v,t]⟩ w;rw[<-hv.2.2.1 hn];exact .iH hn hu.2.2.2 hv.2.2.2 ht.2.2.2
 refine ae.bif (λh=>?_) (λn36=>?_)
 ·have h:n.Kind=36:=by simpa using h
  obtain⟨x,y,hx⟩:=kY (l:=n.Kids) (by unfold ir at hs;omega);rw[hx]at ih⊢;refine ae.au (v:=x) rfl (ae.aF (ih x (by simp) _ (.inl rfl)) λu hu=>?_);refine ae.bif (λ_=>ae.au (v:=x) rfl (eW _ _)) (λhs0=>?_);refine ae.au (v:=y) rfl (ae.aF (ih y (by simp) _ (.inr hu.2.1)) λv hv=>?_);exact ae.ret ⟨a7.sort (by simp),λa hf=> .equal hu.2.2.2 (by simpa using hs0) hv.2.2.2 hf⟩
 refine ae.bif (λh=>?_) (λn38=>?_)
 ·have h:n.Kind=38:=by simpa using h
  obtain⟨x,y,hx⟩:=kY (l:=n.Kids) (by unfold ir at hs;omega);rw[hx]at hW ih⊢;refine ae.au (v:=x) rfl (ae.au (v:=y) rfl ?_);refine ae.aF (Ap (hW x (by simp)) (hW y (by simp)) (ih x (by simp)) (ih y (by simp))) (λr hr=>?_);rcases hr with⟨h1,h2,h3⟩|⟨h1,h2,h3⟩
  ·exact ae.ret ⟨a7.sort (by simp),λa hf=> .k8 h1.2.2.2 (h3 rfl) h2.2.2.2 hf⟩
  ·exact ae.ret ⟨a7.sort (by simp),λa hf=> .k9 h1.2.2.2 (h3 rfl) h2.2.2.2 hf⟩
 refine ae.bif (λh=>?_) (λn39=>?_)
 ·have h:n.Kind=39:=by simpa using h
  obtain⟨x,y,hx⟩:=kY (l:=n.Kids) (by unfold ir at hs;omega);refine ae.au (jD w) ?_;refine ae.bif (λhn=>?_) (λhn=>?_)
  ·have hn:isNone w=false:=by simpa using hn
   refine ae.bif (λ_=>eW _ _) (λhs0=>?_);refine ae.aF (HW hx (ih x (by rw[hx];simp)) (ih y (by rw[hx];simp)) hw hw) (λr hr=>?_);obtain⟨u,v,rfl,hu,hv⟩:=hr;exact ae.ret ⟨hw.some hn,λa _=> .jb hn (by simpa using hs0) hu.2.2.2 hv.2.2.2⟩
  ·have hn:isNone w=true:=by simpa using hn
   rw[hx]at hW ih⊢;refine ae.au (v:=x) rfl (ae.au (v:=y) rfl ?_);refine ae.aF (Ap (hW x (by simp)) (hW y (by simp)) (ih x (by simp)) (ih y (by simp))) (λr hr=>?_);rcases hr with⟨h1,h2,h3⟩|⟨h1,h2,h3⟩
   ·exact ae.ret ⟨h1.2.1,λa hf=> .kj hn h1.2.2.2 (h3 rfl) h2.2.2.2⟩
   ·exact ae.ret ⟨h2.2.1,λa hf=> .km hn h1.2.2.2 (h3 rfl) h2.2.2.2⟩
 refine ae.bif (λh=>?_) (λn42=>?_)
 ·have h:n.Kind=42:=by simpa using h
  obtain⟨x,hx⟩:=nM (l:=n.Kids) (by unfold ir at hs;omega);rw[hx]at ih⊢;refine ae.au (v:=x) rfl (ae.aF (Av (by simp) (ih x (by simp))) λu hu=>?_);have h6:u.aq.aw.Kind=6:=by simpa using hu.2.2
  have hl:=(hu.1.2.1.eT hu.2.1);have hnl:u.aq.aw.Names.length<=B:=by have:=hl.2;rw[ai.cY]at this;exact this.2.2.2.1.1
  refine ae.au (sV _ _ (by omega)) ?_;refine ae.bif (λ_=>eW _ _) (λh2=>?_);obtain⟨j,t,hj,ht,_⟩:=Aw (by simpa using h2);rw[hj];have hjl:=(cX.1 ht).1;obtain⟨p,hp⟩:=bu (l:=u.aq.aw.aB) (i:=j) (by rw[xG hl.1 h6];exact hjl);refine ae.au (fU hp) (ae.au (of_eq p) ?_);exact ae.ret ⟨gP hu.1.2.1 hu.2.1 (br hp),λa hf=> .field hu.1.2.2.2 hu.2.1 h6 hjl hp hf⟩
 have h:n.Kind=43:=by simp at n30 n36 n38 n39 n42;omega
 obtain⟨x,y,hx⟩:=kY (l:=n.Kids) (by unfold ir at hs;omega);rw[hx]at ih⊢;refine ae.au (v:=x) rfl (ae.aF (Av (by simp) (ih x (by simp))) λu hu=>?_);have h5:u.aq.aw.Kind=5:=by simpa using hu.2.2
 obtain⟨p,hp⟩:=BV (hu.1.2.1.eT hu.2.1).1 h5;refine ae.au (v:=y) rfl (ae.au (bz 3) (ae.aF (ih y (by simp) _ (.inr (a7.sort (by simp)))) λv hv=>?_));rw[hp];refine ae.au (v:=p) rfl (ae.au (of_eq p) ?_);exact ae.ret ⟨gP hu.1.2.1 hu.2.1 (by rw[hp];simp),λa hf=> .at_ hu.1.2.2.2 hu.2.1 h5 (by rw[hp];rfl) hv.2.2.2 hf⟩
include hB hc in
theorem Q2 {n:af} {w:ay} (hw:cS B w) (h:WN B n) (ih:∀k∈iI n,EE B c k):ae ((nS Pu) c n w) (AP B c w) dI:=by
 obtain⟨hs,hl,h44,h47,hk⟩:=h;have s1:cS B (aK 1):= .inr (a7.sort (by simp));have s2:cS B (aK 2):= .inr (a7.sort (by simp));have s3:cS B (aK 3):= .inr (a7.sort (by simp));have s4:cS B (aK 4):= .inr (a7.sort (by simp));have two:∀(op:Int) (a b t:ay) (k:Int),n.Kind=k->31<=k/\k<=43/\k≠33/\k≠42->cS B a->cS B b->a7 B t->(∀(u v:ab) (x:Int),W c.l c.params u a->W c.l c.params v b->Fit w t->W c.l c.params ⟨op,t,0,[],x,[u,v]⟩ w)->
   ae (Bw.aF ((iF Pu) c op n a b t) λy=>some (.ret y)) (AP B c w) dI:=by
  intro op a b t k hn hkk ha hb ht hW;obtain⟨x,y,hx⟩:=kY (l:=n.Kids) (by unfold ir at hs;omega);rw[xH (by omega),hx]at ih;refine ae.aF (HW hx (ih x (by simp)) (ih y (by simp)) ha hb) (λr hr=>?_);obtain⟨u,v,rfl,hu,hv⟩:=hr;exact ae.ret ⟨ht,λq hf=>hW u v q hu.2.2.2 hv.2.2.2 hf⟩
 rw[ef,dC];refine ae.au (bz 2) (ae.au (bz 1) (ae.au (bz 3) ?_));refine ae.bif (λh=>?_) (λ_=>?_)
 ·have:=h44 (by simpa using h);exact ae.ret ⟨a7.sort (by simp),λa hf=> .int this.1 this.2 hf⟩
 refine ae.bif (λ_=>ae.ret ⟨a7.sort (by simp),λa hf=> .bool (.inr rfl) hf⟩) (λ_=>?_);refine ae.bif (λ_=>ae.ret ⟨a7.sort (by simp),λa hf=> .bool (.inl rfl) hf⟩) (λ_=>?_);refine ae.bif (λh=>ae.ret ⟨a7.sort (by simp),λa hf=> .name (h47 (by simpa using h)) hf⟩) (λ_=>?_);refine ae.bif (λ_=>?_) (λ_=>?_)
 ·refine ae.au (J0 _ _ (by have:=hc.num;omega)) ?_;refine ae.bif (λ_=>eW _ _) (λh2=>?_);obtain⟨j,p,hj,hp,_⟩:=Aw (by simpa using h2);rw[hj];refine ae.au (fU hp) (ae.au (bz _) ?_);exact ae.ret ⟨a7.sort (hc.par p (br hp)),λa hf=> .param hp hf⟩
 refine ae.bif (λ_=>?_) (λ_=>?_)
 ·refine ae.au (of_eq _) ?_;exact ae.ret ⟨a7.of hc.eT hc.ok,λa hf=> .state hf⟩
 refine ae.bif (λ_=>?_) (λ_=>?_)
 ·refine ae.bif (λ_=>eW _ _) (λh0=>?_);refine ae.au (jD w) ?_;refine ae.bif (λ_=>eW _ _) (λhn=>?_);exact ae.ret ⟨hw.some hn,λa hf=> .iq (by simpa using h0) hn⟩
 refine ae.bif (λh=>two 8 _ _ _ 31 (by simpa using h) (by decide) s2 s2 (a7.sort (by simp)) (λu v x hu hv hf=> .conn (.inl rfl) hu hv hf)) (λ_=>?_);refine ae.bif (λh=>two 9 _ _ _ 32 (by simpa using h) (by decide) s2 s2 (a7.sort (by simp)) (λu v x hu hv hf=> .conn (.inr rfl) hu hv hf)) (λ_=>?_);refine ae.bif (λh=>?_) (λ_=>?_)
 ·have h:n.Kind=33:=by simpa using h
  obtain⟨x,hx⟩:=nM (l:=n.Kids) (by unfold ir at hs;omega);rw[xH (by omega),hx]at ih;rw[hx];refine ae.au (v:=x) rfl (ae.aF (ih x (by simp) _ s2) λu hu=>?_);exact ae.ret ⟨a7.sort (by simp),λa hf=> .not hu.2.2.2 hf⟩
 refine ae.bif (λh=>two 11 _ _ _ 34 (by simpa using h) (by decide) s1 s1 (a7.sort (by simp)) (λu v x hu hv hf=> .less (.inl rfl) hu hv hf)) (λ_=>?_);refine ae.bif (λh=>two 12 _ _ _ 35 (by simpa using h) (by decide) s1 s1 (a7.sort (by simp)) (λu v x hu hv hf=> .less (.inr rfl) hu hv hf)) (λ_=>?_);refine ae.bif (λh=>ae.au (bz 4) (two 14 _ _ _ 37 (by simpa using h) (by decide) s3 s4 (a7.sort (by simp)) (λu v x hu hv hf=> .k7 hu hv hf))) (λ_=>?_);refine ae.bif (λh=>two 17 _ _ _ 40 (by simpa using h) (by decide) s1 s1 (a7.sort (by simp)) (λu v x hu hv hf=> .ji (.inl rfl) hu hv hf)) (λ_=>?_);refine ae.bif (λh=>two 18 _ _ _ 41 (by simpa using h) (by decide) s1 s1 (a7.sort (by simp)) (λu v x hu hv hf=> .ji (.inr rfl) hu hv hf)) (λ_=>?_);refine ae.bif (λh=>ae.aF (P1 hB hw (by simpa using h) hs hl ih) λy hy=>ae.ret hy) (λh51=>?_);have h51:n.Kind≠51:=by simpa using h51
 rw[xH h51]at ih hk;refine ae.aF (NH hB hw hs ?_ hk ih) λy hy=>ae.ret hy;simp at*
 unfold ir at hs;omega
include hB hc in
theorem P0 {n:af} (h:WN B n):EE B c n:=by
 induction h with
 |mk hs hl h44 h47 hk ih=>exactλw hw=>Q3 hB hw (Q2 hB hc hw (.mk hs hl h44 h47 hk) ih)
end
inductive TT (B:Nat):ab->Prop
 |mk {y:ab}:a7 B y.aq->(∀k∈y.Kids,TT B k)->TT B y
theorem TT.ty {B:Nat} {y:ab} (h:TT B y):a7 B y.aq:=by cases h;assumption
theorem TT.fT {B:Nat} {y k:ab} (h:TT B y) (hk:k∈y.Kids):TT B k:=by cases h with|mk _ h=>exact h k hk
section
variable {B:Nat} {c:bm} (hc:CE B c)
include hc
theorem W.tt {y:ab} {w:ay} (h:W c.l c.params y w):cS B w->TT B y:=by
 have s:∀n:Int,1<=n/\n<=4->cS B (aK n):=λn hn=> .inr (a7.sort hn);have s0:cS B (aK 0):= .inl rfl;have no:∀k∈([]:List ab),TT B k:=by simp
 have one:∀{x:ab},TT B x->∀k∈[x],TT B k:=λhx k hk=>by simp at hk;subst hk;exact hx
 have two:∀{x y:ab},TT B x->TT B y->∀k∈[x,y],TT B k:=λhx hy k hk=>by simp at hk;rcases hk with rfl|rfl<;>assumption
 have three:∀{x y z:ab},TT B x->TT B y->TT B z->∀k∈[x,y,z],TT B k:=λhx hy hz k hk=>by simp at hk;rcases hk with rfl|rfl|rfl<;>assumption
 have part:∀{t:ay} {p:ai} {i:Nat},a7 B t->t.aL=0->t.aw.aB[i]? =some p->a7 B (bY p):=λht hs hp=>gP ht hs (br hp)
 induction h with
 |int _ _ _=>exactλ_=> .mk (a7.sort (by simp)) no
 |bool _ _=>exactλ_=> .mk (a7.sort (by simp)) no
 |name _ _=>exactλ_=> .mk (a7.sort (by simp)) no
 |param hp _=>exactλ_=> .mk (a7.sort (hc.par _ (br hp))) no
 |state _=>exactλ_=> .mk (a7.of hc.eT hc.ok) no
 |iq _ hn=>exactλhw=> .mk (hw.some hn) no
 |iH hn _ _ _ i1 i2 i3=>exactλhw=> .mk (hw.some hn) (three (i1 (s 2 (by simp))) (i2 hw) (i3 hw))
 |ku _ _ _ _ i1 i2 i3=>exactλ_=> .mk (i2 s0).ty (three (i1 (s 2 (by simp))) (i2 s0) (i3 (.inr (i2 s0).ty)))
 |kv _ _ _ _ i1 i2 i3=>exactλ_=> .mk (i3 (.inr (i2 s0).ty)).ty (three (i1 (s 2 (by simp))) (i3 (.inr (i2 s0).ty)) (i2 s0))
 |conn _ _ _ _ i1 i2=>exactλ_=> .mk (a7.sort (by simp)) (two (i1 (s 2 (by simp))) (i2 (s 2 (by simp))))
 |not _ _ i1=>exactλ_=> .mk (a7.sort (by simp)) (one (i1 (s 2 (by simp))))
 |less _ _ _ _ i1 i2=>exactλ_=> .mk (a7.sort (by simp)) (two (i1 (s 1 (by simp))) (i2 (s 1 (by simp))))
 |equal _ _ _ _ i1 i2=>exactλ_=> .mk (a7.sort (by simp)) (two (i1 s0) (i2 (.inr (i1 s0).ty)))
 |k7 _ _ _ i1 i2=>exactλ_=> .mk (a7.sort (by simp)) (two (i1 (s 3 (by simp))) (i2 (s 4 (by simp))))
 |k8 _ _ _ _ i1 i2=>exactλ_=> .mk (a7.sort (by simp)) (two (i1 s0) (i2 (.inr (i1 s0).ty)))
 |k9 _ _ _ _ i1 i2=>exactλ_=> .mk (a7.sort (by simp)) (two (i2 (.inr (i1 s0).ty)) (i1 s0))
 |jb hn _ _ _ i1 i2=>exactλhw=> .mk (hw.some hn) (two (i1 hw) (i2 hw))
 |kj _ _ _ _ i1 i2=>exactλ_=> .mk (i1 s0).ty (two (i1 s0) (i2 (.inr (i1 s0).ty)))
 |km _ _ _ _ i1 i2=>exactλ_=> .mk (i2 (.inr (i1 s0).ty)).ty (two (i2 (.inr (i1 s0).ty)) (i1 s0))
 |ji _ _ _ _ i1 i2=>exactλ_=> .mk (a7.sort (by simp)) (two (i1 (s 1 (by simp))) (i2 (s 1 (by simp))))
 |field _ hs _ _ hp _ i1=>exactλ_=> .mk (part (i1 s0).ty hs hp) (one (i1 s0))
 |at_ _ hs _ hp _ _ i1 i2=>exactλ_=> .mk (part (i1 s0).ty hs hp) (two (i1 s0) (i2 (s 3 (by simp))))
 |flag h0 hk _ i1=>exactλhw=> .mk (hw.some (hw.kind h0 (by rw[hk];decide)).2.2) (one (i1 (s 2 (by simp))))
 |num h0 hk _ i1=>exactλhw=> .mk (hw.some (hw.kind h0 (by rcases hk with hk|hk<;>rw[hk]<;>decide)).2.2) (one (i1 (s 1 (by simp))))
 |gW h0 hk _ _ _ i1=>exactλhw=> .mk (hw.some (hw.kind h0 (by rcases hk with hk|hk<;>rw[hk]<;>decide)).2.2) (λk hm=>i1 k hm s0)
 |map h0 hk _ hp _ _ i1 i2=>
  intro hw;have hw':=hw.some (hw.kind h0 (by rw[hk];decide)).2.2;refine .mk hw' (λk hm=>?_);obtain⟨q,h1,h2⟩:=eU.1 hm;simp at h2;rcases h2 with rfl|rfl
  ·exact i1 q h1 (s 3 (by simp))
  ·exact i2 q h1 (.inr (part hw' h0 hp))
 |gG h0 hk _ hl _ i1=>
  intro hw;have hw':=hw.some (hw.kind h0 (by rw[hk];decide)).2.2;refine .mk hw' (λk hm=>?_);obtain⟨i,hi⟩:=jW hm;obtain⟨p,hp⟩:=bu (i:=i) (by rw[<-hl];exact(cX.1 hi).1);exact i1 i k p hi hp (.inr (part hw' h0 hp))
 |pair h0 hk hp hq _ _ i1 i2=>
  intro hw;have hw':=hw.some (hw.kind h0 (by rw[hk];decide)).2.2;exact .mk hw' (two (i1 (.inr (part hw' h0 hp))) (i2 (.inr (part hw' h0 hq))))
 |one h0 hk _ i1=>exactλhw=> .mk (hw.some (hw.kind h0 (by rw[hk];decide)).2.2) (one (i1 (s 3 (by simp))))
 |write _ _ _ _ i1 i2 i3=>exactλ_=> .mk (a7.of wK (xl B)) (three (i1 (.inr (a7.of wK (xl B)))) (i2 (s 1 (by simp))) (i3 (s 3 (by simp))))
 |size _ _ _ i1=>exactλ_=> .mk (a7.sort (by simp)) (one (i1 s0))
 |sum _ _ _ _ _ _ i1=>exactλ_=> .mk (a7.sort (by simp)) (one (i1 s0))
 |kE hm _ _ _ _ i1=>exactλ_=> .mk (a7.sort (by simp at hm;omega)) (one (i1 s0))
 |part _ _ hs _ hp _ i1=>exactλ_=> .mk (part (i1 s0).ty hs hp) (one (i1 s0))
end
open Classical in
noncomputable def cB {D:Type} (a b:D):Bool:=decide (a=b)
theorem mq {D:Type} {a b:D}:cB a b=true↔a=b:=by simp[cB]
theorem lQ {D:Type} {a b:D} {r:Bool} (h:r=true↔a=b):r=cB a b:=by rw[ly,h,mq]
theorem BE {D:Type}:∀{a b:List D},a.length=b.length->(a.zip b).all (λq=>cB q.1 q.2)=cB a b
 |[],[],_=>by simp[cB]
 |x::a,y::b,h=>by
  rw[vE,jw,BE (by simpa using h)];apply lQ;simp[mq]
 |[],_::_,h=>by simp at h
 |_::_,[],h=>by simp at h
section
variable {B:Nat} (hB:B<=1048576)
include hB
theorem HV:∀a:ab,TT B a->∀b:ab,b.ok B->(sf Pu) a b=some (cB a b):=by
 refine ab.ind λa ih ha b hb=>?_;rw[ab.cY]at hb;obtain⟨_,_,_,_,_,hkl,hkk⟩:=hb;have hkids:(xy Pu) a.Kids b.Kids=some (cB a.Kids b.Kids):=by
  rw[RH,tO];simp only[ab.aH];by_cases h:a.Kids.length=b.Kids.length
  ·have h0:((a.Kids.length:Int) !=(b.Kids.length:Int))=false:=by simp[h]
   rw[h0];show(qn Pu) a.Kids b.Kids 0=_;rw[mZ (a:=a.Kids) (b:=b.Kids) (L:=(qn Pu) a.Kids b.Kids) cB true h ?_ ?_]
   ·rw[od,BE h]
   ·intro i x y hx hy hi;rw[G8,qo,ab.aH,mm (by omega)];have h1:decide ((i:Int)<(a.Kids.length:Int))=true:=by simpa using hi
    have hx':=br hx;rw[h1,bw hx,bw hy];show(((sf Pu) x y).bind _)=_;rw[ih x hx' (ha.fT hx') y (ab.gO hkk (br hy))];show(bif !(cB x y)then _ else _)=_;cases cB x y<;>rfl
   ·rw[G8,qo,ab.aH];simp
  ·have h0:((a.Kids.length:Int) !=(b.Kids.length:Int))=true:=by simp;omega
   rw[h0];show some false=_;congr 1;exact lQ (by constructor;intro e;cases e;intro e;exact absurd (congrArg List.length e) h)
 have hty:(n9 Pu) a.aq b.aq=some (cB a.aq b.aq):=by
  obtain⟨r,e,hr⟩:=wL (b:=b.aq) hB ha.ty.ok;rw[e,lQ hr]
 rw[XC,vh,hkids,hty];obtain⟨op,ty,n,t,at',ks⟩:=a;obtain⟨op',ty',n',t',at'',ks'⟩:=b;have e:cB (⟨op,ty,n,t,at',ks⟩:ab) ⟨op',ty',n',t',at'',ks'⟩=(op==op'&&(n==n'&&(t==t'&&(at'==at''&&(cB ty ty'&&cB ks ks'))))):=by
  symm;apply lQ;simp only[bj,beq_iff_eq,mq,ab.mk.injEq];constructor
  ·rintro ⟨a,b,c,d,e,f⟩;exact⟨a,e,b,c,d,f⟩
  ·rintro ⟨a,e,b,c,d,f⟩;exact⟨a,b,c,d,e,f⟩
 rw[e];simp only[aE];generalize (op==op')=c1;generalize (n==n')=c2;generalize (t==t')=c3;generalize (at'==at'')=c4;generalize cB ty ty'=c5;generalize cB ks ks'=c6;cases c1<;>cases c2<;>cases c3<;>cases c4<;>cases c5<;>cases c6<;>rfl
def ja (l:ai) (f:bA):ay:=bif f.Result==0 then bY l else aK f.Result
structure VF (B:Nat) (l:ai) (f:bA):Prop where
 ce:CE B ⟨l,f.Params⟩
 form:nL f
 body:W l f.Params f.Body (ja l f)
 tt:TT B f.Body
theorem O8 {l:ai} {f:bA} (hl:l.ok B) (hf:f.ok B):ah ((l7 Pu) l f) (λr=>r=true->VF B l f):=by
 obtain⟨hn,ho,⟨hpl,hp⟩,_,hb⟩:=hf;rw[MO,so];have no:ah (some false) (λr=>r=true->VF B l f):=ah.ret λe=>by cases e
 refine ah.bind (O9 (by omega) hl) (λy1 h1=>?_);refine ah.bif (λ_=>no) (λe1=>?_);have hlat:dO l:=h1 (by simpa using e1);refine ah.bind (Ov (by omega) (by omega) (λp hm=>by have:=(hp p hm).1;omega)) (λy3 h3=>?_);refine ah.bif (λ_=>no) (λe3=>?_);have hform:nL f:=h3 (by simpa using e3);have hce:CE B ⟨l,f.Params⟩:=⟨hlat,hl,λp hm=>by
  obtain⟨i,hi⟩:=jW hm;have:=hform.2.2.2.2.2 i p hi;exact⟨this.2.1,this.2.2.1⟩,hpl⟩
 refine ah.bind (PZ hB f.Body hb) (λy5 h5=>?_);refine ah.bif (λ_=>no) (λe5=>?_);have hwn:=h5 (by simpa using e5);rw[IZ,aE];have hww:cS B (ja l f):=by
  unfold ja;cases h:f.Result==0 with
  |true=>exact .inr (a7.of hlat hl)
  |false=>
   have h0:f.Result≠0:=by simpa using h
   have:=hform.2.2.2;exact .inr (a7.sort (by omega))
 have hE:=P0 hB hce hwn (ja l f) hww;refine ah.bind (P:=λr=>r.2.Code=0->EP B ⟨l,f.Params⟩ y5.1 (ja l f) r.1) ?_ (λy8 h8=>?_)
 ·rw[MN,sn];refine XO hE (λa b ha=>?_) (λy hy=>ah.ret λ_=>hy);exact ah.bif (λh=>ah.ret λe=>absurd e ha) (λh=>ah.ret λe=>absurd e ha)
 ·refine ah.bif (λh=>?_) (λ_=>no);have h8:=h8 (by simpa using h);have htt:=W.tt hce h8.2.2.2 hww;rw[HV hB y8.1 htt f.Body hb,aE];refine ah.ret λe=>?_;have e:=mq.1 e;rw[e]at h8 htt;exact⟨hce,hform,h8.2.2.2,htt⟩
end
inductive KB:ab->Prop
 |mk {y:ab}:y.Kids.length<=2097152->(∀k∈y.Kids,KB k)->KB y
theorem W.kb {l:ai} {ps:List TParam} {y:ab} {w:ay} (h:W l ps y w):KB y:=by
 induction h with
 |map _ _ hn _ _ _ i1 i2=>
  refine .mk (by rw[mV];omega) λk hk=>?_;obtain⟨q,h1,h2⟩:=eU.1 hk;simp at h2;rcases h2 with rfl|rfl
  ·exact i1 q h1
  ·exact i2 q h1
 |gW _ _ hn _ _ i1=>exact .mk (mR hn (by decide)) i1
 |gG _ _ hn hl _ i1=>
  refine .mk (mR hn (by decide)) λk hk=>?_;obtain⟨i,hi⟩:=jW hk;obtain⟨p,hp⟩:=bu (i:=i) (by rw[<-hl];exact(cX.1 hi).1);exact i1 i k p hi hp
 |_=>exact .mk (by simp) (by simp[*])
theorem Pr (c:UInt8):(yE Pu) (c.toNat:Int)=some (ky c):=by
 rw[VT,uV];unfold ky;have h0:∀n:Nat,(decide ((n:Int)>=97)=decide (97<=n))/\(decide ((n:Int)<=122)=decide (n<=122))/\(decide ((n:Int)>=48)=decide (48<=n))/\(decide ((n:Int)<=57)=decide (n<=57))/\(((n:Int)==45)=(n==45)):=λn=>by
  refine⟨?_,?_,?_,?_,?_⟩<;>(rw[ly];simp only[og,beq_iff_eq];omega)
 obtain⟨h1,h2,h3,h4,h5⟩:=h0 c.toNat;rw[h1,h2,h3,h4,h5];cases decide (97<=c.toNat)<;>cases decide (c.toNat<=122)<;>cases decide (48<=c.toNat)<;>cases decide (c.toNat<=57)<;>rfl
theorem Pe (s:List UInt8) (hs:s.length<9223372036854775807):(sj Pu) s=some (gZ s):=by
 rw[XM,vp];cases s with
 |nil=>rfl
 |cons c r=>
  have hL:(tQ Pu) (c::r) 0=some ((c::r).all ky&&true):=by
   refine BG ky true (λi x hx hi=>?_) ?_
   ·rw[Jy,qX,bq];have:decide (i<(c::r).length)=true:=by simpa using hi
    rw[this,a6,bw hx,aE,Pr,aE,cw i (by omega)];cases ky x<;>rfl
   ·rw[Jy,qX,bq];have:decide ((c::r).length<(c::r).length)=false:=by simp
    rw[this];rfl
  have hi:aA (c::r:List UInt8) 0=some c:=rfl;have h0:decide ((((c::r).length:Nat):Int)<1)=false:=by simp;omega
  have h1:decide ((((c::r).length:Nat):Int)>16)= !decide ((c::r).length<=16):=by rw[ly];simp;omega
  have h2:decide (((c.toNat:Nat):Int)<97)= !decide (97<=c.toNat):=by rw[ly];simp;omega
  have h3:decide (((c.toNat:Nat):Int)>122)= !decide (c.toNat<=122):=by rw[ly];simp;omega
  rw[hi,hL,h0,h1];simp only[aE,od];rw[h2,h3];unfold gZ;simp only;cases decide ((c::r).length<=16)<;>cases decide (97<=c.toNat)<;>cases decide (c.toNat<=122)<;>rfl
section
variable {B:Nat} (hB:B<1099511627776)
include hB
end
section
variable {B:Nat} (hB:B<1099511627776)
include hB
