/- The elaborator answers well-typed expressions, or a fault; types.Valid answers, and true only to well-typed functions. -/
import Derived.Test.YtnocmolegijmkaaGreatKVa6
set_option linter.all false
namespace Go.Proofs.YtnocmolegijmkaaGreat
open Go Go.Bw
theorem aaP (t:List UInt8):ae ((f219 Pf) t) (λr=>(r= -1/\(t=[115,101,116]\/t=gP\/t=gQ))\/(r=3/\t=[119,114,105,116,101])\/(r=2/\t=[112,97,105,114])\/(r=1/\t≠[115,101,116]/\t≠gP/\t≠gQ/\t≠[119,114,105,116,101]/\t≠[112,97,105,114])):=by
 rw[ajT,BI]
 repeat' (first|refine ae.bif (λh=>?_) (λh=>?_)|refine ae.ret ?_)
 all_goals (simp at*;simp[gP,gQ, *])
theorem Ei {D:Type}:∀l:List (D×D),(l.flatMap λq=>[q.1,q.2]).length=2*l.length
 |[]=>rfl
 |q::l=>by rw[sO,jS,Ei l];simp;omega
theorem XF {n:aH} (h:n.Kind=51) (ht:n.Text=gP\/n.Text=gQ):kJ n=n.Kids.flatMap (·.Kids):=by
 rw[kJ,h];rcases ht with e|e<;>rw[e]<;>rfl
theorem W0 {n:aH} (h1:n.Text≠gP) (h2:n.Text≠gQ):kJ n=n.Kids:=by
 have e1:(n.Text==gP)=false:=by simpa using h1
 have e2:(n.Text==gQ)=false:=by simpa using h2
 rw[kJ,e1,e2];simp
section
variable {B:Nat} (hB:B<=1048576) {c:cD} (hc:CE B c)
theorem qR {ks:List Int} {w:aP} {n:aH} (hk:ks.length<9223372036854775807):ay ((f220 Pf) ks w n) (λ_=>w.a6=0/\w.aJ.Kind∈ks) eR:=by
 rw[ajU,BJ];refine ay.bif (λ_=>gv _ _) (λhs=>?_);refine ay.bE (Js ks _ hk) ?_;refine ay.bif (λ_=>gv _ _) (λhm=>ay.ret ⟨by simpa using hs,?_⟩);simp only[PZ,Hq,beq_iff_eq]at hm;obtain⟨k,h1,h2⟩:=hm;rw[h2];exact h1
include hB in
theorem afF {n:aH} {w:aP} (hw:bw B w) (hs:w.a6=0) (hk:w.aJ.Kind=4\/w.aJ.Kind=10) (hn:n.Kids.length<=B) (ih:∀k∈n.Kids,EE B c k):ay ((nz Pf) c n w 0 []) (AP B c w) eR:=by
 have h:=Eg (L:=λi (b:List ab)=>(nz Pf) c n w i b) (P:=AP B c w) (E:=eR) (len:=n.Kids.length) (λi b=>b.length=i/\∀x∈b,W c.l c.params x (bo 0)/\(x.aO.a6=3\/x.aO.a6=4)) (λi b hi hI k=>by
   show ay ((nz Pf) c n w i b) _ _;rw[UL,uS,aH.aF,aW];have:decide (i<n.Kids.length)=true:=by simpa using hi
   obtain⟨e,he⟩:=bm hi;rw[this,aB,a7 he,ax,bO i (by omega)];refine ay.aT (ih e (aY he) (bo 0) (.inl rfl)) (λy hy=>?_);have hlen:decide ((b++[ab.z]).length<=274877906944)=true:=by simp;omega
   rw[hlen,aB,ab.aF,D3,mj,EX];have e1:(b++[ab.z])[b.length]? =some ab.z:=by simp
   have e2:IntKind.i64.wrap ((((ab.rows b++ab.rows [ab.z]).length:Nat):Int)-1)=(b.length:Int):=by
    rw[jS,ab.aF,ab.aF,wrap64 (by simp<;>omega) (by simp<;>omega)];simp
   have e3:(b++[y])[b.length]? =some y:=by simp
   rw[e1,ax,e2,D3,e3,ax];have go:(y.aO.a6=3\/y.aO.a6=4)->ay ((nz Pf) c n w ((i+1:Nat):Int) (b++[y])) (AP B c w) eR:=λhsy=>by
    refine k _ ⟨by simp[hI.1],λx hx=>?_⟩;rcases bU.1 hx with hx|hx
    ·exact hI.2 x hx
    ·simp at hx;subst hx;exact⟨hy.2.2.2,hsy⟩
   refine ay.bif (λ_=>?_) (λh=>go (.inl (by simpa using h)));exact ay.bif (λ_=>gv _ _) (λh=>go (.inr (by simpa using h)))) (λb hI=>by
   show ay ((nz Pf) c n w _ b) _ _;rw[UL,uS,aH.aF,aW];have:decide (n.Kids.length<n.Kids.length)=false:=by simp
   rw[this,aC];exact ay.ret ⟨hw,λa _=> .AF hs hk (by show b.length<=_;have:=hI.1;omega) (λx hx=>(hI.2 x hx).1) (λx hx=>(hI.2 x hx).2)⟩) 0 [] (by omega) ⟨rfl,by simp⟩
 exact h
include hB in
theorem afG {n:aH} {w:aP} (hw:bw B w) (hs:w.a6=0) (hk:w.aJ.Kind=5) (hn:n.Kids.length<=B) (ih:∀e∈n.Kids,∃a b,e.Kids=[a,b]/\EE B c a/\EE B c b):ay ((pJ Pf) c n w 0 []) (AP B c w) eR:=by
 obtain⟨p,hp⟩:=zZ (hw.dE hs).1 hk;have hwp:bw B (dc p):=iP hw hs (by rw[hp];simp);have h:=Eg (L:=λi (b:List ab)=>(pJ Pf) c n w i b) (P:=AP B c w) (E:=eR) (len:=n.Kids.length) (λi b=>b.length=2*i/\∃qs:List (ab×ab),b=(qs.flatMap λq=>[q.1,q.2])/\∀q∈qs,W c.l c.params q.1 (bo 3)/\W c.l c.params q.2 (dc p)) (λi b hi hI k=>by
   show ay ((pJ Pf) c n w i b) _ _;rw[UM,uT,aH.aF,aW];have:decide (i<n.Kids.length)=true:=by simpa using hi
   obtain⟨e,he⟩:=bm hi;obtain⟨x,z,hxz,hx,hz⟩:=ih e (aY he);rw[this,aB,a7 he,ax,bO i (by omega),hxz,hp];refine ay.bE (v:=x) rfl (ay.bE (jc 3) ?_);refine ay.aT (hx (bo 3) (.inr (bw.sort (by simp)))) (λu hu=>?_);have hlen:decide ((b++[ab.z]).length<=274877906944)=true:=by simp;omega
   rw[hlen,aB,ab.aF,mj,EX];have e1:(b++[ab.z])[b.length]? =some ab.z:=by simp
   refine ay.bE (oz e1) (ay.bE (v:=z) rfl (ay.bE (v:=p) rfl (ay.bE (of_eq p) ?_)));refine ay.aT (hz (dc p) (.inr hwp)) (λv hv=>?_);have hlen2:decide (((b++[u])++[ab.z]).length<=274877906944)=true:=by simp;omega
   have e2:(((ab.rows b++ab.rows [ab.z]).length:Nat):Int)=(((b++[u]).length:Nat):Int):=by
    rw[jS,ab.aF,ab.aF];simp
   have e3:((b++[u])++[ab.z])[(b++[u]).length]? =some ab.z:=by simp
   rw[hlen2,aB,e2];refine ay.bE (oz e3) ?_;rw[mj,EX];refine k _ ⟨by simp[hI.1];omega,?_⟩;obtain⟨qs,hb,hq⟩:=hI.2;refine⟨qs++[(u,v)],by rw[hb];simp,λq hm=>?_⟩;rcases bU.1 hm with hm|hm
   ·exact hq q hm
   ·simp at hm;subst hm;exact⟨hu.2.2.2,hv.2.2.2⟩) (λb hI=>by
   show ay ((pJ Pf) c n w _ b) _ _;rw[UM,uT,aH.aF,aW];have:decide (n.Kids.length<n.Kids.length)=false:=by simp
   rw[this,aC];obtain⟨hlb,qs,rfl,hq⟩:=hI;exact ay.ret ⟨hw,λa _=> .map hs hk (p:=p) (by show qs.length<=_;rw[Ei]at hlb;omega) (by rw[hp];rfl) (λq hm=>(hq q hm).1) (λq hm=>(hq q hm).2)⟩) 0 [] (by omega) ⟨rfl,[],rfl,by simp⟩
 exact h
include hB in
theorem aer {n:aH} {w:aP} (hw:eV B w) (h51:n.Kind=51) (hs:jV n) (hn:n.Kids.length<=B) (ih:∀k∈kJ n,EE B c k):ay ((f164 Pf) c n w) (AP B c w) eR:=by
 have hs:(n.Text=gP->∀e∈n.Kids,e.Kids.length=2)/\(n.Text=gQ->∀e∈n.Kids,e.Kids.length=1):=by
  unfold jV at hs;rcases hs with h|h|h|h|h
  ·omega
  ·omega
  ·omega
  ·omega
  ·exact h.2
 have s1:eV B (bo 1):= .inr (bw.sort (by simp));have s2:eV B (bo 2):= .inr (bw.sort (by simp));have s3:eV B (bo 3):= .inr (bw.sort (by simp));have wty:∀ks:List Int,(0:Int)∉ks->(w.a6=0/\w.aJ.Kind∈ks)->bw B w:=λks h0 h=>hw.some (hw.kind h.1 (λe=>h0 (by rw[<-e];exact h.2))).2.2;rw[ajW,BL];refine ay.bind (aaP n.Text) (λr hr=>?_);refine ay.bif (λh0=>?_) (λh0=>?_)
 ·have h0:0<=r:=by simpa using h0
  have nm:n.Text≠gP/\n.Text≠gQ/\n.Text≠[115,101,116]:=by
   rcases hr with h|⟨_,h⟩|⟨_,h⟩|h
   ·omega
   ·rw[h];exact⟨by decide,by decide,by decide⟩
   ·rw[h];exact⟨by decide,by decide,by decide⟩
   ·exact⟨h.2.2.1,h.2.2.2.1,h.2.1⟩
  rw[W0 nm.1 nm.2.1]at ih;refine ay.bif (λ_=>gv _ _) (λhl=>?_);have hl:r=(n.Kids.length:Int):=by rw[aH.aF]at hl;simpa using hl
  have one:n.Text≠[119,114,105,116,101]->n.Text≠[112,97,105,114]->∃x,n.Kids=[x]:=λh1 h2=>vO (by
   rcases hr with h|h|h|h
   ·omega
   ·exact absurd h.2 h1
   ·exact absurd h.2 h2
   ·omega)
  refine ay.bif (λht=>?_) (λ_=>?_)
  ·have ht:n.Text=[102,108,97,103]:=by simpa using ht
   obtain⟨x,hx⟩:=one (by rw[ht];decide) (by rw[ht];decide);rw[hx]at ih⊢;refine ay.dg (λ_ h=>h.ref) (qR (by simp)) (λ_ hk=>?_);refine ay.bE (v:=x) rfl (ay.bE (jc 2) ?_);refine ay.aT (ih x (by simp) (bo 2) s2) (λy hy=>?_);exact ay.ret ⟨wty _ (by simp) hk,λa _=> .flag hk.1 (by simpa using hk.2) hy.2.2.2⟩
  refine ay.bif (λht=>?_) (λ_=>?_)
  ·have ht:n.Text=[110,117,109]:=by simpa using ht
   obtain⟨x,hx⟩:=one (by rw[ht];decide) (by rw[ht];decide);rw[hx]at ih⊢;refine ay.dg (λ_ h=>h.ref) (qR (by simp)) (λ_ hk=>?_);refine ay.bE (v:=x) rfl (ay.bE (jc 1) ?_);refine ay.aT (ih x (by simp) (bo 1) s1) (λy hy=>?_);exact ay.ret ⟨wty _ (by simp) hk,λa _=> .num hk.1 (by simpa using hk.2) hy.2.2.2⟩
  refine ay.bif (λht=>absurd (by simpa using ht) nm.2.2) (λ_=>?_);refine ay.bif (λht=>absurd (eq_of_beq ht) nm.1) (λ_=>?_);refine ay.bif (λht=>absurd (eq_of_beq ht) nm.2.1) (λ_=>?_);refine ay.bif (λht=>?_) (λhp=>?_)
  ·have ht:n.Text=[112,97,105,114]:=by simpa using ht
   obtain⟨x,z,hx⟩:=nK (l:=n.Kids) (by
    rcases hr with h|h|h|h
    ·omega
    ·have:=h.2;rw[ht]at this;exact absurd this (by decide)
    ·omega
    ·exact absurd ht h.2.2.2.2.2)
   rw[hx]at ih⊢;refine ay.dg (λ_ h=>h.ref) (qR (by simp)) (λ_ hk=>?_);have hw':=wty _ (by simp) hk;have h7:w.aJ.Kind=7:=by simpa using hk.2
   obtain⟨p,q,hp⟩:=z6 (hw'.dE hk.1).1 h7;rw[hp];refine ay.bE (v:=x) rfl (ay.bE (v:=p) rfl (ay.bE (of_eq p) ?_));refine ay.aT (ih x (by simp) _ (.inr (iP hw' hk.1 (by rw[hp];simp)))) (λu hu=>?_);refine ay.bif (λ_=>?_) (λe=>absurd e (by simp));refine ay.bE (v:=ab.z) rfl (ay.bE (v:=z) rfl (ay.bE (v:=q) rfl (ay.bE (of_eq q) ?_)));refine ay.aT (ih z (by simp) _ (.inr (iP hw' hk.1 (by rw[hp];simp)))) (λv hv=>?_);refine ay.bif (λ_=>?_) (λe=>absurd e (by simp));refine ay.bE (v:=ab.z) rfl ?_;exact ay.ret ⟨hw',λa _=> .pair hk.1 h7 (p:=p) (q:=q) (by rw[hp];rfl) (by rw[hp];rfl) hu.2.2.2 hv.2.2.2⟩
  have hp:n.Text≠[112,97,105,114]:=by simpa using hp
  refine ay.bif (λht=>?_) (λ_=>?_)
  ·have ht:n.Text=[111,110,101]:=by simpa using ht
   obtain⟨x,hx⟩:=one (by rw[ht];decide) (by rw[ht];decide);rw[hx]at ih⊢;refine ay.dg (λ_ h=>h.ref) (qR (by simp)) (λ_ hk=>?_);refine ay.bE (v:=x) rfl (ay.bE (jc 3) ?_);refine ay.aT (ih x (by simp) (bo 3) s3) (λy hy=>?_);exact ay.ret ⟨wty _ (by simp) hk,λa _=> .one hk.1 (by simpa using hk.2) hy.2.2.2⟩
  refine ay.bif (λht=>?_) (λhwr=>?_)
  ·have ht:n.Text=[119,114,105,116,101]:=by simpa using ht
   obtain⟨x,y,z,hx⟩:=Kg (l:=n.Kids) (by
    rcases hr with h|h|h|h
    ·omega
    ·omega
    ·have:=h.2;rw[ht]at this;exact absurd this (by decide)
    ·exact absurd ht h.2.2.2.2.1)
   rw[hx]at ih⊢;have wr:bw B (dc fx):=bw.of yA (EU B);refine ay.bE (of_eq fx) (ay.bE (v:=x) rfl ?_);refine ay.aT (ih x (by simp) _ (.inr wr)) (λu hu=>?_);refine ay.bif (λ_=>?_) (λe=>absurd e (by simp));refine ay.bE (v:=ab.z) rfl (ay.bE (v:=y) rfl (ay.bE (jc 1) ?_));refine ay.aT (ih y (by simp) _ s1) (λv hv=>?_);refine ay.bif (λ_=>?_) (λe=>absurd e (by simp));refine ay.bE (v:=ab.z) rfl (ay.bE (v:=z) rfl (ay.bE (jc 3) ?_));refine ay.aT (ih z (by simp) _ s3) (λt ht=>?_);refine ay.bif (λ_=>?_) (λe=>absurd e (by simp));refine ay.bE (v:=ab.z) rfl ?_;exact ay.ret ⟨wr,λa hf=> .write hu.2.2.2 hv.2.2.2 ht.2.2.2 hf⟩
  obtain⟨x,hx⟩:=one (by simpa using hwr) hp;exact ay.aT (aa1 hx (ih x (by rw[hx];simp))) λy hy=>ay.ret hy
 ·have h0:r<0:=by simpa using h0
  have hm:n.Text=[115,101,116]\/n.Text=gP\/n.Text=gQ:=by
   rcases hr with h|h|h|h
   ·exact h.2
   ·omega
   ·omega
   ·omega
  have no:∀t:List UInt8,t≠[115,101,116]->t≠gP->t≠gQ->(n.Text==t)=true->False:=λt h1 h2 h3 e=>by
   have e:n.Text=t:=by simpa using e
   rw[e]at hm;rcases hm with h|h|h
   ·exact h1 h
   ·exact h2 h
   ·exact h3 h
  refine ay.bif (λht=>(no _ (by decide) (by decide) (by decide) ht).elim) (λ_=>?_);refine ay.bif (λht=>(no _ (by decide) (by decide) (by decide) ht).elim) (λ_=>?_);refine ay.bif (λht=>?_) (λhns=>?_)
  ·have ht:n.Text=[115,101,116]:=by simpa using ht
   rw[W0 (by rw[ht];decide) (by rw[ht];decide)]at ih;refine ay.dg (λ_ h=>h.ref) (qR (by simp)) (λ_ hk=>?_);exact afF hB (wty _ (by simp) hk) hk.1 (by simpa using hk.2) hn ih
  refine ay.bif (λht=>?_) (λhnm=>?_)
  ·have ht:n.Text=gP:=eq_of_beq ht;rw[XF h51 (.inl ht)]at ih;refine ay.dg (λ_ h=>h.ref) (qR (by simp)) (λ_ hk=>?_);refine afG hB (wty _ (by simp) hk) hk.1 (by simpa using hk.2) hn (λe he=>?_);obtain⟨a,b,hab⟩:=nK (hs.1 ht e he);exact⟨a,b,hab,ih a (gF.2 ⟨e,he,by rw[hab];simp⟩),ih b (gF.2 ⟨e,he,by rw[hab];simp⟩)⟩
  have ht:n.Text=gQ:=by
   rcases hm with h|h|h
   ·rw[h]at hns;simp at hns
   ·rw[h]at hnm;simp[gP]at hnm
   ·exact h
  refine ay.bif (λ_=>?_) (λe=>by rw[ht]at e;simp[gQ]at e);rw[XF h51 (.inr ht)]at ih;refine ay.dg (λ_ h=>h.ref) (qR (by simp)) (λ_ hk=>?_);have hw':=wty _ (by simp) hk;have h6:w.aJ.Kind=6:=by simpa using hk.2
  refine ay.aT (ab0 hB (hw'.dE hk.1).1 (hw'.dE hk.1).2 h6 hn (λe he=>?_)) (λy hy=>?_)
  ·obtain⟨a,ha⟩:=vO (hs.2 ht e he);exact⟨a,ha,ih a (gF.2 ⟨e,he,by rw[ha];simp⟩)⟩
  ·exact ay.ret ⟨hw',λa _=> .ql hk.1 h6 (by have ho:=(hw'.dE hk.1).2;rw[ai.dA]at ho;have:=ho.2.2.2.2.1.1;rw[hy.1];omega) hy.1 hy.2⟩
include hB in
theorem aa4 {n:aH} {w:aP} (hw:eV B w) (hs:jV n) (hk:n.Kind=30\/n.Kind=36\/n.Kind=38\/n.Kind=39\/n.Kind=42\/n.Kind=43) (hW:∀k∈n.Kids,WN B k) (ih:∀k∈n.Kids,EE B c k):ay ((f165 Pf) c n w) (AP B c w) eR:=by
 have s2:eV B (bo 2):= .inr (bw.sort (by simp));rw[ajX,BM];refine ay.bE (jc 2) ?_;refine ay.bif (λh=>?_) (λn30=>?_)
 ·have h:n.Kind=30:=by simpa using h
  obtain⟨x,y,z,hx⟩:=Kg (l:=n.Kids) (by unfold jV at hs;omega);rw[hx]at hW ih⊢;refine ay.bE (v:=x) rfl (ay.aT (ih x (by simp) _ s2) λu hu=>?_);refine ay.bE (EV w) ?_;refine ay.bif (λhn=>?_) (λhn=>?_)
  ·have hn:isNone w=true:=hn;refine ay.bE (v:=y) rfl (ay.bE (v:=z) rfl ?_);refine ay.aT (HC (hW y (by simp)) (hW z (by simp)) (ih y (by simp)) (ih z (by simp))) (λr hr=>?_);rcases hr with⟨h1,h2,_⟩|⟨h1,h2,_⟩
   ·exact ay.ret ⟨h1.2.1,λa _=> .v7 hn hu.2.2.2 h1.2.2.2 h2.2.2.2⟩
   ·exact ay.ret ⟨h2.2.1,λa _=> .v8 hn hu.2.2.2 h1.2.2.2 h2.2.2.2⟩
  ·have hn:isNone w=false:=hn;refine ay.bE (v:=y) rfl (ay.aT (ih y (by simp) _ hw) λv hv=>?_);refine ay.bE (v:=z) rfl (ay.aT (ih z (by simp) _ hw) λt ht=>?_);refine ay.ret ⟨hv.2.1,λa _=>?_⟩;show W c.l c.params ⟨7,v.aO,0,[],a,[u,v,t]⟩ w;rw[<-hv.2.2.1 hn];exact .oJ hn hu.2.2.2 hv.2.2.2 ht.2.2.2
 refine ay.bif (λh=>?_) (λn36=>?_)
 ·have h:n.Kind=36:=by simpa using h
  obtain⟨x,y,hx⟩:=nK (l:=n.Kids) (by unfold jV at hs;omega);rw[hx]at ih⊢;refine ay.bE (v:=x) rfl (ay.aT (ih x (by simp) _ (.inl rfl)) λu hu=>?_);refine ay.bif (λ_=>ay.bE (v:=x) rfl (gv _ _)) (λhs0=>?_);refine ay.bE (v:=y) rfl (ay.aT (ih y (by simp) _ (.inr hu.2.1)) λv hv=>?_);exact ay.ret ⟨bw.sort (by simp),λa hf=> .equal hu.2.2.2 (by simpa using hs0) hv.2.2.2 hf⟩
 refine ay.bif (λh=>?_) (λn38=>?_)
 ·have h:n.Kind=38:=by simpa using h
  obtain⟨x,y,hx⟩:=nK (l:=n.Kids) (by unfold jV at hs;omega);rw[hx]at hW ih⊢;refine ay.bE (v:=x) rfl (ay.bE (v:=y) rfl ?_);refine ay.aT (HC (hW x (by simp)) (hW y (by simp)) (ih x (by simp)) (ih y (by simp))) (λr hr=>?_);rcases hr with⟨h1,h2,h3⟩|⟨h1,h2,h3⟩
  ·exact ay.ret ⟨bw.sort (by simp),λa hf=> .AA h1.2.2.2 (h3 rfl) h2.2.2.2 hf⟩
  ·exact ay.ret ⟨bw.sort (by simp),λa hf=> .AB h1.2.2.2 (h3 rfl) h2.2.2.2 hf⟩
 refine ay.bif (λh=>?_) (λn39=>?_)
 ·have h:n.Kind=39:=by simpa using h
  obtain⟨x,y,hx⟩:=nK (l:=n.Kids) (by unfold jV at hs;omega);refine ay.bE (EV w) ?_;refine ay.bif (λhn=>?_) (λhn=>?_)
  ·have hn:isNone w=false:=by simpa using hn
   refine ay.bif (λ_=>gv _ _) (λhs0=>?_);refine ay.aT (Ta hx (ih x (by rw[hx];simp)) (ih y (by rw[hx];simp)) hw hw) (λr hr=>?_);obtain⟨u,v,rfl,hu,hv⟩:=hr;exact ay.ret ⟨hw.some hn,λa _=> .qe hn (by simpa using hs0) hu.2.2.2 hv.2.2.2⟩
  ·have hn:isNone w=true:=by simpa using hn
   rw[hx]at hW ih⊢;refine ay.bE (v:=x) rfl (ay.bE (v:=y) rfl ?_);refine ay.aT (HC (hW x (by simp)) (hW y (by simp)) (ih x (by simp)) (ih y (by simp))) (λr hr=>?_);rcases hr with⟨h1,h2,h3⟩|⟨h1,h2,h3⟩
   ·exact ay.ret ⟨h1.2.1,λa hf=> .vK hn h1.2.2.2 (h3 rfl) h2.2.2.2⟩
   ·exact ay.ret ⟨h2.2.1,λa hf=> .vL hn h1.2.2.2 (h3 rfl) h2.2.2.2⟩
 refine ay.bif (λh=>?_) (λn42=>?_)
 ·have h:n.Kind=42:=by simpa using h
  obtain⟨x,hx⟩:=vO (l:=n.Kids) (by unfold jV at hs;omega);rw[hx]at ih⊢;refine ay.bE (v:=x) rfl (ay.aT (HN (by simp) (ih x (by simp))) λu hu=>?_);have h6:u.aO.aJ.Kind=6:=by simpa using hu.2.2
  have hl:=(hu.1.2.1.dE hu.2.1);have hnl:u.aO.aJ.Names.length<=B:=by have:=hl.2;rw[ai.dA]at this;exact this.2.2.2.1.1
  refine ay.bE (Ex _ _ (by omega)) ?_;refine ay.bif (λ_=>gv _ _) (λh2=>?_);obtain⟨j,t,hj,ht,_⟩:=HO (by simpa using h2);rw[hj];have hjl:=(cr.1 ht).1;obtain⟨p,hp⟩:=bm (l:=u.aO.aJ.ak) (i:=j) (by rw[Wh hl.1 h6];exact hjl);refine ay.bE (oz hp) (ay.bE (of_eq p) ?_);exact ay.ret ⟨iP hu.1.2.1 hu.2.1 (aY hp),λa hf=> .field hu.1.2.2.2 hu.2.1 h6 hjl hp hf⟩
 have h:n.Kind=43:=by simp at n30 n36 n38 n39 n42;omega
 obtain⟨x,y,hx⟩:=nK (l:=n.Kids) (by unfold jV at hs;omega);rw[hx]at ih⊢;refine ay.bE (v:=x) rfl (ay.aT (HN (by simp) (ih x (by simp))) λu hu=>?_);have h5:u.aO.aJ.Kind=5:=by simpa using hu.2.2
 obtain⟨p,hp⟩:=zZ (hu.1.2.1.dE hu.2.1).1 h5;refine ay.bE (v:=y) rfl (ay.bE (jc 3) (ay.aT (ih y (by simp) _ (.inr (bw.sort (by simp)))) λv hv=>?_));rw[hp];refine ay.bE (v:=p) rfl (ay.bE (of_eq p) ?_);exact ay.ret ⟨iP hu.1.2.1 hu.2.1 (by rw[hp];simp),λa hf=> .at_ hu.1.2.2.2 hu.2.1 h5 (by rw[hp];rfl) hv.2.2.2 hf⟩
include hB hc in
theorem afH {n:aH} {w:aP} (hw:eV B w) (h:WN B n) (ih:∀k∈kJ n,EE B c k):ay ((f116 Pf) c n w) (AP B c w) eR:=by
 obtain⟨hs,hl,h44,h47,hk⟩:=h;have s1:eV B (bo 1):= .inr (bw.sort (by simp));have s2:eV B (bo 2):= .inr (bw.sort (by simp));have s3:eV B (bo 3):= .inr (bw.sort (by simp));have s4:eV B (bo 4):= .inr (bw.sort (by simp));have two:∀(op:Int) (a b t:aP) (k:Int),n.Kind=k->31<=k/\k<=43/\k≠33/\k≠42->eV B a->eV B b->bw B t->(∀(u v:ab) (x:Int),W c.l c.params u a->W c.l c.params v b->Fit w t->W c.l c.params ⟨op,t,0,[],x,[u,v]⟩ w)->
   ay (Bw.aT ((f163 Pf) c op n a b t) λy=>some (.ret y)) (AP B c w) eR:=by
  intro op a b t k hn hkk ha hb ht hW;obtain⟨x,y,hx⟩:=nK (l:=n.Kids) (by unfold jV at hs;omega);rw[Ft (by omega),hx]at ih;refine ay.aT (Ta hx (ih x (by simp)) (ih y (by simp)) ha hb) (λr hr=>?_);obtain⟨u,v,rfl,hu,hv⟩:=hr;exact ay.ret ⟨ht,λq hf=>hW u v q hu.2.2.2 hv.2.2.2 hf⟩
 rw[ajV,BK];refine ay.bE (jc 2) (ay.bE (jc 1) (ay.bE (jc 3) ?_));refine ay.bif (λh=>?_) (λ_=>?_)
 ·have:=h44 (by simpa using h);exact ay.ret ⟨bw.sort (by simp),λa hf=> .int this.1 this.2 hf⟩
 refine ay.bif (λ_=>ay.ret ⟨bw.sort (by simp),λa hf=> .bool (.inr rfl) hf⟩) (λ_=>?_);refine ay.bif (λ_=>ay.ret ⟨bw.sort (by simp),λa hf=> .bool (.inl rfl) hf⟩) (λ_=>?_);refine ay.bif (λh=>ay.ret ⟨bw.sort (by simp),λa hf=> .name (h47 (by simpa using h)) hf⟩) (λ_=>?_);refine ay.bif (λ_=>?_) (λ_=>?_)
 ·refine ay.bE (agv _ _ (by have:=hc.num;omega)) ?_;refine ay.bif (λ_=>gv _ _) (λh2=>?_);obtain⟨j,p,hj,hp,_⟩:=HO (by simpa using h2);rw[hj];refine ay.bE (oz hp) (ay.bE (jc _) ?_);exact ay.ret ⟨bw.sort (hc.par p (aY hp)),λa hf=> .param hp hf⟩
 refine ay.bif (λ_=>?_) (λ_=>?_)
 ·refine ay.bE (of_eq _) ?_;exact ay.ret ⟨bw.of hc.dE hc.ok,λa hf=> .state hf⟩
 refine ay.bif (λ_=>?_) (λ_=>?_)
 ·refine ay.bif (λ_=>gv _ _) (λh0=>?_);refine ay.bE (EV w) ?_;refine ay.bif (λ_=>gv _ _) (λhn=>?_);exact ay.ret ⟨hw.some hn,λa hf=> .rC (by simpa using h0) hn⟩
 refine ay.bif (λh=>two 8 _ _ _ 31 (by simpa using h) (by decide) s2 s2 (bw.sort (by simp)) (λu v x hu hv hf=> .conn (.inl rfl) hu hv hf)) (λ_=>?_);refine ay.bif (λh=>two 9 _ _ _ 32 (by simpa using h) (by decide) s2 s2 (bw.sort (by simp)) (λu v x hu hv hf=> .conn (.inr rfl) hu hv hf)) (λ_=>?_);refine ay.bif (λh=>?_) (λ_=>?_)
 ·have h:n.Kind=33:=by simpa using h
  obtain⟨x,hx⟩:=vO (l:=n.Kids) (by unfold jV at hs;omega);rw[Ft (by omega),hx]at ih;rw[hx];refine ay.bE (v:=x) rfl (ay.aT (ih x (by simp) _ s2) λu hu=>?_);exact ay.ret ⟨bw.sort (by simp),λa hf=> .not hu.2.2.2 hf⟩
 refine ay.bif (λh=>two 11 _ _ _ 34 (by simpa using h) (by decide) s1 s1 (bw.sort (by simp)) (λu v x hu hv hf=> .less (.inl rfl) hu hv hf)) (λ_=>?_);refine ay.bif (λh=>two 12 _ _ _ 35 (by simpa using h) (by decide) s1 s1 (bw.sort (by simp)) (λu v x hu hv hf=> .less (.inr rfl) hu hv hf)) (λ_=>?_);refine ay.bif (λh=>ay.bE (jc 4) (two 14 _ _ _ 37 (by simpa using h) (by decide) s3 s4 (bw.sort (by simp)) (λu v x hu hv hf=> .Az hu hv hf))) (λ_=>?_);refine ay.bif (λh=>two 17 _ _ _ 40 (by simpa using h) (by decide) s1 s1 (bw.sort (by simp)) (λu v x hu hv hf=> .qn (.inl rfl) hu hv hf)) (λ_=>?_);refine ay.bif (λh=>two 18 _ _ _ 41 (by simpa using h) (by decide) s1 s1 (bw.sort (by simp)) (λu v x hu hv hf=> .qn (.inr rfl) hu hv hf)) (λ_=>?_);refine ay.bif (λh=>ay.aT (aer hB hw (by simpa using h) hs hl ih) λy hy=>ay.ret hy) (λh51=>?_);have h51:n.Kind≠51:=by simpa using h51
 rw[Ft h51]at ih hk;refine ay.aT (aa4 hB hw hs ?_ hk ih) λy hy=>ay.ret hy;simp at*
 unfold jV at hs;omega
include hB hc in
theorem aeq {n:aH} (h:WN B n):EE B c n:=by
 induction h with
 |mk hs hl h44 h47 hk ih=>exactλw hw=>afx hB hw (afH hB hc hw (.mk hs hl h44 h47 hk) ih)
end
inductive TT (B:Nat):ab->Prop
 |mk {y:ab}:bw B y.aO->(∀k∈y.Kids,TT B k)->TT B y
theorem TT.ty {B:Nat} {y:ab} (h:TT B y):bw B y.aO:=by cases h;assumption
theorem TT.bM {B:Nat} {y k:ab} (h:TT B y) (hk:k∈y.Kids):TT B k:=by cases h with|mk _ h=>exact h k hk
section
variable {B:Nat} {c:cD} (hc:CE B c)
include hc
theorem W.tt {y:ab} {w:aP} (h:W c.l c.params y w):eV B w->TT B y:=by
 have s:∀n:Int,1<=n/\n<=4->eV B (bo n):=λn hn=> .inr (bw.sort hn);have s0:eV B (bo 0):= .inl rfl;have no:∀k∈([]:List ab),TT B k:=by simp
 have one:∀{x:ab},TT B x->∀k∈[x],TT B k:=λhx k hk=>by simp at hk;subst hk;exact hx
 have two:∀{x y:ab},TT B x->TT B y->∀k∈[x,y],TT B k:=λhx hy k hk=>by simp at hk;rcases hk with rfl|rfl<;>assumption
 have three:∀{x y z:ab},TT B x->TT B y->TT B z->∀k∈[x,y,z],TT B k:=λhx hy hz k hk=>by simp at hk;rcases hk with rfl|rfl|rfl<;>assumption
 have part:∀{t:aP} {p:ai} {i:Nat},bw B t->t.a6=0->t.aJ.ak[i]? =some p->bw B (dc p):=λht hs hp=>iP ht hs (aY hp)
 induction h with
 |int _ _ _=>exactλ_=> .mk (bw.sort (by simp)) no
 |bool _ _=>exactλ_=> .mk (bw.sort (by simp)) no
 |name _ _=>exactλ_=> .mk (bw.sort (by simp)) no
 |param hp _=>exactλ_=> .mk (bw.sort (hc.par _ (aY hp))) no
 |state _=>exactλ_=> .mk (bw.of hc.dE hc.ok) no
 |rC _ hn=>exactλhw=> .mk (hw.some hn) no
 |oJ hn _ _ _ i1 i2 i3=>exactλhw=> .mk (hw.some hn) (three (i1 (s 2 (by simp))) (i2 hw) (i3 hw))
 |v7 _ _ _ _ i1 i2 i3=>exactλ_=> .mk (i2 s0).ty (three (i1 (s 2 (by simp))) (i2 s0) (i3 (.inr (i2 s0).ty)))
 |v8 _ _ _ _ i1 i2 i3=>exactλ_=> .mk (i3 (.inr (i2 s0).ty)).ty (three (i1 (s 2 (by simp))) (i3 (.inr (i2 s0).ty)) (i2 s0))
 |conn _ _ _ _ i1 i2=>exactλ_=> .mk (bw.sort (by simp)) (two (i1 (s 2 (by simp))) (i2 (s 2 (by simp))))
 |not _ _ i1=>exactλ_=> .mk (bw.sort (by simp)) (one (i1 (s 2 (by simp))))
 |less _ _ _ _ i1 i2=>exactλ_=> .mk (bw.sort (by simp)) (two (i1 (s 1 (by simp))) (i2 (s 1 (by simp))))
 |equal _ _ _ _ i1 i2=>exactλ_=> .mk (bw.sort (by simp)) (two (i1 s0) (i2 (.inr (i1 s0).ty)))
 |Az _ _ _ i1 i2=>exactλ_=> .mk (bw.sort (by simp)) (two (i1 (s 3 (by simp))) (i2 (s 4 (by simp))))
 |AA _ _ _ _ i1 i2=>exactλ_=> .mk (bw.sort (by simp)) (two (i1 s0) (i2 (.inr (i1 s0).ty)))
 |AB _ _ _ _ i1 i2=>exactλ_=> .mk (bw.sort (by simp)) (two (i2 (.inr (i1 s0).ty)) (i1 s0))
 |qe hn _ _ _ i1 i2=>exactλhw=> .mk (hw.some hn) (two (i1 hw) (i2 hw))
 |vK _ _ _ _ i1 i2=>exactλ_=> .mk (i1 s0).ty (two (i1 s0) (i2 (.inr (i1 s0).ty)))
 |vL _ _ _ _ i1 i2=>exactλ_=> .mk (i2 (.inr (i1 s0).ty)).ty (two (i2 (.inr (i1 s0).ty)) (i1 s0))
 |qn _ _ _ _ i1 i2=>exactλ_=> .mk (bw.sort (by simp)) (two (i1 (s 1 (by simp))) (i2 (s 1 (by simp))))
 |field _ hs _ _ hp _ i1=>exactλ_=> .mk (part (i1 s0).ty hs hp) (one (i1 s0))
 |at_ _ hs _ hp _ _ i1 i2=>exactλ_=> .mk (part (i1 s0).ty hs hp) (two (i1 s0) (i2 (s 3 (by simp))))
 |flag h0 hk _ i1=>exactλhw=> .mk (hw.some (hw.kind h0 (by rw[hk];decide)).2.2) (one (i1 (s 2 (by simp))))
 |num h0 hk _ i1=>exactλhw=> .mk (hw.some (hw.kind h0 (by rcases hk with hk|hk<;>rw[hk]<;>decide)).2.2) (one (i1 (s 1 (by simp))))
 |AF h0 hk _ _ _ i1=>exactλhw=> .mk (hw.some (hw.kind h0 (by rcases hk with hk|hk<;>rw[hk]<;>decide)).2.2) (λk hm=>i1 k hm s0)
 |map h0 hk _ hp _ _ i1 i2=>
  intro hw;have hw':=hw.some (hw.kind h0 (by rw[hk];decide)).2.2;refine .mk hw' (λk hm=>?_);obtain⟨q,h1,h2⟩:=gF.1 hm;simp at h2;rcases h2 with rfl|rfl
  ·exact i1 q h1 (s 3 (by simp))
  ·exact i2 q h1 (.inr (part hw' h0 hp))
 |ql h0 hk _ hl _ i1=>
  intro hw;have hw':=hw.some (hw.kind h0 (by rw[hk];decide)).2.2;refine .mk hw' (λk hm=>?_);obtain⟨i,hi⟩:=jB hm;obtain⟨p,hp⟩:=bm (i:=i) (by rw[<-hl];exact(cr.1 hi).1);exact i1 i k p hi hp (.inr (part hw' h0 hp))
 |pair h0 hk hp hq _ _ i1 i2=>
  intro hw;have hw':=hw.some (hw.kind h0 (by rw[hk];decide)).2.2;exact .mk hw' (two (i1 (.inr (part hw' h0 hp))) (i2 (.inr (part hw' h0 hq))))
 |one h0 hk _ i1=>exactλhw=> .mk (hw.some (hw.kind h0 (by rw[hk];decide)).2.2) (one (i1 (s 3 (by simp))))
 |write _ _ _ _ i1 i2 i3=>exactλ_=> .mk (bw.of yA (EU B)) (three (i1 (.inr (bw.of yA (EU B)))) (i2 (s 1 (by simp))) (i3 (s 3 (by simp))))
 |size _ _ _ i1=>exactλ_=> .mk (bw.sort (by simp)) (one (i1 s0))
 |sum _ _ _ _ _ _ i1=>exactλ_=> .mk (bw.sort (by simp)) (one (i1 s0))
 |sL hm _ _ _ _ i1=>exactλ_=> .mk (bw.sort (by simp at hm;omega)) (one (i1 s0))
 |part _ _ hs _ hp _ i1=>exactλ_=> .mk (part (i1 s0).ty hs hp) (one (i1 s0))
end
open Classical in
noncomputable def ff {D:Type} (a b:D):Bool:=decide (a=b)
theorem qY {D:Type} {a b:D}:ff a b=true↔a=b:=by simp[ff]
theorem p7 {D:Type} {a b:D} {r:Bool} (h:r=true↔a=b):r=ff a b:=by rw[mW,h,qY]
theorem VC {D:Type}:∀{a b:List D},a.length=b.length->(a.zip b).all (λq=>ff q.1 q.2)=ff a b
 |[],[],_=>by simp[ff]
 |x::a,y::b,h=>by
  rw[Dz,kP,VC (by simpa using h)];apply p7;simp[qY]
 |[],_::_,h=>by simp at h
 |_::_,[],h=>by simp at h
section
variable {B:Nat} (hB:B<=1048576)
include hB
theorem aep:∀a:ab,TT B a->∀b:ab,b.ok B->(f36 Pf) a b=some (ff a b):=by
 refine ab.ind λa ih ha b hb=>?_;rw[ab.dA]at hb;obtain⟨_,_,_,_,_,hkl,hkk⟩:=hb;have hkids:(Fw Pf) a.Kids b.Kids=some (ff a.Kids b.Kids):=by
  rw[agy,Ab];simp only[ab.aF];by_cases h:a.Kids.length=b.Kids.length
  ·have h0:((a.Kids.length:Int) !=(b.Kids.length:Int))=false:=by simp[h]
   rw[h0];show(tF Pf) a.Kids b.Kids 0=_;rw[yR (a:=a.Kids) (b:=b.Kids) (L:=(tF Pf) a.Kids b.Kids) ff true h ?_ ?_]
   ·rw[qC,VC h]
   ·intro i x y hx hy hi;rw[R8,tG,ab.aF,tO (by omega)];have h1:decide ((i:Int)<(a.Kids.length:Int))=true:=by simpa using hi
    have hx':=aY hx;rw[h1,a7 hx,a7 hy];show(((f36 Pf) x y).bind _)=_;rw[ih x hx' (ha.bM hx') y (ab.fU hkk (aY hy))];show(bif !(ff x y)then _ else _)=_;cases ff x y<;>rfl
   ·rw[R8,tG,ab.aF];simp
  ·have h0:((a.Kids.length:Int) !=(b.Kids.length:Int))=true:=by simp;omega
   rw[h0];show some false=_;congr 1;exact p7 (by constructor;intro e;cases e;intro e;exact absurd (congrArg List.length e) h)
 have hty:(f81 Pf) a.aO b.aO=some (ff a.aO b.aO):=by
  obtain⟨r,e,hr⟩:=IK (b:=b.aO) hB ha.ty.ok;rw[e,p7 hr]
 rw[e36,C4,hkids,hty];obtain⟨op,ty,n,t,at',ks⟩:=a;obtain⟨op',ty',n',t',at'',ks'⟩:=b;have e:ff (⟨op,ty,n,t,at',ks⟩:ab) ⟨op',ty',n',t',at'',ks'⟩=(op==op'&&(n==n'&&(t==t'&&(at'==at''&&(ff ty ty'&&ff ks ks'))))):=by
  symm;apply p7;simp only[bN,beq_iff_eq,qY,ab.mk.injEq];constructor
  ·rintro ⟨a,b,c,d,e,f⟩;exact⟨a,e,b,c,d,f⟩
  ·rintro ⟨a,e,b,c,d,f⟩;exact⟨a,b,c,d,e,f⟩
 rw[e];simp only[ax];generalize (op==op')=c1;generalize (n==n')=c2;generalize (t==t')=c3;generalize (at'==at'')=c4;generalize ff ty ty'=c5;generalize ff ks ks'=c6;cases c1<;>cases c2<;>cases c3<;>cases c4<;>cases c5<;>cases c6<;>rfl
def jH (l:ai) (f:b9):aP:=bif f.Result==0 then dc l else bo f.Result
structure VF (B:Nat) (l:ai) (f:b9):Prop where
 ce:CE B ⟨l,f.Params⟩
 form:FN f
 body:W l f.Params f.Body (jH l f)
 tt:TT B f.Body
theorem acx {l:ai} {f:b9} (hl:l.ok B) (hf:f.ok B):ae ((f12 Pf) l f) (λr=>r=true->VF B l f):=by
 obtain⟨hn,ho,⟨hpl,hp⟩,_,hb⟩:=hf;rw[e12,C5];have no:ae (some false) (λr=>r=true->VF B l f):=ae.ret λe=>by cases e
 refine ae.bind (R7 (by omega) hl) (λy1 h1=>?_);refine ae.bif (λ_=>no) (λe1=>?_);have hlat:cx l:=h1 (by simpa using e1);refine ae.bind (ab2 (by omega) (by omega) (λp hm=>by have:=(hp p hm).1;omega)) (λy3 h3=>?_);refine ae.bif (λ_=>no) (λe3=>?_);have hform:FN f:=h3 (by simpa using e3);have hce:CE B ⟨l,f.Params⟩:=⟨hlat,hl,λp hm=>by
  obtain⟨i,hi⟩:=jB hm;have:=hform.2.2.2.2.2 i p hi;exact⟨this.2.1,this.2.2.1⟩,hpl⟩
 refine ae.bind (ad4 hB f.Body hb) (λy5 h5=>?_);refine ae.bif (λ_=>no) (λe5=>?_);have hwn:=h5 (by simpa using e5);rw[afy,ax];have hww:eV B (jH l f):=by
  unfold jH;cases h:f.Result==0 with
  |true=>exact .inr (bw.of hlat hl)
  |false=>
   have h0:f.Result≠0:=by simpa using h
   have:=hform.2.2.2;exact .inr (bw.sort (by omega))
 have hE:=aeq hB hce hwn (jH l f) hww;refine ae.bind (P:=λr=>r.2.Code=0->EP B ⟨l,f.Params⟩ y5.1 (jH l f) r.1) ?_ (λy8 h8=>?_)
 ·rw[e34,C3];refine ctF hE (λa b ha=>?_) (λy hy=>ae.ret λ_=>hy);exact ae.bif (λh=>ae.ret λe=>absurd e ha) (λh=>ae.ret λe=>absurd e ha)
 ·refine ae.bif (λh=>?_) (λ_=>no);have h8:=h8 (by simpa using h);have htt:=W.tt hce h8.2.2.2 hww;rw[aep hB y8.1 htt f.Body hb,ax];refine ae.ret λe=>?_;have e:=qY.1 e;rw[e]at h8 htt;exact⟨hce,hform,h8.2.2.2,htt⟩
