/- The elaborator answers well-typed expressions, or a fault; types.Valid answers, and true only to well-typed functions. -/
import Derived.Test.YtmbalfjhlngncaaGreatKVa6
set_option linter.all false
namespace Go.Proofs.YtmbalfjhlngncaaGreat
open Go Go.Bw
theorem Y0 (t:List UInt8):ab ((f279 Pf) t) (λr=>(r= -1/\(t=[115,101,116]\/t=gb\/t=gf))\/(r=3/\t=[119,114,105,116,101])\/(r=2/\t=[112,97,105,114])\/(r=1/\t≠[115,101,116]/\t≠gb/\t≠gf/\t≠[119,114,105,116,101]/\t≠[112,97,105,114])):=by
 rw[ag5,AM]
 repeat' (first|refine ab.bif (λh=>?_) (λh=>?_)|refine ab.ret ?_)
 all_goals (simp at*;simp[gb,gf, *])
theorem Uw {n:az} (h:n.Kind=51) (ht:n.Text=gb\/n.Text=gf):jV n=n.Kids.flatMap (·.Kids):=by
 rw[jV,h];rcases ht with e|e<;>rw[e]<;>rfl
theorem T4 {n:az} (h1:n.Text≠gb) (h2:n.Text≠gf):jV n=n.Kids:=by
 have e1:(n.Text==gb)=false:=by simpa using h1
 have e2:(n.Text==gf)=false:=by simpa using h2
 rw[jV,e1,e2];simp
section
variable {B:Nat} (hB:B<=1048576) {c:cx} (hc:CE B c)
theorem qb {ks:List Int} {w:aP} {n:az} (hk:ks.length<9223372036854775807):au ((f280 Pf) ks w n) (λ_=>w.aX=0/\w.aL.Kind∈ks) eo:=by
 rw[ag6,AN];refine au.bif (λ_=>fH _ _) (λhs=>?_);refine au.bA (HL ks _ hk) ?_;refine au.bif (λ_=>fH _ _) (λhm=>au.ret ⟨by simpa using hs,?_⟩);simp only[MW,FF,beq_iff_eq]at hm;obtain⟨k,h1,h2⟩:=hm;rw[h2];exact h1
include hB in
theorem adR {n:az} {w:aP} (hw:bB B w) (hs:w.aX=0) (hk:w.aL.Kind=4\/w.aL.Kind=10) (hn:n.Kids.length<=B) (ih:∀k∈n.Kids,EE B c k):au ((mH Pf) c n w 0 []) (AP B c w) eo:=by
 have h:=CA (L:=λi (b:List ae)=>(mH Pf) c n w i b) (P:=AP B c w) (E:=eo) (len:=n.Kids.length) (λi b=>b.length=i/\∀x∈b,W c.l c.params x (bm 0)/\(x.aK.aX=3\/x.aK.aX=4)) (λi b hi hI k=>by
   show au ((mH Pf) c n w i b) _ _;rw[RA,tW,az.aI,a6];have:decide (i<n.Kids.length)=true:=by simpa using hi
   obtain⟨e,he⟩:=bw hi;rw[this,aD,bg he,aw,bM i (by omega)];refine au.aT (ih e (a7 he) (bm 0) (.inl rfl)) (λy hy=>?_);have hlen:decide ((b++[ae.z]).length<=274877906944)=true:=by simp;omega
   rw[hlen,aD,ae.aI,Cl,lD,Dg];have e1:(b++[ae.z])[b.length]? =some ae.z:=by simp
   have e2:IntKind.i64.wrap ((((ae.rows b++ae.rows [ae.z]).length:Nat):Int)-1)=(b.length:Int):=by
    rw[jB,ae.aI,ae.aI,wrap64 (by simp<;>omega) (by simp<;>omega)];simp
   have e3:(b++[y])[b.length]? =some y:=by simp
   rw[e1,aw,e2,Cl,e3,aw];have go:(y.aK.aX=3\/y.aK.aX=4)->au ((mH Pf) c n w ((i+1:Nat):Int) (b++[y])) (AP B c w) eo:=λhsy=>by
    refine k _ ⟨by simp[hI.1],λx hx=>?_⟩;rcases bO.1 hx with hx|hx
    ·exact hI.2 x hx
    ·simp at hx;subst hx;exact⟨hy.2.2.2,hsy⟩
   refine au.bif (λ_=>?_) (λh=>go (.inl (by simpa using h)));exact au.bif (λ_=>fH _ _) (λh=>go (.inr (by simpa using h)))) (λb hI=>by
   show au ((mH Pf) c n w _ b) _ _;rw[RA,tW,az.aI,a6];have:decide (n.Kids.length<n.Kids.length)=false:=by simp
   rw[this,aF];exact au.ret ⟨hw,λa _=> .I2 hs hk (λx hx=>(hI.2 x hx).1) (λx hx=>(hI.2 x hx).2)⟩) 0 [] (by omega) ⟨rfl,by simp⟩
 exact h
include hB in
theorem adS {n:az} {w:aP} (hw:bB B w) (hs:w.aX=0) (hk:w.aL.Kind=5) (hn:n.Kids.length<=B) (ih:∀e∈n.Kids,∃a b,e.Kids=[a,b]/\EE B c a/\EE B c b):au ((oV Pf) c n w 0 []) (AP B c w) eo:=by
 obtain⟨p,hp⟩:=xO (hw.dS hs).1 hk;have hwp:bB B (dD p):=lL hw hs (by rw[hp];simp);have h:=CA (L:=λi (b:List ae)=>(oV Pf) c n w i b) (P:=AP B c w) (E:=eo) (len:=n.Kids.length) (λi b=>b.length=2*i/\∃qs:List (ae×ae),b=(qs.flatMap λq=>[q.1,q.2])/\∀q∈qs,W c.l c.params q.1 (bm 3)/\W c.l c.params q.2 (dD p)) (λi b hi hI k=>by
   show au ((oV Pf) c n w i b) _ _;rw[RB,tX,az.aI,a6];have:decide (i<n.Kids.length)=true:=by simpa using hi
   obtain⟨e,he⟩:=bw hi;obtain⟨x,z,hxz,hx,hz⟩:=ih e (a7 he);rw[this,aD,bg he,aw,bM i (by omega),hxz,hp];refine au.bA (v:=x) rfl (au.bA (iu 3) ?_);refine au.aT (hx (bm 3) (.inr (bB.sort (by simp)))) (λu hu=>?_);have hlen:decide ((b++[ae.z]).length<=274877906944)=true:=by simp;omega
   rw[hlen,aD,ae.aI,lD,Dg];have e1:(b++[ae.z])[b.length]? =some ae.z:=by simp
   refine au.bA (nC e1) (au.bA (v:=z) rfl (au.bA (v:=p) rfl (au.bA (of_eq p) ?_)));refine au.aT (hz (dD p) (.inr hwp)) (λv hv=>?_);have hlen2:decide (((b++[u])++[ae.z]).length<=274877906944)=true:=by simp;omega
   have e2:(((ae.rows b++ae.rows [ae.z]).length:Nat):Int)=(((b++[u]).length:Nat):Int):=by
    rw[jB,ae.aI,ae.aI];simp
   have e3:((b++[u])++[ae.z])[(b++[u]).length]? =some ae.z:=by simp
   rw[hlen2,aD,e2];refine au.bA (nC e3) ?_;rw[lD,Dg];refine k _ ⟨by simp[hI.1];omega,?_⟩;obtain⟨qs,hb,hq⟩:=hI.2;refine⟨qs++[(u,v)],by rw[hb];simp,λq hm=>?_⟩;rcases bO.1 hm with hm|hm
   ·exact hq q hm
   ·simp at hm;subst hm;exact⟨hu.2.2.2,hv.2.2.2⟩) (λb hI=>by
   show au ((oV Pf) c n w _ b) _ _;rw[RB,tX,az.aI,a6];have:decide (n.Kids.length<n.Kids.length)=false:=by simp
   rw[this,aF];obtain⟨_,qs,rfl,hq⟩:=hI;exact au.ret ⟨hw,λa _=> .map hs hk (p:=p) (by rw[hp];rfl) (λq hm=>(hq q hm).1) (λq hm=>(hq q hm).2)⟩) 0 [] (by omega) ⟨rfl,[],rfl,by simp⟩
 exact h
include hB in
theorem acC {n:az} {w:aP} (hw:ea B w) (h51:n.Kind=51) (hs:ju n) (hn:n.Kids.length<=B) (ih:∀k∈jV n,EE B c k):au ((f230 Pf) c n w) (AP B c w) eo:=by
 have hs:(n.Text=gb->∀e∈n.Kids,e.Kids.length=2)/\(n.Text=gf->∀e∈n.Kids,e.Kids.length=1):=by
  unfold ju at hs;rcases hs with h|h|h|h|h
  ·omega
  ·omega
  ·omega
  ·omega
  ·exact h.2
 have s1:ea B (bm 1):= .inr (bB.sort (by simp));have s2:ea B (bm 2):= .inr (bB.sort (by simp));have s3:ea B (bm 3):= .inr (bB.sort (by simp));have wty:∀ks:List Int,(0:Int)∉ks->(w.aX=0/\w.aL.Kind∈ks)->bB B w:=λks h0 h=>hw.some (hw.kind h.1 (λe=>h0 (by rw[<-e];exact h.2))).2.2;rw[ag8,AS];refine au.bind (Y0 n.Text) (λr hr=>?_);refine au.bif (λh0=>?_) (λh0=>?_)
 ·have h0:0<=r:=by simpa using h0
  have nm:n.Text≠gb/\n.Text≠gf/\n.Text≠[115,101,116]:=by
   rcases hr with h|⟨_,h⟩|⟨_,h⟩|h
   ·omega
   ·rw[h];exact⟨by decide,by decide,by decide⟩
   ·rw[h];exact⟨by decide,by decide,by decide⟩
   ·exact⟨h.2.2.1,h.2.2.2.1,h.2.1⟩
  rw[T4 nm.1 nm.2.1]at ih;refine au.bif (λ_=>fH _ _) (λhl=>?_);have hl:r=(n.Kids.length:Int):=by rw[az.aI]at hl;simpa using hl
  have one:n.Text≠[119,114,105,116,101]->n.Text≠[112,97,105,114]->∃x,n.Kids=[x]:=λh1 h2=>uM (by
   rcases hr with h|h|h|h
   ·omega
   ·exact absurd h.2 h1
   ·exact absurd h.2 h2
   ·omega)
  refine au.bif (λht=>?_) (λ_=>?_)
  ·have ht:n.Text=[102,108,97,103]:=by simpa using ht
   obtain⟨x,hx⟩:=one (by rw[ht];decide) (by rw[ht];decide);rw[hx]at ih⊢;refine au.cR (λ_ h=>h.ref) (qb (by simp)) (λ_ hk=>?_);refine au.bA (v:=x) rfl (au.bA (iu 2) ?_);refine au.aT (ih x (by simp) (bm 2) s2) (λy hy=>?_);exact au.ret ⟨wty _ (by simp) hk,λa _=> .flag hk.1 (by simpa using hk.2) hy.2.2.2⟩
  refine au.bif (λht=>?_) (λ_=>?_)
  ·have ht:n.Text=[110,117,109]:=by simpa using ht
   obtain⟨x,hx⟩:=one (by rw[ht];decide) (by rw[ht];decide);rw[hx]at ih⊢;refine au.cR (λ_ h=>h.ref) (qb (by simp)) (λ_ hk=>?_);refine au.bA (v:=x) rfl (au.bA (iu 1) ?_);refine au.aT (ih x (by simp) (bm 1) s1) (λy hy=>?_);exact au.ret ⟨wty _ (by simp) hk,λa _=> .num hk.1 (by simpa using hk.2) hy.2.2.2⟩
  refine au.bif (λht=>absurd (by simpa using ht) nm.2.2) (λ_=>?_);refine au.bif (λht=>absurd (eq_of_beq ht) nm.1) (λ_=>?_);refine au.bif (λht=>absurd (eq_of_beq ht) nm.2.1) (λ_=>?_);refine au.bif (λht=>?_) (λhp=>?_)
  ·have ht:n.Text=[112,97,105,114]:=by simpa using ht
   obtain⟨x,z,hx⟩:=mQ (l:=n.Kids) (by
    rcases hr with h|h|h|h
    ·omega
    ·have:=h.2;rw[ht]at this;exact absurd this (by decide)
    ·omega
    ·exact absurd ht h.2.2.2.2.2)
   rw[hx]at ih⊢;refine au.cR (λ_ h=>h.ref) (qb (by simp)) (λ_ hk=>?_);have hw':=wty _ (by simp) hk;have h7:w.aL.Kind=7:=by simpa using hk.2
   obtain⟨p,q,hp⟩:=xP (hw'.dS hk.1).1 h7;rw[hp];refine au.bA (v:=x) rfl (au.bA (v:=p) rfl (au.bA (of_eq p) ?_));refine au.aT (ih x (by simp) _ (.inr (lL hw' hk.1 (by rw[hp];simp)))) (λu hu=>?_);refine au.bif (λ_=>?_) (λe=>absurd e (by simp));refine au.bA (v:=ae.z) rfl (au.bA (v:=z) rfl (au.bA (v:=q) rfl (au.bA (of_eq q) ?_)));refine au.aT (ih z (by simp) _ (.inr (lL hw' hk.1 (by rw[hp];simp)))) (λv hv=>?_);refine au.bif (λ_=>?_) (λe=>absurd e (by simp));refine au.bA (v:=ae.z) rfl ?_;exact au.ret ⟨hw',λa _=> .pair hk.1 h7 (p:=p) (q:=q) (by rw[hp];rfl) (by rw[hp];rfl) hu.2.2.2 hv.2.2.2⟩
  have hp:n.Text≠[112,97,105,114]:=by simpa using hp
  refine au.bif (λht=>?_) (λ_=>?_)
  ·have ht:n.Text=[111,110,101]:=by simpa using ht
   obtain⟨x,hx⟩:=one (by rw[ht];decide) (by rw[ht];decide);rw[hx]at ih⊢;refine au.cR (λ_ h=>h.ref) (qb (by simp)) (λ_ hk=>?_);refine au.bA (v:=x) rfl (au.bA (iu 3) ?_);refine au.aT (ih x (by simp) (bm 3) s3) (λy hy=>?_);exact au.ret ⟨wty _ (by simp) hk,λa _=> .one hk.1 (by simpa using hk.2) hy.2.2.2⟩
  refine au.bif (λht=>?_) (λhwr=>?_)
  ·have ht:n.Text=[119,114,105,116,101]:=by simpa using ht
   obtain⟨x,y,z,hx⟩:=IE (l:=n.Kids) (by
    rcases hr with h|h|h|h
    ·omega
    ·omega
    ·have:=h.2;rw[ht]at this;exact absurd this (by decide)
    ·exact absurd ht h.2.2.2.2.1)
   rw[hx]at ih⊢;have wr:bB B (dD eN):=bB.of w5 (Dc B);refine au.bA (of_eq eN) (au.bA (v:=x) rfl ?_);refine au.aT (ih x (by simp) _ (.inr wr)) (λu hu=>?_);refine au.bif (λ_=>?_) (λe=>absurd e (by simp));refine au.bA (v:=ae.z) rfl (au.bA (v:=y) rfl (au.bA (iu 1) ?_));refine au.aT (ih y (by simp) _ s1) (λv hv=>?_);refine au.bif (λ_=>?_) (λe=>absurd e (by simp));refine au.bA (v:=ae.z) rfl (au.bA (v:=z) rfl (au.bA (iu 3) ?_));refine au.aT (ih z (by simp) _ s3) (λt ht=>?_);refine au.bif (λ_=>?_) (λe=>absurd e (by simp));refine au.bA (v:=ae.z) rfl ?_;exact au.ret ⟨wr,λa hf=> .write hu.2.2.2 hv.2.2.2 ht.2.2.2 hf⟩
  obtain⟨x,hx⟩:=one (by simpa using hwr) hp;exact au.aT (Za hx (ih x (by rw[hx];simp))) λy hy=>au.ret hy
 ·have h0:r<0:=by simpa using h0
  have hm:n.Text=[115,101,116]\/n.Text=gb\/n.Text=gf:=by
   rcases hr with h|h|h|h
   ·exact h.2
   ·omega
   ·omega
   ·omega
  have no:∀t:List UInt8,t≠[115,101,116]->t≠gb->t≠gf->(n.Text==t)=true->False:=λt h1 h2 h3 e=>by
   have e:n.Text=t:=by simpa using e
   rw[e]at hm;rcases hm with h|h|h
   ·exact h1 h
   ·exact h2 h
   ·exact h3 h
  refine au.bif (λht=>(no _ (by decide) (by decide) (by decide) ht).elim) (λ_=>?_);refine au.bif (λht=>(no _ (by decide) (by decide) (by decide) ht).elim) (λ_=>?_);refine au.bif (λht=>?_) (λhns=>?_)
  ·have ht:n.Text=[115,101,116]:=by simpa using ht
   rw[T4 (by rw[ht];decide) (by rw[ht];decide)]at ih;refine au.cR (λ_ h=>h.ref) (qb (by simp)) (λ_ hk=>?_);exact adR hB (wty _ (by simp) hk) hk.1 (by simpa using hk.2) hn ih
  refine au.bif (λht=>?_) (λhnm=>?_)
  ·have ht:n.Text=gb:=eq_of_beq ht;rw[Uw h51 (.inl ht)]at ih;refine au.cR (λ_ h=>h.ref) (qb (by simp)) (λ_ hk=>?_);refine adS hB (wty _ (by simp) hk) hk.1 (by simpa using hk.2) hn (λe he=>?_);obtain⟨a,b,hab⟩:=mQ (hs.1 ht e he);exact⟨a,b,hab,ih a (il.2 ⟨e,he,by rw[hab];simp⟩),ih b (il.2 ⟨e,he,by rw[hab];simp⟩)⟩
  have ht:n.Text=gf:=by
   rcases hm with h|h|h
   ·rw[h]at hns;simp at hns
   ·rw[h]at hnm;simp[gb]at hnm
   ·exact h
  refine au.bif (λ_=>?_) (λe=>by rw[ht]at e;simp[gf]at e);rw[Uw h51 (.inr ht)]at ih;refine au.cR (λ_ h=>h.ref) (qb (by simp)) (λ_ hk=>?_);have hw':=wty _ (by simp) hk;have h6:w.aL.Kind=6:=by simpa using hk.2
  refine au.aT (Z6 hB (hw'.dS hk.1).1 (hw'.dS hk.1).2 h6 hn (λe he=>?_)) (λy hy=>?_)
  ·obtain⟨a,ha⟩:=uM (hs.2 ht e he);exact⟨a,ha,ih a (il.2 ⟨e,he,by rw[ha];simp⟩)⟩
  ·exact au.ret ⟨hw',λa _=> .I4 hk.1 h6 hy.1 hy.2⟩
include hB in
theorem Zd {n:az} {w:aP} (hw:ea B w) (hs:ju n) (hk:n.Kind=30\/n.Kind=36\/n.Kind=38\/n.Kind=39\/n.Kind=42\/n.Kind=43) (hW:∀k∈n.Kids,WN B k) (ih:∀k∈n.Kids,EE B c k):au ((f231 Pf) c n w) (AP B c w) eo:=by
 have s2:ea B (bm 2):= .inr (bB.sort (by simp));rw[ag9,AT];refine au.bA (iu 2) ?_;refine au.bif (λh=>?_) (λn30=>?_)
 ·have h:n.Kind=30:=by simpa using h
  obtain⟨x,y,z,hx⟩:=IE (l:=n.Kids) (by unfold ju at hs;omega);rw[hx]at hW ih⊢;refine au.bA (v:=x) rfl (au.aT (ih x (by simp) _ s2) λu hu=>?_);refine au.bA (Dd w) ?_;refine au.bif (λhn=>?_) (λhn=>?_)
  ·have hn:isNone w=true:=hn;refine au.bA (v:=y) rfl (au.bA (v:=z) rfl ?_);refine au.aT (FU (hW y (by simp)) (hW z (by simp)) (ih y (by simp)) (ih z (by simp))) (λr hr=>?_);rcases hr with⟨h1,h2,_⟩|⟨h1,h2,_⟩
   ·exact au.ret ⟨h1.2.1,λa _=> .IX hn hu.2.2.2 h1.2.2.2 h2.2.2.2⟩
   ·exact au.ret ⟨h2.2.1,λa _=> .IY hn hu.2.2.2 h1.2.2.2 h2.2.2.2⟩
  ·have hn:isNone w=false:=hn;refine au.bA (v:=y) rfl (au.aT (ih y (by simp) _ hw) λv hv=>?_);refine au.bA (v:=z) rfl (au.aT (ih z (by simp) _ hw) λt ht=>?_);refine au.ret ⟨hv.2.1,λa _=>?_⟩;show W c.l c.params ⟨7,v.aK,0,[],a,[u,v,t]⟩ w;rw[<-hv.2.2.1 hn];exact .IW hn hu.2.2.2 hv.2.2.2 ht.2.2.2
 refine au.bif (λh=>?_) (λn36=>?_)
 ·have h:n.Kind=36:=by simpa using h
  obtain⟨x,y,hx⟩:=mQ (l:=n.Kids) (by unfold ju at hs;omega);rw[hx]at ih⊢;refine au.bA (v:=x) rfl (au.aT (ih x (by simp) _ (.inl rfl)) λu hu=>?_);refine au.bif (λ_=>au.bA (v:=x) rfl (fH _ _)) (λhs0=>?_);refine au.bA (v:=y) rfl (au.aT (ih y (by simp) _ (.inr hu.2.1)) λv hv=>?_);exact au.ret ⟨bB.sort (by simp),λa hf=> .equal hu.2.2.2 (by simpa using hs0) hv.2.2.2 hf⟩
 refine au.bif (λh=>?_) (λn38=>?_)
 ·have h:n.Kind=38:=by simpa using h
  obtain⟨x,y,hx⟩:=mQ (l:=n.Kids) (by unfold ju at hs;omega);rw[hx]at hW ih⊢;refine au.bA (v:=x) rfl (au.bA (v:=y) rfl ?_);refine au.aT (FU (hW x (by simp)) (hW y (by simp)) (ih x (by simp)) (ih y (by simp))) (λr hr=>?_);rcases hr with⟨h1,h2,h3⟩|⟨h1,h2,h3⟩
  ·exact au.ret ⟨bB.sort (by simp),λa hf=> .I0 h1.2.2.2 (h3 rfl) h2.2.2.2 hf⟩
  ·exact au.ret ⟨bB.sort (by simp),λa hf=> .I1 h1.2.2.2 (h3 rfl) h2.2.2.2 hf⟩
 refine au.bif (λh=>?_) (λn39=>?_)
 ·have h:n.Kind=39:=by simpa using h
  obtain⟨x,y,hx⟩:=mQ (l:=n.Kids) (by unfold ju at hs;omega);refine au.bA (Dd w) ?_;refine au.bif (λhn=>?_) (λhn=>?_)
  ·have hn:isNone w=false:=by simpa using hn
   refine au.bif (λ_=>fH _ _) (λhs0=>?_);refine au.aT (P4 hx (ih x (by rw[hx];simp)) (ih y (by rw[hx];simp)) hw hw) (λr hr=>?_);obtain⟨u,v,rfl,hu,hv⟩:=hr;exact au.ret ⟨hw.some hn,λa _=> .Iy hn (by simpa using hs0) hu.2.2.2 hv.2.2.2⟩
  ·have hn:isNone w=true:=by simpa using hn
   rw[hx]at hW ih⊢;refine au.bA (v:=x) rfl (au.bA (v:=y) rfl ?_);refine au.aT (FU (hW x (by simp)) (hW y (by simp)) (ih x (by simp)) (ih y (by simp))) (λr hr=>?_);rcases hr with⟨h1,h2,h3⟩|⟨h1,h2,h3⟩
   ·exact au.ret ⟨h1.2.1,λa hf=> .Iz hn h1.2.2.2 (h3 rfl) h2.2.2.2⟩
   ·exact au.ret ⟨h2.2.1,λa hf=> .IA hn h1.2.2.2 (h3 rfl) h2.2.2.2⟩
 refine au.bif (λh=>?_) (λn42=>?_)
 ·have h:n.Kind=42:=by simpa using h
  obtain⟨x,hx⟩:=uM (l:=n.Kids) (by unfold ju at hs;omega);rw[hx]at ih⊢;refine au.bA (v:=x) rfl (au.aT (F7 (by simp) (ih x (by simp))) λu hu=>?_);have h6:u.aK.aL.Kind=6:=by simpa using hu.2.2
  have hl:=(hu.1.2.1.dS hu.2.1);have hnl:u.aK.aL.Names.length<=B:=by have:=hl.2;rw[ah.dO]at this;exact this.2.2.2.1.1
  refine au.bA (CP _ _ (by omega)) ?_;refine au.bif (λ_=>fH _ _) (λh2=>?_);obtain⟨j,t,hj,ht,_⟩:=F8 (by simpa using h2);rw[hj];have hjl:=(b9.1 ht).1;obtain⟨p,hp⟩:=bw (l:=u.aK.aL.aj) (i:=j) (by rw[To hl.1 h6];exact hjl);refine au.bA (nC hp) (au.bA (of_eq p) ?_);exact au.ret ⟨lL hu.1.2.1 hu.2.1 (a7 hp),λa hf=> .field hu.1.2.2.2 hu.2.1 h6 hjl hp hf⟩
 have h:n.Kind=43:=by simp at n30 n36 n38 n39 n42;omega
 obtain⟨x,y,hx⟩:=mQ (l:=n.Kids) (by unfold ju at hs;omega);rw[hx]at ih⊢;refine au.bA (v:=x) rfl (au.aT (F7 (by simp) (ih x (by simp))) λu hu=>?_);have h5:u.aK.aL.Kind=5:=by simpa using hu.2.2
 obtain⟨p,hp⟩:=xO (hu.1.2.1.dS hu.2.1).1 h5;refine au.bA (v:=y) rfl (au.bA (iu 3) (au.aT (ih y (by simp) _ (.inr (bB.sort (by simp)))) λv hv=>?_));rw[hp];refine au.bA (v:=p) rfl (au.bA (of_eq p) ?_);exact au.ret ⟨lL hu.1.2.1 hu.2.1 (by rw[hp];simp),λa hf=> .at_ hu.1.2.2.2 hu.2.1 h5 (by rw[hp];rfl) hv.2.2.2 hf⟩
include hB hc in
theorem adT {n:az} {w:aP} (hw:ea B w) (h:WN B n) (ih:∀k∈jV n,EE B c k):au ((f177 Pf) c n w) (AP B c w) eo:=by
 obtain⟨hs,hl,h44,h47,hk⟩:=h;have s1:ea B (bm 1):= .inr (bB.sort (by simp));have s2:ea B (bm 2):= .inr (bB.sort (by simp));have s3:ea B (bm 3):= .inr (bB.sort (by simp));have s4:ea B (bm 4):= .inr (bB.sort (by simp));have two:∀(op:Int) (a b t:aP) (k:Int),n.Kind=k->31<=k/\k<=43/\k≠33/\k≠42->ea B a->ea B b->bB B t->(∀(u v:ae) (x:Int),W c.l c.params u a->W c.l c.params v b->Fit w t->W c.l c.params ⟨op,t,0,[],x,[u,v]⟩ w)->
   au (Bw.aT ((f229 Pf) c op n a b t) λy=>some (.ret y)) (AP B c w) eo:=by
  intro op a b t k hn hkk ha hb ht hW;obtain⟨x,y,hx⟩:=mQ (l:=n.Kids) (by unfold ju at hs;omega);rw[DW (by omega),hx]at ih;refine au.aT (P4 hx (ih x (by simp)) (ih y (by simp)) ha hb) (λr hr=>?_);obtain⟨u,v,rfl,hu,hv⟩:=hr;exact au.ret ⟨ht,λq hf=>hW u v q hu.2.2.2 hv.2.2.2 hf⟩
 rw[ag7,AO];refine au.bA (iu 2) (au.bA (iu 1) (au.bA (iu 3) ?_));refine au.bif (λh=>?_) (λ_=>?_)
 ·have:=h44 (by simpa using h);exact au.ret ⟨bB.sort (by simp),λa hf=> .int this.1 this.2 hf⟩
 refine au.bif (λ_=>au.ret ⟨bB.sort (by simp),λa hf=> .bool (.inr rfl) hf⟩) (λ_=>?_);refine au.bif (λ_=>au.ret ⟨bB.sort (by simp),λa hf=> .bool (.inl rfl) hf⟩) (λ_=>?_);refine au.bif (λh=>au.ret ⟨bB.sort (by simp),λa hf=> .name (h47 (by simpa using h)) hf⟩) (λ_=>?_);refine au.bif (λ_=>?_) (λ_=>?_)
 ·refine au.bA (aeE _ _ (by have:=hc.num;omega)) ?_;refine au.bif (λ_=>fH _ _) (λh2=>?_);obtain⟨j,p,hj,hp,_⟩:=F8 (by simpa using h2);rw[hj];refine au.bA (nC hp) (au.bA (iu _) ?_);exact au.ret ⟨bB.sort (hc.par p (a7 hp)),λa hf=> .param hp hf⟩
 refine au.bif (λ_=>?_) (λ_=>?_)
 ·refine au.bA (of_eq _) ?_;exact au.ret ⟨bB.of hc.dS hc.ok,λa hf=> .state hf⟩
 refine au.bif (λ_=>?_) (λ_=>?_)
 ·refine au.bif (λ_=>fH _ _) (λh0=>?_);refine au.bA (Dd w) ?_;refine au.bif (λ_=>fH _ _) (λhn=>?_);exact au.ret ⟨hw.some hn,λa hf=> .uk (by simpa using h0) hn⟩
 refine au.bif (λh=>two 8 _ _ _ 31 (by simpa using h) (by decide) s2 s2 (bB.sort (by simp)) (λu v x hu hv hf=> .conn (.inl rfl) hu hv hf)) (λ_=>?_);refine au.bif (λh=>two 9 _ _ _ 32 (by simpa using h) (by decide) s2 s2 (bB.sort (by simp)) (λu v x hu hv hf=> .conn (.inr rfl) hu hv hf)) (λ_=>?_);refine au.bif (λh=>?_) (λ_=>?_)
 ·have h:n.Kind=33:=by simpa using h
  obtain⟨x,hx⟩:=uM (l:=n.Kids) (by unfold ju at hs;omega);rw[DW (by omega),hx]at ih;rw[hx];refine au.bA (v:=x) rfl (au.aT (ih x (by simp) _ s2) λu hu=>?_);exact au.ret ⟨bB.sort (by simp),λa hf=> .not hu.2.2.2 hf⟩
 refine au.bif (λh=>two 11 _ _ _ 34 (by simpa using h) (by decide) s1 s1 (bB.sort (by simp)) (λu v x hu hv hf=> .less (.inl rfl) hu hv hf)) (λ_=>?_);refine au.bif (λh=>two 12 _ _ _ 35 (by simpa using h) (by decide) s1 s1 (bB.sort (by simp)) (λu v x hu hv hf=> .less (.inr rfl) hu hv hf)) (λ_=>?_);refine au.bif (λh=>au.bA (iu 4) (two 14 _ _ _ 37 (by simpa using h) (by decide) s3 s4 (bB.sort (by simp)) (λu v x hu hv hf=> .IZ hu hv hf))) (λ_=>?_);refine au.bif (λh=>two 17 _ _ _ 40 (by simpa using h) (by decide) s1 s1 (bB.sort (by simp)) (λu v x hu hv hf=> .Eh (.inl rfl) hu hv hf)) (λ_=>?_);refine au.bif (λh=>two 18 _ _ _ 41 (by simpa using h) (by decide) s1 s1 (bB.sort (by simp)) (λu v x hu hv hf=> .Eh (.inr rfl) hu hv hf)) (λ_=>?_);refine au.bif (λh=>au.aT (acC hB hw (by simpa using h) hs hl ih) λy hy=>au.ret hy) (λh51=>?_);have h51:n.Kind≠51:=by simpa using h51
 rw[DW h51]at ih hk;refine au.aT (Zd hB hw hs ?_ hk ih) λy hy=>au.ret hy;simp at*
 unfold ju at hs;omega
include hB hc in
theorem acB {n:az} (h:WN B n):EE B c n:=by
 induction h with
 |mk hs hl h44 h47 hk ih=>exactλw hw=>adI hB hw (adT hB hc hw (.mk hs hl h44 h47 hk) ih)
end
inductive TT (B:Nat):ae->Prop
 |mk {y:ae}:bB B y.aK->(∀k∈y.Kids,TT B k)->TT B y
theorem TT.ty {B:Nat} {y:ae} (h:TT B y):bB B y.aK:=by cases h;assumption
theorem TT.cu {B:Nat} {y k:ae} (h:TT B y) (hk:k∈y.Kids):TT B k:=by cases h with|mk _ h=>exact h k hk
section
variable {B:Nat} {c:cx} (hc:CE B c)
include hc
theorem W.tt {y:ae} {w:aP} (h:W c.l c.params y w):ea B w->TT B y:=by
 have s:∀n:Int,1<=n/\n<=4->ea B (bm n):=λn hn=> .inr (bB.sort hn);have s0:ea B (bm 0):= .inl rfl;have no:∀k∈([]:List ae),TT B k:=by simp
 have one:∀{x:ae},TT B x->∀k∈[x],TT B k:=λhx k hk=>by simp at hk;subst hk;exact hx
 have two:∀{x y:ae},TT B x->TT B y->∀k∈[x,y],TT B k:=λhx hy k hk=>by simp at hk;rcases hk with rfl|rfl<;>assumption
 have three:∀{x y z:ae},TT B x->TT B y->TT B z->∀k∈[x,y,z],TT B k:=λhx hy hz k hk=>by simp at hk;rcases hk with rfl|rfl|rfl<;>assumption
 have part:∀{t:aP} {p:ah} {i:Nat},bB B t->t.aX=0->t.aL.aj[i]? =some p->bB B (dD p):=λht hs hp=>lL ht hs (a7 hp)
 induction h with
 |int _ _ _=>exactλ_=> .mk (bB.sort (by simp)) no
 |bool _ _=>exactλ_=> .mk (bB.sort (by simp)) no
 |name _ _=>exactλ_=> .mk (bB.sort (by simp)) no
 |param hp _=>exactλ_=> .mk (bB.sort (hc.par _ (a7 hp))) no
 |state _=>exactλ_=> .mk (bB.of hc.dS hc.ok) no
 |uk _ hn=>exactλhw=> .mk (hw.some hn) no
 |IW hn _ _ _ i1 i2 i3=>exactλhw=> .mk (hw.some hn) (three (i1 (s 2 (by simp))) (i2 hw) (i3 hw))
 |IX _ _ _ _ i1 i2 i3=>exactλ_=> .mk (i2 s0).ty (three (i1 (s 2 (by simp))) (i2 s0) (i3 (.inr (i2 s0).ty)))
 |IY _ _ _ _ i1 i2 i3=>exactλ_=> .mk (i3 (.inr (i2 s0).ty)).ty (three (i1 (s 2 (by simp))) (i3 (.inr (i2 s0).ty)) (i2 s0))
 |conn _ _ _ _ i1 i2=>exactλ_=> .mk (bB.sort (by simp)) (two (i1 (s 2 (by simp))) (i2 (s 2 (by simp))))
 |not _ _ i1=>exactλ_=> .mk (bB.sort (by simp)) (one (i1 (s 2 (by simp))))
 |less _ _ _ _ i1 i2=>exactλ_=> .mk (bB.sort (by simp)) (two (i1 (s 1 (by simp))) (i2 (s 1 (by simp))))
 |equal _ _ _ _ i1 i2=>exactλ_=> .mk (bB.sort (by simp)) (two (i1 s0) (i2 (.inr (i1 s0).ty)))
 |IZ _ _ _ i1 i2=>exactλ_=> .mk (bB.sort (by simp)) (two (i1 (s 3 (by simp))) (i2 (s 4 (by simp))))
 |I0 _ _ _ _ i1 i2=>exactλ_=> .mk (bB.sort (by simp)) (two (i1 s0) (i2 (.inr (i1 s0).ty)))
 |I1 _ _ _ _ i1 i2=>exactλ_=> .mk (bB.sort (by simp)) (two (i2 (.inr (i1 s0).ty)) (i1 s0))
 |Iy hn _ _ _ i1 i2=>exactλhw=> .mk (hw.some hn) (two (i1 hw) (i2 hw))
 |Iz _ _ _ _ i1 i2=>exactλ_=> .mk (i1 s0).ty (two (i1 s0) (i2 (.inr (i1 s0).ty)))
 |IA _ _ _ _ i1 i2=>exactλ_=> .mk (i2 (.inr (i1 s0).ty)).ty (two (i2 (.inr (i1 s0).ty)) (i1 s0))
 |Eh _ _ _ _ i1 i2=>exactλ_=> .mk (bB.sort (by simp)) (two (i1 (s 1 (by simp))) (i2 (s 1 (by simp))))
 |field _ hs _ _ hp _ i1=>exactλ_=> .mk (part (i1 s0).ty hs hp) (one (i1 s0))
 |at_ _ hs _ hp _ _ i1 i2=>exactλ_=> .mk (part (i1 s0).ty hs hp) (two (i1 s0) (i2 (s 3 (by simp))))
 |flag h0 hk _ i1=>exactλhw=> .mk (hw.some (hw.kind h0 (by rw[hk];decide)).2.2) (one (i1 (s 2 (by simp))))
 |num h0 hk _ i1=>exactλhw=> .mk (hw.some (hw.kind h0 (by rcases hk with hk|hk<;>rw[hk]<;>decide)).2.2) (one (i1 (s 1 (by simp))))
 |I2 h0 hk _ _ i1=>exactλhw=> .mk (hw.some (hw.kind h0 (by rcases hk with hk|hk<;>rw[hk]<;>decide)).2.2) (λk hm=>i1 k hm s0)
 |map h0 hk hp _ _ i1 i2=>
  intro hw;have hw':=hw.some (hw.kind h0 (by rw[hk];decide)).2.2;refine .mk hw' (λk hm=>?_);obtain⟨q,h1,h2⟩:=il.1 hm;simp at h2;rcases h2 with rfl|rfl
  ·exact i1 q h1 (s 3 (by simp))
  ·exact i2 q h1 (.inr (part hw' h0 hp))
 |I4 h0 hk hl _ i1=>
  intro hw;have hw':=hw.some (hw.kind h0 (by rw[hk];decide)).2.2;refine .mk hw' (λk hm=>?_);obtain⟨i,hi⟩:=jk hm;obtain⟨p,hp⟩:=bw (i:=i) (by rw[<-hl];exact(b9.1 hi).1);exact i1 i k p hi hp (.inr (part hw' h0 hp))
 |pair h0 hk hp hq _ _ i1 i2=>
  intro hw;have hw':=hw.some (hw.kind h0 (by rw[hk];decide)).2.2;exact .mk hw' (two (i1 (.inr (part hw' h0 hp))) (i2 (.inr (part hw' h0 hq))))
 |one h0 hk _ i1=>exactλhw=> .mk (hw.some (hw.kind h0 (by rw[hk];decide)).2.2) (one (i1 (s 3 (by simp))))
 |write _ _ _ _ i1 i2 i3=>exactλ_=> .mk (bB.of w5 (Dc B)) (three (i1 (.inr (bB.of w5 (Dc B)))) (i2 (s 1 (by simp))) (i3 (s 3 (by simp))))
 |size _ _ _ i1=>exactλ_=> .mk (bB.sort (by simp)) (one (i1 s0))
 |sum _ _ _ _ _ _ i1=>exactλ_=> .mk (bB.sort (by simp)) (one (i1 s0))
 |LD hm _ _ _ _ i1=>exactλ_=> .mk (bB.sort (by simp at hm;omega)) (one (i1 s0))
 |part _ _ hs _ hp _ i1=>exactλ_=> .mk (part (i1 s0).ty hs hp) (one (i1 s0))
end
open Classical in
noncomputable def iJ {α:Type} (a b:α):Bool:=decide (a=b)
theorem DH {α:Type} {a b:α}:iJ a b=true↔a=b:=by simp[iJ]
theorem DX {α:Type} {a b:α} {r:Bool} (h:r=true↔a=b):r=iJ a b:=by rw[mi,h,DH]
theorem SJ {α:Type}:∀{a b:List α},a.length=b.length->(a.zip b).all (λq=>iJ q.1 q.2)=iJ a b
 |[],[],_=>by simp[iJ]
 |x::a,y::b,h=>by
  rw[FI,kH,SJ (by simpa using h)];apply DX;simp[DH]
 |[],_::_,h=>by simp at h
 |_::_,[],h=>by simp at h
section
variable {B:Nat} (hB:B<=1048576)
include hB
theorem acA:∀a:ae,TT B a->∀b:ae,b.ok B->(f63 Pf) a b=some (iJ a b):=by
 refine ae.ind λa ih ha b hb=>?_;rw[ae.dO]at hb;obtain⟨_,_,_,_,_,hkl,hkk⟩:=hb;have hkids:(Dt Pf) a.Kids b.Kids=some (iJ a.Kids b.Kids):=by
  rw[adM,xD];simp only[ae.aI];by_cases h:a.Kids.length=b.Kids.length
  ·have h0:((a.Kids.length:Int) !=(b.Kids.length:Int))=false:=by simp[h]
   rw[h0];show(sq Pf) a.Kids b.Kids 0=_;rw[CU (a:=a.Kids) (b:=b.Kids) (L:=(sq Pf) a.Kids b.Kids) iJ true h ?_ ?_]
   ·rw[rQ,SJ h]
   ·intro i x y hx hy hi;rw[Oj,sr,ae.aI,wX (by omega)];have h1:decide ((i:Int)<(a.Kids.length:Int))=true:=by simpa using hi
    have hx':=a7 hx;rw[h1,bg hx,bg hy];show(((f63 Pf) x y).bind _)=_;rw[ih x hx' (ha.cu hx') y (ae.gJ hkk (a7 hy))];show(bif !(iJ x y)then _ else _)=_;cases iJ x y<;>rfl
   ·rw[Oj,sr,ae.aI];simp
  ·have h0:((a.Kids.length:Int) !=(b.Kids.length:Int))=true:=by simp;omega
   rw[h0];show some false=_;congr 1;exact DX (by constructor;intro e;cases e;intro e;exact absurd (congrArg List.length e) h)
 have hty:(f114 Pf) a.aK b.aK=some (iJ a.aK b.aK):=by
  obtain⟨r,e,hr⟩:=P3 (b:=b.aK) hB ha.ty.ok;rw[e,DX hr]
 rw[e63,By,hkids,hty];obtain⟨op,ty,n,t,at',ks⟩:=a;obtain⟨op',ty',n',t',at'',ks'⟩:=b;have e:iJ (⟨op,ty,n,t,at',ks⟩:ae) ⟨op',ty',n',t',at'',ks'⟩=(op==op'&&(n==n'&&(t==t'&&(at'==at''&&(iJ ty ty'&&iJ ks ks'))))):=by
  symm;apply DX;simp only[bJ,beq_iff_eq,DH,ae.mk.injEq];constructor
  ·rintro ⟨a,b,c,d,e,f⟩;exact⟨a,e,b,c,d,f⟩
  ·rintro ⟨a,e,b,c,d,f⟩;exact⟨a,b,c,d,e,f⟩
 rw[e];simp only[aw];generalize (op==op')=c1;generalize (n==n')=c2;generalize (t==t')=c3;generalize (at'==at'')=c4;generalize iJ ty ty'=c5;generalize iJ ks ks'=c6;cases c1<;>cases c2<;>cases c3<;>cases c4<;>cases c5<;>cases c6<;>rfl
def iC (l:ah) (f:bU):aP:=bif f.Result==0 then dD l else bm f.Result
structure VF (B:Nat) (l:ah) (f:bU):Prop where
 ce:CE B ⟨l,f.Params⟩
 form:D' f
 body:W l f.Params f.Body (iC l f)
 tt:TT B f.Body
theorem aaF {l:ah} {f:bU} (hl:l.ok B) (hf:f.ok B):ab ((f25 Pf) l f) (λr=>r=true->VF B l f):=by
 obtain⟨hn,ho,⟨hpl,hp⟩,_,hb⟩:=hf;rw[e25,Bz];have no:ab (some false) (λr=>r=true->VF B l f):=ab.ret λe=>by cases e
 refine ab.bind (O9 (by omega) hl) (λy1 h1=>?_);refine ab.bif (λ_=>no) (λe1=>?_);have hlat:cj l:=h1 (by simpa using e1);refine ab.bind (Z8 (by omega) (by omega) (λp hm=>by have:=(hp p hm).1;omega)) (λy3 h3=>?_);refine ab.bif (λ_=>no) (λe3=>?_);have hform:D' f:=h3 (by simpa using e3);have hce:CE B ⟨l,f.Params⟩:=⟨hlat,hl,λp hm=>by
  obtain⟨i,hi⟩:=jk hm;have:=hform.2.2.2.2.2 i p hi;exact⟨this.2.1,this.2.2.1⟩,hpl⟩
 refine ab.bind (acd hB f.Body hb) (λy5 h5=>?_);refine ab.bif (λ_=>no) (λe5=>?_);have hwn:=h5 (by simpa using e5);rw[adJ,aw];have hww:ea B (iC l f):=by
  unfold iC;cases h:f.Result==0 with
  |true=>exact .inr (bB.of hlat hl)
  |false=>
   have h0:f.Result≠0:=by simpa using h
   have:=hform.2.2.2;exact .inr (bB.sort (by omega))
 have hE:=acB hB hce hwn (iC l f) hww;refine ab.bind (P:=λr=>r.2.Code=0->EP B ⟨l,f.Params⟩ y5.1 (iC l f) r.1) ?_ (λy8 h8=>?_)
 ·rw[e61,Bx];refine ctF hE (λa b ha=>?_) (λy hy=>ab.ret λ_=>hy);exact ab.bif (λh=>ab.ret λe=>absurd e ha) (λh=>ab.ret λe=>absurd e ha)
 ·refine ab.bif (λh=>?_) (λ_=>no);have h8:=h8 (by simpa using h);have htt:=W.tt hce h8.2.2.2 hww;rw[acA hB y8.1 htt f.Body hb,aw];refine ab.ret λe=>?_;have e:=DH.1 e;rw[e]at h8 htt;exact⟨hce,hform,h8.2.2.2,htt⟩
