/- The elaborator answers well-typed expressions, or a fault; types.Valid answers, and true only to well-typed functions. -/
import Derived.Test.YtnocmolegijmkaaGreatKVa6
set_option linter.all false
namespace Go.Proofs.YtnocmolegijmkaaGreat
open Go Go.Bw
theorem aaO (t:List UInt8):ae ((f219 Pf) t) (λr=>(r= -1/\(t=[115,101,116]\/t=ie\/t=ig))\/(r=3/\t=[119,114,105,116,101])\/(r=2/\t=[112,97,105,114])\/(r=1/\t≠[115,101,116]/\t≠ie/\t≠ig/\t≠[119,114,105,116,101]/\t≠[112,97,105,114])):=by
 rw[ajQ,B1]
 repeat' (first|refine ae.bif (λh=>?_) (λh=>?_)|refine ae.ret ?_)
 all_goals (simp at*;simp[ie,ig, *])
theorem Ep {D:Type}:∀l:List (D×D),(l.flatMap λq=>[q.1,q.2]).length=2*l.length
 |[]=>rfl
 |q::l=>by rw[tr,kp,Ep l];simp;omega
theorem Wn {n:aI} (h:n.Kind=51) (ht:n.Text=ie\/n.Text=ig):ln n=n.Kids.flatMap (·.Kids):=by
 rw[ln,h];rcases ht with e|e<;>rw[e]<;>rfl
theorem VU {n:aI} (h1:n.Text≠ie) (h2:n.Text≠ig):ln n=n.Kids:=by
 have e1:(n.Text==ie)=false:=by simpa using h1
 have e2:(n.Text==ig)=false:=by simpa using h2
 rw[ln,e1,e2];simp
section
variable {B:Nat} (hB:B<=1048576) {c:cI} (hc:CE B c)
theorem rp {ks:List Int} {w:aQ} {n:aI} (hk:ks.length<9223372036854775807):aw ((f220 Pf) ks w n) (λ_=>w.a6=0/\w.aD.Kind∈ks) eZ:=by
 rw[ajR,B2];refine aw.bif (λ_=>gG _ _) (λhs=>?_);refine aw.bK (JS ks _ hk) ?_;refine aw.bif (λ_=>gG _ _) (λhm=>aw.ret ⟨by simpa using hs,?_⟩);simp only[OO,HK,beq_iff_eq]at hm;obtain⟨k,h1,h2⟩:=hm;rw[h2];exact h1
include hB in
theorem afv {n:aI} {w:aQ} (hw:bx B w) (hs:w.a6=0) (hk:w.aD.Kind=4\/w.aD.Kind=10) (hn:n.Kids.length<=B) (ih:∀k∈n.Kids,EE B c k):aw ((nW Pf) c n w 0 []) (AP B c w) eZ:=by
 have h:=En (L:=λi (b:List ab)=>(nW Pf) c n w i b) (P:=AP B c w) (E:=eZ) (len:=n.Kids.length) (λi b=>b.length=i/\∀x∈b,W c.l c.params x (br 0)/\(x.aO.a6=3\/x.aO.a6=4)) (λi b hi hI k=>by
   show aw ((nW Pf) c n w i b) _ _;rw[Tx,vl,aI.aH,a7];have:decide (i<n.Kids.length)=true:=by simpa using hi
   obtain⟨e,he⟩:=bo hi;rw[this,aB,bf he,au,bW i (by omega)];refine aw.aU (ih e (aV he) (br 0) (.inl rfl)) (λy hy=>?_);have hlen:decide ((b++[ab.z]).length<=274877906944)=true:=by simp;omega
   rw[hlen,aB,ab.aH,Eb,mH,E8];have e1:(b++[ab.z])[b.length]? =some ab.z:=by simp
   have e2:IntKind.i64.wrap ((((ab.rows b++ab.rows [ab.z]).length:Nat):Int)-1)=(b.length:Int):=by
    rw[kp,ab.aH,ab.aH,wrap64 (by simp<;>omega) (by simp<;>omega)];simp
   have e3:(b++[y])[b.length]? =some y:=by simp
   rw[e1,au,e2,Eb,e3,au];have go:(y.aO.a6=3\/y.aO.a6=4)->aw ((nW Pf) c n w ((i+1:Nat):Int) (b++[y])) (AP B c w) eZ:=λhsy=>by
    refine k _ ⟨by simp[hI.1],λx hx=>?_⟩;rcases b7.1 hx with hx|hx
    ·exact hI.2 x hx
    ·simp at hx;subst hx;exact⟨hy.2.2.2,hsy⟩
   refine aw.bif (λ_=>?_) (λh=>go (.inl (by simpa using h)));exact aw.bif (λ_=>gG _ _) (λh=>go (.inr (by simpa using h)))) (λb hI=>by
   show aw ((nW Pf) c n w _ b) _ _;rw[Tx,vl,aI.aH,a7];have:decide (n.Kids.length<n.Kids.length)=false:=by simp
   rw[this,aC];exact aw.ret ⟨hw,λa _=> .KY hs hk (by show b.length<=_;have:=hI.1;omega) (λx hx=>(hI.2 x hx).1) (λx hx=>(hI.2 x hx).2)⟩) 0 [] (by omega) ⟨rfl,by simp⟩
 exact h
include hB in
theorem afw {n:aI} {w:aQ} (hw:bx B w) (hs:w.a6=0) (hk:w.aD.Kind=5) (hn:n.Kids.length<=B) (ih:∀e∈n.Kids,∃a b,e.Kids=[a,b]/\EE B c a/\EE B c b):aw ((qa Pf) c n w 0 []) (AP B c w) eZ:=by
 obtain⟨p,hp⟩:=vy (hw.dz hs).1 hk;have hwp:bx B (cX p):=jd hw hs (by rw[hp];simp);have h:=En (L:=λi (b:List ab)=>(qa Pf) c n w i b) (P:=AP B c w) (E:=eZ) (len:=n.Kids.length) (λi b=>b.length=2*i/\∃qs:List (ab×ab),b=(qs.flatMap λq=>[q.1,q.2])/\∀q∈qs,W c.l c.params q.1 (br 3)/\W c.l c.params q.2 (cX p)) (λi b hi hI k=>by
   show aw ((qa Pf) c n w i b) _ _;rw[Ty,vm,aI.aH,a7];have:decide (i<n.Kids.length)=true:=by simpa using hi
   obtain⟨e,he⟩:=bo hi;obtain⟨x,z,hxz,hx,hz⟩:=ih e (aV he);rw[this,aB,bf he,au,bW i (by omega),hxz,hp];refine aw.bK (v:=x) rfl (aw.bK (jx 3) ?_);refine aw.aU (hx (br 3) (.inr (bx.sort (by simp)))) (λu hu=>?_);have hlen:decide ((b++[ab.z]).length<=274877906944)=true:=by simp;omega
   rw[hlen,aB,ab.aH,mH,E8];have e1:(b++[ab.z])[b.length]? =some ab.z:=by simp
   refine aw.bK (oX e1) (aw.bK (v:=z) rfl (aw.bK (v:=p) rfl (aw.bK (of_eq p) ?_)));refine aw.aU (hz (cX p) (.inr hwp)) (λv hv=>?_);have hlen2:decide (((b++[u])++[ab.z]).length<=274877906944)=true:=by simp;omega
   have e2:(((ab.rows b++ab.rows [ab.z]).length:Nat):Int)=(((b++[u]).length:Nat):Int):=by
    rw[kp,ab.aH,ab.aH];simp
   have e3:((b++[u])++[ab.z])[(b++[u]).length]? =some ab.z:=by simp
   rw[hlen2,aB,e2];refine aw.bK (oX e3) ?_;rw[mH,E8];refine k _ ⟨by simp[hI.1];omega,?_⟩;obtain⟨qs,hb,hq⟩:=hI.2;refine⟨qs++[(u,v)],by rw[hb];simp,λq hm=>?_⟩;rcases b7.1 hm with hm|hm
   ·exact hq q hm
   ·simp at hm;subst hm;exact⟨hu.2.2.2,hv.2.2.2⟩) (λb hI=>by
   show aw ((qa Pf) c n w _ b) _ _;rw[Ty,vm,aI.aH,a7];have:decide (n.Kids.length<n.Kids.length)=false:=by simp
   rw[this,aC];obtain⟨hlb,qs,rfl,hq⟩:=hI;exact aw.ret ⟨hw,λa _=> .map hs hk (p:=p) (by show qs.length<=_;rw[Ep]at hlb;omega) (by rw[hp];rfl) (λq hm=>(hq q hm).1) (λq hm=>(hq q hm).2)⟩) 0 [] (by omega) ⟨rfl,[],rfl,by simp⟩
 exact h
include hB in
theorem aej {n:aI} {w:aQ} (hw:ff B w) (h51:n.Kind=51) (hs:ku n) (hn:n.Kids.length<=B) (ih:∀k∈ln n,EE B c k):aw ((f164 Pf) c n w) (AP B c w) eZ:=by
 have hs:(n.Text=ie->∀e∈n.Kids,e.Kids.length=2)/\(n.Text=ig->∀e∈n.Kids,e.Kids.length=1):=by
  unfold ku at hs;rcases hs with h|h|h|h|h
  ·omega
  ·omega
  ·omega
  ·omega
  ·exact h.2
 have s1:ff B (br 1):= .inr (bx.sort (by simp));have s2:ff B (br 2):= .inr (bx.sort (by simp));have s3:ff B (br 3):= .inr (bx.sort (by simp));have wty:∀ks:List Int,(0:Int)∉ks->(w.a6=0/\w.aD.Kind∈ks)->bx B w:=λks h0 h=>hw.some (hw.kind h.1 (λe=>h0 (by rw[<-e];exact h.2))).2.2;rw[ajT,B4];refine aw.bind (aaO n.Text) (λr hr=>?_);refine aw.bif (λh0=>?_) (λh0=>?_)
 ·have h0:0<=r:=by simpa using h0
  have nm:n.Text≠ie/\n.Text≠ig/\n.Text≠[115,101,116]:=by
   rcases hr with h|⟨_,h⟩|⟨_,h⟩|h
   ·omega
   ·rw[h];exact⟨by decide,by decide,by decide⟩
   ·rw[h];exact⟨by decide,by decide,by decide⟩
   ·exact⟨h.2.2.1,h.2.2.2.1,h.2.1⟩
  rw[VU nm.1 nm.2.1]at ih;refine aw.bif (λ_=>gG _ _) (λhl=>?_);have hl:r=(n.Kids.length:Int):=by rw[aI.aH]at hl;simpa using hl
  have one:n.Text≠[119,114,105,116,101]->n.Text≠[112,97,105,114]->∃x,n.Kids=[x]:=λh1 h2=>wA (by
   rcases hr with h|h|h|h
   ·omega
   ·exact absurd h.2 h1
   ·exact absurd h.2 h2
   ·omega)
  refine aw.bif (λht=>?_) (λ_=>?_)
  ·have ht:n.Text=[102,108,97,103]:=by simpa using ht
   obtain⟨x,hx⟩:=one (by rw[ht];decide) (by rw[ht];decide);rw[hx]at ih⊢;refine aw.dh (λ_ h=>h.ref) (rp (by simp)) (λ_ hk=>?_);refine aw.bK (v:=x) rfl (aw.bK (jx 2) ?_);refine aw.aU (ih x (by simp) (br 2) s2) (λy hy=>?_);exact aw.ret ⟨wty _ (by simp) hk,λa _=> .flag hk.1 (by simpa using hk.2) hy.2.2.2⟩
  refine aw.bif (λht=>?_) (λ_=>?_)
  ·have ht:n.Text=[110,117,109]:=by simpa using ht
   obtain⟨x,hx⟩:=one (by rw[ht];decide) (by rw[ht];decide);rw[hx]at ih⊢;refine aw.dh (λ_ h=>h.ref) (rp (by simp)) (λ_ hk=>?_);refine aw.bK (v:=x) rfl (aw.bK (jx 1) ?_);refine aw.aU (ih x (by simp) (br 1) s1) (λy hy=>?_);exact aw.ret ⟨wty _ (by simp) hk,λa _=> .num hk.1 (by simpa using hk.2) hy.2.2.2⟩
  refine aw.bif (λht=>absurd (by simpa using ht) nm.2.2) (λ_=>?_);refine aw.bif (λht=>absurd (eq_of_beq ht) nm.1) (λ_=>?_);refine aw.bif (λht=>absurd (eq_of_beq ht) nm.2.1) (λ_=>?_);refine aw.bif (λht=>?_) (λhp=>?_)
  ·have ht:n.Text=[112,97,105,114]:=by simpa using ht
   obtain⟨x,z,hx⟩:=ov (l:=n.Kids) (by
    rcases hr with h|h|h|h
    ·omega
    ·have:=h.2;rw[ht]at this;exact absurd this (by decide)
    ·omega
    ·exact absurd ht h.2.2.2.2.2)
   rw[hx]at ih⊢;refine aw.dh (λ_ h=>h.ref) (rp (by simp)) (λ_ hk=>?_);have hw':=wty _ (by simp) hk;have h7:w.aD.Kind=7:=by simpa using hk.2
   obtain⟨p,q,hp⟩:=As (hw'.dz hk.1).1 h7;rw[hp];refine aw.bK (v:=x) rfl (aw.bK (v:=p) rfl (aw.bK (of_eq p) ?_));refine aw.aU (ih x (by simp) _ (.inr (jd hw' hk.1 (by rw[hp];simp)))) (λu hu=>?_);refine aw.bif (λ_=>?_) (λe=>absurd e (by simp));refine aw.bK (v:=ab.z) rfl (aw.bK (v:=z) rfl (aw.bK (v:=q) rfl (aw.bK (of_eq q) ?_)));refine aw.aU (ih z (by simp) _ (.inr (jd hw' hk.1 (by rw[hp];simp)))) (λv hv=>?_);refine aw.bif (λ_=>?_) (λe=>absurd e (by simp));refine aw.bK (v:=ab.z) rfl ?_;exact aw.ret ⟨hw',λa _=> .pair hk.1 h7 (p:=p) (q:=q) (by rw[hp];rfl) (by rw[hp];rfl) hu.2.2.2 hv.2.2.2⟩
  have hp:n.Text≠[112,97,105,114]:=by simpa using hp
  refine aw.bif (λht=>?_) (λ_=>?_)
  ·have ht:n.Text=[111,110,101]:=by simpa using ht
   obtain⟨x,hx⟩:=one (by rw[ht];decide) (by rw[ht];decide);rw[hx]at ih⊢;refine aw.dh (λ_ h=>h.ref) (rp (by simp)) (λ_ hk=>?_);refine aw.bK (v:=x) rfl (aw.bK (jx 3) ?_);refine aw.aU (ih x (by simp) (br 3) s3) (λy hy=>?_);exact aw.ret ⟨wty _ (by simp) hk,λa _=> .one hk.1 (by simpa using hk.2) hy.2.2.2⟩
  refine aw.bif (λht=>?_) (λhwr=>?_)
  ·have ht:n.Text=[119,114,105,116,101]:=by simpa using ht
   obtain⟨x,y,z,hx⟩:=KD (l:=n.Kids) (by
    rcases hr with h|h|h|h
    ·omega
    ·omega
    ·have:=h.2;rw[ht]at this;exact absurd this (by decide)
    ·exact absurd ht h.2.2.2.2.1)
   rw[hx]at ih⊢;have wr:bx B (cX fI):=bx.of zm (E3 B);refine aw.bK (of_eq fI) (aw.bK (v:=x) rfl ?_);refine aw.aU (ih x (by simp) _ (.inr wr)) (λu hu=>?_);refine aw.bif (λ_=>?_) (λe=>absurd e (by simp));refine aw.bK (v:=ab.z) rfl (aw.bK (v:=y) rfl (aw.bK (jx 1) ?_));refine aw.aU (ih y (by simp) _ s1) (λv hv=>?_);refine aw.bif (λ_=>?_) (λe=>absurd e (by simp));refine aw.bK (v:=ab.z) rfl (aw.bK (v:=z) rfl (aw.bK (jx 3) ?_));refine aw.aU (ih z (by simp) _ s3) (λt ht=>?_);refine aw.bif (λ_=>?_) (λe=>absurd e (by simp));refine aw.bK (v:=ab.z) rfl ?_;exact aw.ret ⟨wr,λa hf=> .write hu.2.2.2 hv.2.2.2 ht.2.2.2 hf⟩
  obtain⟨x,hx⟩:=one (by simpa using hwr) hp;exact aw.aU (aa0 hx (ih x (by rw[hx];simp))) λy hy=>aw.ret hy
 ·have h0:r<0:=by simpa using h0
  have hm:n.Text=[115,101,116]\/n.Text=ie\/n.Text=ig:=by
   rcases hr with h|h|h|h
   ·exact h.2
   ·omega
   ·omega
   ·omega
  have no:∀t:List UInt8,t≠[115,101,116]->t≠ie->t≠ig->(n.Text==t)=true->False:=λt h1 h2 h3 e=>by
   have e:n.Text=t:=by simpa using e
   rw[e]at hm;rcases hm with h|h|h
   ·exact h1 h
   ·exact h2 h
   ·exact h3 h
  refine aw.bif (λht=>(no _ (by decide) (by decide) (by decide) ht).elim) (λ_=>?_);refine aw.bif (λht=>(no _ (by decide) (by decide) (by decide) ht).elim) (λ_=>?_);refine aw.bif (λht=>?_) (λhns=>?_)
  ·have ht:n.Text=[115,101,116]:=by simpa using ht
   rw[VU (by rw[ht];decide) (by rw[ht];decide)]at ih;refine aw.dh (λ_ h=>h.ref) (rp (by simp)) (λ_ hk=>?_);exact afv hB (wty _ (by simp) hk) hk.1 (by simpa using hk.2) hn ih
  refine aw.bif (λht=>?_) (λhnm=>?_)
  ·have ht:n.Text=ie:=eq_of_beq ht;rw[Wn h51 (.inl ht)]at ih;refine aw.dh (λ_ h=>h.ref) (rp (by simp)) (λ_ hk=>?_);refine afw hB (wty _ (by simp) hk) hk.1 (by simpa using hk.2) hn (λe he=>?_);obtain⟨a,b,hab⟩:=ov (hs.1 ht e he);exact⟨a,b,hab,ih a (gB.2 ⟨e,he,by rw[hab];simp⟩),ih b (gB.2 ⟨e,he,by rw[hab];simp⟩)⟩
  have ht:n.Text=ig:=by
   rcases hm with h|h|h
   ·rw[h]at hns;simp at hns
   ·rw[h]at hnm;simp[ie]at hnm
   ·exact h
  refine aw.bif (λ_=>?_) (λe=>by rw[ht]at e;simp[ig]at e);rw[Wn h51 (.inr ht)]at ih;refine aw.dh (λ_ h=>h.ref) (rp (by simp)) (λ_ hk=>?_);have hw':=wty _ (by simp) hk;have h6:w.aD.Kind=6:=by simpa using hk.2
  refine aw.aU (abX hB (hw'.dz hk.1).1 (hw'.dz hk.1).2 h6 hn (λe he=>?_)) (λy hy=>?_)
  ·obtain⟨a,ha⟩:=wA (hs.2 ht e he);exact⟨a,ha,ih a (gB.2 ⟨e,he,by rw[ha];simp⟩)⟩
  ·exact aw.ret ⟨hw',λa _=> .sT hk.1 h6 (by have ho:=(hw'.dz hk.1).2;rw[ag.dK]at ho;have:=ho.2.2.2.2.1.1;rw[hy.1];omega) hy.1 hy.2⟩
include hB in
theorem aa3 {n:aI} {w:aQ} (hw:ff B w) (hs:ku n) (hk:n.Kind=30\/n.Kind=36\/n.Kind=38\/n.Kind=39\/n.Kind=42\/n.Kind=43) (hW:∀k∈n.Kids,WN B k) (ih:∀k∈n.Kids,EE B c k):aw ((f165 Pf) c n w) (AP B c w) eZ:=by
 have s2:ff B (br 2):= .inr (bx.sort (by simp));rw[ajU,B6];refine aw.bK (jx 2) ?_;refine aw.bif (λh=>?_) (λn30=>?_)
 ·have h:n.Kind=30:=by simpa using h
  obtain⟨x,y,z,hx⟩:=KD (l:=n.Kids) (by unfold ku at hs;omega);rw[hx]at hW ih⊢;refine aw.bK (v:=x) rfl (aw.aU (ih x (by simp) _ s2) λu hu=>?_);refine aw.bK (E6 w) ?_;refine aw.bif (λhn=>?_) (λhn=>?_)
  ·have hn:isNone w=true:=hn;refine aw.bK (v:=y) rfl (aw.bK (v:=z) rfl ?_);refine aw.aU (HX (hW y (by simp)) (hW z (by simp)) (ih y (by simp)) (ih z (by simp))) (λr hr=>?_);rcases hr with⟨h1,h2,_⟩|⟨h1,h2,_⟩
   ·exact aw.ret ⟨h1.2.1,λa _=> .wJ hn hu.2.2.2 h1.2.2.2 h2.2.2.2⟩
   ·exact aw.ret ⟨h2.2.1,λa _=> .wK hn hu.2.2.2 h1.2.2.2 h2.2.2.2⟩
  ·have hn:isNone w=false:=hn;refine aw.bK (v:=y) rfl (aw.aU (ih y (by simp) _ hw) λv hv=>?_);refine aw.bK (v:=z) rfl (aw.aU (ih z (by simp) _ hw) λt ht=>?_);refine aw.ret ⟨hv.2.1,λa _=>?_⟩;show W c.l c.params ⟨7,v.aO,0,[],a,[u,v,t]⟩ w;rw[<-hv.2.2.1 hn];exact .sS hn hu.2.2.2 hv.2.2.2 ht.2.2.2
 refine aw.bif (λh=>?_) (λn36=>?_)
 ·have h:n.Kind=36:=by simpa using h
  obtain⟨x,y,hx⟩:=ov (l:=n.Kids) (by unfold ku at hs;omega);rw[hx]at ih⊢;refine aw.bK (v:=x) rfl (aw.aU (ih x (by simp) _ (.inl rfl)) λu hu=>?_);refine aw.bif (λ_=>aw.bK (v:=x) rfl (gG _ _)) (λhs0=>?_);refine aw.bK (v:=y) rfl (aw.aU (ih y (by simp) _ (.inr hu.2.1)) λv hv=>?_);exact aw.ret ⟨bx.sort (by simp),λa hf=> .equal hu.2.2.2 (by simpa using hs0) hv.2.2.2 hf⟩
 refine aw.bif (λh=>?_) (λn38=>?_)
 ·have h:n.Kind=38:=by simpa using h
  obtain⟨x,y,hx⟩:=ov (l:=n.Kids) (by unfold ku at hs;omega);rw[hx]at hW ih⊢;refine aw.bK (v:=x) rfl (aw.bK (v:=y) rfl ?_);refine aw.aU (HX (hW x (by simp)) (hW y (by simp)) (ih x (by simp)) (ih y (by simp))) (λr hr=>?_);rcases hr with⟨h1,h2,h3⟩|⟨h1,h2,h3⟩
  ·exact aw.ret ⟨bx.sort (by simp),λa hf=> .KV h1.2.2.2 (h3 rfl) h2.2.2.2 hf⟩
  ·exact aw.ret ⟨bx.sort (by simp),λa hf=> .KW h1.2.2.2 (h3 rfl) h2.2.2.2 hf⟩
 refine aw.bif (λh=>?_) (λn39=>?_)
 ·have h:n.Kind=39:=by simpa using h
  obtain⟨x,y,hx⟩:=ov (l:=n.Kids) (by unfold ku at hs;omega);refine aw.bK (E6 w) ?_;refine aw.bif (λhn=>?_) (λhn=>?_)
  ·have hn:isNone w=false:=by simpa using hn
   refine aw.bif (λ_=>gG _ _) (λhs0=>?_);refine aw.aU (RT hx (ih x (by rw[hx];simp)) (ih y (by rw[hx];simp)) hw hw) (λr hr=>?_);obtain⟨u,v,rfl,hu,hv⟩:=hr;exact aw.ret ⟨hw.some hn,λa _=> .sA hn (by simpa using hs0) hu.2.2.2 hv.2.2.2⟩
  ·have hn:isNone w=true:=by simpa using hn
   rw[hx]at hW ih⊢;refine aw.bK (v:=x) rfl (aw.bK (v:=y) rfl ?_);refine aw.aU (HX (hW x (by simp)) (hW y (by simp)) (ih x (by simp)) (ih y (by simp))) (λr hr=>?_);rcases hr with⟨h1,h2,h3⟩|⟨h1,h2,h3⟩
   ·exact aw.ret ⟨h1.2.1,λa hf=> .wm hn h1.2.2.2 (h3 rfl) h2.2.2.2⟩
   ·exact aw.ret ⟨h2.2.1,λa hf=> .wo hn h1.2.2.2 (h3 rfl) h2.2.2.2⟩
 refine aw.bif (λh=>?_) (λn42=>?_)
 ·have h:n.Kind=42:=by simpa using h
  obtain⟨x,hx⟩:=wA (l:=n.Kids) (by unfold ku at hs;omega);rw[hx]at ih⊢;refine aw.bK (v:=x) rfl (aw.aU (H9 (by simp) (ih x (by simp))) λu hu=>?_);have h6:u.aO.aD.Kind=6:=by simpa using hu.2.2
  have hl:=(hu.1.2.1.dz hu.2.1);have hnl:u.aO.aD.Names.length<=B:=by have:=hl.2;rw[ag.dK]at this;exact this.2.2.2.1.1
  refine aw.bK (EG _ _ (by omega)) ?_;refine aw.bif (λ_=>gG _ _) (λh2=>?_);obtain⟨j,t,hj,ht,_⟩:=H' (by simpa using h2);rw[hj];have hjl:=(cr.1 ht).1;obtain⟨p,hp⟩:=bo (l:=u.aO.aD.ai) (i:=j) (by rw[Vc hl.1 h6];exact hjl);refine aw.bK (oX hp) (aw.bK (of_eq p) ?_);exact aw.ret ⟨jd hu.1.2.1 hu.2.1 (aV hp),λa hf=> .field hu.1.2.2.2 hu.2.1 h6 hjl hp hf⟩
 have h:n.Kind=43:=by simp at n30 n36 n38 n39 n42;omega
 obtain⟨x,y,hx⟩:=ov (l:=n.Kids) (by unfold ku at hs;omega);rw[hx]at ih⊢;refine aw.bK (v:=x) rfl (aw.aU (H9 (by simp) (ih x (by simp))) λu hu=>?_);have h5:u.aO.aD.Kind=5:=by simpa using hu.2.2
 obtain⟨p,hp⟩:=vy (hu.1.2.1.dz hu.2.1).1 h5;refine aw.bK (v:=y) rfl (aw.bK (jx 3) (aw.aU (ih y (by simp) _ (.inr (bx.sort (by simp)))) λv hv=>?_));rw[hp];refine aw.bK (v:=p) rfl (aw.bK (of_eq p) ?_);exact aw.ret ⟨jd hu.1.2.1 hu.2.1 (by rw[hp];simp),λa hf=> .at_ hu.1.2.2.2 hu.2.1 h5 (by rw[hp];rfl) hv.2.2.2 hf⟩
include hB hc in
theorem afx {n:aI} {w:aQ} (hw:ff B w) (h:WN B n) (ih:∀k∈ln n,EE B c k):aw ((f116 Pf) c n w) (AP B c w) eZ:=by
 obtain⟨hs,hl,h44,h47,hk⟩:=h;have s1:ff B (br 1):= .inr (bx.sort (by simp));have s2:ff B (br 2):= .inr (bx.sort (by simp));have s3:ff B (br 3):= .inr (bx.sort (by simp));have s4:ff B (br 4):= .inr (bx.sort (by simp));have two:∀(op:Int) (a b t:aQ) (k:Int),n.Kind=k->31<=k/\k<=43/\k≠33/\k≠42->ff B a->ff B b->bx B t->(∀(u v:ab) (x:Int),W c.l c.params u a->W c.l c.params v b->Fit w t->W c.l c.params ⟨op,t,0,[],x,[u,v]⟩ w)->
   aw (Bw.aU ((f163 Pf) c op n a b t) λy=>some (.ret y)) (AP B c w) eZ:=by
  intro op a b t k hn hkk ha hb ht hW;obtain⟨x,y,hx⟩:=ov (l:=n.Kids) (by unfold ku at hs;omega);rw[FF (by omega),hx]at ih;refine aw.aU (RT hx (ih x (by simp)) (ih y (by simp)) ha hb) (λr hr=>?_);obtain⟨u,v,rfl,hu,hv⟩:=hr;exact aw.ret ⟨ht,λq hf=>hW u v q hu.2.2.2 hv.2.2.2 hf⟩
 rw[ajS,B3];refine aw.bK (jx 2) (aw.bK (jx 1) (aw.bK (jx 3) ?_));refine aw.bif (λh=>?_) (λ_=>?_)
 ·have:=h44 (by simpa using h);exact aw.ret ⟨bx.sort (by simp),λa hf=> .int this.1 this.2 hf⟩
 refine aw.bif (λ_=>aw.ret ⟨bx.sort (by simp),λa hf=> .bool (.inr rfl) hf⟩) (λ_=>?_);refine aw.bif (λ_=>aw.ret ⟨bx.sort (by simp),λa hf=> .bool (.inl rfl) hf⟩) (λ_=>?_);refine aw.bif (λh=>aw.ret ⟨bx.sort (by simp),λa hf=> .name (h47 (by simpa using h)) hf⟩) (λ_=>?_);refine aw.bif (λ_=>?_) (λ_=>?_)
 ·refine aw.bK (agl _ _ (by have:=hc.num;omega)) ?_;refine aw.bif (λ_=>gG _ _) (λh2=>?_);obtain⟨j,p,hj,hp,_⟩:=H' (by simpa using h2);rw[hj];refine aw.bK (oX hp) (aw.bK (jx _) ?_);exact aw.ret ⟨bx.sort (hc.par p (aV hp)),λa hf=> .param hp hf⟩
 refine aw.bif (λ_=>?_) (λ_=>?_)
 ·refine aw.bK (of_eq _) ?_;exact aw.ret ⟨bx.of hc.dz hc.ok,λa hf=> .state hf⟩
 refine aw.bif (λ_=>?_) (λ_=>?_)
 ·refine aw.bif (λ_=>gG _ _) (λh0=>?_);refine aw.bK (E6 w) ?_;refine aw.bif (λ_=>gG _ _) (λhn=>?_);exact aw.ret ⟨hw.some hn,λa hf=> .Aq (by simpa using h0) hn⟩
 refine aw.bif (λh=>two 8 _ _ _ 31 (by simpa using h) (by decide) s2 s2 (bx.sort (by simp)) (λu v x hu hv hf=> .conn (.inl rfl) hu hv hf)) (λ_=>?_);refine aw.bif (λh=>two 9 _ _ _ 32 (by simpa using h) (by decide) s2 s2 (bx.sort (by simp)) (λu v x hu hv hf=> .conn (.inr rfl) hu hv hf)) (λ_=>?_);refine aw.bif (λh=>?_) (λ_=>?_)
 ·have h:n.Kind=33:=by simpa using h
  obtain⟨x,hx⟩:=wA (l:=n.Kids) (by unfold ku at hs;omega);rw[FF (by omega),hx]at ih;rw[hx];refine aw.bK (v:=x) rfl (aw.aU (ih x (by simp) _ s2) λu hu=>?_);exact aw.ret ⟨bx.sort (by simp),λa hf=> .not hu.2.2.2 hf⟩
 refine aw.bif (λh=>two 11 _ _ _ 34 (by simpa using h) (by decide) s1 s1 (bx.sort (by simp)) (λu v x hu hv hf=> .less (.inl rfl) hu hv hf)) (λ_=>?_);refine aw.bif (λh=>two 12 _ _ _ 35 (by simpa using h) (by decide) s1 s1 (bx.sort (by simp)) (λu v x hu hv hf=> .less (.inr rfl) hu hv hf)) (λ_=>?_);refine aw.bif (λh=>aw.bK (jx 4) (two 14 _ _ _ 37 (by simpa using h) (by decide) s3 s4 (bx.sort (by simp)) (λu v x hu hv hf=> .KU hu hv hf))) (λ_=>?_);refine aw.bif (λh=>two 17 _ _ _ 40 (by simpa using h) (by decide) s1 s1 (bx.sort (by simp)) (λu v x hu hv hf=> .AZ (.inl rfl) hu hv hf)) (λ_=>?_);refine aw.bif (λh=>two 18 _ _ _ 41 (by simpa using h) (by decide) s1 s1 (bx.sort (by simp)) (λu v x hu hv hf=> .AZ (.inr rfl) hu hv hf)) (λ_=>?_);refine aw.bif (λh=>aw.aU (aej hB hw (by simpa using h) hs hl ih) λy hy=>aw.ret hy) (λh51=>?_);have h51:n.Kind≠51:=by simpa using h51
 rw[FF h51]at ih hk;refine aw.aU (aa3 hB hw hs ?_ hk ih) λy hy=>aw.ret hy;simp at*
 unfold ku at hs;omega
include hB hc in
theorem aei {n:aI} (h:WN B n):EE B c n:=by
 induction h with
 |mk hs hl h44 h47 hk ih=>exactλw hw=>afn hB hw (afx hB hc hw (.mk hs hl h44 h47 hk) ih)
end
inductive TT (B:Nat):ab->Prop
 |mk {y:ab}:bx B y.aO->(∀k∈y.Kids,TT B k)->TT B y
theorem TT.ty {B:Nat} {y:ab} (h:TT B y):bx B y.aO:=by cases h;assumption
theorem TT.bV {B:Nat} {y k:ab} (h:TT B y) (hk:k∈y.Kids):TT B k:=by cases h with|mk _ h=>exact h k hk
section
variable {B:Nat} {c:cI} (hc:CE B c)
include hc
theorem W.tt {y:ab} {w:aQ} (h:W c.l c.params y w):ff B w->TT B y:=by
 have s:∀n:Int,1<=n/\n<=4->ff B (br n):=λn hn=> .inr (bx.sort hn);have s0:ff B (br 0):= .inl rfl;have no:∀k∈([]:List ab),TT B k:=by simp
 have one:∀{x:ab},TT B x->∀k∈[x],TT B k:=λhx k hk=>by simp at hk;subst hk;exact hx
 have two:∀{x y:ab},TT B x->TT B y->∀k∈[x,y],TT B k:=λhx hy k hk=>by simp at hk;rcases hk with rfl|rfl<;>assumption
 have three:∀{x y z:ab},TT B x->TT B y->TT B z->∀k∈[x,y,z],TT B k:=λhx hy hz k hk=>by simp at hk;rcases hk with rfl|rfl|rfl<;>assumption
 have part:∀{t:aQ} {p:ag} {i:Nat},bx B t->t.a6=0->t.aD.ai[i]? =some p->bx B (cX p):=λht hs hp=>jd ht hs (aV hp)
 induction h with
 |int _ _ _=>exactλ_=> .mk (bx.sort (by simp)) no
 |bool _ _=>exactλ_=> .mk (bx.sort (by simp)) no
 |name _ _=>exactλ_=> .mk (bx.sort (by simp)) no
 |param hp _=>exactλ_=> .mk (bx.sort (hc.par _ (aV hp))) no
 |state _=>exactλ_=> .mk (bx.of hc.dz hc.ok) no
 |Aq _ hn=>exactλhw=> .mk (hw.some hn) no
 |sS hn _ _ _ i1 i2 i3=>exactλhw=> .mk (hw.some hn) (three (i1 (s 2 (by simp))) (i2 hw) (i3 hw))
 |wJ _ _ _ _ i1 i2 i3=>exactλ_=> .mk (i2 s0).ty (three (i1 (s 2 (by simp))) (i2 s0) (i3 (.inr (i2 s0).ty)))
 |wK _ _ _ _ i1 i2 i3=>exactλ_=> .mk (i3 (.inr (i2 s0).ty)).ty (three (i1 (s 2 (by simp))) (i3 (.inr (i2 s0).ty)) (i2 s0))
 |conn _ _ _ _ i1 i2=>exactλ_=> .mk (bx.sort (by simp)) (two (i1 (s 2 (by simp))) (i2 (s 2 (by simp))))
 |not _ _ i1=>exactλ_=> .mk (bx.sort (by simp)) (one (i1 (s 2 (by simp))))
 |less _ _ _ _ i1 i2=>exactλ_=> .mk (bx.sort (by simp)) (two (i1 (s 1 (by simp))) (i2 (s 1 (by simp))))
 |equal _ _ _ _ i1 i2=>exactλ_=> .mk (bx.sort (by simp)) (two (i1 s0) (i2 (.inr (i1 s0).ty)))
 |KU _ _ _ i1 i2=>exactλ_=> .mk (bx.sort (by simp)) (two (i1 (s 3 (by simp))) (i2 (s 4 (by simp))))
 |KV _ _ _ _ i1 i2=>exactλ_=> .mk (bx.sort (by simp)) (two (i1 s0) (i2 (.inr (i1 s0).ty)))
 |KW _ _ _ _ i1 i2=>exactλ_=> .mk (bx.sort (by simp)) (two (i2 (.inr (i1 s0).ty)) (i1 s0))
 |sA hn _ _ _ i1 i2=>exactλhw=> .mk (hw.some hn) (two (i1 hw) (i2 hw))
 |wm _ _ _ _ i1 i2=>exactλ_=> .mk (i1 s0).ty (two (i1 s0) (i2 (.inr (i1 s0).ty)))
 |wo _ _ _ _ i1 i2=>exactλ_=> .mk (i2 (.inr (i1 s0).ty)).ty (two (i2 (.inr (i1 s0).ty)) (i1 s0))
 |AZ _ _ _ _ i1 i2=>exactλ_=> .mk (bx.sort (by simp)) (two (i1 (s 1 (by simp))) (i2 (s 1 (by simp))))
 |field _ hs _ _ hp _ i1=>exactλ_=> .mk (part (i1 s0).ty hs hp) (one (i1 s0))
 |at_ _ hs _ hp _ _ i1 i2=>exactλ_=> .mk (part (i1 s0).ty hs hp) (two (i1 s0) (i2 (s 3 (by simp))))
 |flag h0 hk _ i1=>exactλhw=> .mk (hw.some (hw.kind h0 (by rw[hk];decide)).2.2) (one (i1 (s 2 (by simp))))
 |num h0 hk _ i1=>exactλhw=> .mk (hw.some (hw.kind h0 (by rcases hk with hk|hk<;>rw[hk]<;>decide)).2.2) (one (i1 (s 1 (by simp))))
 |KY h0 hk _ _ _ i1=>exactλhw=> .mk (hw.some (hw.kind h0 (by rcases hk with hk|hk<;>rw[hk]<;>decide)).2.2) (λk hm=>i1 k hm s0)
 |map h0 hk _ hp _ _ i1 i2=>
  intro hw;have hw':=hw.some (hw.kind h0 (by rw[hk];decide)).2.2;refine .mk hw' (λk hm=>?_);obtain⟨q,h1,h2⟩:=gB.1 hm;simp at h2;rcases h2 with rfl|rfl
  ·exact i1 q h1 (s 3 (by simp))
  ·exact i2 q h1 (.inr (part hw' h0 hp))
 |sT h0 hk _ hl _ i1=>
  intro hw;have hw':=hw.some (hw.kind h0 (by rw[hk];decide)).2.2;refine .mk hw' (λk hm=>?_);obtain⟨i,hi⟩:=jR hm;obtain⟨p,hp⟩:=bo (i:=i) (by rw[<-hl];exact(cr.1 hi).1);exact i1 i k p hi hp (.inr (part hw' h0 hp))
 |pair h0 hk hp hq _ _ i1 i2=>
  intro hw;have hw':=hw.some (hw.kind h0 (by rw[hk];decide)).2.2;exact .mk hw' (two (i1 (.inr (part hw' h0 hp))) (i2 (.inr (part hw' h0 hq))))
 |one h0 hk _ i1=>exactλhw=> .mk (hw.some (hw.kind h0 (by rw[hk];decide)).2.2) (one (i1 (s 3 (by simp))))
 |write _ _ _ _ i1 i2 i3=>exactλ_=> .mk (bx.of zm (E3 B)) (three (i1 (.inr (bx.of zm (E3 B)))) (i2 (s 1 (by simp))) (i3 (s 3 (by simp))))
 |size _ _ _ i1=>exactλ_=> .mk (bx.sort (by simp)) (one (i1 s0))
 |sum _ _ _ _ _ _ i1=>exactλ_=> .mk (bx.sort (by simp)) (one (i1 s0))
 |xz hm _ _ _ _ i1=>exactλ_=> .mk (bx.sort (by simp at hm;omega)) (one (i1 s0))
 |part _ _ hs _ hp _ i1=>exactλ_=> .mk (part (i1 s0).ty hs hp) (one (i1 s0))
end
open Classical in
noncomputable def fw {D:Type} (a b:D):Bool:=decide (a=b)
theorem rC {D:Type} {a b:D}:fw a b=true↔a=b:=by simp[fw]
theorem qx {D:Type} {a b:D} {r:Bool} (h:r=true↔a=b):r=fw a b:=by rw[nF,h,rC]
theorem Uz {D:Type}:∀{a b:List D},a.length=b.length->(a.zip b).all (λq=>fw q.1 q.2)=fw a b
 |[],[],_=>by simp[fw]
 |x::a,y::b,h=>by
  rw[DL,lx,Uz (by simpa using h)];apply qx;simp[rC]
 |[],_::_,h=>by simp at h
 |_::_,[],h=>by simp at h
section
variable {B:Nat} (hB:B<=1048576)
include hB
theorem aeh:∀a:ab,TT B a->∀b:ab,b.ok B->(f36 Pf) a b=some (fw a b):=by
 refine ab.ind λa ih ha b hb=>?_;rw[ab.dK]at hb;obtain⟨_,_,_,_,_,hkl,hkk⟩:=hb;have hkids:(FI Pf) a.Kids b.Kids=some (fw a.Kids b.Kids):=by
  rw[ago,Ax];simp only[ab.aH];by_cases h:a.Kids.length=b.Kids.length
  ·have h0:((a.Kids.length:Int) !=(b.Kids.length:Int))=false:=by simp[h]
   rw[h0];show(ug Pf) a.Kids b.Kids 0=_;rw[zG (a:=a.Kids) (b:=b.Kids) (L:=(ug Pf) a.Kids b.Kids) fw true h ?_ ?_]
   ·rw[q8,Uz h]
   ·intro i x y hx hy hi;rw[QV,uh,ab.aH,uv (by omega)];have h1:decide ((i:Int)<(a.Kids.length:Int))=true:=by simpa using hi
    have hx':=aV hx;rw[h1,bf hx,bf hy];show(((f36 Pf) x y).bind _)=_;rw[ih x hx' (ha.bV hx') y (ab.gH hkk (aV hy))];show(bif !(fw x y)then _ else _)=_;cases fw x y<;>rfl
   ·rw[QV,uh,ab.aH];simp
  ·have h0:((a.Kids.length:Int) !=(b.Kids.length:Int))=true:=by simp;omega
   rw[h0];show some false=_;congr 1;exact qx (by constructor;intro e;cases e;intro e;exact absurd (congrArg List.length e) h)
 have hty:(f81 Pf) a.aO b.aO=some (fw a.aO b.aO):=by
  obtain⟨r,e,hr⟩:=I6 (b:=b.aO) hB ha.ty.ok;rw[e,qx hr]
 rw[e36,Dd,hkids,hty];obtain⟨op,ty,n,t,at',ks⟩:=a;obtain⟨op',ty',n',t',at'',ks'⟩:=b;have e:fw (⟨op,ty,n,t,at',ks⟩:ab) ⟨op',ty',n',t',at'',ks'⟩=(op==op'&&(n==n'&&(t==t'&&(at'==at''&&(fw ty ty'&&fw ks ks'))))):=by
  symm;apply qx;simp only[bS,beq_iff_eq,rC,ab.mk.injEq];constructor
  ·rintro ⟨a,b,c,d,e,f⟩;exact⟨a,e,b,c,d,f⟩
  ·rintro ⟨a,e,b,c,d,f⟩;exact⟨a,b,c,d,e,f⟩
 rw[e];simp only[au];generalize (op==op')=c1;generalize (n==n')=c2;generalize (t==t')=c3;generalize (at'==at'')=c4;generalize fw ty ty'=c5;generalize fw ks ks'=c6;cases c1<;>cases c2<;>cases c3<;>cases c4<;>cases c5<;>cases c6<;>rfl
def sD (l:ag) (f:cw):aQ:=bif f.Result==0 then cX l else br f.Result
structure VF (B:Nat) (l:ag) (f:cw):Prop where
 ce:CE B ⟨l,f.Params⟩
 form:F2 f
 body:W l f.Params f.Body (sD l f)
 tt:TT B f.Body
theorem acW {l:ag} {f:cw} (hl:l.ok B) (hf:f.ok B):ae ((f12 Pf) l f) (λr=>r=true->VF B l f):=by
 obtain⟨hn,ho,⟨hpl,hp⟩,_,hb⟩:=hf;rw[e12,De];have no:ae (some false) (λr=>r=true->VF B l f):=ae.ret λe=>by cases e
 refine ae.bind (QU (by omega) hl) (λy1 h1=>?_);refine ae.bif (λ_=>no) (λe1=>?_);have hlat:cA l:=h1 (by simpa using e1);refine ae.bind (abZ (by omega) (by omega) (λp hm=>by have:=(hp p hm).1;omega)) (λy3 h3=>?_);refine ae.bif (λ_=>no) (λe3=>?_);have hform:F2 f:=h3 (by simpa using e3);have hce:CE B ⟨l,f.Params⟩:=⟨hlat,hl,λp hm=>by
  obtain⟨i,hi⟩:=jR hm;have:=hform.2.2.2.2.2 i p hi;exact⟨this.2.1,this.2.2.1⟩,hpl⟩
 refine ae.bind (adW hB f.Body hb) (λy5 h5=>?_);refine ae.bif (λ_=>no) (λe5=>?_);have hwn:=h5 (by simpa using e5);rw[afo,au];have hww:ff B (sD l f):=by
  unfold sD;cases h:f.Result==0 with
  |true=>exact .inr (bx.of hlat hl)
  |false=>
   have h0:f.Result≠0:=by simpa using h
   have:=hform.2.2.2;exact .inr (bx.sort (by omega))
 have hE:=aei hB hce hwn (sD l f) hww;refine ae.bind (P:=λr=>r.2.Code=0->EP B ⟨l,f.Params⟩ y5.1 (sD l f) r.1) ?_ (λy8 h8=>?_)
 ·rw[e34,Dc];refine ctF hE (λa b ha=>?_) (λy hy=>ae.ret λ_=>hy);exact ae.bif (λh=>ae.ret λe=>absurd e ha) (λh=>ae.ret λe=>absurd e ha)
 ·refine ae.bif (λh=>?_) (λ_=>no);have h8:=h8 (by simpa using h);have htt:=W.tt hce h8.2.2.2 hww;rw[aeh hB y8.1 htt f.Body hb,au];refine ae.ret λe=>?_;have e:=rC.1 e;rw[e]at h8 htt;exact⟨hce,hform,h8.2.2.2,htt⟩
