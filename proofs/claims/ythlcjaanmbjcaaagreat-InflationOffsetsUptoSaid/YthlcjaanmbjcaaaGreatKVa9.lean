/- The elaborator answers well-typed expressions, or a fault; types.Valid answers, and true only to well-typed functions. -/
import Derived.Test.YthlcjaanmbjcaaaGreatKVa6
set_option linter.all false
namespace Go.Proofs.YthlcjaanmbjcaaaGreat
open Go Go.Bw
theorem Kb (t:List UInt8):ae ((f130 Pf) t) (λr=>(r= -1/\(t=[115,101,116]\/t=eA\/t=eB))\/(r=3/\t=[119,114,105,116,101])\/(r=2/\t=[112,97,105,114])\/(r=1/\t≠[115,101,116]/\t≠eA/\t≠eB/\t≠[119,114,105,116,101]/\t≠[112,97,105,114])):=by
 rw[OR,qz]
 repeat' (first|refine ae.bif (λh=>?_) (λh=>?_)|refine ae.ret ?_)
 all_goals (simp at*;simp[eA,eB, *])
theorem G3 {n:aj} (h:n.Kind=51) (ht:n.Text=eA\/n.Text=eB):gu n=n.Kids.flatMap (·.Kids):=by
 rw[gu,h];rcases ht with e|e<;>rw[e]<;>rfl
theorem Gs {n:aj} (h1:n.Text≠eA) (h2:n.Text≠eB):gu n=n.Kids:=by
 have e1:(n.Text==eA)=false:=by simpa using h1
 have e2:(n.Text==eB)=false:=by simpa using h2
 rw[gu,e1,e2];simp
section
variable {B:Nat} (hB:B<=1048576) {c:bH} (hc:CE B c)
theorem lJ {ks:List Int} {w:aB} {n:aj} (hk:ks.length<9223372036854775807):ah ((f131 Pf) ks w n) (λ_=>w.aS=0/\w.aF.Kind∈ks) dj:=by
 rw[OU,qB];refine ah.bif (λ_=>eb _ _) (λhs=>?_);refine ah.aZ (xa ks _ hk) ?_;refine ah.bif (λ_=>eb _ _) (λhm=>ah.ret ⟨by simpa using hs,?_⟩);simp only[rU,BU,beq_iff_eq]at hm;obtain⟨k,h1,h2⟩:=hm;rw[h2];exact h1
include hB in
theorem MS {n:aj} {w:aB} (hw:bj B w) (hs:w.aS=0) (hk:w.aF.Kind=4\/w.aF.Kind=10) (hn:n.Kids.length<=B) (ih:∀k∈n.Kids,EE B c k):ah ((ju Pf) c n w 0 []) (AP B c w) dj:=by
 have h:=su (L:=λi (b:List ab)=>(ju Pf) c n w i b) (P:=AP B c w) (E:=dj) (len:=n.Kids.length) (λi b=>b.length=i/\∀x∈b,W c.l c.params x (a7 0)/\(x.aA.aS=3\/x.aA.aS=4)) (λi b hi hI k=>by
   show ah ((ju Pf) c n w i b) _ _;rw[EW,nr,aj.a8,bO];have:decide (i<n.Kids.length)=true:=by simpa using hi
   obtain⟨e,he⟩:=b3 hi;rw[this,bZ,b0 he,aP,cI i (by omega)];refine ah.aG (ih e (bV he) (a7 0) (.inl rfl)) (λy hy=>?_);have hlen:decide ((b++[ab.z]).length<=274877906944)=true:=by simp;omega
   rw[hlen,bZ,ab.a8,si,lC,tc];have e1:(b++[ab.z])[b.length]? =some ab.z:=by simp
   have e2:IntKind.i64.wrap ((((ab.rows b++ab.rows [ab.z]).length:Nat):Int)-1)=(b.length:Int):=by
    rw[ly,ab.a8,ab.a8,wrap64 (by simp<;>omega) (by simp<;>omega)];simp
   have e3:(b++[y])[b.length]? =some y:=by simp
   rw[e1,aP,e2,si,e3,aP];have go:(y.aA.aS=3\/y.aA.aS=4)->ah ((ju Pf) c n w ((i+1:Nat):Int) (b++[y])) (AP B c w) dj:=λhsy=>by
    refine k _ ⟨by simp[hI.1],λx hx=>?_⟩;rcases ck.1 hx with hx|hx
    ·exact hI.2 x hx
    ·simp at hx;subst hx;exact⟨hy.2.2.2,hsy⟩
   refine ah.bif (λ_=>?_) (λh=>go (.inl (by simpa using h)));exact ah.bif (λ_=>eb _ _) (λh=>go (.inr (by simpa using h)))) (λb hI=>by
   show ah ((ju Pf) c n w _ b) _ _;rw[EW,nr,aj.a8,bO];have:decide (n.Kids.length<n.Kids.length)=false:=by simp
   rw[this,cw];exact ah.ret ⟨hw,λa _=> .Ho hs hk (λx hx=>(hI.2 x hx).1) (λx hx=>(hI.2 x hx).2)⟩) 0 [] (by omega) ⟨rfl,by simp⟩
 exact h
include hB in
theorem MT {n:aj} {w:aB} (hw:bj B w) (hs:w.aS=0) (hk:w.aF.Kind=5) (hn:n.Kids.length<=B) (ih:∀e∈n.Kids,∃a b,e.Kids=[a,b]/\EE B c a/\EE B c b):ah ((kP Pf) c n w 0 []) (AP B c w) dj:=by
 obtain⟨p,hp⟩:=xz (hw.ej hs).1 hk;have hwp:bj B (bG p):=kQ hw hs (by rw[hp];simp);have h:=su (L:=λi (b:List ab)=>(kP Pf) c n w i b) (P:=AP B c w) (E:=dj) (len:=n.Kids.length) (λi b=>b.length=2*i/\∃qs:List (ab×ab),b=(qs.flatMap λq=>[q.1,q.2])/\∀q∈qs,W c.l c.params q.1 (a7 3)/\W c.l c.params q.2 (bG p)) (λi b hi hI k=>by
   show ah ((kP Pf) c n w i b) _ _;rw[EX,nw,aj.a8,bO];have:decide (i<n.Kids.length)=true:=by simpa using hi
   obtain⟨e,he⟩:=b3 hi;obtain⟨x,z,hxz,hx,hz⟩:=ih e (bV he);rw[this,bZ,b0 he,aP,cI i (by omega),hxz,hp];refine ah.aZ (v:=x) rfl (ah.aZ (ec 3) ?_);refine ah.aG (hx (a7 3) (.inr (bj.sort (by simp)))) (λu hu=>?_);have hlen:decide ((b++[ab.z]).length<=274877906944)=true:=by simp;omega
   rw[hlen,bZ,ab.a8,lC,tc];have e1:(b++[ab.z])[b.length]? =some ab.z:=by simp
   refine ah.aZ (jQ e1) (ah.aZ (v:=z) rfl (ah.aZ (v:=p) rfl (ah.aZ (of_eq p) ?_)));refine ah.aG (hz (bG p) (.inr hwp)) (λv hv=>?_);have hlen2:decide (((b++[u])++[ab.z]).length<=274877906944)=true:=by simp;omega
   have e2:(((ab.rows b++ab.rows [ab.z]).length:Nat):Int)=(((b++[u]).length:Nat):Int):=by
    rw[ly,ab.a8,ab.a8];simp
   have e3:((b++[u])++[ab.z])[(b++[u]).length]? =some ab.z:=by simp
   rw[hlen2,bZ,e2];refine ah.aZ (jQ e3) ?_;rw[lC,tc];refine k _ ⟨by simp[hI.1];omega,?_⟩;obtain⟨qs,hb,hq⟩:=hI.2;refine⟨qs++[(u,v)],by rw[hb];simp,λq hm=>?_⟩;rcases ck.1 hm with hm|hm
   ·exact hq q hm
   ·simp at hm;subst hm;exact⟨hu.2.2.2,hv.2.2.2⟩) (λb hI=>by
   show ah ((kP Pf) c n w _ b) _ _;rw[EX,nw,aj.a8,bO];have:decide (n.Kids.length<n.Kids.length)=false:=by simp
   rw[this,cw];obtain⟨_,qs,rfl,hq⟩:=hI;exact ah.ret ⟨hw,λa _=> .map hs hk (p:=p) (by rw[hp];rfl) (λq hm=>(hq q hm).1) (λq hm=>(hq q hm).2)⟩) 0 [] (by omega) ⟨rfl,[],rfl,by simp⟩
 exact h
include hB in
theorem L0 {n:aj} {w:aB} (hw:cR B w) (h51:n.Kind=51) (hs:fO n) (hn:n.Kids.length<=B) (ih:∀k∈gu n,EE B c k):ah ((f123 Pf) c n w) (AP B c w) dj:=by
 have hs:(n.Text=eA->∀e∈n.Kids,e.Kids.length=2)/\(n.Text=eB->∀e∈n.Kids,e.Kids.length=1):=by
  unfold fO at hs;rcases hs with h|h|h|h|h
  ·omega
  ·omega
  ·omega
  ·omega
  ·exact h.2
 have s1:cR B (a7 1):= .inr (bj.sort (by simp));have s2:cR B (a7 2):= .inr (bj.sort (by simp));have s3:cR B (a7 3):= .inr (bj.sort (by simp));have wty:∀ks:List Int,(0:Int)∉ks->(w.aS=0/\w.aF.Kind∈ks)->bj B w:=λks h0 h=>hw.some (hw.kind h.1 (λe=>h0 (by rw[<-e];exact h.2))).2.2;rw[O0,qG];refine ah.bind (Kb n.Text) (λr hr=>?_);refine ah.bif (λh0=>?_) (λh0=>?_)
 ·have h0:0<=r:=by simpa using h0
  have nm:n.Text≠eA/\n.Text≠eB/\n.Text≠[115,101,116]:=by
   rcases hr with h|⟨_,h⟩|⟨_,h⟩|h
   ·omega
   ·rw[h];exact⟨by decide,by decide,by decide⟩
   ·rw[h];exact⟨by decide,by decide,by decide⟩
   ·exact⟨h.2.2.1,h.2.2.2.1,h.2.1⟩
  rw[Gs nm.1 nm.2.1]at ih;refine ah.bif (λ_=>eb _ _) (λhl=>?_);have hl:r=(n.Kids.length:Int):=by rw[aj.a8]at hl;simpa using hl
  have one:n.Text≠[119,114,105,116,101]->n.Text≠[112,97,105,114]->∃x,n.Kids=[x]:=λh1 h2=>qk (by
   rcases hr with h|h|h|h
   ·omega
   ·exact absurd h.2 h1
   ·exact absurd h.2 h2
   ·omega)
  refine ah.bif (λht=>?_) (λ_=>?_)
  ·have ht:n.Text=[102,108,97,103]:=by simpa using ht
   obtain⟨x,hx⟩:=one (by rw[ht];decide) (by rw[ht];decide);rw[hx]at ih⊢;refine ah.b7 (λ_ h=>h.ref) (lJ (by simp)) (λ_ hk=>?_);refine ah.aZ (v:=x) rfl (ah.aZ (ec 2) ?_);refine ah.aG (ih x (by simp) (a7 2) s2) (λy hy=>?_);exact ah.ret ⟨wty _ (by simp) hk,λa _=> .flag hk.1 (by simpa using hk.2) hy.2.2.2⟩
  refine ah.bif (λht=>?_) (λ_=>?_)
  ·have ht:n.Text=[110,117,109]:=by simpa using ht
   obtain⟨x,hx⟩:=one (by rw[ht];decide) (by rw[ht];decide);rw[hx]at ih⊢;refine ah.b7 (λ_ h=>h.ref) (lJ (by simp)) (λ_ hk=>?_);refine ah.aZ (v:=x) rfl (ah.aZ (ec 1) ?_);refine ah.aG (ih x (by simp) (a7 1) s1) (λy hy=>?_);exact ah.ret ⟨wty _ (by simp) hk,λa _=> .num hk.1 (by simpa using hk.2) hy.2.2.2⟩
  refine ah.bif (λht=>absurd (by simpa using ht) nm.2.2) (λ_=>?_);refine ah.bif (λht=>absurd (eq_of_beq ht) nm.1) (λ_=>?_);refine ah.bif (λht=>absurd (eq_of_beq ht) nm.2.1) (λ_=>?_);refine ah.bif (λht=>?_) (λhp=>?_)
  ·have ht:n.Text=[112,97,105,114]:=by simpa using ht
   obtain⟨x,z,hx⟩:=jX (l:=n.Kids) (by
    rcases hr with h|h|h|h
    ·omega
    ·have:=h.2;rw[ht]at this;exact absurd this (by decide)
    ·omega
    ·exact absurd ht h.2.2.2.2.2)
   rw[hx]at ih⊢;refine ah.b7 (λ_ h=>h.ref) (lJ (by simp)) (λ_ hk=>?_);have hw':=wty _ (by simp) hk;have h7:w.aF.Kind=7:=by simpa using hk.2
   obtain⟨p,q,hp⟩:=xA (hw'.ej hk.1).1 h7;rw[hp];refine ah.aZ (v:=x) rfl (ah.aZ (v:=p) rfl (ah.aZ (of_eq p) ?_));refine ah.aG (ih x (by simp) _ (.inr (kQ hw' hk.1 (by rw[hp];simp)))) (λu hu=>?_);refine ah.bif (λ_=>?_) (λe=>absurd e (by simp));refine ah.aZ (v:=ab.z) rfl (ah.aZ (v:=z) rfl (ah.aZ (v:=q) rfl (ah.aZ (of_eq q) ?_)));refine ah.aG (ih z (by simp) _ (.inr (kQ hw' hk.1 (by rw[hp];simp)))) (λv hv=>?_);refine ah.bif (λ_=>?_) (λe=>absurd e (by simp));refine ah.aZ (v:=ab.z) rfl ?_;exact ah.ret ⟨hw',λa _=> .pair hk.1 h7 (p:=p) (q:=q) (by rw[hp];rfl) (by rw[hp];rfl) hu.2.2.2 hv.2.2.2⟩
  have hp:n.Text≠[112,97,105,114]:=by simpa using hp
  refine ah.bif (λht=>?_) (λ_=>?_)
  ·have ht:n.Text=[111,110,101]:=by simpa using ht
   obtain⟨x,hx⟩:=one (by rw[ht];decide) (by rw[ht];decide);rw[hx]at ih⊢;refine ah.b7 (λ_ h=>h.ref) (lJ (by simp)) (λ_ hk=>?_);refine ah.aZ (v:=x) rfl (ah.aZ (ec 3) ?_);refine ah.aG (ih x (by simp) (a7 3) s3) (λy hy=>?_);exact ah.ret ⟨wty _ (by simp) hk,λa _=> .one hk.1 (by simpa using hk.2) hy.2.2.2⟩
  refine ah.bif (λht=>?_) (λhwr=>?_)
  ·have ht:n.Text=[119,114,105,116,101]:=by simpa using ht
   obtain⟨x,y,z,hx⟩:=xV (l:=n.Kids) (by
    rcases hr with h|h|h|h
    ·omega
    ·omega
    ·have:=h.2;rw[ht]at this;exact absurd this (by decide)
    ·exact absurd ht h.2.2.2.2.1)
   rw[hx]at ih⊢;have wr:bj B (bG eZ):=bj.of wk (wY B);refine ah.aZ (of_eq eZ) (ah.aZ (v:=x) rfl ?_);refine ah.aG (ih x (by simp) _ (.inr wr)) (λu hu=>?_);refine ah.bif (λ_=>?_) (λe=>absurd e (by simp));refine ah.aZ (v:=ab.z) rfl (ah.aZ (v:=y) rfl (ah.aZ (ec 1) ?_));refine ah.aG (ih y (by simp) _ s1) (λv hv=>?_);refine ah.bif (λ_=>?_) (λe=>absurd e (by simp));refine ah.aZ (v:=ab.z) rfl (ah.aZ (v:=z) rfl (ah.aZ (ec 3) ?_));refine ah.aG (ih z (by simp) _ s3) (λt ht=>?_);refine ah.bif (λ_=>?_) (λe=>absurd e (by simp));refine ah.aZ (v:=ab.z) rfl ?_;exact ah.ret ⟨wr,λa hf=> .write hu.2.2.2 hv.2.2.2 ht.2.2.2 hf⟩
  obtain⟨x,hx⟩:=one (by simpa using hwr) hp;exact ah.aG (Kl hx (ih x (by rw[hx];simp))) λy hy=>ah.ret hy
 ·have h0:r<0:=by simpa using h0
  have hm:n.Text=[115,101,116]\/n.Text=eA\/n.Text=eB:=by
   rcases hr with h|h|h|h
   ·exact h.2
   ·omega
   ·omega
   ·omega
  have no:∀t:List UInt8,t≠[115,101,116]->t≠eA->t≠eB->(n.Text==t)=true->False:=λt h1 h2 h3 e=>by
   have e:n.Text=t:=by simpa using e
   rw[e]at hm;rcases hm with h|h|h
   ·exact h1 h
   ·exact h2 h
   ·exact h3 h
  refine ah.bif (λht=>(no _ (by decide) (by decide) (by decide) ht).elim) (λ_=>?_);refine ah.bif (λht=>(no _ (by decide) (by decide) (by decide) ht).elim) (λ_=>?_);refine ah.bif (λht=>?_) (λhns=>?_)
  ·have ht:n.Text=[115,101,116]:=by simpa using ht
   rw[Gs (by rw[ht];decide) (by rw[ht];decide)]at ih;refine ah.b7 (λ_ h=>h.ref) (lJ (by simp)) (λ_ hk=>?_);exact MS hB (wty _ (by simp) hk) hk.1 (by simpa using hk.2) hn ih
  refine ah.bif (λht=>?_) (λhnm=>?_)
  ·have ht:n.Text=eA:=eq_of_beq ht;rw[G3 h51 (.inl ht)]at ih;refine ah.b7 (λ_ h=>h.ref) (lJ (by simp)) (λ_ hk=>?_);refine MT hB (wty _ (by simp) hk) hk.1 (by simpa using hk.2) hn (λe he=>?_);obtain⟨a,b,hab⟩:=jX (hs.1 ht e he);exact⟨a,b,hab,ih a (fe.2 ⟨e,he,by rw[hab];simp⟩),ih b (fe.2 ⟨e,he,by rw[hab];simp⟩)⟩
  have ht:n.Text=eB:=by
   rcases hm with h|h|h
   ·rw[h]at hns;simp at hns
   ·rw[h]at hnm;simp[eA]at hnm
   ·exact h
  refine ah.bif (λ_=>?_) (λe=>by rw[ht]at e;simp[eB]at e);rw[G3 h51 (.inr ht)]at ih;refine ah.b7 (λ_ h=>h.ref) (lJ (by simp)) (λ_ hk=>?_);have hw':=wty _ (by simp) hk;have h6:w.aF.Kind=6:=by simpa using hk.2
  refine ah.aG (K0 hB (hw'.ej hk.1).1 (hw'.ej hk.1).2 h6 hn (λe he=>?_)) (λy hy=>?_)
  ·obtain⟨a,ha⟩:=qk (hs.2 ht e he);exact⟨a,ha,ih a (fe.2 ⟨e,he,by rw[ha];simp⟩)⟩
  ·exact ah.ret ⟨hw',λa _=> .Hq hk.1 h6 hy.1 hy.2⟩
include hB in
theorem Km {n:aj} {w:aB} (hw:cR B w) (hs:fO n) (hk:n.Kind=30\/n.Kind=36\/n.Kind=38\/n.Kind=39\/n.Kind=42\/n.Kind=43) (hW:∀k∈n.Kids,WN B k) (ih:∀k∈n.Kids,EE B c k):ah ((f124 Pf) c n w) (AP B c w) dj:=by
 have s2:cR B (a7 2):= .inr (bj.sort (by simp));rw[Ht,oE];refine ah.aZ (ec 2) ?_;refine ah.bif (λh=>?_) (λn30=>?_)
 ·have h:n.Kind=30:=by simpa using h
  obtain⟨x,y,z,hx⟩:=xV (l:=n.Kids) (by unfold fO at hs;omega);rw[hx]at hW ih⊢;refine ah.aZ (v:=x) rfl (ah.aG (ih x (by simp) _ s2) λu hu=>?_);refine ah.aZ (nA w) ?_;refine ah.bif (λhn=>?_) (λhn=>?_)
  ·have hn:isNone w=true:=hn;refine ah.aZ (v:=y) rfl (ah.aZ (v:=z) rfl ?_);refine ah.aG (ve (hW y (by simp)) (hW z (by simp)) (ih y (by simp)) (ih z (by simp))) (λr hr=>?_);rcases hr with⟨h1,h2,_⟩|⟨h1,h2,_⟩
   ·exact ah.ret ⟨h1.2.1,λa _=> .Hh hn hu.2.2.2 h1.2.2.2 h2.2.2.2⟩
   ·exact ah.ret ⟨h2.2.1,λa _=> .Hk hn hu.2.2.2 h1.2.2.2 h2.2.2.2⟩
  ·have hn:isNone w=false:=hn;refine ah.aZ (v:=y) rfl (ah.aG (ih y (by simp) _ hw) λv hv=>?_);refine ah.aZ (v:=z) rfl (ah.aG (ih z (by simp) _ hw) λt ht=>?_);refine ah.ret ⟨hv.2.1,λa _=>?_⟩;show W c.l c.params ⟨7,v.aA,0,[],a,[u,v,t]⟩ w;rw[<-hv.2.2.1 hn];exact .Hg hn hu.2.2.2 hv.2.2.2 ht.2.2.2
 refine ah.bif (λh=>?_) (λn36=>?_)
 ·have h:n.Kind=36:=by simpa using h
  obtain⟨x,y,hx⟩:=jX (l:=n.Kids) (by unfold fO at hs;omega);rw[hx]at ih⊢;refine ah.aZ (v:=x) rfl (ah.aG (ih x (by simp) _ (.inl rfl)) λu hu=>?_);refine ah.bif (λ_=>ah.aZ (v:=x) rfl (eb _ _)) (λhs0=>?_);refine ah.aZ (v:=y) rfl (ah.aG (ih y (by simp) _ (.inr hu.2.1)) λv hv=>?_);exact ah.ret ⟨bj.sort (by simp),λa hf=> .equal hu.2.2.2 (by simpa using hs0) hv.2.2.2 hf⟩
 refine ah.bif (λh=>?_) (λn38=>?_)
 ·have h:n.Kind=38:=by simpa using h
  obtain⟨x,y,hx⟩:=jX (l:=n.Kids) (by unfold fO at hs;omega);rw[hx]at hW ih⊢;refine ah.aZ (v:=x) rfl (ah.aZ (v:=y) rfl ?_);refine ah.aG (ve (hW x (by simp)) (hW y (by simp)) (ih x (by simp)) (ih y (by simp))) (λr hr=>?_);rcases hr with⟨h1,h2,h3⟩|⟨h1,h2,h3⟩
  ·exact ah.ret ⟨bj.sort (by simp),λa hf=> .Hm h1.2.2.2 (h3 rfl) h2.2.2.2 hf⟩
  ·exact ah.ret ⟨bj.sort (by simp),λa hf=> .Hn h1.2.2.2 (h3 rfl) h2.2.2.2 hf⟩
 refine ah.bif (λh=>?_) (λn39=>?_)
 ·have h:n.Kind=39:=by simpa using h
  obtain⟨x,y,hx⟩:=jX (l:=n.Kids) (by unfold fO at hs;omega);refine ah.aZ (nA w) ?_;refine ah.bif (λhn=>?_) (λhn=>?_)
  ·have hn:isNone w=false:=by simpa using hn
   refine ah.bif (λ_=>eb _ _) (λhs0=>?_);refine ah.aG (El hx (ih x (by rw[hx];simp)) (ih y (by rw[hx];simp)) hw hw) (λr hr=>?_);obtain⟨u,v,rfl,hu,hv⟩:=hr;exact ah.ret ⟨hw.some hn,λa _=> .GW hn (by simpa using hs0) hu.2.2.2 hv.2.2.2⟩
  ·have hn:isNone w=true:=by simpa using hn
   rw[hx]at hW ih⊢;refine ah.aZ (v:=x) rfl (ah.aZ (v:=y) rfl ?_);refine ah.aG (ve (hW x (by simp)) (hW y (by simp)) (ih x (by simp)) (ih y (by simp))) (λr hr=>?_);rcases hr with⟨h1,h2,h3⟩|⟨h1,h2,h3⟩
   ·exact ah.ret ⟨h1.2.1,λa hf=> .GX hn h1.2.2.2 (h3 rfl) h2.2.2.2⟩
   ·exact ah.ret ⟨h2.2.1,λa hf=> .GY hn h1.2.2.2 (h3 rfl) h2.2.2.2⟩
 refine ah.bif (λh=>?_) (λn42=>?_)
 ·have h:n.Kind=42:=by simpa using h
  obtain⟨x,hx⟩:=qk (l:=n.Kids) (by unfold fO at hs;omega);rw[hx]at ih⊢;refine ah.aZ (v:=x) rfl (ah.aG (vm (by simp) (ih x (by simp))) λu hu=>?_);have h6:u.aA.aF.Kind=6:=by simpa using hu.2.2
  have hl:=(hu.1.2.1.ej hu.2.1);have hnl:u.aA.aF.Names.length<=B:=by have:=hl.2;rw[af.dv]at this;exact this.2.2.2.1.1
  refine ah.aZ (wh _ _ (by omega)) ?_;refine ah.bif (λ_=>eb _ _) (λh2=>?_);obtain⟨j,t,hj,ht,_⟩:=vn (by simpa using h2);rw[hj];have hjl:=(cT.1 ht).1;obtain⟨p,hp⟩:=b3 (l:=u.aA.aF.az) (i:=j) (by rw[Gt hl.1 h6];exact hjl);refine ah.aZ (jQ hp) (ah.aZ (of_eq p) ?_);exact ah.ret ⟨kQ hu.1.2.1 hu.2.1 (bV hp),λa hf=> .field hu.1.2.2.2 hu.2.1 h6 hjl hp hf⟩
 have h:n.Kind=43:=by simp at n30 n36 n38 n39 n42;omega
 obtain⟨x,y,hx⟩:=jX (l:=n.Kids) (by unfold fO at hs;omega);rw[hx]at ih⊢;refine ah.aZ (v:=x) rfl (ah.aG (vm (by simp) (ih x (by simp))) λu hu=>?_);have h5:u.aA.aF.Kind=5:=by simpa using hu.2.2
 obtain⟨p,hp⟩:=xz (hu.1.2.1.ej hu.2.1).1 h5;refine ah.aZ (v:=y) rfl (ah.aZ (ec 3) (ah.aG (ih y (by simp) _ (.inr (bj.sort (by simp)))) λv hv=>?_));rw[hp];refine ah.aZ (v:=p) rfl (ah.aZ (of_eq p) ?_);exact ah.ret ⟨kQ hu.1.2.1 hu.2.1 (by rw[hp];simp),λa hf=> .at_ hu.1.2.2.2 hu.2.1 h5 (by rw[hp];rfl) hv.2.2.2 hf⟩
include hB hc in
theorem MU {n:aj} {w:aB} (hw:cR B w) (h:WN B n) (ih:∀k∈gu n,EE B c k):ah ((f101 Pf) c n w) (AP B c w) dj:=by
 obtain⟨hs,hl,h44,h47,hk⟩:=h;have s1:cR B (a7 1):= .inr (bj.sort (by simp));have s2:cR B (a7 2):= .inr (bj.sort (by simp));have s3:cR B (a7 3):= .inr (bj.sort (by simp));have s4:cR B (a7 4):= .inr (bj.sort (by simp));have two:∀(op:Int) (a b t:aB) (k:Int),n.Kind=k->31<=k/\k<=43/\k≠33/\k≠42->cR B a->cR B b->bj B t->(∀(u v:ab) (x:Int),W c.l c.params u a->W c.l c.params v b->Fit w t->W c.l c.params ⟨op,t,0,[],x,[u,v]⟩ w)->
   ah (Bw.aG ((f122 Pf) c op n a b t) λy=>some (.ret y)) (AP B c w) dj:=by
  intro op a b t k hn hkk ha hb ht hW;obtain⟨x,y,hx⟩:=jX (l:=n.Kids) (by unfold fO at hs;omega);rw[tB (by omega),hx]at ih;refine ah.aG (El hx (ih x (by simp)) (ih y (by simp)) ha hb) (λr hr=>?_);obtain⟨u,v,rfl,hu,hv⟩:=hr;exact ah.ret ⟨ht,λq hf=>hW u v q hu.2.2.2 hv.2.2.2 hf⟩
 rw[Hr,oC];refine ah.aZ (ec 2) (ah.aZ (ec 1) (ah.aZ (ec 3) ?_));refine ah.bif (λh=>?_) (λ_=>?_)
 ·have:=h44 (by simpa using h);exact ah.ret ⟨bj.sort (by simp),λa hf=> .int this.1 this.2 hf⟩
 refine ah.bif (λ_=>ah.ret ⟨bj.sort (by simp),λa hf=> .bool (.inr rfl) hf⟩) (λ_=>?_);refine ah.bif (λ_=>ah.ret ⟨bj.sort (by simp),λa hf=> .bool (.inl rfl) hf⟩) (λ_=>?_);refine ah.bif (λh=>ah.ret ⟨bj.sort (by simp),λa hf=> .name (h47 (by simpa using h)) hf⟩) (λ_=>?_);refine ah.bif (λ_=>?_) (λ_=>?_)
 ·refine ah.aZ (NM _ _ (by have:=hc.num;omega)) ?_;refine ah.bif (λ_=>eb _ _) (λh2=>?_);obtain⟨j,p,hj,hp,_⟩:=vn (by simpa using h2);rw[hj];refine ah.aZ (jQ hp) (ah.aZ (ec _) ?_);exact ah.ret ⟨bj.sort (hc.par p (bV hp)),λa hf=> .param hp hf⟩
 refine ah.bif (λ_=>?_) (λ_=>?_)
 ·refine ah.aZ (of_eq _) ?_;exact ah.ret ⟨bj.of hc.ej hc.ok,λa hf=> .state hf⟩
 refine ah.bif (λ_=>?_) (λ_=>?_)
 ·refine ah.bif (λ_=>eb _ _) (λh0=>?_);refine ah.aZ (nA w) ?_;refine ah.bif (λ_=>eb _ _) (λhn=>?_);exact ah.ret ⟨hw.some hn,λa hf=> .xj (by simpa using h0) hn⟩
 refine ah.bif (λh=>two 8 _ _ _ 31 (by simpa using h) (by decide) s2 s2 (bj.sort (by simp)) (λu v x hu hv hf=> .conn (.inl rfl) hu hv hf)) (λ_=>?_);refine ah.bif (λh=>two 9 _ _ _ 32 (by simpa using h) (by decide) s2 s2 (bj.sort (by simp)) (λu v x hu hv hf=> .conn (.inr rfl) hu hv hf)) (λ_=>?_);refine ah.bif (λh=>?_) (λ_=>?_)
 ·have h:n.Kind=33:=by simpa using h
  obtain⟨x,hx⟩:=qk (l:=n.Kids) (by unfold fO at hs;omega);rw[tB (by omega),hx]at ih;rw[hx];refine ah.aZ (v:=x) rfl (ah.aG (ih x (by simp) _ s2) λu hu=>?_);exact ah.ret ⟨bj.sort (by simp),λa hf=> .not hu.2.2.2 hf⟩
 refine ah.bif (λh=>two 11 _ _ _ 34 (by simpa using h) (by decide) s1 s1 (bj.sort (by simp)) (λu v x hu hv hf=> .less (.inl rfl) hu hv hf)) (λ_=>?_);refine ah.bif (λh=>two 12 _ _ _ 35 (by simpa using h) (by decide) s1 s1 (bj.sort (by simp)) (λu v x hu hv hf=> .less (.inr rfl) hu hv hf)) (λ_=>?_);refine ah.bif (λh=>ah.aZ (ec 4) (two 14 _ _ _ 37 (by simpa using h) (by decide) s3 s4 (bj.sort (by simp)) (λu v x hu hv hf=> .Hl hu hv hf))) (λ_=>?_);refine ah.bif (λh=>two 17 _ _ _ 40 (by simpa using h) (by decide) s1 s1 (bj.sort (by simp)) (λu v x hu hv hf=> .yB (.inl rfl) hu hv hf)) (λ_=>?_);refine ah.bif (λh=>two 18 _ _ _ 41 (by simpa using h) (by decide) s1 s1 (bj.sort (by simp)) (λu v x hu hv hf=> .yB (.inr rfl) hu hv hf)) (λ_=>?_);refine ah.bif (λh=>ah.aG (L0 hB hw (by simpa using h) hs hl ih) λy hy=>ah.ret hy) (λh51=>?_);have h51:n.Kind≠51:=by simpa using h51
 rw[tB h51]at ih hk;refine ah.aG (Km hB hw hs ?_ hk ih) λy hy=>ah.ret hy;simp at*
 unfold fO at hs;omega
include hB hc in
theorem wq {n:aj} (h:WN B n):EE B c n:=by
 induction h with
 |mk hs hl h44 h47 hk ih=>exactλw hw=>MV hB hw (MU hB hc hw (.mk hs hl h44 h47 hk) ih)
end
inductive TT (B:Nat):ab->Prop
 |mk {y:ab}:bj B y.aA->(∀k∈y.Kids,TT B k)->TT B y
theorem TT.ty {B:Nat} {y:ab} (h:TT B y):bj B y.aA:=by cases h;assumption
theorem TT.kz {B:Nat} {y k:ab} (h:TT B y) (hk:k∈y.Kids):TT B k:=by cases h with|mk _ h=>exact h k hk
section
variable {B:Nat} {c:bH} (hc:CE B c)
include hc
theorem W.tt {y:ab} {w:aB} (h:W c.l c.params y w):cR B w->TT B y:=by
 have s:∀n:Int,1<=n/\n<=4->cR B (a7 n):=λn hn=> .inr (bj.sort hn);have s0:cR B (a7 0):= .inl rfl;have no:∀k∈([]:List ab),TT B k:=by simp
 have one:∀{x:ab},TT B x->∀k∈[x],TT B k:=λhx k hk=>by simp at hk;subst hk;exact hx
 have two:∀{x y:ab},TT B x->TT B y->∀k∈[x,y],TT B k:=λhx hy k hk=>by simp at hk;rcases hk with rfl|rfl<;>assumption
 have three:∀{x y z:ab},TT B x->TT B y->TT B z->∀k∈[x,y,z],TT B k:=λhx hy hz k hk=>by simp at hk;rcases hk with rfl|rfl|rfl<;>assumption
 have part:∀{t:aB} {p:af} {i:Nat},bj B t->t.aS=0->t.aF.az[i]? =some p->bj B (bG p):=λht hs hp=>kQ ht hs (bV hp)
 induction h with
 |int _ _ _=>exactλ_=> .mk (bj.sort (by simp)) no
 |bool _ _=>exactλ_=> .mk (bj.sort (by simp)) no
 |name _ _=>exactλ_=> .mk (bj.sort (by simp)) no
 |param hp _=>exactλ_=> .mk (bj.sort (hc.par _ (bV hp))) no
 |state _=>exactλ_=> .mk (bj.of hc.ej hc.ok) no
 |xj _ hn=>exactλhw=> .mk (hw.some hn) no
 |Hg hn _ _ _ i1 i2 i3=>exactλhw=> .mk (hw.some hn) (three (i1 (s 2 (by simp))) (i2 hw) (i3 hw))
 |Hh _ _ _ _ i1 i2 i3=>exactλ_=> .mk (i2 s0).ty (three (i1 (s 2 (by simp))) (i2 s0) (i3 (.inr (i2 s0).ty)))
 |Hk _ _ _ _ i1 i2 i3=>exactλ_=> .mk (i3 (.inr (i2 s0).ty)).ty (three (i1 (s 2 (by simp))) (i3 (.inr (i2 s0).ty)) (i2 s0))
 |conn _ _ _ _ i1 i2=>exactλ_=> .mk (bj.sort (by simp)) (two (i1 (s 2 (by simp))) (i2 (s 2 (by simp))))
 |not _ _ i1=>exactλ_=> .mk (bj.sort (by simp)) (one (i1 (s 2 (by simp))))
 |less _ _ _ _ i1 i2=>exactλ_=> .mk (bj.sort (by simp)) (two (i1 (s 1 (by simp))) (i2 (s 1 (by simp))))
 |equal _ _ _ _ i1 i2=>exactλ_=> .mk (bj.sort (by simp)) (two (i1 s0) (i2 (.inr (i1 s0).ty)))
 |Hl _ _ _ i1 i2=>exactλ_=> .mk (bj.sort (by simp)) (two (i1 (s 3 (by simp))) (i2 (s 4 (by simp))))
 |Hm _ _ _ _ i1 i2=>exactλ_=> .mk (bj.sort (by simp)) (two (i1 s0) (i2 (.inr (i1 s0).ty)))
 |Hn _ _ _ _ i1 i2=>exactλ_=> .mk (bj.sort (by simp)) (two (i2 (.inr (i1 s0).ty)) (i1 s0))
 |GW hn _ _ _ i1 i2=>exactλhw=> .mk (hw.some hn) (two (i1 hw) (i2 hw))
 |GX _ _ _ _ i1 i2=>exactλ_=> .mk (i1 s0).ty (two (i1 s0) (i2 (.inr (i1 s0).ty)))
 |GY _ _ _ _ i1 i2=>exactλ_=> .mk (i2 (.inr (i1 s0).ty)).ty (two (i2 (.inr (i1 s0).ty)) (i1 s0))
 |yB _ _ _ _ i1 i2=>exactλ_=> .mk (bj.sort (by simp)) (two (i1 (s 1 (by simp))) (i2 (s 1 (by simp))))
 |field _ hs _ _ hp _ i1=>exactλ_=> .mk (part (i1 s0).ty hs hp) (one (i1 s0))
 |at_ _ hs _ hp _ _ i1 i2=>exactλ_=> .mk (part (i1 s0).ty hs hp) (two (i1 s0) (i2 (s 3 (by simp))))
 |flag h0 hk _ i1=>exactλhw=> .mk (hw.some (hw.kind h0 (by rw[hk];decide)).2.2) (one (i1 (s 2 (by simp))))
 |num h0 hk _ i1=>exactλhw=> .mk (hw.some (hw.kind h0 (by rcases hk with hk|hk<;>rw[hk]<;>decide)).2.2) (one (i1 (s 1 (by simp))))
 |Ho h0 hk _ _ i1=>exactλhw=> .mk (hw.some (hw.kind h0 (by rcases hk with hk|hk<;>rw[hk]<;>decide)).2.2) (λk hm=>i1 k hm s0)
 |map h0 hk hp _ _ i1 i2=>
  intro hw;have hw':=hw.some (hw.kind h0 (by rw[hk];decide)).2.2;refine .mk hw' (λk hm=>?_);obtain⟨q,h1,h2⟩:=fe.1 hm;simp at h2;rcases h2 with rfl|rfl
  ·exact i1 q h1 (s 3 (by simp))
  ·exact i2 q h1 (.inr (part hw' h0 hp))
 |Hq h0 hk hl _ i1=>
  intro hw;have hw':=hw.some (hw.kind h0 (by rw[hk];decide)).2.2;refine .mk hw' (λk hm=>?_);obtain⟨i,hi⟩:=gA hm;obtain⟨p,hp⟩:=b3 (i:=i) (by rw[<-hl];exact(cT.1 hi).1);exact i1 i k p hi hp (.inr (part hw' h0 hp))
 |pair h0 hk hp hq _ _ i1 i2=>
  intro hw;have hw':=hw.some (hw.kind h0 (by rw[hk];decide)).2.2;exact .mk hw' (two (i1 (.inr (part hw' h0 hp))) (i2 (.inr (part hw' h0 hq))))
 |one h0 hk _ i1=>exactλhw=> .mk (hw.some (hw.kind h0 (by rw[hk];decide)).2.2) (one (i1 (s 3 (by simp))))
 |write _ _ _ _ i1 i2 i3=>exactλ_=> .mk (bj.of wk (wY B)) (three (i1 (.inr (bj.of wk (wY B)))) (i2 (s 1 (by simp))) (i3 (s 3 (by simp))))
 |size _ _ _ i1=>exactλ_=> .mk (bj.sort (by simp)) (one (i1 s0))
 |sum _ _ _ _ _ _ i1=>exactλ_=> .mk (bj.sort (by simp)) (one (i1 s0))
 |Il hm _ _ _ _ i1=>exactλ_=> .mk (bj.sort (by simp at hm;omega)) (one (i1 s0))
 |part _ _ hs _ hp _ i1=>exactλ_=> .mk (part (i1 s0).ty hs hp) (one (i1 s0))
end
open Classical in
noncomputable def eV {D:Type} (a b:D):Bool:=decide (a=b)
theorem pM {D:Type} {a b:D}:eV a b=true↔a=b:=by simp[eV]
theorem tA {D:Type} {a b:D} {r:Bool} (h:r=true↔a=b):r=eV a b:=by rw[kF,h,pM]
theorem Fe {D:Type}:∀{a b:List D},a.length=b.length->(a.zip b).all (λq=>eV q.1 q.2)=eV a b
 |[],[],_=>by simp[eV]
 |x::a,y::b,h=>by
  rw[u2,gS,Fe (by simpa using h)];apply tA;simp[pM]
 |[],_::_,h=>by simp at h
 |_::_,[],h=>by simp at h
section
variable {B:Nat} (hB:B<=1048576)
include hB
theorem wm:∀a:ab,TT B a->∀b:ab,b.ok B->(f50 Pf) a b=some (eV a b):=by
 refine ab.ind λa ih ha b hb=>?_;rw[ab.dv]at hb;obtain⟨_,_,_,_,_,hkl,hkk⟩:=hb;have hkids:(tx Pf) a.Kids b.Kids=some (eV a.Kids b.Kids):=by
  rw[NK,pZ];simp only[ab.a8];by_cases h:a.Kids.length=b.Kids.length
  ·have h0:((a.Kids.length:Int) !=(b.Kids.length:Int))=false:=by simp[h]
   rw[h0];show(m6 Pf) a.Kids b.Kids 0=_;rw[sJ (a:=a.Kids) (b:=b.Kids) (L:=(m6 Pf) a.Kids b.Kids) eV true h ?_ ?_]
   ·rw[uR,Fe h]
   ·intro i x y hx hy hi;rw[DL,m7,ab.a8,py (by omega)];have h1:decide ((i:Int)<(a.Kids.length:Int))=true:=by simpa using hi
    have hx':=bV hx;rw[h1,b0 hx,b0 hy];show(((f50 Pf) x y).bind _)=_;rw[ih x hx' (ha.kz hx') y (ab.gf hkk (bV hy))];show(bif !(eV x y)then _ else _)=_;cases eV x y<;>rfl
   ·rw[DL,m7,ab.a8];simp
  ·have h0:((a.Kids.length:Int) !=(b.Kids.length:Int))=true:=by simp;omega
   rw[h0];show some false=_;congr 1;exact tA (by constructor;intro e;cases e;intro e;exact absurd (congrArg List.length e) h)
 have hty:(f55 Pf) a.aA b.aA=some (eV a.aA b.aA):=by
  obtain⟨r,e,hr⟩:=pA (b:=b.aA) hB ha.ty.ok;rw[e,tA hr]
 rw[Qz,rC,hkids,hty];obtain⟨op,ty,n,t,at',ks⟩:=a;obtain⟨op',ty',n',t',at'',ks'⟩:=b;have e:eV (⟨op,ty,n,t,at',ks⟩:ab) ⟨op',ty',n',t',at'',ks'⟩=(op==op'&&(n==n'&&(t==t'&&(at'==at''&&(eV ty ty'&&eV ks ks'))))):=by
  symm;apply tA;simp only[bn,beq_iff_eq,pM,ab.mk.injEq];constructor
  ·rintro ⟨a,b,c,d,e,f⟩;exact⟨a,e,b,c,d,f⟩
  ·rintro ⟨a,e,b,c,d,f⟩;exact⟨a,b,c,d,e,f⟩
 rw[e];simp only[aP];generalize (op==op')=c1;generalize (n==n')=c2;generalize (t==t')=c3;generalize (at'==at'')=c4;generalize eV ty ty'=c5;generalize eV ks ks'=c6;cases c1<;>cases c2<;>cases c3<;>cases c4<;>cases c5<;>cases c6<;>rfl
def qg (l:af) (f:bl):aB:=bif f.Result==0 then bG l else a7 f.Result
structure VF (B:Nat) (l:af) (f:bl):Prop where
 ce:CE B ⟨l,f.Params⟩
 form:qh f
 body:W l f.Params f.Body (qg l f)
 tt:TT B f.Body
theorem Lv {l:af} {f:bl} (hl:l.ok B) (hf:f.ok B):ae ((f28 Pf) l f) (λr=>r=true->VF B l f):=by
 obtain⟨hn,ho,⟨hpl,hp⟩,_,hb⟩:=hf;rw[Ac,mG];have no:ae (some false) (λr=>r=true->VF B l f):=ae.ret λe=>by cases e
 refine ae.bind (DK (by omega) hl) (λy1 h1=>?_);refine ae.bif (λ_=>no) (λe1=>?_);have hlat:dp l:=h1 (by simpa using e1);refine ae.bind (vE (by omega) (by omega) (λp hm=>by have:=(hp p hm).1;omega)) (λy3 h3=>?_);refine ae.bif (λ_=>no) (λe3=>?_);have hform:qh f:=h3 (by simpa using e3);have hce:CE B ⟨l,f.Params⟩:=⟨hlat,hl,λp hm=>by
  obtain⟨i,hi⟩:=gA hm;have:=hform.2.2.2.2.2 i p hi;exact⟨this.2.1,this.2.2.1⟩,hpl⟩
 refine ae.bind (wo hB f.Body hb) (λy5 h5=>?_);refine ae.bif (λ_=>no) (λe5=>?_);have hwn:=h5 (by simpa using e5);rw[wZ,aP];have hww:cR B (qg l f):=by
  unfold qg;cases h:f.Result==0 with
  |true=>exact .inr (bj.of hlat hl)
  |false=>
   have h0:f.Result≠0:=by simpa using h
   have:=hform.2.2.2;exact .inr (bj.sort (by omega))
 have hE:=wq hB hce hwn (qg l f) hww;refine ae.bind (P:=λr=>r.2.Code=0->EP B ⟨l,f.Params⟩ y5.1 (qg l f) r.1) ?_ (λy8 h8=>?_)
 ·rw[Ab,mF];refine QB hE (λa b ha=>?_) (λy hy=>ae.ret λ_=>hy);exact ae.bif (λh=>ae.ret λe=>absurd e ha) (λh=>ae.ret λe=>absurd e ha)
 ·refine ae.bif (λh=>?_) (λ_=>no);have h8:=h8 (by simpa using h);have htt:=W.tt hce h8.2.2.2 hww;rw[wm hB y8.1 htt f.Body hb,aP];refine ae.ret λe=>?_;have e:=pM.1 e;rw[e]at h8 htt;exact⟨hce,hform,h8.2.2.2,htt⟩
