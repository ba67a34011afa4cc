/- Trees of expressions that are well formed; types.bare answers, and what it answers is one. -/
import Derived.Test.YthlcjaanmbjcaaaGreatKVa1
set_option linter.all false
section
namespace Go.Proofs.YthlcjaanmbjcaaaGreat
open Go Go.Bw
def eA:List UInt8:=[109,97,112]
def eB:List UInt8:=[114,101,99]
def gu (n:aj):List aj:=bif n.Kind==51&&(n.Text==eA||n.Text==eB)then n.Kids.flatMap (·.Kids)else n.Kids
def fO (n:aj):Prop:=
 (n.Kind=30/\n.Kids.length=3)\/((n.Kind=33\/n.Kind=42)/\n.Kids.length=1)\/
 ((31<=n.Kind/\n.Kind<=43/\n.Kind≠33/\n.Kind≠42)/\n.Kids.length=2)\/(44<=n.Kind/\n.Kind<=50)\/
 (n.Kind=51/\(n.Text=eA->∀e∈n.Kids,e.Kids.length=2)/\(n.Text=eB->∀e∈n.Kids,e.Kids.length=1))
inductive WN (B:Nat):aj->Prop
 |mk {n:aj}:fO n->n.Kids.length<=B->(n.Kind=44-> -1000000000000000<=n.N/\n.N<=1000000000000000)->(n.Kind=47->NV n.Text)->(∀k∈gu n,WN B k)->WN B n
theorem tc {D:Type} (l:List D) (z y:D):(l++[z]).set l.length y=l++[y]:=by simp
theorem ab.ind {P:ab->Prop} (h:∀x:ab,(∀k∈x.Kids,P k)->P x):∀x,P x:=by
 intro x;refine ab.rec (motive_1:=P) (motive_2:=λks=>∀k∈ks,P k) ?_ ?_ ?_ x
 ·intro op ty n t a ks ih;exact h ⟨op,ty,n,t,a,ks⟩ ih
 ·intro k hk;cases hk
 ·intro k ks h1 h2 x hx;rcases cL.1 hx with rfl|hx
  ·exact h1
  ·exact h2 x hx
theorem mb {B:Nat} {n:aj} (h:44<=n.Kind/\n.Kind<=50) (hk:n.Kids=[]) (h1:n.Kind=44-> -1000000000000000<=n.N/\n.N<=1000000000000000) (h2:n.Kind=47->NV n.Text):WN B n:=by
 refine .mk (.inr (.inr (.inr (.inl h)))) (by rw[hk];simp) h1 h2 λk hm=>?_;have:(n.Kind==51)=false:=by simp;omega
 rw[gu,this,hk]at hm;simp at hm
variable {B:Nat} (hB:B<=1048576)
theorem L6 {ps:List TParam} {x:ab} (hx:x.Text.length<9223372036854775807):ae ((f66 Pf) ps x) (λr=>r.2=true->WN B r.1):=by
 rw[Im,oU,ab.a8,TParam.a8];have no:∀n:aj,ae (some (n,false)) (λr=>r.2=true->WN B r.1):=λn=>ae.ret λe=>by cases e
 refine ae.bif (λ_=>no _) (λ_=>?_);refine ae.bif (λ_=>?_) (λ_=>?_)
 ·refine ae.bif (λh1=>?_) (λ_=>no _);refine ae.bif (λh2=>?_) (λ_=>no _);refine ae.ret λ_=>mb (by simp) rfl (λ_=>?_) (λe=>by simp at e);simp at h1 h2;exact⟨h1,h2⟩
 refine ae.bif (λ_=>?_) (λ_=>?_)
 ·refine ae.bif (λ_=>ae.ret λ_=>mb (by simp) rfl (λe=>by simp at e) (λe=>by simp at e)) (λ_=>?_);exact ae.bif (λ_=>ae.ret λ_=>mb (by simp) rfl (λe=>by simp at e) (λe=>by simp at e)) (λ_=>no _)
 refine ae.bif (λ_=>?_) (λ_=>?_)
 ·rw[pB _ hx,aP];exact ae.bif (λh=>ae.ret λ_=>mb (by simp) rfl (λe=>by simp at e) (λ_=>ML.1 h)) (λ_=>no _)
 refine ae.bif (λ_=>?_) (λ_=>no _);refine ae.bif (λh1=>?_) (λ_=>no _);refine ae.bif (λh2=>?_) (λ_=>no _);refine ae.bind (ae.idx (by simpa using h1) (by simpa using h2)) (λy _=>?_);exact ae.ret λ_=>mb (by simp) rfl (λe=>by simp at e) (λe=>by simp at e)
theorem Kc (op:Int):ae ((f67 Pf) op) (λr=>r.1≠0->(r.1=30/\r.2=3)\/((r.1=33\/r.1=42)/\r.2=1)\/((31<=r.1/\r.1<=43/\r.1≠33/\r.1≠42)/\r.2=2)\/((r.1=49\/r.1=50)/\r.2=0)):=by
 rw[Io,oV]
 repeat' (first|refine ae.bif (λ_=>?_) (λ_=>?_)|refine ae.ret ?_)
 all_goals simp
theorem LB (op:Int):ae ((f68 Pf) op) (λr=>(r=eA↔op=24)/\(r=eB↔op=25)):=by
 rw[Qt,ry]
 repeat' (first|refine ae.bif (λh=>?_) (λh=>?_)|refine ae.ret ?_)
 all_goals (simp at*;simp[eA,eB, *])
include hB
theorem Kw {x:ab} {ks:List aj} {y:List UInt8} (hy:y=eA) (he:ks.length%2=0) (hl:ks.length<=B) (hk:∀k∈ks,WN B k):ae ((kZ Pf) x ks y [] 0) (λr=>r.2=true->WN B r.1):=by
 have h:=jO (L:=λi (b:List aj)=>(kZ Pf) x ks y b (2*i)) (P:=λr=>r.2=true->WN B r.1) (len:=ks.length/2) (λi b=>b.length=i/\∀e∈b,e.Kids.length=2/\∀k∈e.Kids,WN B k) (λi b hi hI k=>by
   show ae ((kZ Pf) x ks y b _) _;have e0:(2*(i:Int))=((2*i:Nat):Int):=by omega
   rw[FX,nU,aj.a8,e0,bO];have:decide (2*i<ks.length)=true:=by simp;omega
   obtain⟨p,hp⟩:=b3 (by omega:2*i<ks.length);obtain⟨q,hq⟩:=b3 (by omega:2*i+1<ks.length);have e2:IntKind.i64.wrap (((2*i:Nat):Int)+2)=2*((i+1:Nat):Int):=by rw[wrap64 (by omega) (by omega)];omega
   rw[this,bZ,b0 hp,aP,cI _ (by omega),b0 hq,aP,e2];have hlen:decide ((b++[({Kind:=52,Text:=[],N:=0,At:=0,Kids:=[p,q]}:aj)]).length<=274877906944)=true:=by simp;omega
   rw[hlen,bZ];refine k _ ⟨by simp[hI.1],λe hm=>?_⟩;rcases ck.1 hm with hm|hm
   ·exact hI.2 e hm
   ·simp at hm;subst hm;refine⟨rfl,λz hz=>?_⟩;simp at hz;rcases hz with rfl|rfl
    ·exact hk _ (bV hp)
    ·exact hk _ (bV hq)) (λb hI=>by
   show ae ((kZ Pf) x ks y b _) _;have e0:(2*((ks.length/2:Nat):Int))=((ks.length:Nat):Int):=by omega
   rw[FX,nU,aj.a8,e0,bO];have:decide (ks.length<ks.length)=false:=by simp
   rw[this,cw];refine ae.ret λ_=> .mk (.inr (.inr (.inr (.inr ⟨rfl,λ_ e he=>(hI.2 e he).1,λe=>?_⟩)))) (by show b.length<=B;omega) (λe=>by simp at e) (λe=>by simp at e) λk hm=>?_
   ·have e:y=eB:=e;rw[hy]at e;exact absurd e (by decide)
   ·have:((y==eA)=true):=by simp[hy]
    simp only[gu]at hm;rw[this]at hm;simp at hm;obtain⟨e,h1,h2⟩:=hm;exact(hI.2 e h1).2 k h2) 0 [] (by omega) ⟨rfl,by simp⟩
 simpa using h
theorem K2 {x:ab} {ks:List aj} {y:List UInt8} (hy:y=eB) (he:x.aA.aF.Names.length=ks.length) (hl:ks.length<=B) (hk:∀k∈ks,WN B k):ae ((iM Pf) x ks y [] 0) (λr=>r.2=true->WN B r.1):=by
 have h:=jO (L:=λi (b:List aj)=>(iM Pf) x ks y b i) (P:=λr=>r.2=true->WN B r.1) (len:=ks.length) (λi b=>b.length<=i/\∀e∈b,e.Kids.length=1/\∀k∈e.Kids,WN B k) (λi b hi hI k=>by
   show ae ((iM Pf) x ks y b _) _;rw[FY,nV,aj.a8,bO];have:decide (i<ks.length)=true:=by simpa using hi
   obtain⟨p,hp⟩:=b3 hi;obtain⟨t,ht⟩:=b3 (by omega:i<x.aA.aF.Names.length);rw[this,bZ,b0 hp,aP,b0 ht,cI i (by omega)];simp only[aP];have hlen:decide ((b++[({Kind:=52,Text:=t,N:=0,At:=0,Kids:=[p]}:aj)]).length<=274877906944)=true:=by simp;omega
   rw[hlen];simp only[bZ];have more:ae ((iM Pf) x ks y (b++[{Kind:=52,Text:=t,N:=0,At:=0,Kids:=[p]}]) ((i+1:Nat):Int)) (λr=>r.2=true->WN B r.1):=by
    refine k _ ⟨by simp;omega,λe hm=>?_⟩;rcases ck.1 hm with hm|hm
    ·exact hI.2 e hm
    ·simp at hm;subst hm;refine⟨rfl,λz hz=>?_⟩;simp at hz;subst hz;exact hk _ (bV hp)
   refine ae.bif (λ_=>more) (λ_=>ae.bif (λ_=>more) (λ_=>k b ⟨by omega,hI.2⟩))) (λb hI=>by
   show ae ((iM Pf) x ks y b _) _;rw[FY,nV,aj.a8,bO];have:decide (ks.length<ks.length)=false:=by simp
   rw[this,cw];refine ae.ret λ_=> .mk (.inr (.inr (.inr (.inr ⟨rfl,λe=>?_,λ_ e he=>(hI.2 e he).1⟩)))) (by show b.length<=B;omega) (λe=>by simp at e) (λe=>by simp at e) λk hm=>?_
   ·have e:y=eA:=e;rw[hy]at e;exact absurd e (by decide)
   ·have:((y==eB)=true):=by simp[hy]
    simp only[gu]at hm;rw[this]at hm;simp at hm;obtain⟨e,h1,h2⟩:=hm;exact(hI.2 e h1).2 k h2) 0 [] (by omega) ⟨by simp,by simp⟩
 simpa using h
theorem wo {ps:List TParam}:∀x:ab,x.ok B->ae ((f47 Pf) ps x) (λr=>r.2=true->WN B r.1):=by
 refine ab.ind λx ih hx=>?_;rw[ab.dv]at hx;obtain⟨_,_,_,ht,_,hkl,hkk⟩:=hx;rw[Ip,oW];refine ae.bind (L6 (B:=B) (by omega)) (λy hy=>?_);refine ae.bif (λh=>ae.ret λ_=>hy h) (λ_=>?_);have no:∀n:aj,ae (some (n,false)) (λr=>r.2=true->WN B r.1):=λn=>ae.ret λe=>by cases e
 have h:=jO (L:=λi (b:List aj)=>(iN Pf) ps x false i b) (P:=λr=>r.2=true->WN B r.1) (len:=x.Kids.length) (λi b=>b.length=i/\∀k∈b,WN B k) (λi b hi hI k=>by
   show ae ((iN Pf) ps x false i b) _;rw[pY,jS,ab.a8,bO];have:decide (i<x.Kids.length)=true:=by simpa using hi
   obtain⟨p,hp⟩:=b3 hi;have hm:=bV hp;rw[this,bZ,b0 hp,aP];refine ae.bind (ih p hm (ab.gf hkk hm)) (λy hy=>?_);refine ae.bif (λ_=>no _) (λh1=>?_);have hlen:decide ((b++[aj.z]).length<=274877906944)=true:=by simp;omega
   rw[hlen,bZ,aj.a8,si,cI i (by omega),lC,tc];have e1:(b++[aj.z])[b.length]? =some aj.z:=by simp
   rw[e1,aP];refine k _ ⟨by simp[hI.1],λz hz=>?_⟩;rcases ck.1 hz with hz|hz
   ·exact hI.2 z hz
   ·simp at hz;subst hz;exact hy (by simpa using h1)) (λb hI=>by
   show ae ((iN Pf) ps x false _ b) _;rw[pY,jS,ab.a8,bO];have:decide (x.Kids.length<x.Kids.length)=false:=by simp
   rw[this,cw,aj.a8];refine ae.bind (Kc x.Op) (λo ho=>?_);refine ae.bif (λh1=>?_) (λh1=>?_)
   ·have ho:=ho (by simpa using h1);refine ae.bif (λ_=>no _) (λh2=>?_);have h2:o.2=(x.Kids.length:Int):=by simpa using h2
    have good:∀t:List UInt8,WN B {Kind:=o.1,Text:=t,N:=0,At:=x.At,Kids:=b}:=λt=>by
     refine .mk ?_ (by show b.length<=B;omega) (λe=>by have e:o.1=44:=e;omega) (λe=>by have e:o.1=47:=e;omega) λk hm=>?_
     ·rcases ho with⟨a,c⟩|⟨a,c⟩|⟨a,c⟩|⟨a,c⟩
      ·exact .inl ⟨a,by show b.length=3;omega⟩
      ·exact .inr (.inl ⟨a,by show b.length=1;omega⟩)
      ·exact .inr (.inr (.inl ⟨a,by show b.length=2;omega⟩))
      ·exact .inr (.inr (.inr (.inl (by show 44<=o.1/\o.1<=50;omega))))
     ·have:(o.1==51)=false:=by simp;omega
      simp only[gu]at hm;rw[this]at hm;simp at hm;exact hI.2 k hm
    refine ae.bif (λh3=>?_) (λ_=>ae.ret λ_=>good _);have h3:o.1=42:=by simpa using h3
    have h4:0<x.Kids.length:=by omega
    obtain⟨p,hp⟩:=b3 h4;have e0:aq x.Kids 0=some p:=hp;rw[e0,aP];refine ae.bif (λ_=>no _) (λh5=>?_);refine ae.bif (λ_=>no _) (λh6=>?_);refine ae.bind (ae.idx (by simpa using h5) (by rw[cX]at h6;simpa using h6)) (λt _=>ae.ret λ_=>good _)
   ·refine ae.bind (LB x.Op) (λt ht=>?_);refine ae.bif (λh2=>?_) (λh2=>?_)
    ·refine ae.bif (λ_=>no _) (λh3=>?_);refine Kw hB (ht.1.2 (by simpa using h2)) ?_ (by omega) hI.2;have h3:((b.length:Int)).tmod 2=0:=by simpa using h3
     rw[Int.tmod_eq_emod_of_nonneg (by omega)]at h3;omega
    refine ae.bif (λh3=>?_) (λh3=>?_)
    ·refine ae.bif (λ_=>no _) (λh4=>?_);refine K2 hB (ht.2.2 (by simpa using h3)) ?_ (by omega) hI.2;rw[cX]at h4;have h4:(x.aA.aF.Names.length:Int)=b.length:=by simpa using h4
     omega
    ·refine ae.ret λ_=> .mk (.inr (.inr (.inr (.inr ⟨rfl,λe=>?_,λe=>?_⟩)))) (by show b.length<=B;omega) (λe=>by simp at e) (λe=>by simp at e) λk hm=>?_
     ·have:=ht.1.1 e;simp at h2;omega
     ·have:=ht.2.1 e;simp at h3;omega
     ·have e1:(t==eA)=false:=by
       rw[beq_eq_false_iff_ne];intro e;have:=ht.1.1 e;simp at h2;omega
      have e2:(t==eB)=false:=by
       rw[beq_eq_false_iff_ne];intro e;have:=ht.2.1 e;simp at h3;omega
      simp only[gu]at hm;rw[e1,e2]at hm;simp at hm;exact hI.2 k hm) 0 [] (by omega) ⟨rfl,by simp⟩
 simpa using h
end Go.Proofs.YthlcjaanmbjcaaaGreat
end

section
namespace Go.Proofs.YthlcjaanmbjcaaaGreat
open Go Go.Bw
def dj (z:AV):Prop:=∃a b:Int,a≠0/\z= .ba 87 (.agg [.v (.int .i64 a),.v (.int .i64 b)])
theorem dj.ref {z:AV} (h:dj z):cn z=true:=by obtain⟨a,b,_,rfl⟩:=h;rfl
theorem eb {D:Type} {Q:D->Prop} (a b:Int) (ha:a≠0:=by decide):ah (Bw.aG ((f104 Pf) a b) λ_=>(none:Option (aT D))) Q dj:=by
 rw[OO,qx];exact⟨_,rfl,a,b,ha,rfl⟩
theorem QB {D β:Type} {o:Option (aT D)} {g:Int->Int->Option β} {f:D->Option β} {P:D->Prop} {Q:β->Prop} (h:ah o P dj) (hg:∀a b,a≠0->ae (g a b) Q) (hf:∀y,P y->ae (f y) Q):ae (Bw.dy 87 o g f) Q:=by
 obtain⟨r,rfl,h⟩:=h;cases r with
 |ret x=>exact hf x h
 |aD z=>obtain⟨a,b,ha,rfl⟩:=h;simpa[Bw.dy,jR]using hg a b ha
theorem xa (a:List Int) (x:Int) (ha:a.length<9223372036854775807):(f132 Pf) a x=some (a.any λy=>x==y):=by
 have:(f138 Pf) a x=some (idxOf (λy=>x==y) a 0):=by
  rw[OS,oB];refine sG (λy=>x==y) (λi y hy hi=>?_) ?_
  ·rw[ET,nn];have:decide ((i:Int)<((bM IntKind.i64 a).length:Int))=true:=by rw[kI];simp;omega
   rw[this,bZ,b0 hy,aP,cI i (by omega)]
  ·rw[ET,nn];have:decide ((a.length:Int)<((bM IntKind.i64 a).length:Int))=false:=by rw[kI];simp
   rw[this];rfl
 rw[OT,qA,this,aP,vd]
theorem NM (a:List TParam) (n:aj) (ha:a.length<9223372036854775807):(sH Pf) a n=some (idxOf (λp:TParam=>p.Name==n.Text) a 0):=by
 rw[LY,nc];refine sG (λp:TParam=>p.Name==n.Text) (λi y hy hi=>?_) ?_
 ·rw[Cs,mM,TParam.a8,bO];have:decide (i<a.length)=true:=by simpa using hi
  rw[this,bZ,b0 hy,aP,ON,qw,aP,cI i (by omega)]
 ·rw[Cs,mM,TParam.a8,bO];have:decide (a.length<a.length)=false:=by simp
  rw[this];rfl
theorem vn {D : Type} {p : D → Bool} {a : List D} (h : ¬ idxOf p a 0 < 0) : ∃ (i : Nat) (x : D), idxOf p a 0 = (i : Int) ∧ a[i]? = some x ∧ p x = true := by
  rcases vD p a 0 with ⟨h1, _⟩ | ⟨i, x, h1, h2, h3, _⟩
  · have e : idxOf p a 0 = -1 := h1
    rw [e] at h; simp at h
  · exact ⟨i, x, by have e : idxOf p a 0 = ((0 + i : Nat) : Int) := h1
                    rw [e]; simp, h2, h3⟩
def bj (B:Nat) (t:aB):Prop:=(1<=t.aS/\t.aS<=4/\t.aF=l0)\/(t.aS=0/\dp t.aF/\t.aF.ok B)
def cR (B:Nat) (t:aB):Prop:=t=a7 0\/bj B t
theorem xO (B:Nat):l0.ok B:=by rw[af.dv];simp[l0,af.dR,Lit.wf];decide
theorem dp.kind {l:af} (h:dp l):1<=l.Kind/\l.Kind<=10:=by
 have h:=h.shape;unfold ed at h;omega
theorem te {B:Nat} {l p:af} (h:l.ok B) (hp:p∈l.az):p.ok B:=by
 rw[af.dv]at h;exact af.gf h.2.2.2.2.1.2 hp
theorem bj.ok {B:Nat} {t:aB} (h:bj B t):t.aF.ok B:=by
 rcases h with⟨_,_,h⟩|⟨_,_,h⟩
 ·rw[h];exact xO B
 ·exact h
theorem bj.xb {B:Nat} {t:aB} (h:bj B t):isNone t=false:=by
 rcases h with⟨h1,h2,_⟩|⟨_,h,_⟩
 ·unfold isNone;have:(t.aS==0)=false:=by simp;omega
  rw[this];rfl
 ·have:=h.kind;unfold isNone;have:(t.aF.Kind==0)=false:=by simp;omega
  rw[this];simp
theorem bj.sort {B:Nat} {n:Int} (h:1<=n/\n<=4):bj B (a7 n):= .inl ⟨h.1,h.2,rfl⟩
theorem bj.of {B:Nat} {l:af} (h:dp l) (ho:l.ok B):bj B (bG l):= .inr ⟨rfl,h,ho⟩
theorem bj.ej {B:Nat} {t:aB} (h:bj B t) (hs:t.aS=0):dp t.aF/\t.aF.ok B:=by
 rcases h with⟨h1,_⟩|⟨_,h⟩
 ·omega
 ·exact h
theorem cR.ok {B:Nat} {t:aB} (h:cR B t):t.aF.ok B:=by
 rcases h with rfl|h
 ·exact xO B
 ·exact h.ok
theorem cR.none {B:Nat} {t:aB} (h:cR B t) (hn:isNone t=true):t=a7 0:=by
 rcases h with h|h
 ·exact h
 ·rw[h.xb]at hn;cases hn
theorem cR.some {B:Nat} {t:aB} (h:cR B t) (hn:isNone t=false):bj B t:=by
 rcases h with rfl|h
 ·cases hn
 ·exact h
theorem cR.kind {B:Nat} {t:aB} (h:cR B t) (hs:t.aS=0) (hk:t.aF.Kind≠0):dp t.aF/\t.aF.ok B/\isNone t=false:=by
 rcases h with rfl|h
 ·exact absurd rfl hk
 ·exact⟨(h.ej hs).1,(h.ej hs).2,h.xb⟩
theorem wk:dp eZ:=⟨.mk (.inl ⟨.inr rfl,rfl,rfl,rfl,rfl,rfl⟩) (by simp[kf,eZ]) ⟨by simp[eZ],by simp[eZ,rising],by simp[eZ],by simp[eZ]⟩ (by simp[eZ]) (by simp[eZ]) (by simp[eZ]),by simp[sS,eZ,fT],by simp[sT,eZ,iT]⟩
theorem wY (B:Nat):eZ.ok B:=by rw[af.dv];simp[eZ,af.dR,Lit.wf];decide
theorem jQ {D:Type} {l:List D} {i:Nat} {x:D} (h:l[i]? =some x):aq l (i:Int)=some x:=h
theorem tB {n:aj} (h:n.Kind≠51):gu n=n.Kids:=by
 have:(n.Kind==51)=false:=by simpa using h
 rw[gu,this];rfl
theorem qk {D:Type} {l:List D} (h:l.length=1):∃a,l=[a]:=by
 match l,h with|[a],_=>exact⟨a,rfl⟩
theorem jX {D:Type} {l:List D} (h:l.length=2):∃a b,l=[a,b]:=by
 match l,h with|[a,b],_=>exact⟨a,b,rfl⟩
theorem xV {D:Type} {l:List D} (h:l.length=3):∃a b c,l=[a,b,c]:=by
 match l,h with|[a,b,c],_=>exact⟨a,b,c,rfl⟩
theorem Em {B:Nat} {n:aj} (h:WN B n):ae ((f140 Pf) n) (λ_=>True):=by
 induction h with
 |mk hs hl h44 h47 hk ih=>
  rename_i n;rw[OX,qE];refine ae.bif (λ_=>ae.ret trivial) (λ_=>?_);refine ae.bif (λ_=>?_) (λh51=>?_)
  ·repeat' (first|refine ae.bif (λ_=>ae.ret trivial) (λ_=>?_)|exact ae.ret trivial)
  have h51:n.Kind≠51:=by simpa using h51
  rw[tB h51]at ih;refine ae.bif (λh39=>?_) (λ_=>?_)
  ·have h39:n.Kind=39:=by simpa using h39
   obtain⟨a,b,e⟩:=jX (l:=n.Kids) (by unfold fO at hs;omega);rw[e]at ih⊢;refine ae.aZ (v:=a) rfl (ae.bind (ih a (by simp)) λy _=>?_);refine ae.bif (λ_=>?_) (λ_=>ae.ret trivial);exact ae.aZ (v:=b) rfl (ae.bind (ih b (by simp)) λ_ _=>ae.ret trivial)
  refine ae.bif (λh30=>?_) (λ_=>ae.ret trivial);have h30:n.Kind=30:=by simpa using h30
  obtain⟨a,b,c,e⟩:=xV (l:=n.Kids) (by unfold fO at hs;omega);rw[e]at ih⊢;refine ae.aZ (v:=b) rfl (ae.bind (ih b (by simp)) λy _=>?_);refine ae.bif (λ_=>?_) (λ_=>ae.ret trivial);exact ae.aZ (v:=c) rfl (ae.bind (ih c (by simp)) λ_ _=>ae.ret trivial)
structure CE (B:Nat) (c:bH):Prop where
 ej:dp c.l
 ok:c.l.ok B
 par:∀p∈c.params,1<=p.aS/\p.aS<=4
 num:c.params.length<=B
def EP (B:Nat) (c:bH) (n:aj) (w:aB) (y:ab):Prop:=y.At=n.At/\bj B y.aA/\Fit w y.aA/\W c.l c.params y w
def AP (B:Nat) (c:bH) (w:aB) (y:ab):Prop:=bj B y.aA/\∀a,Fit w y.aA->W c.l c.params ⟨y.Op,y.aA,y.N,y.Text,a,y.Kids⟩ w
def EE (B:Nat) (c:bH) (n:aj):Prop:=∀w,cR B w->ah ((f73 Pf) c n w) (EP B c n w) dj
theorem su {D β : Type} {L : Int → β → Option (aT D)} {P : D → Prop} {E : AV → Prop} {len : Nat} (Inv : Nat → β → Prop)
    (step : ∀ (i : Nat) b, i < len → Inv i b → (∀ b', Inv (i + 1) b' → ah (L ((i + 1 : Nat) : Int) b') P E) → ah (L (i : Int) b) P E)
    (stop : ∀ b, Inv len b → ah (L (len : Int) b) P E) : ∀ (i : Nat) b, i ≤ len → Inv i b → ah (L (i : Int) b) P E := by
  intro i b hi hI
  obtain ⟨k, hk⟩ : ∃ k, len = i + k := ⟨len - i, by omega⟩
  induction k generalizing i b with
  | zero => have : i = len := by omega
            subst this; exact stop b hI
  | succ k ih => exact step i b (by omega) hI fun b' hb' => ih (i + 1) b' (by omega) hb' (by omega)
section
variable {B:Nat} (hB:B<=1048576) {c:bH} (hc:CE B c)
include hB in
theorem MV {n:aj} {w:aB} (hw:cR B w) (hA:ah ((f101 Pf) c n w) (AP B c w) dj):ah ((f73 Pf) c n w) (EP B c n w) dj:=by
 rw[Iq,oX];refine ah.aG hA (λy hy=>?_);refine ah.aZ (vQ hB _ hy.1.ok) ?_;refine ah.aZ (nA w) ?_;refine ah.bif (λh=>?_) (λh=>?_)
 ·refine ah.bind (pA hB hw.ok) (λb hb=>?_);refine ah.bif (λ_=>eb _ _) (λhb'=>?_);have e:w=y.aA:=hb.1 (by simpa using hb');exact ah.ret ⟨rfl,hy.1,λ_=>e,hy.2 _ (λ_=>e)⟩
 ·have hf:Fit w y.aA:=λe=>by simp[e]at h
  exact ah.ret ⟨rfl,hy.1,hf,hy.2 _ hf⟩
theorem El {n x z:aj} {a b t:aB} {op:Int} (hn:n.Kids=[x,z]) (hx:EE B c x) (hz:EE B c z) (ha:cR B a) (hb:cR B b):
  ah ((f122 Pf) c op n a b t) (λy=>∃u v,y=⟨op,t,0,[],0,[u,v]⟩/\EP B c x a u/\EP B c z b v) dj:=by
 rw[Hs,oD,hn];refine ah.aZ (v:=x) rfl (ah.aG (hx a ha) λu hu=>?_);refine ah.aZ (v:=z) rfl (ah.aG (hz b hb) λv hv=>?_);exact ah.ret ⟨u,v,rfl,hu,hv⟩
def TP (B:Nat) (c:bH) (x z:aj) (lt:Bool) (r:ab×ab):Prop:=
 (EP B c x (a7 0) r.1/\EP B c z r.1.aA r.2/\(lt=true->r.1.aA.aS=0))\/(EP B c z (a7 0) r.2/\EP B c x r.2.aA r.1/\(lt=true->r.2.aA.aS=0))
theorem ve {n x z:aj} {lt:Bool} (wx:WN B x) (wz:WN B z) (hx:EE B c x) (hz:EE B c z):ah ((f136 Pf) c n x z lt) (TP B c x z lt) dj:=by
 rw[O5,qL];refine ah.bind (Em wx) (λo _=>?_);refine ah.bif (λ_=>?_) (λ_=>?_)
 ·refine ah.bind (Em wz) (λo _=>?_);refine ah.bif (λ_=>eb _ _) (λ_=>?_);refine ah.aG (hz (a7 0) (.inl rfl)) (λy hy=>?_);refine ah.bif (λhl=>?_) (λhl=>?_)
  ·refine ah.bif (λ_=>eb _ _) (λhs=>?_);exact ah.aG (hx _ (.inr hy.2.1)) λu hu=>ah.ret (.inr ⟨hy,hu,λ_=>by simpa using hs⟩)
  ·exact ah.aG (hx _ (.inr hy.2.1)) λu hu=>ah.ret (.inr ⟨hy,hu,λe=>by rw[e]at hl;cases hl⟩)
 ·refine ah.aG (hx (a7 0) (.inl rfl)) (λy hy=>?_);refine ah.bif (λhl=>?_) (λhl=>?_)
  ·refine ah.bif (λ_=>eb _ _) (λhs=>?_);exact ah.aG (hz _ (.inr hy.2.1)) λu hu=>ah.ret (.inl ⟨hy,hu,λ_=>by simpa using hs⟩)
  ·exact ah.aG (hz _ (.inr hy.2.1)) λu hu=>ah.ret (.inl ⟨hy,hu,λe=>by rw[e]at hl;cases hl⟩)
def OP (B:Nat) (c:bH) (x:aj) (ks:List Int) (y:ab):Prop:=EP B c x (a7 0) y/\y.aA.aS=0/\y.aA.aF.Kind∈ks
theorem vm {n x:aj} {ks:List Int} (hk:ks.length<9223372036854775807) (hx:EE B c x):ah ((f137 Pf) c n x ks) (OP B c x ks) dj:=by
 rw[O4,qK];refine ah.aG (hx (a7 0) (.inl rfl)) (λy hy=>?_);refine ah.bif (λ_=>eb _ _) (λhs=>?_);refine ah.aZ (xa ks _ hk) ?_;refine ah.bif (λ_=>eb _ _) (λhm=>ah.ret ⟨hy,by simpa using hs,?_⟩);simp only[rU,BU,beq_iff_eq]at hm;obtain⟨k,h1,h2⟩:=hm;rw[h2];exact h1
theorem sK {op:Int} {t:aB} {n x:aj} {ks:List Int} (hk:ks.length<9223372036854775807) (hx:EE B c x):ah ((f139 Pf) op t ks c n x) (λy=>∃u,y=⟨op,t,0,[],0,[u]⟩/\OP B c x ks u) dj:=by
 rw[O3,qJ];exact ah.aG (vm hk hx) λu hu=>ah.ret ⟨u,rfl,hu⟩
theorem kQ {t:aB} (h:bj B t) (hs:t.aS=0) {p:af} (hp:p∈t.aF.az):bj B (bG p):= .of ((h.ej hs).1.part hp) (te (h.ej hs).2 hp)
theorem xz {l:af} (h:dp l) (hk:l.Kind=5):∃p,l.az=[p]:=qk (by have:=h.shape;unfold ed at this;omega)
theorem xA {l:af} (h:dp l) (hk:l.Kind=7):∃p q,l.az=[p,q]:=jX (by have:=h.shape;unfold ed at this;omega)
theorem Gt {l:af} (h:dp l) (hk:l.Kind=6):l.az.length=l.Names.length:=by have:=h.shape;unfold ed at this;omega
theorem Kl {n x:aj} {w:aB} (hn:n.Kids=[x]) (hx:EE B c x):ah ((f135 Pf) c n) (AP B c w) dj:=by
 rw[O2,qI,hn];refine ah.aZ (v:=x) rfl ?_;refine ah.aZ (ec 2) (ah.aZ (ec 1) (ah.aZ (ec 4) ?_));have seeN:∀(op s:Int) (ks:List Int),(op,s,ks)∈[((31:Int),(1:Int),[(2:Int),3]),(32,2,[1]),(33,4,[5,4,10]),(34,4,[8,9]),(37,2,[8,9])]->ah (Bw.aG ((f139 Pf) op (a7 s) ks c n x) λy=>some (.ret y)) (AP B c w) dj:=by
  intro op s ks hm;refine ah.aG (sK (by simp at hm;rcases hm with⟨_,_,rfl⟩|⟨_,_,rfl⟩|⟨_,_,rfl⟩|⟨_,_,rfl⟩|⟨_,_,rfl⟩<;>simp) hx) (λy hy=>?_);obtain⟨u,rfl,hu⟩:=hy;exact ah.ret ⟨bj.sort (by simp at hm;omega),λa hf=> .Il hm hu.1.2.2.2 hu.2.1 hu.2.2 hf⟩
 refine ah.bif (λ_=>?_) (λ_=>?_)
 ·refine ah.aG (hx (a7 0) (.inl rfl)) (λy hy=>?_);refine ah.bif (λh4=>?_) (λh4=>?_)
  ·refine ah.bif (λ_=>eb _ _) (λh0=>?_);refine ah.aZ (xa _ _ (by simp)) ?_;refine ah.bif (λ_=>eb _ _) (λhm=>ah.ret ⟨bj.sort (by simp),λa hf=> .size hy.2.2.2 (.inr ⟨by simpa using h0,?_⟩) hf⟩);simp at hm;simp;omega
  ·exact ah.ret ⟨bj.sort (by simp),λa hf=> .size hy.2.2.2 (.inl (by simpa using h4)) hf⟩
 refine ah.bif (λ_=>?_) (λ_=>?_)
 ·refine ah.aG (sK (by simp) hx) (λy hy=>?_);obtain⟨u,rfl,hu⟩:=hy;refine ah.aZ (v:=u) rfl ?_;have h5:u.aA.aF.Kind=5:=by simpa using hu.2.2
  obtain⟨p,hp⟩:=xz (hu.1.2.1.ej hu.2.1).1 h5;rw[hp];refine ah.aZ (v:=p) rfl ?_;have good:(p.Kind=2\/p.Kind=3)->ah (some (aT.ret (⟨30,a7 1,0,[],0,[u]⟩:ab))) (AP B c w) dj:=λhk=>
   ah.ret ⟨bj.sort (by simp),λa hf=> .sum (p:=p) hu.1.2.2.2 hu.2.1 h5 (by rw[hp];rfl) hk hf⟩
  refine ah.bif (λ_=>?_) (λh=>good (.inl (by simpa using h)));exact ah.bif (λ_=>eb _ _) (λh=>good (.inr (by simpa using h)))
 refine ah.bif (λ_=>seeN 31 1 _ (by simp)) (λ_=>?_);refine ah.bif (λ_=>seeN 32 2 _ (by simp)) (λ_=>?_);refine ah.bif (λ_=>seeN 33 4 _ (by simp)) (λ_=>?_);refine ah.bif (λ_=>seeN 34 4 _ (by simp)) (λ_=>?_);refine ah.bif (λ_=>seeN 37 2 _ (by simp)) (λ_=>?_);refine ah.bif (λ_=>?_) (λ_=>?_)
 ·refine ah.aG (sK (by simp) hx) (λy hy=>?_);obtain⟨u,rfl,hu⟩:=hy;refine ah.aZ (v:=u) rfl ?_;have h7:u.aA.aF.Kind=7:=by simpa using hu.2.2
  obtain⟨p,q,hp⟩:=xA (hu.1.2.1.ej hu.2.1).1 h7;rw[hp];refine ah.aZ (v:=q) rfl (ah.aZ (of_eq q) ?_);exact ah.ret ⟨kQ hu.1.2.1 hu.2.1 (by rw[hp];simp),λa hf=> .part (i:=1) (p:=q) (.inr ⟨rfl,rfl⟩) hu.1.2.2.2 hu.2.1 h7 (by rw[hp];rfl) hf⟩
 ·refine ah.aG (sK (by simp) hx) (λy hy=>?_);obtain⟨u,rfl,hu⟩:=hy;refine ah.aZ (v:=u) rfl ?_;have h7:u.aA.aF.Kind=7:=by simpa using hu.2.2
  obtain⟨p,q,hp⟩:=xA (hu.1.2.1.ej hu.2.1).1 h7;rw[hp];refine ah.aZ (v:=p) rfl (ah.aZ (of_eq p) ?_);exact ah.ret ⟨kQ hu.1.2.1 hu.2.1 (by rw[hp];simp),λa hf=> .part (i:=0) (p:=p) (.inl ⟨rfl,rfl⟩) hu.1.2.2.2 hu.2.1 h7 (by rw[hp];rfl) hf⟩
theorem L4 {n:Nat} (h:n<=274877906944):p6 (n:Int)=some n:=by
 show(bif Nat.ble n 274877906944 then some n else none)=some n;rw[uQ h];rfl
def Hu (c:bH) (l:af) (s3:List ab) (s4:List Bool):Prop:=s3.length=l.az.length/\s4.length=l.az.length/\∀(i:Nat) x p,s4[i]? =some true->s3[i]? =some x->l.az[i]? =some p->W c.l c.params x (bG p)
def RP (c:bH) (l:af) (ys:List ab):Prop:=ys.length=l.az.length/\∀(i:Nat) x p,ys[i]? =some x->l.az[i]? =some p->W c.l c.params x (bG p)
include hB in
theorem L5 {n:aj} {l:af} (hl:dp l) (ho:l.ok B) {s4:List Bool} {s3:List ab} (hI:Hu c l s3 s4):ah ((jP Pf) n l s4 s3 0) (RP c l) dj:=by
 have hlen:l.az.length<=B:=by rw[af.dv]at ho;exact ho.2.2.2.2.1.1
 have h:=su (L:=λi (b:List ab)=>(jP Pf) n l s4 b i) (P:=RP c l) (E:=dj) (len:=l.az.length) (λi b=>b.length=l.az.length/\∀(j:Nat) x p,(j<i\/s4[j]? =some true)->b[j]? =some x->l.az[j]? =some p->W c.l c.params x (bG p)) (λi b hi hJ k=>by
   show ah ((jP Pf) n l s4 b i) _ _;rw[EY,ny,af.a8,bO];have:decide (i<l.az.length)=true:=by simpa using hi
   obtain⟨p,hp⟩:=b3 hi;obtain⟨f,hf⟩:=b3 (l:=s4) (i:=i) (by rw[hI.2.1];exact hi);obtain⟨x,hx⟩:=b3 (l:=b) (i:=i) (by rw[hJ.1];exact hi);have hm:=bV hp;rw[this,bZ,b0 hp,aP,b0 hf,aP,cI i (by omega)];refine ah.bif (λh1=>?_) (λh1=>?_)
   ·refine ah.aZ (vQ hB p (te ho hm)) (ah.aZ (of_eq p) (ah.aZ (jQ hx) ?_));rw[lC];refine k _ ⟨by simp[hJ.1],λj y q hj hy hq=>?_⟩;by_cases e:j=i
    ·subst e;rw[JQ (by rw[hJ.1];exact hi)]at hy;cases hy;rw[hp]at hq;cases hq;exact .xj rfl (bj.of (hl.part hm) (te ho hm)).xb
    ·rw[BP (by omega)]at hy;exact hJ.2 j y q (by rcases hj with hj|hj;exact .inl (by omega);exact .inr hj) hy hq
   ·refine k _ ⟨hJ.1,λj y q hj hy hq=>?_⟩;by_cases e:j=i
    ·subst e;have:f=true:=by simpa using h1
     exact hJ.2 j y q (.inr (by rw[hf,this])) hy hq
    ·exact hJ.2 j y q (by rcases hj with hj|hj;exact .inl (by omega);exact .inr hj) hy hq) (λb hJ=>by
   show ah ((jP Pf) n l s4 b _) _ _;rw[EY,ny,af.a8,bO];have:decide (l.az.length<l.az.length)=false:=by simp
   rw[this,cw];exact ah.ret ⟨hJ.1,λj x p hx hp=>hJ.2 j x p (.inl (cT.1 hp).1) hx hp⟩) 0 s3 (by omega) ⟨hI.1,λj x p hj hx hp=>by
    rcases hj with hj|hj
    ·omega
    ·exact hI.2.2 j x p hj hx hp⟩
 exact h
include hB in
theorem K0 {n:aj} {l:af} (hl:dp l) (ho:l.ok B) (h6:l.Kind=6) (hn:n.Kids.length<=B) (h1:∀e∈n.Kids,∃k,e.Kids=[k]/\EE B c k):ah ((f134 Pf) c n l) (RP c l) dj:=by
 have hlen:l.az.length<=B:=by rw[af.dv]at ho;exact ho.2.2.2.2.1.1
 have hpn:=Gt hl h6;rw[O1,qH,af.a8,L4 (by omega),aP,aP];have h:=su (L:=λi (b:List ab×List Bool)=>(lS Pf) c n l b.1 b.2 i) (P:=RP c l) (E:=dj) (len:=n.Kids.length) (λi b=>Hu c l b.1 b.2) (λi b hi hI k=>by
   show ah ((lS Pf) c n l b.1 b.2 i) _ _;rw[EZ,nz,aj.a8,bO];have:decide (i<n.Kids.length)=true:=by simpa using hi
   obtain⟨e,he⟩:=b3 hi;obtain⟨kd,hk,hE⟩:=h1 e (bV he);rw[this,bZ,b0 he,aP,wh _ _ (by omega),aP,cI i (by omega)];refine ah.bif (λ_=>eb _ _) (λh2=>?_);obtain⟨j,t,hj,ht,_⟩:=vn (by simpa using h2);rw[hj];have hjl:j<l.az.length:=by rw[hpn];exact(cT.1 ht).1
   obtain⟨f,hf⟩:=b3 (l:=b.2) (i:=j) (by rw[hI.2.1];exact hjl);obtain⟨x,hx⟩:=b3 (l:=b.1) (i:=j) (by rw[hI.1];exact hjl);obtain⟨p,hp⟩:=b3 hjl;have hm:=bV hp;refine ah.aZ (jQ hf) ?_;refine ah.bif (λ_=>eb _ _) (λ_=>?_);rw[hk];refine ah.aZ (v:=kd) rfl (ah.aZ (jQ hp) (ah.aZ (of_eq p) ?_));refine ah.aG (hE (bG p) (.inr (bj.of (hl.part hm) (te ho hm)))) (λy hy=>?_);refine ah.aZ (jQ hx) (ah.aZ (jQ hf) ?_);rw[lC];refine k (b.1.set j y,b.2.set j true) ⟨by simp[hI.1],by simp[hI.2.1],λq z r h3 h4 h5=>?_⟩;by_cases e:q=j
   ·subst e;simp only at h4;rw[JQ (by rw[hI.1];exact hjl)]at h4;cases h4;rw[hp]at h5;cases h5;exact hy.2.2.2
   ·simp only at h3 h4;rw[BP (by omega)]at h3 h4;exact hI.2.2 q z r h3 h4 h5) (λb hI=>by
   show ah ((lS Pf) c n l b.1 b.2 _) _ _;rw[EZ,nz,aj.a8,bO];have:decide (n.Kids.length<n.Kids.length)=false:=by simp
   rw[this,cw];exact L5 hB hl ho hI) 0 (List.replicate l.az.length ab.z,List.replicate l.az.length false) (by omega) ⟨by simp,by simp,λi x p hi _ _=>by
    simp[List.getElem?_replicate]at hi⟩
 exact h
