/- Trees of expressions that are well formed; types.bare answers, and what it answers is one. -/
import Derived.Test.YtmbalfjhlngncaaGreatKVa1
set_option linter.all false
section
namespace Go.Proofs.YtmbalfjhlngncaaGreat
open Go Go.Bw
def gb:List UInt8:=[109,97,112]
def gf:List UInt8:=[114,101,99]
def jV (n:az):List az:=bif n.Kind==51&&(n.Text==gb||n.Text==gf)then n.Kids.flatMap (·.Kids)else n.Kids
def ju (n:az):Prop:=
 (n.Kind=30/\n.Kids.length=3)\/((n.Kind=33\/n.Kind=42)/\n.Kids.length=1)\/
 ((31<=n.Kind/\n.Kind<=43/\n.Kind≠33/\n.Kind≠42)/\n.Kids.length=2)\/(44<=n.Kind/\n.Kind<=50)\/
 (n.Kind=51/\(n.Text=gb->∀e∈n.Kids,e.Kids.length=2)/\(n.Text=gf->∀e∈n.Kids,e.Kids.length=1))
inductive WN (B:Nat):az->Prop
 |mk {n:az}:ju n->n.Kids.length<=B->(n.Kind=44-> -1000000000000000<=n.N/\n.N<=1000000000000000)->(n.Kind=47->NV n.Text)->(∀k∈jV n,WN B k)->WN B n
theorem Dg {α:Type} (l:List α) (z y:α):(l++[z]).set l.length y=l++[y]:=by simp
theorem ae.ind {P:ae->Prop} (h:∀x:ae,(∀k∈x.Kids,P k)->P x):∀x,P x:=by
 intro x;refine ae.rec (motive_1:=P) (motive_2:=λks=>∀k∈ks,P k) ?_ ?_ ?_ x
 ·intro op ty n t a ks ih;exact h ⟨op,ty,n,t,a,ks⟩ ih
 ·intro k hk;cases hk
 ·intro k ks h1 h2 x hx;rcases b6.1 hx with rfl|hx
  ·exact h1
  ·exact h2 x hx
theorem qX {B:Nat} {n:az} (h:44<=n.Kind/\n.Kind<=50) (hk:n.Kids=[]) (h1:n.Kind=44-> -1000000000000000<=n.N/\n.N<=1000000000000000) (h2:n.Kind=47->NV n.Text):WN B n:=by
 refine .mk (.inr (.inr (.inr (.inl h)))) (by rw[hk];simp) h1 h2 λk hm=>?_;have:(n.Kind==51)=false:=by simp;omega
 rw[jV,this,hk]at hm;simp at hm
variable {B:Nat} (hB:B<=1048576)
theorem acb {ps:List TParam} {x:ae} (hx:x.Text.length<9223372036854775807):ab ((f104 Pf) ps x) (λr=>r.2=true->WN B r.1):=by
 rw[agE,Av,ae.aI,TParam.aI];have no:∀n:az,ab (some (n,false)) (λr=>r.2=true->WN B r.1):=λn=>ab.ret λe=>by cases e
 refine ab.bif (λ_=>no _) (λ_=>?_);refine ab.bif (λ_=>?_) (λ_=>?_)
 ·refine ab.bif (λh1=>?_) (λ_=>no _);refine ab.bif (λh2=>?_) (λ_=>no _);refine ab.ret λ_=>qX (by simp) rfl (λ_=>?_) (λe=>by simp at e);simp at h1 h2;exact⟨h1,h2⟩
 refine ab.bif (λ_=>?_) (λ_=>?_)
 ·refine ab.bif (λ_=>ab.ret λ_=>qX (by simp) rfl (λe=>by simp at e) (λe=>by simp at e)) (λ_=>?_);exact ab.bif (λ_=>ab.ret λ_=>qX (by simp) rfl (λe=>by simp at e) (λe=>by simp at e)) (λ_=>no _)
 refine ab.bif (λ_=>?_) (λ_=>?_)
 ·rw[kN _ hx,aw];exact ab.bif (λh=>ab.ret λ_=>qX (by simp) rfl (λe=>by simp at e) (λ_=>HD.1 h)) (λ_=>no _)
 refine ab.bif (λ_=>?_) (λ_=>no _);refine ab.bif (λh1=>?_) (λ_=>no _);refine ab.bif (λh2=>?_) (λ_=>no _);refine ab.bind (ab.idx (by simpa using h1) (by simpa using h2)) (λy _=>?_);exact ab.ret λ_=>qX (by simp) rfl (λe=>by simp at e) (λe=>by simp at e)
theorem YX (op:Int):ab ((f105 Pf) op) (λr=>r.1≠0->(r.1=30/\r.2=3)\/((r.1=33\/r.1=42)/\r.2=1)\/((31<=r.1/\r.1<=43/\r.1≠33/\r.1≠42)/\r.2=2)\/((r.1=49\/r.1=50)/\r.2=0)):=by
 rw[agF,Aw]
 repeat' (first|refine ab.bif (λ_=>?_) (λ_=>?_)|refine ab.ret ?_)
 all_goals simp
theorem aa4 (op:Int):ab ((f106 Pf) op) (λr=>(r=gb↔op=24)/\(r=gf↔op=25)):=by
 rw[agG,Ax]
 repeat' (first|refine ab.bif (λh=>?_) (λh=>?_)|refine ab.ret ?_)
 all_goals (simp at*;simp[gb,gf, *])
include hB
theorem Zz {x:ae} {ks:List az} {y:List UInt8} (hy:y=gb) (he:ks.length%2=0) (hl:ks.length<=B) (hk:∀k∈ks,WN B k):ab ((ph Pf) x ks y [] 0) (λr=>r.2=true->WN B r.1):=by
 have h:=dX (L:=λi (b:List az)=>(ph Pf) x ks y b (2*i)) (P:=λr=>r.2=true->WN B r.1) (len:=ks.length/2) (λi b=>b.length=i/\∀e∈b,e.Kids.length=2/\∀k∈e.Kids,WN B k) (λi b hi hI k=>by
   show ab ((ph Pf) x ks y b _) _;have e0:(2*(i:Int))=((2*i:Nat):Int):=by omega
   rw[Tp,uw,az.aI,e0,a6];have:decide (2*i<ks.length)=true:=by simp;omega
   obtain⟨p,hp⟩:=bw (by omega:2*i<ks.length);obtain⟨q,hq⟩:=bw (by omega:2*i+1<ks.length);have e2:IntKind.i64.wrap (((2*i:Nat):Int)+2)=2*((i+1:Nat):Int):=by rw[wrap64 (by omega) (by omega)];omega
   rw[this,aD,bg hp,aw,bM _ (by omega),bg hq,aw,e2];have hlen:decide ((b++[({Kind:=52,Text:=[],N:=0,At:=0,Kids:=[p,q]}:az)]).length<=274877906944)=true:=by simp;omega
   rw[hlen,aD];refine k _ ⟨by simp[hI.1],λe hm=>?_⟩;rcases bO.1 hm with hm|hm
   ·exact hI.2 e hm
   ·simp at hm;subst hm;refine⟨rfl,λz hz=>?_⟩;simp at hz;rcases hz with rfl|rfl
    ·exact hk _ (a7 hp)
    ·exact hk _ (a7 hq)) (λb hI=>by
   show ab ((ph Pf) x ks y b _) _;have e0:(2*((ks.length/2:Nat):Int))=((ks.length:Nat):Int):=by omega
   rw[Tp,uw,az.aI,e0,a6];have:decide (ks.length<ks.length)=false:=by simp
   rw[this,aF];refine ab.ret λ_=> .mk (.inr (.inr (.inr (.inr ⟨rfl,λ_ e he=>(hI.2 e he).1,λe=>?_⟩)))) (by show b.length<=B;omega) (λe=>by simp at e) (λe=>by simp at e) λk hm=>?_
   ·have e:y=gf:=e;rw[hy]at e;exact absurd e (by decide)
   ·have:((y==gb)=true):=by simp[hy]
    simp only[jV]at hm;rw[this]at hm;simp at hm;obtain⟨e,h1,h2⟩:=hm;exact(hI.2 e h1).2 k h2) 0 [] (by omega) ⟨rfl,by simp⟩
 simpa using h
theorem Z7 {x:ae} {ks:List az} {y:List UInt8} (hy:y=gf) (he:x.aK.aL.Names.length=ks.length) (hl:ks.length<=B) (hk:∀k∈ks,WN B k):ab ((lS Pf) x ks y [] 0) (λr=>r.2=true->WN B r.1):=by
 have h:=dX (L:=λi (b:List az)=>(lS Pf) x ks y b i) (P:=λr=>r.2=true->WN B r.1) (len:=ks.length) (λi b=>b.length<=i/\∀e∈b,e.Kids.length=1/\∀k∈e.Kids,WN B k) (λi b hi hI k=>by
   show ab ((lS Pf) x ks y b _) _;rw[Tq,ux,az.aI,a6];have:decide (i<ks.length)=true:=by simpa using hi
   obtain⟨p,hp⟩:=bw hi;obtain⟨t,ht⟩:=bw (by omega:i<x.aK.aL.Names.length);rw[this,aD,bg hp,aw,bg ht,bM i (by omega)];simp only[aw];have hlen:decide ((b++[({Kind:=52,Text:=t,N:=0,At:=0,Kids:=[p]}:az)]).length<=274877906944)=true:=by simp;omega
   rw[hlen];simp only[aD];have more:ab ((lS Pf) x ks y (b++[{Kind:=52,Text:=t,N:=0,At:=0,Kids:=[p]}]) ((i+1:Nat):Int)) (λr=>r.2=true->WN B r.1):=by
    refine k _ ⟨by simp;omega,λe hm=>?_⟩;rcases bO.1 hm with hm|hm
    ·exact hI.2 e hm
    ·simp at hm;subst hm;refine⟨rfl,λz hz=>?_⟩;simp at hz;subst hz;exact hk _ (a7 hp)
   refine ab.bif (λ_=>more) (λ_=>ab.bif (λ_=>more) (λ_=>k b ⟨by omega,hI.2⟩))) (λb hI=>by
   show ab ((lS Pf) x ks y b _) _;rw[Tq,ux,az.aI,a6];have:decide (ks.length<ks.length)=false:=by simp
   rw[this,aF];refine ab.ret λ_=> .mk (.inr (.inr (.inr (.inr ⟨rfl,λe=>?_,λ_ e he=>(hI.2 e he).1⟩)))) (by show b.length<=B;omega) (λe=>by simp at e) (λe=>by simp at e) λk hm=>?_
   ·have e:y=gb:=e;rw[hy]at e;exact absurd e (by decide)
   ·have:((y==gf)=true):=by simp[hy]
    simp only[jV]at hm;rw[this]at hm;simp at hm;obtain⟨e,h1,h2⟩:=hm;exact(hI.2 e h1).2 k h2) 0 [] (by omega) ⟨by simp,by simp⟩
 simpa using h
theorem acd {ps:List TParam}:∀x:ae,x.ok B->ab ((f60 Pf) ps x) (λr=>r.2=true->WN B r.1):=by
 refine ae.ind λx ih hx=>?_;rw[ae.dO]at hx;obtain⟨_,_,_,ht,_,hkl,hkk⟩:=hx;rw[e60,Bs];refine ab.bind (acb (B:=B) (by omega)) (λy hy=>?_);refine ab.bif (λh=>ab.ret λ_=>hy h) (λ_=>?_);have no:∀n:az,ab (some (n,false)) (λr=>r.2=true->WN B r.1):=λn=>ab.ret λe=>by cases e
 have h:=dX (L:=λi (b:List az)=>(qR Pf) ps x false i b) (P:=λr=>r.2=true->WN B r.1) (len:=x.Kids.length) (λi b=>b.length=i/\∀k∈b,WN B k) (λi b hi hI k=>by
   show ab ((qR Pf) ps x false i b) _;rw[Ts,uy,ae.aI,a6];have:decide (i<x.Kids.length)=true:=by simpa using hi
   obtain⟨p,hp⟩:=bw hi;have hm:=a7 hp;rw[this,aD,bg hp,aw];refine ab.bind (ih p hm (ae.gJ hkk hm)) (λy hy=>?_);refine ab.bif (λ_=>no _) (λh1=>?_);have hlen:decide ((b++[az.z]).length<=274877906944)=true:=by simp;omega
   rw[hlen,aD,az.aI,Cl,bM i (by omega),lD,Dg];have e1:(b++[az.z])[b.length]? =some az.z:=by simp
   rw[e1,aw];refine k _ ⟨by simp[hI.1],λz hz=>?_⟩;rcases bO.1 hz with hz|hz
   ·exact hI.2 z hz
   ·simp at hz;subst hz;exact hy (by simpa using h1)) (λb hI=>by
   show ab ((qR Pf) ps x false _ b) _;rw[Ts,uy,ae.aI,a6];have:decide (x.Kids.length<x.Kids.length)=false:=by simp
   rw[this,aF,az.aI];refine ab.bind (YX x.Op) (λo ho=>?_);refine ab.bif (λh1=>?_) (λh1=>?_)
   ·have ho:=ho (by simpa using h1);refine ab.bif (λ_=>no _) (λh2=>?_);have h2:o.2=(x.Kids.length:Int):=by simpa using h2
    have good:∀t:List UInt8,WN B {Kind:=o.1,Text:=t,N:=0,At:=x.At,Kids:=b}:=λt=>by
     refine .mk ?_ (by show b.length<=B;omega) (λe=>by have e:o.1=44:=e;omega) (λe=>by have e:o.1=47:=e;omega) λk hm=>?_
     ·rcases ho with⟨a,c⟩|⟨a,c⟩|⟨a,c⟩|⟨a,c⟩
      ·exact .inl ⟨a,by show b.length=3;omega⟩
      ·exact .inr (.inl ⟨a,by show b.length=1;omega⟩)
      ·exact .inr (.inr (.inl ⟨a,by show b.length=2;omega⟩))
      ·exact .inr (.inr (.inr (.inl (by show 44<=o.1/\o.1<=50;omega))))
     ·have:(o.1==51)=false:=by simp;omega
      simp only[jV]at hm;rw[this]at hm;simp at hm;exact hI.2 k hm
    refine ab.bif (λh3=>?_) (λ_=>ab.ret λ_=>good _);have h3:o.1=42:=by simpa using h3
    have h4:0<x.Kids.length:=by omega
    obtain⟨p,hp⟩:=bw h4;have e0:ao x.Kids 0=some p:=hp;rw[e0,aw];refine ab.bif (λ_=>no _) (λh5=>?_);refine ab.bif (λ_=>no _) (λh6=>?_);refine ab.bind (ab.idx (by simpa using h5) (by rw[bD]at h6;simpa using h6)) (λt _=>ab.ret λ_=>good _)
   ·refine ab.bind (aa4 x.Op) (λt ht=>?_);refine ab.bif (λh2=>?_) (λh2=>?_)
    ·refine ab.bif (λ_=>no _) (λh3=>?_);refine Zz hB (ht.1.2 (by simpa using h2)) ?_ (by omega) hI.2;have h3:((b.length:Int)).tmod 2=0:=by simpa using h3
     rw[Int.tmod_eq_emod_of_nonneg (by omega)]at h3;omega
    refine ab.bif (λh3=>?_) (λh3=>?_)
    ·refine ab.bif (λ_=>no _) (λh4=>?_);refine Z7 hB (ht.2.2 (by simpa using h3)) ?_ (by omega) hI.2;rw[bD]at h4;have h4:(x.aK.aL.Names.length:Int)=b.length:=by simpa using h4
     omega
    ·refine ab.ret λ_=> .mk (.inr (.inr (.inr (.inr ⟨rfl,λe=>?_,λe=>?_⟩)))) (by show b.length<=B;omega) (λe=>by simp at e) (λe=>by simp at e) λk hm=>?_
     ·have:=ht.1.1 e;simp at h2;omega
     ·have:=ht.2.1 e;simp at h3;omega
     ·have e1:(t==gb)=false:=by
       rw[beq_eq_false_iff_ne];intro e;have:=ht.1.1 e;simp at h2;omega
      have e2:(t==gf)=false:=by
       rw[beq_eq_false_iff_ne];intro e;have:=ht.2.1 e;simp at h3;omega
      simp only[jV]at hm;rw[e1,e2]at hm;simp at hm;exact hI.2 k hm) 0 [] (by omega) ⟨rfl,by simp⟩
 simpa using h
end Go.Proofs.YtmbalfjhlngncaaGreat
end

section
namespace Go.Proofs.YtmbalfjhlngncaaGreat
open Go Go.Bw
def eo (z:AV):Prop:=∃a b:Int,a≠0/\z= .bC 87 (.agg [.v (.int .i64 a),.v (.int .i64 b)])
theorem eo.ref {z:AV} (h:eo z):cZ z=true:=by obtain⟨a,b,_,rfl⟩:=h;rfl
theorem fH {α:Type} {Q:α->Prop} (a b:Int) (ha:a≠0:=by decide):au (Bw.aT ((f180 Pf) a b) λ_=>(none:Option (bx α))) Q eo:=by
 rw[agz,Ap];exact⟨_,rfl,a,b,ha,rfl⟩
theorem ctF {α β:Type} {o:Option (bx α)} {g:Int->Int->Option β} {f:α->Option β} {P:α->Prop} {Q:β->Prop} (h:au o P eo) (hg:∀a b,a≠0->ab (g a b) Q) (hf:∀y,P y->ab (f y) Q):ab (Bw.fC 87 o g f) Q:=by
 obtain⟨r,rfl,h⟩:=h;cases r with
 |ret x=>exact hf x h
 |aO z=>obtain⟨a,b,ha,rfl⟩:=h;simpa[Bw.fC,oX]using hg a b ha
theorem HL (a:List Int) (x:Int) (ha:a.length<9223372036854775807):(f281 Pf) a x=some (a.any λy=>x==y):=by
 have:(f315 Pf) a x=some (idxOf (λy=>x==y) a 0):=by
  rw[agA,vd];refine w9 (λy=>x==y) (λi y hy hi=>?_) ?_
  ·rw[Rs,tO];have:decide ((i:Int)<((dJ IntKind.i64 a).length:Int))=true:=by rw[nj];simp;omega
   rw[this,aD,bg hy,aw,bM i (by omega)]
  ·rw[Rs,tO];have:decide ((a.length:Int)<((dJ IntKind.i64 a).length:Int))=false:=by rw[nj];simp
   rw[this];rfl
 rw[agB,Aq,this,aw,FV]
theorem aeE (a:List TParam) (n:az) (ha:a.length<9223372036854775807):(CB Pf) a n=some (idxOf (λp:TParam=>p.Name==n.Text) a 0):=by
 rw[aa3,sH];refine w9 (λp:TParam=>p.Name==n.Text) (λi y hy hi=>?_) ?_
 ·rw[Nc,rW,TParam.aI,a6];have:decide (i<a.length)=true:=by simpa using hi
  rw[this,aD,bg hy,aw,agC,Ar,aw,bM i (by omega)]
 ·rw[Nc,rW,TParam.aI,a6];have:decide (a.length<a.length)=false:=by simp
  rw[this];rfl
theorem F8 {α : Type} {p : α → Bool} {a : List α} (h : ¬ idxOf p a 0 < 0) : ∃ (i : Nat) (x : α), idxOf p a 0 = (i : Int) ∧ a[i]? = some x ∧ p x = true := by
  rcases wG p a 0 with ⟨h1, _⟩ | ⟨i, x, h1, h2, h3, _⟩
  · have e : idxOf p a 0 = -1 := h1
    rw [e] at h; simp at h
  · exact ⟨i, x, by have e : idxOf p a 0 = ((0 + i : Nat) : Int) := h1
                    rw [e]; simp, h2, h3⟩
def bB (B:Nat) (t:aP):Prop:=(1<=t.aX/\t.aX<=4/\t.aL=l0)\/(t.aX=0/\cj t.aL/\t.aL.ok B)
def ea (B:Nat) (t:aP):Prop:=t=bm 0\/bB B t
theorem Ut (B:Nat):l0.ok B:=by rw[ah.dO];simp[l0,ah.ei,Lit.wf];decide
theorem cj.kind {l:ah} (h:cj l):1<=l.Kind/\l.Kind<=10:=by
 have h:=h.shape;unfold gL at h;omega
theorem sV {B:Nat} {l p:ah} (h:l.ok B) (hp:p∈l.aj):p.ok B:=by
 rw[ah.dO]at h;exact ah.gJ h.2.2.2.2.1.2 hp
theorem bB.ok {B:Nat} {t:aP} (h:bB B t):t.aL.ok B:=by
 rcases h with⟨_,_,h⟩|⟨_,_,h⟩
 ·rw[h];exact Ut B
 ·exact h
theorem bB.ir {B:Nat} {t:aP} (h:bB B t):isNone t=false:=by
 rcases h with⟨h1,h2,_⟩|⟨_,h,_⟩
 ·unfold isNone;have:(t.aX==0)=false:=by simp;omega
  rw[this];rfl
 ·have:=h.kind;unfold isNone;have:(t.aL.Kind==0)=false:=by simp;omega
  rw[this];simp
theorem bB.sort {B:Nat} {n:Int} (h:1<=n/\n<=4):bB B (bm n):= .inl ⟨h.1,h.2,rfl⟩
theorem bB.of {B:Nat} {l:ah} (h:cj l) (ho:l.ok B):bB B (dD l):= .inr ⟨rfl,h,ho⟩
theorem bB.dS {B:Nat} {t:aP} (h:bB B t) (hs:t.aX=0):cj t.aL/\t.aL.ok B:=by
 rcases h with⟨h1,_⟩|⟨_,h⟩
 ·omega
 ·exact h
theorem ea.ok {B:Nat} {t:aP} (h:ea B t):t.aL.ok B:=by
 rcases h with rfl|h
 ·exact Ut B
 ·exact h.ok
theorem ea.none {B:Nat} {t:aP} (h:ea B t) (hn:isNone t=true):t=bm 0:=by
 rcases h with h|h
 ·exact h
 ·rw[h.ir]at hn;cases hn
theorem ea.some {B:Nat} {t:aP} (h:ea B t) (hn:isNone t=false):bB B t:=by
 rcases h with rfl|h
 ·cases hn
 ·exact h
theorem ea.kind {B:Nat} {t:aP} (h:ea B t) (hs:t.aX=0) (hk:t.aL.Kind≠0):cj t.aL/\t.aL.ok B/\isNone t=false:=by
 rcases h with rfl|h
 ·exact absurd rfl hk
 ·exact⟨(h.dS hs).1,(h.dS hs).2,h.ir⟩
theorem w5:cj eN:=⟨.mk (.inl ⟨.inr rfl,rfl,rfl,rfl,rfl,rfl⟩) (by simp[As,eN]) ⟨by simp[eN],by simp[eN,rising],by simp[eN],by simp[eN]⟩ (by simp[eN]) (by simp[eN]) (by simp[eN]),by simp[De,eN,fW],by simp[xy,eN,mR]⟩
theorem Dc (B:Nat):eN.ok B:=by rw[ah.dO];simp[eN,ah.ei,Lit.wf];decide
theorem nC {α:Type} {l:List α} {i:Nat} {x:α} (h:l[i]? =some x):ao l (i:Int)=some x:=h
theorem DW {n:az} (h:n.Kind≠51):jV n=n.Kids:=by
 have:(n.Kind==51)=false:=by simpa using h
 rw[jV,this];rfl
theorem uM {α:Type} {l:List α} (h:l.length=1):∃a,l=[a]:=by
 match l,h with|[a],_=>exact⟨a,rfl⟩
theorem mQ {α:Type} {l:List α} (h:l.length=2):∃a b,l=[a,b]:=by
 match l,h with|[a,b],_=>exact⟨a,b,rfl⟩
theorem IE {α:Type} {l:List α} (h:l.length=3):∃a b c,l=[a,b,c]:=by
 match l,h with|[a,b,c],_=>exact⟨a,b,c,rfl⟩
theorem P5 {B:Nat} {n:az} (h:WN B n):ab ((f317 Pf) n) (λ_=>True):=by
 induction h with
 |mk hs hl h44 h47 hk ih=>
  rename_i n;rw[agD,Au];refine ab.bif (λ_=>ab.ret trivial) (λ_=>?_);refine ab.bif (λ_=>?_) (λh51=>?_)
  ·repeat' (first|refine ab.bif (λ_=>ab.ret trivial) (λ_=>?_)|exact ab.ret trivial)
  have h51:n.Kind≠51:=by simpa using h51
  rw[DW h51]at ih;refine ab.bif (λh39=>?_) (λ_=>?_)
  ·have h39:n.Kind=39:=by simpa using h39
   obtain⟨a,b,e⟩:=mQ (l:=n.Kids) (by unfold ju at hs;omega);rw[e]at ih⊢;refine ab.bA (v:=a) rfl (ab.bind (ih a (by simp)) λy _=>?_);refine ab.bif (λ_=>?_) (λ_=>ab.ret trivial);exact ab.bA (v:=b) rfl (ab.bind (ih b (by simp)) λ_ _=>ab.ret trivial)
  refine ab.bif (λh30=>?_) (λ_=>ab.ret trivial);have h30:n.Kind=30:=by simpa using h30
  obtain⟨a,b,c,e⟩:=IE (l:=n.Kids) (by unfold ju at hs;omega);rw[e]at ih⊢;refine ab.bA (v:=b) rfl (ab.bind (ih b (by simp)) λy _=>?_);refine ab.bif (λ_=>?_) (λ_=>ab.ret trivial);exact ab.bA (v:=c) rfl (ab.bind (ih c (by simp)) λ_ _=>ab.ret trivial)
structure CE (B:Nat) (c:cx):Prop where
 dS:cj c.l
 ok:c.l.ok B
 par:∀p∈c.params,1<=p.aX/\p.aX<=4
 num:c.params.length<=B
def EP (B:Nat) (c:cx) (n:az) (w:aP) (y:ae):Prop:=y.At=n.At/\bB B y.aK/\Fit w y.aK/\W c.l c.params y w
def AP (B:Nat) (c:cx) (w:aP) (y:ae):Prop:=bB B y.aK/\∀a,Fit w y.aK->W c.l c.params ⟨y.Op,y.aK,y.N,y.Text,a,y.Kids⟩ w
def EE (B:Nat) (c:cx) (n:az):Prop:=∀w,ea B w->au ((f111 Pf) c n w) (EP B c n w) eo
theorem CA {α β : Type} {L : Int → β → Option (bx α)} {P : α → Prop} {E : AV → Prop} {len : Nat} (Inv : Nat → β → Prop)
    (step : ∀ (i : Nat) b, i < len → Inv i b → (∀ b', Inv (i + 1) b' → au (L ((i + 1 : Nat) : Int) b') P E) → au (L (i : Int) b) P E)
    (stop : ∀ b, Inv len b → au (L (len : Int) b) P E) : ∀ (i : Nat) b, i ≤ len → Inv i b → au (L (i : Int) b) P E := by
  intro i b hi hI
  obtain ⟨k, hk⟩ : ∃ k, len = i + k := ⟨len - i, by omega⟩
  induction k generalizing i b with
  | zero => have : i = len := by omega
            subst this; exact stop b hI
  | succ k ih => exact step i b (by omega) hI fun b' hb' => ih (i + 1) b' (by omega) hb' (by omega)
section
variable {B:Nat} (hB:B<=1048576) {c:cx} (hc:CE B c)
include hB in
theorem adI {n:az} {w:aP} (hw:ea B w) (hA:au ((f177 Pf) c n w) (AP B c w) eo):au ((f111 Pf) c n w) (EP B c n w) eo:=by
 rw[ags,Ah];refine au.aT hA (λy hy=>?_);refine au.bA (O1 hB _ hy.1.ok) ?_;refine au.bA (Dd w) ?_;refine au.bif (λh=>?_) (λh=>?_)
 ·refine au.bind (P3 hB hw.ok) (λb hb=>?_);refine au.bif (λ_=>fH _ _) (λhb'=>?_);have e:w=y.aK:=hb.1 (by simpa using hb');exact au.ret ⟨rfl,hy.1,λ_=>e,hy.2 _ (λ_=>e)⟩
 ·have hf:Fit w y.aK:=λe=>by simp[e]at h
  exact au.ret ⟨rfl,hy.1,hf,hy.2 _ hf⟩
theorem P4 {n x z:az} {a b t:aP} {op:Int} (hn:n.Kids=[x,z]) (hx:EE B c x) (hz:EE B c z) (ha:ea B a) (hb:ea B b):
  au ((f229 Pf) c op n a b t) (λy=>∃u v,y=⟨op,t,0,[],0,[u,v]⟩/\EP B c x a u/\EP B c z b v) eo:=by
 rw[agt,Ai,hn];refine au.bA (v:=x) rfl (au.aT (hx a ha) λu hu=>?_);refine au.bA (v:=z) rfl (au.aT (hz b hb) λv hv=>?_);exact au.ret ⟨u,v,rfl,hu,hv⟩
def TP (B:Nat) (c:cx) (x z:az) (lt:Bool) (r:ae×ae):Prop:=
 (EP B c x (bm 0) r.1/\EP B c z r.1.aK r.2/\(lt=true->r.1.aK.aX=0))\/(EP B c z (bm 0) r.2/\EP B c x r.2.aK r.1/\(lt=true->r.2.aK.aX=0))
theorem FU {n x z:az} {lt:Bool} (wx:WN B x) (wz:WN B z) (hx:EE B c x) (hz:EE B c z):au ((f285 Pf) c n x z lt) (TP B c x z lt) eo:=by
 rw[agu,Aj];refine au.bind (P5 wx) (λo _=>?_);refine au.bif (λ_=>?_) (λ_=>?_)
 ·refine au.bind (P5 wz) (λo _=>?_);refine au.bif (λ_=>fH _ _) (λ_=>?_);refine au.aT (hz (bm 0) (.inl rfl)) (λy hy=>?_);refine au.bif (λhl=>?_) (λhl=>?_)
  ·refine au.bif (λ_=>fH _ _) (λhs=>?_);exact au.aT (hx _ (.inr hy.2.1)) λu hu=>au.ret (.inr ⟨hy,hu,λ_=>by simpa using hs⟩)
  ·exact au.aT (hx _ (.inr hy.2.1)) λu hu=>au.ret (.inr ⟨hy,hu,λe=>by rw[e]at hl;cases hl⟩)
 ·refine au.aT (hx (bm 0) (.inl rfl)) (λy hy=>?_);refine au.bif (λhl=>?_) (λhl=>?_)
  ·refine au.bif (λ_=>fH _ _) (λhs=>?_);exact au.aT (hz _ (.inr hy.2.1)) λu hu=>au.ret (.inl ⟨hy,hu,λ_=>by simpa using hs⟩)
  ·exact au.aT (hz _ (.inr hy.2.1)) λu hu=>au.ret (.inl ⟨hy,hu,λe=>by rw[e]at hl;cases hl⟩)
def OP (B:Nat) (c:cx) (x:az) (ks:List Int) (y:ae):Prop:=EP B c x (bm 0) y/\y.aK.aX=0/\y.aK.aL.Kind∈ks
theorem F7 {n x:az} {ks:List Int} (hk:ks.length<9223372036854775807) (hx:EE B c x):au ((f286 Pf) c n x ks) (OP B c x ks) eo:=by
 rw[agv,Ak];refine au.aT (hx (bm 0) (.inl rfl)) (λy hy=>?_);refine au.bif (λ_=>fH _ _) (λhs=>?_);refine au.bA (HL ks _ hk) ?_;refine au.bif (λ_=>fH _ _) (λhm=>au.ret ⟨hy,by simpa using hs,?_⟩);simp only[MW,FF,beq_iff_eq]at hm;obtain⟨k,h1,h2⟩:=hm;rw[h2];exact h1
theorem CW {op:Int} {t:aP} {n x:az} {ks:List Int} (hk:ks.length<9223372036854775807) (hx:EE B c x):au ((f316 Pf) op t ks c n x) (λy=>∃u,y=⟨op,t,0,[],0,[u]⟩/\OP B c x ks u) eo:=by
 rw[agw,Am];exact au.aT (F7 hk hx) λu hu=>au.ret ⟨u,rfl,hu⟩
theorem lL {t:aP} (h:bB B t) (hs:t.aX=0) {p:ah} (hp:p∈t.aL.aj):bB B (dD p):= .of ((h.dS hs).1.part hp) (sV (h.dS hs).2 hp)
theorem xO {l:ah} (h:cj l) (hk:l.Kind=5):∃p,l.aj=[p]:=uM (by have:=h.shape;unfold gL at this;omega)
theorem xP {l:ah} (h:cj l) (hk:l.Kind=7):∃p q,l.aj=[p,q]:=mQ (by have:=h.shape;unfold gL at this;omega)
theorem To {l:ah} (h:cj l) (hk:l.Kind=6):l.aj.length=l.Names.length:=by have:=h.shape;unfold gL at this;omega
theorem Za {n x:az} {w:aP} (hn:n.Kids=[x]) (hx:EE B c x):au ((f284 Pf) c n) (AP B c w) eo:=by
 rw[agx,An,hn];refine au.bA (v:=x) rfl ?_;refine au.bA (iu 2) (au.bA (iu 1) (au.bA (iu 4) ?_));have seeN:∀(op s:Int) (ks:List Int),(op,s,ks)∈[((31:Int),(1:Int),[(2:Int),3]),(32,2,[1]),(33,4,[5,4,10]),(34,4,[8,9]),(37,2,[8,9])]->au (Bw.aT ((f316 Pf) op (bm s) ks c n x) λy=>some (.ret y)) (AP B c w) eo:=by
  intro op s ks hm;refine au.aT (CW (by simp at hm;rcases hm with⟨_,_,rfl⟩|⟨_,_,rfl⟩|⟨_,_,rfl⟩|⟨_,_,rfl⟩|⟨_,_,rfl⟩<;>simp) hx) (λy hy=>?_);obtain⟨u,rfl,hu⟩:=hy;exact au.ret ⟨bB.sort (by simp at hm;omega),λa hf=> .LD hm hu.1.2.2.2 hu.2.1 hu.2.2 hf⟩
 refine au.bif (λ_=>?_) (λ_=>?_)
 ·refine au.aT (hx (bm 0) (.inl rfl)) (λy hy=>?_);refine au.bif (λh4=>?_) (λh4=>?_)
  ·refine au.bif (λ_=>fH _ _) (λh0=>?_);refine au.bA (HL _ _ (by simp)) ?_;refine au.bif (λ_=>fH _ _) (λhm=>au.ret ⟨bB.sort (by simp),λa hf=> .size hy.2.2.2 (.inr ⟨by simpa using h0,?_⟩) hf⟩);simp at hm;simp;omega
  ·exact au.ret ⟨bB.sort (by simp),λa hf=> .size hy.2.2.2 (.inl (by simpa using h4)) hf⟩
 refine au.bif (λ_=>?_) (λ_=>?_)
 ·refine au.aT (CW (by simp) hx) (λy hy=>?_);obtain⟨u,rfl,hu⟩:=hy;refine au.bA (v:=u) rfl ?_;have h5:u.aK.aL.Kind=5:=by simpa using hu.2.2
  obtain⟨p,hp⟩:=xO (hu.1.2.1.dS hu.2.1).1 h5;rw[hp];refine au.bA (v:=p) rfl ?_;have good:(p.Kind=2\/p.Kind=3)->au (some (bx.ret (⟨30,bm 1,0,[],0,[u]⟩:ae))) (AP B c w) eo:=λhk=>
   au.ret ⟨bB.sort (by simp),λa hf=> .sum (p:=p) hu.1.2.2.2 hu.2.1 h5 (by rw[hp];rfl) hk hf⟩
  refine au.bif (λ_=>?_) (λh=>good (.inl (by simpa using h)));exact au.bif (λ_=>fH _ _) (λh=>good (.inr (by simpa using h)))
 refine au.bif (λ_=>seeN 31 1 _ (by simp)) (λ_=>?_);refine au.bif (λ_=>seeN 32 2 _ (by simp)) (λ_=>?_);refine au.bif (λ_=>seeN 33 4 _ (by simp)) (λ_=>?_);refine au.bif (λ_=>seeN 34 4 _ (by simp)) (λ_=>?_);refine au.bif (λ_=>seeN 37 2 _ (by simp)) (λ_=>?_);refine au.bif (λ_=>?_) (λ_=>?_)
 ·refine au.aT (CW (by simp) hx) (λy hy=>?_);obtain⟨u,rfl,hu⟩:=hy;refine au.bA (v:=u) rfl ?_;have h7:u.aK.aL.Kind=7:=by simpa using hu.2.2
  obtain⟨p,q,hp⟩:=xP (hu.1.2.1.dS hu.2.1).1 h7;rw[hp];refine au.bA (v:=q) rfl (au.bA (of_eq q) ?_);exact au.ret ⟨lL hu.1.2.1 hu.2.1 (by rw[hp];simp),λa hf=> .part (i:=1) (p:=q) (.inr ⟨rfl,rfl⟩) hu.1.2.2.2 hu.2.1 h7 (by rw[hp];rfl) hf⟩
 ·refine au.aT (CW (by simp) hx) (λy hy=>?_);obtain⟨u,rfl,hu⟩:=hy;refine au.bA (v:=u) rfl ?_;have h7:u.aK.aL.Kind=7:=by simpa using hu.2.2
  obtain⟨p,q,hp⟩:=xP (hu.1.2.1.dS hu.2.1).1 h7;rw[hp];refine au.bA (v:=p) rfl (au.bA (of_eq p) ?_);exact au.ret ⟨lL hu.1.2.1 hu.2.1 (by rw[hp];simp),λa hf=> .part (i:=0) (p:=p) (.inl ⟨rfl,rfl⟩) hu.1.2.2.2 hu.2.1 h7 (by rw[hp];rfl) hf⟩
theorem ab' {n:Nat} (h:n<=274877906944):nH (n:Int)=some n:=by
 show(bif Nat.ble n 274877906944 then some n else none)=some n;rw[pR h];rfl
def UN (c:cx) (l:ah) (s3:List ae) (s4:List Bool):Prop:=s3.length=l.aj.length/\s4.length=l.aj.length/\∀(i:Nat) x p,s4[i]? =some true->s3[i]? =some x->l.aj[i]? =some p->W c.l c.params x (dD p)
def RP (c:cx) (l:ah) (ys:List ae):Prop:=ys.length=l.aj.length/\∀(i:Nat) x p,ys[i]? =some x->l.aj[i]? =some p->W c.l c.params x (dD p)
include hB in
theorem aca {n:az} {l:ah} (hl:cj l) (ho:l.ok B) {s4:List Bool} {s3:List ae} (hI:UN c l s3 s4):au ((nB Pf) n l s4 s3 0) (RP c l) eo:=by
 have hlen:l.aj.length<=B:=by rw[ah.dO]at ho;exact ho.2.2.2.2.1.1
 have h:=CA (L:=λi (b:List ae)=>(nB Pf) n l s4 b i) (P:=RP c l) (E:=eo) (len:=l.aj.length) (λi b=>b.length=l.aj.length/\∀(j:Nat) x p,(j<i\/s4[j]? =some true)->b[j]? =some x->l.aj[j]? =some p->W c.l c.params x (dD p)) (λi b hi hJ k=>by
   show au ((nB Pf) n l s4 b i) _ _;rw[Rq,tM,ah.aI,a6];have:decide (i<l.aj.length)=true:=by simpa using hi
   obtain⟨p,hp⟩:=bw hi;obtain⟨f,hf⟩:=bw (l:=s4) (i:=i) (by rw[hI.2.1];exact hi);obtain⟨x,hx⟩:=bw (l:=b) (i:=i) (by rw[hJ.1];exact hi);have hm:=a7 hp;rw[this,aD,bg hp,aw,bg hf,aw,bM i (by omega)];refine au.bif (λh1=>?_) (λh1=>?_)
   ·refine au.bA (O1 hB p (sV ho hm)) (au.bA (of_eq p) (au.bA (nC hx) ?_));rw[lD];refine k _ ⟨by simp[hJ.1],λj y q hj hy hq=>?_⟩;by_cases e:j=i
    ·subst e;rw[MP (by rw[hJ.1];exact hi)]at hy;cases hy;rw[hp]at hq;cases hq;exact .uk rfl (bB.of (hl.part hm) (sV ho hm)).ir
    ·rw[BW (by omega)]at hy;exact hJ.2 j y q (by rcases hj with hj|hj;exact .inl (by omega);exact .inr hj) hy hq
   ·refine k _ ⟨hJ.1,λj y q hj hy hq=>?_⟩;by_cases e:j=i
    ·subst e;have:f=true:=by simpa using h1
     exact hJ.2 j y q (.inr (by rw[hf,this])) hy hq
    ·exact hJ.2 j y q (by rcases hj with hj|hj;exact .inl (by omega);exact .inr hj) hy hq) (λb hJ=>by
   show au ((nB Pf) n l s4 b _) _ _;rw[Rq,tM,ah.aI,a6];have:decide (l.aj.length<l.aj.length)=false:=by simp
   rw[this,aF];exact au.ret ⟨hJ.1,λj x p hx hp=>hJ.2 j x p (.inl (b9.1 hp).1) hx hp⟩) 0 s3 (by omega) ⟨hI.1,λj x p hj hx hp=>by
    rcases hj with hj|hj
    ·omega
    ·exact hI.2.2 j x p hj hx hp⟩
 exact h
include hB in
theorem Z6 {n:az} {l:ah} (hl:cj l) (ho:l.ok B) (h6:l.Kind=6) (hn:n.Kids.length<=B) (h1:∀e∈n.Kids,∃k,e.Kids=[k]/\EE B c k):au ((f283 Pf) c n l) (RP c l) eo:=by
 have hlen:l.aj.length<=B:=by rw[ah.dO]at ho;exact ho.2.2.2.2.1.1
 have hpn:=To hl h6;rw[agy,Ao,ah.aI,ab' (by omega),aw,aw];have h:=CA (L:=λi (b:List ae×List Bool)=>(qD Pf) c n l b.1 b.2 i) (P:=RP c l) (E:=eo) (len:=n.Kids.length) (λi b=>UN c l b.1 b.2) (λi b hi hI k=>by
   show au ((qD Pf) c n l b.1 b.2 i) _ _;rw[Rr,tN,az.aI,a6];have:decide (i<n.Kids.length)=true:=by simpa using hi
   obtain⟨e,he⟩:=bw hi;obtain⟨kd,hk,hE⟩:=h1 e (a7 he);rw[this,aD,bg he,aw,CP _ _ (by omega),aw,bM i (by omega)];refine au.bif (λ_=>fH _ _) (λh2=>?_);obtain⟨j,t,hj,ht,_⟩:=F8 (by simpa using h2);rw[hj];have hjl:j<l.aj.length:=by rw[hpn];exact(b9.1 ht).1
   obtain⟨f,hf⟩:=bw (l:=b.2) (i:=j) (by rw[hI.2.1];exact hjl);obtain⟨x,hx⟩:=bw (l:=b.1) (i:=j) (by rw[hI.1];exact hjl);obtain⟨p,hp⟩:=bw hjl;have hm:=a7 hp;refine au.bA (nC hf) ?_;refine au.bif (λ_=>fH _ _) (λ_=>?_);rw[hk];refine au.bA (v:=kd) rfl (au.bA (nC hp) (au.bA (of_eq p) ?_));refine au.aT (hE (dD p) (.inr (bB.of (hl.part hm) (sV ho hm)))) (λy hy=>?_);refine au.bA (nC hx) (au.bA (nC hf) ?_);rw[lD];refine k (b.1.set j y,b.2.set j true) ⟨by simp[hI.1],by simp[hI.2.1],λq z r h3 h4 h5=>?_⟩;by_cases e:q=j
   ·subst e;simp only at h4;rw[MP (by rw[hI.1];exact hjl)]at h4;cases h4;rw[hp]at h5;cases h5;exact hy.2.2.2
   ·simp only at h3 h4;rw[BW (by omega)]at h3 h4;exact hI.2.2 q z r h3 h4 h5) (λb hI=>by
   show au ((qD Pf) c n l b.1 b.2 _) _ _;rw[Rr,tN,az.aI,a6];have:decide (n.Kids.length<n.Kids.length)=false:=by simp
   rw[this,aF];exact aca hB hl ho hI) 0 (List.replicate l.aj.length ae.z,List.replicate l.aj.length false) (by omega) ⟨by simp,by simp,λi x p hi _ _=>by
    simp[List.getElem?_replicate]at hi⟩
 exact h
