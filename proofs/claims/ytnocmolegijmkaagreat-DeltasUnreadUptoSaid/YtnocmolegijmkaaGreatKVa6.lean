/- Trees of expressions that are well formed; types.bare answers, and what it answers is one. -/
import Derived.Test.YtnocmolegijmkaaGreatKVa1
set_option linter.all false
section
namespace Go.Proofs.YtnocmolegijmkaaGreat
open Go Go.Bw
def gP:List UInt8:=[109,97,112]
def gQ:List UInt8:=[114,101,99]
def kJ (n:aH):List aH:=bif n.Kind==51&&(n.Text==gP||n.Text==gQ)then n.Kids.flatMap (·.Kids)else n.Kids
def jV (n:aH):Prop:=
 (n.Kind=30/\n.Kids.length=3)\/((n.Kind=33\/n.Kind=42)/\n.Kids.length=1)\/
 ((31<=n.Kind/\n.Kind<=43/\n.Kind≠33/\n.Kind≠42)/\n.Kids.length=2)\/(44<=n.Kind/\n.Kind<=50)\/
 (n.Kind=51/\(n.Text=gP->∀e∈n.Kids,e.Kids.length=2)/\(n.Text=gQ->∀e∈n.Kids,e.Kids.length=1))
inductive WN (B:Nat):aH->Prop
 |mk {n:aH}:jV n->n.Kids.length<=B->(n.Kind=44-> -1000000000000000<=n.N/\n.N<=1000000000000000)->(n.Kind=47->NV n.Text)->(∀k∈kJ n,WN B k)->WN B n
theorem EX {D:Type} (l:List D) (z y:D):(l++[z]).set l.length y=l++[y]:=by simp
theorem ab.ind {P:ab->Prop} (h:∀x:ab,(∀k∈x.Kids,P k)->P x):∀x,P x:=by
 intro x;refine ab.rec (motive_1:=P) (motive_2:=λks=>∀k∈ks,P k) ?_ ?_ ?_ x
 ·intro op ty n t a ks ih;exact h ⟨op,ty,n,t,a,ks⟩ ih
 ·intro k hk;cases hk
 ·intro k ks h1 h2 x hx;rcases ck.1 hx with rfl|hx
  ·exact h1
  ·exact h2 x hx
theorem rS {B:Nat} {n:aH} (h:44<=n.Kind/\n.Kind<=50) (hk:n.Kids=[]) (h1:n.Kind=44-> -1000000000000000<=n.N/\n.N<=1000000000000000) (h2:n.Kind=47->NV n.Text):WN B n:=by
 refine .mk (.inr (.inr (.inr (.inl h)))) (by rw[hk];simp) h1 h2 λk hm=>?_;have:(n.Kind==51)=false:=by simp;omega
 rw[kJ,this,hk]at hm;simp at hm
variable {B:Nat} (hB:B<=1048576)
theorem ad3 {ps:List TParam} {x:ab} (hx:x.Text.length<9223372036854775807):ae ((f71 Pf) ps x) (λr=>r.2=true->WN B r.1):=by
 rw[e71,CT,ab.aF,TParam.aF];have no:∀n:aH,ae (some (n,false)) (λr=>r.2=true->WN B r.1):=λn=>ae.ret λe=>by cases e
 refine ae.bif (λ_=>no _) (λ_=>?_);refine ae.bif (λ_=>?_) (λ_=>?_)
 ·refine ae.bif (λh1=>?_) (λ_=>no _);refine ae.bif (λh2=>?_) (λ_=>no _);refine ae.ret λ_=>rS (by simp) rfl (λ_=>?_) (λe=>by simp at e);simp at h1 h2;exact⟨h1,h2⟩
 refine ae.bif (λ_=>?_) (λ_=>?_)
 ·refine ae.bif (λ_=>ae.ret λ_=>rS (by simp) rfl (λe=>by simp at e) (λe=>by simp at e)) (λ_=>?_);exact ae.bif (λ_=>ae.ret λ_=>rS (by simp) rfl (λe=>by simp at e) (λe=>by simp at e)) (λ_=>no _)
 refine ae.bif (λ_=>?_) (λ_=>?_)
 ·rw[lM _ hx,ax];exact ae.bif (λh=>ae.ret λ_=>rS (by simp) rfl (λe=>by simp at e) (λ_=>Jl.1 h)) (λ_=>no _)
 refine ae.bif (λ_=>?_) (λ_=>no _);refine ae.bif (λh1=>?_) (λ_=>no _);refine ae.bif (λh2=>?_) (λ_=>no _);refine ae.bind (ae.idx (by simpa using h1) (by simpa using h2)) (λy _=>?_);exact ae.ret λ_=>rS (by simp) rfl (λe=>by simp at e) (λe=>by simp at e)
theorem aaM (op:Int):ae ((f72 Pf) op) (λr=>r.1≠0->(r.1=30/\r.2=3)\/((r.1=33\/r.1=42)/\r.2=1)\/((31<=r.1/\r.1<=43/\r.1≠33/\r.1≠42)/\r.2=2)\/((r.1=49\/r.1=50)/\r.2=0)):=by
 rw[e72,CU]
 repeat' (first|refine ae.bif (λ_=>?_) (λ_=>?_)|refine ae.ret ?_)
 all_goals simp
theorem acW (op:Int):ae ((f73 Pf) op) (λr=>(r=gP↔op=24)/\(r=gQ↔op=25)):=by
 rw[e73,CW]
 repeat' (first|refine ae.bif (λh=>?_) (λh=>?_)|refine ae.ret ?_)
 all_goals (simp at*;simp[gP,gQ, *])
include hB
theorem abo {x:ab} {ks:List aH} {y:List UInt8} (hy:y=gP) (he:ks.length%2=0) (hl:ks.length<=B) (hk:∀k∈ks,WN B k):ae ((pZ Pf) x ks y [] 0) (λr=>r.2=true->WN B r.1):=by
 have h:=dZ (L:=λi (b:List aH)=>(pZ Pf) x ks y b (2*i)) (P:=λr=>r.2=true->WN B r.1) (len:=ks.length/2) (λi b=>b.length=i/\∀e∈b,e.Kids.length=2/\∀k∈e.Kids,WN B k) (λi b hi hI k=>by
   show ae ((pZ Pf) x ks y b _) _;have e0:(2*(i:Int))=((2*i:Nat):Int):=by omega
   rw[Wi,vm,aH.aF,e0,aW];have:decide (2*i<ks.length)=true:=by simp;omega
   obtain⟨p,hp⟩:=bm (by omega:2*i<ks.length);obtain⟨q,hq⟩:=bm (by omega:2*i+1<ks.length);have e2:IntKind.i64.wrap (((2*i:Nat):Int)+2)=2*((i+1:Nat):Int):=by rw[wrap64 (by omega) (by omega)];omega
   rw[this,aB,a7 hp,ax,bO _ (by omega),a7 hq,ax,e2];have hlen:decide ((b++[({Kind:=52,Text:=[],N:=0,At:=0,Kids:=[p,q]}:aH)]).length<=274877906944)=true:=by simp;omega
   rw[hlen,aB];refine k _ ⟨by simp[hI.1],λe hm=>?_⟩;rcases bU.1 hm with hm|hm
   ·exact hI.2 e hm
   ·simp at hm;subst hm;refine⟨rfl,λz hz=>?_⟩;simp at hz;rcases hz with rfl|rfl
    ·exact hk _ (aY hp)
    ·exact hk _ (aY hq)) (λb hI=>by
   show ae ((pZ Pf) x ks y b _) _;have e0:(2*((ks.length/2:Nat):Int))=((ks.length:Nat):Int):=by omega
   rw[Wi,vm,aH.aF,e0,aW];have:decide (ks.length<ks.length)=false:=by simp
   rw[this,aC];refine ae.ret λ_=> .mk (.inr (.inr (.inr (.inr ⟨rfl,λ_ e he=>(hI.2 e he).1,λe=>?_⟩)))) (by show b.length<=B;omega) (λe=>by simp at e) (λe=>by simp at e) λk hm=>?_
   ·have e:y=gQ:=e;rw[hy]at e;exact absurd e (by decide)
   ·have:((y==gP)=true):=by simp[hy]
    simp only[kJ]at hm;rw[this]at hm;simp at hm;obtain⟨e,h1,h2⟩:=hm;exact(hI.2 e h1).2 k h2) 0 [] (by omega) ⟨rfl,by simp⟩
 simpa using h
theorem ab1 {x:ab} {ks:List aH} {y:List UInt8} (hy:y=gQ) (he:x.aO.aJ.Names.length=ks.length) (hl:ks.length<=B) (hk:∀k∈ks,WN B k):ae ((mB Pf) x ks y [] 0) (λr=>r.2=true->WN B r.1):=by
 have h:=dZ (L:=λi (b:List aH)=>(mB Pf) x ks y b i) (P:=λr=>r.2=true->WN B r.1) (len:=ks.length) (λi b=>b.length<=i/\∀e∈b,e.Kids.length=1/\∀k∈e.Kids,WN B k) (λi b hi hI k=>by
   show ae ((mB Pf) x ks y b _) _;rw[Wj,vn,aH.aF,aW];have:decide (i<ks.length)=true:=by simpa using hi
   obtain⟨p,hp⟩:=bm hi;obtain⟨t,ht⟩:=bm (by omega:i<x.aO.aJ.Names.length);rw[this,aB,a7 hp,ax,a7 ht,bO i (by omega)];simp only[ax];have hlen:decide ((b++[({Kind:=52,Text:=t,N:=0,At:=0,Kids:=[p]}:aH)]).length<=274877906944)=true:=by simp;omega
   rw[hlen];simp only[aB];have more:ae ((mB Pf) x ks y (b++[{Kind:=52,Text:=t,N:=0,At:=0,Kids:=[p]}]) ((i+1:Nat):Int)) (λr=>r.2=true->WN B r.1):=by
    refine k _ ⟨by simp;omega,λe hm=>?_⟩;rcases bU.1 hm with hm|hm
    ·exact hI.2 e hm
    ·simp at hm;subst hm;refine⟨rfl,λz hz=>?_⟩;simp at hz;subst hz;exact hk _ (aY hp)
   refine ae.bif (λ_=>more) (λ_=>ae.bif (λ_=>more) (λ_=>k b ⟨by omega,hI.2⟩))) (λb hI=>by
   show ae ((mB Pf) x ks y b _) _;rw[Wj,vn,aH.aF,aW];have:decide (ks.length<ks.length)=false:=by simp
   rw[this,aC];refine ae.ret λ_=> .mk (.inr (.inr (.inr (.inr ⟨rfl,λe=>?_,λ_ e he=>(hI.2 e he).1⟩)))) (by show b.length<=B;omega) (λe=>by simp at e) (λe=>by simp at e) λk hm=>?_
   ·have e:y=gP:=e;rw[hy]at e;exact absurd e (by decide)
   ·have:((y==gQ)=true):=by simp[hy]
    simp only[kJ]at hm;rw[this]at hm;simp at hm;obtain⟨e,h1,h2⟩:=hm;exact(hI.2 e h1).2 k h2) 0 [] (by omega) ⟨by simp,by simp⟩
 simpa using h
theorem ad4 {ps:List TParam}:∀x:ab,x.ok B->ae ((f33 Pf) ps x) (λr=>r.2=true->WN B r.1):=by
 refine ab.ind λx ih hx=>?_;rw[ab.dA]at hx;obtain⟨_,_,_,ht,_,hkl,hkk⟩:=hx;rw[e33,CX];refine ae.bind (ad3 (B:=B) (by omega)) (λy hy=>?_);refine ae.bif (λh=>ae.ret λ_=>hy h) (λ_=>?_);have no:∀n:aH,ae (some (n,false)) (λr=>r.2=true->WN B r.1):=λn=>ae.ret λe=>by cases e
 have h:=dZ (L:=λi (b:List aH)=>(rK Pf) ps x false i b) (P:=λr=>r.2=true->WN B r.1) (len:=x.Kids.length) (λi b=>b.length=i/\∀k∈b,WN B k) (λi b hi hI k=>by
   show ae ((rK Pf) ps x false i b) _;rw[Wk,vo,ab.aF,aW];have:decide (i<x.Kids.length)=true:=by simpa using hi
   obtain⟨p,hp⟩:=bm hi;have hm:=aY hp;rw[this,aB,a7 hp,ax];refine ae.bind (ih p hm (ab.fU hkk hm)) (λy hy=>?_);refine ae.bif (λ_=>no _) (λh1=>?_);have hlen:decide ((b++[aH.z]).length<=274877906944)=true:=by simp;omega
   rw[hlen,aB,aH.aF,D3,bO i (by omega),mj,EX];have e1:(b++[aH.z])[b.length]? =some aH.z:=by simp
   rw[e1,ax];refine k _ ⟨by simp[hI.1],λz hz=>?_⟩;rcases bU.1 hz with hz|hz
   ·exact hI.2 z hz
   ·simp at hz;subst hz;exact hy (by simpa using h1)) (λb hI=>by
   show ae ((rK Pf) ps x false _ b) _;rw[Wk,vo,ab.aF,aW];have:decide (x.Kids.length<x.Kids.length)=false:=by simp
   rw[this,aC,aH.aF];refine ae.bind (aaM x.Op) (λo ho=>?_);refine ae.bif (λh1=>?_) (λh1=>?_)
   ·have ho:=ho (by simpa using h1);refine ae.bif (λ_=>no _) (λh2=>?_);have h2:o.2=(x.Kids.length:Int):=by simpa using h2
    have good:∀t:List UInt8,WN B {Kind:=o.1,Text:=t,N:=0,At:=x.At,Kids:=b}:=λt=>by
     refine .mk ?_ (by show b.length<=B;omega) (λe=>by have e:o.1=44:=e;omega) (λe=>by have e:o.1=47:=e;omega) λk hm=>?_
     ·rcases ho with⟨a,c⟩|⟨a,c⟩|⟨a,c⟩|⟨a,c⟩
      ·exact .inl ⟨a,by show b.length=3;omega⟩
      ·exact .inr (.inl ⟨a,by show b.length=1;omega⟩)
      ·exact .inr (.inr (.inl ⟨a,by show b.length=2;omega⟩))
      ·exact .inr (.inr (.inr (.inl (by show 44<=o.1/\o.1<=50;omega))))
     ·have:(o.1==51)=false:=by simp;omega
      simp only[kJ]at hm;rw[this]at hm;simp at hm;exact hI.2 k hm
    refine ae.bif (λh3=>?_) (λ_=>ae.ret λ_=>good _);have h3:o.1=42:=by simpa using h3
    have h4:0<x.Kids.length:=by omega
    obtain⟨p,hp⟩:=bm h4;have e0:aq x.Kids 0=some p:=hp;rw[e0,ax];refine ae.bif (λ_=>no _) (λh5=>?_);refine ae.bif (λ_=>no _) (λh6=>?_);refine ae.bind (ae.idx (by simpa using h5) (by rw[bH]at h6;simpa using h6)) (λt _=>ae.ret λ_=>good _)
   ·refine ae.bind (acW x.Op) (λt ht=>?_);refine ae.bif (λh2=>?_) (λh2=>?_)
    ·refine ae.bif (λ_=>no _) (λh3=>?_);refine abo hB (ht.1.2 (by simpa using h2)) ?_ (by omega) hI.2;have h3:((b.length:Int)).tmod 2=0:=by simpa using h3
     rw[Int.tmod_eq_emod_of_nonneg (by omega)]at h3;omega
    refine ae.bif (λh3=>?_) (λh3=>?_)
    ·refine ae.bif (λ_=>no _) (λh4=>?_);refine ab1 hB (ht.2.2 (by simpa using h3)) ?_ (by omega) hI.2;rw[bH]at h4;have h4:(x.aO.aJ.Names.length:Int)=b.length:=by simpa using h4
     omega
    ·refine ae.ret λ_=> .mk (.inr (.inr (.inr (.inr ⟨rfl,λe=>?_,λe=>?_⟩)))) (by show b.length<=B;omega) (λe=>by simp at e) (λe=>by simp at e) λk hm=>?_
     ·have:=ht.1.1 e;simp at h2;omega
     ·have:=ht.2.1 e;simp at h3;omega
     ·have e1:(t==gP)=false:=by
       rw[beq_eq_false_iff_ne];intro e;have:=ht.1.1 e;simp at h2;omega
      have e2:(t==gQ)=false:=by
       rw[beq_eq_false_iff_ne];intro e;have:=ht.2.1 e;simp at h3;omega
      simp only[kJ]at hm;rw[e1,e2]at hm;simp at hm;exact hI.2 k hm) 0 [] (by omega) ⟨rfl,by simp⟩
 simpa using h
end Go.Proofs.YtnocmolegijmkaaGreat
end

section
namespace Go.Proofs.YtnocmolegijmkaaGreat
open Go Go.Bw
def eR (z:AV):Prop:=∃a b:Int,a≠0/\z= .bJ 75 (.agg [.v (.int .i64 a),.v (.int .i64 b)])
theorem eR.ref {z:AV} (h:eR z):dz z=true:=by obtain⟨a,b,_,rfl⟩:=h;rfl
theorem gv {D:Type} {Q:D->Prop} (a b:Int) (ha:a≠0:=by decide):ay (Bw.aT ((f119 Pf) a b) λ_=>(none:Option (bB D))) Q eR:=by
 rw[ajy,Bs];exact⟨_,rfl,a,b,ha,rfl⟩
theorem ctF {D β:Type} {o:Option (bB D)} {g:Int->Int->Option β} {f:D->Option β} {P:D->Prop} {Q:β->Prop} (h:ay o P eR) (hg:∀a b,a≠0->ae (g a b) Q) (hf:∀y,P y->ae (f y) Q):ae (Bw.iK 75 o g f) Q:=by
 obtain⟨r,rfl,h⟩:=h;cases r with
 |ret x=>exact hf x h
 |aS z=>obtain⟨a,b,ha,rfl⟩:=h;simpa[Bw.iK,ru]using hg a b ha
theorem Js (a:List Int) (x:Int) (ha:a.length<9223372036854775807):(f221 Pf) a x=some (a.any λy=>x==y):=by
 have:(f260 Pf) a x=some (idxOf (λy=>x==y) a 0):=by
  rw[ajz,wJ];refine yB (λy=>x==y) (λi y hy hi=>?_) ?_
  ·rw[UG,uP];have:decide ((i:Int)<((dS IntKind.i64 a).length:Int))=true:=by rw[n9];simp;omega
   rw[this,aB,a7 hy,ax,bO i (by omega)]
  ·rw[UG,uP];have:decide ((a.length:Int)<((dS IntKind.i64 a).length:Int))=false:=by rw[n9];simp
   rw[this];rfl
 rw[ajA,Bt,this,ax,HD]
theorem agv (a:List TParam) (n:aH) (ha:a.length<9223372036854775807):(Eh Pf) a n=some (idxOf (λp:TParam=>p.Name==n.Text) a 0):=by
 rw[acV,tE];refine yB (λp:TParam=>p.Name==n.Text) (λi y hy hi=>?_) ?_
 ·rw[Qi,sU,TParam.aF,aW];have:decide (i<a.length)=true:=by simpa using hi
  rw[this,aB,a7 hy,ax,ajB,Bu,ax,bO i (by omega)]
 ·rw[Qi,sU,TParam.aF,aW];have:decide (a.length<a.length)=false:=by simp
  rw[this];rfl
theorem HO {D : Type} {p : D → Bool} {a : List D} (h : ¬ idxOf p a 0 < 0) : ∃ (i : Nat) (x : D), idxOf p a 0 = (i : Int) ∧ a[i]? = some x ∧ p x = true := by
  rcases xN p a 0 with ⟨h1, _⟩ | ⟨i, x, h1, h2, h3, _⟩
  · have e : idxOf p a 0 = -1 := h1
    rw [e] at h; simp at h
  · exact ⟨i, x, by have e : idxOf p a 0 = ((0 + i : Nat) : Int) := h1
                    rw [e]; simp, h2, h3⟩
def bw (B:Nat) (t:aP):Prop:=(1<=t.a6/\t.a6<=4/\t.aJ=l0)\/(t.a6=0/\cx t.aJ/\t.aJ.ok B)
def eV (B:Nat) (t:aP):Prop:=t=bo 0\/bw B t
theorem Xt (B:Nat):l0.ok B:=by rw[ai.dA];simp[l0,ai.fb,Lit.wf];decide
theorem cx.kind {l:ai} (h:cx l):1<=l.Kind/\l.Kind<=10:=by
 have h:=h.shape;unfold iD at h;omega
theorem ue {B:Nat} {l p:ai} (h:l.ok B) (hp:p∈l.ak):p.ok B:=by
 rw[ai.dA]at h;exact ai.fU h.2.2.2.2.1.2 hp
theorem bw.ok {B:Nat} {t:aP} (h:bw B t):t.aJ.ok B:=by
 rcases h with⟨_,_,h⟩|⟨_,_,h⟩
 ·rw[h];exact Xt B
 ·exact h
theorem bw.dP {B:Nat} {t:aP} (h:bw B t):isNone t=false:=by
 rcases h with⟨h1,h2,_⟩|⟨_,h,_⟩
 ·unfold isNone;have:(t.a6==0)=false:=by simp;omega
  rw[this];rfl
 ·have:=h.kind;unfold isNone;have:(t.aJ.Kind==0)=false:=by simp;omega
  rw[this];simp
theorem bw.sort {B:Nat} {n:Int} (h:1<=n/\n<=4):bw B (bo n):= .inl ⟨h.1,h.2,rfl⟩
theorem bw.of {B:Nat} {l:ai} (h:cx l) (ho:l.ok B):bw B (dc l):= .inr ⟨rfl,h,ho⟩
theorem bw.dE {B:Nat} {t:aP} (h:bw B t) (hs:t.a6=0):cx t.aJ/\t.aJ.ok B:=by
 rcases h with⟨h1,_⟩|⟨_,h⟩
 ·omega
 ·exact h
theorem eV.ok {B:Nat} {t:aP} (h:eV B t):t.aJ.ok B:=by
 rcases h with rfl|h
 ·exact Xt B
 ·exact h.ok
theorem eV.some {B:Nat} {t:aP} (h:eV B t) (hn:isNone t=false):bw B t:=by
 rcases h with rfl|h
 ·cases hn
 ·exact h
theorem eV.kind {B:Nat} {t:aP} (h:eV B t) (hs:t.a6=0) (hk:t.aJ.Kind≠0):cx t.aJ/\t.aJ.ok B/\isNone t=false:=by
 rcases h with rfl|h
 ·exact absurd rfl hk
 ·exact⟨(h.dE hs).1,(h.dE hs).2,h.dP⟩
theorem yA:cx fx:=⟨.mk (.inl ⟨.inr rfl,rfl,rfl,rfl,rfl,rfl⟩) (by simp[Bv,fx]) ⟨by simp[fx],by simp[fx,rising],by simp[fx],by simp[fx]⟩ (by simp[fx]) (by simp[fx]) (by simp[fx]),by simp[EW,fx,gJ],by simp[zA,fx,nL]⟩
theorem EU (B:Nat):fx.ok B:=by rw[ai.dA];simp[fx,ai.fb,Lit.wf];decide
theorem oz {D:Type} {l:List D} {i:Nat} {x:D} (h:l[i]? =some x):aq l (i:Int)=some x:=h
theorem Ft {n:aH} (h:n.Kind≠51):kJ n=n.Kids:=by
 have:(n.Kind==51)=false:=by simpa using h
 rw[kJ,this];rfl
theorem vO {D:Type} {l:List D} (h:l.length=1):∃a,l=[a]:=by
 match l,h with|[a],_=>exact⟨a,rfl⟩
theorem nK {D:Type} {l:List D} (h:l.length=2):∃a b,l=[a,b]:=by
 match l,h with|[a,b],_=>exact⟨a,b,rfl⟩
theorem Kg {D:Type} {l:List D} (h:l.length=3):∃a b c,l=[a,b,c]:=by
 match l,h with|[a,b,c],_=>exact⟨a,b,c,rfl⟩
theorem Tb {B:Nat} {n:aH} (h:WN B n):ae ((f262 Pf) n) (λ_=>True):=by
 induction h with
 |mk hs hl h44 h47 hk ih=>
  rename_i n;rw[ajC,Bx];refine ae.bif (λ_=>ae.ret trivial) (λ_=>?_);refine ae.bif (λ_=>?_) (λh51=>?_)
  ·repeat' (first|refine ae.bif (λ_=>ae.ret trivial) (λ_=>?_)|exact ae.ret trivial)
  have h51:n.Kind≠51:=by simpa using h51
  rw[Ft h51]at ih;refine ae.bif (λh39=>?_) (λ_=>?_)
  ·have h39:n.Kind=39:=by simpa using h39
   obtain⟨a,b,e⟩:=nK (l:=n.Kids) (by unfold jV at hs;omega);rw[e]at ih⊢;refine ae.bE (v:=a) rfl (ae.bind (ih a (by simp)) λy _=>?_);refine ae.bif (λ_=>?_) (λ_=>ae.ret trivial);exact ae.bE (v:=b) rfl (ae.bind (ih b (by simp)) λ_ _=>ae.ret trivial)
  refine ae.bif (λh30=>?_) (λ_=>ae.ret trivial);have h30:n.Kind=30:=by simpa using h30
  obtain⟨a,b,c,e⟩:=Kg (l:=n.Kids) (by unfold jV at hs;omega);rw[e]at ih⊢;refine ae.bE (v:=b) rfl (ae.bind (ih b (by simp)) λy _=>?_);refine ae.bif (λ_=>?_) (λ_=>ae.ret trivial);exact ae.bE (v:=c) rfl (ae.bind (ih c (by simp)) λ_ _=>ae.ret trivial)
structure CE (B:Nat) (c:cD):Prop where
 dE:cx c.l
 ok:c.l.ok B
 par:∀p∈c.params,1<=p.a6/\p.a6<=4
 num:c.params.length<=B
def EP (B:Nat) (c:cD) (n:aH) (w:aP) (y:ab):Prop:=y.At=n.At/\bw B y.aO/\Fit w y.aO/\W c.l c.params y w
def AP (B:Nat) (c:cD) (w:aP) (y:ab):Prop:=bw B y.aO/\∀a,Fit w y.aO->W c.l c.params ⟨y.Op,y.aO,y.N,y.Text,a,y.Kids⟩ w
def EE (B:Nat) (c:cD) (n:aH):Prop:=∀w,eV B w->ay ((f78 Pf) c n w) (EP B c n w) eR
theorem Eg {D β : Type} {L : Int → β → Option (bB D)} {P : D → Prop} {E : AV → Prop} {len : Nat} (Inv : Nat → β → Prop)
    (step : ∀ (i : Nat) b, i < len → Inv i b → (∀ b', Inv (i + 1) b' → ay (L ((i + 1 : Nat) : Int) b') P E) → ay (L (i : Int) b) P E)
    (stop : ∀ b, Inv len b → ay (L (len : Int) b) P E) : ∀ (i : Nat) b, i ≤ len → Inv i b → ay (L (i : Int) b) P E := by
  intro i b hi hI
  obtain ⟨k, hk⟩ : ∃ k, len = i + k := ⟨len - i, by omega⟩
  induction k generalizing i b with
  | zero => have : i = len := by omega
            subst this; exact stop b hI
  | succ k ih => exact step i b (by omega) hI fun b' hb' => ih (i + 1) b' (by omega) hb' (by omega)
section
variable {B:Nat} (hB:B<=1048576) {c:cD} (hc:CE B c)
include hB in
theorem afx {n:aH} {w:aP} (hw:eV B w) (hA:ay ((f116 Pf) c n w) (AP B c w) eR):ay ((f78 Pf) c n w) (EP B c n w) eR:=by
 rw[e78,CS];refine ay.aT hA (λy hy=>?_);refine ay.bE (RY hB _ hy.1.ok) ?_;refine ay.bE (EV w) ?_;refine ay.bif (λh=>?_) (λh=>?_)
 ·refine ay.bind (IK hB hw.ok) (λb hb=>?_);refine ay.bif (λ_=>gv _ _) (λhb'=>?_);have e:w=y.aO:=hb.1 (by simpa using hb');exact ay.ret ⟨rfl,hy.1,λ_=>e,hy.2 _ (λ_=>e)⟩
 ·have hf:Fit w y.aO:=λe=>by simp[e]at h
  exact ay.ret ⟨rfl,hy.1,hf,hy.2 _ hf⟩
theorem Ta {n x z:aH} {a b t:aP} {op:Int} (hn:n.Kids=[x,z]) (hx:EE B c x) (hz:EE B c z) (ha:eV B a) (hb:eV B b):
  ay ((f163 Pf) c op n a b t) (λy=>∃u v,y=⟨op,t,0,[],0,[u,v]⟩/\EP B c x a u/\EP B c z b v) eR:=by
 rw[ajs,Bm,hn];refine ay.bE (v:=x) rfl (ay.aT (hx a ha) λu hu=>?_);refine ay.bE (v:=z) rfl (ay.aT (hz b hb) λv hv=>?_);exact ay.ret ⟨u,v,rfl,hu,hv⟩
def TP (B:Nat) (c:cD) (x z:aH) (lt:Bool) (r:ab×ab):Prop:=
 (EP B c x (bo 0) r.1/\EP B c z r.1.aO r.2/\(lt=true->r.1.aO.a6=0))\/(EP B c z (bo 0) r.2/\EP B c x r.2.aO r.1/\(lt=true->r.2.aO.a6=0))
theorem HC {n x z:aH} {lt:Bool} (wx:WN B x) (wz:WN B z) (hx:EE B c x) (hz:EE B c z):ay ((f225 Pf) c n x z lt) (TP B c x z lt) eR:=by
 rw[ajt,Bn];refine ay.bind (Tb wx) (λo _=>?_);refine ay.bif (λ_=>?_) (λ_=>?_)
 ·refine ay.bind (Tb wz) (λo _=>?_);refine ay.bif (λ_=>gv _ _) (λ_=>?_);refine ay.aT (hz (bo 0) (.inl rfl)) (λy hy=>?_);refine ay.bif (λhl=>?_) (λhl=>?_)
  ·refine ay.bif (λ_=>gv _ _) (λhs=>?_);exact ay.aT (hx _ (.inr hy.2.1)) λu hu=>ay.ret (.inr ⟨hy,hu,λ_=>by simpa using hs⟩)
  ·exact ay.aT (hx _ (.inr hy.2.1)) λu hu=>ay.ret (.inr ⟨hy,hu,λe=>by rw[e]at hl;cases hl⟩)
 ·refine ay.aT (hx (bo 0) (.inl rfl)) (λy hy=>?_);refine ay.bif (λhl=>?_) (λhl=>?_)
  ·refine ay.bif (λ_=>gv _ _) (λhs=>?_);exact ay.aT (hz _ (.inr hy.2.1)) λu hu=>ay.ret (.inl ⟨hy,hu,λ_=>by simpa using hs⟩)
  ·exact ay.aT (hz _ (.inr hy.2.1)) λu hu=>ay.ret (.inl ⟨hy,hu,λe=>by rw[e]at hl;cases hl⟩)
def OP (B:Nat) (c:cD) (x:aH) (ks:List Int) (y:ab):Prop:=EP B c x (bo 0) y/\y.aO.a6=0/\y.aO.aJ.Kind∈ks
theorem HN {n x:aH} {ks:List Int} (hk:ks.length<9223372036854775807) (hx:EE B c x):ay ((f226 Pf) c n x ks) (OP B c x ks) eR:=by
 rw[aju,Bo];refine ay.aT (hx (bo 0) (.inl rfl)) (λy hy=>?_);refine ay.bif (λ_=>gv _ _) (λhs=>?_);refine ay.bE (Js ks _ hk) ?_;refine ay.bif (λ_=>gv _ _) (λhm=>ay.ret ⟨hy,by simpa using hs,?_⟩);simp only[PZ,Hq,beq_iff_eq]at hm;obtain⟨k,h1,h2⟩:=hm;rw[h2];exact h1
theorem EB {op:Int} {t:aP} {n x:aH} {ks:List Int} (hk:ks.length<9223372036854775807) (hx:EE B c x):ay ((f261 Pf) op t ks c n x) (λy=>∃u,y=⟨op,t,0,[],0,[u]⟩/\OP B c x ks u) eR:=by
 rw[ajv,Bp];exact ay.aT (HN hk hx) λu hu=>ay.ret ⟨u,rfl,hu⟩
theorem iP {t:aP} (h:bw B t) (hs:t.a6=0) {p:ai} (hp:p∈t.aJ.ak):bw B (dc p):= .of ((h.dE hs).1.part hp) (ue (h.dE hs).2 hp)
theorem zZ {l:ai} (h:cx l) (hk:l.Kind=5):∃p,l.ak=[p]:=vO (by have:=h.shape;unfold iD at this;omega)
theorem z6 {l:ai} (h:cx l) (hk:l.Kind=7):∃p q,l.ak=[p,q]:=nK (by have:=h.shape;unfold iD at this;omega)
theorem Wh {l:ai} (h:cx l) (hk:l.Kind=6):l.ak.length=l.Names.length:=by have:=h.shape;unfold iD at this;omega
theorem aa1 {n x:aH} {w:aP} (hn:n.Kids=[x]) (hx:EE B c x):ay ((f224 Pf) c n) (AP B c w) eR:=by
 rw[ajw,Bq,hn];refine ay.bE (v:=x) rfl ?_;refine ay.bE (jc 2) (ay.bE (jc 1) (ay.bE (jc 4) ?_));have seeN:∀(op s:Int) (ks:List Int),(op,s,ks)∈[((31:Int),(1:Int),[(2:Int),3]),(32,2,[1]),(33,4,[5,4,10]),(34,4,[8,9]),(37,2,[8,9])]->ay (Bw.aT ((f261 Pf) op (bo s) ks c n x) λy=>some (.ret y)) (AP B c w) eR:=by
  intro op s ks hm;refine ay.aT (EB (by simp at hm;rcases hm with⟨_,_,rfl⟩|⟨_,_,rfl⟩|⟨_,_,rfl⟩|⟨_,_,rfl⟩|⟨_,_,rfl⟩<;>simp) hx) (λy hy=>?_);obtain⟨u,rfl,hu⟩:=hy;exact ay.ret ⟨bw.sort (by simp at hm;omega),λa hf=> .sL hm hu.1.2.2.2 hu.2.1 hu.2.2 hf⟩
 refine ay.bif (λ_=>?_) (λ_=>?_)
 ·refine ay.aT (hx (bo 0) (.inl rfl)) (λy hy=>?_);refine ay.bif (λh4=>?_) (λh4=>?_)
  ·refine ay.bif (λ_=>gv _ _) (λh0=>?_);refine ay.bE (Js _ _ (by simp)) ?_;refine ay.bif (λ_=>gv _ _) (λhm=>ay.ret ⟨bw.sort (by simp),λa hf=> .size hy.2.2.2 (.inr ⟨by simpa using h0,?_⟩) hf⟩);simp at hm;simp;omega
  ·exact ay.ret ⟨bw.sort (by simp),λa hf=> .size hy.2.2.2 (.inl (by simpa using h4)) hf⟩
 refine ay.bif (λ_=>?_) (λ_=>?_)
 ·refine ay.aT (EB (by simp) hx) (λy hy=>?_);obtain⟨u,rfl,hu⟩:=hy;refine ay.bE (v:=u) rfl ?_;have h5:u.aO.aJ.Kind=5:=by simpa using hu.2.2
  obtain⟨p,hp⟩:=zZ (hu.1.2.1.dE hu.2.1).1 h5;rw[hp];refine ay.bE (v:=p) rfl ?_;have good:(p.Kind=2\/p.Kind=3)->ay (some (bB.ret (⟨30,bo 1,0,[],0,[u]⟩:ab))) (AP B c w) eR:=λhk=>
   ay.ret ⟨bw.sort (by simp),λa hf=> .sum (p:=p) hu.1.2.2.2 hu.2.1 h5 (by rw[hp];rfl) hk hf⟩
  refine ay.bif (λ_=>?_) (λh=>good (.inl (by simpa using h)));exact ay.bif (λ_=>gv _ _) (λh=>good (.inr (by simpa using h)))
 refine ay.bif (λ_=>seeN 31 1 _ (by simp)) (λ_=>?_);refine ay.bif (λ_=>seeN 32 2 _ (by simp)) (λ_=>?_);refine ay.bif (λ_=>seeN 33 4 _ (by simp)) (λ_=>?_);refine ay.bif (λ_=>seeN 34 4 _ (by simp)) (λ_=>?_);refine ay.bif (λ_=>seeN 37 2 _ (by simp)) (λ_=>?_);refine ay.bif (λ_=>?_) (λ_=>?_)
 ·refine ay.aT (EB (by simp) hx) (λy hy=>?_);obtain⟨u,rfl,hu⟩:=hy;refine ay.bE (v:=u) rfl ?_;have h7:u.aO.aJ.Kind=7:=by simpa using hu.2.2
  obtain⟨p,q,hp⟩:=z6 (hu.1.2.1.dE hu.2.1).1 h7;rw[hp];refine ay.bE (v:=q) rfl (ay.bE (of_eq q) ?_);exact ay.ret ⟨iP hu.1.2.1 hu.2.1 (by rw[hp];simp),λa hf=> .part (i:=1) (p:=q) (.inr ⟨rfl,rfl⟩) hu.1.2.2.2 hu.2.1 h7 (by rw[hp];rfl) hf⟩
 ·refine ay.aT (EB (by simp) hx) (λy hy=>?_);obtain⟨u,rfl,hu⟩:=hy;refine ay.bE (v:=u) rfl ?_;have h7:u.aO.aJ.Kind=7:=by simpa using hu.2.2
  obtain⟨p,q,hp⟩:=z6 (hu.1.2.1.dE hu.2.1).1 h7;rw[hp];refine ay.bE (v:=p) rfl (ay.bE (of_eq p) ?_);exact ay.ret ⟨iP hu.1.2.1 hu.2.1 (by rw[hp];simp),λa hf=> .part (i:=0) (p:=p) (.inl ⟨rfl,rfl⟩) hu.1.2.2.2 hu.2.1 h7 (by rw[hp];rfl) hf⟩
theorem ad1 {n:Nat} (h:n<=274877906944):oC (n:Int)=some n:=by
 show(bif Nat.ble n 274877906944 then some n else none)=some n;rw[qA h];rfl
def XZ (c:cD) (l:ai) (s3:List ab) (s4:List Bool):Prop:=s3.length=l.ak.length/\s4.length=l.ak.length/\∀(i:Nat) x p,s4[i]? =some true->s3[i]? =some x->l.ak[i]? =some p->W c.l c.params x (dc p)
def RP (c:cD) (l:ai) (ys:List ab):Prop:=ys.length=l.ak.length/\∀(i:Nat) x p,ys[i]? =some x->l.ak[i]? =some p->W c.l c.params x (dc p)
include hB in
theorem ad2 {n:aH} {l:ai} (hl:cx l) (ho:l.ok B) {s4:List Bool} {s3:List ab} (hI:XZ c l s3 s4):ay ((oy Pf) n l s4 s3 0) (RP c l) eR:=by
 have hlen:l.ak.length<=B:=by rw[ai.dA]at ho;exact ho.2.2.2.2.1.1
 have h:=Eg (L:=λi (b:List ab)=>(oy Pf) n l s4 b i) (P:=RP c l) (E:=eR) (len:=l.ak.length) (λi b=>b.length=l.ak.length/\∀(j:Nat) x p,(j<i\/s4[j]? =some true)->b[j]? =some x->l.ak[j]? =some p->W c.l c.params x (dc p)) (λi b hi hJ k=>by
   show ay ((oy Pf) n l s4 b i) _ _;rw[UE,uN,ai.aF,aW];have:decide (i<l.ak.length)=true:=by simpa using hi
   obtain⟨p,hp⟩:=bm hi;obtain⟨f,hf⟩:=bm (l:=s4) (i:=i) (by rw[hI.2.1];exact hi);obtain⟨x,hx⟩:=bm (l:=b) (i:=i) (by rw[hJ.1];exact hi);have hm:=aY hp;rw[this,aB,a7 hp,ax,a7 hf,ax,bO i (by omega)];refine ay.bif (λh1=>?_) (λh1=>?_)
   ·refine ay.bE (RY hB p (ue ho hm)) (ay.bE (of_eq p) (ay.bE (oz hx) ?_));rw[mj];refine k _ ⟨by simp[hJ.1],λj y q hj hy hq=>?_⟩;by_cases e:j=i
    ·subst e;rw[PS (by rw[hJ.1];exact hi)]at hy;cases hy;rw[hp]at hq;cases hq;exact .rC rfl (bw.of (hl.part hm) (ue ho hm)).dP
    ·rw[Dv (by omega)]at hy;exact hJ.2 j y q (by rcases hj with hj|hj;exact .inl (by omega);exact .inr hj) hy hq
   ·refine k _ ⟨hJ.1,λj y q hj hy hq=>?_⟩;by_cases e:j=i
    ·subst e;have:f=true:=by simpa using h1
     exact hJ.2 j y q (.inr (by rw[hf,this])) hy hq
    ·exact hJ.2 j y q (by rcases hj with hj|hj;exact .inl (by omega);exact .inr hj) hy hq) (λb hJ=>by
   show ay ((oy Pf) n l s4 b _) _ _;rw[UE,uN,ai.aF,aW];have:decide (l.ak.length<l.ak.length)=false:=by simp
   rw[this,aC];exact ay.ret ⟨hJ.1,λj x p hx hp=>hJ.2 j x p (.inl (cr.1 hp).1) hx hp⟩) 0 s3 (by omega) ⟨hI.1,λj x p hj hx hp=>by
    rcases hj with hj|hj
    ·omega
    ·exact hI.2.2 j x p hj hx hp⟩
 exact h
include hB in
theorem ab0 {n:aH} {l:ai} (hl:cx l) (ho:l.ok B) (h6:l.Kind=6) (hn:n.Kids.length<=B) (h1:∀e∈n.Kids,∃k,e.Kids=[k]/\EE B c k):ay ((f223 Pf) c n l) (RP c l) eR:=by
 have hlen:l.ak.length<=B:=by rw[ai.dA]at ho;exact ho.2.2.2.2.1.1
 have hpn:=Wh hl h6;rw[ajx,Br,ai.aF,ad1 (by omega),ax,ax];have h:=Eg (L:=λi (b:List ab×List Bool)=>(rl Pf) c n l b.1 b.2 i) (P:=RP c l) (E:=eR) (len:=n.Kids.length) (λi b=>XZ c l b.1 b.2) (λi b hi hI k=>by
   show ay ((rl Pf) c n l b.1 b.2 i) _ _;rw[UF,uO,aH.aF,aW];have:decide (i<n.Kids.length)=true:=by simpa using hi
   obtain⟨e,he⟩:=bm hi;obtain⟨kd,hk,hE⟩:=h1 e (aY he);rw[this,aB,a7 he,ax,Ex _ _ (by omega),ax,bO i (by omega)];refine ay.bif (λ_=>gv _ _) (λh2=>?_);obtain⟨j,t,hj,ht,_⟩:=HO (by simpa using h2);rw[hj];have hjl:j<l.ak.length:=by rw[hpn];exact(cr.1 ht).1
   obtain⟨f,hf⟩:=bm (l:=b.2) (i:=j) (by rw[hI.2.1];exact hjl);obtain⟨x,hx⟩:=bm (l:=b.1) (i:=j) (by rw[hI.1];exact hjl);obtain⟨p,hp⟩:=bm hjl;have hm:=aY hp;refine ay.bE (oz hf) ?_;refine ay.bif (λ_=>gv _ _) (λ_=>?_);rw[hk];refine ay.bE (v:=kd) rfl (ay.bE (oz hp) (ay.bE (of_eq p) ?_));refine ay.aT (hE (dc p) (.inr (bw.of (hl.part hm) (ue ho hm)))) (λy hy=>?_);refine ay.bE (oz hx) (ay.bE (oz hf) ?_);rw[mj];refine k (b.1.set j y,b.2.set j true) ⟨by simp[hI.1],by simp[hI.2.1],λq z r h3 h4 h5=>?_⟩;by_cases e:q=j
   ·subst e;simp only at h4;rw[PS (by rw[hI.1];exact hjl)]at h4;cases h4;rw[hp]at h5;cases h5;exact hy.2.2.2
   ·simp only at h3 h4;rw[Dv (by omega)]at h3 h4;exact hI.2.2 q z r h3 h4 h5) (λb hI=>by
   show ay ((rl Pf) c n l b.1 b.2 _) _ _;rw[UF,uO,aH.aF,aW];have:decide (n.Kids.length<n.Kids.length)=false:=by simp
   rw[this,aC];exact ad2 hB hl ho hI) 0 (List.replicate l.ak.length ab.z,List.replicate l.ak.length false) (by omega) ⟨by simp,by simp,λi x p hi _ _=>by
    simp[List.getElem?_replicate]at hi⟩
 exact h
