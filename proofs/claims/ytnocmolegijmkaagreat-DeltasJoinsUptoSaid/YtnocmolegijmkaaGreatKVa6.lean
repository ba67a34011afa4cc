/- Trees of expressions that are well formed; types.bare answers, and what it answers is one. -/
import Derived.Test.YtnocmolegijmkaaGreatKVa1
set_option linter.all false
section
namespace Go.Proofs.YtnocmolegijmkaaGreat
open Go Go.Bw
def ie:List UInt8:=[109,97,112]
def ig:List UInt8:=[114,101,99]
def ln (n:aI):List aI:=bif n.Kind==51&&(n.Text==ie||n.Text==ig)then n.Kids.flatMap (·.Kids)else n.Kids
def ku (n:aI):Prop:=
 (n.Kind=30/\n.Kids.length=3)\/((n.Kind=33\/n.Kind=42)/\n.Kids.length=1)\/
 ((31<=n.Kind/\n.Kind<=43/\n.Kind≠33/\n.Kind≠42)/\n.Kids.length=2)\/(44<=n.Kind/\n.Kind<=50)\/
 (n.Kind=51/\(n.Text=ie->∀e∈n.Kids,e.Kids.length=2)/\(n.Text=ig->∀e∈n.Kids,e.Kids.length=1))
inductive WN (B:Nat):aI->Prop
 |mk {n:aI}:ku n->n.Kids.length<=B->(n.Kind=44-> -1000000000000000<=n.N/\n.N<=1000000000000000)->(n.Kind=47->NV n.Text)->(∀k∈ln n,WN B k)->WN B n
theorem E8 {D:Type} (l:List D) (z y:D):(l++[z]).set l.length y=l++[y]:=by simp
theorem ab.ind {P:ab->Prop} (h:∀x:ab,(∀k∈x.Kids,P k)->P x):∀x,P x:=by
 intro x;refine ab.rec (motive_1:=P) (motive_2:=λks=>∀k∈ks,P k) ?_ ?_ ?_ x
 ·intro op ty n t a ks ih;exact h ⟨op,ty,n,t,a,ks⟩ ih
 ·intro k hk;cases hk
 ·intro k ks h1 h2 x hx;rcases cq.1 hx with rfl|hx
  ·exact h1
  ·exact h2 x hx
theorem su {B:Nat} {n:aI} (h:44<=n.Kind/\n.Kind<=50) (hk:n.Kids=[]) (h1:n.Kind=44-> -1000000000000000<=n.N/\n.N<=1000000000000000) (h2:n.Kind=47->NV n.Text):WN B n:=by
 refine .mk (.inr (.inr (.inr (.inl h)))) (by rw[hk];simp) h1 h2 λk hm=>?_;have:(n.Kind==51)=false:=by simp;omega
 rw[ln,this,hk]at hm;simp at hm
variable {B:Nat} (hB:B<=1048576)
theorem adV {ps:List TParam} {x:ab} (hx:x.Text.length<9223372036854775807):ae ((f71 Pf) ps x) (λr=>r.2=true->WN B r.1):=by
 rw[e71,C0,ab.aH,TParam.aH];have no:∀n:aI,ae (some (n,false)) (λr=>r.2=true->WN B r.1):=λn=>ae.ret λe=>by cases e
 refine ae.bif (λ_=>no _) (λ_=>?_);refine ae.bif (λ_=>?_) (λ_=>?_)
 ·refine ae.bif (λh1=>?_) (λ_=>no _);refine ae.bif (λh2=>?_) (λ_=>no _);refine ae.ret λ_=>su (by simp) rfl (λ_=>?_) (λe=>by simp at e);simp at h1 h2;exact⟨h1,h2⟩
 refine ae.bif (λ_=>?_) (λ_=>?_)
 ·refine ae.bif (λ_=>ae.ret λ_=>su (by simp) rfl (λe=>by simp at e) (λe=>by simp at e)) (λ_=>?_);exact ae.bif (λ_=>ae.ret λ_=>su (by simp) rfl (λe=>by simp at e) (λe=>by simp at e)) (λ_=>no _)
 refine ae.bif (λ_=>?_) (λ_=>?_)
 ·rw[ma _ hx,au];exact ae.bif (λh=>ae.ret λ_=>su (by simp) rfl (λe=>by simp at e) (λ_=>JL.1 h)) (λ_=>no _)
 refine ae.bif (λ_=>?_) (λ_=>no _);refine ae.bif (λh1=>?_) (λ_=>no _);refine ae.bif (λh2=>?_) (λ_=>no _);refine ae.bind (ae.idx (by simpa using h1) (by simpa using h2)) (λy _=>?_);exact ae.ret λ_=>su (by simp) rfl (λe=>by simp at e) (λe=>by simp at e)
theorem aaL (op:Int):ae ((f72 Pf) op) (λr=>r.1≠0->(r.1=30/\r.2=3)\/((r.1=33\/r.1=42)/\r.2=1)\/((31<=r.1/\r.1<=43/\r.1≠33/\r.1≠42)/\r.2=2)\/((r.1=49\/r.1=50)/\r.2=0)):=by
 rw[e72,C1]
 repeat' (first|refine ae.bif (λ_=>?_) (λ_=>?_)|refine ae.ret ?_)
 all_goals simp
theorem acQ (op:Int):ae ((f73 Pf) op) (λr=>(r=ie↔op=24)/\(r=ig↔op=25)):=by
 rw[e73,C2]
 repeat' (first|refine ae.bif (λh=>?_) (λh=>?_)|refine ae.ret ?_)
 all_goals (simp at*;simp[ie,ig, *])
include hB
theorem abm {x:ab} {ks:List aI} {y:List UInt8} (hy:y=ie) (he:ks.length%2=0) (hl:ks.length<=B) (hk:∀k∈ks,WN B k):ae ((qu Pf) x ks y [] 0) (λr=>r.2=true->WN B r.1):=by
 have h:=eo (L:=λi (b:List aI)=>(qu Pf) x ks y b (2*i)) (P:=λr=>r.2=true->WN B r.1) (len:=ks.length/2) (λi b=>b.length=i/\∀e∈b,e.Kids.length=2/\∀k∈e.Kids,WN B k) (λi b hi hI k=>by
   show ae ((qu Pf) x ks y b _) _;have e0:(2*(i:Int))=((2*i:Nat):Int):=by omega
   rw[Vd,vO,aI.aH,e0,a7];have:decide (2*i<ks.length)=true:=by simp;omega
   obtain⟨p,hp⟩:=bo (by omega:2*i<ks.length);obtain⟨q,hq⟩:=bo (by omega:2*i+1<ks.length);have e2:IntKind.i64.wrap (((2*i:Nat):Int)+2)=2*((i+1:Nat):Int):=by rw[wrap64 (by omega) (by omega)];omega
   rw[this,aB,bf hp,au,bW _ (by omega),bf hq,au,e2];have hlen:decide ((b++[({Kind:=52,Text:=[],N:=0,At:=0,Kids:=[p,q]}:aI)]).length<=274877906944)=true:=by simp;omega
   rw[hlen,aB];refine k _ ⟨by simp[hI.1],λe hm=>?_⟩;rcases b7.1 hm with hm|hm
   ·exact hI.2 e hm
   ·simp at hm;subst hm;refine⟨rfl,λz hz=>?_⟩;simp at hz;rcases hz with rfl|rfl
    ·exact hk _ (aV hp)
    ·exact hk _ (aV hq)) (λb hI=>by
   show ae ((qu Pf) x ks y b _) _;have e0:(2*((ks.length/2:Nat):Int))=((ks.length:Nat):Int):=by omega
   rw[Vd,vO,aI.aH,e0,a7];have:decide (ks.length<ks.length)=false:=by simp
   rw[this,aC];refine ae.ret λ_=> .mk (.inr (.inr (.inr (.inr ⟨rfl,λ_ e he=>(hI.2 e he).1,λe=>?_⟩)))) (by show b.length<=B;omega) (λe=>by simp at e) (λe=>by simp at e) λk hm=>?_
   ·have e:y=ig:=e;rw[hy]at e;exact absurd e (by decide)
   ·have:((y==ie)=true):=by simp[hy]
    simp only[ln]at hm;rw[this]at hm;simp at hm;obtain⟨e,h1,h2⟩:=hm;exact(hI.2 e h1).2 k h2) 0 [] (by omega) ⟨rfl,by simp⟩
 simpa using h
theorem abY {x:ab} {ks:List aI} {y:List UInt8} (hy:y=ig) (he:x.aO.aD.Names.length=ks.length) (hl:ks.length<=B) (hk:∀k∈ks,WN B k):ae ((mW Pf) x ks y [] 0) (λr=>r.2=true->WN B r.1):=by
 have h:=eo (L:=λi (b:List aI)=>(mW Pf) x ks y b i) (P:=λr=>r.2=true->WN B r.1) (len:=ks.length) (λi b=>b.length<=i/\∀e∈b,e.Kids.length=1/\∀k∈e.Kids,WN B k) (λi b hi hI k=>by
   show ae ((mW Pf) x ks y b _) _;rw[Ve,vP,aI.aH,a7];have:decide (i<ks.length)=true:=by simpa using hi
   obtain⟨p,hp⟩:=bo hi;obtain⟨t,ht⟩:=bo (by omega:i<x.aO.aD.Names.length);rw[this,aB,bf hp,au,bf ht,bW i (by omega)];simp only[au];have hlen:decide ((b++[({Kind:=52,Text:=t,N:=0,At:=0,Kids:=[p]}:aI)]).length<=274877906944)=true:=by simp;omega
   rw[hlen];simp only[aB];have more:ae ((mW Pf) x ks y (b++[{Kind:=52,Text:=t,N:=0,At:=0,Kids:=[p]}]) ((i+1:Nat):Int)) (λr=>r.2=true->WN B r.1):=by
    refine k _ ⟨by simp;omega,λe hm=>?_⟩;rcases b7.1 hm with hm|hm
    ·exact hI.2 e hm
    ·simp at hm;subst hm;refine⟨rfl,λz hz=>?_⟩;simp at hz;subst hz;exact hk _ (aV hp)
   refine ae.bif (λ_=>more) (λ_=>ae.bif (λ_=>more) (λ_=>k b ⟨by omega,hI.2⟩))) (λb hI=>by
   show ae ((mW Pf) x ks y b _) _;rw[Ve,vP,aI.aH,a7];have:decide (ks.length<ks.length)=false:=by simp
   rw[this,aC];refine ae.ret λ_=> .mk (.inr (.inr (.inr (.inr ⟨rfl,λe=>?_,λ_ e he=>(hI.2 e he).1⟩)))) (by show b.length<=B;omega) (λe=>by simp at e) (λe=>by simp at e) λk hm=>?_
   ·have e:y=ie:=e;rw[hy]at e;exact absurd e (by decide)
   ·have:((y==ig)=true):=by simp[hy]
    simp only[ln]at hm;rw[this]at hm;simp at hm;obtain⟨e,h1,h2⟩:=hm;exact(hI.2 e h1).2 k h2) 0 [] (by omega) ⟨by simp,by simp⟩
 simpa using h
theorem adW {ps:List TParam}:∀x:ab,x.ok B->ae ((f33 Pf) ps x) (λr=>r.2=true->WN B r.1):=by
 refine ab.ind λx ih hx=>?_;rw[ab.dK]at hx;obtain⟨_,_,_,ht,_,hkl,hkk⟩:=hx;rw[e33,C3];refine ae.bind (adV (B:=B) (by omega)) (λy hy=>?_);refine ae.bif (λh=>ae.ret λ_=>hy h) (λ_=>?_);have no:∀n:aI,ae (some (n,false)) (λr=>r.2=true->WN B r.1):=λn=>ae.ret λe=>by cases e
 have h:=eo (L:=λi (b:List aI)=>(se Pf) ps x false i b) (P:=λr=>r.2=true->WN B r.1) (len:=x.Kids.length) (λi b=>b.length=i/\∀k∈b,WN B k) (λi b hi hI k=>by
   show ae ((se Pf) ps x false i b) _;rw[Vf,vQ,ab.aH,a7];have:decide (i<x.Kids.length)=true:=by simpa using hi
   obtain⟨p,hp⟩:=bo hi;have hm:=aV hp;rw[this,aB,bf hp,au];refine ae.bind (ih p hm (ab.gH hkk hm)) (λy hy=>?_);refine ae.bif (λ_=>no _) (λh1=>?_);have hlen:decide ((b++[aI.z]).length<=274877906944)=true:=by simp;omega
   rw[hlen,aB,aI.aH,Eb,bW i (by omega),mH,E8];have e1:(b++[aI.z])[b.length]? =some aI.z:=by simp
   rw[e1,au];refine k _ ⟨by simp[hI.1],λz hz=>?_⟩;rcases b7.1 hz with hz|hz
   ·exact hI.2 z hz
   ·simp at hz;subst hz;exact hy (by simpa using h1)) (λb hI=>by
   show ae ((se Pf) ps x false _ b) _;rw[Vf,vQ,ab.aH,a7];have:decide (x.Kids.length<x.Kids.length)=false:=by simp
   rw[this,aC,aI.aH];refine ae.bind (aaL x.Op) (λo ho=>?_);refine ae.bif (λh1=>?_) (λh1=>?_)
   ·have ho:=ho (by simpa using h1);refine ae.bif (λ_=>no _) (λh2=>?_);have h2:o.2=(x.Kids.length:Int):=by simpa using h2
    have good:∀t:List UInt8,WN B {Kind:=o.1,Text:=t,N:=0,At:=x.At,Kids:=b}:=λt=>by
     refine .mk ?_ (by show b.length<=B;omega) (λe=>by have e:o.1=44:=e;omega) (λe=>by have e:o.1=47:=e;omega) λk hm=>?_
     ·rcases ho with⟨a,c⟩|⟨a,c⟩|⟨a,c⟩|⟨a,c⟩
      ·exact .inl ⟨a,by show b.length=3;omega⟩
      ·exact .inr (.inl ⟨a,by show b.length=1;omega⟩)
      ·exact .inr (.inr (.inl ⟨a,by show b.length=2;omega⟩))
      ·exact .inr (.inr (.inr (.inl (by show 44<=o.1/\o.1<=50;omega))))
     ·have:(o.1==51)=false:=by simp;omega
      simp only[ln]at hm;rw[this]at hm;simp at hm;exact hI.2 k hm
    refine ae.bif (λh3=>?_) (λ_=>ae.ret λ_=>good _);have h3:o.1=42:=by simpa using h3
    have h4:0<x.Kids.length:=by omega
    obtain⟨p,hp⟩:=bo h4;have e0:aj x.Kids 0=some p:=hp;rw[e0,au];refine ae.bif (λ_=>no _) (λh5=>?_);refine ae.bif (λ_=>no _) (λh6=>?_);refine ae.bind (ae.idx (by simpa using h5) (by rw[bN]at h6;simpa using h6)) (λt _=>ae.ret λ_=>good _)
   ·refine ae.bind (acQ x.Op) (λt ht=>?_);refine ae.bif (λh2=>?_) (λh2=>?_)
    ·refine ae.bif (λ_=>no _) (λh3=>?_);refine abm hB (ht.1.2 (by simpa using h2)) ?_ (by omega) hI.2;have h3:((b.length:Int)).tmod 2=0:=by simpa using h3
     rw[Int.tmod_eq_emod_of_nonneg (by omega)]at h3;omega
    refine ae.bif (λh3=>?_) (λh3=>?_)
    ·refine ae.bif (λ_=>no _) (λh4=>?_);refine abY hB (ht.2.2 (by simpa using h3)) ?_ (by omega) hI.2;rw[bN]at h4;have h4:(x.aO.aD.Names.length:Int)=b.length:=by simpa using h4
     omega
    ·refine ae.ret λ_=> .mk (.inr (.inr (.inr (.inr ⟨rfl,λe=>?_,λe=>?_⟩)))) (by show b.length<=B;omega) (λe=>by simp at e) (λe=>by simp at e) λk hm=>?_
     ·have:=ht.1.1 e;simp at h2;omega
     ·have:=ht.2.1 e;simp at h3;omega
     ·have e1:(t==ie)=false:=by
       rw[beq_eq_false_iff_ne];intro e;have:=ht.1.1 e;simp at h2;omega
      have e2:(t==ig)=false:=by
       rw[beq_eq_false_iff_ne];intro e;have:=ht.2.1 e;simp at h3;omega
      simp only[ln]at hm;rw[e1,e2]at hm;simp at hm;exact hI.2 k hm) 0 [] (by omega) ⟨rfl,by simp⟩
 simpa using h
end Go.Proofs.YtnocmolegijmkaaGreat
end

section
namespace Go.Proofs.YtnocmolegijmkaaGreat
open Go Go.Bw
def eZ (z:AV):Prop:=∃a b:Int,a≠0/\z= .bP 75 (.agg [.v (.int .i64 a),.v (.int .i64 b)])
theorem eZ.ref {z:AV} (h:eZ z):dD z=true:=by obtain⟨a,b,_,rfl⟩:=h;rfl
theorem gG {D:Type} {Q:D->Prop} (a b:Int) (ha:a≠0:=by decide):aw (Bw.aU ((f119 Pf) a b) λ_=>(none:Option (bG D))) Q eZ:=by
 rw[ajw,BK];exact⟨_,rfl,a,b,ha,rfl⟩
theorem ctF {D β:Type} {o:Option (bG D)} {g:Int->Int->Option β} {f:D->Option β} {P:D->Prop} {Q:β->Prop} (h:aw o P eZ) (hg:∀a b,a≠0->ae (g a b) Q) (hf:∀y,P y->ae (f y) Q):ae (Bw.iY 75 o g f) Q:=by
 obtain⟨r,rfl,h⟩:=h;cases r with
 |ret x=>exact hf x h
 |aT z=>obtain⟨a,b,ha,rfl⟩:=h;simpa[Bw.iY,rU]using hg a b ha
theorem JS (a:List Int) (x:Int) (ha:a.length<9223372036854775807):(f221 Pf) a x=some (a.any λy=>x==y):=by
 have:(f260 Pf) a x=some (idxOf (λy=>x==y) a 0):=by
  rw[ajx,w7];refine zr (λy=>x==y) (λi y hy hi=>?_) ?_
  ·rw[Ts,vi];have:decide ((i:Int)<((dX IntKind.i64 a).length:Int))=true:=by rw[oK];simp;omega
   rw[this,aB,bf hy,au,bW i (by omega)]
  ·rw[Ts,vi];have:decide ((a.length:Int)<((dX IntKind.i64 a).length:Int))=false:=by rw[oK];simp
   rw[this];rfl
 rw[ajy,BL,this,au,HY]
theorem agl (a:List TParam) (n:aI) (ha:a.length<9223372036854775807):(Eo Pf) a n=some (idxOf (λp:TParam=>p.Name==n.Text) a 0):=by
 rw[acP,uf];refine zr (λp:TParam=>p.Name==n.Text) (λi y hy hi=>?_) ?_
 ·rw[O6,tE,TParam.aH,a7];have:decide (i<a.length)=true:=by simpa using hi
  rw[this,aB,bf hy,au,ajz,BM,au,bW i (by omega)]
 ·rw[O6,tE,TParam.aH,a7];have:decide (a.length<a.length)=false:=by simp
  rw[this];rfl
theorem H' {D : Type} {p : D → Bool} {a : List D} (h : ¬ idxOf p a 0 < 0) : ∃ (i : Nat) (x : D), idxOf p a 0 = (i : Int) ∧ a[i]? = some x ∧ p x = true := by
  rcases yB p a 0 with ⟨h1, _⟩ | ⟨i, x, h1, h2, h3, _⟩
  · have e : idxOf p a 0 = -1 := h1
    rw [e] at h; simp at h
  · exact ⟨i, x, by have e : idxOf p a 0 = ((0 + i : Nat) : Int) := h1
                    rw [e]; simp, h2, h3⟩
def bx (B:Nat) (t:aQ):Prop:=(1<=t.a6/\t.a6<=4/\t.aD=l0)\/(t.a6=0/\cA t.aD/\t.aD.ok B)
def ff (B:Nat) (t:aQ):Prop:=t=br 0\/bx B t
theorem Wg (B:Nat):l0.ok B:=by rw[ag.dK];simp[l0,ag.fp,Lit.wf];decide
theorem cA.kind {l:ag} (h:cA l):1<=l.Kind/\l.Kind<=10:=by
 have h:=h.shape;unfold iQ at h;omega
theorem oR {B:Nat} {l p:ag} (h:l.ok B) (hp:p∈l.ai):p.ok B:=by
 rw[ag.dK]at h;exact ag.gH h.2.2.2.2.1.2 hp
theorem bx.ok {B:Nat} {t:aQ} (h:bx B t):t.aD.ok B:=by
 rcases h with⟨_,_,h⟩|⟨_,_,h⟩
 ·rw[h];exact Wg B
 ·exact h
theorem bx.eW {B:Nat} {t:aQ} (h:bx B t):isNone t=false:=by
 rcases h with⟨h1,h2,_⟩|⟨_,h,_⟩
 ·unfold isNone;have:(t.a6==0)=false:=by simp;omega
  rw[this];rfl
 ·have:=h.kind;unfold isNone;have:(t.aD.Kind==0)=false:=by simp;omega
  rw[this];simp
theorem bx.sort {B:Nat} {n:Int} (h:1<=n/\n<=4):bx B (br n):= .inl ⟨h.1,h.2,rfl⟩
theorem bx.of {B:Nat} {l:ag} (h:cA l) (ho:l.ok B):bx B (cX l):= .inr ⟨rfl,h,ho⟩
theorem bx.dz {B:Nat} {t:aQ} (h:bx B t) (hs:t.a6=0):cA t.aD/\t.aD.ok B:=by
 rcases h with⟨h1,_⟩|⟨_,h⟩
 ·omega
 ·exact h
theorem ff.ok {B:Nat} {t:aQ} (h:ff B t):t.aD.ok B:=by
 rcases h with rfl|h
 ·exact Wg B
 ·exact h.ok
theorem ff.some {B:Nat} {t:aQ} (h:ff B t) (hn:isNone t=false):bx B t:=by
 rcases h with rfl|h
 ·cases hn
 ·exact h
theorem ff.kind {B:Nat} {t:aQ} (h:ff B t) (hs:t.a6=0) (hk:t.aD.Kind≠0):cA t.aD/\t.aD.ok B/\isNone t=false:=by
 rcases h with rfl|h
 ·exact absurd rfl hk
 ·exact⟨(h.dz hs).1,(h.dz hs).2,h.eW⟩
theorem zm:cA fI:=⟨.mk (.inl ⟨.inr rfl,rfl,rfl,rfl,rfl,rfl⟩) (by simp[BN,fI]) ⟨by simp[fI],by simp[fI,rising],by simp[fI],by simp[fI]⟩ (by simp[fI]) (by simp[fI]) (by simp[fI]),by simp[E7,fI,gV],by simp[Aa,fI,ow]⟩
theorem E3 (B:Nat):fI.ok B:=by rw[ag.dK];simp[fI,ag.fp,Lit.wf];decide
theorem oX {D:Type} {l:List D} {i:Nat} {x:D} (h:l[i]? =some x):aj l (i:Int)=some x:=h
theorem FF {n:aI} (h:n.Kind≠51):ln n=n.Kids:=by
 have:(n.Kind==51)=false:=by simpa using h
 rw[ln,this];rfl
theorem wA {D:Type} {l:List D} (h:l.length=1):∃a,l=[a]:=by
 match l,h with|[a],_=>exact⟨a,rfl⟩
theorem ov {D:Type} {l:List D} (h:l.length=2):∃a b,l=[a,b]:=by
 match l,h with|[a,b],_=>exact⟨a,b,rfl⟩
theorem KD {D:Type} {l:List D} (h:l.length=3):∃a b c,l=[a,b,c]:=by
 match l,h with|[a,b,c],_=>exact⟨a,b,c,rfl⟩
theorem RU {B:Nat} {n:aI} (h:WN B n):ae ((f262 Pf) n) (λ_=>True):=by
 induction h with
 |mk hs hl h44 h47 hk ih=>
  rename_i n;rw[ajA,BO];refine ae.bif (λ_=>ae.ret trivial) (λ_=>?_);refine ae.bif (λ_=>?_) (λh51=>?_)
  ·repeat' (first|refine ae.bif (λ_=>ae.ret trivial) (λ_=>?_)|exact ae.ret trivial)
  have h51:n.Kind≠51:=by simpa using h51
  rw[FF h51]at ih;refine ae.bif (λh39=>?_) (λ_=>?_)
  ·have h39:n.Kind=39:=by simpa using h39
   obtain⟨a,b,e⟩:=ov (l:=n.Kids) (by unfold ku at hs;omega);rw[e]at ih⊢;refine ae.bK (v:=a) rfl (ae.bind (ih a (by simp)) λy _=>?_);refine ae.bif (λ_=>?_) (λ_=>ae.ret trivial);exact ae.bK (v:=b) rfl (ae.bind (ih b (by simp)) λ_ _=>ae.ret trivial)
  refine ae.bif (λh30=>?_) (λ_=>ae.ret trivial);have h30:n.Kind=30:=by simpa using h30
  obtain⟨a,b,c,e⟩:=KD (l:=n.Kids) (by unfold ku at hs;omega);rw[e]at ih⊢;refine ae.bK (v:=b) rfl (ae.bind (ih b (by simp)) λy _=>?_);refine ae.bif (λ_=>?_) (λ_=>ae.ret trivial);exact ae.bK (v:=c) rfl (ae.bind (ih c (by simp)) λ_ _=>ae.ret trivial)
structure CE (B:Nat) (c:cI):Prop where
 dz:cA c.l
 ok:c.l.ok B
 par:∀p∈c.params,1<=p.a6/\p.a6<=4
 num:c.params.length<=B
def EP (B:Nat) (c:cI) (n:aI) (w:aQ) (y:ab):Prop:=y.At=n.At/\bx B y.aO/\Fit w y.aO/\W c.l c.params y w
def AP (B:Nat) (c:cI) (w:aQ) (y:ab):Prop:=bx B y.aO/\∀a,Fit w y.aO->W c.l c.params ⟨y.Op,y.aO,y.N,y.Text,a,y.Kids⟩ w
def EE (B:Nat) (c:cI) (n:aI):Prop:=∀w,ff B w->aw ((f78 Pf) c n w) (EP B c n w) eZ
theorem En {D β : Type} {L : Int → β → Option (bG D)} {P : D → Prop} {E : AV → Prop} {len : Nat} (Inv : Nat → β → Prop)
    (step : ∀ (i : Nat) b, i < len → Inv i b → (∀ b', Inv (i + 1) b' → aw (L ((i + 1 : Nat) : Int) b') P E) → aw (L (i : Int) b) P E)
    (stop : ∀ b, Inv len b → aw (L (len : Int) b) P E) : ∀ (i : Nat) b, i ≤ len → Inv i b → aw (L (i : Int) b) P E := by
  intro i b hi hI
  obtain ⟨k, hk⟩ : ∃ k, len = i + k := ⟨len - i, by omega⟩
  induction k generalizing i b with
  | zero => have : i = len := by omega
            subst this; exact stop b hI
  | succ k ih => exact step i b (by omega) hI fun b' hb' => ih (i + 1) b' (by omega) hb' (by omega)
section
variable {B:Nat} (hB:B<=1048576) {c:cI} (hc:CE B c)
include hB in
theorem afn {n:aI} {w:aQ} (hw:ff B w) (hA:aw ((f116 Pf) c n w) (AP B c w) eZ):aw ((f78 Pf) c n w) (EP B c n w) eZ:=by
 rw[e78,CZ];refine aw.aU hA (λy hy=>?_);refine aw.bK (QM hB _ hy.1.ok) ?_;refine aw.bK (E6 w) ?_;refine aw.bif (λh=>?_) (λh=>?_)
 ·refine aw.bind (I6 hB hw.ok) (λb hb=>?_);refine aw.bif (λ_=>gG _ _) (λhb'=>?_);have e:w=y.aO:=hb.1 (by simpa using hb');exact aw.ret ⟨rfl,hy.1,λ_=>e,hy.2 _ (λ_=>e)⟩
 ·have hf:Fit w y.aO:=λe=>by simp[e]at h
  exact aw.ret ⟨rfl,hy.1,hf,hy.2 _ hf⟩
theorem RT {n x z:aI} {a b t:aQ} {op:Int} (hn:n.Kids=[x,z]) (hx:EE B c x) (hz:EE B c z) (ha:ff B a) (hb:ff B b):
  aw ((f163 Pf) c op n a b t) (λy=>∃u v,y=⟨op,t,0,[],0,[u,v]⟩/\EP B c x a u/\EP B c z b v) eZ:=by
 rw[ajq,BE,hn];refine aw.bK (v:=x) rfl (aw.aU (hx a ha) λu hu=>?_);refine aw.bK (v:=z) rfl (aw.aU (hz b hb) λv hv=>?_);exact aw.ret ⟨u,v,rfl,hu,hv⟩
def TP (B:Nat) (c:cI) (x z:aI) (lt:Bool) (r:ab×ab):Prop:=
 (EP B c x (br 0) r.1/\EP B c z r.1.aO r.2/\(lt=true->r.1.aO.a6=0))\/(EP B c z (br 0) r.2/\EP B c x r.2.aO r.1/\(lt=true->r.2.aO.a6=0))
theorem HX {n x z:aI} {lt:Bool} (wx:WN B x) (wz:WN B z) (hx:EE B c x) (hz:EE B c z):aw ((f225 Pf) c n x z lt) (TP B c x z lt) eZ:=by
 rw[ajr,BF];refine aw.bind (RU wx) (λo _=>?_);refine aw.bif (λ_=>?_) (λ_=>?_)
 ·refine aw.bind (RU wz) (λo _=>?_);refine aw.bif (λ_=>gG _ _) (λ_=>?_);refine aw.aU (hz (br 0) (.inl rfl)) (λy hy=>?_);refine aw.bif (λhl=>?_) (λhl=>?_)
  ·refine aw.bif (λ_=>gG _ _) (λhs=>?_);exact aw.aU (hx _ (.inr hy.2.1)) λu hu=>aw.ret (.inr ⟨hy,hu,λ_=>by simpa using hs⟩)
  ·exact aw.aU (hx _ (.inr hy.2.1)) λu hu=>aw.ret (.inr ⟨hy,hu,λe=>by rw[e]at hl;cases hl⟩)
 ·refine aw.aU (hx (br 0) (.inl rfl)) (λy hy=>?_);refine aw.bif (λhl=>?_) (λhl=>?_)
  ·refine aw.bif (λ_=>gG _ _) (λhs=>?_);exact aw.aU (hz _ (.inr hy.2.1)) λu hu=>aw.ret (.inl ⟨hy,hu,λ_=>by simpa using hs⟩)
  ·exact aw.aU (hz _ (.inr hy.2.1)) λu hu=>aw.ret (.inl ⟨hy,hu,λe=>by rw[e]at hl;cases hl⟩)
def OP (B:Nat) (c:cI) (x:aI) (ks:List Int) (y:ab):Prop:=EP B c x (br 0) y/\y.aO.a6=0/\y.aO.aD.Kind∈ks
theorem H9 {n x:aI} {ks:List Int} (hk:ks.length<9223372036854775807) (hx:EE B c x):aw ((f226 Pf) c n x ks) (OP B c x ks) eZ:=by
 rw[ajs,BG];refine aw.aU (hx (br 0) (.inl rfl)) (λy hy=>?_);refine aw.bif (λ_=>gG _ _) (λhs=>?_);refine aw.bK (JS ks _ hk) ?_;refine aw.bif (λ_=>gG _ _) (λhm=>aw.ret ⟨hy,by simpa using hs,?_⟩);simp only[OO,HK,beq_iff_eq]at hm;obtain⟨k,h1,h2⟩:=hm;rw[h2];exact h1
theorem EK {op:Int} {t:aQ} {n x:aI} {ks:List Int} (hk:ks.length<9223372036854775807) (hx:EE B c x):aw ((f261 Pf) op t ks c n x) (λy=>∃u,y=⟨op,t,0,[],0,[u]⟩/\OP B c x ks u) eZ:=by
 rw[ajt,BH];exact aw.aU (H9 hk hx) λu hu=>aw.ret ⟨u,rfl,hu⟩
theorem jd {t:aQ} (h:bx B t) (hs:t.a6=0) {p:ag} (hp:p∈t.aD.ai):bx B (cX p):= .of ((h.dz hs).1.part hp) (oR (h.dz hs).2 hp)
theorem vy {l:ag} (h:cA l) (hk:l.Kind=5):∃p,l.ai=[p]:=wA (by have:=h.shape;unfold iQ at this;omega)
theorem As {l:ag} (h:cA l) (hk:l.Kind=7):∃p q,l.ai=[p,q]:=ov (by have:=h.shape;unfold iQ at this;omega)
theorem Vc {l:ag} (h:cA l) (hk:l.Kind=6):l.ai.length=l.Names.length:=by have:=h.shape;unfold iQ at this;omega
theorem aa0 {n x:aI} {w:aQ} (hn:n.Kids=[x]) (hx:EE B c x):aw ((f224 Pf) c n) (AP B c w) eZ:=by
 rw[aju,BI,hn];refine aw.bK (v:=x) rfl ?_;refine aw.bK (jx 2) (aw.bK (jx 1) (aw.bK (jx 4) ?_));have seeN:∀(op s:Int) (ks:List Int),(op,s,ks)∈[((31:Int),(1:Int),[(2:Int),3]),(32,2,[1]),(33,4,[5,4,10]),(34,4,[8,9]),(37,2,[8,9])]->aw (Bw.aU ((f261 Pf) op (br s) ks c n x) λy=>some (.ret y)) (AP B c w) eZ:=by
  intro op s ks hm;refine aw.aU (EK (by simp at hm;rcases hm with⟨_,_,rfl⟩|⟨_,_,rfl⟩|⟨_,_,rfl⟩|⟨_,_,rfl⟩|⟨_,_,rfl⟩<;>simp) hx) (λy hy=>?_);obtain⟨u,rfl,hu⟩:=hy;exact aw.ret ⟨bx.sort (by simp at hm;omega),λa hf=> .xz hm hu.1.2.2.2 hu.2.1 hu.2.2 hf⟩
 refine aw.bif (λ_=>?_) (λ_=>?_)
 ·refine aw.aU (hx (br 0) (.inl rfl)) (λy hy=>?_);refine aw.bif (λh4=>?_) (λh4=>?_)
  ·refine aw.bif (λ_=>gG _ _) (λh0=>?_);refine aw.bK (JS _ _ (by simp)) ?_;refine aw.bif (λ_=>gG _ _) (λhm=>aw.ret ⟨bx.sort (by simp),λa hf=> .size hy.2.2.2 (.inr ⟨by simpa using h0,?_⟩) hf⟩);simp at hm;simp;omega
  ·exact aw.ret ⟨bx.sort (by simp),λa hf=> .size hy.2.2.2 (.inl (by simpa using h4)) hf⟩
 refine aw.bif (λ_=>?_) (λ_=>?_)
 ·refine aw.aU (EK (by simp) hx) (λy hy=>?_);obtain⟨u,rfl,hu⟩:=hy;refine aw.bK (v:=u) rfl ?_;have h5:u.aO.aD.Kind=5:=by simpa using hu.2.2
  obtain⟨p,hp⟩:=vy (hu.1.2.1.dz hu.2.1).1 h5;rw[hp];refine aw.bK (v:=p) rfl ?_;have good:(p.Kind=2\/p.Kind=3)->aw (some (bG.ret (⟨30,br 1,0,[],0,[u]⟩:ab))) (AP B c w) eZ:=λhk=>
   aw.ret ⟨bx.sort (by simp),λa hf=> .sum (p:=p) hu.1.2.2.2 hu.2.1 h5 (by rw[hp];rfl) hk hf⟩
  refine aw.bif (λ_=>?_) (λh=>good (.inl (by simpa using h)));exact aw.bif (λ_=>gG _ _) (λh=>good (.inr (by simpa using h)))
 refine aw.bif (λ_=>seeN 31 1 _ (by simp)) (λ_=>?_);refine aw.bif (λ_=>seeN 32 2 _ (by simp)) (λ_=>?_);refine aw.bif (λ_=>seeN 33 4 _ (by simp)) (λ_=>?_);refine aw.bif (λ_=>seeN 34 4 _ (by simp)) (λ_=>?_);refine aw.bif (λ_=>seeN 37 2 _ (by simp)) (λ_=>?_);refine aw.bif (λ_=>?_) (λ_=>?_)
 ·refine aw.aU (EK (by simp) hx) (λy hy=>?_);obtain⟨u,rfl,hu⟩:=hy;refine aw.bK (v:=u) rfl ?_;have h7:u.aO.aD.Kind=7:=by simpa using hu.2.2
  obtain⟨p,q,hp⟩:=As (hu.1.2.1.dz hu.2.1).1 h7;rw[hp];refine aw.bK (v:=q) rfl (aw.bK (of_eq q) ?_);exact aw.ret ⟨jd hu.1.2.1 hu.2.1 (by rw[hp];simp),λa hf=> .part (i:=1) (p:=q) (.inr ⟨rfl,rfl⟩) hu.1.2.2.2 hu.2.1 h7 (by rw[hp];rfl) hf⟩
 ·refine aw.aU (EK (by simp) hx) (λy hy=>?_);obtain⟨u,rfl,hu⟩:=hy;refine aw.bK (v:=u) rfl ?_;have h7:u.aO.aD.Kind=7:=by simpa using hu.2.2
  obtain⟨p,q,hp⟩:=As (hu.1.2.1.dz hu.2.1).1 h7;rw[hp];refine aw.bK (v:=p) rfl (aw.bK (of_eq p) ?_);exact aw.ret ⟨jd hu.1.2.1 hu.2.1 (by rw[hp];simp),λa hf=> .part (i:=0) (p:=p) (.inl ⟨rfl,rfl⟩) hu.1.2.2.2 hu.2.1 h7 (by rw[hp];rfl) hf⟩
theorem adT {n:Nat} (h:n<=274877906944):o6 (n:Int)=some n:=by
 show(bif Nat.ble n 274877906944 then some n else none)=some n;rw[qZ h];rfl
def WO (c:cI) (l:ag) (s3:List ab) (s4:List Bool):Prop:=s3.length=l.ai.length/\s4.length=l.ai.length/\∀(i:Nat) x p,s4[i]? =some true->s3[i]? =some x->l.ai[i]? =some p->W c.l c.params x (cX p)
def RP (c:cI) (l:ag) (ys:List ab):Prop:=ys.length=l.ai.length/\∀(i:Nat) x p,ys[i]? =some x->l.ai[i]? =some p->W c.l c.params x (cX p)
include hB in
theorem adU {n:aI} {l:ag} (hl:cA l) (ho:l.ok B) {s4:List Bool} {s3:List ab} (hI:WO c l s3 s4):aw ((oW Pf) n l s4 s3 0) (RP c l) eZ:=by
 have hlen:l.ai.length<=B:=by rw[ag.dK]at ho;exact ho.2.2.2.2.1.1
 have h:=En (L:=λi (b:List ab)=>(oW Pf) n l s4 b i) (P:=RP c l) (E:=eZ) (len:=l.ai.length) (λi b=>b.length=l.ai.length/\∀(j:Nat) x p,(j<i\/s4[j]? =some true)->b[j]? =some x->l.ai[j]? =some p->W c.l c.params x (cX p)) (λi b hi hJ k=>by
   show aw ((oW Pf) n l s4 b i) _ _;rw[Tp,vg,ag.aH,a7];have:decide (i<l.ai.length)=true:=by simpa using hi
   obtain⟨p,hp⟩:=bo hi;obtain⟨f,hf⟩:=bo (l:=s4) (i:=i) (by rw[hI.2.1];exact hi);obtain⟨x,hx⟩:=bo (l:=b) (i:=i) (by rw[hJ.1];exact hi);have hm:=aV hp;rw[this,aB,bf hp,au,bf hf,au,bW i (by omega)];refine aw.bif (λh1=>?_) (λh1=>?_)
   ·refine aw.bK (QM hB p (oR ho hm)) (aw.bK (of_eq p) (aw.bK (oX hx) ?_));rw[mH];refine k _ ⟨by simp[hJ.1],λj y q hj hy hq=>?_⟩;by_cases e:j=i
    ·subst e;rw[OH (by rw[hJ.1];exact hi)]at hy;cases hy;rw[hp]at hq;cases hq;exact .Aq rfl (bx.of (hl.part hm) (oR ho hm)).eW
    ·rw[DI (by omega)]at hy;exact hJ.2 j y q (by rcases hj with hj|hj;exact .inl (by omega);exact .inr hj) hy hq
   ·refine k _ ⟨hJ.1,λj y q hj hy hq=>?_⟩;by_cases e:j=i
    ·subst e;have:f=true:=by simpa using h1
     exact hJ.2 j y q (.inr (by rw[hf,this])) hy hq
    ·exact hJ.2 j y q (by rcases hj with hj|hj;exact .inl (by omega);exact .inr hj) hy hq) (λb hJ=>by
   show aw ((oW Pf) n l s4 b _) _ _;rw[Tp,vg,ag.aH,a7];have:decide (l.ai.length<l.ai.length)=false:=by simp
   rw[this,aC];exact aw.ret ⟨hJ.1,λj x p hx hp=>hJ.2 j x p (.inl (cr.1 hp).1) hx hp⟩) 0 s3 (by omega) ⟨hI.1,λj x p hj hx hp=>by
    rcases hj with hj|hj
    ·omega
    ·exact hI.2.2 j x p hj hx hp⟩
 exact h
include hB in
theorem abX {n:aI} {l:ag} (hl:cA l) (ho:l.ok B) (h6:l.Kind=6) (hn:n.Kids.length<=B) (h1:∀e∈n.Kids,∃k,e.Kids=[k]/\EE B c k):aw ((f223 Pf) c n l) (RP c l) eZ:=by
 have hlen:l.ai.length<=B:=by rw[ag.dK]at ho;exact ho.2.2.2.2.1.1
 have hpn:=Vc hl h6;rw[ajv,BJ,ag.aH,adT (by omega),au,au];have h:=En (L:=λi (b:List ab×List Bool)=>(rP Pf) c n l b.1 b.2 i) (P:=RP c l) (E:=eZ) (len:=n.Kids.length) (λi b=>WO c l b.1 b.2) (λi b hi hI k=>by
   show aw ((rP Pf) c n l b.1 b.2 i) _ _;rw[Tq,vh,aI.aH,a7];have:decide (i<n.Kids.length)=true:=by simpa using hi
   obtain⟨e,he⟩:=bo hi;obtain⟨kd,hk,hE⟩:=h1 e (aV he);rw[this,aB,bf he,au,EG _ _ (by omega),au,bW i (by omega)];refine aw.bif (λ_=>gG _ _) (λh2=>?_);obtain⟨j,t,hj,ht,_⟩:=H' (by simpa using h2);rw[hj];have hjl:j<l.ai.length:=by rw[hpn];exact(cr.1 ht).1
   obtain⟨f,hf⟩:=bo (l:=b.2) (i:=j) (by rw[hI.2.1];exact hjl);obtain⟨x,hx⟩:=bo (l:=b.1) (i:=j) (by rw[hI.1];exact hjl);obtain⟨p,hp⟩:=bo hjl;have hm:=aV hp;refine aw.bK (oX hf) ?_;refine aw.bif (λ_=>gG _ _) (λ_=>?_);rw[hk];refine aw.bK (v:=kd) rfl (aw.bK (oX hp) (aw.bK (of_eq p) ?_));refine aw.aU (hE (cX p) (.inr (bx.of (hl.part hm) (oR ho hm)))) (λy hy=>?_);refine aw.bK (oX hx) (aw.bK (oX hf) ?_);rw[mH];refine k (b.1.set j y,b.2.set j true) ⟨by simp[hI.1],by simp[hI.2.1],λq z r h3 h4 h5=>?_⟩;by_cases e:q=j
   ·subst e;simp only at h4;rw[OH (by rw[hI.1];exact hjl)]at h4;cases h4;rw[hp]at h5;cases h5;exact hy.2.2.2
   ·simp only at h3 h4;rw[DI (by omega)]at h3 h4;exact hI.2.2 q z r h3 h4 h5) (λb hI=>by
   show aw ((rP Pf) c n l b.1 b.2 _) _ _;rw[Tq,vh,aI.aH,a7];have:decide (n.Kids.length<n.Kids.length)=false:=by simp
   rw[this,aC];exact adU hB hl ho hI) 0 (List.replicate l.ai.length ab.z,List.replicate l.ai.length false) (by omega) ⟨by simp,by simp,λi x p hi _ _=>by
    simp[List.getElem?_replicate]at hi⟩
 exact h
