/- Trees of expressions that are well formed; types.bare answers, and what it answers is one. -/
import Derived.Test.YtnocmolegijmkaaGreatKVa1
set_option linter.all false
section
namespace Go.Proofs.YtnocmolegijmkaaGreat
open Go Go.Bw
def dD:List UInt8:=[109,97,112]
def dc:List UInt8:=[114,101,99]
def fj (n:af):List af:=bif n.Kind==51&&(n.Text==dD||n.Text==dc)then n.Kids.flatMap (·.Kids)else n.Kids
def dL (n:af):Prop:=
 (n.Kind=30/\n.Kids.length=3)\/((n.Kind=33\/n.Kind=42)/\n.Kids.length=1)\/
 ((31<=n.Kind/\n.Kind<=43/\n.Kind≠33/\n.Kind≠42)/\n.Kids.length=2)\/(44<=n.Kind/\n.Kind<=50)\/
 (n.Kind=51/\(n.Text=dD->∀e∈n.Kids,e.Kids.length=2)/\(n.Text=dc->∀e∈n.Kids,e.Kids.length=1))
inductive WN (B:Nat):af->Prop
 |mk {n:af}:dL n->n.Kids.length<=B->(n.Kind=44-> -1000000000000000<=n.N/\n.N<=1000000000000000)->(n.Kind=47->NV n.Text)->(∀k∈fj n,WN B k)->WN B n
theorem ly {D:Type} (l:List D) (z y:D):(l++[z]).set l.length y=l++[y]:=by simp
theorem ab.ind {P:ab->Prop} (h:∀x:ab,(∀k∈x.Kids,P k)->P x):∀x,P x:=by
 intro x;refine ab.rec (motive_1:=P) (motive_2:=λks=>∀k∈ks,P k) ?_ ?_ ?_ x
 ·intro op ty n t a ks ih;exact h ⟨op,ty,n,t,a,ks⟩ ih
 ·intro k hk;cases hk
 ·intro k ks h1 h2 x hx;rcases cu.1 hx with rfl|hx
  ·exact h1
  ·exact h2 x hx
theorem rA {B:Nat} {n:af} (h:44<=n.Kind/\n.Kind<=50) (hk:n.Kids=[]) (h1:n.Kind=44-> -1000000000000000<=n.N/\n.N<=1000000000000000) (h2:n.Kind=47->NV n.Text):WN B n:=by
 refine .mk (.inr (.inr (.inr (.inl h)))) (by rw[hk];simp) h1 h2 λk hm=>?_;have:(n.Kind==51)=false:=by simp;omega
 rw[fj,this,hk]at hm;simp at hm
variable {B:Nat} (hB:B<=1048576)
theorem V7 {ps:List TParam} {x:ab} (hx:x.Text.length<9223372036854775807):ag ((vt Pu) ps x) (λr=>r.2=true->WN B r.1):=by
 rw[sB,mI,ab.aB,TParam.aB];have no:∀n:af,ag (some (n,false)) (λr=>r.2=true->WN B r.1):=λn=>ag.ret λe=>by cases e
 refine ag.bif (λ_=>no _) (λ_=>?_);refine ag.bif (λ_=>?_) (λ_=>?_)
 ·refine ag.bif (λh1=>?_) (λ_=>no _);refine ag.bif (λh2=>?_) (λ_=>no _);refine ag.ret λ_=>rA (by simp) rfl (λ_=>?_) (λe=>by simp at e);simp at h1 h2;exact⟨h1,h2⟩
 refine ag.bif (λ_=>?_) (λ_=>?_)
 ·refine ag.bif (λ_=>ag.ret λ_=>rA (by simp) rfl (λe=>by simp at e) (λe=>by simp at e)) (λ_=>?_);exact ag.bif (λ_=>ag.ret λ_=>rA (by simp) rfl (λe=>by simp at e) (λe=>by simp at e)) (λ_=>no _)
 refine ag.bif (λ_=>?_) (λ_=>?_)
 ·rw[mY _ hx,aq];exact ag.bif (λh=>ag.ret λ_=>rA (by simp) rfl (λe=>by simp at e) (λ_=>BR.1 h)) (λ_=>no _)
 refine ag.bif (λ_=>?_) (λ_=>no _);refine ag.bif (λh1=>?_) (λ_=>no _);refine ag.bif (λh2=>?_) (λ_=>no _);refine ag.bind (ag.idx (by simpa using h1) (by simpa using h2)) (λy _=>?_);exact ag.ret λ_=>rA (by simp) rfl (λe=>by simp at e) (λe=>by simp at e)
theorem Tp (op:Int):ag ((kn Pu) op) (λr=>r.1≠0->(r.1=30/\r.2=3)\/((r.1=33\/r.1=42)/\r.2=1)\/((31<=r.1/\r.1<=43/\r.1≠33/\r.1≠42)/\r.2=2)\/((r.1=49\/r.1=50)/\r.2=0)):=by
 rw[mL,jF]
 repeat' (first|refine ag.bif (λ_=>?_) (λ_=>?_)|refine ag.ret ?_)
 all_goals simp
theorem LC (op:Int):ag ((ko Pu) op) (λr=>(r=dD↔op=24)/\(r=dc↔op=25)):=by
 rw[zJ,oR]
 repeat' (first|refine ag.bif (λh=>?_) (λh=>?_)|refine ag.ret ?_)
 all_goals (simp at*;simp[dD,dc, *])
include hB
theorem TW {x:ab} {ks:List af} {y:List UInt8} (hy:y=dD) (he:ks.length%2=0) (hl:ks.length<=B) (hk:∀k∈ks,WN B k):ag ((kN Pu) x ks y [] 0) (λr=>r.2=true->WN B r.1):=by
 have h:=eS (L:=λi (b:List af)=>(kN Pu) x ks y b (2*i)) (P:=λr=>r.2=true->WN B r.1) (len:=ks.length/2) (λi b=>b.length=i/\∀e∈b,e.Kids.length=2/\∀k∈e.Kids,WN B k) (λi b hi hI k=>by
   show ag ((kN Pu) x ks y b _) _;have e0:(2*(i:Int))=((2*i:Nat):Int):=by omega
   rw[B4,pO,af.aB,e0,aU];have:decide (2*i<ks.length)=true:=by simp;omega
   obtain⟨p,hp⟩:=bg (by omega:2*i<ks.length);obtain⟨q,hq⟩:=bg (by omega:2*i+1<ks.length);have e2:IntKind.i64.wrap (((2*i:Nat):Int)+2)=2*((i+1:Nat):Int):=by rw[wrap64 (by omega) (by omega)];omega
   rw[this,aO,bc hp,aq,bO _ (by omega),bc hq,aq,e2];have hlen:decide ((b++[({Kind:=52,Text:=[],N:=0,At:=0,Kids:=[p,q]}:af)]).length<=274877906944)=true:=by simp;omega
   rw[hlen,aO];refine k _ ⟨by simp[hI.1],λe hm=>?_⟩;rcases cL.1 hm with hm|hm
   ·exact hI.2 e hm
   ·simp at hm;subst hm;refine⟨rfl,λz hz=>?_⟩;simp at hz;rcases hz with rfl|rfl
    ·exact hk _ (bh hp)
    ·exact hk _ (bh hq)) (λb hI=>by
   show ag ((kN Pu) x ks y b _) _;have e0:(2*((ks.length/2:Nat):Int))=((ks.length:Nat):Int):=by omega
   rw[B4,pO,af.aB,e0,aU];have:decide (ks.length<ks.length)=false:=by simp
   rw[this,a6];refine ag.ret λ_=> .mk (.inr (.inr (.inr (.inr ⟨rfl,λ_ e he=>(hI.2 e he).1,λe=>?_⟩)))) (by show b.length<=B;omega) (λe=>by simp at e) (λe=>by simp at e) λk hm=>?_
   ·have e:y=dc:=e;rw[hy]at e;exact absurd e (by decide)
   ·have:((y==dD)=true):=by simp[hy]
    simp only[fj]at hm;rw[this]at hm;simp at hm;obtain⟨e,h1,h2⟩:=hm;exact(hI.2 e h1).2 k h2) 0 [] (by omega) ⟨rfl,by simp⟩
 simpa using h
theorem Uy {x:ab} {ks:List af} {y:List UInt8} (hy:y=dc) (he:x.aj.ai.Names.length=ks.length) (hl:ks.length<=B) (hk:∀k∈ks,WN B k):ag ((jk Pu) x ks y [] 0) (λr=>r.2=true->WN B r.1):=by
 have h:=eS (L:=λi (b:List af)=>(jk Pu) x ks y b i) (P:=λr=>r.2=true->WN B r.1) (len:=ks.length) (λi b=>b.length<=i/\∀e∈b,e.Kids.length=1/\∀k∈e.Kids,WN B k) (λi b hi hI k=>by
   show ag ((jk Pu) x ks y b _) _;rw[B5,pP,af.aB,aU];have:decide (i<ks.length)=true:=by simpa using hi
   obtain⟨p,hp⟩:=bg hi;obtain⟨t,ht⟩:=bg (by omega:i<x.aj.ai.Names.length);rw[this,aO,bc hp,aq,bc ht,bO i (by omega)];simp only[aq];have hlen:decide ((b++[({Kind:=52,Text:=t,N:=0,At:=0,Kids:=[p]}:af)]).length<=274877906944)=true:=by simp;omega
   rw[hlen];simp only[aO];have more:ag ((jk Pu) x ks y (b++[{Kind:=52,Text:=t,N:=0,At:=0,Kids:=[p]}]) ((i+1:Nat):Int)) (λr=>r.2=true->WN B r.1):=by
    refine k _ ⟨by simp;omega,λe hm=>?_⟩;rcases cL.1 hm with hm|hm
    ·exact hI.2 e hm
    ·simp at hm;subst hm;refine⟨rfl,λz hz=>?_⟩;simp at hz;subst hz;exact hk _ (bh hp)
   refine ag.bif (λ_=>more) (λ_=>ag.bif (λ_=>more) (λ_=>k b ⟨by omega,hI.2⟩))) (λb hI=>by
   show ag ((jk Pu) x ks y b _) _;rw[B5,pP,af.aB,aU];have:decide (ks.length<ks.length)=false:=by simp
   rw[this,a6];refine ag.ret λ_=> .mk (.inr (.inr (.inr (.inr ⟨rfl,λe=>?_,λ_ e he=>(hI.2 e he).1⟩)))) (by show b.length<=B;omega) (λe=>by simp at e) (λe=>by simp at e) λk hm=>?_
   ·have e:y=dD:=e;rw[hy]at e;exact absurd e (by decide)
   ·have:((y==dc)=true):=by simp[hy]
    simp only[fj]at hm;rw[this]at hm;simp at hm;obtain⟨e,h1,h2⟩:=hm;exact(hI.2 e h1).2 k h2) 0 [] (by omega) ⟨by simp,by simp⟩
 simpa using h
theorem V4 {ps:List TParam}:∀x:ab,x.ok B->ag ((nU Pu) ps x) (λr=>r.2=true->WN B r.1):=by
 refine ab.ind λx ih hx=>?_;rw[ab.cM]at hx;obtain⟨_,_,_,ht,_,hkl,hkk⟩:=hx;rw[JQ,su];refine ag.bind (V7 (B:=B) (by omega)) (λy hy=>?_);refine ag.bif (λh=>ag.ret λ_=>hy h) (λ_=>?_);have no:∀n:af,ag (some (n,false)) (λr=>r.2=true->WN B r.1):=λn=>ag.ret λe=>by cases e
 have h:=eS (L:=λi (b:List af)=>(iA Pu) ps x false i b) (P:=λr=>r.2=true->WN B r.1) (len:=x.Kids.length) (λi b=>b.length=i/\∀k∈b,WN B k) (λi b hi hI k=>by
   show ag ((iA Pu) ps x false i b) _;rw[B6,pN,ab.aB,aU];have:decide (i<x.Kids.length)=true:=by simpa using hi
   obtain⟨p,hp⟩:=bg hi;have hm:=bh hp;rw[this,aO,bc hp,aq];refine ag.bind (ih p hm (ab.gF hkk hm)) (λy hy=>?_);refine ag.bif (λ_=>no _) (λh1=>?_);have hlen:decide ((b++[af.z]).length<=274877906944)=true:=by simp;omega
   rw[hlen,aO,af.aB,lY,bO i (by omega),fv,ly];have e1:(b++[af.z])[b.length]? =some af.z:=by simp
   rw[e1,aq];refine k _ ⟨by simp[hI.1],λz hz=>?_⟩;rcases cL.1 hz with hz|hz
   ·exact hI.2 z hz
   ·simp at hz;subst hz;exact hy (by simpa using h1)) (λb hI=>by
   show ag ((iA Pu) ps x false _ b) _;rw[B6,pN,ab.aB,aU];have:decide (x.Kids.length<x.Kids.length)=false:=by simp
   rw[this,a6,af.aB];refine ag.bind (Tp x.Op) (λo ho=>?_);refine ag.bif (λh1=>?_) (λh1=>?_)
   ·have ho:=ho (by simpa using h1);refine ag.bif (λ_=>no _) (λh2=>?_);have h2:o.2=(x.Kids.length:Int):=by simpa using h2
    have good:∀t:List UInt8,WN B {Kind:=o.1,Text:=t,N:=0,At:=x.At,Kids:=b}:=λt=>by
     refine .mk ?_ (by show b.length<=B;omega) (λe=>by have e:o.1=44:=e;omega) (λe=>by have e:o.1=47:=e;omega) λk hm=>?_
     ·rcases ho with⟨a,c⟩|⟨a,c⟩|⟨a,c⟩|⟨a,c⟩
      ·exact .inl ⟨a,by show b.length=3;omega⟩
      ·exact .inr (.inl ⟨a,by show b.length=1;omega⟩)
      ·exact .inr (.inr (.inl ⟨a,by show b.length=2;omega⟩))
      ·exact .inr (.inr (.inr (.inl (by show 44<=o.1/\o.1<=50;omega))))
     ·have:(o.1==51)=false:=by simp;omega
      simp only[fj]at hm;rw[this]at hm;simp at hm;exact hI.2 k hm
    refine ag.bif (λh3=>?_) (λ_=>ag.ret λ_=>good _);have h3:o.1=42:=by simpa using h3
    have h4:0<x.Kids.length:=by omega
    obtain⟨p,hp⟩:=bg h4;have e0:ao x.Kids 0=some p:=hp;rw[e0,aq];refine ag.bif (λ_=>no _) (λh5=>?_);refine ag.bif (λ_=>no _) (λh6=>?_);refine ag.bind (ag.idx (by simpa using h5) (by rw[cv]at h6;simpa using h6)) (λt _=>ag.ret λ_=>good _)
   ·refine ag.bind (LC x.Op) (λt ht=>?_);refine ag.bif (λh2=>?_) (λh2=>?_)
    ·refine ag.bif (λ_=>no _) (λh3=>?_);refine TW hB (ht.1.2 (by simpa using h2)) ?_ (by omega) hI.2;have h3:((b.length:Int)).tmod 2=0:=by simpa using h3
     rw[Te (by omega)]at h3;omega
    refine ag.bif (λh3=>?_) (λh3=>?_)
    ·refine ag.bif (λ_=>no _) (λh4=>?_);refine Uy hB (ht.2.2 (by simpa using h3)) ?_ (by omega) hI.2;rw[cv]at h4;have h4:(x.aj.ai.Names.length:Int)=b.length:=by simpa using h4
     omega
    ·refine ag.ret λ_=> .mk (.inr (.inr (.inr (.inr ⟨rfl,λe=>?_,λe=>?_⟩)))) (by show b.length<=B;omega) (λe=>by simp at e) (λe=>by simp at e) λk hm=>?_
     ·have:=ht.1.1 e;simp at h2;omega
     ·have:=ht.2.1 e;simp at h3;omega
     ·have e1:(t==dD)=false:=by
       rw[beq_eq_false_iff_ne];intro e;have:=ht.1.1 e;simp at h2;omega
      have e2:(t==dc)=false:=by
       rw[beq_eq_false_iff_ne];intro e;have:=ht.2.1 e;simp at h3;omega
      simp only[fj]at hm;rw[e1,e2]at hm;simp at hm;exact hI.2 k hm) 0 [] (by omega) ⟨rfl,by simp⟩
 simpa using h
end Go.Proofs.YtnocmolegijmkaaGreat
end

section
namespace Go.Proofs.YtnocmolegijmkaaGreat
open Go Go.Bw
def dX (z:AV):Prop:=∃a b:Int,a≠0/\z= .bA 75 (.agg [.v (.int .i64 a),.v (.int .i64 b)])
theorem dX.ref {z:AV} (h:dX z):cR z=true:=by obtain⟨a,b,_,rfl⟩:=h;rfl
theorem fI {D:Type} {Q:D->Prop} (a b:Int) (ha:a≠0:=by decide):ae (Bw.aA ((dg Pu) a b) λ_=>(none:Option (aR D))) Q dX:=by
 rw[lJ,iW];exact⟨_,rfl,a,b,ha,rfl⟩
theorem ctF {D β:Type} {o:Option (aR D)} {g:Int->Int->Option β} {f:D->Option β} {P:D->Prop} {Q:β->Prop} (h:ae o P dX) (hg:∀a b,a≠0->ag (g a b) Q) (hf:∀y,P y->ag (f y) Q):ag (Bw.gM 75 o g f) Q:=by
 obtain⟨r,rfl,h⟩:=h;cases r with
 |ret x=>exact hf x h
 |aM z=>obtain⟨a,b,ha,rfl⟩:=h;simpa[Bw.gM,rb]using hg a b ha
theorem kJ (a:List Int) (x:Int) (ha:a.length<9223372036854775807):(nN Pu) a x=some (a.any λy=>x==y):=by
 have:(CF Pu) a x=some (idxOf (λy=>x==y) a 0):=by
  rw[abU,uV];refine Bi (λy=>x==y) (λi y hy hi=>?_) ?_
  ·rw[MV,tp];have:decide ((i:Int)<((ep IntKind.i64 a).length:Int))=true:=by rw[qD];simp;omega
   rw[this,aO,bc hy,aq,bO i (by omega)]
  ·rw[MV,tp];have:decide ((a.length:Int)<((ep IntKind.i64 a).length:Int))=false:=by rw[qD];simp
   rw[this];rfl
 rw[abV,xP,this,aq,D3]
theorem Fz (a:List TParam) (n:af) (ha:a.length<9223372036854775807):(wh Pu) a n=some (idxOf (λp:TParam=>p.Name==n.Text) a 0):=by
 rw[U9,sW];refine Bi (λp:TParam=>p.Name==n.Text) (λi y hy hi=>?_) ?_
 ·rw[Kl,sH,TParam.aB,aU];have:decide (i<a.length)=true:=by simpa using hi
  rw[this,aO,bc hy,aq,abS,xN,aq,bO i (by omega)]
 ·rw[Kl,sH,TParam.aB,aU];have:decide (a.length<a.length)=false:=by simp
  rw[this];rfl
theorem AB {D : Type} {p : D → Bool} {a : List D} (h : ¬ idxOf p a 0 < 0) : ∃ (i : Nat) (x : D), idxOf p a 0 = (i : Int) ∧ a[i]? = some x ∧ p x = true := by
  rcases qC p a 0 with ⟨h1, _⟩ | ⟨i, x, h1, h2, h3, _⟩
  · have e : idxOf p a 0 = -1 := h1
    rw [e] at h; simp at h
  · exact ⟨i, x, by have e : idxOf p a 0 = ((0 + i : Nat) : Int) := h1
                    rw [e]; simp, h2, h3⟩
def a7 (B:Nat) (t:ay):Prop:=(1<=t.aK/\t.aK<=4/\t.ai=l0)\/(t.aK=0/\ef t.ai/\t.ai.ok B)
def bW (B:Nat) (t:ay):Prop:=t=aL 0\/a7 B t
theorem PK (B:Nat):l0.ok B:=by rw[ah.cM];simp[l0,ah.gu,Lit.wf];decide
theorem ef.kind {l:ah} (h:ef l):1<=l.Kind/\l.Kind<=10:=by
 have h:=h.shape;unfold eT at h;omega
theorem q8 {B:Nat} {l p:ah} (h:l.ok B) (hp:p∈l.aw):p.ok B:=by
 rw[ah.cM]at h;exact ah.gF h.2.2.2.2.1.2 hp
theorem a7.ok {B:Nat} {t:ay} (h:a7 B t):t.ai.ok B:=by
 rcases h with⟨_,_,h⟩|⟨_,_,h⟩
 ·rw[h];exact PK B
 ·exact h
theorem a7.eB {B:Nat} {t:ay} (h:a7 B t):isNone t=false:=by
 rcases h with⟨h1,h2,_⟩|⟨_,h,_⟩
 ·unfold isNone;have:(t.aK==0)=false:=by simp;omega
  rw[this];rfl
 ·have:=h.kind;unfold isNone;have:(t.ai.Kind==0)=false:=by simp;omega
  rw[this];simp
theorem a7.sort {B:Nat} {n:Int} (h:1<=n/\n<=4):a7 B (aL n):= .inl ⟨h.1,h.2,rfl⟩
theorem a7.of {B:Nat} {l:ah} (h:ef l) (ho:l.ok B):a7 B (bN l):= .inr ⟨rfl,h,ho⟩
theorem a7.du {B:Nat} {t:ay} (h:a7 B t) (hs:t.aK=0):ef t.ai/\t.ai.ok B:=by
 rcases h with⟨h1,_⟩|⟨_,h⟩
 ·omega
 ·exact h
theorem bW.ok {B:Nat} {t:ay} (h:bW B t):t.ai.ok B:=by
 rcases h with rfl|h
 ·exact PK B
 ·exact h.ok
theorem bW.some {B:Nat} {t:ay} (h:bW B t) (hn:isNone t=false):a7 B t:=by
 rcases h with rfl|h
 ·cases hn
 ·exact h
theorem bW.kind {B:Nat} {t:ay} (h:bW B t) (hs:t.aK=0) (hk:t.ai.Kind≠0):ef t.ai/\t.ai.ok B/\isNone t=false:=by
 rcases h with rfl|h
 ·exact absurd rfl hk
 ·exact⟨(h.du hs).1,(h.du hs).2,h.eB⟩
theorem wD:ef eE:=⟨.mk (.inl ⟨.inr rfl,rfl,rfl,rfl,rfl,rfl⟩) (by simp[mF,eE]) ⟨by simp[eE],by simp[eE,rising],by simp[eE],by simp[eE]⟩ (by simp[eE]) (by simp[eE]) (by simp[eE]),by simp[tN,eE,eW],by simp[q9,eE,mw]⟩
theorem wQ (B:Nat):eE.ok B:=by rw[ah.cM];simp[eE,ah.gu,Lit.wf];decide
theorem eo {D:Type} {l:List D} {i:Nat} {x:D} (h:l[i]? =some x):ao l (i:Int)=some x:=h
theorem nC {n:af} (h:n.Kind≠51):fj n=n.Kids:=by
 have:(n.Kind==51)=false:=by simpa using h
 rw[fj,this];rfl
theorem ju {D:Type} {l:List D} (h:l.length=1):∃a,l=[a]:=by
 match l,h with|[a],_=>exact⟨a,rfl⟩
theorem gJ {D:Type} {l:List D} (h:l.length=2):∃a b,l=[a,b]:=by
 match l,h with|[a,b],_=>exact⟨a,b,rfl⟩
theorem nH {D:Type} {l:List D} (h:l.length=3):∃a b c,l=[a,b,c]:=by
 match l,h with|[a,b,c],_=>exact⟨a,b,c,rfl⟩
theorem Mq {B:Nat} {n:af} (h:WN B n):ag ((mz Pu) n) (λ_=>True):=by
 induction h with
 |mk hs hl h44 h47 hk ih=>
  rename_i n;rw[ID,rW];refine ag.bif (λ_=>ag.ret trivial) (λ_=>?_);refine ag.bif (λ_=>?_) (λh51=>?_)
  ·repeat' (first|refine ag.bif (λ_=>ag.ret trivial) (λ_=>?_)|exact ag.ret trivial)
  have h51:n.Kind≠51:=by simpa using h51
  rw[nC h51]at ih;refine ag.bif (λh39=>?_) (λ_=>?_)
  ·have h39:n.Kind=39:=by simpa using h39
   obtain⟨a,b,e⟩:=gJ (l:=n.Kids) (by unfold dL at hs;omega);rw[e]at ih⊢;refine ag.aC (v:=a) rfl (ag.bind (ih a (by simp)) λy _=>?_);refine ag.bif (λ_=>?_) (λ_=>ag.ret trivial);exact ag.aC (v:=b) rfl (ag.bind (ih b (by simp)) λ_ _=>ag.ret trivial)
  refine ag.bif (λh30=>?_) (λ_=>ag.ret trivial);have h30:n.Kind=30:=by simpa using h30
  obtain⟨a,b,c,e⟩:=nH (l:=n.Kids) (by unfold dL at hs;omega);rw[e]at ih⊢;refine ag.aC (v:=b) rfl (ag.bind (ih b (by simp)) λy _=>?_);refine ag.bif (λ_=>?_) (λ_=>ag.ret trivial);exact ag.aC (v:=c) rfl (ag.bind (ih c (by simp)) λ_ _=>ag.ret trivial)
structure CE (B:Nat) (c:bJ):Prop where
 du:ef c.l
 ok:c.l.ok B
 par:∀p∈c.params,1<=p.aK/\p.aK<=4
 num:c.params.length<=B
def EP (B:Nat) (c:bJ) (n:af) (w:ay) (y:ab):Prop:=y.At=n.At/\a7 B y.aj/\Fit w y.aj/\W c.l c.params y w
def AP (B:Nat) (c:bJ) (w:ay) (y:ab):Prop:=a7 B y.aj/\∀a,Fit w y.aj->W c.l c.params ⟨y.Op,y.aj,y.N,y.Text,a,y.Kids⟩ w
def EE (B:Nat) (c:bJ) (n:af):Prop:=∀w,bW B w->ae ((bR Pu) c n w) (EP B c n w) dX
theorem fZ {t:ay}:Fit (aL 0) t:=λh=>by cases h
theorem ph {D β : Type} {L : Int → β → Option (aR D)} {P : D → Prop} {E : AV → Prop} {len : Nat} (Inv : Nat → β → Prop)
    (step : ∀ (i : Nat) b, i < len → Inv i b → (∀ b', Inv (i + 1) b' → ae (L ((i + 1 : Nat) : Int) b') P E) → ae (L (i : Int) b) P E)
    (stop : ∀ b, Inv len b → ae (L (len : Int) b) P E) : ∀ (i : Nat) b, i ≤ len → Inv i b → ae (L (i : Int) b) P E := by
  intro i b hi hI
  obtain ⟨k, hk⟩ : ∃ k, len = i + k := ⟨len - i, by omega⟩
  induction k generalizing i b with
  | zero => have : i = len := by omega
            subst this; exact stop b hI
  | succ k ih => exact step i b (by omega) hI fun b' hb' => ih (i + 1) b' (by omega) hb' (by omega)
section
variable {B:Nat} (hB:B<=1048576) {c:bJ} (hc:CE B c)
include hB in
theorem NO {n:af} {w:ay} (hw:bW B w) (hA:ae ((lH Pu) c n w) (AP B c w) dX):ae ((bR Pu) c n w) (EP B c n w) dX:=by
 rw[JR,sv];refine ae.aA hA (λy hy=>?_);refine ae.aC (tc hB _ hy.1.ok) ?_;refine ae.aC (fK w) ?_;refine ae.bif (λh=>?_) (λh=>?_)
 ·refine ae.bind (wE hB hw.ok) (λb hb=>?_);refine ae.bif (λ_=>fI _ _) (λhb'=>?_);have e:w=y.aj:=hb.1 (by simpa using hb');exact ae.ret ⟨rfl,hy.1,λ_=>e,hy.2 _ (λ_=>e)⟩
 ·have hf:Fit w y.aj:=λe=>by simp[e]at h
  exact ae.ret ⟨rfl,hy.1,hf,hy.2 _ hf⟩
theorem Mp {n x z:af} {a b t:ay} {op:Int} (hn:n.Kids=[x,z]) (hx:EE B c x) (hz:EE B c z) (ha:bW B a) (hb:bW B b):
  ae ((iJ Pu) c op n a b t) (λy=>∃u v,y=⟨op,t,0,[],0,[u,v]⟩/\EP B c x a u/\EP B c z b v) dX:=by
 rw[IE,rX,hn];refine ae.aC (v:=x) rfl (ae.aA (hx a ha) λu hu=>?_);refine ae.aC (v:=z) rfl (ae.aA (hz b hb) λv hv=>?_);exact ae.ret ⟨u,v,rfl,hu,hv⟩
def TP (B:Nat) (c:bJ) (x z:af) (lt:Bool) (r:ab×ab):Prop:=
 (EP B c x (aL 0) r.1/\EP B c z r.1.aj r.2/\(lt=true->r.1.aj.aK=0))\/(EP B c z (aL 0) r.2/\EP B c x r.2.aj r.1/\(lt=true->r.2.aj.aK=0))
theorem D2 {n x z:af} {lt:Bool} (wx:WN B x) (wz:WN B z) (hx:EE B c x) (hz:EE B c z):ae ((qa Pu) c n x z lt) (TP B c x z lt) dX:=by
 rw[IG,sj];refine ae.bind (Mq wx) (λo _=>?_);refine ae.bif (λ_=>?_) (λ_=>?_)
 ·refine ae.bind (Mq wz) (λo _=>?_);refine ae.bif (λ_=>fI _ _) (λ_=>?_);refine ae.aA (hz (aL 0) (.inl rfl)) (λy hy=>?_);refine ae.bif (λhl=>?_) (λhl=>?_)
  ·refine ae.bif (λ_=>fI _ _) (λhs=>?_);exact ae.aA (hx _ (.inr hy.2.1)) λu hu=>ae.ret (.inr ⟨hy,hu,λ_=>by simpa using hs⟩)
  ·exact ae.aA (hx _ (.inr hy.2.1)) λu hu=>ae.ret (.inr ⟨hy,hu,λe=>by rw[e]at hl;cases hl⟩)
 ·refine ae.aA (hx (aL 0) (.inl rfl)) (λy hy=>?_);refine ae.bif (λhl=>?_) (λhl=>?_)
  ·refine ae.bif (λ_=>fI _ _) (λhs=>?_);exact ae.aA (hz _ (.inr hy.2.1)) λu hu=>ae.ret (.inl ⟨hy,hu,λ_=>by simpa using hs⟩)
  ·exact ae.aA (hz _ (.inr hy.2.1)) λu hu=>ae.ret (.inl ⟨hy,hu,λe=>by rw[e]at hl;cases hl⟩)
def OP (B:Nat) (c:bJ) (x:af) (ks:List Int) (y:ab):Prop:=EP B c x (aL 0) y/\y.aj.aK=0/\y.aj.ai.Kind∈ks
theorem D9 {n x:af} {ks:List Int} (hk:ks.length<9223372036854775807) (hx:EE B c x):ae ((nO Pu) c n x ks) (OP B c x ks) dX:=by
 rw[yD,oJ];refine ae.aA (hx (aL 0) (.inl rfl)) (λy hy=>?_);refine ae.bif (λ_=>fI _ _) (λhs=>?_);refine ae.aC (kJ ks _ hk) ?_;refine ae.bif (λ_=>fI _ _) (λhm=>ae.ret ⟨hy,by simpa using hs,?_⟩);simp only[sE,ln,beq_iff_eq]at hm;obtain⟨k,h1,h2⟩:=hm;rw[h2];exact h1
theorem Bh {op:Int} {t:ay} {n x:af} {ks:List Int} (hk:ks.length<9223372036854775807) (hx:EE B c x):ae ((jZ Pu) op t ks c n x) (λy=>∃u,y=⟨op,t,0,[],0,[u]⟩/\OP B c x ks u) dX:=by
 rw[u5,nQ];exact ae.aA (D9 hk hx) λu hu=>ae.ret ⟨u,rfl,hu⟩
theorem fJ {t:ay} (h:a7 B t) (hs:t.aK=0) {p:ah} (hp:p∈t.ai.aw):a7 B (bN p):= .of ((h.du hs).1.part hp) (q8 (h.du hs).2 hp)
theorem um {l:ah} (h:ef l) (hk:l.Kind=5):∃p,l.aw=[p]:=ju (by have:=h.shape;unfold eT at this;omega)
theorem uo {l:ah} (h:ef l) (hk:l.Kind=7):∃p q,l.aw=[p,q]:=gJ (by have:=h.shape;unfold eT at this;omega)
theorem rq {l:ah} (h:ef l) (hk:l.Kind=6):l.aw.length=l.Names.length:=by have:=h.shape;unfold eT at this;omega
theorem Ty {n x:af} {w:ay} (hn:n.Kids=[x]) (hx:EE B c x):ae ((uY Pu) c n) (AP B c w) dX:=by
 rw[mA,jy,hn];refine ae.aC (v:=x) rfl ?_;refine ae.aC (bp 2) (ae.aC (bp 1) (ae.aC (bp 4) ?_));have seeN:∀(op s:Int) (ks:List Int),(op,s,ks)∈[((31:Int),(1:Int),[(2:Int),3]),(32,2,[1]),(33,4,[5,4,10]),(34,4,[8,9]),(37,2,[8,9])]->ae (Bw.aA ((jZ Pu) op (aL s) ks c n x) λy=>some (.ret y)) (AP B c w) dX:=by
  intro op s ks hm;refine ae.aA (Bh (by simp at hm;rcases hm with⟨_,_,rfl⟩|⟨_,_,rfl⟩|⟨_,_,rfl⟩|⟨_,_,rfl⟩|⟨_,_,rfl⟩<;>simp) hx) (λy hy=>?_);obtain⟨u,rfl,hu⟩:=hy;exact ae.ret ⟨a7.sort (by simp at hm;omega),λa hf=> .lj hm hu.1.2.2.2 hu.2.1 hu.2.2 hf⟩
 refine ae.bif (λ_=>?_) (λ_=>?_)
 ·refine ae.aA (hx (aL 0) (.inl rfl)) (λy hy=>?_);refine ae.bif (λh4=>?_) (λh4=>?_)
  ·refine ae.bif (λ_=>fI _ _) (λh0=>?_);refine ae.aC (kJ _ _ (by simp)) ?_;refine ae.bif (λ_=>fI _ _) (λhm=>ae.ret ⟨a7.sort (by simp),λa hf=> .size hy.2.2.2 (.inr ⟨by simpa using h0,?_⟩) hf⟩);simp at hm;simp;omega
  ·exact ae.ret ⟨a7.sort (by simp),λa hf=> .size hy.2.2.2 (.inl (by simpa using h4)) hf⟩
 refine ae.bif (λ_=>?_) (λ_=>?_)
 ·refine ae.aA (Bh (by simp) hx) (λy hy=>?_);obtain⟨u,rfl,hu⟩:=hy;refine ae.aC (v:=u) rfl ?_;have h5:u.aj.ai.Kind=5:=by simpa using hu.2.2
  obtain⟨p,hp⟩:=um (hu.1.2.1.du hu.2.1).1 h5;rw[hp];refine ae.aC (v:=p) rfl ?_;have good:(p.Kind=2\/p.Kind=3)->ae (some (aR.ret (⟨30,aL 1,0,[],0,[u]⟩:ab))) (AP B c w) dX:=λhk=>
   ae.ret ⟨a7.sort (by simp),λa hf=> .sum (p:=p) hu.1.2.2.2 hu.2.1 h5 (by rw[hp];rfl) hk hf⟩
  refine ae.bif (λ_=>?_) (λh=>good (.inl (by simpa using h)));exact ae.bif (λ_=>fI _ _) (λh=>good (.inr (by simpa using h)))
 refine ae.bif (λ_=>seeN 31 1 _ (by simp)) (λ_=>?_);refine ae.bif (λ_=>seeN 32 2 _ (by simp)) (λ_=>?_);refine ae.bif (λ_=>seeN 33 4 _ (by simp)) (λ_=>?_);refine ae.bif (λ_=>seeN 34 4 _ (by simp)) (λ_=>?_);refine ae.bif (λ_=>seeN 37 2 _ (by simp)) (λ_=>?_);refine ae.bif (λ_=>?_) (λ_=>?_)
 ·refine ae.aA (Bh (by simp) hx) (λy hy=>?_);obtain⟨u,rfl,hu⟩:=hy;refine ae.aC (v:=u) rfl ?_;have h7:u.aj.ai.Kind=7:=by simpa using hu.2.2
  obtain⟨p,q,hp⟩:=uo (hu.1.2.1.du hu.2.1).1 h7;rw[hp];refine ae.aC (v:=q) rfl (ae.aC (of_eq q) ?_);exact ae.ret ⟨fJ hu.1.2.1 hu.2.1 (by rw[hp];simp),λa hf=> .part (i:=1) (p:=q) (.inr ⟨rfl,rfl⟩) hu.1.2.2.2 hu.2.1 h7 (by rw[hp];rfl) hf⟩
 ·refine ae.aA (Bh (by simp) hx) (λy hy=>?_);obtain⟨u,rfl,hu⟩:=hy;refine ae.aC (v:=u) rfl ?_;have h7:u.aj.ai.Kind=7:=by simpa using hu.2.2
  obtain⟨p,q,hp⟩:=uo (hu.1.2.1.du hu.2.1).1 h7;rw[hp];refine ae.aC (v:=p) rfl (ae.aC (of_eq p) ?_);exact ae.ret ⟨fJ hu.1.2.1 hu.2.1 (by rw[hp];simp),λa hf=> .part (i:=0) (p:=p) (.inl ⟨rfl,rfl⟩) hu.1.2.2.2 hu.2.1 h7 (by rw[hp];rfl) hf⟩
theorem EO {n:Nat} (h:n<=274877906944):xn (n:Int)=some n:=by
 show(bif Nat.ble n 274877906944 then some n else none)=some n;rw[DG h];rfl
def Rr (c:bJ) (l:ah) (s3:List ab) (s4:List Bool):Prop:=s3.length=l.aw.length/\s4.length=l.aw.length/\∀(i:Nat) x p,s4[i]? =some true->s3[i]? =some x->l.aw[i]? =some p->W c.l c.params x (bN p)
def RP (c:bJ) (l:ah) (ys:List ab):Prop:=ys.length=l.aw.length/\∀(i:Nat) x p,ys[i]? =some x->l.aw[i]? =some p->W c.l c.params x (bN p)
include hB in
theorem V6 {n:af} {l:ah} (hl:ef l) (ho:l.ok B) {s4:List Bool} {s3:List ab} (hI:Rr c l s3 s4):ae ((jP Pu) n l s4 s3 0) (RP c l) dX:=by
 have hlen:l.aw.length<=B:=by rw[ah.cM]at ho;exact ho.2.2.2.2.1.1
 have h:=ph (L:=λi (b:List ab)=>(jP Pu) n l s4 b i) (P:=RP c l) (E:=dX) (len:=l.aw.length) (λi b=>b.length=l.aw.length/\∀(j:Nat) x p,(j<i\/s4[j]? =some true)->b[j]? =some x->l.aw[j]? =some p->W c.l c.params x (bN p)) (λi b hi hJ k=>by
   show ae ((jP Pu) n l s4 b i) _ _;rw[tB,nc,ah.aB,aU];have:decide (i<l.aw.length)=true:=by simpa using hi
   obtain⟨p,hp⟩:=bg hi;obtain⟨f,hf⟩:=bg (l:=s4) (i:=i) (by rw[hI.2.1];exact hi);obtain⟨x,hx⟩:=bg (l:=b) (i:=i) (by rw[hJ.1];exact hi);have hm:=bh hp;rw[this,aO,bc hp,aq,bc hf,aq,bO i (by omega)];refine ae.bif (λh1=>?_) (λh1=>?_)
   ·refine ae.aC (tc hB p (q8 ho hm)) (ae.aC (of_eq p) (ae.aC (eo hx) ?_));rw[fv];refine k _ ⟨by simp[hJ.1],λj y q hj hy hq=>?_⟩;by_cases e:j=i
    ·subst e;rw[mQ (by rw[hJ.1];exact hi)]at hy;cases hy;rw[hp]at hq;cases hq;exact .jl rfl (a7.of (hl.part hm) (q8 ho hm)).eB
    ·rw[ky (by omega)]at hy;exact hJ.2 j y q (by rcases hj with hj|hj;exact .inl (by omega);exact .inr hj) hy hq
   ·refine k _ ⟨hJ.1,λj y q hj hy hq=>?_⟩;by_cases e:j=i
    ·subst e;have:f=true:=by simpa using h1
     exact hJ.2 j y q (.inr (by rw[hf,this])) hy hq
    ·exact hJ.2 j y q (by rcases hj with hj|hj;exact .inl (by omega);exact .inr hj) hy hq) (λb hJ=>by
   show ae ((jP Pu) n l s4 b _) _ _;rw[tB,nc,ah.aB,aU];have:decide (l.aw.length<l.aw.length)=false:=by simp
   rw[this,a6];exact ae.ret ⟨hJ.1,λj x p hx hp=>hJ.2 j x p (.inl (cy.1 hp).1) hx hp⟩) 0 s3 (by omega) ⟨hI.1,λj x p hj hx hp=>by
    rcases hj with hj|hj
    ·omega
    ·exact hI.2.2 j x p hj hx hp⟩
 exact h
include hB in
theorem Ux {n:af} {l:ah} (hl:ef l) (ho:l.ok B) (h6:l.Kind=6) (hn:n.Kids.length<=B) (h1:∀e∈n.Kids,∃k,e.Kids=[k]/\EE B c k):ae ((uX Pu) c n l) (RP c l) dX:=by
 have hlen:l.aw.length<=B:=by rw[ah.cM]at ho;exact ho.2.2.2.2.1.1
 have hpn:=rq hl h6;rw[IF,si,ah.aB,EO (by omega),aq,aq];have h:=ph (L:=λi (b:List ab×List Bool)=>(mb Pu) c n l b.1 b.2 i) (P:=RP c l) (E:=dX) (len:=n.Kids.length) (λi b=>Rr c l b.1 b.2) (λi b hi hI k=>by
   show ae ((mb Pu) c n l b.1 b.2 i) _ _;rw[tC,nf,af.aB,aU];have:decide (i<n.Kids.length)=true:=by simpa using hi
   obtain⟨e,he⟩:=bg hi;obtain⟨kd,hk,hE⟩:=h1 e (bh he);rw[this,aO,bc he,aq,qL _ _ (by omega),aq,bO i (by omega)];refine ae.bif (λ_=>fI _ _) (λh2=>?_);obtain⟨j,t,hj,ht,_⟩:=AB (by simpa using h2);rw[hj];have hjl:j<l.aw.length:=by rw[hpn];exact(cy.1 ht).1
   obtain⟨f,hf⟩:=bg (l:=b.2) (i:=j) (by rw[hI.2.1];exact hjl);obtain⟨x,hx⟩:=bg (l:=b.1) (i:=j) (by rw[hI.1];exact hjl);obtain⟨p,hp⟩:=bg hjl;have hm:=bh hp;refine ae.aC (eo hf) ?_;refine ae.bif (λ_=>fI _ _) (λ_=>?_);rw[hk];refine ae.aC (v:=kd) rfl (ae.aC (eo hp) (ae.aC (of_eq p) ?_));refine ae.aA (hE (bN p) (.inr (a7.of (hl.part hm) (q8 ho hm)))) (λy hy=>?_);refine ae.aC (eo hx) (ae.aC (eo hf) ?_);rw[fv];refine k (b.1.set j y,b.2.set j true) ⟨by simp[hI.1],by simp[hI.2.1],λq z r h3 h4 h5=>?_⟩;by_cases e:q=j
   ·subst e;simp only at h4;rw[mQ (by rw[hI.1];exact hjl)]at h4;cases h4;rw[hp]at h5;cases h5;exact hy.2.2.2
   ·simp only at h3 h4;rw[ky (by omega)]at h3 h4;exact hI.2.2 q z r h3 h4 h5) (λb hI=>by
   show ae ((mb Pu) c n l b.1 b.2 _) _ _;rw[tC,nf,af.aB,aU];have:decide (n.Kids.length<n.Kids.length)=false:=by simp
   rw[this,a6];exact V6 hB hl ho hI) 0 (List.replicate l.aw.length ab.z,List.replicate l.aw.length false) (by omega) ⟨by simp,by simp,λi x p hi _ _=>by
    simp[DT]at hi⟩
 exact h
