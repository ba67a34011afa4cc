/- Trees of expressions that are well formed; types.bare answers, and what it answers is one. -/
import Derived.Test.YtfgnmgbiijpkiaaGreatKSn
set_option linter.all false
section
namespace Go.Proofs.YtfgnmgbiijpkiaaGreat
open Go Go.Bw
def dC:List UInt8:=[109,97,112]
def dg:List UInt8:=[114,101,99]
def fh (n:ab):List ab:=bif n.Kind==51&&(n.Text==dC||n.Text==dg)then n.Kids.flatMap (·.Kids)else n.Kids
def dJ (n:ab):Prop:=
 (n.Kind=30/\n.Kids.length=3)\/((n.Kind=33\/n.Kind=42)/\n.Kids.length=1)\/
 ((31<=n.Kind/\n.Kind<=43/\n.Kind≠33/\n.Kind≠42)/\n.Kids.length=2)\/(44<=n.Kind/\n.Kind<=50)\/
 (n.Kind=51/\(n.Text=dC->∀e∈n.Kids,e.Kids.length=2)/\(n.Text=dg->∀e∈n.Kids,e.Kids.length=1))
inductive WN (B:Nat):ab->Prop
 |mk {n:ab}:dJ n->n.Kids.length<=B->(n.Kind=44-> -1000000000000000<=n.N/\n.N<=1000000000000000)->(n.Kind=47->NV n.Text)->(∀k∈fh n,WN B k)->WN B n
theorem kX {D:Type} (l:List D) (z y:D):(l++[z]).set l.length y=l++[y]:=by simp
theorem ae.ind {P:ae->Prop} (h:∀x:ae,(∀k∈x.Kids,P k)->P x):∀x,P x:=by
 intro x;refine ae.rec (motive_1:=P) (motive_2:=λks=>∀k∈ks,P k) ?_ ?_ ?_ x
 ·intro op ty n t a ks ih;exact h ⟨op,ty,n,t,a,ks⟩ ih
 ·intro k hk;cases hk
 ·intro k ks h1 h2 x hx;rcases cm.1 hx with rfl|hx
  ·exact h1
  ·exact h2 x hx
theorem q0 {B:Nat} {n:ab} (h:44<=n.Kind/\n.Kind<=50) (hk:n.Kids=[]) (h1:n.Kind=44-> -1000000000000000<=n.N/\n.N<=1000000000000000) (h2:n.Kind=47->NV n.Text):WN B n:=by
 refine .mk (.inr (.inr (.inr (.inl h)))) (by rw[hk];simp) h1 h2 λk hm=>?_;have:(n.Kind==51)=false:=by simp;omega
 rw[fh,this,hk]at hm;simp at hm
variable {B:Nat} (hB:B<=1048576)
theorem XH {ps:List TParam} {x:ae} (hx:x.Text.length<9223372036854775807):ag ((f107 Pf) ps x) (λr=>r.2=true->WN B r.1):=by
 rw[rv,ma,ae.aD,TParam.aD];have no:∀n:ab,ag (some (n,false)) (λr=>r.2=true->WN B r.1):=λn=>ag.ret λe=>by cases e
 refine ag.bif (λ_=>no _) (λ_=>?_);refine ag.bif (λ_=>?_) (λ_=>?_)
 ·refine ag.bif (λh1=>?_) (λ_=>no _);refine ag.bif (λh2=>?_) (λ_=>no _);refine ag.ret λ_=>q0 (by simp) rfl (λ_=>?_) (λe=>by simp at e);simp at h1 h2;exact⟨h1,h2⟩
 refine ag.bif (λ_=>?_) (λ_=>?_)
 ·refine ag.bif (λ_=>ag.ret λ_=>q0 (by simp) rfl (λe=>by simp at e) (λe=>by simp at e)) (λ_=>?_);exact ag.bif (λ_=>ag.ret λ_=>q0 (by simp) rfl (λe=>by simp at e) (λe=>by simp at e)) (λ_=>no _)
 refine ag.bif (λ_=>?_) (λ_=>?_)
 ·rw[lN _ hx,aw];exact ag.bif (λh=>ag.ret λ_=>q0 (by simp) rfl (λe=>by simp at e) (λ_=>Au.1 h)) (λ_=>no _)
 refine ag.bif (λ_=>?_) (λ_=>no _);refine ag.bif (λh1=>?_) (λ_=>no _);refine ag.bif (λh2=>?_) (λ_=>no _);refine ag.bind (ag.idx (by simpa using h1) (by simpa using h2)) (λy _=>?_);exact ag.ret λ_=>q0 (by simp) rfl (λe=>by simp at e) (λe=>by simp at e)
theorem US (op:Int):ag ((f108 Pf) op) (λr=>r.1≠0->(r.1=30/\r.2=3)\/((r.1=33\/r.1=42)/\r.2=1)\/((31<=r.1/\r.1<=43/\r.1≠33/\r.1≠42)/\r.2=2)\/((r.1=49\/r.1=50)/\r.2=0)):=by
 rw[mb,jb]
 repeat' (first|refine ag.bif (λ_=>?_) (λ_=>?_)|refine ag.ret ?_)
 all_goals simp
theorem Lr (op:Int):ag ((f109 Pf) op) (λr=>(r=dC↔op=24)/\(r=dg↔op=25)):=by
 rw[wS,od]
 repeat' (first|refine ag.bif (λh=>?_) (λh=>?_)|refine ag.ret ?_)
 all_goals (simp at*;simp[dC,dg, *])
include hB
theorem Vo {x:ae} {ks:List ab} {y:List UInt8} (hy:y=dC) (he:ks.length%2=0) (hl:ks.length<=B) (hk:∀k∈ks,WN B k):ag ((kr Pf) x ks y [] 0) (λr=>r.2=true->WN B r.1):=by
 have h:=eg (L:=λi (b:List ab)=>(kr Pf) x ks y b (2*i)) (P:=λr=>r.2=true->WN B r.1) (len:=ks.length/2) (λi b=>b.length=i/\∀e∈b,e.Kids.length=2/\∀k∈e.Kids,WN B k) (λi b hi hI k=>by
   show ag ((kr Pf) x ks y b _) _;have e0:(2*(i:Int))=((2*i:Nat):Int):=by omega
   rw[Ay,pB,ab.aD,e0,aY];have:decide (2*i<ks.length)=true:=by simp;omega
   obtain⟨p,hp⟩:=bh (by omega:2*i<ks.length);obtain⟨q,hq⟩:=bh (by omega:2*i+1<ks.length);have e2:IntKind.i64.wrap (((2*i:Nat):Int)+2)=2*((i+1:Nat):Int):=by rw[wrap64 (by omega) (by omega)];omega
   rw[this,aV,bj hp,aw,bP _ (by omega),bj hq,aw,e2];have hlen:decide ((b++[({Kind:=52,Text:=[],N:=0,At:=0,Kids:=[p,q]}:ab)]).length<=274877906944)=true:=by simp;omega
   rw[hlen,aV];refine k _ ⟨by simp[hI.1],λe hm=>?_⟩;rcases cJ.1 hm with hm|hm
   ·exact hI.2 e hm
   ·simp at hm;subst hm;refine⟨rfl,λz hz=>?_⟩;simp at hz;rcases hz with rfl|rfl
    ·exact hk _ (bw hp)
    ·exact hk _ (bw hq)) (λb hI=>by
   show ag ((kr Pf) x ks y b _) _;have e0:(2*((ks.length/2:Nat):Int))=((ks.length:Nat):Int):=by omega
   rw[Ay,pB,ab.aD,e0,aY];have:decide (ks.length<ks.length)=false:=by simp
   rw[this,bp];refine ag.ret λ_=> .mk (.inr (.inr (.inr (.inr ⟨rfl,λ_ e he=>(hI.2 e he).1,λe=>?_⟩)))) (by show b.length<=B;omega) (λe=>by simp at e) (λe=>by simp at e) λk hm=>?_
   ·have e:y=dg:=e;rw[hy]at e;exact absurd e (by decide)
   ·have:((y==dC)=true):=by simp[hy]
    simp only[fh]at hm;rw[this]at hm;simp at hm;obtain⟨e,h1,h2⟩:=hm;exact(hI.2 e h1).2 k h2) 0 [] (by omega) ⟨rfl,by simp⟩
 simpa using h
theorem VT {x:ae} {ks:List ab} {y:List UInt8} (hy:y=dg) (he:x.ai.aj.Names.length=ks.length) (hl:ks.length<=B) (hk:∀k∈ks,WN B k):ag ((iU Pf) x ks y [] 0) (λr=>r.2=true->WN B r.1):=by
 have h:=eg (L:=λi (b:List ab)=>(iU Pf) x ks y b i) (P:=λr=>r.2=true->WN B r.1) (len:=ks.length) (λi b=>b.length<=i/\∀e∈b,e.Kids.length=1/\∀k∈e.Kids,WN B k) (λi b hi hI k=>by
   show ag ((iU Pf) x ks y b _) _;rw[Az,pC,ab.aD,aY];have:decide (i<ks.length)=true:=by simpa using hi
   obtain⟨p,hp⟩:=bh hi;obtain⟨t,ht⟩:=bh (by omega:i<x.ai.aj.Names.length);rw[this,aV,bj hp,aw,bj ht,bP i (by omega)];simp only[aw];have hlen:decide ((b++[({Kind:=52,Text:=t,N:=0,At:=0,Kids:=[p]}:ab)]).length<=274877906944)=true:=by simp;omega
   rw[hlen];simp only[aV];have more:ag ((iU Pf) x ks y (b++[{Kind:=52,Text:=t,N:=0,At:=0,Kids:=[p]}]) ((i+1:Nat):Int)) (λr=>r.2=true->WN B r.1):=by
    refine k _ ⟨by simp;omega,λe hm=>?_⟩;rcases cJ.1 hm with hm|hm
    ·exact hI.2 e hm
    ·simp at hm;subst hm;refine⟨rfl,λz hz=>?_⟩;simp at hz;subst hz;exact hk _ (bw hp)
   refine ag.bif (λ_=>more) (λ_=>ag.bif (λ_=>more) (λ_=>k b ⟨by omega,hI.2⟩))) (λb hI=>by
   show ag ((iU Pf) x ks y b _) _;rw[Az,pC,ab.aD,aY];have:decide (ks.length<ks.length)=false:=by simp
   rw[this,bp];refine ag.ret λ_=> .mk (.inr (.inr (.inr (.inr ⟨rfl,λe=>?_,λ_ e he=>(hI.2 e he).1⟩)))) (by show b.length<=B;omega) (λe=>by simp at e) (λe=>by simp at e) λk hm=>?_
   ·have e:y=dC:=e;rw[hy]at e;exact absurd e (by decide)
   ·have:((y==dg)=true):=by simp[hy]
    simp only[fh]at hm;rw[this]at hm;simp at hm;obtain⟨e,h1,h2⟩:=hm;exact(hI.2 e h1).2 k h2) 0 [] (by omega) ⟨by simp,by simp⟩
 simpa using h
theorem XI {ps:List TParam}:∀x:ae,x.ok B->ag ((f62 Pf) ps x) (λr=>r.2=true->WN B r.1):=by
 refine ae.ind λx ih hx=>?_;rw[ae.c8]at hx;obtain⟨_,_,_,ht,_,hkl,hkk⟩:=hx;rw[I0,rR];refine ag.bind (XH (B:=B) (by omega)) (λy hy=>?_);refine ag.bif (λh=>ag.ret λ_=>hy h) (λ_=>?_);have no:∀n:ab,ag (some (n,false)) (λr=>r.2=true->WN B r.1):=λn=>ag.ret λe=>by cases e
 have h:=eg (L:=λi (b:List ab)=>(gX Pf) ps x false i b) (P:=λr=>r.2=true->WN B r.1) (len:=x.Kids.length) (λi b=>b.length=i/\∀k∈b,WN B k) (λi b hi hI k=>by
   show ag ((gX Pf) ps x false i b) _;rw[AA,pA,ae.aD,aY];have:decide (i<x.Kids.length)=true:=by simpa using hi
   obtain⟨p,hp⟩:=bh hi;have hm:=bw hp;rw[this,aV,bj hp,aw];refine ag.bind (ih p hm (ae.iS hkk hm)) (λy hy=>?_);refine ag.bif (λ_=>no _) (λh1=>?_);have hlen:decide ((b++[ab.z]).length<=274877906944)=true:=by simp;omega
   rw[hlen,aV,ab.aD,lI,bP i (by omega),fj,kX];have e1:(b++[ab.z])[b.length]? =some ab.z:=by simp
   rw[e1,aw];refine k _ ⟨by simp[hI.1],λz hz=>?_⟩;rcases cJ.1 hz with hz|hz
   ·exact hI.2 z hz
   ·simp at hz;subst hz;exact hy (by simpa using h1)) (λb hI=>by
   show ag ((gX Pf) ps x false _ b) _;rw[AA,pA,ae.aD,aY];have:decide (x.Kids.length<x.Kids.length)=false:=by simp
   rw[this,bp,ab.aD];refine ag.bind (US x.Op) (λo ho=>?_);refine ag.bif (λh1=>?_) (λh1=>?_)
   ·have ho:=ho (by simpa using h1);refine ag.bif (λ_=>no _) (λh2=>?_);have h2:o.2=(x.Kids.length:Int):=by simpa using h2
    have good:∀t:List UInt8,WN B {Kind:=o.1,Text:=t,N:=0,At:=x.At,Kids:=b}:=λt=>by
     refine .mk ?_ (by show b.length<=B;omega) (λe=>by have e:o.1=44:=e;omega) (λe=>by have e:o.1=47:=e;omega) λk hm=>?_
     ·rcases ho with⟨a,c⟩|⟨a,c⟩|⟨a,c⟩|⟨a,c⟩
      ·exact .inl ⟨a,by show b.length=3;omega⟩
      ·exact .inr (.inl ⟨a,by show b.length=1;omega⟩)
      ·exact .inr (.inr (.inl ⟨a,by show b.length=2;omega⟩))
      ·exact .inr (.inr (.inr (.inl (by show 44<=o.1/\o.1<=50;omega))))
     ·have:(o.1==51)=false:=by simp;omega
      simp only[fh]at hm;rw[this]at hm;simp at hm;exact hI.2 k hm
    refine ag.bif (λh3=>?_) (λ_=>ag.ret λ_=>good _);have h3:o.1=42:=by simpa using h3
    have h4:0<x.Kids.length:=by omega
    obtain⟨p,hp⟩:=bh h4;have e0:au x.Kids 0=some p:=hp;rw[e0,aw];refine ag.bif (λ_=>no _) (λh5=>?_);refine ag.bif (λ_=>no _) (λh6=>?_);refine ag.bind (ag.idx (by simpa using h5) (by rw[cj]at h6;simpa using h6)) (λt _=>ag.ret λ_=>good _)
   ·refine ag.bind (Lr x.Op) (λt ht=>?_);refine ag.bif (λh2=>?_) (λh2=>?_)
    ·refine ag.bif (λ_=>no _) (λh3=>?_);refine Vo hB (ht.1.2 (by simpa using h2)) ?_ (by omega) hI.2;have h3:((b.length:Int)).tmod 2=0:=by simpa using h3
     rw[UC (by omega)]at h3;omega
    refine ag.bif (λh3=>?_) (λh3=>?_)
    ·refine ag.bif (λ_=>no _) (λh4=>?_);refine VT hB (ht.2.2 (by simpa using h3)) ?_ (by omega) hI.2;rw[cj]at h4;have h4:(x.ai.aj.Names.length:Int)=b.length:=by simpa using h4
     omega
    ·refine ag.ret λ_=> .mk (.inr (.inr (.inr (.inr ⟨rfl,λe=>?_,λe=>?_⟩)))) (by show b.length<=B;omega) (λe=>by simp at e) (λe=>by simp at e) λk hm=>?_
     ·have:=ht.1.1 e;simp at h2;omega
     ·have:=ht.2.1 e;simp at h3;omega
     ·have e1:(t==dC)=false:=by
       rw[beq_eq_false_iff_ne];intro e;have:=ht.1.1 e;simp at h2;omega
      have e2:(t==dg)=false:=by
       rw[beq_eq_false_iff_ne];intro e;have:=ht.2.1 e;simp at h3;omega
      simp only[fh]at hm;rw[e1,e2]at hm;simp at hm;exact hI.2 k hm) 0 [] (by omega) ⟨rfl,by simp⟩
 simpa using h
end Go.Proofs.YtfgnmgbiijpkiaaGreat
end

section
namespace Go.Proofs.YtfgnmgbiijpkiaaGreat
open Go Go.Bw
def dW (z:AV):Prop:=∃a b:Int,a≠0/\z= .bB 28 (.agg [.v (.int .i64 a),.v (.int .i64 b)])
theorem dW.ref {z:AV} (h:dW z):cU z=true:=by obtain⟨a,b,_,rfl⟩:=h;rfl
theorem fC {D:Type} {Q:D->Prop} (a b:Int) (ha:a≠0:=by decide):af (Bw.aA ((f80 Pf) a b) λ_=>(none:Option (aX D))) Q dW:=by
 rw[lq,iL];exact⟨_,rfl,a,b,ha,rfl⟩
theorem ctF {D β:Type} {o:Option (aX D)} {g:Int->Int->Option β} {f:D->Option β} {P:D->Prop} {Q:β->Prop} (h:af o P dW) (hg:∀a b,a≠0->ag (g a b) Q) (hf:∀y,P y->ag (f y) Q):ag (Bw.fx 28 o g f) Q:=by
 obtain⟨r,rfl,h⟩:=h;cases r with
 |ret x=>exact hf x h
 |aO z=>obtain⟨a,b,ha,rfl⟩:=h;simpa[Bw.fx,pH]using hg a b ha
theorem kq (a:List Int) (x:Int) (ha:a.length<9223372036854775807):(f199 Pf) a x=some (a.any λy=>x==y):=by
 have:(f236 Pf) a x=some (idxOf (λy=>x==y) a 0):=by
  rw[ab7,uz];refine vy (λy=>x==y) (λi y hy hi=>?_) ?_
  ·rw[Mp,sO];have:decide ((i:Int)<((eW IntKind.i64 a).length:Int))=true:=by rw[ql];simp;omega
   rw[this,aV,bj hy,aw,bP i (by omega)]
  ·rw[Mp,sO];have:decide ((a.length:Int)<((eW IntKind.i64 a).length:Int))=false:=by rw[ql];simp
   rw[this];rfl
 rw[ab8,wO,this,aw,Cv]
theorem E7 (a:List TParam) (n:ab) (ha:a.length<9223372036854775807):(vj Pf) a n=some (idxOf (λp:TParam=>p.Name==n.Text) a 0):=by
 rw[V',sy];refine vy (λp:TParam=>p.Name==n.Text) (λi y hy hi=>?_) ?_
 ·rw[JS,r9,TParam.aD,aY];have:decide (i<a.length)=true:=by simpa using hi
  rw[this,aV,bj hy,aw,ab6,wN,aw,bP i (by omega)]
 ·rw[JS,r9,TParam.aD,aY];have:decide (a.length<a.length)=false:=by simp
  rw[this];rfl
theorem yn {D : Type} {p : D → Bool} {a : List D} (h : ¬ idxOf p a 0 < 0) : ∃ (i : Nat) (x : D), idxOf p a 0 = (i : Int) ∧ a[i]? = some x ∧ p x = true := by
  rcases qk p a 0 with ⟨h1, _⟩ | ⟨i, x, h1, h2, h3, _⟩
  · have e : idxOf p a 0 = -1 := h1
    rw [e] at h; simp at h
  · exact ⟨i, x, by have e : idxOf p a 0 = ((0 + i : Nat) : Int) := h1
                    rw [e]; simp, h2, h3⟩
def bq (B:Nat) (t:az):Prop:=(1<=t.aP/\t.aP<=4/\t.aj=l0)\/(t.aP=0/\dw t.aj/\t.aj.ok B)
def bY (B:Nat) (t:az):Prop:=t=aL 0\/bq B t
theorem Qk (B:Nat):l0.ok B:=by rw[ah.c8];simp[l0,ah.fL,Lit.wf];decide
theorem dw.kind {l:ah} (h:dw l):1<=l.Kind/\l.Kind<=10:=by
 have h:=h.shape;unfold eV at h;omega
theorem pw {B:Nat} {l p:ah} (h:l.ok B) (hp:p∈l.ax):p.ok B:=by
 rw[ah.c8]at h;exact ah.iS h.2.2.2.2.1.2 hp
theorem bq.ok {B:Nat} {t:az} (h:bq B t):t.aj.ok B:=by
 rcases h with⟨_,_,h⟩|⟨_,_,h⟩
 ·rw[h];exact Qk B
 ·exact h
theorem bq.lY {B:Nat} {t:az} (h:bq B t):isNone t=false:=by
 rcases h with⟨h1,h2,_⟩|⟨_,h,_⟩
 ·unfold isNone;have:(t.aP==0)=false:=by simp;omega
  rw[this];rfl
 ·have:=h.kind;unfold isNone;have:(t.aj.Kind==0)=false:=by simp;omega
  rw[this];simp
theorem bq.sort {B:Nat} {n:Int} (h:1<=n/\n<=4):bq B (aL n):= .inl ⟨h.1,h.2,rfl⟩
theorem bq.of {B:Nat} {l:ah} (h:dw l) (ho:l.ok B):bq B (b7 l):= .inr ⟨rfl,h,ho⟩
theorem bq.dy {B:Nat} {t:az} (h:bq B t) (hs:t.aP=0):dw t.aj/\t.aj.ok B:=by
 rcases h with⟨h1,_⟩|⟨_,h⟩
 ·omega
 ·exact h
theorem bY.ok {B:Nat} {t:az} (h:bY B t):t.aj.ok B:=by
 rcases h with rfl|h
 ·exact Qk B
 ·exact h.ok
theorem bY.none {B:Nat} {t:az} (h:bY B t) (hn:isNone t=true):t=aL 0:=by
 rcases h with h|h
 ·exact h
 ·rw[h.lY]at hn;cases hn
theorem bY.some {B:Nat} {t:az} (h:bY B t) (hn:isNone t=false):bq B t:=by
 rcases h with rfl|h
 ·cases hn
 ·exact h
theorem bY.kind {B:Nat} {t:az} (h:bY B t) (hs:t.aP=0) (hk:t.aj.Kind≠0):dw t.aj/\t.aj.ok B/\isNone t=false:=by
 rcases h with rfl|h
 ·exact absurd rfl hk
 ·exact⟨(h.dy hs).1,(h.dy hs).2,h.lY⟩
theorem vB:dw eF:=⟨.mk (.inl ⟨.inr rfl,rfl,rfl,rfl,rfl,rfl⟩) (by simp[mm,eF]) ⟨by simp[eF],by simp[eF,rising],by simp[eF],by simp[eF]⟩ (by simp[eF]) (by simp[eF]) (by simp[eF]),by simp[te,eF,eX],by simp[qL,eF,l9]⟩
theorem vR (B:Nat):eF.ok B:=by rw[ah.c8];simp[eF,ah.fL,Lit.wf];decide
theorem er {D:Type} {l:List D} {i:Nat} {x:D} (h:l[i]? =some x):au l (i:Int)=some x:=h
theorem nb {n:ab} (h:n.Kind≠51):fh n=n.Kids:=by
 have:(n.Kind==51)=false:=by simpa using h
 rw[fh,this];rfl
theorem iZ {D:Type} {l:List D} (h:l.length=1):∃a,l=[a]:=by
 match l,h with|[a],_=>exact⟨a,rfl⟩
theorem gC {D:Type} {l:List D} (h:l.length=2):∃a b,l=[a,b]:=by
 match l,h with|[a,b],_=>exact⟨a,b,rfl⟩
theorem ni {D:Type} {l:List D} (h:l.length=3):∃a b c,l=[a,b,c]:=by
 match l,h with|[a,b,c],_=>exact⟨a,b,c,rfl⟩
theorem Mf {B:Nat} {n:ab} (h:WN B n):ag ((f238 Pf) n) (λ_=>True):=by
 induction h with
 |mk hs hl h44 h47 hk ih=>
  rename_i n;rw[GL,rp];refine ag.bif (λ_=>ag.ret trivial) (λ_=>?_);refine ag.bif (λ_=>?_) (λh51=>?_)
  ·repeat' (first|refine ag.bif (λ_=>ag.ret trivial) (λ_=>?_)|exact ag.ret trivial)
  have h51:n.Kind≠51:=by simpa using h51
  rw[nb h51]at ih;refine ag.bif (λh39=>?_) (λ_=>?_)
  ·have h39:n.Kind=39:=by simpa using h39
   obtain⟨a,b,e⟩:=gC (l:=n.Kids) (by unfold dJ at hs;omega);rw[e]at ih⊢;refine ag.aB (v:=a) rfl (ag.bind (ih a (by simp)) λy _=>?_);refine ag.bif (λ_=>?_) (λ_=>ag.ret trivial);exact ag.aB (v:=b) rfl (ag.bind (ih b (by simp)) λ_ _=>ag.ret trivial)
  refine ag.bif (λh30=>?_) (λ_=>ag.ret trivial);have h30:n.Kind=30:=by simpa using h30
  obtain⟨a,b,c,e⟩:=ni (l:=n.Kids) (by unfold dJ at hs;omega);rw[e]at ih⊢;refine ag.aB (v:=b) rfl (ag.bind (ih b (by simp)) λy _=>?_);refine ag.bif (λ_=>?_) (λ_=>ag.ret trivial);exact ag.aB (v:=c) rfl (ag.bind (ih c (by simp)) λ_ _=>ag.ret trivial)
structure CE (B:Nat) (c:bO):Prop where
 dy:dw c.l
 ok:c.l.ok B
 par:∀p∈c.params,1<=p.aP/\p.aP<=4
 num:c.params.length<=B
def EP (B:Nat) (c:bO) (n:ab) (w:az) (y:ae):Prop:=y.At=n.At/\bq B y.ai/\Fit w y.ai/\W c.l c.params y w
def AP (B:Nat) (c:bO) (w:az) (y:ae):Prop:=bq B y.ai/\∀a,Fit w y.ai->W c.l c.params ⟨y.Op,y.ai,y.N,y.Text,a,y.Kids⟩ w
def EE (B:Nat) (c:bO) (n:ab):Prop:=∀w,bY B w->af ((f48 Pf) c n w) (EP B c n w) dW
theorem fV {t:az}:Fit (aL 0) t:=λh=>by cases h
theorem oW {D β : Type} {L : Int → β → Option (aX D)} {P : D → Prop} {E : AV → Prop} {len : Nat} (Inv : Nat → β → Prop)
    (step : ∀ (i : Nat) b, i < len → Inv i b → (∀ b', Inv (i + 1) b' → af (L ((i + 1 : Nat) : Int) b') P E) → af (L (i : Int) b) P E)
    (stop : ∀ b, Inv len b → af (L (len : Int) b) P E) : ∀ (i : Nat) b, i ≤ len → Inv i b → af (L (i : Int) b) P E := by
  intro i b hi hI
  obtain ⟨k, hk⟩ : ∃ k, len = i + k := ⟨len - i, by omega⟩
  induction k generalizing i b with
  | zero => have : i = len := by omega
            subst this; exact stop b hI
  | succ k ih => exact step i b (by omega) hI fun b' hb' => ih (i + 1) b' (by omega) hb' (by omega)
section
variable {B:Nat} (hB:B<=1048576) {c:bO} (hc:CE B c)
include hB in
theorem NO {n:ab} {w:az} (hw:bY B w) (hA:af ((f91 Pf) c n w) (AP B c w) dW):af ((f48 Pf) c n w) (EP B c n w) dW:=by
 rw[I3,rS];refine af.aA hA (λy hy=>?_);refine af.aB (sH hB _ hy.1.ok) ?_;refine af.aB (fD w) ?_;refine af.bif (λh=>?_) (λh=>?_)
 ·refine af.bind (zJ hB hw.ok) (λb hb=>?_);refine af.bif (λ_=>fC _ _) (λhb'=>?_);have e:w=y.ai:=hb.1 (by simpa using hb');exact af.ret ⟨rfl,hy.1,λ_=>e,hy.2 _ (λ_=>e)⟩
 ·have hf:Fit w y.ai:=λe=>by simp[e]at h
  exact af.ret ⟨rfl,hy.1,hf,hy.2 _ hf⟩
theorem Me {n x z:ab} {a b t:az} {op:Int} (hn:n.Kids=[x,z]) (hx:EE B c x) (hz:EE B c z) (ha:bY B a) (hb:bY B b):
  af ((f158 Pf) c op n a b t) (λy=>∃u v,y=⟨op,t,0,[],0,[u,v]⟩/\EP B c x a u/\EP B c z b v) dW:=by
 rw[GM,rq,hn];refine af.aB (v:=x) rfl (af.aA (hx a ha) λu hu=>?_);refine af.aB (v:=z) rfl (af.aA (hz b hb) λv hv=>?_);exact af.ret ⟨u,v,rfl,hu,hv⟩
def TP (B:Nat) (c:bO) (x z:ab) (lt:Bool) (r:ae×ae):Prop:=
 (EP B c x (aL 0) r.1/\EP B c z r.1.ai r.2/\(lt=true->r.1.ai.aP=0))\/(EP B c z (aL 0) r.2/\EP B c x r.2.ai r.1/\(lt=true->r.2.ai.aP=0))
theorem Cu {n x z:ab} {lt:Bool} (wx:WN B x) (wz:WN B z) (hx:EE B c x) (hz:EE B c z):af ((f203 Pf) c n x z lt) (TP B c x z lt) dW:=by
 rw[GO,rz];refine af.bind (Mf wx) (λo _=>?_);refine af.bif (λ_=>?_) (λ_=>?_)
 ·refine af.bind (Mf wz) (λo _=>?_);refine af.bif (λ_=>fC _ _) (λ_=>?_);refine af.aA (hz (aL 0) (.inl rfl)) (λy hy=>?_);refine af.bif (λhl=>?_) (λhl=>?_)
  ·refine af.bif (λ_=>fC _ _) (λhs=>?_);exact af.aA (hx _ (.inr hy.2.1)) λu hu=>af.ret (.inr ⟨hy,hu,λ_=>by simpa using hs⟩)
  ·exact af.aA (hx _ (.inr hy.2.1)) λu hu=>af.ret (.inr ⟨hy,hu,λe=>by rw[e]at hl;cases hl⟩)
 ·refine af.aA (hx (aL 0) (.inl rfl)) (λy hy=>?_);refine af.bif (λhl=>?_) (λhl=>?_)
  ·refine af.bif (λ_=>fC _ _) (λhs=>?_);exact af.aA (hz _ (.inr hy.2.1)) λu hu=>af.ret (.inl ⟨hy,hu,λ_=>by simpa using hs⟩)
  ·exact af.aA (hz _ (.inr hy.2.1)) λu hu=>af.ret (.inl ⟨hy,hu,λe=>by rw[e]at hl;cases hl⟩)
def OP (B:Nat) (c:bO) (x:ab) (ks:List Int) (y:ae):Prop:=EP B c x (aL 0) y/\y.ai.aP=0/\y.ai.aj.Kind∈ks
theorem CB {n x:ab} {ks:List Int} (hk:ks.length<9223372036854775807) (hx:EE B c x):af ((f204 Pf) c n x ks) (OP B c x ks) dW:=by
 rw[wT,og];refine af.aA (hx (aL 0) (.inl rfl)) (λy hy=>?_);refine af.bif (λ_=>fC _ _) (λhs=>?_);refine af.aB (kq ks _ hk) ?_;refine af.bif (λ_=>fC _ _) (λhm=>af.ret ⟨hy,by simpa using hs,?_⟩);simp only[r6,ka,beq_iff_eq]at hm;obtain⟨k,h1,h2⟩:=hm;rw[h2];exact h1
theorem zK {op:Int} {t:az} {n x:ab} {ks:List Int} (hk:ks.length<9223372036854775807) (hx:EE B c x):af ((f237 Pf) op t ks c n x) (λy=>∃u,y=⟨op,t,0,[],0,[u]⟩/\OP B c x ks u) dW:=by
 rw[uC,nr];exact af.aA (CB hk hx) λu hu=>af.ret ⟨u,rfl,hu⟩
theorem iT {t:az} (h:bq B t) (hs:t.aP=0) {p:ah} (hp:p∈t.aj.ax):bq B (b7 p):= .of ((h.dy hs).1.part hp) (pw (h.dy hs).2 hp)
theorem tX {l:ah} (h:dw l) (hk:l.Kind=5):∃p,l.ax=[p]:=iZ (by have:=h.shape;unfold eV at this;omega)
theorem tY {l:ah} (h:dw l) (hk:l.Kind=7):∃p q,l.ax=[p,q]:=gC (by have:=h.shape;unfold eV at this;omega)
theorem qZ {l:ah} (h:dw l) (hk:l.Kind=6):l.ax.length=l.Names.length:=by have:=h.shape;unfold eV at this;omega
theorem U6 {n x:ab} {w:az} (hn:n.Kids=[x]) (hx:EE B c x):af ((f202 Pf) c n) (AP B c w) dW:=by
 rw[mc,jc,hn];refine af.aB (v:=x) rfl ?_;refine af.aB (bC 2) (af.aB (bC 1) (af.aB (bC 4) ?_));have seeN:∀(op s:Int) (ks:List Int),(op,s,ks)∈[((31:Int),(1:Int),[(2:Int),3]),(32,2,[1]),(33,4,[5,4,10]),(34,4,[8,9]),(37,2,[8,9])]->af (Bw.aA ((f237 Pf) op (aL s) ks c n x) λy=>some (.ret y)) (AP B c w) dW:=by
  intro op s ks hm;refine af.aA (zK (by simp at hm;rcases hm with⟨_,_,rfl⟩|⟨_,_,rfl⟩|⟨_,_,rfl⟩|⟨_,_,rfl⟩|⟨_,_,rfl⟩<;>simp) hx) (λy hy=>?_);obtain⟨u,rfl,hu⟩:=hy;exact af.ret ⟨bq.sort (by simp at hm;omega),λa hf=> .oN hm hu.1.2.2.2 hu.2.1 hu.2.2 hf⟩
 refine af.bif (λ_=>?_) (λ_=>?_)
 ·refine af.aA (hx (aL 0) (.inl rfl)) (λy hy=>?_);refine af.bif (λh4=>?_) (λh4=>?_)
  ·refine af.bif (λ_=>fC _ _) (λh0=>?_);refine af.aB (kq _ _ (by simp)) ?_;refine af.bif (λ_=>fC _ _) (λhm=>af.ret ⟨bq.sort (by simp),λa hf=> .size hy.2.2.2 (.inr ⟨by simpa using h0,?_⟩) hf⟩);simp at hm;simp;omega
  ·exact af.ret ⟨bq.sort (by simp),λa hf=> .size hy.2.2.2 (.inl (by simpa using h4)) hf⟩
 refine af.bif (λ_=>?_) (λ_=>?_)
 ·refine af.aA (zK (by simp) hx) (λy hy=>?_);obtain⟨u,rfl,hu⟩:=hy;refine af.aB (v:=u) rfl ?_;have h5:u.ai.aj.Kind=5:=by simpa using hu.2.2
  obtain⟨p,hp⟩:=tX (hu.1.2.1.dy hu.2.1).1 h5;rw[hp];refine af.aB (v:=p) rfl ?_;have good:(p.Kind=2\/p.Kind=3)->af (some (aX.ret (⟨30,aL 1,0,[],0,[u]⟩:ae))) (AP B c w) dW:=λhk=>
   af.ret ⟨bq.sort (by simp),λa hf=> .sum (p:=p) hu.1.2.2.2 hu.2.1 h5 (by rw[hp];rfl) hk hf⟩
  refine af.bif (λ_=>?_) (λh=>good (.inl (by simpa using h)));exact af.bif (λ_=>fC _ _) (λh=>good (.inr (by simpa using h)))
 refine af.bif (λ_=>seeN 31 1 _ (by simp)) (λ_=>?_);refine af.bif (λ_=>seeN 32 2 _ (by simp)) (λ_=>?_);refine af.bif (λ_=>seeN 33 4 _ (by simp)) (λ_=>?_);refine af.bif (λ_=>seeN 34 4 _ (by simp)) (λ_=>?_);refine af.bif (λ_=>seeN 37 2 _ (by simp)) (λ_=>?_);refine af.bif (λ_=>?_) (λ_=>?_)
 ·refine af.aA (zK (by simp) hx) (λy hy=>?_);obtain⟨u,rfl,hu⟩:=hy;refine af.aB (v:=u) rfl ?_;have h7:u.ai.aj.Kind=7:=by simpa using hu.2.2
  obtain⟨p,q,hp⟩:=tY (hu.1.2.1.dy hu.2.1).1 h7;rw[hp];refine af.aB (v:=q) rfl (af.aB (of_eq q) ?_);exact af.ret ⟨iT hu.1.2.1 hu.2.1 (by rw[hp];simp),λa hf=> .part (i:=1) (p:=q) (.inr ⟨rfl,rfl⟩) hu.1.2.2.2 hu.2.1 h7 (by rw[hp];rfl) hf⟩
 ·refine af.aA (zK (by simp) hx) (λy hy=>?_);obtain⟨u,rfl,hu⟩:=hy;refine af.aB (v:=u) rfl ?_;have h7:u.ai.aj.Kind=7:=by simpa using hu.2.2
  obtain⟨p,q,hp⟩:=tY (hu.1.2.1.dy hu.2.1).1 h7;rw[hp];refine af.aB (v:=p) rfl (af.aB (of_eq p) ?_);exact af.ret ⟨iT hu.1.2.1 hu.2.1 (by rw[hp];simp),λa hf=> .part (i:=0) (p:=p) (.inl ⟨rfl,rfl⟩) hu.1.2.2.2 hu.2.1 h7 (by rw[hp];rfl) hf⟩
theorem Dr {n:Nat} (h:n<=274877906944):wv (n:Int)=some n:=by
 show(bif Nat.ble n 274877906944 then some n else none)=some n;rw[B9 h];rfl
def SG (c:bO) (l:ah) (s3:List ae) (s4:List Bool):Prop:=s3.length=l.ax.length/\s4.length=l.ax.length/\∀(i:Nat) x p,s4[i]? =some true->s3[i]? =some x->l.ax[i]? =some p->W c.l c.params x (b7 p)
def RP (c:bO) (l:ah) (ys:List ae):Prop:=ys.length=l.ax.length/\∀(i:Nat) x p,ys[i]? =some x->l.ax[i]? =some p->W c.l c.params x (b7 p)
include hB in
theorem XG {n:ab} {l:ah} (hl:dw l) (ho:l.ok B) {s4:List Bool} {s3:List ae} (hI:SG c l s3 s4):af ((jz Pf) n l s4 s3 0) (RP c l) dW:=by
 have hlen:l.ax.length<=B:=by rw[ah.c8]at ho;exact ho.2.2.2.2.1.1
 have h:=oW (L:=λi (b:List ae)=>(jz Pf) n l s4 b i) (P:=RP c l) (E:=dW) (len:=l.ax.length) (λi b=>b.length=l.ax.length/\∀(j:Nat) x p,(j<i\/s4[j]? =some true)->b[j]? =some x->l.ax[j]? =some p->W c.l c.params x (b7 p)) (λi b hi hJ k=>by
   show af ((jz Pf) n l s4 b i) _ _;rw[sQ,mM,ah.aD,aY];have:decide (i<l.ax.length)=true:=by simpa using hi
   obtain⟨p,hp⟩:=bh hi;obtain⟨f,hf⟩:=bh (l:=s4) (i:=i) (by rw[hI.2.1];exact hi);obtain⟨x,hx⟩:=bh (l:=b) (i:=i) (by rw[hJ.1];exact hi);have hm:=bw hp;rw[this,aV,bj hp,aw,bj hf,aw,bP i (by omega)];refine af.bif (λh1=>?_) (λh1=>?_)
   ·refine af.aB (sH hB p (pw ho hm)) (af.aB (of_eq p) (af.aB (er hx) ?_));rw[fj];refine k _ ⟨by simp[hJ.1],λj y q hj hy hq=>?_⟩;by_cases e:j=i
    ·subst e;rw[mA (by rw[hJ.1];exact hi)]at hy;cases hy;rw[hp]at hq;cases hq;exact .kZ rfl (bq.of (hl.part hm) (pw ho hm)).lY
    ·rw[jX (by omega)]at hy;exact hJ.2 j y q (by rcases hj with hj|hj;exact .inl (by omega);exact .inr hj) hy hq
   ·refine k _ ⟨hJ.1,λj y q hj hy hq=>?_⟩;by_cases e:j=i
    ·subst e;have:f=true:=by simpa using h1
     exact hJ.2 j y q (.inr (by rw[hf,this])) hy hq
    ·exact hJ.2 j y q (by rcases hj with hj|hj;exact .inl (by omega);exact .inr hj) hy hq) (λb hJ=>by
   show af ((jz Pf) n l s4 b _) _ _;rw[sQ,mM,ah.aD,aY];have:decide (l.ax.length<l.ax.length)=false:=by simp
   rw[this,bp];exact af.ret ⟨hJ.1,λj x p hx hp=>hJ.2 j x p (.inl (cr.1 hp).1) hx hp⟩) 0 s3 (by omega) ⟨hI.1,λj x p hj hx hp=>by
    rcases hj with hj|hj
    ·omega
    ·exact hI.2.2 j x p hj hx hp⟩
 exact h
include hB in
theorem VS {n:ab} {l:ah} (hl:dw l) (ho:l.ok B) (h6:l.Kind=6) (hn:n.Kids.length<=B) (h1:∀e∈n.Kids,∃k,e.Kids=[k]/\EE B c k):af ((f201 Pf) c n l) (RP c l) dW:=by
 have hlen:l.ax.length<=B:=by rw[ah.c8]at ho;exact ho.2.2.2.2.1.1
 have hpn:=qZ hl h6;rw[GN,ry,ah.aD,Dr (by omega),aw,aw];have h:=oW (L:=λi (b:List ae×List Bool)=>(lQ Pf) c n l b.1 b.2 i) (P:=RP c l) (E:=dW) (len:=n.Kids.length) (λi b=>SG c l b.1 b.2) (λi b hi hI k=>by
   show af ((lQ Pf) c n l b.1 b.2 i) _ _;rw[sR,mN,ab.aD,aY];have:decide (i<n.Kids.length)=true:=by simpa using hi
   obtain⟨e,he⟩:=bh hi;obtain⟨kd,hk,hE⟩:=h1 e (bw he);rw[this,aV,bj he,aw,qw _ _ (by omega),aw,bP i (by omega)];refine af.bif (λ_=>fC _ _) (λh2=>?_);obtain⟨j,t,hj,ht,_⟩:=yn (by simpa using h2);rw[hj];have hjl:j<l.ax.length:=by rw[hpn];exact(cr.1 ht).1
   obtain⟨f,hf⟩:=bh (l:=b.2) (i:=j) (by rw[hI.2.1];exact hjl);obtain⟨x,hx⟩:=bh (l:=b.1) (i:=j) (by rw[hI.1];exact hjl);obtain⟨p,hp⟩:=bh hjl;have hm:=bw hp;refine af.aB (er hf) ?_;refine af.bif (λ_=>fC _ _) (λ_=>?_);rw[hk];refine af.aB (v:=kd) rfl (af.aB (er hp) (af.aB (of_eq p) ?_));refine af.aA (hE (b7 p) (.inr (bq.of (hl.part hm) (pw ho hm)))) (λy hy=>?_);refine af.aB (er hx) (af.aB (er hf) ?_);rw[fj];refine k (b.1.set j y,b.2.set j true) ⟨by simp[hI.1],by simp[hI.2.1],λq z r h3 h4 h5=>?_⟩;by_cases e:q=j
   ·subst e;simp only at h4;rw[mA (by rw[hI.1];exact hjl)]at h4;cases h4;rw[hp]at h5;cases h5;exact hy.2.2.2
   ·simp only at h3 h4;rw[jX (by omega)]at h3 h4;exact hI.2.2 q z r h3 h4 h5) (λb hI=>by
   show af ((lQ Pf) c n l b.1 b.2 _) _ _;rw[sR,mN,ab.aD,aY];have:decide (n.Kids.length<n.Kids.length)=false:=by simp
   rw[this,bp];exact XG hB hl ho hI) 0 (List.replicate l.ax.length ae.z,List.replicate l.ax.length false) (by omega) ⟨by simp,by simp,λi x p hi _ _=>by
    simp[Ck]at hi⟩
 exact h
