/- Trees of expressions that are well formed; types.bare answers, and what it answers is one. -/
import Derived.Test.YtfgnmgbiijpkiaaGreatKVa1
set_option linter.all false
section
namespace Go.Proofs.YtfgnmgbiijpkiaaGreat
open Go Go.Bw
def eu:List UInt8:=[109,97,112]
def er:List UInt8:=[114,101,99]
def fJ (n:ae):List ae:=bif n.Kind==51&&(n.Text==eu||n.Text==er)then n.Kids.flatMap (·.Kids)else n.Kids
def dC (n:ae):Prop:=
 (n.Kind=30/\n.Kids.length=3)\/((n.Kind=33\/n.Kind=42)/\n.Kids.length=1)\/
 ((31<=n.Kind/\n.Kind<=43/\n.Kind≠33/\n.Kind≠42)/\n.Kids.length=2)\/(44<=n.Kind/\n.Kind<=50)\/
 (n.Kind=51/\(n.Text=eu->∀e∈n.Kids,e.Kids.length=2)/\(n.Text=er->∀e∈n.Kids,e.Kids.length=1))
inductive WN (B:Nat):ae->Prop
 |mk {n:ae}:dC n->n.Kids.length<=B->(n.Kind=44-> -1000000000000000<=n.N/\n.N<=1000000000000000)->(n.Kind=47->NV n.Text)->(∀k∈fJ n,WN B k)->WN B n
theorem nG {D:Type} (l:List D) (z y:D):(l++[z]).set l.length y=l++[y]:=by simp
theorem ab.ind {P:ab->Prop} (h:∀x:ab,(∀k∈x.Kids,P k)->P x):∀x,P x:=by
 intro x;refine ab.rec (motive_1:=P) (motive_2:=λks=>∀k∈ks,P k) ?_ ?_ ?_ x
 ·intro op ty n t a ks ih;exact h ⟨op,ty,n,t,a,ks⟩ ih
 ·intro k hk;cases hk
 ·intro k ks h1 h2 x hx;rcases dc.1 hx with rfl|hx
  ·exact h1
  ·exact h2 x hx
theorem vH {B:Nat} {n:ae} (h:44<=n.Kind/\n.Kind<=50) (hk:n.Kids=[]) (h1:n.Kind=44-> -1000000000000000<=n.N/\n.N<=1000000000000000) (h2:n.Kind=47->NV n.Text):WN B n:=by
 refine .mk (.inr (.inr (.inr (.inl h)))) (by rw[hk];simp) h1 h2 λk hm=>?_;have:(n.Kind==51)=false:=by simp;omega
 rw[fJ,this,hk]at hm;simp at hm
variable {B:Nat} (hB:B<=1048576)
include hB
end Go.Proofs.YtfgnmgbiijpkiaaGreat
end

section
namespace Go.Proofs.YtfgnmgbiijpkiaaGreat
open Go Go.Bw
def dO (z:AV):Prop:=∃a b:Int,a≠0/\z= .bu 28 (.agg [.v (.int .i64 a),.v (.int .i64 b)])
theorem dO.ref {z:AV} (h:dO z):cR z=true:=by obtain⟨a,b,_,rfl⟩:=h;rfl
theorem eO {D:Type} {Q:D->Prop} (a b:Int) (ha:a≠0:=by decide):ao (Bw.aH ((f80 Pf) a b) λ_=>(none:Option (aU D))) Q dO:=by
 rw[jE,gD];exact⟨_,rfl,a,b,ha,rfl⟩
theorem kN (a:List Int) (x:Int) (ha:a.length<9223372036854775807):(f199 Pf) a x=some (a.any λy=>x==y):=by
 have:(f236 Pf) a x=some (idxOf (λy=>x==y) a 0):=by
  rw[SE,qw];refine zt (λy=>x==y) (λi y hy hi=>?_) ?_
  ·rw[Gq,pv];have:decide ((i:Int)<((eC IntKind.i64 a).length:Int))=true:=by rw[xX];simp;omega
   rw[this,bE,bW hy,aN,cD i (by omega)]
  ·rw[Gq,pv];have:decide ((a.length:Int)<((eC IntKind.i64 a).length:Int))=false:=by rw[xX];simp
   rw[this];rfl
 rw[SF,sN,this,aN,MX]
theorem I6 (a:List TParam) (n:ae) (ha:a.length<9223372036854775807):(rC Pf) a n=some (idxOf (λp:TParam=>p.Name==n.Text) a 0):=by
 rw[NK,pd];refine zt (λp:TParam=>p.Name==n.Text) (λi y hy hi=>?_) ?_
 ·rw[Ek,oR,TParam.bc,bX];have:decide (i<a.length)=true:=by simpa using hi
  rw[this,bE,bW hy,aN,SC,sM,aN,cD i (by omega)]
 ·rw[Ek,oR,TParam.bc,bX];have:decide (a.length<a.length)=false:=by simp
  rw[this];rfl
theorem uJ {D : Type} {p : D → Bool} {a : List D} (h : ¬ idxOf p a 0 < 0) : ∃ (i : Nat) (x : D), idxOf p a 0 = (i : Int) ∧ a[i]? = some x ∧ p x = true := by
  rcases rB p a 0 with ⟨h1, _⟩ | ⟨i, x, h1, h2, h3, _⟩
  · have e : idxOf p a 0 = -1 := h1
    rw [e] at h; simp at h
  · exact ⟨i, x, by have e : idxOf p a 0 = ((0 + i : Nat) : Int) := h1
                    rw [e]; simp, h2, h3⟩
def bq (B:Nat) (t:az):Prop:=(1<=t.aS/\t.aS<=4/\t.aj=l0)\/(t.aS=0/\ew t.aj/\t.aj.ok B)
def cd (B:Nat) (t:az):Prop:=t=ba 0\/bq B t
theorem JF (B:Nat):l0.ok B:=by rw[ai.eP];simp[l0,ai.e9,Lit.wf];decide
theorem ew.kind {l:ai} (h:ew l):1<=l.Kind/\l.Kind<=10:=by
 have h:=h.shape;unfold ig at h;omega
theorem pV {B:Nat} {l p:ai} (h:l.ok B) (hp:p∈l.aB):p.ok B:=by
 rw[ai.eP]at h;exact ai.pM h.2.2.2.2.1.2 hp
theorem bq.ok {B:Nat} {t:az} (h:bq B t):t.aj.ok B:=by
 rcases h with⟨_,_,h⟩|⟨_,_,h⟩
 ·rw[h];exact JF B
 ·exact h
theorem bq.vu {B:Nat} {t:az} (h:bq B t):isNone t=false:=by
 rcases h with⟨h1,h2,_⟩|⟨_,h,_⟩
 ·unfold isNone;have:(t.aS==0)=false:=by simp;omega
  rw[this];rfl
 ·have:=h.kind;unfold isNone;have:(t.aj.Kind==0)=false:=by simp;omega
  rw[this];simp
theorem bq.sort {B:Nat} {n:Int} (h:1<=n/\n<=4):bq B (ba n):= .inl ⟨h.1,h.2,rfl⟩
theorem bq.of {B:Nat} {l:ai} (h:ew l) (ho:l.ok B):bq B (cJ l):= .inr ⟨rfl,h,ho⟩
theorem bq.dI {B:Nat} {t:az} (h:bq B t) (hs:t.aS=0):ew t.aj/\t.aj.ok B:=by
 rcases h with⟨h1,_⟩|⟨_,h⟩
 ·omega
 ·exact h
theorem cd.ok {B:Nat} {t:az} (h:cd B t):t.aj.ok B:=by
 rcases h with rfl|h
 ·exact JF B
 ·exact h.ok
theorem cd.none {B:Nat} {t:az} (h:cd B t) (hn:isNone t=true):t=ba 0:=by
 rcases h with h|h
 ·exact h
 ·rw[h.vu]at hn;cases hn
theorem cd.some {B:Nat} {t:az} (h:cd B t) (hn:isNone t=false):bq B t:=by
 rcases h with rfl|h
 ·cases hn
 ·exact h
theorem cd.kind {B:Nat} {t:az} (h:cd B t) (hs:t.aS=0) (hk:t.aj.Kind≠0):ew t.aj/\t.aj.ok B/\isNone t=false:=by
 rcases h with rfl|h
 ·exact absurd rfl hk
 ·exact⟨(h.dI hs).1,(h.dI hs).2,h.vu⟩
theorem vc:ew eG:=⟨.mk (.inl ⟨.inr rfl,rfl,rfl,rfl,rfl,rfl⟩) (by simp[oD,eG]) ⟨by simp[eG],by simp[eG,rising],by simp[eG],by simp[eG]⟩ (by simp[eG]) (by simp[eG]) (by simp[eG]),by simp[z8,eG,iW],by simp[Aa,eG,kX]⟩
theorem vv (B:Nat):eG.ok B:=by rw[ai.eP];simp[eG,ai.e9,Lit.wf];decide
theorem fM {D:Type} {l:List D} {i:Nat} {x:D} (h:l[i]? =some x):ax l (i:Int)=some x:=h
theorem kR {n:ae} (h:n.Kind≠51):fJ n=n.Kids:=by
 have:(n.Kind==51)=false:=by simpa using h
 rw[fJ,this];rfl
theorem jy {D:Type} {l:List D} (h:l.length=1):∃a,l=[a]:=by
 match l,h with|[a],_=>exact⟨a,rfl⟩
theorem gg {D:Type} {l:List D} (h:l.length=2):∃a b,l=[a,b]:=by
 match l,h with|[a,b],_=>exact⟨a,b,rfl⟩
theorem qv {D:Type} {l:List D} (h:l.length=3):∃a b c,l=[a,b,c]:=by
 match l,h with|[a,b,c],_=>exact⟨a,b,c,rfl⟩
theorem Gm {B:Nat} {n:ae} (h:WN B n):ag ((f238 Pf) n) (λ_=>True):=by
 induction h with
 |mk hs hl h44 h47 hk ih=>
  rename_i n;rw[Kn,qz];refine ag.bif (λ_=>ag.ret trivial) (λ_=>?_);refine ag.bif (λ_=>?_) (λh51=>?_)
  ·repeat' (first|refine ag.bif (λ_=>ag.ret trivial) (λ_=>?_)|exact ag.ret trivial)
  have h51:n.Kind≠51:=by simpa using h51
  rw[kR h51]at ih;refine ag.bif (λh39=>?_) (λ_=>?_)
  ·have h39:n.Kind=39:=by simpa using h39
   obtain⟨a,b,e⟩:=gg (l:=n.Kids) (by unfold dC at hs;omega);rw[e]at ih⊢;refine ag.bj (v:=a) rfl (ag.bind (ih a (by simp)) λy _=>?_);refine ag.bif (λ_=>?_) (λ_=>ag.ret trivial);exact ag.bj (v:=b) rfl (ag.bind (ih b (by simp)) λ_ _=>ag.ret trivial)
  refine ag.bif (λh30=>?_) (λ_=>ag.ret trivial);have h30:n.Kind=30:=by simpa using h30
  obtain⟨a,b,c,e⟩:=qv (l:=n.Kids) (by unfold dC at hs;omega);rw[e]at ih⊢;refine ag.bj (v:=b) rfl (ag.bind (ih b (by simp)) λy _=>?_);refine ag.bif (λ_=>?_) (λ_=>ag.ret trivial);exact ag.bj (v:=c) rfl (ag.bind (ih c (by simp)) λ_ _=>ag.ret trivial)
structure CE (B:Nat) (c:bR):Prop where
 dI:ew c.l
 ok:c.l.ok B
 par:∀p∈c.params,1<=p.aS/\p.aS<=4
 num:c.params.length<=B
def EP (B:Nat) (c:bR) (n:ae) (w:az) (y:ab):Prop:=y.At=n.At/\bq B y.ak/\Fit w y.ak/\W c.l c.params y w
def AP (B:Nat) (c:bR) (w:az) (y:ab):Prop:=bq B y.ak/\∀a,Fit w y.ak->W c.l c.params ⟨y.Op,y.ak,y.N,y.Text,a,y.Kids⟩ w
def EE (B:Nat) (c:bR) (n:ae):Prop:=∀w,cd B w->ao ((f48 Pf) c n w) (EP B c n w) dO
theorem uZ {D β : Type} {L : Int → β → Option (aU D)} {P : D → Prop} {E : AV → Prop} {len : Nat} (Inv : Nat → β → Prop)
    (step : ∀ (i : Nat) b, i < len → Inv i b → (∀ b', Inv (i + 1) b' → ao (L ((i + 1 : Nat) : Int) b') P E) → ao (L (i : Int) b) P E)
    (stop : ∀ b, Inv len b → ao (L (len : Int) b) P E) : ∀ (i : Nat) b, i ≤ len → Inv i b → ao (L (i : Int) b) P E := by
  intro i b hi hI
  obtain ⟨k, hk⟩ : ∃ k, len = i + k := ⟨len - i, by omega⟩
  induction k generalizing i b with
  | zero => have : i = len := by omega
            subst this; exact stop b hI
  | succ k ih => exact step i b (by omega) hI fun b' hb' => ih (i + 1) b' (by omega) hb' (by omega)
section
variable {B:Nat} (hB:B<=1048576) {c:bR} (hc:CE B c)
include hB in
theorem HM {n:ae} {w:az} (hw:cd B w) (hA:ao ((f91 Pf) c n w) (AP B c w) dO):ao ((f48 Pf) c n w) (EP B c n w) dO:=by
 rw[LW,qV];refine ao.aH hA (λy hy=>?_);refine ao.bj (uY hB _ hy.1.ok) ?_;refine ao.bj (jo w) ?_;refine ao.bif (λh=>?_) (λh=>?_)
 ·refine ao.bind (Gc hB hw.ok) (λb hb=>?_);refine ao.bif (λ_=>eO _ _) (λhb'=>?_);have e:w=y.ak:=hb.1 (by simpa using hb');exact ao.ret ⟨rfl,hy.1,λ_=>e,hy.2 _ (λ_=>e)⟩
 ·have hf:Fit w y.ak:=λe=>by simp[e]at h
  exact ao.ret ⟨rfl,hy.1,hf,hy.2 _ hf⟩
theorem Gk {n x z:ae} {a b t:az} {op:Int} (hn:n.Kids=[x,z]) (hx:EE B c x) (hz:EE B c z) (ha:cd B a) (hb:cd B b):
  ao ((f158 Pf) c op n a b t) (λy=>∃u v,y=⟨op,t,0,[],0,[u,v]⟩/\EP B c x a u/\EP B c z b v) dO:=by
 rw[Ko,qB,hn];refine ao.bj (v:=x) rfl (ao.aH (hx a ha) λu hu=>?_);refine ao.bj (v:=z) rfl (ao.aH (hz b hb) λv hv=>?_);exact ao.ret ⟨u,v,rfl,hu,hv⟩
def TP (B:Nat) (c:bR) (x z:ae) (lt:Bool) (r:ab×ab):Prop:=
 (EP B c x (ba 0) r.1/\EP B c z r.1.ak r.2/\(lt=true->r.1.ak.aS=0))\/(EP B c z (ba 0) r.2/\EP B c x r.2.ak r.1/\(lt=true->r.2.ak.aS=0))
theorem xI {n x z:ae} {lt:Bool} (wx:WN B x) (wz:WN B z) (hx:EE B c x) (hz:EE B c z):ao ((f203 Pf) c n x z lt) (TP B c x z lt) dO:=by
 rw[Ks,qH];refine ao.bind (Gm wx) (λo _=>?_);refine ao.bif (λ_=>?_) (λ_=>?_)
 ·refine ao.bind (Gm wz) (λo _=>?_);refine ao.bif (λ_=>eO _ _) (λ_=>?_);refine ao.aH (hz (ba 0) (.inl rfl)) (λy hy=>?_);refine ao.bif (λhl=>?_) (λhl=>?_)
  ·refine ao.bif (λ_=>eO _ _) (λhs=>?_);exact ao.aH (hx _ (.inr hy.2.1)) λu hu=>ao.ret (.inr ⟨hy,hu,λ_=>by simpa using hs⟩)
  ·exact ao.aH (hx _ (.inr hy.2.1)) λu hu=>ao.ret (.inr ⟨hy,hu,λe=>by rw[e]at hl;cases hl⟩)
 ·refine ao.aH (hx (ba 0) (.inl rfl)) (λy hy=>?_);refine ao.bif (λhl=>?_) (λhl=>?_)
  ·refine ao.bif (λ_=>eO _ _) (λhs=>?_);exact ao.aH (hz _ (.inr hy.2.1)) λu hu=>ao.ret (.inl ⟨hy,hu,λ_=>by simpa using hs⟩)
  ·exact ao.aH (hz _ (.inr hy.2.1)) λu hu=>ao.ret (.inl ⟨hy,hu,λe=>by rw[e]at hl;cases hl⟩)
def OP (B:Nat) (c:bR) (x:ae) (ks:List Int) (y:ab):Prop:=EP B c x (ba 0) y/\y.ak.aS=0/\y.ak.aj.Kind∈ks
theorem xM {n x:ae} {ks:List Int} (hk:ks.length<9223372036854775807) (hx:EE B c x):ao ((f204 Pf) c n x ks) (OP B c x ks) dO:=by
 rw[vZ,mE];refine ao.aH (hx (ba 0) (.inl rfl)) (λy hy=>?_);refine ao.bif (λ_=>eO _ _) (λhs=>?_);refine ao.bj (kN ks _ hk) ?_;refine ao.bif (λ_=>eO _ _) (λhm=>ao.ret ⟨hy,by simpa using hs,?_⟩);simp only[uA,l3,beq_iff_eq]at hm;obtain⟨k,h1,h2⟩:=hm;rw[h2];exact h1
theorem vd {op:Int} {t:az} {n x:ae} {ks:List Int} (hk:ks.length<9223372036854775807) (hx:EE B c x):ao ((f237 Pf) op t ks c n x) (λy=>∃u,y=⟨op,t,0,[],0,[u]⟩/\OP B c x ks u) dO:=by
 rw[sR,lG];exact ao.aH (xM hk hx) λu hu=>ao.ret ⟨u,rfl,hu⟩
theorem ke {t:az} (h:bq B t) (hs:t.aS=0) {p:ai} (hp:p∈t.aj.aB):bq B (cJ p):= .of ((h.dI hs).1.part hp) (pV (h.dI hs).2 hp)
theorem qe {l:ai} (h:ew l) (hk:l.Kind=5):∃p,l.aB=[p]:=jy (by have:=h.shape;unfold ig at this;omega)
theorem qf {l:ai} (h:ew l) (hk:l.Kind=7):∃p q,l.aB=[p,q]:=gg (by have:=h.shape;unfold ig at this;omega)
theorem sA {l:ai} (h:ew l) (hk:l.Kind=6):l.aB.length=l.Names.length:=by have:=h.shape;unfold ig at this;omega
theorem M0 {n x:ae} {w:az} (hn:n.Kids=[x]) (hx:EE B c x):ao ((f202 Pf) c n) (AP B c w) dO:=by
 rw[Kq,qD,hn];refine ao.bj (v:=x) rfl ?_;refine ao.bj (dh 2) (ao.bj (dh 1) (ao.bj (dh 4) ?_));have seeN:∀(op s:Int) (ks:List Int),(op,s,ks)∈[((31:Int),(1:Int),[(2:Int),3]),(32,2,[1]),(33,4,[5,4,10]),(34,4,[8,9]),(37,2,[8,9])]->ao (Bw.aH ((f237 Pf) op (ba s) ks c n x) λy=>some (.ret y)) (AP B c w) dO:=by
  intro op s ks hm;refine ao.aH (vd (by simp at hm;rcases hm with⟨_,_,rfl⟩|⟨_,_,rfl⟩|⟨_,_,rfl⟩|⟨_,_,rfl⟩|⟨_,_,rfl⟩<;>simp) hx) (λy hy=>?_);obtain⟨u,rfl,hu⟩:=hy;exact ao.ret ⟨bq.sort (by simp at hm;omega),λa hf=> .Mk hm hu.1.2.2.2 hu.2.1 hu.2.2 hf⟩
 refine ao.bif (λ_=>?_) (λ_=>?_)
 ·refine ao.aH (hx (ba 0) (.inl rfl)) (λy hy=>?_);refine ao.bif (λh4=>?_) (λh4=>?_)
  ·refine ao.bif (λ_=>eO _ _) (λh0=>?_);refine ao.bj (kN _ _ (by simp)) ?_;refine ao.bif (λ_=>eO _ _) (λhm=>ao.ret ⟨bq.sort (by simp),λa hf=> .size hy.2.2.2 (.inr ⟨by simpa using h0,?_⟩) hf⟩);simp at hm;simp;omega
  ·exact ao.ret ⟨bq.sort (by simp),λa hf=> .size hy.2.2.2 (.inl (by simpa using h4)) hf⟩
 refine ao.bif (λ_=>?_) (λ_=>?_)
 ·refine ao.aH (vd (by simp) hx) (λy hy=>?_);obtain⟨u,rfl,hu⟩:=hy;refine ao.bj (v:=u) rfl ?_;have h5:u.ak.aj.Kind=5:=by simpa using hu.2.2
  obtain⟨p,hp⟩:=qe (hu.1.2.1.dI hu.2.1).1 h5;rw[hp];refine ao.bj (v:=p) rfl ?_;have good:(p.Kind=2\/p.Kind=3)->ao (some (aU.ret (⟨30,ba 1,0,[],0,[u]⟩:ab))) (AP B c w) dO:=λhk=>
   ao.ret ⟨bq.sort (by simp),λa hf=> .sum (p:=p) hu.1.2.2.2 hu.2.1 h5 (by rw[hp];rfl) hk hf⟩
  refine ao.bif (λ_=>?_) (λh=>good (.inl (by simpa using h)));exact ao.bif (λ_=>eO _ _) (λh=>good (.inr (by simpa using h)))
 refine ao.bif (λ_=>seeN 31 1 _ (by simp)) (λ_=>?_);refine ao.bif (λ_=>seeN 32 2 _ (by simp)) (λ_=>?_);refine ao.bif (λ_=>seeN 33 4 _ (by simp)) (λ_=>?_);refine ao.bif (λ_=>seeN 34 4 _ (by simp)) (λ_=>?_);refine ao.bif (λ_=>seeN 37 2 _ (by simp)) (λ_=>?_);refine ao.bif (λ_=>?_) (λ_=>?_)
 ·refine ao.aH (vd (by simp) hx) (λy hy=>?_);obtain⟨u,rfl,hu⟩:=hy;refine ao.bj (v:=u) rfl ?_;have h7:u.ak.aj.Kind=7:=by simpa using hu.2.2
  obtain⟨p,q,hp⟩:=qf (hu.1.2.1.dI hu.2.1).1 h7;rw[hp];refine ao.bj (v:=q) rfl (ao.bj (of_eq q) ?_);exact ao.ret ⟨ke hu.1.2.1 hu.2.1 (by rw[hp];simp),λa hf=> .part (i:=1) (p:=q) (.inr ⟨rfl,rfl⟩) hu.1.2.2.2 hu.2.1 h7 (by rw[hp];rfl) hf⟩
 ·refine ao.aH (vd (by simp) hx) (λy hy=>?_);obtain⟨u,rfl,hu⟩:=hy;refine ao.bj (v:=u) rfl ?_;have h7:u.ak.aj.Kind=7:=by simpa using hu.2.2
  obtain⟨p,q,hp⟩:=qf (hu.1.2.1.dI hu.2.1).1 h7;rw[hp];refine ao.bj (v:=p) rfl (ao.bj (of_eq p) ?_);exact ao.ret ⟨ke hu.1.2.1 hu.2.1 (by rw[hp];simp),λa hf=> .part (i:=0) (p:=p) (.inl ⟨rfl,rfl⟩) hu.1.2.2.2 hu.2.1 h7 (by rw[hp];rfl) hf⟩
theorem Gn {n:Nat} (h:n<=274877906944):sE (n:Int)=some n:=by
 show(bif Nat.ble n 274877906944 then some n else none)=some n;rw[rk h];rfl
def Ll (c:bR) (l:ai) (s3:List ab) (s4:List Bool):Prop:=s3.length=l.aB.length/\s4.length=l.aB.length/\∀(i:Nat) x p,s4[i]? =some true->s3[i]? =some x->l.aB[i]? =some p->W c.l c.params x (cJ p)
def RP (c:bR) (l:ai) (ys:List ab):Prop:=ys.length=l.aB.length/\∀(i:Nat) x p,ys[i]? =some x->l.aB[i]? =some p->W c.l c.params x (cJ p)
include hB in
theorem O0 {n:ae} {l:ai} (hl:ew l) (ho:l.ok B) {s4:List Bool} {s3:List ab} (hI:Ll c l s3 s4):ao ((kJ Pf) n l s4 s3 0) (RP c l) dO:=by
 have hlen:l.aB.length<=B:=by rw[ai.eP]at ho;exact ho.2.2.2.2.1.1
 have h:=uZ (L:=λi (b:List ab)=>(kJ Pf) n l s4 b i) (P:=RP c l) (E:=dO) (len:=l.aB.length) (λi b=>b.length=l.aB.length/\∀(j:Nat) x p,(j<i\/s4[j]? =some true)->b[j]? =some x->l.aB[j]? =some p->W c.l c.params x (cJ p)) (λi b hi hJ k=>by
   show ao ((kJ Pf) n l s4 b i) _ _;rw[vk,mg,ai.bc,bX];have:decide (i<l.aB.length)=true:=by simpa using hi
   obtain⟨p,hp⟩:=cn hi;obtain⟨f,hf⟩:=cn (l:=s4) (i:=i) (by rw[hI.2.1];exact hi);obtain⟨x,hx⟩:=cn (l:=b) (i:=i) (by rw[hJ.1];exact hi);have hm:=cy hp;rw[this,bE,bW hp,aN,bW hf,aN,cD i (by omega)];refine ao.bif (λh1=>?_) (λh1=>?_)
   ·refine ao.bj (uY hB p (pV ho hm)) (ao.bj (of_eq p) (ao.bj (fM hx) ?_));rw[iJ];refine k _ ⟨by simp[hJ.1],λj y q hj hy hq=>?_⟩;by_cases e:j=i
    ·subst e;rw[rm (by rw[hJ.1];exact hi)]at hy;cases hy;rw[hp]at hq;cases hq;exact .AU rfl (bq.of (hl.part hm) (pV ho hm)).vu
    ·rw[mV (by omega)]at hy;exact hJ.2 j y q (by rcases hj with hj|hj;exact .inl (by omega);exact .inr hj) hy hq
   ·refine k _ ⟨hJ.1,λj y q hj hy hq=>?_⟩;by_cases e:j=i
    ·subst e;have:f=true:=by simpa using h1
     exact hJ.2 j y q (.inr (by rw[hf,this])) hy hq
    ·exact hJ.2 j y q (by rcases hj with hj|hj;exact .inl (by omega);exact .inr hj) hy hq) (λb hJ=>by
   show ao ((kJ Pf) n l s4 b _) _ _;rw[vk,mg,ai.bc,bX];have:decide (l.aB.length<l.aB.length)=false:=by simp
   rw[this,cp];exact ao.ret ⟨hJ.1,λj x p hx hp=>hJ.2 j x p (.inl (c8.1 hp).1) hx hp⟩) 0 s3 (by omega) ⟨hI.1,λj x p hj hx hp=>by
    rcases hj with hj|hj
    ·omega
    ·exact hI.2.2 j x p hj hx hp⟩
 exact h
include hB in
theorem NB {n:ae} {l:ai} (hl:ew l) (ho:l.ok B) (h6:l.Kind=6) (hn:n.Kids.length<=B) (h1:∀e∈n.Kids,∃k,e.Kids=[k]/\EE B c k):ao ((f201 Pf) c n l) (RP c l) dO:=by
 have hlen:l.aB.length<=B:=by rw[ai.eP]at ho;exact ho.2.2.2.2.1.1
 have hpn:=sA hl h6;rw[Kp,qC,ai.bc,Gn (by omega),aN,aN];have h:=uZ (L:=λi (b:List ab×List Bool)=>(me Pf) c n l b.1 b.2 i) (P:=RP c l) (E:=dO) (len:=n.Kids.length) (λi b=>Ll c l b.1 b.2) (λi b hi hI k=>by
   show ao ((me Pf) c n l b.1 b.2 i) _ _;rw[vl,mf,ae.bc,bX];have:decide (i<n.Kids.length)=true:=by simpa using hi
   obtain⟨e,he⟩:=cn hi;obtain⟨kd,hk,hE⟩:=h1 e (cy he);rw[this,bE,bW he,aN,vb _ _ (by omega),aN,cD i (by omega)];refine ao.bif (λ_=>eO _ _) (λh2=>?_);obtain⟨j,t,hj,ht,_⟩:=uJ (by simpa using h2);rw[hj];have hjl:j<l.aB.length:=by rw[hpn];exact(c8.1 ht).1
   obtain⟨f,hf⟩:=cn (l:=b.2) (i:=j) (by rw[hI.2.1];exact hjl);obtain⟨x,hx⟩:=cn (l:=b.1) (i:=j) (by rw[hI.1];exact hjl);obtain⟨p,hp⟩:=cn hjl;have hm:=cy hp;refine ao.bj (fM hf) ?_;refine ao.bif (λ_=>eO _ _) (λ_=>?_);rw[hk];refine ao.bj (v:=kd) rfl (ao.bj (fM hp) (ao.bj (of_eq p) ?_));refine ao.aH (hE (cJ p) (.inr (bq.of (hl.part hm) (pV ho hm)))) (λy hy=>?_);refine ao.bj (fM hx) (ao.bj (fM hf) ?_);rw[iJ];refine k (b.1.set j y,b.2.set j true) ⟨by simp[hI.1],by simp[hI.2.1],λq z r h3 h4 h5=>?_⟩;by_cases e:q=j
   ·subst e;simp only at h4;rw[rm (by rw[hI.1];exact hjl)]at h4;cases h4;rw[hp]at h5;cases h5;exact hy.2.2.2
   ·simp only at h3 h4;rw[mV (by omega)]at h3 h4;exact hI.2.2 q z r h3 h4 h5) (λb hI=>by
   show ao ((me Pf) c n l b.1 b.2 _) _ _;rw[vl,mf,ae.bc,bX];have:decide (n.Kids.length<n.Kids.length)=false:=by simp
   rw[this,cp];exact O0 hB hl ho hI) 0 (List.replicate l.aB.length ab.z,List.replicate l.aB.length false) (by omega) ⟨by simp,by simp,λi x p hi _ _=>by
    simp[ME]at hi⟩
 exact h
