/- Elements of lattices, their order, least elements: without the program in sight. -/
import Derived.Test.YtnocmolegijmkaaGreatKVc
import Derived.Test.YtnocmolegijmkaaGreatKVa6
set_option linter.all false
namespace Go.Proofs.YtnocmolegijmkaaGreat
open Go Go.Bw
def km (onl ns:List (List UInt8)):Prop:=rising ns=true/\∀s∈ns,dC s=true/\(onl=[]\/s∈onl)
def ke (es:List az):Prop:=(∀e∈es,e.a8≠[]/\cd e.a8/\dC e.Name=true)/\es.Pairwise (λe f=>fJ e f<0)/\∀e∈es,∀f∈es,dN e.a8 f.a8->e.a8=f.a8
def mB (rs:List aX) (ns:List (List UInt8)):Prop:=∀r∈rs,(∀s∈r.If,s∈ns)->r.dY∈ns
mutual
def bot:ag->af
 |⟨k,lo,hi,_,ps,_⟩=>if k=2 then⟨lo,[],[],[]⟩else if k=3 then⟨hi,[],[],[]⟩else if k=6\/k=7 then⟨0,[],Gi ps,[]⟩else⟨0,[],[],[]⟩
def Gi:List ag->List af
 |[]=>[]
 |p::ps=>bot p::Gi ps
end
theorem RR:∀ps:List ag,Gi ps=ps.map bot
 |[]=>rfl
 |p::ps=>by rw[Gi,RR ps];rfl
theorem vx (l:ag):bot l=if l.Kind=2 then⟨l.Lo,[],[],[]⟩else if l.Kind=3 then⟨l.Hi,[],[],[]⟩else if l.Kind=6\/l.Kind=7 then⟨0,[],l.ai.map bot,[]⟩else⟨0,[],[],[]⟩:=by
 cases l;rw[bot,RR]
inductive VE:ag->af->Prop
 |flag {l:ag} {n:Int}:l.Kind=1->(n=0\/n=1)->VE l ⟨n,[],[],[]⟩
 |num {l:ag} {n:Int}:(l.Kind=2\/l.Kind=3)->l.Lo<=n->n<=l.Hi->VE l ⟨n,[],[],[]⟩
 |set {l:ag} {ns:List (List UInt8)}:(l.Kind=4\/l.Kind=10)->km l.Names ns->mB l.bO ns->VE l ⟨0,ns,[],[]⟩
 |AL {l:ag} {n:Int}:l.Kind=8->(n=0\/n=2)->VE l ⟨n,[],[],[]⟩
 |KA {l:ag} {s:List UInt8}:l.Kind=8->km l.Names [s]->VE l ⟨1,[s],[],[]⟩
 |CM {l:ag} {es:List az}:l.Kind=9->ke es->VE l ⟨0,[],[],es⟩
 |map {l p:ag} {ns:List (List UInt8)} {ps:List af}:l.Kind=5->l.ai=[p]->km l.Names ns->ns.length=ps.length->(∀v∈ps,VE p v)->(∀v∈ps,v≠bot p)->VE l ⟨0,ns,ps,[]⟩
 |prod {l:ag} {ps:List af}:(l.Kind=6\/l.Kind=7)->ps.length=l.ai.length->(∀(i:Nat) v p,ps[i]? =some v->l.ai[i]? =some p->VE p v)->VE l ⟨0,[],ps,[]⟩
section
variable {l:ag} {v:af}
theorem VE.k1 (h:VE l v) (hk:l.Kind=1):∃n,v=⟨n,[],[],[]⟩/\(n=0\/n=1):=by
 cases h<;>first|exact⟨_,rfl,by assumption⟩|omega
theorem VE.k2 (h:VE l v) (hk:l.Kind=2\/l.Kind=3):∃n,v=⟨n,[],[],[]⟩/\l.Lo<=n/\n<=l.Hi:=by
 cases h<;>first|exact⟨_,rfl,by assumption,by assumption⟩|omega
theorem VE.k4 (h:VE l v) (hk:l.Kind=4\/l.Kind=10):∃ns,v=⟨0,ns,[],[]⟩/\km l.Names ns/\mB l.bO ns:=by
 cases h<;>first|exact⟨_,rfl,by assumption,by assumption⟩|omega
theorem VE.k8 (h:VE l v) (hk:l.Kind=8):(∃n,v=⟨n,[],[],[]⟩/\(n=0\/n=2))\/∃s,v=⟨1,[s],[],[]⟩/\km l.Names [s]:=by
 cases h<;>first|exact .inl ⟨_,rfl,by assumption⟩|exact .inr ⟨_,rfl,by assumption⟩|omega
theorem VE.k9 (h:VE l v) (hk:l.Kind=9):∃es,v=⟨0,[],[],es⟩/\ke es:=by
 cases h<;>first|exact⟨_,rfl,by assumption⟩|omega
theorem VE.k5 (h:VE l v) (hk:l.Kind=5):∃p ns ps,l.ai=[p]/\v=⟨0,ns,ps,[]⟩/\km l.Names ns/\ns.length=ps.length/\(∀v∈ps,VE p v)/\∀v∈ps,v≠bot p:=by
 cases h<;>first|exact⟨_,_,_,by assumption,rfl,by assumption,by assumption,by assumption,by assumption⟩|omega
theorem VE.k6 (h:VE l v) (hk:l.Kind=6\/l.Kind=7):∃ps,v=⟨0,[],ps,[]⟩/\ps.length=l.ai.length/\∀(i:Nat) v p,ps[i]? =some v->l.ai[i]? =some p->VE p v:=by
 cases h<;>first|exact⟨_,rfl,by assumption,by assumption⟩|omega
end
def under (e f:az):Prop:=dN e.a8 f.a8/\(e.a8=f.a8->e.Name=f.Name)
theorem under.refl (e:az):under e e:=⟨dN.refl _,λ_=>rfl⟩
theorem under.trans {e f g:az} (he:cd e.a8) (hf:cd f.a8) (hg:cd g.a8) (h:under e f) (k:under f g):under e g:=by
 refine⟨h.1.trans k.1,λh1=>?_⟩;have h2:e.a8=f.a8:=dN.antisymm he hf h.1 (h1▸k.1);rw[h.2 h2];exact k.2 (h2▸h1)
def aP (l:ag) (a b:af):Prop:=
 if l.Kind=1\/l.Kind=2 then a.N<=b.N
 else if l.Kind=3 then b.N<=a.N
 else if l.Kind=4\/l.Kind=10 then∀s∈a.Names,s∈b.Names
 else if l.Kind=5 then∀p,(_:p∈l.ai)->∀(i:Nat) k x,a.Names[i]? =some k->a.ai[i]? =some x->∃(j:Nat) (y:af),b.Names[j]? =some k/\b.ai[j]? =some y/\aP p x y
 else if l.Kind=6 then∀p,(_:p∈l.ai)->∀(i:Nat) x y,l.ai[i]? =some p->a.ai[i]? =some x->b.ai[i]? =some y->aP p x y
 else if l.Kind=7 then∀p,(_:p∈l.ai)->∀q,(_:q∈l.ai)->∀x x' y y',l.ai=[p,q]->a.ai=[x,x']->b.ai=[y,y']->(x=y/\aP q x' y')\/(x≠y/\aP p x y)
 else if l.Kind=8 then a.N=0\/b.N=2\/a=b
 else∀e∈a.Entries,∃f∈b.Entries,under e f
termination_by SizeOf.sizeOf l
decreasing_by all_goals (apply I5;assumption)
section
variable {l:ag} {a b:af}
theorem aP.k1 (hk:l.Kind=1\/l.Kind=2):aP l a b↔a.N<=b.N:=by rw[aP,bg hk]
theorem aP.k3 (hk:l.Kind=3):aP l a b↔b.N<=a.N:=by rw[aP,aM (by omega),bg hk]
theorem aP.k4 (hk:l.Kind=4\/l.Kind=10):aP l a b↔∀s∈a.Names,s∈b.Names:=by rw[aP,aM (by omega),aM (by omega),bg hk]
theorem aP.k5 (hk:l.Kind=5) {p:ag} (hp:l.ai=[p]):aP l a b↔∀(i:Nat) k x,a.Names[i]? =some k->a.ai[i]? =some x->∃(j:Nat) (y:af),b.Names[j]? =some k/\b.ai[j]? =some y/\aP p x y:=by
 rw[aP,aM (by omega),aM (by omega),aM (by omega),bg hk,hp];exact⟨λh=>h p (by simp),λh q hq=>by simp at hq;subst hq;exact h⟩
theorem aP.k6 (hk:l.Kind=6):aP l a b↔∀(i:Nat) p x y,l.ai[i]? =some p->a.ai[i]? =some x->b.ai[i]? =some y->aP p x y:=by
 rw[aP,aM (by omega),aM (by omega),aM (by omega),aM (by omega),bg hk];exact⟨λh i p x y h1=>h p (aV h1) i x y h1,λh p _ i x y=>h i p x y⟩
theorem aP.k7 (hk:l.Kind=7) {p q:ag} (hp:l.ai=[p,q]) {x x' y y':af} (ha:a.ai=[x,x']) (hb:b.ai=[y,y']):aP l a b↔(x=y/\aP q x' y')\/(x≠y/\aP p x y):=by
 rw[aP,aM (by omega),aM (by omega),aM (by omega),aM (by omega),aM (by omega),bg hk,hp,ha,hb];constructor
 ·intro h;exact h p (by simp) q (by simp) x x' y y' rfl rfl rfl
 ·intro h p' _ q' _ u u' w w' e1 e2 e3;simp only[kn,and_true]at e1 e2 e3;obtain⟨rfl,rfl⟩:=e1;obtain⟨rfl,rfl⟩:=e2;obtain⟨rfl,rfl⟩:=e3;exact h
theorem aP.k8 (hk:l.Kind=8):aP l a b↔a.N=0\/b.N=2\/a=b:=by
 rw[aP,aM (by omega),aM (by omega),aM (by omega),aM (by omega),aM (by omega),aM (by omega),bg hk]
theorem aP.k9 (hk:l.Kind=9):aP l a b↔∀e∈a.Entries,∃f∈b.Entries,under e f:=by
 rw[aP,aM (by omega),aM (by omega),aM (by omega),aM (by omega),aM (by omega),aM (by omega),aM (by omega)]
end
theorem cA.cases {P:Prop} {l:ag} (h:cA l) (h1:l.Kind=1->P) (h2:(l.Kind=2\/l.Kind=3)->P) (h4:(l.Kind=4\/l.Kind=10)->P) (h5:∀p,l.Kind=5->l.ai=[p]->P) (h6:l.Kind=6->P) (h7:∀p q,l.Kind=7->l.ai=[p,q]->P) (h8:l.Kind=8->P) (h9:l.Kind=9->P):P:=by
 have hk:=h.kind;by_cases e1:l.Kind=1; ·exact h1 e1
 by_cases e2:l.Kind=2\/l.Kind=3; ·exact h2 e2
 by_cases e4:l.Kind=4\/l.Kind=10; ·exact h4 e4
 by_cases e5:l.Kind=5
 ·obtain⟨p,hp⟩:=vy h e5;exact h5 p e5 hp
 by_cases e6:l.Kind=6; ·exact h6 e6
 by_cases e7:l.Kind=7
 ·obtain⟨p,q,hp⟩:=As h e7;exact h7 p q e7 hp
 by_cases e8:l.Kind=8; ·exact h8 e8
 exact h9 (by omega)
theorem lF {D β:Type} {a:List D} {b:List β} (hl:a.length=b.length) {i:Nat} {x:D} (h:a[i]? =some x):∃y,b[i]? =some y:=by
 have:=(cr.1 h).1;exact bo (by omega)
theorem mI {ns:List (List UInt8)} (h:rising ns=true):∀{i j:Nat} {k:List UInt8},ns[i]? =some k->ns[j]? =some k->i=j:=by
 induction ns with
 |nil=>intro i j k h1;simp at h1
 |cons x ns ih=>
  rw[kN]at h;intro i j k h1 h2;have no:∀{m:Nat},ns[m]? =some x->False:=λhm=>by
   have:=h.1 x (aV hm);rw[kP]at this;cases this
  cases i with
  |zero=>
   cases j with
   |zero=>rfl
   |succ j=>
    simp only[jP,aE,nD]at h1 h2;subst h1;exact(no h2).elim
  |succ i=>
   cases j with
   |zero=>
    simp only[jP,aE,nD]at h1 h2;subst h2;exact(no h1).elim
   |succ j=>
    simp only[nD]at h1 h2;rw[ih h.2 h1 h2]
theorem kV {l p q:ag} {v:af} (hk:l.Kind=7) (hp:l.ai=[p,q]) (h:VE l v):∃x y,v=⟨0,[],[x,y],[]⟩/\VE p x/\VE q y:=by
 obtain⟨ps,rfl,hl,hv⟩:=h.k6 (.inr hk);rw[hp]at hl;obtain⟨x,y,rfl⟩:=ov (by simpa using hl);exact⟨x,y,rfl,hv 0 x p rfl (by rw[hp];rfl),hv 1 y q rfl (by rw[hp];rfl)⟩
theorem U4 {l p q:ag} {x y:af} (hk:l.Kind=7) (hp:l.ai=[p,q]) (hx:VE p x) (hy:VE q y):VE l ⟨0,[],[x,y],[]⟩:=by
 refine .prod (.inr hk) (by rw[hp];rfl) λi v r h1 h2=>?_;rw[hp]at h2
 match i with
 |0=>simp at h1 h2;subst h1;subst h2;exact hx
 |1=>simp at h1 h2;subst h1;subst h2;exact hy
 |i+2=>simp at h1
theorem aP.refl:∀{l:ag},cA l->∀{a:af},VE l a->aP l a a:=by
 intro l;refine ag.ind (P:=λl=>cA l->∀{a:af},VE l a->aP l a a) (λl ih hl a ha=>?_) l;refine hl.cases (λh=>?_) (λh=>?_) (λh=>?_) (λp h hp=>?_) (λh=>?_) (λp q h hp=>?_) (λh=>?_) (λh=>?_)
 ·exact(aP.k1 (.inl h)).2 (xR _)
 ·rcases h with h|h
  ·exact(aP.k1 (.inr h)).2 (xR _)
  ·exact(aP.k3 h).2 (xR _)
 ·exact(aP.k4 h).2 λs hs=>hs
 ·obtain⟨p',ns,ps,hp',rfl,_,hlen,hv,_⟩:=ha.k5 h;rw[hp]at hp';cases hp';exact(aP.k5 h hp).2 λi k x hi hx=>⟨i,x,hi,hx,ih p (by rw[hp];simp) (hl.part (by rw[hp];simp)) (hv x (aV hx))⟩
 ·obtain⟨ps,rfl,hlen,hv⟩:=ha.k6 (.inl h);refine(aP.k6 h).2 λi p x y hp hx hy=>?_;rw[hx]at hy;cases hy;have hm:=aV hp;exact ih p hm (hl.part hm) (hv i x p hx hp)
 ·obtain⟨x,y,rfl,hx,hy⟩:=kV h hp ha;exact(aP.k7 h hp rfl rfl).2 (.inl ⟨rfl,ih q (by rw[hp];simp) (hl.part (by rw[hp];simp)) hy⟩)
 ·exact(aP.k8 h).2 (.inr (.inr rfl))
 ·exact(aP.k9 h).2 λe he=>⟨e,he,under.refl e⟩
theorem aP.antisymm:∀{l:ag},cA l->∀{a b:af},VE l a->VE l b->aP l a b->aP l b a->a=b:=by
 intro l;refine ag.ind (P:=λl=>cA l->∀{a b:af},VE l a->VE l b->aP l a b->aP l b a->a=b) (λl ih hl a b ha hb h g=>?_) l;refine hl.cases (λhk=>?_) (λhk=>?_) (λhk=>?_) (λp hk hp=>?_) (λhk=>?_) (λp q hk hp=>?_) (λhk=>?_) (λhk=>?_)
 ·rw[aP.k1 (.inl hk)]at h g;obtain⟨n,rfl,_⟩:=ha.k1 hk;obtain⟨m,rfl,_⟩:=hb.k1 hk;have:n=m:=OM h g;rw[this]
 ·obtain⟨n,rfl,_⟩:=ha.k2 hk;obtain⟨m,rfl,_⟩:=hb.k2 hk;rcases hk with hk|hk
  ·rw[aP.k1 (.inr hk)]at h g;have:n=m:=OM h g;rw[this]
  ·rw[aP.k3 hk]at h g;have:n=m:=OM g h;rw[this]
 ·rw[aP.k4 hk]at h g;obtain⟨ns,rfl,hn,_⟩:=ha.k4 hk;obtain⟨ms,rfl,hm,_⟩:=hb.k4 hk;have:ns=ms:=D' hn.1 hm.1 λx=>⟨h x,g x⟩;rw[this]
 ·rw[aP.k5 hk hp]at h g;obtain⟨p1,ns,ps,hp1,rfl,hn,hlen,hv,_⟩:=ha.k5 hk;obtain⟨p2,ms,qs,hp2,rfl,hm,hlen2,hw,_⟩:=hb.k5 hk;rw[hp]at hp1 hp2;cases hp1;cases hp2;have hpl:p∈l.ai:=by rw[hp];simp
  have e:ns=ms:=D' hn.1 hm.1 λx=>by
   constructor
   ·intro hx;obtain⟨i,hi⟩:=jR hx;obtain⟨y,hy⟩:=lF hlen hi;obtain⟨j,_,h1,_⟩:=h i x y hi hy;exact aV h1
   ·intro hx;obtain⟨i,hi⟩:=jR hx;obtain⟨y,hy⟩:=lF hlen2 hi;obtain⟨j,_,h1,_⟩:=g i x y hi hy;exact aV h1
  subst e;have:ps=qs:=by
   refine nC λi=>?_;by_cases hi:i<ps.length
   ·obtain⟨x,hx⟩:=bo hi;obtain⟨y,hy⟩:=bo (l:=qs) (i:=i) (by omega);obtain⟨k,hk'⟩:=bo (l:=ns) (i:=i) (by omega);obtain⟨j,y',h1,h2,h3⟩:=h i k x hk' hx;obtain⟨j',x',h4,h5,h6⟩:=g i k y hk' hy;have:=mI hn.1 h1 hk';subst this;have:=mI hn.1 h4 hk';subst this;simp only at h2 h5;rw[hy]at h2;cases h2;rw[hx]at h5;cases h5;rw[hx,hy,ih p hpl (hl.part hpl) (hv x (aV hx)) (hw y (aV hy)) h3 h6]
   ·rw[kK (by omega),kK (by omega)]
  rw[this]
 ·rw[aP.k6 hk]at h g;obtain⟨ps,rfl,hlen,hv⟩:=ha.k6 (.inl hk);obtain⟨qs,rfl,hlen2,hw⟩:=hb.k6 (.inl hk);have:ps=qs:=by
   refine nC λi=>?_;by_cases hi:i<ps.length
   ·obtain⟨x,hx⟩:=bo hi;obtain⟨y,hy⟩:=bo (l:=qs) (i:=i) (by omega);obtain⟨p,hp⟩:=bo (l:=l.ai) (i:=i) (by omega);have hm:=aV hp;rw[hx,hy,ih p hm (hl.part hm) (hv i x p hx hp) (hw i y p hy hp) (h i p x y hp hx hy) (g i p y x hp hy hx)]
   ·rw[kK (by omega),kK (by omega)]
  rw[this]
 ·obtain⟨x,x',rfl,hx,hx'⟩:=kV hk hp ha;obtain⟨y,y',rfl,hy,hy'⟩:=kV hk hp hb;rw[aP.k7 hk hp rfl rfl]at h g;have mp:p∈l.ai:=by rw[hp];simp
  have mq:q∈l.ai:=by rw[hp];simp
  rcases h with⟨rfl,h⟩|⟨hne,h⟩
  ·rcases g with⟨_,g⟩|⟨hne,_⟩
   ·rw[ih q mq (hl.part mq) hx' hy' h g]
   ·exact absurd rfl hne
  ·rcases g with⟨e,_⟩|⟨_,g⟩
   ·exact absurd e.symm hne
   ·exact absurd (ih p mp (hl.part mp) hx hy h g) hne
 ·rw[aP.k8 hk]at h g;rcases ha.k8 hk with⟨n,rfl,hn⟩|⟨s,rfl,_⟩<;>rcases hb.k8 hk with⟨m,rfl,hm⟩|⟨t,rfl,_⟩<;>simp at h g⊢<;>omega
 ·rw[aP.k9 hk]at h g;obtain⟨es,rfl,h1,h2,h3⟩:=ha.k9 hk;obtain⟨fs,rfl,k1,k2,k3⟩:=hb.k9 hk;have mem:∀{es fs:List az},(∀e∈es,e.a8≠[]/\cd e.a8/\dC e.Name=true)->(∀e∈fs,e.a8≠[]/\cd e.a8/\dC e.Name=true)->(∀e∈es,∀f∈es,dN e.a8 f.a8->e.a8=f.a8)->(∀e∈es,∃f∈fs,under e f)->(∀e∈fs,∃f∈es,under e f)->∀e∈es,e∈fs:=by
   intro es fs h1 k1 h3 h g e he;obtain⟨f,hf,u⟩:=h e he;obtain⟨e',he',w⟩:=g f hf;have e1:=h3 e he e' he' (u.1.trans w.1);have c:=u.1;have:e.a8=f.a8:=dN.antisymm (h1 e he).2.1 (k1 f hf).2.1 u.1 (e1▸w.1);have e2:e=f:=by
    have:=u.2 this;cases e;cases f;simp_all
   rw[e2];exact hf
  have m1:=mem h1 k1 h3 h g;have m2:=mem k1 h1 k3 g h;have br:∀{es fs:List az},es.Pairwise (λe f=>fJ e f<0)->fs.Pairwise (λe f=>fJ e f<0)->(∀e,e∈es↔e∈fs)->es=fs:=by
   intro es
   induction es with
   |nil=>
    intro fs _ _ h;cases fs with
    |nil=>rfl
    |cons f fs=>exact absurd ((h f).2 (by simp)) (by simp)
   |cons e es ih=>
    intro fs h1 h2 h;cases fs with
    |nil=>exact absurd ((h e).1 (by simp)) (by simp)
    |cons f fs=>
     rw[xO]at h1 h2;have irr:∀x,¬fJ x x<0:=λx=>by rw[pP.refl];simp
     have ef:e=f:=by
      rcases cq.1 ((h e).1 (by simp))with he|he
      ·exact he
      ·rcases cq.1 ((h f).2 (by simp))with hf|hf
       ·exact hf.symm
       ·exact absurd (pP.trans _ _ _ (h1.1 f hf) (h2.1 e he)) (irr e)
     subst ef;congr 1;refine ih h1.2 h2.2 λx=>?_;constructor
     ·intro hx;rcases cq.1 ((h x).1 (by simp[hx]))with rfl|hx'
      ·exact absurd (h1.1 x hx) (irr x)
      ·exact hx'
     ·intro hx;rcases cq.1 ((h x).2 (by simp[hx]))with rfl|hx'
      ·exact absurd (h2.1 x hx) (irr x)
      ·exact hx'
  rw[br h2 k2 λe=>⟨m1 e,m2 e⟩]
theorem aP.trans:∀{l:ag},cA l->∀{a b c:af},VE l a->VE l b->VE l c->aP l a b->aP l b c->aP l a c:=by
 intro l;refine ag.ind (P:=λl=>cA l->∀{a b c:af},VE l a->VE l b->VE l c->aP l a b->aP l b c->aP l a c) (λl ih hl a b c ha hb hc h g=>?_) l;refine hl.cases (λhk=>?_) (λhk=>?_) (λhk=>?_) (λp hk hp=>?_) (λhk=>?_) (λp q hk hp=>?_) (λhk=>?_) (λhk=>?_)
 ·rw[aP.k1 (.inl hk)]at*;exact ON h g
 ·rcases hk with hk|hk
  ·rw[aP.k1 (.inr hk)]at*;exact ON h g
  ·rw[aP.k3 hk]at*;exact ON g h
 ·rw[aP.k4 hk]at*;exactλs hs=>g s (h s hs)
 ·obtain⟨p1,ns,ps,hp1,rfl,hn,hlen,hv,_⟩:=ha.k5 hk;obtain⟨p2,ms,qs,hp2,rfl,hm,hlen2,hw,_⟩:=hb.k5 hk;obtain⟨p3,os,rs,hp3,rfl,ho,hlen3,hz,_⟩:=hc.k5 hk;rw[hp]at hp1 hp2 hp3;cases hp1;cases hp2;cases hp3;have hpl:p∈l.ai:=by rw[hp];simp
  rw[aP.k5 hk hp]at*
  intro i k x hi hx;obtain⟨j,y,h1,h2,h3⟩:=h i k x hi hx;obtain⟨m,z,h4,h5,h6⟩:=g j k y h1 h2;exact⟨m,z,h4,h5,ih p hpl (hl.part hpl) (hv x (aV hx)) (hw y (aV h2)) (hz z (aV h5)) h3 h6⟩
 ·obtain⟨ps,rfl,hlen,hv⟩:=ha.k6 (.inl hk);obtain⟨qs,rfl,hlen2,hw⟩:=hb.k6 (.inl hk);obtain⟨rs,rfl,hlen3,hz⟩:=hc.k6 (.inl hk);rw[aP.k6 hk]at*
  intro i p x z hp hx hz';obtain⟨y,hy⟩:=bo (l:=qs) (i:=i) (by have:=(cr.1 hp).1;omega);have hm:=aV hp;exact ih p hm (hl.part hm) (hv i x p hx hp) (hw i y p hy hp) (hz i z p hz' hp) (h i p x y hp hx hy) (g i p y z hp hy hz')
 ·obtain⟨x,x',rfl,hx,hx'⟩:=kV hk hp ha;obtain⟨y,y',rfl,hy,hy'⟩:=kV hk hp hb;obtain⟨z,z',rfl,hz,hz'⟩:=kV hk hp hc;have mp:p∈l.ai:=by rw[hp];simp
  have mq:q∈l.ai:=by rw[hp];simp
  rw[aP.k7 hk hp rfl rfl]at*
  rcases h with⟨rfl,h⟩|⟨hne,h⟩
  ·rcases g with⟨rfl,g⟩|⟨hne,g⟩
   ·exact .inl ⟨rfl,ih q mq (hl.part mq) hx' hy' hz' h g⟩
   ·exact .inr ⟨hne,g⟩
  ·rcases g with⟨rfl,g⟩|⟨hne',g⟩
   ·exact .inr ⟨hne,h⟩
   ·refine .inr ⟨λe=>?_,ih p mp (hl.part mp) hx hy hz h g⟩;subst e;exact hne (aP.antisymm (hl.part mp) hx hy h g)
 ·rw[aP.k8 hk]at*
  rcases h with h|h|rfl
  ·exact .inl h
  ·rcases g with g|g|rfl
   ·omega
   ·exact .inr (.inl g)
   ·exact .inr (.inl h)
  ·exact g
 ·obtain⟨es,rfl,h1,_⟩:=ha.k9 hk;obtain⟨fs,rfl,k1,_⟩:=hb.k9 hk;obtain⟨gs,rfl,m1,_⟩:=hc.k9 hk;rw[aP.k9 hk]at*
  intro e he;obtain⟨f,hf,u⟩:=h e he;obtain⟨z,hz,w⟩:=g f hf;exact⟨z,hz,under.trans (h1 e he).2.1 (k1 f hf).2.1 (m1 z hz).2.1 u w⟩
theorem n9:∀{l:ag},cA l->VE l (bot l):=by
 intro l;refine ag.ind (P:=λl=>cA l->VE l (bot l)) (λl ih hl=>?_) l;have e:=vx l;have nil:∀onl,km onl []:=λonl=>⟨rfl,by simp⟩;refine hl.cases (λhk=>?_) (λhk=>?_) (λhk=>?_) (λp hk hp=>?_) (λhk=>?_) (λp q hk hp=>?_) (λhk=>?_) (λhk=>?_)
 ·rw[aM (by omega),aM (by omega),aM (by omega)]at e;rw[e];exact .flag hk (.inl rfl)
 ·have hr:l.Lo<=l.Hi:=hl.range.2.1;rcases hk with hk|hk
  ·rw[bg hk]at e;rw[e];exact .num (.inl hk) (xR _) hr
  ·rw[aM (by omega),bg hk]at e;rw[e];exact .num (.inr hk) hr (xR _)
 ·rw[aM (by omega),aM (by omega),aM (by omega)]at e;rw[e];refine .set hk (nil _) λr hr hi=>?_
  have:wB l.Names r:=hl.names.2.2.2 r hr;cases hf:r.If with
  |nil=>exact absurd hf this.1
  |cons s t=>exact absurd (hi s (by rw[hf];simp)) (by simp)
 ·rw[aM (by omega),aM (by omega),aM (by omega)]at e;rw[e];exact .map hk hp (nil _) rfl (by simp) (by simp)
 ·rw[aM (by omega),aM (by omega),bg (.inl hk)]at e;rw[e];refine .prod (.inl hk) (by simp) λi v p hv hp=>?_;rw[iL,hp]at hv;cases hv;have hm:=aV hp;exact ih p hm (hl.part hm)
 ·rw[aM (by omega),aM (by omega),bg (.inr hk)]at e;rw[e];refine .prod (.inr hk) (by simp) λi v p hv hp=>?_;rw[iL,hp]at hv;cases hv;have hm:=aV hp;exact ih p hm (hl.part hm)
 ·rw[aM (by omega),aM (by omega),aM (by omega)]at e;rw[e];exact .AL hk (.inl rfl)
 ·rw[aM (by omega),aM (by omega),aM (by omega)]at e;rw[e];exact .CM hk ⟨by simp,by simp,by simp⟩
theorem rD:∀{l:ag},cA l->∀{a:af},VE l a->aP l (bot l) a:=by
 intro l;refine ag.ind (P:=λl=>cA l->∀{a:af},VE l a->aP l (bot l) a) (λl ih hl a ha=>?_) l;have e:=vx l;refine hl.cases (λhk=>?_) (λhk=>?_) (λhk=>?_) (λp hk hp=>?_) (λhk=>?_) (λp q hk hp=>?_) (λhk=>?_) (λhk=>?_)
 ·rw[aM (by omega),aM (by omega),aM (by omega)]at e;rw[e];obtain⟨n,rfl,hn⟩:=ha.k1 hk;rw[aP.k1 (.inl hk)];show(0:Int)<=n;omega
 ·obtain⟨n,rfl,hn⟩:=ha.k2 hk;rcases hk with hk|hk
  ·rw[bg hk]at e;rw[e,aP.k1 (.inr hk)];exact hn.1
  ·rw[aM (by omega),bg hk]at e;rw[e,aP.k3 hk];exact hn.2
 ·rw[aM (by omega),aM (by omega),aM (by omega)]at e;rw[e,aP.k4 hk];simp
 ·rw[aM (by omega),aM (by omega),aM (by omega)]at e;rw[e,aP.k5 hk hp];simp
 ·rw[aM (by omega),aM (by omega),bg (.inl hk)]at e;rw[e,aP.k6 hk];obtain⟨ps,rfl,hlen,hv⟩:=ha.k6 (.inl hk);intro i p x y hp hx hy;rw[iL,hp]at hx;cases hx;have hm:=aV hp;exact ih p hm (hl.part hm) (hv i y p hy hp)
 ·rw[aM (by omega),aM (by omega),bg (.inr hk)]at e;obtain⟨x,y,rfl,hx,hy⟩:=kV hk hp ha;have mp:p∈l.ai:=by rw[hp];simp
  have mq:q∈l.ai:=by rw[hp];simp
  rw[e,hp,aP.k7 hk hp (x:=bot p) (x':=bot q) rfl rfl];by_cases e:bot p=x
  ·exact .inl ⟨e,ih q mq (hl.part mq) hy⟩
  ·exact .inr ⟨e,ih p mp (hl.part mp) hx⟩
 ·rw[aM (by omega),aM (by omega),aM (by omega)]at e;rw[e,aP.k8 hk];exact .inl rfl
 ·rw[aM (by omega),aM (by omega),aM (by omega)]at e;rw[e,aP.k9 hk];simp
theorem JJ {l:ag} (hl:cA l) {a:af} (ha:VE l a) (h:aP l a (bot l)):a=bot l:=aP.antisymm hl ha (n9 hl) h (rD hl ha)
theorem QJ {l:ag} (hc:mC l):cA l->∀{a b:af},VE l a->VE l b->aP l a b\/aP l b a:=by
 induction hc with
 |one hk=>
  intro hl a b ha hb;rcases hk with hk|hk|hk
  ·rw[aP.k1 (.inl hk),aP.k1 (.inl hk)];omega
  ·rw[aP.k1 (.inr hk),aP.k1 (.inr hk)];omega
  ·rw[aP.k3 hk,aP.k3 hk];omega
 |lex hk hp _ _ ihp ihq=>
  intro hl a b ha hb;obtain⟨x,x',rfl,hx,hx'⟩:=kV hk hp ha;obtain⟨y,y',rfl,hy,hy'⟩:=kV hk hp hb;rw[aP.k7 hk hp rfl rfl,aP.k7 hk hp rfl rfl];by_cases e:x=y
  ·subst e;rcases ihq (hl.part (by rw[hp];simp)) hx' hy' with h|h
   ·exact .inl (.inl ⟨rfl,h⟩)
   ·exact .inr (.inl ⟨rfl,h⟩)
  ·rcases ihp (hl.part (by rw[hp];simp)) hx hy with h|h
   ·exact .inl (.inr ⟨e,h⟩)
   ·exact .inr (.inr ⟨λh=>e h.symm,h⟩)
structure gO (l:ag) (a b j:af):Prop where
 ve:VE l j
 left:aP l a j
 right:aP l b j
 least:∀c,VE l c->aP l a c->aP l b c->aP l j c
theorem gO.unique {l:ag} {a b j k:af} (hl:cA l) (h:gO l a b j) (g:gO l a b k):j=k:=aP.antisymm hl h.ve g.ve (h.least k g.ve g.left g.right) (g.least j h.ve h.left h.right)
theorem gO.comm {l:ag} {a b j:af} (h:gO l a b j):gO l b a j:=⟨h.ve,h.right,h.left,λc hc h1 h2=>h.least c hc h2 h1⟩
theorem gO.leq {l:ag} {a b:af} (hl:cA l) (hb:VE l b) (h:aP l a b):gO l a b b:=⟨hb,h,aP.refl hl hb,λ_ _ _ g=>g⟩
theorem gO.geq {l:ag} {a b:af} (hl:cA l) (ha:VE l a) (h:aP l b a):gO l a b a:=(gO.leq hl ha h).comm
theorem gO.bot {l:ag} {b:af} (hl:cA l) (hb:VE l b):gO l (bot l) b b:= .leq hl hb (rD hl hb)
theorem gO.agj {l:ag} {a b j:af} (hl:cA l) (ha:VE l a) (h:gO l a b j) (hn:a≠Proofs.YtnocmolegijmkaaGreat.bot l):j≠Proofs.YtnocmolegijmkaaGreat.bot l:=λe=>hn (JJ hl ha (e▸h.left))
def eQ (l:ag) (a b j:af):Prop:=gO l a b j/\∀m n,64<=m->BV m a->BV n b->BV (m+n) j
section
variable {l:ag} {a b:af} (hl:cA l) (ha:VE l a) (hb:VE l b)
include hl
theorem eQ.leq (hb:VE l b) (h:aP l a b):eQ l a b b:=⟨.leq hl hb h,λm n _ _ g=>g.mono (by omega)⟩
theorem eQ.geq (ha:VE l a) (h:aP l b a):eQ l a b a:=⟨.geq hl ha h,λm n _ g _=>g.mono (by omega)⟩
theorem adF (hk:l.Kind=8) (ha:VE l a) (hb:VE l b) (h:¬aP l a b) (g:¬aP l b a):eQ l a b ⟨2,[],[],[]⟩:=by
 refine⟨⟨.AL hk (.inr rfl),(aP.k8 hk).2 (.inr (.inl rfl)),(aP.k8 hk).2 (.inr (.inl rfl)),λc hc h1 h2=>?_⟩,λm n _ _ _=> .mk (by simp) (by simp) (by simp) (by simp) (by simp)⟩;rw[aP.k8 hk]at*
 rcases h2 with h2|h2|rfl
 ·exact absurd (.inl h2) g
 ·exact .inr (.inl h2)
 ·exact absurd h1 h
theorem afd {p q:ag} {x x' y' j:af} (hk:l.Kind=7) (hp:l.ai=[p,q]) (hx:VE p x) (h:eQ q x' y' j):eQ l ⟨0,[],[x,x'],[]⟩ ⟨0,[],[x,y'],[]⟩ ⟨0,[],[x,j],[]⟩:=by
 obtain⟨h,hB⟩:=h;refine⟨⟨U4 hk hp hx h.ve,(aP.k7 hk hp rfl rfl).2 (.inl ⟨rfl,h.left⟩),(aP.k7 hk hp rfl rfl).2 (.inl ⟨rfl,h.right⟩),λc hc h1 h2=>?_⟩,λm n h0 g1 g2=>?_⟩
 ·obtain⟨z,z',rfl,hz,hz'⟩:=kV hk hp hc;rw[aP.k7 hk hp rfl rfl]at*
  rcases h1 with⟨e,h1⟩|h1
  ·rcases h2 with⟨_,h2⟩|⟨hne,_⟩
   ·exact .inl ⟨e,h.least z' hz' h1 h2⟩
   ·exact absurd e hne
  ·exact .inr h1
 ·have l1:=g1.parts;have l2:=g2.parts;refine .mk (by simp) (by simp at*;omega) (by simp) (by simp) λp hp=>?_;simp at hp;rcases hp with rfl|rfl
  ·exact(g1.part (by simp)).mono (by omega)
  ·exact hB m n h0 (g1.part (by simp)) (g2.part (by simp))
theorem adE {ps qs js:List af} (hk:l.Kind=6) (ha:VE l ⟨0,[],ps,[]⟩) (hb:VE l ⟨0,[],qs,[]⟩) (hj:js.length=l.ai.length) (h:∀(i:Nat) p x y z,l.ai[i]? =some p->ps[i]? =some x->qs[i]? =some y->js[i]? =some z->eQ p x y z):eQ l ⟨0,[],ps,[]⟩ ⟨0,[],qs,[]⟩ ⟨0,[],js,[]⟩:=by
 obtain⟨_,e,h1,h2⟩:=ha.k6 (.inl hk);cases e;obtain⟨_,e,h3,h4⟩:=hb.k6 (.inl hk);cases e;have all:∀(i:Nat),i<l.ai.length->∃p x y z,l.ai[i]? =some p/\ps[i]? =some x/\qs[i]? =some y/\js[i]? =some z/\eQ p x y z:=λi hi=>by
  obtain⟨p,hp⟩:=bo hi;obtain⟨x,hx⟩:=bo (l:=ps) (i:=i) (by omega);obtain⟨y,hy⟩:=bo (l:=qs) (i:=i) (by omega);obtain⟨z,hz⟩:=bo (l:=js) (i:=i) (by omega);exact⟨p,x,y,z,hp,hx,hy,hz,h i p x y z hp hx hy hz⟩
 refine⟨⟨.prod (.inl hk) hj λi v p hv hp=>?_,(aP.k6 hk).2 λi p x z hp hx hz=>?_,(aP.k6 hk).2 λi p y z hp hy hz=>?_,λc hc g1 g2=>(aP.k6 hk).2 λi p z w hp hz hw=>?_⟩,λm n h0 g1 g2=>?_⟩
 ·obtain⟨p',x,y,z,e1,e2,e3,e4,g⟩:=all i (cr.1 hp).1;rw[hp]at e1;cases e1;rw[hv]at e4;cases e4;exact g.1.ve
 ·obtain⟨p',x',y,z',e1,e2,e3,e4,g⟩:=all i (cr.1 hp).1;rw[hp]at e1;cases e1;simp only at hx hz;rw[hx]at e2;cases e2;rw[hz]at e4;cases e4;exact g.1.left
 ·obtain⟨p',x',y',z',e1,e2,e3,e4,g⟩:=all i (cr.1 hp).1;rw[hp]at e1;cases e1;simp only at hy hz;rw[hy]at e3;cases e3;rw[hz]at e4;cases e4;exact g.1.right
 ·obtain⟨p',x',y',z',e1,e2,e3,e4,g⟩:=all i (cr.1 hp).1;rw[hp]at e1;cases e1;simp only at hz;rw[hz]at e4;cases e4;obtain⟨cs,rfl,h5,h6⟩:=hc.k6 (.inl hk);simp only at hw;exact g.1.least w (h6 i w p hw hp) ((aP.k6 hk).1 g1 i p x' w hp e2 hw) ((aP.k6 hk).1 g2 i p y' w hp e3 hw)
 ·have l1:=g1.parts;refine .mk (by simp) (by simp only at*;omega) (by simp) (by simp) λp hp=>?_;obtain⟨i,hi⟩:=jR hp;obtain⟨p',x',y',z',e1,e2,e3,e4,g⟩:=all i (by have:=(cr.1 hi).1;simp only at this;omega);simp only at hi;rw[hi]at e4;cases e4;exact g.2 m n h0 (g1.part (aV e2)) (g2.part (aV e3))
theorem afb {ns ms us:List (List UInt8)} (hk:l.Kind=4) (ha:VE l ⟨0,ns,[],[]⟩) (hb:VE l ⟨0,ms,[],[]⟩) (hr:rising us=true) (hu:∀x,x∈us↔x∈ns\/x∈ms) (hn:us.length<=ns.length+ms.length):eQ l ⟨0,ns,[],[]⟩ ⟨0,ms,[],[]⟩ ⟨0,us,[],[]⟩:=by
 obtain⟨_,e,h1,_⟩:=ha.k4 (.inl hk);cases e;obtain⟨_,e,h3,_⟩:=hb.k4 (.inl hk);cases e;have hR:l.bO=[]:=by have:=hl.shape;unfold iQ at this;simp[hk]at this;exact this.2.1
 refine⟨⟨.set (.inl hk) ⟨hr,λs hs=>?_⟩ (by rw[hR];simp[mB]),(aP.k4 (.inl hk)).2 λs hs=>(hu s).2 (.inl hs),(aP.k4 (.inl hk)).2 λs hs=>(hu s).2 (.inr hs),λc hc g1 g2=>(aP.k4 (.inl hk)).2 λs hs=>?_⟩,λm n h0 g1 g2=> .mk (by have:=g1.names;have:=g2.names;simp only at*;omega) (by simp) (by simp) (by simp) (by simp)⟩
 ·rcases(hu s).1 hs with h|h
  ·exact h1.2 s h
  ·exact h3.2 s h
 ·rw[aP.k4 (.inl hk)]at g1 g2;rcases(hu s).1 hs with h|h
  ·exact g1 s h
  ·exact g2 s h
theorem abU {ns ms cs:List (List UInt8)} (hk:l.Kind=10) (hr:km l.Names cs) (hcl:mB l.bO cs) (h1:∀x,x∈ns\/x∈ms->x∈cs) (h2:∀ds,mB l.bO ds->(∀x,x∈ns\/x∈ms->x∈ds)->∀x∈cs,x∈ds):gO l ⟨0,ns,[],[]⟩ ⟨0,ms,[],[]⟩ ⟨0,cs,[],[]⟩:=by
 refine⟨.set (.inr hk) hr hcl,(aP.k4 (.inr hk)).2 λs hs=>h1 s (.inl hs),(aP.k4 (.inr hk)).2 λs hs=>h1 s (.inr hs),λc hc g1 g2=>?_⟩;obtain⟨ds,rfl,_,hd⟩:=hc.k4 (.inr hk);rw[aP.k4 (.inr hk)]at*
 exact h2 ds hd λx hx=>hx.elim (g1 x) (g2 x)
theorem afc {p:ag} {ns ms us:List (List UInt8)} {ps qs js:List af} (hk:l.Kind=5) (hp:l.ai=[p]) (ha:VE l ⟨0,ns,ps,[]⟩) (hb:VE l ⟨0,ms,qs,[]⟩) (hr:rising us=true) (hu:∀x,x∈us↔x∈ns\/x∈ms) (hn:us.length<=ns.length+ms.length) (hj:us.length=js.length)
  (h:∀(i:Nat) k z,us[i]? =some k->js[i]? =some z->(k∉ns/\∃j:Nat,ms[j]? =some k/\qs[j]? =some z)\/(k∉ms/\∃j:Nat,ns[j]? =some k/\ps[j]? =some z)\/∃(i':Nat) (j:Nat) (x:af) (y:af),ns[i']? =some k/\ps[i']? =some x/\ms[j]? =some k/\qs[j]? =some y/\eQ p x y z):eQ l ⟨0,ns,ps,[]⟩ ⟨0,ms,qs,[]⟩ ⟨0,us,js,[]⟩:=by
 obtain⟨p1,_,_,hp1,e,hN,hlen,hv,hnb⟩:=ha.k5 hk;cases e;obtain⟨p2,_,_,hp2,e,hM,hlen2,hw,hnb2⟩:=hb.k5 hk;cases e;rw[hp]at hp1 hp2;cases hp1;cases hp2;have hpl:cA p:=hl.part (by rw[hp];simp);have idx:∀{k:List UInt8},k∈us->∃(i:Nat) (z:af),us[i]? =some k/\js[i]? =some z:=λhk=>by
  obtain⟨i,hi⟩:=jR hk;obtain⟨z,hz⟩:=lF hj hi;exact⟨i,z,hi,hz⟩
 have part:∀(i:Nat) k z,us[i]? =some k->js[i]? =some z->VE p z/\z≠bot p:=λi k z hi hz=>by
  rcases h i k z hi hz with⟨_,j,_,h2⟩|⟨_,j,_,h2⟩|⟨i',j,x,y,_,h2,_,h4,h5⟩
  ·exact⟨hw z (aV h2),hnb2 z (aV h2)⟩
  ·exact⟨hv z (aV h2),hnb z (aV h2)⟩
  ·exact⟨h5.1.ve,h5.1.agj hpl (hv x (aV h2)) (hnb x (aV h2))⟩
 have pmem:∀z∈js,VE p z/\z≠bot p:=λz hz=>by
  obtain⟨i,hi⟩:=jR hz;obtain⟨k,hk⟩:=lF hj.symm hi;exact part i k z hk hi
 refine⟨⟨.map hk hp ⟨hr,λs hs=>?_⟩ hj (λv hv=>(pmem v hv).1) (λv hv=>(pmem v hv).2),(aP.k5 hk hp).2 λi k x hi hx=>?_,(aP.k5 hk hp).2 λi k y hi hy=>?_,λc hc g1 g2=>(aP.k5 hk hp).2 λi k z hi hz=>?_⟩,λm n h0 g1 g2=>?_⟩
 ·rcases(hu s).1 hs with h|h
  ·exact hN.2 s h
  ·exact hM.2 s h
 ·simp only at hi hx;obtain⟨m,z,h1,h2⟩:=idx ((hu k).2 (.inl (aV hi)));refine⟨m,z,h1,h2,?_⟩;rcases h m k z h1 h2 with⟨hno,_⟩|⟨_,j,h3,h4⟩|⟨i',j,x',y,h3,h4,_,_,h7⟩
  ·exact absurd (aV hi) hno
  ·have:=mI hN.1 h3 hi;subst this;rw[hx]at h4;cases h4;exact aP.refl hpl (hv x (aV hx))
  ·have:=mI hN.1 h3 hi;subst this;rw[hx]at h4;cases h4;exact h7.1.left
 ·simp only at hi hy;obtain⟨m,z,h1,h2⟩:=idx ((hu k).2 (.inr (aV hi)));refine⟨m,z,h1,h2,?_⟩;rcases h m k z h1 h2 with⟨_,j,h3,h4⟩|⟨hno,_⟩|⟨i',j,x',y',_,_,h3,h4,h7⟩
  ·have:=mI hM.1 h3 hi;subst this;rw[hy]at h4;cases h4;exact aP.refl hpl (hw y (aV hy))
  ·exact absurd (aV hi) hno
  ·have:=mI hM.1 h3 hi;subst this;rw[hy]at h4;cases h4;exact h7.1.right
 ·simp only at hi hz;rw[aP.k5 hk hp]at g1 g2;obtain⟨p3,os,rs,hp3,rfl,hO,hlen3,hc3,_⟩:=hc.k5 hk;rw[hp]at hp3;cases hp3;rcases h i k z hi hz with⟨_,j,h1,h2⟩|⟨_,j,h1,h2⟩|⟨i',j,x,y,h1,h2,h3,h4,h5⟩
  ·exact g2 j k z h1 h2
  ·exact g1 j k z h1 h2
  ·obtain⟨m,w,k1,k2,k3⟩:=g1 i' k x h1 h2;obtain⟨m',w',k4,k5,k6⟩:=g2 j k y h3 h4;have:=mI hO.1 k1 k4;subst this;rw[k2]at k5;cases k5;exact⟨m,w,k1,k2,h5.1.least w (hc3 w (aV k2)) k3 k6⟩
 ·have l1:=g1.names;have l2:=g2.names;refine .mk (by simp only at*;omega) (by simp only at*;omega) (by simp) (by simp) λz hz=>?_;simp only at hz;obtain⟨i,hi⟩:=jR hz;obtain⟨k,hk⟩:=lF hj.symm hi;rcases h i k z hk hi with⟨_,j,h1,h2⟩|⟨_,j,h1,h2⟩|⟨i',j,x,y,h1,h2,h3,h4,h5⟩
  ·exact(g2.part (aV h2)).mono (by omega)
  ·exact(g1.part (aV h2)).mono (by omega)
  ·exact h5.2 m n h0 (g1.part (aV h2)) (g2.part (aV h4))
def mU (e f:az):Prop:=dN e.a8 f.a8/\e.a8≠f.a8
theorem afe {es fs ms:List az} (hk:l.Kind=9) (ha:VE l ⟨0,[],[],es⟩) (hb:VE l ⟨0,[],[],fs⟩) (hs:ms.Pairwise λe f=>fJ e f<0) (hm:∀e,e∈ms↔(e∈es/\¬∃f∈fs,under e f)\/(e∈fs/\¬∃f∈es,mU e f)) (hn:ms.length<=es.length+fs.length):eQ l ⟨0,[],[],es⟩ ⟨0,[],[],fs⟩ ⟨0,[],[],ms⟩:=by
 obtain⟨_,e,h1,_,h3⟩:=ha.k9 hk;cases e;obtain⟨_,e,k1,_,k3⟩:=hb.k9 hk;cases e;have from':∀e∈ms,e∈es\/e∈fs:=λe he=>by
  rcases(hm e).1 he with⟨h,_⟩|⟨h,_⟩
  ·exact .inl h
  ·exact .inr h
 refine⟨⟨.CM hk ⟨λe he=>(from' e he).elim (h1 e) (k1 e),hs,λe he f hf hle=>?_⟩,(aP.k9 hk).2 λe he=>?_,(aP.k9 hk).2 λe he=>?_,λc hc g1 g2=>(aP.k9 hk).2 λe he=>?_⟩,λm n h0 g1 g2=>?_⟩
 ·rcases(hm e).1 he with⟨a1,a2⟩|⟨a1,a2⟩<;>rcases(hm f).1 hf with⟨b1,b2⟩|⟨b1,b2⟩
  ·exact h3 e a1 f b1 hle
  ·by_cases e':e.a8=f.a8
   ·exact e'
   ·exact absurd ⟨f,b1,hle,λh=>absurd h e'⟩ a2
  ·by_cases e':e.a8=f.a8
   ·exact e'
   ·exact absurd ⟨f,b1,hle,e'⟩ a2
  ·exact k3 e a1 f b1 hle
 ·simp only at he;by_cases hc:∃f∈fs,under e f
  ·obtain⟨f,hf,u⟩:=hc;by_cases hd:∃g∈es,mU f g
   ·obtain⟨g,hg,w⟩:=hd;have e1:=h3 e he g hg (u.1.trans w.1);exact absurd (dN.antisymm (k1 f hf).2.1 (h1 g hg).2.1 w.1 (e1▸u.1)) w.2
   ·exact⟨f,(hm f).2 (.inr ⟨hf,hd⟩),u⟩
  ·exact⟨e,(hm e).2 (.inl ⟨he,hc⟩),under.refl e⟩
 ·simp only at he;by_cases hd:∃g∈es,mU e g
  ·obtain⟨g,hg,w⟩:=hd;by_cases hc:∃f∈fs,under g f
   ·obtain⟨f,hf,u⟩:=hc;have e1:=k3 e he f hf (w.1.trans u.1);exact absurd (dN.antisymm (k1 e he).2.1 (h1 g hg).2.1 w.1 (e1▸u.1)) w.2
   ·exact⟨g,(hm g).2 (.inl ⟨hg,hc⟩),w.1,λh=>absurd h w.2⟩
  ·exact⟨e,(hm e).2 (.inr ⟨he,hd⟩),under.refl e⟩
 ·rw[aP.k9 hk]at g1 g2;exact(from' e he).elim (g1 e) (g2 e)
 ·refine .mk (by simp) (by simp) (by have:=g1.entries;have:=g2.entries;simp only at*;omega) (λe he=>?_) (by simp);rcases from' e he with h|h
  ·have:=g1.FE e h;omega
  ·have:=g2.FE e h;omega
