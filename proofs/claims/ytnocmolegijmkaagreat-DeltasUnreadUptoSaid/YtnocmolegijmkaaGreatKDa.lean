/- Derivatives of expressions: without the program in sight. -/
import Derived.Test.YtnocmolegijmkaaGreatKVa9
set_option linter.all false
section
namespace Go.Proofs.YtnocmolegijmkaaGreat
open Go Go.Bw
theorem PC {n m:Nat} (h:n<=m):decide (n<=m)=true:=by simpa using h
theorem GG {D:Type} {l:List D} {i:Nat} {x:D} (h:l[i]? =some x):l.take i++[x]=l.take (i+1):=by rw[fB,h];rfl
def gA (e:ab):ab:=⟨6,e.aO,0,[],e.At,[]⟩
def gx (e:ab) (ks:List ab):ab:=⟨e.Op,e.aO,e.N,e.Text,e.At,ks⟩
def lv (p:ab) (i:Nat):ab:=⟨19,dc ((p.aO.aJ.ak[i]?).getD l0),i,[],0,[p]⟩
def eL (p k:ab):ab:=⟨20,dc ((p.aO.aJ.ak[0]?).getD l0),0,[],0,[p,k]⟩
def kO (e:ab):List ab->ab
 |[a,b]=>if a.Op=6 then b else if b.Op=6 then a else gx e [a,b]
 |_=>e
def kN (e:ab):List ab->List ab->ab
 |[c,_,_],[_,a,b]=>if a.Op=6/\b.Op=6 then gA e else gx e [c,a,b]
 |_,_=>e
def lz (e:ab) (ks:List ab):ab:=if ks.all (·.Op==6)then gA e else gx e ks
def lA (e:ab) (ks:List ab):ab:=if ks=[]then gA e else gx e ks
mutual
def bY (q:ab->ab->Bool):ab->ab->ab
 |p,⟨op,t,n,tx,a,kids⟩=>
  if q p ⟨op,t,n,tx,a,kids⟩=true then gA ⟨op,t,n,tx,a,kids⟩
  else if op=16 then kO ⟨op,t,n,tx,a,kids⟩ (cB q p kids)
  else if op=7 then kN ⟨op,t,n,tx,a,kids⟩ kids (cB q p kids)
  else if op=25 then lz ⟨op,t,n,tx,a,kids⟩ (eE q p 0 kids)
  else if op=24 then lA ⟨op,t,n,tx,a,kids⟩ (dW q p none kids)
  else⟨op,t,n,tx,a,kids⟩
termination_by _ e=>SizeOf.sizeOf e
def cB (q:ab->ab->Bool):ab->List ab->List ab
 |_,[]=>[]
 |p,k::ks=>bY q p k::cB q p ks
termination_by _ ks=>SizeOf.sizeOf ks
def eE (q:ab->ab->Bool):ab->Nat->List ab->List ab
 |_,_,[]=>[]
 |p,i,k::ks=>bY q (lv p i) k::eE q p (i+1) ks
termination_by _ _ ks=>SizeOf.sizeOf ks
def dW (q:ab->ab->Bool):ab->Option ab->List ab->List ab
 |_,_,[]=>[]
 |p,none,k::ks=>dW q p (some k) ks
 |p,some k,x::ks=>if(bY q (eL p k) x).Op=6 then dW q p none ks else k::bY q (eL p k) x::dW q p none ks
termination_by _ _ ks=>SizeOf.sizeOf ks
end
variable {q:ab->ab->Bool}
theorem iC (p e:ab):bY q p e=if q p e=true then gA e else if e.Op=16 then kO e (cB q p e.Kids)else if e.Op=7 then kN e e.Kids (cB q p e.Kids)else if e.Op=25 then lz e (eE q p 0 e.Kids)else if e.Op=24 then lA e (dW q p none e.Kids)else e:=by
 cases e;rw[bY]
theorem Eu {p e:ab} (h:e.Op≠16/\e.Op≠7/\e.Op≠25/\e.Op≠24):bY q p e=if q p e=true then gA e else e:=by
 rw[iC,aM h.1,aM h.2.1,aM h.2.2.1,aM h.2.2.2]
theorem qT:∀(ks:List ab) (p:ab) (i:Nat),(eE q p i ks).length=ks.length
 |[],_,_=>by rw[eE]
 |k::ks,p,i=>by rw[eE,gD,qT,gD]
theorem tP:∀(ks:List ab) (p:ab) (i j:Nat),(eE q p i ks)[j]? =(ks[j]?).map λk=>bY q (lv p (i+j)) k
 |[],_,_,_=>by rw[eE];rfl
 |k::ks,p,i,0=>by rw[eE];rfl
 |k::ks,p,i,j+1=>by
  rw[eE,mU,tP ks,mU,show i+1+j=i+(j+1)by omega]
def iI (q:ab->ab->Bool) (p:ab) (qs:List (ab×ab)):List (ab×ab):=qs.filterMap λr=>if(bY q (eL p r.1) r.2).Op=6 then none else some (r.1,bY q (eL p r.1) r.2)
theorem ET:∀(qs:List (ab×ab)) (p:ab),dW q p none (qs.flatMap λr=>[r.1,r.2])=(iI q p qs).flatMap λr=>[r.1,r.2]
 |[],_=>by rw[aaj,dW];rfl
 |r::qs,p=>by
  rw[sO,jR,jR,oW,dW,dW,ET qs];by_cases h:(bY q (eL p r.1) r.2).Op=6
  ·rw[bf h];simp[iI,h]
  ·rw[aM h];simp[iI,h]
theorem Tm {p:ab} {qs:List (ab×ab)} {s:ab×ab} (h:s∈iI q p qs):∃r∈qs,s=(r.1,bY q (eL p r.1) r.2)/\(bY q (eL p r.1) r.2).Op≠6:=by
 obtain⟨r,hr,e⟩:=aao.1 h;split at e
 ·cases e
 ·rename_i hn;cases e;exact⟨r,hr,rfl,hn⟩
section
variable {B:Nat} {c:cD} (hc:CE B c)
include hc
theorem ala {x:ab} {w:aP} (h:W c.l c.params x w) (hn:isNone w=false):x.aO=w:=by
 have no:∀{P:Prop},isNone w=true->P:=λe=>by rw[e]at hn;cases hn
 have fe:∀{t:aP},Fit w t->t=w:=λh=>(h hn).symm;cases h<;>first|rfl|(apply fe;assumption)|(apply no;assumption)
theorem Xq {e:ab} {w:aP} (h:W c.l c.params e w):bw B w->w.a6=0->∀p,W c.l c.params (bY q p e) w:=by
 have bt:∀{e:ab} {w:aP},W c.l c.params e w->bw B w->w.a6=0->W c.l c.params (gA e) w:=λh hw hs=>by
  rw[gA,ala hc h hw.dP];exact .rC hs hw.dP
 have lf:∀{e:ab} {w:aP},W c.l c.params e w->(e.Op≠16/\e.Op≠7/\e.Op≠25/\e.Op≠24)->bw B w->w.a6=0->∀p,W c.l c.params (bY q p e) w:=λh ho hw hs p=>by
  rw[Eu ho];split
  ·exact bt h hw hs
  ·exact h
 have hd:∀{e:ab} {w:aP} {r p:ab},W c.l c.params e w->bw B w->w.a6=0->W c.l c.params r w->W c.l c.params (if q p e=true then gA e else r) w:=λh hw hs hr=>by
  split
  ·exact bt h hw hs
  ·exact hr
 induction h with
 |int h1 h2 h3=>exact lf (.int h1 h2 h3) (by simp)
 |bool h1 h2=>exact lf (.bool h1 h2) (by simp)
 |name h1 h2=>exact lf (.name h1 h2) (by simp)
 |param h1 h2=>exact lf (.param h1 h2) (by simp)
 |state h1=>exact lf (.state h1) (by simp)
 |rC h1 h2=>exact lf (.rC h1 h2) (by simp)
 |v7 hn=>intro hw;rw[hw.dP]at hn;cases hn
 |v8 hn=>intro hw;rw[hw.dP]at hn;cases hn
 |vK hn=>intro hw;rw[hw.dP]at hn;cases hn
 |vL hn=>intro hw;rw[hw.dP]at hn;cases hn
 | @oJ cc x y a w hn wc wx wy ic ix iy=>
  intro hw hs p;rw[iC];refine hd (.oJ hn wc wx wy) hw hs ?_;show W _ _ (kN _ [cc,x,y] (cB q p [cc,x,y])) w;rw[cB,cB,cB,cB,kN];split
  ·exact bt (.oJ (a:=a) hn wc wx wy) hw hs
  ·exact .oJ hn wc (ix hw hs p) (iy hw hs p)
 | @qe x y a w hn hs' wx wy ix iy=>
  intro hw hs p;rw[iC];refine hd (.qe hn hs' wx wy) hw hs ?_;show W _ _ (kO _ (cB q p [x,y])) w;rw[cB,cB,cB,kO];split
  ·exact iy hw hs p
  ·split
   ·exact ix hw hs p
   ·exact .qe hn hs' (ix hw hs p) (iy hw hs p)
 | @ql kids a w h0 hk hb hl hw' ih=>
  intro hw hs p;have hh:W c.l c.params ⟨25,w,0,[],a,kids⟩ w:= .ql h0 hk hb hl hw';rw[iC];refine hd hh hw hs ?_;show W _ _ (lz _ (eE q p 0 kids)) w;rw[lz];split
  ·exact bt hh hw hs
  ·refine .ql h0 hk (by rw[qT];exact hb) (by rw[qT];exact hl) (λi x pt hx hp=>?_);rw[tP]at hx;obtain⟨k,hk',rfl⟩:=aak.1 hx;exact ih i k pt hk' hp (iP hw hs (aY hp)) rfl _
 | @map kids pt a w h0 hk hb hp w1 w2 i1 i2=>
  intro hw hs p;have hh:W c.l c.params ⟨24,w,0,[],a,kids.flatMap λq=>[q.1,q.2]⟩ w:= .map h0 hk hb hp w1 w2;rw[iC];refine hd hh hw hs ?_;show W _ _ (lA _ (dW q p none (kids.flatMap λq=>[q.1,q.2]))) w;rw[lA,ET];split
  ·exact bt hh hw hs
  ·refine .map h0 hk (iO (aaw ..) hb) hp (λs hs'=>?_) (λs hs'=>?_)
   ·obtain⟨r,hr,rfl,_⟩:=Tm hs';exact w1 r hr
   ·obtain⟨r,hr,rfl,_⟩:=Tm hs';exact i2 r hr (iP hw hs (aY hp)) rfl _
 |conn h1 h2 h3 h4=>exact lf (.conn h1 h2 h3 h4) (by simp;omega)
 |not h1 h2=>exact lf (.not h1 h2) (by simp)
 |less h1 h2 h3 h4=>exact lf (.less h1 h2 h3 h4) (by simp;omega)
 |equal h1 h2 h3 h4=>exact lf (.equal h1 h2 h3 h4) (by simp)
 |Az h1 h2 h3=>exact lf (.Az h1 h2 h3) (by simp)
 |AA h1 h2 h3 h4=>exact lf (.AA h1 h2 h3 h4) (by simp)
 |AB h1 h2 h3 h4=>exact lf (.AB h1 h2 h3 h4) (by simp)
 |qn h1 h2 h3 h4=>exact lf (.qn h1 h2 h3 h4) (by simp;omega)
 |field h1 h2 h3 h4 h5 h6=>exact lf (.field h1 h2 h3 h4 h5 h6) (by simp)
 |at_ h1 h2 h3 h4 h5 h6=>exact lf (.at_ h1 h2 h3 h4 h5 h6) (by simp)
 |flag h1 h2 h3=>exact lf (.flag h1 h2 h3) (by simp)
 |num h1 h2 h3=>exact lf (.num h1 h2 h3) (by simp)
 |AF h1 h2 h3 h4 h5=>exact lf (.AF h1 h2 h3 h4 h5) (by simp)
 |pair h1 h2 h3 h4 h5 h6=>exact lf (.pair h1 h2 h3 h4 h5 h6) (by simp)
 |one h1 h2 h3=>exact lf (.one h1 h2 h3) (by simp)
 |write h1 h2 h3 h4=>exact lf (.write h1 h2 h3 h4) (by simp)
 |size h1 h2 h3=>exact lf (.size h1 h2 h3) (by simp)
 |sum h1 h2 h3 h4 h5 h6=>exact lf (.sum h1 h2 h3 h4 h5 h6) (by simp)
 |sL h1 h2 h3 h4 h5=>
  refine lf (.sL h1 h2 h3 h4 h5) ?_;simp at h1⊢;omega
 |part h1 h2 h3 h4 h5 h6=>exact lf (.part h1 h2 h3 h4 h5 h6) (by simp;omega)
end
end Go.Proofs.YtnocmolegijmkaaGreat
end

section
namespace Go.Proofs.YtnocmolegijmkaaGreat
open Go Go.Bw
variable {q:ab->ab->Bool}
theorem Iq {p:ab}:∀{ks:List ab},(cB q p ks).length=ks.length
 |[]=>by rw[cB]
 |k::ks=>by rw[cB,gD,Iq,gD]
def p8 (p:ab):Prop:=p.Op≠6/\p.Op≠16/\p.Op≠7/\p.Op≠25/\p.Op≠24
theorem aet (p:ab) (i:Nat):p8 (lv p i):=by simp[p8,lv]
theorem afI (p k:ab):p8 (eL p k):=by simp[p8,eL]
section
variable (hq:∀p e,q p e=true->p.Op=e.Op)
include hq
theorem Fg {p e:ab} (hp:p8 p):bY q p (gA e)=gA e:=by
 rw[Eu (by simp[gA]),aM];intro h;exact hp.1 (hq _ _ h)
theorem To {p:ab}:∀{ks:List ab} {i:Nat},(∀k∈ks,∀p,p8 p->bY q p (bY q p k)=bY q p k)->eE q p i (eE q p i ks)=eE q p i ks
 |[],_,_=>by rw[eE,eE]
 |k::ks,i,h=>by
  rw[eE,eE,h k (by simp) _ (aet p i),To (ks:=ks) λx hx=>h x (by simp[hx])]
theorem I6 {p:ab}:∀{ks:List ab} {o:Option ab},(∀k∈ks,∀p,p8 p->bY q p (bY q p k)=bY q p k)->dW q p none (dW q p o ks)=dW q p o ks
 |[],_,_=>by rw[dW,dW]
 |k::ks,none,h=>by
  have:=I6 (p:=p) (ks:=ks) (o:=some k) λx hx=>h x (by simp[hx]);rw[show dW q p none (k::ks)=dW q p (some k) ks by rw[dW]];exact this
 |x::ks,some k,h=>by
  have h1:=I6 (p:=p) (ks:=ks) (o:=none) λx hx=>h x (by simp[hx]);have h2:=h x (by simp) _ (afI p k);rw[show dW q p (some k) (x::ks)=if(bY q (eL p k) x).Op=6 then dW q p none ks else k::bY q (eL p k) x::dW q p none ks by rw[dW]];split
  ·exact h1
  ·rename_i hn;rw[dW,dW,h2,aM hn,h1]
theorem anV:∀e p:ab,p8 p->bY q p (bY q p e)=bY q p e:=by
 refine ab.ind λe ih=>λp hp=>?_;have nq:∀{e:ab},(e.Op=16\/e.Op=7\/e.Op=25\/e.Op=24)->¬q p e=true:=λh g=>by
  have:=hq _ _ g;have:=hp.2;omega
 have e0:=iC (q:=q) p e;by_cases c0:q p e=true
 ·rw[bf c0]at e0;rw[e0];exact Fg hq hp
 rw[aM c0]at e0;by_cases c1:e.Op=16
 ·rw[bf c1]at e0;rw[e0];by_cases hk:∃x y,e.Kids=[x,y]
  ·obtain⟨x,y,hk⟩:=hk;have hx:=ih x (by rw[hk];simp) p hp;have hy:=ih y (by rw[hk];simp) p hp;rw[hk,cB,cB,cB,kO];split
   ·exact hy
   ·split
    ·exact hx
    ·rename_i h1 h2;rw[iC,aM (nq (e:=gx _ _) (.inl c1)),bf (show(gx e _).Op=16 from c1)];show kO _ (cB q p [bY q p x,bY q p y])=_;rw[cB,cB,cB,hx,hy,kO,aM h1,aM h2];rfl
  ·have hj:kO e (cB q p e.Kids)=e:=by
    have hl:=Iq (q:=q) (p:=p) (ks:=e.Kids);unfold kO;split
    ·rename_i a b h;rw[h]at hl
     match hm:e.Kids,hl with
     |[x,y],_=>exact absurd ⟨x,y,hm⟩ hk
    ·rfl
   rw[hj]at e0⊢;exact e0
 rw[aM c1]at e0;by_cases c2:e.Op=7
 ·rw[bf c2]at e0;rw[e0];by_cases hk:∃c x y,e.Kids=[c,x,y]
  ·obtain⟨c,x,y,hk⟩:=hk;have hx:=ih x (by rw[hk];simp) p hp;have hy:=ih y (by rw[hk];simp) p hp;rw[hk,cB,cB,cB,cB,kN];split
   ·exact Fg hq hp
   ·rename_i h1;rw[iC,aM (nq (e:=gx _ _) (.inr (.inl c2))),aM (show¬(gx e _).Op=16 from c1),bf (show(gx e _).Op=7 from c2)];show kN _ [c,bY q p x,bY q p y] (cB q p [c,bY q p x,bY q p y])=_;rw[cB,cB,cB,cB,hx,hy,kN,aM h1];rfl
  ·have hj:kN e e.Kids (cB q p e.Kids)=e:=by
    unfold kN;split
    ·rename_i h _;exact absurd ⟨_,_,_,h⟩ hk
    ·rfl
   rw[hj]at e0⊢;exact e0
 rw[aM c2]at e0;by_cases c3:e.Op=25
 ·rw[bf c3]at e0;rw[e0,lz];split
  ·exact Fg hq hp
  ·rename_i h1;rw[iC,aM (nq (e:=gx _ _) (.inr (.inr (.inl c3)))),aM (show¬(gx e _).Op=16 from c1),aM (show¬(gx e _).Op=7 from c2),bf (show(gx e _).Op=25 from c3)];show lz _ (eE q p 0 (eE q p 0 e.Kids))=_;rw[To hq ih,lz,aM h1];rfl
 rw[aM c3]at e0;by_cases c4:e.Op=24
 ·rw[bf c4]at e0;rw[e0,lA];split
  ·exact Fg hq hp
  ·rename_i h1;rw[iC,aM (nq (e:=gx _ _) (.inr (.inr (.inr c4)))),aM (show¬(gx e _).Op=16 from c1),aM (show¬(gx e _).Op=7 from c2),aM (show¬(gx e _).Op=25 from c3),bf (show(gx e _).Op=24 from c4)];show lA _ (dW q p none (dW q p none e.Kids))=_;rw[I6 hq ih,lA,aM h1];rfl
 rw[aM c4]at e0;rw[e0,e0]
end
theorem Tp {B:Nat}:∀{l:List ab},ab.fb B l↔∀x∈l,x.ok B
 |[]=>by simp[ab.fb]
 |x::l=>by simp[ab.fb,Tp (l:=l)]
theorem FA {B:Nat} {e:ab} (h:e.ok B):(gA e).ok B:=by
 rw[ab.dA]at h⊢;obtain⟨h1,h2,h3,h4,h5,h6,h7⟩:=h;exact⟨show(Lit.int IntKind.i64 6).wf=true by decide,h2,show(Lit.int IntKind.i64 0).wf=true by decide,by simp[gA],h5,by simp[gA],by simp[gA,ab.fb]⟩
theorem Fh {B:Nat} {e:ab} {ks:List ab} (h:e.ok B) (hl:ks.length<=e.Kids.length) (hk:∀k∈ks,k.ok B):(gx e ks).ok B:=by
 rw[ab.dA]at h⊢;obtain⟨h1,h2,h3,h4,h5,h6,h7⟩:=h;exact⟨h1,h2,h3,h4,h5,iO hl h6,Tp.2 hk⟩
theorem JB {B:Nat} {p:ab}:∀{ks:List ab} {o:Option ab},(∀k∈ks,k.ok B)->(∀k∈ks,∀p,(bY q p k).ok B)->(∀k,o=some k->k.ok B)->(dW q p o ks).length<=(o.toList++ks).length/\∀k∈dW q p o ks,k.ok B
 |[],_,_,_,_=>by rw[dW];simp
 |k::ks,none,h0,h,ho=>by
  have:=JB (p:=p) (ks:=ks) (o:=some k) (λx hx=>h0 x (by simp[hx])) (λx hx=>h x (by simp[hx])) (λx hx=>by cases hx;exact h0 _ (by simp));rw[dW];exact this
 |x::ks,some k,h0,h,ho=>by
  obtain⟨h1,h2⟩:=JB (p:=p) (ks:=ks) (o:=none) (λx hx=>h0 x (by simp[hx])) (λx hx=>h x (by simp[hx])) (λx hx=>by cases hx);have h1:(dW q p none ks).length<=ks.length:=h1;have h3:=h x (by simp) (eL p k);have h4:=ho k rfl;rw[dW];show _<=(k::x::ks).length/\_;split
  ·exact⟨by simp only[gD];omega,h2⟩
  ·refine⟨by simp only[gD];omega,λy hy=>?_⟩;simp only[ck]at hy;rcases hy with rfl|rfl|hy
   ·exact h4
   ·exact h3
   ·exact h2 y hy
theorem agl {B:Nat}:∀e:ab,e.ok B->∀p,(bY q p e).ok B:=by
 refine ab.ind λe ih he=>λp=>?_;have hk:∀k∈e.Kids,k.ok B:=λk hk=>ab.fU ((ab.dA e).1 he).2.2.2.2.2.2 hk;have ih:∀k∈e.Kids,∀p,(bY q p k).ok B:=λk hm=>ih k hm (hk k hm);rw[iC];split
 ·exact FA he
 split
 ·unfold kO;split
  ·rename_i a b h;have hl:=Iq (q:=q) (p:=p) (ks:=e.Kids);rw[h]at hl
   match hm:e.Kids,hl with
   |[x,y],_=>
    rw[hm,cB,cB,cB]at h;cases h;have h1:=ih x (by rw[hm];simp) p;have h2:=ih y (by rw[hm];simp) p;split
    ·exact h2
    ·split
     ·exact h1
     ·exact Fh he (by rw[hm];simp) (λk hk=>by simp at hk;rcases hk with rfl|rfl<;>assumption)
  ·exact he
 split
 ·unfold kN;split
  ·rename_i c x y c' a b hm h;rw[hm,cB,cB,cB,cB]at h;cases h;have h0:=hk c (by rw[hm];simp);have h1:=ih x (by rw[hm];simp) p;have h2:=ih y (by rw[hm];simp) p;split
   ·exact FA he
   ·exact Fh he (by rw[hm];simp) (λk hk=>by simp at hk;rcases hk with rfl|rfl|rfl<;>assumption)
  ·exact he
 split
 ·unfold lz;split
  ·exact FA he
  ·refine Fh he (by rw[qT];exact bW _) λk hk'=>?_;obtain⟨j,hj⟩:=jB hk';rw[tP]at hj;obtain⟨x,hx,rfl⟩:=aak.1 hj;exact ih x (aY hx) _
 split
 ·unfold lA;split
  ·exact FA he
  ·obtain⟨h1,h2⟩:=JB (q:=q) (p:=p) (ks:=e.Kids) (o:=none) hk ih (λk h=>by cases h);exact Fh he h1 h2
 ·exact he
end Go.Proofs.YtnocmolegijmkaaGreat
end

section
namespace Go.Proofs.YtnocmolegijmkaaGreat
open Go Go.Bw
mutual
def nx:ab->ab
 |⟨op,t,n,tx,_,ks⟩=>⟨op,t,n,tx,0,kg ks⟩
def kg:List ab->List ab
 |[]=>[]
 |k::ks=>nx k::kg ks
end
theorem JA:∀{l:List ab},(kg l).length=l.length
 |[]=>rfl
 |k::ks=>by rw[kg,gD,JA,gD]
noncomputable def b5 (a b:ab):Bool:=ff (nx a) (nx b)
theorem VD:∀{a b:List ab},a.length=b.length->(a.zip b).all (λq=>b5 q.1 q.2)=ff (kg a) (kg b)
 |[],[],_=>by simp[ff]
 |x::a,y::b,h=>by
  rw[Dz,kP,VD (by simpa using h)];apply p7;simp only[bN,qY,b5,kg,jQ]
theorem agB {a b:ab}:b5 a b=(a.Op==b.Op&&(ff a.aO b.aO&&(a.N==b.N&&(a.Text==b.Text&&ff (kg a.Kids) (kg b.Kids))))):=by
 symm;apply p7;cases a;cases b;simp only[bN,beq_iff_eq,qY,nx,ab.mk.injEq,true_and]
section
variable {B:Nat} (hB:B<=1048576)
include hB
theorem xY:∀a:ab,TT B a->∀b:ab,b.ok B->(f50 Pf) a b=some (b5 a b):=by
 refine ab.ind λa ih ha b hb=>?_;rw[ab.dA]at hb;obtain⟨_,_,_,_,_,hkl,hkk⟩:=hb;have hkids:(Fx Pf) a.Kids b.Kids=some (ff (kg a.Kids) (kg b.Kids)):=by
  rw[agz,Ac];simp only[ab.aF];by_cases h:a.Kids.length=b.Kids.length
  ·have h0:((a.Kids.length:Int) !=(b.Kids.length:Int))=false:=by simp[h]
   rw[h0];show(tH Pf) a.Kids b.Kids 0=_;rw[yR (a:=a.Kids) (b:=b.Kids) (L:=(tH Pf) a.Kids b.Kids) b5 true h ?_ ?_]
   ·rw[qC,VD h]
   ·intro i x y hx hy hi;rw[R9,tI,ab.aF,tO (by omega)];have h1:decide ((i:Int)<(a.Kids.length:Int))=true:=by simpa using hi
    have hx':=aY hx;rw[h1,a7 hx,a7 hy];show(((f50 Pf) x y).bind _)=_;rw[ih x hx' (ha.bM hx') y (ab.fU hkk (aY hy))];show(bif !(b5 x y)then _ else _)=_;cases b5 x y<;>rfl
   ·rw[R9,tI,ab.aF];simp
  ·have h0:((a.Kids.length:Int) !=(b.Kids.length:Int))=true:=by simp;omega
   rw[h0];show some false=_;congr 1;exact p7 (by constructor;intro e;cases e;intro e;have:=congrArg List.length e;rw[JA,JA]at this;exact absurd this h)
 have hty:(f81 Pf) a.aO b.aO=some (ff a.aO b.aO):=by
  obtain⟨r,e,hr⟩:=IK (b:=b.aO) hB ha.ty.ok;rw[e,p7 hr]
 rw[e50,C',hkids,hty,agB];simp only[ax];generalize (a.Op==b.Op)=c1;generalize ff a.aO b.aO=c2;generalize (a.N==b.N)=c3;generalize (a.Text==b.Text)=c4;generalize ff (kg a.Kids) (kg b.Kids)=c5;cases c1<;>cases c2<;>cases c3<;>cases c4<;>cases c5<;>rfl
end
theorem D2 (x:ab):(f53 Pf) x=some (x.Op==6):=by rw[e53,Db]
theorem qO (x:ab):(f51 Pf) x=some (gA x):=by rw[e51,Da];rfl
theorem J0 {p:ab} {i:Nat} {q:ai} (h:p.aO.aJ.ak[i]? =some q):lv p i=⟨19,dc q,i,[],0,[p]⟩:=by rw[lv,h];rfl
theorem J1 {p k:ab} {q:ai} (h:p.aO.aJ.ak[0]? =some q):eL p k=⟨20,dc q,0,[],0,[p,k]⟩:=by rw[eL,h];rfl
theorem rO {B:Nat} {e k:ab} (h:e.ok B) (hk:k∈e.Kids):k.ok B:=ab.fU ((ab.dA e).1 h).2.2.2.2.2.2 hk
theorem agC {B:Nat} {e:ab} (h:e.ok B):e.Kids.length<=B:=((ab.dA e).1 h).2.2.2.2.2.1
theorem Tn {l:List ab} {x:ab}:((l++[x]).all λk=>k.Op==6)=((l.all λk=>k.Op==6)&&(x.Op==6)):=by simp
theorem XG:∀{l:List (ab×ab)} {j:Nat} {q:ab×ab},l[j]? =some q->(l.flatMap λq=>[q.1,q.2])[2*j]? =some q.1/\(l.flatMap λq=>[q.1,q.2])[2*j+1]? =some q.2
 |a::l,0,q,h=>by
  simp only[jz,aD]at h;subst h;exact⟨rfl,rfl⟩
 |a::l,j+1,q,h=>by
  simp only[mU]at h;exact XG (l:=l) h
theorem ac2 {q:ab->ab->Bool} {p:ab} {l:List (ab×ab)} {r:ab×ab}:((iI q p (l++[r])).flatMap λs=>[s.1,s.2])=((iI q p l).flatMap λs=>[s.1,s.2])++if(bY q (eL p r.1) r.2).Op=6 then []else [r.1,bY q (eL p r.1) r.2]:=by
 rw[iI,List.filterMap_append,List.flatMap_append];congr 1;rw[anT];split<;>rename_i h
 ·rw[bf (by split at h;assumption;cases h)];rfl
 ·split at h
  ·cases h
  ·rename_i hn;cases h;rw[aM hn];rfl
theorem aes {q:ab->ab->Bool} {p:ab} {l:List (ab×ab)}:((iI q p l).flatMap λs=>[s.1,s.2]).length<=2*l.length:=by
 rw[Ei _];have:=aaw (λr:ab×ab=>if(bY q (eL p r.1) r.2).Op=6 then none else some (r.1,bY q (eL p r.1) r.2)) l;rw[iI];omega
section
variable {B:Nat} (hB:B<=1048576)
include hB
theorem abR:∀x:ab,x.ok B->(f26 Pf) x=some x:=by
 refine ab.ind λx ih hx=>?_;have hl:=agC hx;rw[e26,xk];refine ae.of (dZ (L:=λi s=>(rN Pf) x i s) (P:=(·=x)) (len:=x.Kids.length) (λi s=>s=x.Kids.take i) (λi s hi hI k=>?_) (λs hI=>?_) 0 [] (by omega) rfl)
 ·show ae ((rN Pf) x i s) _;obtain⟨y,hy⟩:=bm hi;have hm:=aY hy;have:decide (i<x.Kids.length)=true:=by simpa using hi
  rw[Wr,vz,ab.aF,aW,this,aB,a7 hy,ax,ih y hm (rO hx hm),ax,PC (by rw[hI];simp;omega),aB,bO i (by omega)];exact k _ (by rw[hI,GG hy])
 ·show ae ((rN Pf) x x.Kids.length s) _;have:decide (x.Kids.length<x.Kids.length)=false:=by simp
  rw[Wr,vz,ab.aF,aW,this,aC,hI,eN];exact ae.ret (by cases x;rfl)
variable {c:cD} (hc:CE B c)
include hc
theorem acA {e:ab} {w:aP} (h:W c.l c.params e w):bw B w->w.a6=0->e.ok B->TT B e->∀p,TT B p->p.aO=w->(f27 Pf) p e=some (bY b5 p e):=by
 have lf:∀{e:ab} {w:aP},(e.Op≠16/\e.Op≠7/\e.Op≠25/\e.Op≠24)->bw B w->w.a6=0->e.ok B->TT B e->∀p,TT B p->p.aO=w->(f27 Pf) p e=some (bY b5 p e):=λ{e w} ho _ _ hok _ p hp _=>by
  have o1:(e.Op==16)=false:=by simpa using ho.1
  have o2:(e.Op==7)=false:=by simpa using ho.2.1
  have o3:(e.Op==25)=false:=by simpa using ho.2.2.1
  have o4:(e.Op==24)=false:=by simpa using ho.2.2.2
  rw[Dc,oV,xY hB p hp e hok,Eu ho,o1,o2,o3,o4,qO];cases b5 p e<;>rfl
 have hd:∀{p e r:ab} {o:Option ab},o=some r->(bif b5 p e then(some (gA e)).bind λy=>some y else o)=some (if b5 p e=true then gA e else r):=λ{p e r o} h=>by
  rw[h];cases b5 p e<;>rfl
 induction h with
 |v7 hn=>intro hw;rw[hw.dP]at hn;cases hn
 |v8 hn=>intro hw;rw[hw.dP]at hn;cases hn
 |vK hn=>intro hw;rw[hw.dP]at hn;cases hn
 |vL hn=>intro hw;rw[hw.dP]at hn;cases hn
 | @oJ cc x y a w hn wc wx wy ic ix iy=>
  intro hw hs hok ht p hp hpt;have hx:=ix hw hs (rO hok (by simp)) (ht.bM (by simp)) p hp hpt;have hy:=iy hw hs (rO hok (by simp)) (ht.bM (by simp)) p hp hpt;have i0:aq [cc,x,y] 0=some cc:=rfl;have i1:aq [cc,x,y] 1=some x:=rfl;have i2:aq [cc,x,y] 2=some y:=rfl;rw[Dc,oV,xY hB p hp _ hok,iC,ax,qO];refine hd ?_;simp only[Int.reduceBEq,aB,aC,i0,i1,i2,ax,hx,hy,D2];show _=some (kN _ [cc,x,y] (cB b5 p [cc,x,y]));rw[cB,cB,cB,cB,kN];by_cases h1:(bY b5 p x).Op=6
  ·have h1':((bY b5 p x).Op==6)=true:=by simpa using h1
   by_cases h2:(bY b5 p y).Op=6
   ·have h2':((bY b5 p y).Op==6)=true:=by simpa using h2
    rw[h1',h2',bf ⟨h1,h2⟩];rfl
   ·have h2':((bY b5 p y).Op==6)=false:=by simpa using h2
    rw[h1',h2',aM (λh=>h2 h.2)];rfl
  ·have h1':((bY b5 p x).Op==6)=false:=by simpa using h1
   rw[h1',aM (λh=>h1 h.1)];rfl
 | @qe x y a w hn hs' wx wy ix iy=>
  intro hw hs hok ht p hp hpt;have hx:=ix hw hs (rO hok (by simp)) (ht.bM (by simp)) p hp hpt;have hy:=iy hw hs (rO hok (by simp)) (ht.bM (by simp)) p hp hpt;have i0:aq [x,y] 0=some x:=rfl;have i1:aq [x,y] 1=some y:=rfl;rw[Dc,oV,xY hB p hp _ hok,iC,ax,qO];refine hd ?_;simp only[Int.reduceBEq,aB,aC,i0,i1,ax,hx,hy,D2];show _=some (kO _ (cB b5 p [x,y]));rw[cB,cB,cB,kO];by_cases h1:(bY b5 p x).Op=6
  ·have h1':((bY b5 p x).Op==6)=true:=by simpa using h1
   rw[h1',bf h1];rfl
  ·have h1':((bY b5 p x).Op==6)=false:=by simpa using h1
   rw[h1',aM h1];by_cases h2:(bY b5 p y).Op=6
   ·have h2':((bY b5 p y).Op==6)=true:=by simpa using h2
    rw[h2',bf h2];rfl
   ·have h2':((bY b5 p y).Op==6)=false:=by simpa using h2
    rw[h2',aM h2];rfl
 | @ql kids a w h0 hk6 hb hl wk ik=>
  intro hw hs hok ht p hp hpt;rw[Dc,oV,xY hB p hp _ hok,iC,ax,qO];refine hd ?_;simp only[Int.reduceBEq,aB,aC];show _=some (lz _ (eE b5 p 0 kids));generalize he:(⟨25,w,0,[],a,kids⟩:ab)=e at*
  have hkk:e.Kids=kids:=by rw[<-he]
  refine ae.of (dZ (L:=λi (s:List ab×Bool)=>(p5 Pf) p e s.1 s.2 i) (P:=(·=lz e (eE b5 p 0 kids))) (len:=kids.length) (λi s=>s.1=(eE b5 p 0 kids).take i/\s.2=((eE b5 p 0 kids).take i).all (·.Op==6)) (λi s hi hI k=>?_) (λs hI=>?_) 0 ([],true) (by omega) ⟨rfl,rfl⟩)
  ·show ae ((p5 Pf) p e s.1 s.2 i) _;obtain⟨x,hx⟩:=bm hi;obtain⟨pt,hq⟩:=bm (l:=w.aJ.ak) (i:=i) (by omega);have hm:=aY hx;have wq:=iP hw hs (aY hq);have hpq:p.aO.aJ.ak[i]? =some pt:=by rw[hpt];exact hq
   have hf:TT B (lv p i):= .mk (by rw[J0 hpq];exact wq) (λk hk=>by simp[lv]at hk;subst hk;exact hp);have ex:=ik i x pt hx hq wq rfl (rO hok (by rw[hkk];exact hm)) (ht.bM (by rw[hkk];exact hm)) (lv p i) hf (by rw[J0 hpq]);have hg:(eE b5 p 0 kids)[i]? =some (bY b5 (lv p i) x):=by rw[tP,hx];simp
   have hlen:(eE b5 p 0 kids).length=kids.length:=qT _ _ _;have:decide (i<kids.length)=true:=by simpa using hi
   rw[Wp,vx,ab.aF,hkk,aW,this,aB,a7 hx,ax,a7 hpq,ax,bO i (by omega)];rw[J0 hpq]at ex hg;have ex:(f27 Pf) {Op:=19,aO:={a6:=0,aJ:=pt:aP},N:=(i:Int),Text:=[],At:=0,Kids:=[p]:ab} x=_:=ex;rw[ex,ax,D2,PC (by rw[hI.1];simp;omega)];have e1:=GG hg;have:=hI.2;cases hb2:s.2 with
   |true=>
    rw[hb2]at this;exact k (_,_) ⟨by show s.1++[_]=_;rw[hI.1];exact e1,by show _=List.all _ _;rw[<-e1,Tn,<-this];simp⟩
   |false=>
    rw[hb2]at this;exact k (_,_) ⟨by show s.1++[_]=_;rw[hI.1];exact e1,by show _=List.all _ _;rw[<-e1,Tn,<-this];simp⟩
  ·show ae ((p5 Pf) p e s.1 s.2 kids.length) _;have hlen:(eE b5 p 0 kids).length=kids.length:=qT _ _ _;rw[<-hlen,eN]at hI;have:decide (kids.length<kids.length)=false:=by simp
   rw[Wp,vx,ab.aF,hkk,aW,this,aC,qO,hI.1];unfold lz;have h2:=hI.2;cases hb2:s.2 with
   |true=>rw[hb2]at h2;rw[bf h2.symm];exact ae.ret rfl
   |false=>rw[hb2]at h2;rw[aM (by rw[<-h2];simp)];exact ae.ret rfl
 | @map kids pt a w h0 hk5 hb hq wk wv i1 i2=>
  intro hw hs hok ht p hp hpt;rw[Dc,oV,xY hB p hp _ hok,iC,ax,qO];refine hd ?_;simp only[Int.reduceBEq,aB,aC];show _=some (lA _ (dW b5 p none (kids.flatMap λq=>[q.1,q.2])));rw[ET];have hK:(kids.flatMap λq=>[q.1,q.2]).length=2*kids.length:=Ei _;generalize he:(⟨24,w,0,[],a,kids.flatMap λq=>[q.1,q.2]⟩:ab)=e at*
  have hkk:e.Kids=kids.flatMap λq=>[q.1,q.2]:=by rw[<-he]
  show(nF Pf) p e [] (2*((0:Nat):Int))=_;refine ae.of (dZ (L:=λ(j:Int) s=>(nF Pf) p e s (2*j)) (P:=(·=lA e ((iI b5 p kids).flatMap λr=>[r.1,r.2]))) (len:=kids.length) (λj s=>s=(iI b5 p (kids.take j)).flatMap λr=>[r.1,r.2]) (λj s hj hI k=>?_) (λs hI=>?_) 0 [] (by omega) rfl)
  ·show ae ((nF Pf) p e s (2*(j:Int))) _;have k':∀b',b'=((iI b5 p (kids.take (j+1))).flatMap λr=>[r.1,r.2])->ae ((nF Pf) p e b' (2*((j+1:Nat):Int))) _:=k;obtain⟨r,hr⟩:=bm hj;have fg:=XG hr;have m1:=aY fg.1;have m2:=aY fg.2;have wq:=iP hw hs (aY hq);have hpq:p.aO.aJ.ak[0]? =some pt:=by rw[hpt];exact hq
   have hf:TT B (eL p r.1):= .mk (by rw[J1 hpq];exact wq) (λk hk=>by
    simp[eL]at hk;rcases hk with rfl|rfl
    ·exact hp
    ·exact ht.bM (by rw[hkk];exact m1))
   have ex:=i2 r (aY hr) wq rfl (rO hok (by rw[hkk];exact m2)) (ht.bM (by rw[hkk];exact m2)) (eL p r.1) hf (by rw[J1 hpq]);have z2:IntKind.i64.wrap (((2*j:Nat):Int)+1)=((2*j+1:Nat):Int):=bO _ (by omega);have z3:IntKind.i64.wrap (((2*j:Nat):Int)+2)=2*((j+1:Nat):Int):=by rw[wrap64 (by omega) (by omega)];omega
   have hlt:decide (2*j<(kids.flatMap λq=>[q.1,q.2]).length)=true:=by rw[hK];simp;omega
   have hsl:s.length<=2*j:=by rw[hI];exact iO aes (by rw[iv];omega)
   have e0:aq p.aO.aJ.ak 0=some pt:=hpq;rw[show(2*(j:Int))=((2*j:Nat):Int)by omega,Wq,vy,ab.aF,hkk,aW,hlt,aB,z2,z3,e0,ax,a7 fg.1,ax,a7 fg.2,ax];have e1:=ac2 (q:=b5) (p:=p) (l:=kids.take j) (r:=r);rw[GG hr,<-hI]at e1;have ex':(f27 Pf) {Op:=20,aO:={a6:=0,aJ:=pt:aP},N:=0,Text:=[],At:=0,Kids:=[p,r.1]:ab} r.2=some (bY b5 (eL p r.1) r.2):=by
    rw[J1 hpq]at ex⊢;exact ex
   rw[ex',ax,D2,ax];by_cases h6:(bY b5 (eL p r.1) r.2).Op=6
   ·rw[bf h6,jx]at e1;rw[show((bY b5 (eL p r.1) r.2).Op==6)=true by simpa using h6];exact k' _ e1.symm
   ·rw[aM h6]at e1;rw[show((bY b5 (eL p r.1) r.2).Op==6)=false by simpa using h6,ax,PC (by simp;omega)];exact k' _ e1.symm
  ·show ae ((nF Pf) p e s (2*(kids.length:Int))) _;rw[eN]at hI;have hlt:decide (2*kids.length<(kids.flatMap λq=>[q.1,q.2]).length)=false:=by rw[hK];simp
   rw[show(2*(kids.length:Int))=((2*kids.length:Nat):Int)by omega,Wq,vy,ab.aF,ab.aF,hkk,aW,hlt,aC,qO,<-hI];unfold lA;by_cases hn:s=[]
   ·rw[bf hn,hn];exact ae.ret rfl
   ·rw[aM hn,show((s.length:Int)==0)=false by simpa using hn];exact ae.ret rfl
 |sL h1 h2 h3 h4 h5=>exact lf (by simp at h1⊢;omega)
 |part h1 h2 h3 h4 h5 h6=>exact lf (by simp;omega)
 |conn h1 h2 h3 h4=>exact lf (by simp;omega)
 |less h1 h2 h3 h4=>exact lf (by simp;omega)
 |qn h1 h2 h3 h4=>exact lf (by simp;omega)
 |_=>exact lf (by simp)
