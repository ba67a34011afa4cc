/- Derivatives of expressions: without the program in sight. -/
import Derived.Test.YtnocmolegijmkaaGreatKVa9
set_option linter.all false
section
namespace Go.Proofs.YtnocmolegijmkaaGreat
open Go Go.Bw
theorem Ab {n m:Nat} (h:n<=m):decide (n<=m)=true:=by simpa using h
theorem Ac {D:Type} {l:List D} {i:Nat} {x:D} (h:l[i]? =some x):l.take i++[x]=l.take (i+1):=by rw[J7,h];rfl
def fC (e:ab):ab:=⟨6,e.aj,0,[],e.At,[]⟩
def fT (e:ab) (ks:List ab):ab:=⟨e.Op,e.aj,e.N,e.Text,e.At,ks⟩
def kh (p:ab) (i:Nat):ab:=⟨19,bN ((p.aj.ai.aw[i]?).getD l0),i,[],0,[p]⟩
def dI (p k:ab):ab:=⟨20,bN ((p.aj.ai.aw[0]?).getD l0),0,[],0,[p,k]⟩
def kt (e:ab):List ab->ab
 |[a,b]=>if a.Op=6 then b else if b.Op=6 then a else fT e [a,b]
 |_=>e
def kr (e:ab):List ab->List ab->ab
 |[c,_,_],[_,a,b]=>if a.Op=6/\b.Op=6 then fC e else fT e [c,a,b]
 |_,_=>e
def ku (e:ab) (ks:List ab):ab:=if ks.all (·.Op==6)then fC e else fT e ks
def kv (e:ab) (ks:List ab):ab:=if ks=[]then fC e else fT e ks
mutual
def bE (q:ab->ab->Bool):ab->ab->ab
 |p,⟨op,t,n,tx,a,kids⟩=>
  if q p ⟨op,t,n,tx,a,kids⟩=true then fC ⟨op,t,n,tx,a,kids⟩
  else if op=16 then kt ⟨op,t,n,tx,a,kids⟩ (cf q p kids)
  else if op=7 then kr ⟨op,t,n,tx,a,kids⟩ kids (cf q p kids)
  else if op=25 then ku ⟨op,t,n,tx,a,kids⟩ (dw q p 0 kids)
  else if op=24 then kv ⟨op,t,n,tx,a,kids⟩ (dy q p none kids)
  else⟨op,t,n,tx,a,kids⟩
termination_by _ e=>SizeOf.sizeOf e
def cf (q:ab->ab->Bool):ab->List ab->List ab
 |_,[]=>[]
 |p,k::ks=>bE q p k::cf q p ks
termination_by _ ks=>SizeOf.sizeOf ks
def dw (q:ab->ab->Bool):ab->Nat->List ab->List ab
 |_,_,[]=>[]
 |p,i,k::ks=>bE q (kh p i) k::dw q p (i+1) ks
termination_by _ _ ks=>SizeOf.sizeOf ks
def dy (q:ab->ab->Bool):ab->Option ab->List ab->List ab
 |_,_,[]=>[]
 |p,none,k::ks=>dy q p (some k) ks
 |p,some k,x::ks=>if(bE q (dI p k) x).Op=6 then dy q p none ks else k::bE q (dI p k) x::dy q p none ks
termination_by _ _ ks=>SizeOf.sizeOf ks
end
variable {q:ab->ab->Bool}
theorem gG (p e:ab):bE q p e=if q p e=true then fC e else if e.Op=16 then kt e (cf q p e.Kids)else if e.Op=7 then kr e e.Kids (cf q p e.Kids)else if e.Op=25 then ku e (dw q p 0 e.Kids)else if e.Op=24 then kv e (dy q p none e.Kids)else e:=by
 cases e;rw[bE]
theorem Bg {p e:ab} (h:e.Op≠16/\e.Op≠7/\e.Op≠25/\e.Op≠24):bE q p e=if q p e=true then fC e else e:=by
 rw[gG,bK h.1,bK h.2.1,bK h.2.2.1,bK h.2.2.2]
theorem po:∀(ks:List ab) (p:ab) (i:Nat),(dw q p i ks).length=ks.length
 |[],_,_=>by rw[dw]
 |k::ks,p,i=>by rw[dw,fu,po,fu]
theorem wC:∀(ks:List ab) (p:ab) (i j:Nat),(dw q p i ks)[j]? =(ks[j]?).map λk=>bE q (kh p (i+j)) k
 |[],_,_,_=>by rw[dw];rfl
 |k::ks,p,i,0=>by rw[dw];rfl
 |k::ks,p,i,j+1=>by
  rw[dw,nX,wC ks,nX,show i+1+j=i+(j+1)by omega]
def jz (q:ab->ab->Bool) (p:ab) (qs:List (ab×ab)):List (ab×ab):=qs.filterMap λr=>if(bE q (dI p r.1) r.2).Op=6 then none else some (r.1,bE q (dI p r.1) r.2)
theorem BN:∀(qs:List (ab×ab)) (p:ab),dy q p none (qs.flatMap λr=>[r.1,r.2])=(jz q p qs).flatMap λr=>[r.1,r.2]
 |[],_=>by rw[SV,dy];rfl
 |r::qs,p=>by
  rw[Af,jJ,jJ,Am,dy,dy,BN qs];by_cases h:(bE q (dI p r.1) r.2).Op=6
  ·rw[cj h];simp[jz,h]
  ·rw[bK h];simp[jz,h]
theorem Mm {p:ab} {qs:List (ab×ab)} {s:ab×ab} (h:s∈jz q p qs):∃r∈qs,s=(r.1,bE q (dI p r.1) r.2)/\(bE q (dI p r.1) r.2).Op≠6:=by
 obtain⟨r,hr,e⟩:=S6.1 h;split at e
 ·cases e
 ·rename_i hn;cases e;exact⟨r,hr,rfl,hn⟩
section
variable {B:Nat} {c:bJ} (hc:CE B c)
include hc
theorem IK {x:ab} {w:ay} (h:W c.l c.params x w) (hn:isNone w=false):x.aj=w:=by
 have no:∀{P:Prop},isNone w=true->P:=λe=>by rw[e]at hn;cases hn
 have fe:∀{t:ay},Fit w t->t=w:=λh=>(h hn).symm;cases h<;>first|rfl|(apply fe;assumption)|(apply no;assumption)
theorem ZQ {e:ab} {w:ay} (h:W c.l c.params e w):a7 B w->w.aK=0->∀p,W c.l c.params (bE q p e) w:=by
 have bt:∀{e:ab} {w:ay},W c.l c.params e w->a7 B w->w.aK=0->W c.l c.params (fC e) w:=λh hw hs=>by
  rw[fC,IK hc h hw.eB];exact .jl hs hw.eB
 have lf:∀{e:ab} {w:ay},W c.l c.params e w->(e.Op≠16/\e.Op≠7/\e.Op≠25/\e.Op≠24)->a7 B w->w.aK=0->∀p,W c.l c.params (bE q p e) w:=λh ho hw hs p=>by
  rw[Bg ho];split
  ·exact bt h hw hs
  ·exact h
 have hd:∀{e:ab} {w:ay} {r p:ab},W c.l c.params e w->a7 B w->w.aK=0->W c.l c.params r w->W c.l c.params (if q p e=true then fC e else r) w:=λh hw hs hr=>by
  split
  ·exact bt h hw hs
  ·exact hr
 induction h with
 |int h1 h2 h3=>exact lf (.int h1 h2 h3) (by simp)
 |bool h1 h2=>exact lf (.bool h1 h2) (by simp)
 |name h1 h2=>exact lf (.name h1 h2) (by simp)
 |param h1 h2=>exact lf (.param h1 h2) (by simp)
 |state h1=>exact lf (.state h1) (by simp)
 |jl h1 h2=>exact lf (.jl h1 h2) (by simp)
 |kY hn=>intro hw;rw[hw.eB]at hn;cases hn
 |kZ hn=>intro hw;rw[hw.eB]at hn;cases hn
 |kQ hn=>intro hw;rw[hw.eB]at hn;cases hn
 |kR hn=>intro hw;rw[hw.eB]at hn;cases hn
 | @iX cc x y a w hn wc wx wy ic ix iy=>
  intro hw hs p;rw[gG];refine hd (.iX hn wc wx wy) hw hs ?_;show W _ _ (kr _ [cc,x,y] (cf q p [cc,x,y])) w;rw[cf,cf,cf,cf,kr];split
  ·exact bt (.iX (a:=a) hn wc wx wy) hw hs
  ·exact .iX hn wc (ix hw hs p) (iy hw hs p)
 | @jt x y a w hn hs' wx wy ix iy=>
  intro hw hs p;rw[gG];refine hd (.jt hn hs' wx wy) hw hs ?_;show W _ _ (kt _ (cf q p [x,y])) w;rw[cf,cf,cf,kt];split
  ·exact iy hw hs p
  ·split
   ·exact ix hw hs p
   ·exact .jt hn hs' (ix hw hs p) (iy hw hs p)
 | @gT kids a w h0 hk hb hl hw' ih=>
  intro hw hs p;have hh:W c.l c.params ⟨25,w,0,[],a,kids⟩ w:= .gT h0 hk hb hl hw';rw[gG];refine hd hh hw hs ?_;show W _ _ (ku _ (dw q p 0 kids)) w;rw[ku];split
  ·exact bt hh hw hs
  ·refine .gT h0 hk (by rw[po];exact hb) (by rw[po];exact hl) (λi x pt hx hp=>?_);rw[wC]at hx;obtain⟨k,hk',rfl⟩:=SZ.1 hx;exact ih i k pt hk' hp (fJ hw hs (bh hp)) rfl _
 | @map kids pt a w h0 hk hb hp w1 w2 i1 i2=>
  intro hw hs p;have hh:W c.l c.params ⟨24,w,0,[],a,kids.flatMap λq=>[q.1,q.2]⟩ w:= .map h0 hk hb hp w1 w2;rw[gG];refine hd hh hw hs ?_;show W _ _ (kv _ (dy q p none (kids.flatMap λq=>[q.1,q.2]))) w;rw[kv,BN];split
  ·exact bt hh hw hs
  ·refine .map h0 hk (nW (acr ..) hb) hp (λs hs'=>?_) (λs hs'=>?_)
   ·obtain⟨r,hr,rfl,_⟩:=Mm hs';exact w1 r hr
   ·obtain⟨r,hr,rfl,_⟩:=Mm hs';exact i2 r hr (fJ hw hs (bh hp)) rfl _
 |conn h1 h2 h3 h4=>exact lf (.conn h1 h2 h3 h4) (by simp;omega)
 |not h1 h2=>exact lf (.not h1 h2) (by simp)
 |less h1 h2 h3 h4=>exact lf (.less h1 h2 h3 h4) (by simp;omega)
 |equal h1 h2 h3 h4=>exact lf (.equal h1 h2 h3 h4) (by simp)
 |mC h1 h2 h3=>exact lf (.mC h1 h2 h3) (by simp)
 |mD h1 h2 h3 h4=>exact lf (.mD h1 h2 h3 h4) (by simp)
 |mE h1 h2 h3 h4=>exact lf (.mE h1 h2 h3 h4) (by simp)
 |jA h1 h2 h3 h4=>exact lf (.jA h1 h2 h3 h4) (by simp;omega)
 |field h1 h2 h3 h4 h5 h6=>exact lf (.field h1 h2 h3 h4 h5 h6) (by simp)
 |at_ h1 h2 h3 h4 h5 h6=>exact lf (.at_ h1 h2 h3 h4 h5 h6) (by simp)
 |flag h1 h2 h3=>exact lf (.flag h1 h2 h3) (by simp)
 |num h1 h2 h3=>exact lf (.num h1 h2 h3) (by simp)
 |iY h1 h2 h3 h4 h5=>exact lf (.iY h1 h2 h3 h4 h5) (by simp)
 |pair h1 h2 h3 h4 h5 h6=>exact lf (.pair h1 h2 h3 h4 h5 h6) (by simp)
 |one h1 h2 h3=>exact lf (.one h1 h2 h3) (by simp)
 |write h1 h2 h3 h4=>exact lf (.write h1 h2 h3 h4) (by simp)
 |size h1 h2 h3=>exact lf (.size h1 h2 h3) (by simp)
 |sum h1 h2 h3 h4 h5 h6=>exact lf (.sum h1 h2 h3 h4 h5 h6) (by simp)
 |lj h1 h2 h3 h4 h5=>
  refine lf (.lj h1 h2 h3 h4 h5) ?_;simp at h1⊢;omega
 |part h1 h2 h3 h4 h5 h6=>exact lf (.part h1 h2 h3 h4 h5 h6) (by simp;omega)
end
end Go.Proofs.YtnocmolegijmkaaGreat
end

section
namespace Go.Proofs.YtnocmolegijmkaaGreat
open Go Go.Bw
mutual
def qe:ab->Nat
 |⟨_,_,_,_,_,kids⟩=>1+jU kids
def jU:List ab->Nat
 |[]=>0
 |k::ks=>qe k+jU ks
end
theorem W6 (x:ab):qe x=1+jU x.Kids:=by cases x;rw[qe]
variable {q:ab->ab->Bool}
theorem Es {p:ab}:∀{ks:List ab},(cf q p ks).length=ks.length
 |[]=>by rw[cf]
 |k::ks=>by rw[cf,fu,Es,fu]
def pV (p:ab):Prop:=p.Op≠6/\p.Op≠16/\p.Op≠7/\p.Op≠25/\p.Op≠24
theorem V3 (p:ab) (i:Nat):pV (kh p i):=by simp[pV,kh]
theorem W7 (p k:ab):pV (dI p k):=by simp[pV,dI]
section
variable (hq:∀p e,q p e=true->p.Op=e.Op)
include hq
theorem BO {p e:ab} (hp:pV p):bE q p (fC e)=fC e:=by
 rw[Bg (by simp[fC]),bK];intro h;exact hp.1 (hq _ _ h)
theorem Mk {p:ab}:∀{ks:List ab} {i:Nat},(∀k∈ks,∀p,pV p->bE q p (bE q p k)=bE q p k)->dw q p i (dw q p i ks)=dw q p i ks
 |[],_,_=>by rw[dw,dw]
 |k::ks,i,h=>by
  rw[dw,dw,h k (by simp) _ (V3 p i),Mk (ks:=ks) λx hx=>h x (by simp[hx])]
theorem EN {p:ab}:∀{ks:List ab} {o:Option ab},(∀k∈ks,∀p,pV p->bE q p (bE q p k)=bE q p k)->dy q p none (dy q p o ks)=dy q p o ks
 |[],_,_=>by rw[dy,dy]
 |k::ks,none,h=>by
  have:=EN (p:=p) (ks:=ks) (o:=some k) λx hx=>h x (by simp[hx]);rw[show dy q p none (k::ks)=dy q p (some k) ks by rw[dy]];exact this
 |x::ks,some k,h=>by
  have h1:=EN (p:=p) (ks:=ks) (o:=none) λx hx=>h x (by simp[hx]);have h2:=h x (by simp) _ (W7 p k);rw[show dy q p (some k) (x::ks)=if(bE q (dI p k) x).Op=6 then dy q p none ks else k::bE q (dI p k) x::dy q p none ks by rw[dy]];split
  ·exact h1
  ·rename_i hn;rw[dy,dy,h2,bK hn,h1]
theorem acu:∀e p:ab,pV p->bE q p (bE q p e)=bE q p e:=by
 refine ab.ind λe ih=>λp hp=>?_;have nq:∀{e:ab},(e.Op=16\/e.Op=7\/e.Op=25\/e.Op=24)->¬q p e=true:=λh g=>by
  have:=hq _ _ g;have:=hp.2;omega
 have e0:=gG (q:=q) p e;by_cases c0:q p e=true
 ·rw[cj c0]at e0;rw[e0];exact BO hq hp
 rw[bK c0]at e0;by_cases c1:e.Op=16
 ·rw[cj c1]at e0;rw[e0];by_cases hk:∃x y,e.Kids=[x,y]
  ·obtain⟨x,y,hk⟩:=hk;have hx:=ih x (by rw[hk];simp) p hp;have hy:=ih y (by rw[hk];simp) p hp;rw[hk,cf,cf,cf,kt];split
   ·exact hy
   ·split
    ·exact hx
    ·rename_i h1 h2;rw[gG,bK (nq (e:=fT _ _) (.inl c1)),cj (show(fT e _).Op=16 from c1)];show kt _ (cf q p [bE q p x,bE q p y])=_;rw[cf,cf,cf,hx,hy,kt,bK h1,bK h2];rfl
  ·have hj:kt e (cf q p e.Kids)=e:=by
    have hl:=Es (q:=q) (p:=p) (ks:=e.Kids);unfold kt;split
    ·rename_i a b h;rw[h]at hl
     match hm:e.Kids,hl with
     |[x,y],_=>exact absurd ⟨x,y,hm⟩ hk
    ·rfl
   rw[hj]at e0⊢;exact e0
 rw[bK c1]at e0;by_cases c2:e.Op=7
 ·rw[cj c2]at e0;rw[e0];by_cases hk:∃c x y,e.Kids=[c,x,y]
  ·obtain⟨c,x,y,hk⟩:=hk;have hx:=ih x (by rw[hk];simp) p hp;have hy:=ih y (by rw[hk];simp) p hp;rw[hk,cf,cf,cf,cf,kr];split
   ·exact BO hq hp
   ·rename_i h1;rw[gG,bK (nq (e:=fT _ _) (.inr (.inl c2))),bK (show¬(fT e _).Op=16 from c1),cj (show(fT e _).Op=7 from c2)];show kr _ [c,bE q p x,bE q p y] (cf q p [c,bE q p x,bE q p y])=_;rw[cf,cf,cf,cf,hx,hy,kr,bK h1];rfl
  ·have hj:kr e e.Kids (cf q p e.Kids)=e:=by
    unfold kr;split
    ·rename_i h _;exact absurd ⟨_,_,_,h⟩ hk
    ·rfl
   rw[hj]at e0⊢;exact e0
 rw[bK c2]at e0;by_cases c3:e.Op=25
 ·rw[cj c3]at e0;rw[e0,ku];split
  ·exact BO hq hp
  ·rename_i h1;rw[gG,bK (nq (e:=fT _ _) (.inr (.inr (.inl c3)))),bK (show¬(fT e _).Op=16 from c1),bK (show¬(fT e _).Op=7 from c2),cj (show(fT e _).Op=25 from c3)];show ku _ (dw q p 0 (dw q p 0 e.Kids))=_;rw[Mk hq ih,ku,bK h1];rfl
 rw[bK c3]at e0;by_cases c4:e.Op=24
 ·rw[cj c4]at e0;rw[e0,kv];split
  ·exact BO hq hp
  ·rename_i h1;rw[gG,bK (nq (e:=fT _ _) (.inr (.inr (.inr c4)))),bK (show¬(fT e _).Op=16 from c1),bK (show¬(fT e _).Op=7 from c2),bK (show¬(fT e _).Op=25 from c3),cj (show(fT e _).Op=24 from c4)];show kv _ (dy q p none (dy q p none e.Kids))=_;rw[EN hq ih,kv,bK h1];rfl
 rw[bK c4]at e0;rw[e0,e0]
end
theorem Ml {B:Nat}:∀{l:List ab},ab.gu B l↔∀x∈l,x.ok B
 |[]=>by simp[ab.gu]
 |x::l=>by simp[ab.gu,Ml (l:=l)]
theorem Ca {B:Nat} {e:ab} (h:e.ok B):(fC e).ok B:=by
 rw[ab.cM]at h⊢;obtain⟨h1,h2,h3,h4,h5,h6,h7⟩:=h;exact⟨show(Lit.int IntKind.i64 6).wf=true by decide,h2,show(Lit.int IntKind.i64 0).wf=true by decide,by simp[fC],h5,by simp[fC],by simp[fC,ab.gu]⟩
theorem BP {B:Nat} {e:ab} {ks:List ab} (h:e.ok B) (hl:ks.length<=e.Kids.length) (hk:∀k∈ks,k.ok B):(fT e ks).ok B:=by
 rw[ab.cM]at h⊢;obtain⟨h1,h2,h3,h4,h5,h6,h7⟩:=h;exact⟨h1,h2,h3,h4,h5,nW hl h6,Ml.2 hk⟩
theorem Ff {B:Nat} {p:ab}:∀{ks:List ab} {o:Option ab},(∀k∈ks,k.ok B)->(∀k∈ks,∀p,(bE q p k).ok B)->(∀k,o=some k->k.ok B)->(dy q p o ks).length<=(o.toList++ks).length/\∀k∈dy q p o ks,k.ok B
 |[],_,_,_,_=>by rw[dy];simp
 |k::ks,none,h0,h,ho=>by
  have:=Ff (p:=p) (ks:=ks) (o:=some k) (λx hx=>h0 x (by simp[hx])) (λx hx=>h x (by simp[hx])) (λx hx=>by cases hx;exact h0 _ (by simp));rw[dy];exact this
 |x::ks,some k,h0,h,ho=>by
  obtain⟨h1,h2⟩:=Ff (p:=p) (ks:=ks) (o:=none) (λx hx=>h0 x (by simp[hx])) (λx hx=>h x (by simp[hx])) (λx hx=>by cases hx);have h1:(dy q p none ks).length<=ks.length:=h1;have h3:=h x (by simp) (dI p k);have h4:=ho k rfl;rw[dy];show _<=(k::x::ks).length/\_;split
  ·exact⟨by simp only[fu];omega,h2⟩
  ·refine⟨by simp only[fu];omega,λy hy=>?_⟩;simp only[cu]at hy;rcases hy with rfl|rfl|hy
   ·exact h4
   ·exact h3
   ·exact h2 y hy
theorem O3 {B:Nat}:∀e:ab,e.ok B->∀p,(bE q p e).ok B:=by
 refine ab.ind λe ih he=>λp=>?_;have hk:∀k∈e.Kids,k.ok B:=λk hk=>ab.gF ((ab.cM e).1 he).2.2.2.2.2.2 hk;have ih:∀k∈e.Kids,∀p,(bE q p k).ok B:=λk hm=>ih k hm (hk k hm);rw[gG];split
 ·exact Ca he
 split
 ·unfold kt;split
  ·rename_i a b h;have hl:=Es (q:=q) (p:=p) (ks:=e.Kids);rw[h]at hl
   match hm:e.Kids,hl with
   |[x,y],_=>
    rw[hm,cf,cf,cf]at h;cases h;have h1:=ih x (by rw[hm];simp) p;have h2:=ih y (by rw[hm];simp) p;split
    ·exact h2
    ·split
     ·exact h1
     ·exact BP he (by rw[hm];simp) (λk hk=>by simp at hk;rcases hk with rfl|rfl<;>assumption)
  ·exact he
 split
 ·unfold kr;split
  ·rename_i c x y c' a b hm h;rw[hm,cf,cf,cf,cf]at h;cases h;have h0:=hk c (by rw[hm];simp);have h1:=ih x (by rw[hm];simp) p;have h2:=ih y (by rw[hm];simp) p;split
   ·exact Ca he
   ·exact BP he (by rw[hm];simp) (λk hk=>by simp at hk;rcases hk with rfl|rfl|rfl<;>assumption)
  ·exact he
 split
 ·unfold ku;split
  ·exact Ca he
  ·refine BP he (by rw[po];exact bU _) λk hk'=>?_;obtain⟨j,hj⟩:=fR hk';rw[wC]at hj;obtain⟨x,hx,rfl⟩:=SZ.1 hj;exact ih x (bh hx) _
 split
 ·unfold kv;split
  ·exact Ca he
  ·obtain⟨h1,h2⟩:=Ff (q:=q) (p:=p) (ks:=e.Kids) (o:=none) hk ih (λk h=>by cases h);exact BP he h1 h2
 ·exact he
end Go.Proofs.YtnocmolegijmkaaGreat
end

section
namespace Go.Proofs.YtnocmolegijmkaaGreat
open Go Go.Bw
mutual
def nx:ab->ab
 |⟨op,t,n,tx,_,ks⟩=>⟨op,t,n,tx,0,gQ ks⟩
def gQ:List ab->List ab
 |[]=>[]
 |k::ks=>nx k::gQ ks
end
theorem wR:∀{l:List ab},(gQ l).length=l.length
 |[]=>rfl
 |k::ks=>by rw[gQ,fu,wR,fu]
noncomputable def bu (a b:ab):Bool:=cF (nx a) (nx b)
theorem Fh:∀{a b:List ab},a.length=b.length->(a.zip b).all (λq=>bu q.1 q.2)=cF (gQ a) (gQ b)
 |[],[],_=>by simp[cF]
 |x::a,y::b,h=>by
  rw[Aq,kx,Fh (by simpa using h)];apply mj;simp only[bG,nn,bu,gQ,ll]
theorem O5 {a b:ab}:bu a b=(a.Op==b.Op&&(cF a.aj b.aj&&(a.N==b.N&&(a.Text==b.Text&&cF (gQ a.Kids) (gQ b.Kids))))):=by
 symm;apply mj;cases a;cases b;simp only[bG,beq_iff_eq,nn,nx,ab.mk.injEq,true_and]
section
variable {B:Nat} (hB:B<=1048576)
include hB
theorem wi:∀a:ab,TT B a->∀b:ab,b.ok B->(vv Pu) a b=some (bu a b):=by
 refine ab.ind λa ih ha b hb=>?_;rw[ab.cM]at hb;obtain⟨_,_,_,_,_,hkl,hkk⟩:=hb;have hkids:(B0 Pu) a.Kids b.Kids=some (cF (gQ a.Kids) (gQ b.Kids)):=by
  rw[XV,xg];simp only[ab.aB];by_cases h:a.Kids.length=b.Kids.length
  ·have h0:((a.Kids.length:Int) !=(b.Kids.length:Int))=false:=by simp[h]
   rw[h0];show(sZ Pu) a.Kids b.Kids 0=_;rw[og (a:=a.Kids) (b:=b.Kids) (L:=(sZ Pu) a.Kids b.Kids) bu true h ?_ ?_]
   ·rw[oY,Fh h]
   ·intro i x y hx hy hi;rw[Ly,s6,ab.aB,mW (by omega)];have h1:decide ((i:Int)<(a.Kids.length:Int))=true:=by simpa using hi
    have hx':=bh hx;rw[h1,bc hx,bc hy];show(((vv Pu) x y).bind _)=_;rw[ih x hx' (ha.ez hx') y (ab.gF hkk (bh hy))];show(bif !(bu x y)then _ else _)=_;cases bu x y<;>rfl
   ·rw[Ly,s6,ab.aB];simp
  ·have h0:((a.Kids.length:Int) !=(b.Kids.length:Int))=true:=by simp;omega
   rw[h0];show some false=_;congr 1;exact mj (by constructor;intro e;cases e;intro e;have:=congrArg List.length e;rw[wR,wR]at this;exact absurd this h)
 have hty:(qp Pu) a.aj b.aj=some (cF a.aj b.aj):=by
  obtain⟨r,e,hr⟩:=wE (b:=b.aj) hB ha.ty.ok;rw[e,mj hr]
 rw[e50,zN,hkids,hty,O5];simp only[aq];generalize (a.Op==b.Op)=c1;generalize cF a.aj b.aj=c2;generalize (a.N==b.N)=c3;generalize (a.Text==b.Text)=c4;generalize cF (gQ a.Kids) (gQ b.Kids)=c5;cases c1<;>cases c2<;>cases c3<;>cases c4<;>cases c5<;>rfl
end
theorem AL (x:ab):(oT Pu) x=some (x.Op==6):=by rw[e53,zQ]
theorem qB (x:ab):(sx Pu) x=some (fC x):=by rw[e51,zO];rfl
theorem uk {p:ab} {i:Nat} {q:ah} (h:p.aj.ai.aw[i]? =some q):kh p i=⟨19,bN q,i,[],0,[p]⟩:=by rw[kh,h];rfl
theorem uI {p k:ab} {q:ah} (h:p.aj.ai.aw[0]? =some q):dI p k=⟨20,bN q,0,[],0,[p,k]⟩:=by rw[dI,h];rfl
theorem kO {B:Nat} {e k:ab} (h:e.ok B) (hk:k∈e.Kids):k.ok B:=ab.gF ((ab.cM e).1 h).2.2.2.2.2.2 hk
theorem X8 {B:Nat} {e:ab} (h:e.ok B):e.Kids.length<=B:=((ab.cM e).1 h).2.2.2.2.2.1
theorem Bf {l:List ab} {x:ab}:((l++[x]).all λk=>k.Op==6)=((l.all λk=>k.Op==6)&&(x.Op==6)):=by simp
theorem GP:∀{l:List (ab×ab)} {j:Nat} {q:ab×ab},l[j]? =some q->(l.flatMap λq=>[q.1,q.2])[2*j]? =some q.1/\(l.flatMap λq=>[q.1,q.2])[2*j+1]? =some q.2
 |a::l,0,q,h=>by
  simp only[mO,aE]at h;subst h;exact⟨rfl,rfl⟩
 |a::l,j+1,q,h=>by
  simp only[nX]at h;exact GP (l:=l) h
theorem LB {q:ab->ab->Bool} {p:ab} {l:List (ab×ab)} {r:ab×ab}:((jz q p (l++[r])).flatMap λs=>[s.1,s.2])=((jz q p l).flatMap λs=>[s.1,s.2])++if(bE q (dI p r.1) r.2).Op=6 then []else [r.1,bE q (dI p r.1) r.2]:=by
 rw[jz,List.filterMap_append,acq];congr 1;rw[List.filterMap_cons];split<;>rename_i h
 ·rw[cj (by split at h;assumption;cases h)];rfl
 ·split at h
  ·cases h
  ·rename_i hn;cases h;rw[bK hn];rfl
theorem Mj {q:ab->ab->Bool} {p:ab} {l:List (ab×ab)}:((jz q p l).flatMap λs=>[s.1,s.2]).length<=2*l.length:=by
 rw[oc _];have:=acr (λr:ab×ab=>if(bE q (dI p r.1) r.2).Op=6 then none else some (r.1,bE q (dI p r.1) r.2)) l;rw[jz];omega
section
variable {B:Nat} (hB:B<=1048576)
include hB
theorem Uv:∀x:ab,x.ok B->(zE Pu) x=some x:=by
 refine ab.ind λx ih hx=>?_;have hl:=X8 hx;rw[e26,vz];refine ag.of (eS (L:=λi s=>(rj Pu) x i s) (P:=(·=x)) (len:=x.Kids.length) (λi s=>s=x.Kids.take i) (λi s hi hI k=>?_) (λs hI=>?_) 0 [] (by omega) rfl)
 ·show ag ((rj Pu) x i s) _;obtain⟨y,hy⟩:=bg hi;have hm:=bh hy;have:decide (i<x.Kids.length)=true:=by simpa using hi
  rw[Oq,tZ,ab.aB,aU,this,aO,bc hy,aq,ih y hm (kO hx hm),aq,Ab (by rw[hI];simp;omega),aO,bO i (by omega)];exact k _ (by rw[hI,Ac hy])
 ·show ag ((rj Pu) x x.Kids.length s) _;have:decide (x.Kids.length<x.Kids.length)=false:=by simp
  rw[Oq,tZ,ab.aB,aU,this,a6,hI,jg];exact ag.ret (by cases x;rfl)
variable {c:bJ} (hc:CE B c)
include hc
theorem Vc {e:ab} {w:ay} (h:W c.l c.params e w):a7 B w->w.aK=0->e.ok B->TT B e->∀p,TT B p->p.aj=w->(kp Pu) p e=some (bE bu p e):=by
 have lf:∀{e:ab} {w:ay},(e.Op≠16/\e.Op≠7/\e.Op≠25/\e.Op≠24)->a7 B w->w.aK=0->e.ok B->TT B e->∀p,TT B p->p.aj=w->(kp Pu) p e=some (bE bu p e):=λ{e w} ho _ _ hok _ p hp _=>by
  have o1:(e.Op==16)=false:=by simpa using ho.1
  have o2:(e.Op==7)=false:=by simpa using ho.2.1
  have o3:(e.Op==25)=false:=by simpa using ho.2.2.1
  have o4:(e.Op==24)=false:=by simpa using ho.2.2.2
  rw[zT,oV,wi hB p hp e hok,Bg ho,o1,o2,o3,o4,qB];cases bu p e<;>rfl
 have hd:∀{p e r:ab} {o:Option ab},o=some r->(bif bu p e then(some (fC e)).bind λy=>some y else o)=some (if bu p e=true then fC e else r):=λ{p e r o} h=>by
  rw[h];cases bu p e<;>rfl
 induction h with
 |kY hn=>intro hw;rw[hw.eB]at hn;cases hn
 |kZ hn=>intro hw;rw[hw.eB]at hn;cases hn
 |kQ hn=>intro hw;rw[hw.eB]at hn;cases hn
 |kR hn=>intro hw;rw[hw.eB]at hn;cases hn
 | @iX cc x y a w hn wc wx wy ic ix iy=>
  intro hw hs hok ht p hp hpt;have hx:=ix hw hs (kO hok (by simp)) (ht.ez (by simp)) p hp hpt;have hy:=iy hw hs (kO hok (by simp)) (ht.ez (by simp)) p hp hpt;have i0:ao [cc,x,y] 0=some cc:=rfl;have i1:ao [cc,x,y] 1=some x:=rfl;have i2:ao [cc,x,y] 2=some y:=rfl;rw[zT,oV,wi hB p hp _ hok,gG,aq,qB];refine hd ?_;simp only[Int.reduceBEq,aO,a6,i0,i1,i2,aq,hx,hy,AL];show _=some (kr _ [cc,x,y] (cf bu p [cc,x,y]));rw[cf,cf,cf,cf,kr];by_cases h1:(bE bu p x).Op=6
  ·have h1':((bE bu p x).Op==6)=true:=by simpa using h1
   by_cases h2:(bE bu p y).Op=6
   ·have h2':((bE bu p y).Op==6)=true:=by simpa using h2
    rw[h1',h2',cj ⟨h1,h2⟩];rfl
   ·have h2':((bE bu p y).Op==6)=false:=by simpa using h2
    rw[h1',h2',bK (λh=>h2 h.2)];rfl
  ·have h1':((bE bu p x).Op==6)=false:=by simpa using h1
   rw[h1',bK (λh=>h1 h.1)];rfl
 | @jt x y a w hn hs' wx wy ix iy=>
  intro hw hs hok ht p hp hpt;have hx:=ix hw hs (kO hok (by simp)) (ht.ez (by simp)) p hp hpt;have hy:=iy hw hs (kO hok (by simp)) (ht.ez (by simp)) p hp hpt;have i0:ao [x,y] 0=some x:=rfl;have i1:ao [x,y] 1=some y:=rfl;rw[zT,oV,wi hB p hp _ hok,gG,aq,qB];refine hd ?_;simp only[Int.reduceBEq,aO,a6,i0,i1,aq,hx,hy,AL];show _=some (kt _ (cf bu p [x,y]));rw[cf,cf,cf,kt];by_cases h1:(bE bu p x).Op=6
  ·have h1':((bE bu p x).Op==6)=true:=by simpa using h1
   rw[h1',cj h1];rfl
  ·have h1':((bE bu p x).Op==6)=false:=by simpa using h1
   rw[h1',bK h1];by_cases h2:(bE bu p y).Op=6
   ·have h2':((bE bu p y).Op==6)=true:=by simpa using h2
    rw[h2',cj h2];rfl
   ·have h2':((bE bu p y).Op==6)=false:=by simpa using h2
    rw[h2',bK h2];rfl
 | @gT kids a w h0 hk6 hb hl wk ik=>
  intro hw hs hok ht p hp hpt;rw[zT,oV,wi hB p hp _ hok,gG,aq,qB];refine hd ?_;simp only[Int.reduceBEq,aO,a6];show _=some (ku _ (dw bu p 0 kids));generalize he:(⟨25,w,0,[],a,kids⟩:ab)=e at*
  have hkk:e.Kids=kids:=by rw[<-he]
  refine ag.of (eS (L:=λi (s:List ab×Bool)=>(pQ Pu) p e s.1 s.2 i) (P:=(·=ku e (dw bu p 0 kids))) (len:=kids.length) (λi s=>s.1=(dw bu p 0 kids).take i/\s.2=((dw bu p 0 kids).take i).all (·.Op==6)) (λi s hi hI k=>?_) (λs hI=>?_) 0 ([],true) (by omega) ⟨rfl,rfl⟩)
  ·show ag ((pQ Pu) p e s.1 s.2 i) _;obtain⟨x,hx⟩:=bg hi;obtain⟨pt,hq⟩:=bg (l:=w.ai.aw) (i:=i) (by omega);have hm:=bh hx;have wq:=fJ hw hs (bh hq);have hpq:p.aj.ai.aw[i]? =some pt:=by rw[hpt];exact hq
   have hf:TT B (kh p i):= .mk (by rw[uk hpq];exact wq) (λk hk=>by simp[kh]at hk;subst hk;exact hp);have ex:=ik i x pt hx hq wq rfl (kO hok (by rw[hkk];exact hm)) (ht.ez (by rw[hkk];exact hm)) (kh p i) hf (by rw[uk hpq]);have hg:(dw bu p 0 kids)[i]? =some (bE bu (kh p i) x):=by rw[wC,hx];simp
   have hlen:(dw bu p 0 kids).length=kids.length:=po _ _ _;have:decide (i<kids.length)=true:=by simpa using hi
   rw[Om,tX,ab.aB,hkk,aU,this,aO,bc hx,aq,bc hpq,aq,bO i (by omega)];rw[uk hpq]at ex hg;have ex:(kp Pu) {Op:=19,aj:={aK:=0,ai:=pt:ay},N:=(i:Int),Text:=[],At:=0,Kids:=[p]:ab} x=_:=ex;rw[ex,aq,AL,Ab (by rw[hI.1];simp;omega)];have e1:=Ac hg;have:=hI.2;cases hb2:s.2 with
   |true=>
    rw[hb2]at this;exact k (_,_) ⟨by show s.1++[_]=_;rw[hI.1];exact e1,by show _=List.all _ _;rw[<-e1,Bf,<-this];simp⟩
   |false=>
    rw[hb2]at this;exact k (_,_) ⟨by show s.1++[_]=_;rw[hI.1];exact e1,by show _=List.all _ _;rw[<-e1,Bf,<-this];simp⟩
  ·show ag ((pQ Pu) p e s.1 s.2 kids.length) _;have hlen:(dw bu p 0 kids).length=kids.length:=po _ _ _;rw[<-hlen,jg]at hI;have:decide (kids.length<kids.length)=false:=by simp
   rw[Om,tX,ab.aB,hkk,aU,this,a6,qB,hI.1];unfold ku;have h2:=hI.2;cases hb2:s.2 with
   |true=>rw[hb2]at h2;rw[cj h2.symm];exact ag.ret rfl
   |false=>rw[hb2]at h2;rw[bK (by rw[<-h2];simp)];exact ag.ret rfl
 | @map kids pt a w h0 hk5 hb hq wk wv i1 i2=>
  intro hw hs hok ht p hp hpt;rw[zT,oV,wi hB p hp _ hok,gG,aq,qB];refine hd ?_;simp only[Int.reduceBEq,aO,a6];show _=some (kv _ (dy bu p none (kids.flatMap λq=>[q.1,q.2])));rw[BN];have hK:(kids.flatMap λq=>[q.1,q.2]).length=2*kids.length:=oc _;generalize he:(⟨24,w,0,[],a,kids.flatMap λq=>[q.1,q.2]⟩:ab)=e at*
  have hkk:e.Kids=kids.flatMap λq=>[q.1,q.2]:=by rw[<-he]
  show(nA Pu) p e [] (2*((0:Nat):Int))=_;refine ag.of (eS (L:=λ(j:Int) s=>(nA Pu) p e s (2*j)) (P:=(·=kv e ((jz bu p kids).flatMap λr=>[r.1,r.2]))) (len:=kids.length) (λj s=>s=(jz bu p (kids.take j)).flatMap λr=>[r.1,r.2]) (λj s hj hI k=>?_) (λs hI=>?_) 0 [] (by omega) rfl)
  ·show ag ((nA Pu) p e s (2*(j:Int))) _;have k':∀b',b'=((jz bu p (kids.take (j+1))).flatMap λr=>[r.1,r.2])->ag ((nA Pu) p e b' (2*((j+1:Nat):Int))) _:=k;obtain⟨r,hr⟩:=bg hj;have fg:=GP hr;have m1:=bh fg.1;have m2:=bh fg.2;have wq:=fJ hw hs (bh hq);have hpq:p.aj.ai.aw[0]? =some pt:=by rw[hpt];exact hq
   have hf:TT B (dI p r.1):= .mk (by rw[uI hpq];exact wq) (λk hk=>by
    simp[dI]at hk;rcases hk with rfl|rfl
    ·exact hp
    ·exact ht.ez (by rw[hkk];exact m1))
   have ex:=i2 r (bh hr) wq rfl (kO hok (by rw[hkk];exact m2)) (ht.ez (by rw[hkk];exact m2)) (dI p r.1) hf (by rw[uI hpq]);have z2:IntKind.i64.wrap (((2*j:Nat):Int)+1)=((2*j+1:Nat):Int):=bO _ (by omega);have z3:IntKind.i64.wrap (((2*j:Nat):Int)+2)=2*((j+1:Nat):Int):=by rw[wrap64 (by omega) (by omega)];omega
   have hlt:decide (2*j<(kids.flatMap λq=>[q.1,q.2]).length)=true:=by rw[hK];simp;omega
   have hsl:s.length<=2*j:=by rw[hI];exact nW Mj (by rw[gw];omega)
   have e0:ao p.aj.ai.aw 0=some pt:=hpq;rw[show(2*(j:Int))=((2*j:Nat):Int)by omega,Oo,tY,ab.aB,hkk,aU,hlt,aO,z2,z3,e0,aq,bc fg.1,aq,bc fg.2,aq];have e1:=LB (q:=bu) (p:=p) (l:=kids.take j) (r:=r);rw[Ac hr,<-hI]at e1;have ex':(kp Pu) {Op:=20,aj:={aK:=0,ai:=pt:ay},N:=0,Text:=[],At:=0,Kids:=[p,r.1]:ab} r.2=some (bE bu (dI p r.1) r.2):=by
    rw[uI hpq]at ex⊢;exact ex
   rw[ex',aq,AL,aq];by_cases h6:(bE bu (dI p r.1) r.2).Op=6
   ·rw[cj h6,jd]at e1;rw[show((bE bu (dI p r.1) r.2).Op==6)=true by simpa using h6];exact k' _ e1.symm
   ·rw[bK h6]at e1;rw[show((bE bu (dI p r.1) r.2).Op==6)=false by simpa using h6,aq,Ab (by simp;omega)];exact k' _ e1.symm
  ·show ag ((nA Pu) p e s (2*(kids.length:Int))) _;rw[jg]at hI;have hlt:decide (2*kids.length<(kids.flatMap λq=>[q.1,q.2]).length)=false:=by rw[hK];simp
   rw[show(2*(kids.length:Int))=((2*kids.length:Nat):Int)by omega,Oo,tY,ab.aB,ab.aB,hkk,aU,hlt,a6,qB,<-hI];unfold kv;by_cases hn:s=[]
   ·rw[cj hn,hn];exact ag.ret rfl
   ·rw[bK hn,show((s.length:Int)==0)=false by simpa using hn];exact ag.ret rfl
 |lj h1 h2 h3 h4 h5=>exact lf (by simp at h1⊢;omega)
 |part h1 h2 h3 h4 h5 h6=>exact lf (by simp;omega)
 |conn h1 h2 h3 h4=>exact lf (by simp;omega)
 |less h1 h2 h3 h4=>exact lf (by simp;omega)
 |jA h1 h2 h3 h4=>exact lf (by simp;omega)
 |_=>exact lf (by simp)
