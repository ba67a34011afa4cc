/- Derivatives of expressions: without the program in sight. -/
import Derived.Test.YtnocmolegijmkaaGreatKVa9
set_option linter.all false
section
namespace Go.Proofs.YtnocmolegijmkaaGreat
open Go Go.Bw
theorem Ft {n m:Nat} (h:n<=m):decide (n<=m)=true:=by simpa using h
theorem Fu {D:Type} {l:List D} {i:Nat} {x:D} (h:l[i]? =some x):l.take i++[x]=l.take (i+1):=by rw[Nd,h];rfl
def fe (e:ab):ab:=⟨6,e.aq,0,[],e.At,[]⟩
def eC (e:ab) (ks:List ab):ab:=⟨e.Op,e.aq,e.N,e.Text,e.At,ks⟩
def k6 (p:ab) (i:Nat):ab:=⟨19,bY ((p.aq.aw.aB[i]?).getD l0),i,[],0,[p]⟩
def dV (p k:ab):ab:=⟨20,bY ((p.aq.aw.aB[0]?).getD l0),0,[],0,[p,k]⟩
def jt (e:ab):List ab->ab
 |[a,b]=>if a.Op=6 then b else if b.Op=6 then a else eC e [a,b]
 |_=>e
def jq (e:ab):List ab->List ab->ab
 |[c,_,_],[_,a,b]=>if a.Op=6/\b.Op=6 then fe e else eC e [c,a,b]
 |_,_=>e
def jS (e:ab) (ks:List ab):ab:=if ks.all (·.Op==6)then fe e else eC e ks
def jT (e:ab) (ks:List ab):ab:=if ks=[]then fe e else eC e ks
mutual
def bM (q:ab->ab->Bool):ab->ab->ab
 |p,⟨op,t,n,tx,a,kids⟩=>
  if q p ⟨op,t,n,tx,a,kids⟩=true then fe ⟨op,t,n,tx,a,kids⟩
  else if op=16 then jt ⟨op,t,n,tx,a,kids⟩ (bV q p kids)
  else if op=7 then jq ⟨op,t,n,tx,a,kids⟩ kids (bV q p kids)
  else if op=25 then jS ⟨op,t,n,tx,a,kids⟩ (du q p 0 kids)
  else if op=24 then jT ⟨op,t,n,tx,a,kids⟩ (cH q p none kids)
  else⟨op,t,n,tx,a,kids⟩
termination_by _ e=>SizeOf.sizeOf e
def bV (q:ab->ab->Bool):ab->List ab->List ab
 |_,[]=>[]
 |p,k::ks=>bM q p k::bV q p ks
termination_by _ ks=>SizeOf.sizeOf ks
def du (q:ab->ab->Bool):ab->Nat->List ab->List ab
 |_,_,[]=>[]
 |p,i,k::ks=>bM q (k6 p i) k::du q p (i+1) ks
termination_by _ _ ks=>SizeOf.sizeOf ks
def cH (q:ab->ab->Bool):ab->Option ab->List ab->List ab
 |_,_,[]=>[]
 |p,none,k::ks=>cH q p (some k) ks
 |p,some k,x::ks=>if(bM q (dV p k) x).Op=6 then cH q p none ks else k::bM q (dV p k) x::cH q p none ks
termination_by _ _ ks=>SizeOf.sizeOf ks
end
variable {q:ab->ab->Bool}
theorem gS (p e:ab):bM q p e=if q p e=true then fe e else if e.Op=16 then jt e (bV q p e.Kids)else if e.Op=7 then jq e e.Kids (bV q p e.Kids)else if e.Op=25 then jS e (du q p 0 e.Kids)else if e.Op=24 then jT e (cH q p none e.Kids)else e:=by
 cases e;rw[bM]
theorem Be {p e:ab} (h:e.Op≠16/\e.Op≠7/\e.Op≠25/\e.Op≠24):bM q p e=if q p e=true then fe e else e:=by
 rw[gS,bI h.1,bI h.2.1,bI h.2.2.1,bI h.2.2.2]
theorem qz:∀(ks:List ab) (p:ab) (i:Nat),(du q p i ks).length=ks.length
 |[],_,_=>by rw[du]
 |k::ks,p,i=>by rw[du,eG,qz,eG]
theorem wJ:∀(ks:List ab) (p:ab) (i j:Nat),(du q p i ks)[j]? =(ks[j]?).map λk=>bM q (k6 p (i+j)) k
 |[],_,_,_=>by rw[du];rfl
 |k::ks,p,i,0=>by rw[du];rfl
 |k::ks,p,i,j+1=>by
  rw[du,mS,wJ ks,mS,show i+1+j=i+(j+1)by omega]
def kt (q:ab->ab->Bool) (p:ab) (qs:List (ab×ab)):List (ab×ab):=qs.filterMap λr=>if(bM q (dV p r.1) r.2).Op=6 then none else some (r.1,bM q (dV p r.1) r.2)
theorem BC:∀(qs:List (ab×ab)) (p:ab),cH q p none (qs.flatMap λr=>[r.1,r.2])=(kt q p qs).flatMap λr=>[r.1,r.2]
 |[],_=>by rw[MS,cH];rfl
 |r::qs,p=>by
  rw[vu,iO,iO,vz,cH,cH,BC qs];by_cases h:(bM q (dV p r.1) r.2).Op=6
  ·rw[ck h];simp[kt,h]
  ·rw[bI h];simp[kt,h]
theorem HU {p:ab} {qs:List (ab×ab)} {s:ab×ab} (h:s∈kt q p qs):∃r∈qs,s=(r.1,bM q (dV p r.1) r.2)/\(bM q (dV p r.1) r.2).Op≠6:=by
 obtain⟨r,hr,e⟩:=M3.1 h;split at e
 ·cases e
 ·rename_i hn;cases e;exact⟨r,hr,rfl,hn⟩
section
variable {B:Nat} {c:bm} (hc:CE B c)
include hc
theorem VV {x:ab} {w:ay} (h:W c.l c.params x w) (hn:isNone w=false):x.aq=w:=by
 have no:∀{P:Prop},isNone w=true->P:=λe=>by rw[e]at hn;cases hn
 have fe:∀{t:ay},Fit w t->t=w:=λh=>(h hn).symm;cases h<;>first|rfl|(apply fe;assumption)|(apply no;assumption)
theorem T0 {e:ab} {w:ay} (h:W c.l c.params e w):a7 B w->w.aL=0->∀p,W c.l c.params (bM q p e) w:=by
 have bt:∀{e:ab} {w:ay},W c.l c.params e w->a7 B w->w.aL=0->W c.l c.params (fe e) w:=λh hw hs=>by
  rw[fe,VV hc h hw.fJ];exact .iq hs hw.fJ
 have lf:∀{e:ab} {w:ay},W c.l c.params e w->(e.Op≠16/\e.Op≠7/\e.Op≠25/\e.Op≠24)->a7 B w->w.aL=0->∀p,W c.l c.params (bM q p e) w:=λh ho hw hs p=>by
  rw[Be ho];split
  ·exact bt h hw hs
  ·exact h
 have hd:∀{e:ab} {w:ay} {r p:ab},W c.l c.params e w->a7 B w->w.aL=0->W c.l c.params r w->W c.l c.params (if q p e=true then fe e else r) w:=λh hw hs hr=>by
  split
  ·exact bt h hw hs
  ·exact hr
 induction h with
 |int h1 h2 h3=>exact lf (.int h1 h2 h3) (by simp)
 |bool h1 h2=>exact lf (.bool h1 h2) (by simp)
 |name h1 h2=>exact lf (.name h1 h2) (by simp)
 |param h1 h2=>exact lf (.param h1 h2) (by simp)
 |state h1=>exact lf (.state h1) (by simp)
 |iq h1 h2=>exact lf (.iq h1 h2) (by simp)
 |ku hn=>intro hw;rw[hw.fJ]at hn;cases hn
 |kv hn=>intro hw;rw[hw.fJ]at hn;cases hn
 |kj hn=>intro hw;rw[hw.fJ]at hn;cases hn
 |km hn=>intro hw;rw[hw.fJ]at hn;cases hn
 | @iH cc x y a w hn wc wx wy ic ix iy=>
  intro hw hs p;rw[gS];refine hd (.iH hn wc wx wy) hw hs ?_;show W _ _ (jq _ [cc,x,y] (bV q p [cc,x,y])) w;rw[bV,bV,bV,bV,jq];split
  ·exact bt (.iH (a:=a) hn wc wx wy) hw hs
  ·exact .iH hn wc (ix hw hs p) (iy hw hs p)
 | @jb x y a w hn hs' wx wy ix iy=>
  intro hw hs p;rw[gS];refine hd (.jb hn hs' wx wy) hw hs ?_;show W _ _ (jt _ (bV q p [x,y])) w;rw[bV,bV,bV,jt];split
  ·exact iy hw hs p
  ·split
   ·exact ix hw hs p
   ·exact .jb hn hs' (ix hw hs p) (iy hw hs p)
 | @gG kids a w h0 hk hb hl hw' ih=>
  intro hw hs p;have hh:W c.l c.params ⟨25,w,0,[],a,kids⟩ w:= .gG h0 hk hb hl hw';rw[gS];refine hd hh hw hs ?_;show W _ _ (jS _ (du q p 0 kids)) w;rw[jS];split
  ·exact bt hh hw hs
  ·refine .gG h0 hk (by rw[qz];exact hb) (by rw[qz];exact hl) (λi x pt hx hp=>?_);rw[wJ]at hx;obtain⟨k,hk',rfl⟩:=MV.1 hx;exact ih i k pt hk' hp (gP hw hs (br hp)) rfl _
 | @map kids pt a w h0 hk hb hp w1 w2 i1 i2=>
  intro hw hs p;have hh:W c.l c.params ⟨24,w,0,[],a,kids.flatMap λq=>[q.1,q.2]⟩ w:= .map h0 hk hb hp w1 w2;rw[gS];refine hd hh hw hs ?_;show W _ _ (jT _ (cH q p none (kids.flatMap λq=>[q.1,q.2]))) w;rw[jT,BC];split
  ·exact bt hh hw hs
  ·refine .map h0 hk (mR (Yb ..) hb) hp (λs hs'=>?_) (λs hs'=>?_)
   ·obtain⟨r,hr,rfl,_⟩:=HU hs';exact w1 r hr
   ·obtain⟨r,hr,rfl,_⟩:=HU hs';exact i2 r hr (gP hw hs (br hp)) rfl _
 |conn h1 h2 h3 h4=>exact lf (.conn h1 h2 h3 h4) (by simp;omega)
 |not h1 h2=>exact lf (.not h1 h2) (by simp)
 |less h1 h2 h3 h4=>exact lf (.less h1 h2 h3 h4) (by simp;omega)
 |equal h1 h2 h3 h4=>exact lf (.equal h1 h2 h3 h4) (by simp)
 |k7 h1 h2 h3=>exact lf (.k7 h1 h2 h3) (by simp)
 |k8 h1 h2 h3 h4=>exact lf (.k8 h1 h2 h3 h4) (by simp)
 |k9 h1 h2 h3 h4=>exact lf (.k9 h1 h2 h3 h4) (by simp)
 |ji h1 h2 h3 h4=>exact lf (.ji h1 h2 h3 h4) (by simp;omega)
 |field h1 h2 h3 h4 h5 h6=>exact lf (.field h1 h2 h3 h4 h5 h6) (by simp)
 |at_ h1 h2 h3 h4 h5 h6=>exact lf (.at_ h1 h2 h3 h4 h5 h6) (by simp)
 |flag h1 h2 h3=>exact lf (.flag h1 h2 h3) (by simp)
 |num h1 h2 h3=>exact lf (.num h1 h2 h3) (by simp)
 |gW h1 h2 h3 h4 h5=>exact lf (.gW h1 h2 h3 h4 h5) (by simp)
 |pair h1 h2 h3 h4 h5 h6=>exact lf (.pair h1 h2 h3 h4 h5 h6) (by simp)
 |one h1 h2 h3=>exact lf (.one h1 h2 h3) (by simp)
 |write h1 h2 h3 h4=>exact lf (.write h1 h2 h3 h4) (by simp)
 |size h1 h2 h3=>exact lf (.size h1 h2 h3) (by simp)
 |sum h1 h2 h3 h4 h5 h6=>exact lf (.sum h1 h2 h3 h4 h5 h6) (by simp)
 |kE h1 h2 h3 h4 h5=>
  refine lf (.kE h1 h2 h3 h4 h5) ?_;simp at h1⊢;omega
 |part h1 h2 h3 h4 h5 h6=>exact lf (.part h1 h2 h3 h4 h5 h6) (by simp;omega)
end
end Go.Proofs.YtnocmolegijmkaaGreat
end

section
namespace Go.Proofs.YtnocmolegijmkaaGreat
open Go Go.Bw
mutual
def cM:ab->Nat
 |⟨_,_,_,_,_,kids⟩=>1+cd kids
def cd:List ab->Nat
 |[]=>0
 |k::ks=>cM k+cd ks
end
theorem iV (x:ab):cM x=1+cd x.Kids:=by cases x;rw[cM]
variable {q:ab->ab->Bool}
theorem AS {p:ab}:∀{ks:List ab},(bV q p ks).length=ks.length
 |[]=>by rw[bV]
 |k::ks=>by rw[bV,eG,AS,eG]
theorem QV {e:ab} {ks:List ab} (h:cd ks<=cd e.Kids):cM (jt e ks)<=cM e:=by
 unfold jt;split
 ·simp only[cd]at h;rw[iV e];split
  ·omega
  ·split
   ·omega
   ·rw[iV];simp only[eC,cd];omega
 ·exact bC _
theorem xi {e:ab}:cM (fe e)<=cM e:=by rw[iV,iV e];simp[fe,cd]
theorem QW {e:ab} {ks:List ab} (h:cd ks<=cd e.Kids) (hc:∀c x y c' a b,e.Kids=[c,x,y]->ks=[c',a,b]->cM a<=cM x/\cM b<=cM y):cM (jq e e.Kids ks)<=cM e:=by
 rw[iV e];unfold jq;split
 ·rename_i c x y c' a b e1;have:=hc _ _ _ _ _ _ e1 rfl;split
  ·have:= @xi e;rw[iV e]at this;exact this
  ·rw[iV];simp only[eC,cd,e1];omega
 ·rw[iV e];omega
theorem QX {e:ab} {ks:List ab} (h:cd ks<=cd e.Kids):cM (jS e ks)<=cM e:=by
 unfold jS;split
 ·exact xi
 ·rw[iV,iV e];simp only[eC];omega
theorem QY {e:ab} {ks:List ab} (h:cd ks<=cd e.Kids):cM (jT e ks)<=cM e:=by
 unfold jT;split
 ·exact xi
 ·rw[iV,iV e];simp only[eC];omega
theorem HP {p:ab}:∀{ks:List ab},(∀k∈ks,cM (bM q p k)<=cM k)->cd (bV q p ks)<=cd ks
 |[],_=>by rw[bV];exact bC _
 |k::ks,h=>by
  have:=HP (p:=p) (ks:=ks) λx hx=>h x (by simp[hx]);have:=h k (by simp);rw[bV,cd,cd];omega
theorem HQ {p:ab}:∀{ks:List ab} {i:Nat},(∀k∈ks,∀p,cM (bM q p k)<=cM k)->cd (du q p i ks)<=cd ks
 |[],_,_=>by rw[du];exact bC _
 |k::ks,i,h=>by
  have:=HQ (p:=p) (ks:=ks) (i:=i+1) λx hx=>h x (by simp[hx]);have:=h k (by simp) (k6 p i);rw[du,cd,cd];omega
theorem Bf {p:ab}:∀{ks:List ab} {o:Option ab},(∀k∈ks,∀p,cM (bM q p k)<=cM k)->cd (cH q p o ks)<=cd (o.toList++ks)
 |[],_,_=>by rw[cH];exact mP _
 |k::ks,none,h=>by
  have:=Bf (p:=p) (ks:=ks) (o:=some k) λx hx=>h x (by simp[hx]);rw[cH];exact this
 |x::ks,some k,h=>by
  have h1:=Bf (p:=p) (ks:=ks) (o:=none) λx hx=>h x (by simp[hx]);have h2:=h x (by simp) (dV p k);have h1:cd (cH q p none ks)<=cd ks:=h1;rw[cH];show _<=cd (k::x::ks);simp only[cd];split
  ·omega
  ·simp only[cd];omega
theorem QR:∀e p:ab,cM (bM q p e)<=cM e:=by
 refine ab.ind λe ih=>λp=>?_;have hL:=HP (q:=q) (p:=p) (ks:=e.Kids) λk hk=>ih k hk p;rw[gS];split
 ·exact xi
 split
 ·exact QV hL
 split
 ·refine QW hL λc x y c' a b h1 h2=>?_;rw[h1,bV,bV,bV,bV]at h2;cases h2;exact⟨ih x (by rw[h1];simp) p,ih y (by rw[h1];simp) p⟩
 split
 ·exact QX (HQ λk hk=>ih k hk)
 split
 ·exact QY (Bf λk hk=>ih k hk)
 ·exact bC _
def lP (p:ab):Prop:=p.Op≠6/\p.Op≠16/\p.Op≠7/\p.Op≠25/\p.Op≠24
theorem PY (p:ab) (i:Nat):lP (k6 p i):=by simp[lP,k6]
theorem QZ (p k:ab):lP (dV p k):=by simp[lP,dV]
section
variable (hq:∀p e,q p e=true->p.Op=e.Op)
include hq
theorem xj {p e:ab} (hp:lP p):bM q p (fe e)=fe e:=by
 rw[Be (by simp[fe]),bI];intro h;exact hp.1 (hq _ _ h)
theorem HR {p:ab}:∀{ks:List ab} {i:Nat},(∀k∈ks,∀p,lP p->bM q p (bM q p k)=bM q p k)->du q p i (du q p i ks)=du q p i ks
 |[],_,_=>by rw[du,du]
 |k::ks,i,h=>by
  rw[du,du,h k (by simp) _ (PY p i),HR (ks:=ks) λx hx=>h x (by simp[hx])]
theorem Bg {p:ab}:∀{ks:List ab} {o:Option ab},(∀k∈ks,∀p,lP p->bM q p (bM q p k)=bM q p k)->cH q p none (cH q p o ks)=cH q p o ks
 |[],_,_=>by rw[cH,cH]
 |k::ks,none,h=>by
  have:=Bg (p:=p) (ks:=ks) (o:=some k) λx hx=>h x (by simp[hx]);rw[show cH q p none (k::ks)=cH q p (some k) ks by rw[cH]];exact this
 |x::ks,some k,h=>by
  have h1:=Bg (p:=p) (ks:=ks) (o:=none) λx hx=>h x (by simp[hx]);have h2:=h x (by simp) _ (QZ p k);rw[show cH q p (some k) (x::ks)=if(bM q (dV p k) x).Op=6 then cH q p none ks else k::bM q (dV p k) x::cH q p none ks by rw[cH]];split
  ·exact h1
  ·rename_i hn;rw[cH,cH,h2,bI hn,h1]
theorem QT:∀e p:ab,lP p->bM q p (bM q p e)=bM q p e:=by
 refine ab.ind λe ih=>λp hp=>?_;have nq:∀{e:ab},(e.Op=16\/e.Op=7\/e.Op=25\/e.Op=24)->¬q p e=true:=λh g=>by
  have:=hq _ _ g;have:=hp.2;omega
 have e0:=gS (q:=q) p e;by_cases c0:q p e=true
 ·rw[ck c0]at e0;rw[e0];exact xj hq hp
 rw[bI c0]at e0;by_cases c1:e.Op=16
 ·rw[ck c1]at e0;rw[e0];by_cases hk:∃x y,e.Kids=[x,y]
  ·obtain⟨x,y,hk⟩:=hk;have hx:=ih x (by rw[hk];simp) p hp;have hy:=ih y (by rw[hk];simp) p hp;rw[hk,bV,bV,bV,jt];split
   ·exact hy
   ·split
    ·exact hx
    ·rename_i h1 h2;rw[gS,bI (nq (e:=eC _ _) (.inl c1)),ck (show(eC e _).Op=16 from c1)];show jt _ (bV q p [bM q p x,bM q p y])=_;rw[bV,bV,bV,hx,hy,jt,bI h1,bI h2];rfl
  ·have hj:jt e (bV q p e.Kids)=e:=by
    have hl:=AS (q:=q) (p:=p) (ks:=e.Kids);unfold jt;split
    ·rename_i a b h;rw[h]at hl
     match hm:e.Kids,hl with
     |[x,y],_=>exact absurd ⟨x,y,hm⟩ hk
    ·rfl
   rw[hj]at e0⊢;exact e0
 rw[bI c1]at e0;by_cases c2:e.Op=7
 ·rw[ck c2]at e0;rw[e0];by_cases hk:∃c x y,e.Kids=[c,x,y]
  ·obtain⟨c,x,y,hk⟩:=hk;have hx:=ih x (by rw[hk];simp) p hp;have hy:=ih y (by rw[hk];simp) p hp;rw[hk,bV,bV,bV,bV,jq];split
   ·exact xj hq hp
   ·rename_i h1;rw[gS,bI (nq (e:=eC _ _) (.inr (.inl c2))),bI (show¬(eC e _).Op=16 from c1),ck (show(eC e _).Op=7 from c2)];show jq _ [c,bM q p x,bM q p y] (bV q p [c,bM q p x,bM q p y])=_;rw[bV,bV,bV,bV,hx,hy,jq,bI h1];rfl
  ·have hj:jq e e.Kids (bV q p e.Kids)=e:=by
    unfold jq;split
    ·rename_i h _;exact absurd ⟨_,_,_,h⟩ hk
    ·rfl
   rw[hj]at e0⊢;exact e0
 rw[bI c2]at e0;by_cases c3:e.Op=25
 ·rw[ck c3]at e0;rw[e0,jS];split
  ·exact xj hq hp
  ·rename_i h1;rw[gS,bI (nq (e:=eC _ _) (.inr (.inr (.inl c3)))),bI (show¬(eC e _).Op=16 from c1),bI (show¬(eC e _).Op=7 from c2),ck (show(eC e _).Op=25 from c3)];show jS _ (du q p 0 (du q p 0 e.Kids))=_;rw[HR hq ih,jS,bI h1];rfl
 rw[bI c3]at e0;by_cases c4:e.Op=24
 ·rw[ck c4]at e0;rw[e0,jT];split
  ·exact xj hq hp
  ·rename_i h1;rw[gS,bI (nq (e:=eC _ _) (.inr (.inr (.inr c4)))),bI (show¬(eC e _).Op=16 from c1),bI (show¬(eC e _).Op=7 from c2),bI (show¬(eC e _).Op=25 from c3),ck (show(eC e _).Op=24 from c4)];show jT _ (cH q p none (cH q p none e.Kids))=_;rw[Bg hq ih,jT,bI h1];rfl
 rw[bI c4]at e0;rw[e0,e0]
end
theorem HT {B:Nat}:∀{l:List ab},ab.fS B l↔∀x∈l,x.ok B
 |[]=>by simp[ab.fS]
 |x::l=>by simp[ab.fS,HT (l:=l)]
theorem xF {B:Nat} {e:ab} (h:e.ok B):(fe e).ok B:=by
 rw[ab.cY]at h⊢;obtain⟨h1,h2,h3,h4,h5,h6,h7⟩:=h;exact⟨show(Lit.int IntKind.i64 6).wf=true by decide,h2,show(Lit.int IntKind.i64 0).wf=true by decide,by simp[fe],h5,by simp[fe],by simp[fe,ab.fS]⟩
theorem xk {B:Nat} {e:ab} {ks:List ab} (h:e.ok B) (hl:ks.length<=e.Kids.length) (hk:∀k∈ks,k.ok B):(eC e ks).ok B:=by
 rw[ab.cY]at h⊢;obtain⟨h1,h2,h3,h4,h5,h6,h7⟩:=h;exact⟨h1,h2,h3,h4,h5,mR hl h6,HT.2 hk⟩
theorem BD {B:Nat} {p:ab}:∀{ks:List ab} {o:Option ab},(∀k∈ks,k.ok B)->(∀k∈ks,∀p,(bM q p k).ok B)->(∀k,o=some k->k.ok B)->(cH q p o ks).length<=(o.toList++ks).length/\∀k∈cH q p o ks,k.ok B
 |[],_,_,_,_=>by rw[cH];simp
 |k::ks,none,h0,h,ho=>by
  have:=BD (p:=p) (ks:=ks) (o:=some k) (λx hx=>h0 x (by simp[hx])) (λx hx=>h x (by simp[hx])) (λx hx=>by cases hx;exact h0 _ (by simp));rw[cH];exact this
 |x::ks,some k,h0,h,ho=>by
  obtain⟨h1,h2⟩:=BD (p:=p) (ks:=ks) (o:=none) (λx hx=>h0 x (by simp[hx])) (λx hx=>h x (by simp[hx])) (λx hx=>by cases hx);have h1:(cH q p none ks).length<=ks.length:=h1;have h3:=h x (by simp) (dV p k);have h4:=ho k rfl;rw[cH];show _<=(k::x::ks).length/\_;split
  ·exact⟨by simp only[eG];omega,h2⟩
  ·refine⟨by simp only[eG];omega,λy hy=>?_⟩;simp only[cu]at hy;rcases hy with rfl|rfl|hy
   ·exact h4
   ·exact h3
   ·exact h2 y hy
theorem JY {B:Nat}:∀e:ab,e.ok B->∀p,(bM q p e).ok B:=by
 refine ab.ind λe ih he=>λp=>?_;have hk:∀k∈e.Kids,k.ok B:=λk hk=>ab.gO ((ab.cY e).1 he).2.2.2.2.2.2 hk;have ih:∀k∈e.Kids,∀p,(bM q p k).ok B:=λk hm=>ih k hm (hk k hm);rw[gS];split
 ·exact xF he
 split
 ·unfold jt;split
  ·rename_i a b h;have hl:=AS (q:=q) (p:=p) (ks:=e.Kids);rw[h]at hl
   match hm:e.Kids,hl with
   |[x,y],_=>
    rw[hm,bV,bV,bV]at h;cases h;have h1:=ih x (by rw[hm];simp) p;have h2:=ih y (by rw[hm];simp) p;split
    ·exact h2
    ·split
     ·exact h1
     ·exact xk he (by rw[hm];simp) (λk hk=>by simp at hk;rcases hk with rfl|rfl<;>assumption)
  ·exact he
 split
 ·unfold jq;split
  ·rename_i c x y c' a b hm h;rw[hm,bV,bV,bV,bV]at h;cases h;have h0:=hk c (by rw[hm];simp);have h1:=ih x (by rw[hm];simp) p;have h2:=ih y (by rw[hm];simp) p;split
   ·exact xF he
   ·exact xk he (by rw[hm];simp) (λk hk=>by simp at hk;rcases hk with rfl|rfl|rfl<;>assumption)
  ·exact he
 split
 ·unfold jS;split
  ·exact xF he
  ·refine xk he (by rw[qz];exact bC _) λk hk'=>?_;obtain⟨j,hj⟩:=jW hk';rw[wJ]at hj;obtain⟨x,hx,rfl⟩:=MV.1 hj;exact ih x (br hx) _
 split
 ·unfold jT;split
  ·exact xF he
  ·obtain⟨h1,h2⟩:=BD (q:=q) (p:=p) (ks:=e.Kids) (o:=none) hk ih (λk h=>by cases h);exact xk he h1 h2
 ·exact he
end Go.Proofs.YtnocmolegijmkaaGreat
end

section
namespace Go.Proofs.YtnocmolegijmkaaGreat
open Go Go.Bw
mutual
def nx:ab->ab
 |⟨op,t,n,tx,_,ks⟩=>⟨op,t,n,tx,0,jU ks⟩
def jU:List ab->List ab
 |[]=>[]
 |k::ks=>nx k::jU ks
end
theorem BH:∀{l:List ab},(jU l).length=l.length
 |[]=>rfl
 |k::ks=>by rw[jU,eG,BH,eG]
noncomputable def cp (a b:ab):Bool:=cB (nx a) (nx b)
theorem I0:∀{a b:List ab},a.length=b.length->(a.zip b).all (λq=>cp q.1 q.2)=cB (jU a) (jU b)
 |[],[],_=>by simp[cB]
 |x::a,y::b,h=>by
  rw[vE,jw,I0 (by simpa using h)];apply lQ;simp only[bj,mq,cp,jU,jV]
theorem RY {a b:ab} (h:cp a b=true):a.Op=b.Op:=by
 have h:=mq.1 h;cases a;cases b;simp only[nx,ab.mk.injEq]at h;exact h.1
theorem R2 {a b:ab}:cp a b=(a.Op==b.Op&&(cB a.aq b.aq&&(a.N==b.N&&(a.Text==b.Text&&cB (jU a.Kids) (jU b.Kids))))):=by
 symm;apply lQ;cases a;cases b;simp only[bj,beq_iff_eq,mq,nx,ab.mk.injEq,true_and]
section
variable {B:Nat} (hB:B<=1048576)
include hB
theorem sP:∀a:ab,TT B a->∀b:ab,b.ok B->(si Pu) a b=some (cp a b):=by
 refine ab.ind λa ih ha b hb=>?_;rw[ab.cY]at hb;obtain⟨_,_,_,_,_,hkl,hkk⟩:=hb;have hkids:(xz Pu) a.Kids b.Kids=some (cB (jU a.Kids) (jU b.Kids)):=by
  rw[RI,tP];simp only[ab.aH];by_cases h:a.Kids.length=b.Kids.length
  ·have h0:((a.Kids.length:Int) !=(b.Kids.length:Int))=false:=by simp[h]
   rw[h0];show(qp Pu) a.Kids b.Kids 0=_;rw[mZ (a:=a.Kids) (b:=b.Kids) (L:=(qp Pu) a.Kids b.Kids) cp true h ?_ ?_]
   ·rw[od,I0 h]
   ·intro i x y hx hy hi;rw[G9,qq,ab.aH,mm (by omega)];have h1:decide ((i:Int)<(a.Kids.length:Int))=true:=by simpa using hi
    have hx':=br hx;rw[h1,bw hx,bw hy];show(((si Pu) x y).bind _)=_;rw[ih x hx' (ha.fT hx') y (ab.gO hkk (br hy))];show(bif !(cp x y)then _ else _)=_;cases cp x y<;>rfl
   ·rw[G9,qq,ab.aH];simp
  ·have h0:((a.Kids.length:Int) !=(b.Kids.length:Int))=true:=by simp;omega
   rw[h0];show some false=_;congr 1;exact lQ (by constructor;intro e;cases e;intro e;have:=congrArg List.length e;rw[BH,BH]at this;exact absurd this h)
 have hty:(n9 Pu) a.aq b.aq=some (cB a.aq b.aq):=by
  obtain⟨r,e,hr⟩:=wL (b:=b.aq) hB ha.ty.ok;rw[e,lQ hr]
 rw[XE,vi,hkids,hty,R2];simp only[aE];generalize (a.Op==b.Op)=c1;generalize cB a.aq b.aq=c2;generalize (a.N==b.N)=c3;generalize (a.Text==b.Text)=c4;generalize cB (jU a.Kids) (jU b.Kids)=c5;cases c1<;>cases c2<;>cases c3<;>cases c4<;>cases c5<;>rfl
end
theorem vU (x:ab):(mK Pu) x=some (x.Op==6):=by rw[XG,vk]
theorem ow (x:ab):(pP Pu) x=some (fe x):=by rw[XF,vj];rfl
theorem BU {p:ab} {i:Nat} {q:ai} (h:p.aq.aw.aB[i]? =some q):k6 p i=⟨19,bY q,i,[],0,[p]⟩:=by rw[k6,h];rfl
theorem Dc {p k:ab} {q:ai} (h:p.aq.aw.aB[0]? =some q):dV p k=⟨20,bY q,0,[],0,[p,k]⟩:=by rw[dV,h];rfl
theorem oR {B:Nat} {e k:ab} (h:e.ok B) (hk:k∈e.Kids):k.ok B:=ab.gO ((ab.cY e).1 h).2.2.2.2.2.2 hk
theorem RZ {B:Nat} {e:ab} (h:e.ok B):e.Kids.length<=B:=((ab.cY e).1 h).2.2.2.2.2.1
theorem HO {l:List ab} {x:ab}:((l++[x]).all λk=>k.Op==6)=((l.all λk=>k.Op==6)&&(x.Op==6)):=by simp
theorem KD:∀{l:List (ab×ab)} {j:Nat} {q:ab×ab},l[j]? =some q->(l.flatMap λq=>[q.1,q.2])[2*j]? =some q.1/\(l.flatMap λq=>[q.1,q.2])[2*j+1]? =some q.2
 |a::l,0,q,h=>by
  simp only[mf,ax]at h;subst h;exact⟨rfl,rfl⟩
 |a::l,j+1,q,h=>by
  simp only[mS]at h;exact KD (l:=l) h
theorem O7 {q:ab->ab->Bool} {p:ab} {l:List (ab×ab)} {r:ab×ab}:((kt q p (l++[r])).flatMap λs=>[s.1,s.2])=((kt q p l).flatMap λs=>[s.1,s.2])++if(bM q (dV p r.1) r.2).Op=6 then []else [r.1,bM q (dV p r.1) r.2]:=by
 rw[kt,List.filterMap_append,Ya];congr 1;rw[List.filterMap_cons];split<;>rename_i h
 ·rw[ck (by split at h;assumption;cases h)];rfl
 ·split at h
  ·cases h
  ·rename_i hn;cases h;rw[bI hn];rfl
theorem PX {q:ab->ab->Bool} {p:ab} {l:List (ab×ab)}:((kt q p l).flatMap λs=>[s.1,s.2]).length<=2*l.length:=by
 rw[mV _];have:=Yb (λr:ab×ab=>if(bM q (dV p r.1) r.2).Op=6 then none else some (r.1,bM q (dV p r.1) r.2)) l;rw[kt];omega
section
variable {B:Nat} (hB:B<=1048576)
include hB
theorem Ot:∀x:ab,x.ok B->(vg Pu) x=some x:=by
 refine ab.ind λx ih hx=>?_;have hl:=RZ hx;rw[XH,sk];refine ah.of (iU (L:=λi s=>(oO Pu) x i s) (P:=(·=x)) (len:=x.Kids.length) (λi s=>s=x.Kids.take i) (λi s hi hI k=>?_) (λs hI=>?_) 0 [] (by omega) rfl)
 ·show ah ((oO Pu) x i s) _;obtain⟨y,hy⟩:=bu hi;have hm:=br hy;have:decide (i<x.Kids.length)=true:=by simpa using hi
  rw[Ju,qS,ab.aH,bq,this,a6,bw hy,aE,ih y hm (oR hx hm),aE,Ft (by rw[hI];simp;omega),a6,cw i (by omega)];exact k _ (by rw[hI,Fu hy])
 ·show ah ((oO Pu) x x.Kids.length s) _;have:decide (x.Kids.length<x.Kids.length)=false:=by simp
  rw[Ju,qS,ab.aH,bq,this,bl,hI,kH];exact ah.ret (by cases x;rfl)
variable {c:bm} (hc:CE B c)
include hc
theorem O6 {e:ab} {w:ay} (h:W c.l c.params e w):a7 B w->w.aL=0->e.ok B->TT B e->∀p,TT B p->p.aq=w->(jo Pu) p e=some (bM cp p e):=by
 have lf:∀{e:ab} {w:ay},(e.Op≠16/\e.Op≠7/\e.Op≠25/\e.Op≠24)->a7 B w->w.aL=0->e.ok B->TT B e->∀p,TT B p->p.aq=w->(jo Pu) p e=some (bM cp p e):=λ{e w} ho _ _ hok _ p hp _=>by
  have o1:(e.Op==16)=false:=by simpa using ho.1
  have o2:(e.Op==7)=false:=by simpa using ho.2.1
  have o3:(e.Op==25)=false:=by simpa using ho.2.2.1
  have o4:(e.Op==24)=false:=by simpa using ho.2.2.2
  rw[vl,mL,sP hB p hp e hok,Be ho,o1,o2,o3,o4,ow];cases cp p e<;>rfl
 have hd:∀{p e r:ab} {o:Option ab},o=some r->(bif cp p e then(some (fe e)).bind λy=>some y else o)=some (if cp p e=true then fe e else r):=λ{p e r o} h=>by
  rw[h];cases cp p e<;>rfl
 induction h with
 |ku hn=>intro hw;rw[hw.fJ]at hn;cases hn
 |kv hn=>intro hw;rw[hw.fJ]at hn;cases hn
 |kj hn=>intro hw;rw[hw.fJ]at hn;cases hn
 |km hn=>intro hw;rw[hw.fJ]at hn;cases hn
 | @iH cc x y a w hn wc wx wy ic ix iy=>
  intro hw hs hok ht p hp hpt;have hx:=ix hw hs (oR hok (by simp)) (ht.fT (by simp)) p hp hpt;have hy:=iy hw hs (oR hok (by simp)) (ht.fT (by simp)) p hp hpt;have i0:aA [cc,x,y] 0=some cc:=rfl;have i1:aA [cc,x,y] 1=some x:=rfl;have i2:aA [cc,x,y] 2=some y:=rfl;rw[vl,mL,sP hB p hp _ hok,gS,aE,ow];refine hd ?_;simp only[Int.reduceBEq,a6,bl,i0,i1,i2,aE,hx,hy,vU];show _=some (jq _ [cc,x,y] (bV cp p [cc,x,y]));rw[bV,bV,bV,bV,jq];by_cases h1:(bM cp p x).Op=6
  ·have h1':((bM cp p x).Op==6)=true:=by simpa using h1
   by_cases h2:(bM cp p y).Op=6
   ·have h2':((bM cp p y).Op==6)=true:=by simpa using h2
    rw[h1',h2',ck ⟨h1,h2⟩];rfl
   ·have h2':((bM cp p y).Op==6)=false:=by simpa using h2
    rw[h1',h2',bI (λh=>h2 h.2)];rfl
  ·have h1':((bM cp p x).Op==6)=false:=by simpa using h1
   rw[h1',bI (λh=>h1 h.1)];rfl
 | @jb x y a w hn hs' wx wy ix iy=>
  intro hw hs hok ht p hp hpt;have hx:=ix hw hs (oR hok (by simp)) (ht.fT (by simp)) p hp hpt;have hy:=iy hw hs (oR hok (by simp)) (ht.fT (by simp)) p hp hpt;have i0:aA [x,y] 0=some x:=rfl;have i1:aA [x,y] 1=some y:=rfl;rw[vl,mL,sP hB p hp _ hok,gS,aE,ow];refine hd ?_;simp only[Int.reduceBEq,a6,bl,i0,i1,aE,hx,hy,vU];show _=some (jt _ (bV cp p [x,y]));rw[bV,bV,bV,jt];by_cases h1:(bM cp p x).Op=6
  ·have h1':((bM cp p x).Op==6)=true:=by simpa using h1
   rw[h1',ck h1];rfl
  ·have h1':((bM cp p x).Op==6)=false:=by simpa using h1
   rw[h1',bI h1];by_cases h2:(bM cp p y).Op=6
   ·have h2':((bM cp p y).Op==6)=true:=by simpa using h2
    rw[h2',ck h2];rfl
   ·have h2':((bM cp p y).Op==6)=false:=by simpa using h2
    rw[h2',bI h2];rfl
 | @gG kids a w h0 hk6 hb hl wk ik=>
  intro hw hs hok ht p hp hpt;rw[vl,mL,sP hB p hp _ hok,gS,aE,ow];refine hd ?_;simp only[Int.reduceBEq,a6,bl];show _=some (jS _ (du cp p 0 kids));generalize he:(⟨25,w,0,[],a,kids⟩:ab)=e at*
  have hkk:e.Kids=kids:=by rw[<-he]
  refine ah.of (iU (L:=λi (s:List ab×Bool)=>(nG Pu) p e s.1 s.2 i) (P:=(·=jS e (du cp p 0 kids))) (len:=kids.length) (λi s=>s.1=(du cp p 0 kids).take i/\s.2=((du cp p 0 kids).take i).all (·.Op==6)) (λi s hi hI k=>?_) (λs hI=>?_) 0 ([],true) (by omega) ⟨rfl,rfl⟩)
  ·show ah ((nG Pu) p e s.1 s.2 i) _;obtain⟨x,hx⟩:=bu hi;obtain⟨pt,hq⟩:=bu (l:=w.aw.aB) (i:=i) (by omega);have hm:=br hx;have wq:=gP hw hs (br hq);have hpq:p.aq.aw.aB[i]? =some pt:=by rw[hpt];exact hq
   have hf:TT B (k6 p i):= .mk (by rw[BU hpq];exact wq) (λk hk=>by simp[k6]at hk;subst hk;exact hp);have ex:=ik i x pt hx hq wq rfl (oR hok (by rw[hkk];exact hm)) (ht.fT (by rw[hkk];exact hm)) (k6 p i) hf (by rw[BU hpq]);have hg:(du cp p 0 kids)[i]? =some (bM cp (k6 p i) x):=by rw[wJ,hx];simp
   have hlen:(du cp p 0 kids).length=kids.length:=qz _ _ _;have:decide (i<kids.length)=true:=by simpa using hi
   rw[Js,qQ,ab.aH,hkk,bq,this,a6,bw hx,aE,bw hpq,aE,cw i (by omega)];rw[BU hpq]at ex hg;have ex:(jo Pu) {Op:=19,aq:={aL:=0,aw:=pt:ay},N:=(i:Int),Text:=[],At:=0,Kids:=[p]:ab} x=_:=ex;rw[ex,aE,vU,Ft (by rw[hI.1];simp;omega)];have e1:=Fu hg;have:=hI.2;cases hb2:s.2 with
   |true=>
    rw[hb2]at this;exact k (_,_) ⟨by show s.1++[_]=_;rw[hI.1];exact e1,by show _=List.all _ _;rw[<-e1,HO,<-this];simp⟩
   |false=>
    rw[hb2]at this;exact k (_,_) ⟨by show s.1++[_]=_;rw[hI.1];exact e1,by show _=List.all _ _;rw[<-e1,HO,<-this];simp⟩
  ·show ah ((nG Pu) p e s.1 s.2 kids.length) _;have hlen:(du cp p 0 kids).length=kids.length:=qz _ _ _;rw[<-hlen,kH]at hI;have:decide (kids.length<kids.length)=false:=by simp
   rw[Js,qQ,ab.aH,hkk,bq,this,bl,ow,hI.1];unfold jS;have h2:=hI.2;cases hb2:s.2 with
   |true=>rw[hb2]at h2;rw[ck h2.symm];exact ah.ret rfl
   |false=>rw[hb2]at h2;rw[bI (by rw[<-h2];simp)];exact ah.ret rfl
 | @map kids pt a w h0 hk5 hb hq wk wv i1 i2=>
  intro hw hs hok ht p hp hpt;rw[vl,mL,sP hB p hp _ hok,gS,aE,ow];refine hd ?_;simp only[Int.reduceBEq,a6,bl];show _=some (jT _ (cH cp p none (kids.flatMap λq=>[q.1,q.2])));rw[BC];have hK:(kids.flatMap λq=>[q.1,q.2]).length=2*kids.length:=mV _;generalize he:(⟨24,w,0,[],a,kids.flatMap λq=>[q.1,q.2]⟩:ab)=e at*
  have hkk:e.Kids=kids.flatMap λq=>[q.1,q.2]:=by rw[<-he]
  show(lN Pu) p e [] (2*((0:Nat):Int))=_;refine ah.of (iU (L:=λ(j:Int) s=>(lN Pu) p e s (2*j)) (P:=(·=jT e ((kt cp p kids).flatMap λr=>[r.1,r.2]))) (len:=kids.length) (λj s=>s=(kt cp p (kids.take j)).flatMap λr=>[r.1,r.2]) (λj s hj hI k=>?_) (λs hI=>?_) 0 [] (by omega) rfl)
  ·show ah ((lN Pu) p e s (2*(j:Int))) _;have k':∀b',b'=((kt cp p (kids.take (j+1))).flatMap λr=>[r.1,r.2])->ah ((lN Pu) p e b' (2*((j+1:Nat):Int))) _:=k;obtain⟨r,hr⟩:=bu hj;have fg:=KD hr;have m1:=br fg.1;have m2:=br fg.2;have wq:=gP hw hs (br hq);have hpq:p.aq.aw.aB[0]? =some pt:=by rw[hpt];exact hq
   have hf:TT B (dV p r.1):= .mk (by rw[Dc hpq];exact wq) (λk hk=>by
    simp[dV]at hk;rcases hk with rfl|rfl
    ·exact hp
    ·exact ht.fT (by rw[hkk];exact m1))
   have ex:=i2 r (br hr) wq rfl (oR hok (by rw[hkk];exact m2)) (ht.fT (by rw[hkk];exact m2)) (dV p r.1) hf (by rw[Dc hpq]);have z2:IntKind.i64.wrap (((2*j:Nat):Int)+1)=((2*j+1:Nat):Int):=cw _ (by omega);have z3:IntKind.i64.wrap (((2*j:Nat):Int)+2)=2*((j+1:Nat):Int):=by rw[wrap64 (by omega) (by omega)];omega
   have hlt:decide (2*j<(kids.flatMap λq=>[q.1,q.2]).length)=true:=by rw[hK];simp;omega
   have hsl:s.length<=2*j:=by rw[hI];exact mR PX (by rw[iS];omega)
   have e0:aA p.aq.aw.aB 0=some pt:=hpq;rw[show(2*(j:Int))=((2*j:Nat):Int)by omega,Jt,qR,ab.aH,hkk,bq,hlt,a6,z2,z3,e0,aE,bw fg.1,aE,bw fg.2,aE];have e1:=O7 (q:=cp) (p:=p) (l:=kids.take j) (r:=r);rw[Fu hr,<-hI]at e1;have ex':(jo Pu) {Op:=20,aq:={aL:=0,aw:=pt:ay},N:=0,Text:=[],At:=0,Kids:=[p,r.1]:ab} r.2=some (bM cp (dV p r.1) r.2):=by
    rw[Dc hpq]at ex⊢;exact ex
   rw[ex',aE,vU,aE];by_cases h6:(bM cp (dV p r.1) r.2).Op=6
   ·rw[ck h6,iM]at e1;rw[show((bM cp (dV p r.1) r.2).Op==6)=true by simpa using h6];exact k' _ e1.symm
   ·rw[bI h6]at e1;rw[show((bM cp (dV p r.1) r.2).Op==6)=false by simpa using h6,aE,Ft (by simp;omega)];exact k' _ e1.symm
  ·show ah ((lN Pu) p e s (2*(kids.length:Int))) _;rw[kH]at hI;have hlt:decide (2*kids.length<(kids.flatMap λq=>[q.1,q.2]).length)=false:=by rw[hK];simp
   rw[show(2*(kids.length:Int))=((2*kids.length:Nat):Int)by omega,Jt,qR,ab.aH,ab.aH,hkk,bq,hlt,bl,ow,<-hI];unfold jT;by_cases hn:s=[]
   ·rw[ck hn,hn];exact ah.ret rfl
   ·rw[bI hn,show((s.length:Int)==0)=false by simpa using hn];exact ah.ret rfl
 |kE h1 h2 h3 h4 h5=>exact lf (by simp at h1⊢;omega)
 |part h1 h2 h3 h4 h5 h6=>exact lf (by simp;omega)
 |conn h1 h2 h3 h4=>exact lf (by simp;omega)
 |less h1 h2 h3 h4=>exact lf (by simp;omega)
 |ji h1 h2 h3 h4=>exact lf (by simp;omega)
 |_=>exact lf (by simp)
