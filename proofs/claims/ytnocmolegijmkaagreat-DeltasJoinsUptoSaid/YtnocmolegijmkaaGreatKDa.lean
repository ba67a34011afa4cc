/- Derivatives of expressions: without the program in sight. -/
import Derived.Test.YtnocmolegijmkaaGreatKVa9
set_option linter.all false
section
namespace Go.Proofs.YtnocmolegijmkaaGreat
open Go Go.Bw
theorem Hn {n m:Nat} (h:n<=m):decide (n<=m)=true:=by simpa using h
theorem Ho {D:Type} {l:List D} {i:Nat} {x:D} (h:l[i]? =some x):l.take i++[x]=l.take (i+1):=by rw[fM,h];rfl
def ga (e:ab):ab:=⟨6,e.aO,0,[],e.At,[]⟩
def fP (e:ab) (ks:List ab):ab:=⟨e.Op,e.aO,e.N,e.Text,e.At,ks⟩
def iV (p:ab) (i:Nat):ab:=⟨19,cX ((p.aO.aD.ai[i]?).getD l0),i,[],0,[p]⟩
def dj (p k:ab):ab:=⟨20,cX ((p.aO.aD.ai[0]?).getD l0),0,[],0,[p,k]⟩
def ki (e:ab):List ab->ab
 |[a,b]=>if a.Op=6 then b else if b.Op=6 then a else fP e [a,b]
 |_=>e
def kh (e:ab):List ab->List ab->ab
 |[c,_,_],[_,a,b]=>if a.Op=6/\b.Op=6 then ga e else fP e [c,a,b]
 |_,_=>e
def kF (e:ab) (ks:List ab):ab:=if ks.all (·.Op==6)then ga e else fP e ks
def kG (e:ab) (ks:List ab):ab:=if ks=[]then ga e else fP e ks
mutual
def bU (q:ab->ab->Bool):ab->ab->ab
 |p,⟨op,t,n,tx,a,kids⟩=>
  if q p ⟨op,t,n,tx,a,kids⟩=true then ga ⟨op,t,n,tx,a,kids⟩
  else if op=16 then ki ⟨op,t,n,tx,a,kids⟩ (cx q p kids)
  else if op=7 then kh ⟨op,t,n,tx,a,kids⟩ kids (cx q p kids)
  else if op=25 then kF ⟨op,t,n,tx,a,kids⟩ (dM q p 0 kids)
  else if op=24 then kG ⟨op,t,n,tx,a,kids⟩ (dB q p none kids)
  else⟨op,t,n,tx,a,kids⟩
termination_by _ e=>SizeOf.sizeOf e
def cx (q:ab->ab->Bool):ab->List ab->List ab
 |_,[]=>[]
 |p,k::ks=>bU q p k::cx q p ks
termination_by _ ks=>SizeOf.sizeOf ks
def dM (q:ab->ab->Bool):ab->Nat->List ab->List ab
 |_,_,[]=>[]
 |p,i,k::ks=>bU q (iV p i) k::dM q p (i+1) ks
termination_by _ _ ks=>SizeOf.sizeOf ks
def dB (q:ab->ab->Bool):ab->Option ab->List ab->List ab
 |_,_,[]=>[]
 |p,none,k::ks=>dB q p (some k) ks
 |p,some k,x::ks=>if(bU q (dj p k) x).Op=6 then dB q p none ks else k::bU q (dj p k) x::dB q p none ks
termination_by _ _ ks=>SizeOf.sizeOf ks
end
variable {q:ab->ab->Bool}
theorem gI (p e:ab):bU q p e=if q p e=true then ga e else if e.Op=16 then ki e (cx q p e.Kids)else if e.Op=7 then kh e e.Kids (cx q p e.Kids)else if e.Op=25 then kF e (dM q p 0 e.Kids)else if e.Op=24 then kG e (dB q p none e.Kids)else e:=by
 cases e;rw[bU]
theorem EC {p e:ab} (h:e.Op≠16/\e.Op≠7/\e.Op≠25/\e.Op≠24):bU q p e=if q p e=true then ga e else e:=by
 rw[gI,aM h.1,aM h.2.1,aM h.2.2.1,aM h.2.2.2]
theorem oQ:∀(ks:List ab) (p:ab) (i:Nat),(dM q p i ks).length=ks.length
 |[],_,_=>by rw[dM]
 |k::ks,p,i=>by rw[dM,gP,oQ,gP]
theorem ru:∀(ks:List ab) (p:ab) (i j:Nat),(dM q p i ks)[j]? =(ks[j]?).map λk=>bU q (iV p (i+j)) k
 |[],_,_,_=>by rw[dM];rfl
 |k::ks,p,i,0=>by rw[dM];rfl
 |k::ks,p,i,j+1=>by
  rw[dM,nD,ru ks,nD,show i+1+j=i+(j+1)by omega]
def ib (q:ab->ab->Bool) (p:ab) (qs:List (ab×ab)):List (ab×ab):=qs.filterMap λr=>if(bU q (dj p r.1) r.2).Op=6 then none else some (r.1,bU q (dj p r.1) r.2)
theorem E2:∀(qs:List (ab×ab)) (p:ab),dB q p none (qs.flatMap λr=>[r.1,r.2])=(ib q p qs).flatMap λr=>[r.1,r.2]
 |[],_=>by rw[aaj,dB];rfl
 |r::qs,p=>by
  rw[tr,ko,ko,pA,dB,dB,E2 qs];by_cases h:(bU q (dj p r.1) r.2).Op=6
  ·rw[bg h];simp[ib,h]
  ·rw[aM h];simp[ib,h]
theorem ED {p:ab} {qs:List (ab×ab)} {s:ab×ab} (h:s∈ib q p qs):∃r∈qs,s=(r.1,bU q (dj p r.1) r.2)/\(bU q (dj p r.1) r.2).Op≠6:=by
 obtain⟨r,hr,e⟩:=HH.1 h;split at e
 ·cases e
 ·rename_i hn;cases e;exact⟨r,hr,rfl,hn⟩
section
variable {B:Nat} {c:cI} (hc:CE B c)
include hc
theorem alf {x:ab} {w:aQ} (h:W c.l c.params x w) (hn:isNone w=false):x.aO=w:=by
 have no:∀{P:Prop},isNone w=true->P:=λe=>by rw[e]at hn;cases hn
 have fe:∀{t:aQ},Fit w t->t=w:=λh=>(h hn).symm;cases h<;>first|rfl|(apply fe;assumption)|(apply no;assumption)
theorem FZ {e:ab} {w:aQ} (h:W c.l c.params e w):bx B w->w.a6=0->∀p,W c.l c.params (bU q p e) w:=by
 revert w;refine ab.ind (P:=λe=>∀{w},W c.l c.params e w->bx B w->w.a6=0->∀p,W c.l c.params (bU q p e) w) (λe ih=>?_) e;intro w h hw hs p;have h':=h;have bt:∀{e:ab} {w:aQ},W c.l c.params e w->bx B w->w.a6=0->W c.l c.params (ga e) w:=λh hw hs=>by
  rw[ga,alf hc h hw.eW];exact .Aq hs hw.eW
 have lf:∀{e:ab} {w:aQ},W c.l c.params e w->(e.Op≠16/\e.Op≠7/\e.Op≠25/\e.Op≠24)->bx B w->w.a6=0->∀p,W c.l c.params (bU q p e) w:=λh ho hw hs p=>by
  rw[EC ho];split
  ·exact bt h hw hs
  ·exact h
 have hd:∀{e:ab} {w:aQ} {r p:ab},W c.l c.params e w->bx B w->w.a6=0->W c.l c.params r w->W c.l c.params (if q p e=true then ga e else r) w:=λh hw hs hr=>by
  split
  ·exact bt h hw hs
  ·exact hr
 cases h with
 |wJ hn|wK hn|wm hn|wo hn=>rw[hw.eW]at hn;cases hn
 | @sS cc x y a _ hn wc wx wy=>
  rw[gI];refine hd h' hw hs ?_;show W _ _ (kh _ [cc,x,y] (cx q p [cc,x,y])) w;rw[cx,cx,cx,cx,kh];split
  ·exact bt h' hw hs
  ·exact .sS hn wc (ih x (by simp) wx hw hs p) (ih y (by simp) wy hw hs p)
 | @sA x y a _ hn hs' wx wy=>
  have ix:=ih x (by simp) wx hw hs p;have iy:=ih y (by simp) wy hw hs p;rw[gI];refine hd h' hw hs ?_;show W _ _ (ki _ (cx q p [x,y])) w;rw[cx,cx,cx,ki];split
  ·exact iy
  ·split
   ·exact ix
   ·exact .sA hn hs' ix iy
 | @sT kids a _ h0 hk hb hl hw'=>
  rw[gI];refine hd h' hw hs ?_;show W _ _ (kF _ (dM q p 0 kids)) w;rw[kF];split
  ·exact bt h' hw hs
  ·refine .sT h0 hk (by rw[oQ];exact hb) (by rw[oQ];exact hl) (λi x pt hx hp=>?_);rw[ru]at hx;obtain⟨k,hk',rfl⟩:=aak.1 hx;exact ih k (aV hk') (hw' i k pt hk' hp) (jd hw hs (aV hp)) rfl _
 | @map kids pt a _ h0 hk hb hp w1 w2=>
  rw[gI];refine hd h' hw hs ?_;show W _ _ (kG _ (dB q p none (kids.flatMap λq=>[q.1,q.2]))) w;rw[kG,E2];split
  ·exact bt h' hw hs
  ·refine .map h0 hk (iM (aav ..) hb) hp (λs hs'=>?_) (λs hs'=>?_)
   ·obtain⟨r,hr,rfl,_⟩:=ED hs';exact w1 r hr
   ·obtain⟨r,hr,rfl,_⟩:=ED hs';exact ih r.2 (gB.2 ⟨r,hr,by simp⟩) (w2 r hr) (jd hw hs (aV hp)) rfl _
 |xz h1=>exact lf h' (by simp at h1⊢;omega) hw hs p
 |_=>exact lf h' (by first|(simp;done)|(simp;omega)) hw hs p
end
end Go.Proofs.YtnocmolegijmkaaGreat
end

section
namespace Go.Proofs.YtnocmolegijmkaaGreat
open Go Go.Bw
variable {q:ab->ab->Bool}
theorem IL {p:ab}:∀{ks:List ab},(cx q p ks).length=ks.length
 |[]=>by rw[cx]
 |k::ks=>by rw[cx,gP,IL,gP]
def qy (p:ab):Prop:=p.Op≠6/\p.Op≠16/\p.Op≠7/\p.Op≠25/\p.Op≠24
theorem aek (p:ab) (i:Nat):qy (iV p i):=by simp[qy,iV]
theorem afC (p k:ab):qy (dj p k):=by simp[qy,dj]
section
variable (hq:∀p e,q p e=true->p.Op=e.Op)
include hq
theorem Fv {p e:ab} (hp:qy p):bU q p (ga e)=ga e:=by
 rw[EC (by simp[ga]),aM];intro h;exact hp.1 (hq _ _ h)
theorem R9 {p:ab}:∀{ks:List ab} {i:Nat},(∀k∈ks,∀p,qy p->bU q p (bU q p k)=bU q p k)->dM q p i (dM q p i ks)=dM q p i ks
 |[],_,_=>by rw[dM,dM]
 |k::ks,i,h=>by
  rw[dM,dM,h k (by simp) _ (aek p i),R9 (ks:=ks) λx hx=>h x (by simp[hx])]
theorem Jr {p:ab}:∀{ks:List ab} {o:Option ab},(∀k∈ks,∀p,qy p->bU q p (bU q p k)=bU q p k)->dB q p none (dB q p o ks)=dB q p o ks
 |[],_,_=>by rw[dB,dB]
 |k::ks,none,h=>by
  have:=Jr (p:=p) (ks:=ks) (o:=some k) λx hx=>h x (by simp[hx]);rw[show dB q p none (k::ks)=dB q p (some k) ks by rw[dB]];exact this
 |x::ks,some k,h=>by
  have h1:=Jr (p:=p) (ks:=ks) (o:=none) λx hx=>h x (by simp[hx]);have h2:=h x (by simp) _ (afC p k);rw[show dB q p (some k) (x::ks)=if(bU q (dj p k) x).Op=6 then dB q p none ks else k::bU q (dj p k) x::dB q p none ks by rw[dB]];split
  ·exact h1
  ·rename_i hn;rw[dB,dB,h2,aM hn,h1]
theorem an0:∀e p:ab,qy p->bU q p (bU q p e)=bU q p e:=by
 refine ab.ind λe ih=>λp hp=>?_;have nq:∀{e:ab},(e.Op=16\/e.Op=7\/e.Op=25\/e.Op=24)->¬q p e=true:=λh g=>by
  have:=hq _ _ g;have:=hp.2;omega
 have e0:=gI (q:=q) p e;by_cases c0:q p e=true
 ·rw[bg c0]at e0;rw[e0];exact Fv hq hp
 rw[aM c0]at e0;by_cases c1:e.Op=16
 ·rw[bg c1]at e0;rw[e0];by_cases hk:∃x y,e.Kids=[x,y]
  ·obtain⟨x,y,hk⟩:=hk;have hx:=ih x (by rw[hk];simp) p hp;have hy:=ih y (by rw[hk];simp) p hp;rw[hk,cx,cx,cx,ki];split
   ·exact hy
   ·split
    ·exact hx
    ·rename_i h1 h2;rw[gI,aM (nq (e:=fP _ _) (.inl c1)),bg (show(fP e _).Op=16 from c1)];show ki _ (cx q p [bU q p x,bU q p y])=_;rw[cx,cx,cx,hx,hy,ki,aM h1,aM h2];rfl
  ·have hj:ki e (cx q p e.Kids)=e:=by
    have hl:=IL (q:=q) (p:=p) (ks:=e.Kids);unfold ki;split
    ·rename_i a b h;rw[h]at hl
     match hm:e.Kids,hl with
     |[x,y],_=>exact absurd ⟨x,y,hm⟩ hk
    ·rfl
   rw[hj]at e0⊢;exact e0
 rw[aM c1]at e0;by_cases c2:e.Op=7
 ·rw[bg c2]at e0;rw[e0];by_cases hk:∃c x y,e.Kids=[c,x,y]
  ·obtain⟨c,x,y,hk⟩:=hk;have hx:=ih x (by rw[hk];simp) p hp;have hy:=ih y (by rw[hk];simp) p hp;rw[hk,cx,cx,cx,cx,kh];split
   ·exact Fv hq hp
   ·rename_i h1;rw[gI,aM (nq (e:=fP _ _) (.inr (.inl c2))),aM (show¬(fP e _).Op=16 from c1),bg (show(fP e _).Op=7 from c2)];show kh _ [c,bU q p x,bU q p y] (cx q p [c,bU q p x,bU q p y])=_;rw[cx,cx,cx,cx,hx,hy,kh,aM h1];rfl
  ·have hj:kh e e.Kids (cx q p e.Kids)=e:=by
    unfold kh;split
    ·rename_i h _;exact absurd ⟨_,_,_,h⟩ hk
    ·rfl
   rw[hj]at e0⊢;exact e0
 rw[aM c2]at e0;by_cases c3:e.Op=25
 ·rw[bg c3]at e0;rw[e0,kF];split
  ·exact Fv hq hp
  ·rename_i h1;rw[gI,aM (nq (e:=fP _ _) (.inr (.inr (.inl c3)))),aM (show¬(fP e _).Op=16 from c1),aM (show¬(fP e _).Op=7 from c2),bg (show(fP e _).Op=25 from c3)];show kF _ (dM q p 0 (dM q p 0 e.Kids))=_;rw[R9 hq ih,kF,aM h1];rfl
 rw[aM c3]at e0;by_cases c4:e.Op=24
 ·rw[bg c4]at e0;rw[e0,kG];split
  ·exact Fv hq hp
  ·rename_i h1;rw[gI,aM (nq (e:=fP _ _) (.inr (.inr (.inr c4)))),aM (show¬(fP e _).Op=16 from c1),aM (show¬(fP e _).Op=7 from c2),aM (show¬(fP e _).Op=25 from c3),bg (show(fP e _).Op=24 from c4)];show kG _ (dB q p none (dB q p none e.Kids))=_;rw[Jr hq ih,kG,aM h1];rfl
 rw[aM c4]at e0;rw[e0,e0]
end
theorem Sa {B:Nat}:∀{l:List ab},ab.fp B l↔∀x∈l,x.ok B
 |[]=>by simp[ab.fp]
 |x::l=>by simp[ab.fp,Sa (l:=l)]
theorem FM {B:Nat} {e:ab} (h:e.ok B):(ga e).ok B:=by
 rw[ab.dK]at h⊢;obtain⟨h1,h2,h3,h4,h5,h6,h7⟩:=h;exact⟨show(Lit.int IntKind.i64 6).wf=true by decide,h2,show(Lit.int IntKind.i64 0).wf=true by decide,by simp[ga],h5,by simp[ga],by simp[ga,ab.fp]⟩
theorem Fw {B:Nat} {e:ab} {ks:List ab} (h:e.ok B) (hl:ks.length<=e.Kids.length) (hk:∀k∈ks,k.ok B):(fP e ks).ok B:=by
 rw[ab.dK]at h⊢;obtain⟨h1,h2,h3,h4,h5,h6,h7⟩:=h;exact⟨h1,h2,h3,h4,h5,iM hl h6,Sa.2 hk⟩
theorem J0 {B:Nat} {p:ab}:∀{ks:List ab} {o:Option ab},(∀k∈ks,k.ok B)->(∀k∈ks,∀p,(bU q p k).ok B)->(∀k,o=some k->k.ok B)->(dB q p o ks).length<=(o.toList++ks).length/\∀k∈dB q p o ks,k.ok B
 |[],_,_,_,_=>by rw[dB];simp
 |k::ks,none,h0,h,ho=>by
  have:=J0 (p:=p) (ks:=ks) (o:=some k) (λx hx=>h0 x (by simp[hx])) (λx hx=>h x (by simp[hx])) (λx hx=>by cases hx;exact h0 _ (by simp));rw[dB];exact this
 |x::ks,some k,h0,h,ho=>by
  obtain⟨h1,h2⟩:=J0 (p:=p) (ks:=ks) (o:=none) (λx hx=>h0 x (by simp[hx])) (λx hx=>h x (by simp[hx])) (λx hx=>by cases hx);have h1:(dB q p none ks).length<=ks.length:=h1;have h3:=h x (by simp) (dj p k);have h4:=ho k rfl;rw[dB];show _<=(k::x::ks).length/\_;split
  ·exact⟨by simp only[gP];omega,h2⟩
  ·refine⟨by simp only[gP];omega,λy hy=>?_⟩;simp only[cq]at hy;rcases hy with rfl|rfl|hy
   ·exact h4
   ·exact h3
   ·exact h2 y hy
theorem ags {B:Nat}:∀e:ab,e.ok B->∀p,(bU q p e).ok B:=by
 refine ab.ind λe ih he=>λp=>?_;have hk:∀k∈e.Kids,k.ok B:=λk hk=>ab.gH ((ab.dK e).1 he).2.2.2.2.2.2 hk;have ih:∀k∈e.Kids,∀p,(bU q p k).ok B:=λk hm=>ih k hm (hk k hm);rw[gI];split
 ·exact FM he
 split
 ·unfold ki;split
  ·rename_i a b h;have hl:=IL (q:=q) (p:=p) (ks:=e.Kids);rw[h]at hl
   match hm:e.Kids,hl with
   |[x,y],_=>
    rw[hm,cx,cx,cx]at h;cases h;have h1:=ih x (by rw[hm];simp) p;have h2:=ih y (by rw[hm];simp) p;split
    ·exact h2
    ·split
     ·exact h1
     ·exact Fw he (by rw[hm];simp) (λk hk=>by simp at hk;rcases hk with rfl|rfl<;>assumption)
  ·exact he
 split
 ·unfold kh;split
  ·rename_i c x y c' a b hm h;rw[hm,cx,cx,cx,cx]at h;cases h;have h0:=hk c (by rw[hm];simp);have h1:=ih x (by rw[hm];simp) p;have h2:=ih y (by rw[hm];simp) p;split
   ·exact FM he
   ·exact Fw he (by rw[hm];simp) (λk hk=>by simp at hk;rcases hk with rfl|rfl|rfl<;>assumption)
  ·exact he
 split
 ·unfold kF;split
  ·exact FM he
  ·refine Fw he (by rw[oQ];exact bX _) λk hk'=>?_;obtain⟨j,hj⟩:=jR hk';rw[ru]at hj;obtain⟨x,hx,rfl⟩:=aak.1 hj;exact ih x (aV hx) _
 split
 ·unfold kG;split
  ·exact FM he
  ·obtain⟨h1,h2⟩:=J0 (q:=q) (p:=p) (ks:=e.Kids) (o:=none) hk ih (λk h=>by cases h);exact Fw he h1 h2
 ·exact he
end Go.Proofs.YtnocmolegijmkaaGreat
end

section
namespace Go.Proofs.YtnocmolegijmkaaGreat
open Go Go.Bw
mutual
def nx:ab->ab
 |⟨op,t,n,tx,_,ks⟩=>⟨op,t,n,tx,0,fK ks⟩
def fK:List ab->List ab
 |[]=>[]
 |k::ks=>nx k::fK ks
end
theorem rE:∀{l:List ab},(fK l).length=l.length
 |[]=>rfl
 |k::ks=>by rw[fK,gP,rE,gP]
noncomputable def bL (a b:ab):Bool:=fw (nx a) (nx b)
theorem UA:∀{a b:List ab},a.length=b.length->(a.zip b).all (λq=>bL q.1 q.2)=fw (fK a) (fK b)
 |[],[],_=>by simp[fw]
 |x::a,y::b,h=>by
  rw[DL,lx,UA (by simpa using h)];apply qx;simp only[bS,rC,bL,fK,kn]
theorem agr {a b:ab}:bL a b=(a.Op==b.Op&&(fw a.aO b.aO&&(a.N==b.N&&(a.Text==b.Text&&fw (fK a.Kids) (fK b.Kids))))):=by
 symm;apply qx;cases a;cases b;simp only[bS,beq_iff_eq,rC,nx,ab.mk.injEq,true_and]
section
variable {B:Nat} (hB:B<=1048576)
include hB
theorem yZ:∀a:ab,TT B a->∀b:ab,b.ok B->(f50 Pf) a b=some (bL a b):=by
 refine ab.ind λa ih ha b hb=>?_;rw[ab.dK]at hb;obtain⟨_,_,_,_,_,hkl,hkk⟩:=hb;have hkids:(FJ Pf) a.Kids b.Kids=some (fw (fK a.Kids) (fK b.Kids)):=by
  rw[agp,Ay];simp only[ab.aH];by_cases h:a.Kids.length=b.Kids.length
  ·have h0:((a.Kids.length:Int) !=(b.Kids.length:Int))=false:=by simp[h]
   rw[h0];show(ui Pf) a.Kids b.Kids 0=_;rw[zG (a:=a.Kids) (b:=b.Kids) (L:=(ui Pf) a.Kids b.Kids) bL true h ?_ ?_]
   ·rw[q8,UA h]
   ·intro i x y hx hy hi;rw[QW,uj,ab.aH,uv (by omega)];have h1:decide ((i:Int)<(a.Kids.length:Int))=true:=by simpa using hi
    have hx':=aV hx;rw[h1,bf hx,bf hy];show(((f50 Pf) x y).bind _)=_;rw[ih x hx' (ha.bV hx') y (ab.gH hkk (aV hy))];show(bif !(bL x y)then _ else _)=_;cases bL x y<;>rfl
   ·rw[QW,uj,ab.aH];simp
  ·have h0:((a.Kids.length:Int) !=(b.Kids.length:Int))=true:=by simp;omega
   rw[h0];show some false=_;congr 1;exact qx (by constructor;intro e;cases e;intro e;have:=congrArg List.length e;rw[rE,rE]at this;exact absurd this h)
 have hty:(f81 Pf) a.aO b.aO=some (fw a.aO b.aO):=by
  obtain⟨r,e,hr⟩:=I6 (b:=b.aO) hB ha.ty.ok;rw[e,qx hr]
 rw[e50,Di,hkids,hty,agr];simp only[au];generalize (a.Op==b.Op)=c1;generalize fw a.aO b.aO=c2;generalize (a.N==b.N)=c3;generalize (a.Text==b.Text)=c4;generalize fw (fK a.Kids) (fK b.Kids)=c5;cases c1<;>cases c2<;>cases c3<;>cases c4<;>cases c5<;>rfl
end
theorem Ea (x:ab):(f53 Pf) x=some (x.Op==6):=by rw[e53,Dk]
theorem rl (x:ab):(f51 Pf) x=some (ga x):=by rw[e51,Dj];rfl
theorem Km {p:ab} {i:Nat} {q:ag} (h:p.aO.aD.ai[i]? =some q):iV p i=⟨19,cX q,i,[],0,[p]⟩:=by rw[iV,h];rfl
theorem Kn {p k:ab} {q:ag} (h:p.aO.aD.ai[0]? =some q):dj p k=⟨20,cX q,0,[],0,[p,k]⟩:=by rw[dj,h];rfl
theorem sm {B:Nat} {e k:ab} (h:e.ok B) (hk:k∈e.Kids):k.ok B:=ab.gH ((ab.dK e).1 h).2.2.2.2.2.2 hk
theorem agt {B:Nat} {e:ab} (h:e.ok B):e.Kids.length<=B:=((ab.dK e).1 h).2.2.2.2.2.1
theorem Sb {l:List ab} {x:ab}:((l++[x]).all λk=>k.Op==6)=((l.all λk=>k.Op==6)&&(x.Op==6)):=by simp
theorem Wo:∀{l:List (ab×ab)} {j:Nat} {q:ab×ab},l[j]? =some q->(l.flatMap λq=>[q.1,q.2])[2*j]? =some q.1/\(l.flatMap λq=>[q.1,q.2])[2*j+1]? =some q.2
 |a::l,0,q,h=>by
  simp only[jP,aE]at h;subst h;exact⟨rfl,rfl⟩
 |a::l,j+1,q,h=>by
  simp only[nD]at h;exact Wo (l:=l) h
theorem acY {q:ab->ab->Bool} {p:ab} {l:List (ab×ab)} {r:ab×ab}:((ib q p (l++[r])).flatMap λs=>[s.1,s.2])=((ib q p l).flatMap λs=>[s.1,s.2])++if(bU q (dj p r.1) r.2).Op=6 then []else [r.1,bU q (dj p r.1) r.2]:=by
 rw[ib,List.filterMap_append,List.flatMap_append];congr 1;rw[anY];split<;>rename_i h
 ·rw[bg (by split at h;assumption;cases h)];rfl
 ·split at h
  ·cases h
  ·rename_i hn;cases h;rw[aM hn];rfl
theorem ael {q:ab->ab->Bool} {p:ab} {l:List (ab×ab)}:((ib q p l).flatMap λs=>[s.1,s.2]).length<=2*l.length:=by
 rw[Ep _];have:=aav (λr:ab×ab=>if(bU q (dj p r.1) r.2).Op=6 then none else some (r.1,bU q (dj p r.1) r.2)) l;rw[ib];omega
section
variable {B:Nat} (hB:B<=1048576)
include hB
theorem ab5:∀x:ab,x.ok B->(f26 Pf) x=some x:=by
 refine ab.ind λx ih hx=>?_;have hl:=agt hx;rw[e26,xF];refine ae.of (eo (L:=λi s=>(sk Pf) x i s) (P:=(·=x)) (len:=x.Kids.length) (λi s=>s=x.Kids.take i) (λi s hi hI k=>?_) (λs hI=>?_) 0 [] (by omega) rfl)
 ·show ae ((sk Pf) x i s) _;obtain⟨y,hy⟩:=bo hi;have hm:=aV hy;have:decide (i<x.Kids.length)=true:=by simpa using hi
  rw[Vm,vX,ab.aH,a7,this,aB,bf hy,au,ih y hm (sm hx hm),au,Hn (by rw[hI];simp;omega),aB,bW i (by omega)];exact k _ (by rw[hI,Ho hy])
 ·show ae ((sk Pf) x x.Kids.length s) _;have:decide (x.Kids.length<x.Kids.length)=false:=by simp
  rw[Vm,vX,ab.aH,a7,this,aC,hI,eV];exact ae.ret (by cases x;rfl)
variable {c:cI} (hc:CE B c)
include hc
theorem acX {e:ab} {w:aQ} (h:W c.l c.params e w):bx B w->w.a6=0->e.ok B->TT B e->∀p,TT B p->p.aO=w->(f27 Pf) p e=some (bU bL p e):=by
 have lf:∀{e:ab} {w:aQ},(e.Op≠16/\e.Op≠7/\e.Op≠25/\e.Op≠24)->bx B w->w.a6=0->e.ok B->TT B e->∀p,TT B p->p.aO=w->(f27 Pf) p e=some (bU bL p e):=λ{e w} ho _ _ hok _ p hp _=>by
  have o1:(e.Op==16)=false:=by simpa using ho.1
  have o2:(e.Op==7)=false:=by simpa using ho.2.1
  have o3:(e.Op==25)=false:=by simpa using ho.2.2.1
  have o4:(e.Op==24)=false:=by simpa using ho.2.2.2
  rw[Dl,pz,yZ hB p hp e hok,EC ho,o1,o2,o3,o4,rl];cases bL p e<;>rfl
 have hd:∀{p e r:ab} {o:Option ab},o=some r->(bif bL p e then(some (ga e)).bind λy=>some y else o)=some (if bL p e=true then ga e else r):=λ{p e r o} h=>by
  rw[h];cases bL p e<;>rfl
 induction h with
 |wJ hn=>intro hw;rw[hw.eW]at hn;cases hn
 |wK hn=>intro hw;rw[hw.eW]at hn;cases hn
 |wm hn=>intro hw;rw[hw.eW]at hn;cases hn
 |wo hn=>intro hw;rw[hw.eW]at hn;cases hn
 | @sS cc x y a w hn wc wx wy ic ix iy=>
  intro hw hs hok ht p hp hpt;have hx:=ix hw hs (sm hok (by simp)) (ht.bV (by simp)) p hp hpt;have hy:=iy hw hs (sm hok (by simp)) (ht.bV (by simp)) p hp hpt;have i0:aj [cc,x,y] 0=some cc:=rfl;have i1:aj [cc,x,y] 1=some x:=rfl;have i2:aj [cc,x,y] 2=some y:=rfl;rw[Dl,pz,yZ hB p hp _ hok,gI,au,rl];refine hd ?_;simp only[Int.reduceBEq,aB,aC,i0,i1,i2,au,hx,hy,Ea];show _=some (kh _ [cc,x,y] (cx bL p [cc,x,y]));rw[cx,cx,cx,cx,kh];by_cases h1:(bU bL p x).Op=6
  ·have h1':((bU bL p x).Op==6)=true:=by simpa using h1
   by_cases h2:(bU bL p y).Op=6
   ·have h2':((bU bL p y).Op==6)=true:=by simpa using h2
    rw[h1',h2',bg ⟨h1,h2⟩];rfl
   ·have h2':((bU bL p y).Op==6)=false:=by simpa using h2
    rw[h1',h2',aM (λh=>h2 h.2)];rfl
  ·have h1':((bU bL p x).Op==6)=false:=by simpa using h1
   rw[h1',aM (λh=>h1 h.1)];rfl
 | @sA x y a w hn hs' wx wy ix iy=>
  intro hw hs hok ht p hp hpt;have hx:=ix hw hs (sm hok (by simp)) (ht.bV (by simp)) p hp hpt;have hy:=iy hw hs (sm hok (by simp)) (ht.bV (by simp)) p hp hpt;have i0:aj [x,y] 0=some x:=rfl;have i1:aj [x,y] 1=some y:=rfl;rw[Dl,pz,yZ hB p hp _ hok,gI,au,rl];refine hd ?_;simp only[Int.reduceBEq,aB,aC,i0,i1,au,hx,hy,Ea];show _=some (ki _ (cx bL p [x,y]));rw[cx,cx,cx,ki];by_cases h1:(bU bL p x).Op=6
  ·have h1':((bU bL p x).Op==6)=true:=by simpa using h1
   rw[h1',bg h1];rfl
  ·have h1':((bU bL p x).Op==6)=false:=by simpa using h1
   rw[h1',aM h1];by_cases h2:(bU bL p y).Op=6
   ·have h2':((bU bL p y).Op==6)=true:=by simpa using h2
    rw[h2',bg h2];rfl
   ·have h2':((bU bL p y).Op==6)=false:=by simpa using h2
    rw[h2',aM h2];rfl
 | @sT kids a w h0 hk6 hb hl wk ik=>
  intro hw hs hok ht p hp hpt;rw[Dl,pz,yZ hB p hp _ hok,gI,au,rl];refine hd ?_;simp only[Int.reduceBEq,aB,aC];show _=some (kF _ (dM bL p 0 kids));generalize he:(⟨25,w,0,[],a,kids⟩:ab)=e at*
  have hkk:e.Kids=kids:=by rw[<-he]
  refine ae.of (eo (L:=λi (s:List ab×Bool)=>(qw Pf) p e s.1 s.2 i) (P:=(·=kF e (dM bL p 0 kids))) (len:=kids.length) (λi s=>s.1=(dM bL p 0 kids).take i/\s.2=((dM bL p 0 kids).take i).all (·.Op==6)) (λi s hi hI k=>?_) (λs hI=>?_) 0 ([],true) (by omega) ⟨rfl,rfl⟩)
  ·show ae ((qw Pf) p e s.1 s.2 i) _;obtain⟨x,hx⟩:=bo hi;obtain⟨pt,hq⟩:=bo (l:=w.aD.ai) (i:=i) (by omega);have hm:=aV hx;have wq:=jd hw hs (aV hq);have hpq:p.aO.aD.ai[i]? =some pt:=by rw[hpt];exact hq
   have hf:TT B (iV p i):= .mk (by rw[Km hpq];exact wq) (λk hk=>by simp[iV]at hk;subst hk;exact hp);have ex:=ik i x pt hx hq wq rfl (sm hok (by rw[hkk];exact hm)) (ht.bV (by rw[hkk];exact hm)) (iV p i) hf (by rw[Km hpq]);have hg:(dM bL p 0 kids)[i]? =some (bU bL (iV p i) x):=by rw[ru,hx];simp
   have hlen:(dM bL p 0 kids).length=kids.length:=oQ _ _ _;have:decide (i<kids.length)=true:=by simpa using hi
   rw[Vk,vV,ab.aH,hkk,a7,this,aB,bf hx,au,bf hpq,au,bW i (by omega)];rw[Km hpq]at ex hg;have ex:(f27 Pf) {Op:=19,aO:={a6:=0,aD:=pt:aQ},N:=(i:Int),Text:=[],At:=0,Kids:=[p]:ab} x=_:=ex;rw[ex,au,Ea,Hn (by rw[hI.1];simp;omega)];have e1:=Ho hg;have:=hI.2;cases hb2:s.2 with
   |true=>
    rw[hb2]at this;exact k (_,_) ⟨by show s.1++[_]=_;rw[hI.1];exact e1,by show _=List.all _ _;rw[<-e1,Sb,<-this];simp⟩
   |false=>
    rw[hb2]at this;exact k (_,_) ⟨by show s.1++[_]=_;rw[hI.1];exact e1,by show _=List.all _ _;rw[<-e1,Sb,<-this];simp⟩
  ·show ae ((qw Pf) p e s.1 s.2 kids.length) _;have hlen:(dM bL p 0 kids).length=kids.length:=oQ _ _ _;rw[<-hlen,eV]at hI;have:decide (kids.length<kids.length)=false:=by simp
   rw[Vk,vV,ab.aH,hkk,a7,this,aC,rl,hI.1];unfold kF;have h2:=hI.2;cases hb2:s.2 with
   |true=>rw[hb2]at h2;rw[bg h2.symm];exact ae.ret rfl
   |false=>rw[hb2]at h2;rw[aM (by rw[<-h2];simp)];exact ae.ret rfl
 | @map kids pt a w h0 hk5 hb hq wk wv i1 i2=>
  intro hw hs hok ht p hp hpt;rw[Dl,pz,yZ hB p hp _ hok,gI,au,rl];refine hd ?_;simp only[Int.reduceBEq,aB,aC];show _=some (kG _ (dB bL p none (kids.flatMap λq=>[q.1,q.2])));rw[E2];have hK:(kids.flatMap λq=>[q.1,q.2]).length=2*kids.length:=Ep _;generalize he:(⟨24,w,0,[],a,kids.flatMap λq=>[q.1,q.2]⟩:ab)=e at*
  have hkk:e.Kids=kids.flatMap λq=>[q.1,q.2]:=by rw[<-he]
  show(og Pf) p e [] (2*((0:Nat):Int))=_;refine ae.of (eo (L:=λ(j:Int) s=>(og Pf) p e s (2*j)) (P:=(·=kG e ((ib bL p kids).flatMap λr=>[r.1,r.2]))) (len:=kids.length) (λj s=>s=(ib bL p (kids.take j)).flatMap λr=>[r.1,r.2]) (λj s hj hI k=>?_) (λs hI=>?_) 0 [] (by omega) rfl)
  ·show ae ((og Pf) p e s (2*(j:Int))) _;have k':∀b',b'=((ib bL p (kids.take (j+1))).flatMap λr=>[r.1,r.2])->ae ((og Pf) p e b' (2*((j+1:Nat):Int))) _:=k;obtain⟨r,hr⟩:=bo hj;have fg:=Wo hr;have m1:=aV fg.1;have m2:=aV fg.2;have wq:=jd hw hs (aV hq);have hpq:p.aO.aD.ai[0]? =some pt:=by rw[hpt];exact hq
   have hf:TT B (dj p r.1):= .mk (by rw[Kn hpq];exact wq) (λk hk=>by
    simp[dj]at hk;rcases hk with rfl|rfl
    ·exact hp
    ·exact ht.bV (by rw[hkk];exact m1))
   have ex:=i2 r (aV hr) wq rfl (sm hok (by rw[hkk];exact m2)) (ht.bV (by rw[hkk];exact m2)) (dj p r.1) hf (by rw[Kn hpq]);have z2:IntKind.i64.wrap (((2*j:Nat):Int)+1)=((2*j+1:Nat):Int):=bW _ (by omega);have z3:IntKind.i64.wrap (((2*j:Nat):Int)+2)=2*((j+1:Nat):Int):=by rw[wrap64 (by omega) (by omega)];omega
   have hlt:decide (2*j<(kids.flatMap λq=>[q.1,q.2]).length)=true:=by rw[hK];simp;omega
   have hsl:s.length<=2*j:=by rw[hI];exact iM ael (by rw[iK];omega)
   have e0:aj p.aO.aD.ai 0=some pt:=hpq;rw[show(2*(j:Int))=((2*j:Nat):Int)by omega,Vl,vW,ab.aH,hkk,a7,hlt,aB,z2,z3,e0,au,bf fg.1,au,bf fg.2,au];have e1:=acY (q:=bL) (p:=p) (l:=kids.take j) (r:=r);rw[Ho hr,<-hI]at e1;have ex':(f27 Pf) {Op:=20,aO:={a6:=0,aD:=pt:aQ},N:=0,Text:=[],At:=0,Kids:=[p,r.1]:ab} r.2=some (bU bL (dj p r.1) r.2):=by
    rw[Kn hpq]at ex⊢;exact ex
   rw[ex',au,Ea,au];by_cases h6:(bU bL (dj p r.1) r.2).Op=6
   ·rw[bg h6,jO]at e1;rw[show((bU bL (dj p r.1) r.2).Op==6)=true by simpa using h6];exact k' _ e1.symm
   ·rw[aM h6]at e1;rw[show((bU bL (dj p r.1) r.2).Op==6)=false by simpa using h6,au,Hn (by simp;omega)];exact k' _ e1.symm
  ·show ae ((og Pf) p e s (2*(kids.length:Int))) _;rw[eV]at hI;have hlt:decide (2*kids.length<(kids.flatMap λq=>[q.1,q.2]).length)=false:=by rw[hK];simp
   rw[show(2*(kids.length:Int))=((2*kids.length:Nat):Int)by omega,Vl,vW,ab.aH,ab.aH,hkk,a7,hlt,aC,rl,<-hI];unfold kG;by_cases hn:s=[]
   ·rw[bg hn,hn];exact ae.ret rfl
   ·rw[aM hn,show((s.length:Int)==0)=false by simpa using hn];exact ae.ret rfl
 |xz h1 h2 h3 h4 h5=>exact lf (by simp at h1⊢;omega)
 |part h1 h2 h3 h4 h5 h6=>exact lf (by simp;omega)
 |conn h1 h2 h3 h4=>exact lf (by simp;omega)
 |less h1 h2 h3 h4=>exact lf (by simp;omega)
 |AZ h1 h2 h3 h4=>exact lf (by simp;omega)
 |_=>exact lf (by simp)
