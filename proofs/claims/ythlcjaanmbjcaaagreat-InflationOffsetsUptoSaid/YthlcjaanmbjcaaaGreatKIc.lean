/- The carriers of an accepted update are offsets of occurrences of the state; what is blamed is a part. -/
import Derived.Test.YthlcjaanmbjcaaaGreatKIj
set_option linter.all false
namespace Go.Proofs.YthlcjaanmbjcaaaGreat
open Go Go.Bw
structure CX (c c':List Int) (x:ab):Prop where
 nd:c.Nodup->c'.Nodup
 mem:∀n∈c',n∈c\/∃y,Sb y x/\y.Op=5/\y.At=n
 len:c'.length<=c.length+eY x
theorem CX.refl (c:List Int) (x:ab):CX c c x:=⟨id,λ_ h=> .inl h,by omega⟩
theorem CX.up {c c':List Int} {k x:ab} (h:CX c c' k) (hk:k∈x.Kids):CX c c' x:=
 ⟨h.nd,λn hn=>(h.mem n hn).imp id λ⟨y,h1,h2⟩=>⟨y,.kz hk h1,h2⟩,by have:=h.len;have:=sE hk;omega⟩
theorem Ti {x a b:ab} {i j:Nat} (ha:x.Kids[i]? =some a) (hb:x.Kids[j]? =some b) (h:i<j):eY a+eY b<eY x:=by
 have h1:=KT hb;have h2:=SX (ks:=x.Kids) (i:=j+1);have h3:eY a<=fq (x.Kids.take j):=Dz (bV (i:=i) (by rw[gV,cV h];exact ha));rw[sQ x];omega
theorem CX.two {c c' c'':List Int} {a b x:ab} {i j:Nat} (h:CX c c' a) (g:CX c' c'' b) (ha:x.Kids[i]? =some a) (hb:x.Kids[j]? =some b) (hij:i<j):CX c c'' x:=by
 have:=Ti ha hb hij;refine⟨λn=>g.nd (h.nd n),λn hn=>?_,by have:=h.len;have:=g.len;omega⟩;rcases g.mem n hn with hn|⟨y,h1,h2⟩
 ·exact(h.mem n hn).imp id λ⟨y,h1,h2⟩=>⟨y,.kz (bV ha) h1,h2⟩
 ·exact .inr ⟨y,.kz (bV hb) h1,h2⟩
theorem CX.add (c:List Int) {x:ab} (h:x.Op=5):CX c (jY c x.At) x:=by
 unfold jY;cases hc:c.contains x.At with
 |true=>exact .refl c x
 |false=>
  have hn:x.At∉c:=by simpa using hc
  refine⟨λn=>?_,λn hm=>?_,by rw[sQ];simp⟩
  ·exact jd.2 ⟨n,by simp,λa ha b hb=>by simp at hb;subst hb;exactλe=>hn (e▸ha)⟩
  ·rcases ck.1 hm with hm|hm
   ·exact .inl hm
   ·simp at hm;exact .inr ⟨x,.refl,h,hm.symm⟩
theorem na {x y:ab} {i:Nat} (e:(f30 Pf) x i=some y) (h:y≠zE):x.Kids[i]? =some y:=by
 obtain⟨r,e',hr⟩:=wM x i;rw[e]at e';cases e';rcases hr with hr|⟨_,hr⟩
 ·exact hr
 ·exact absurd hr h
theorem kc {x y:ab} {t:bd} {i:Nat} (e:(f30 Pf) x i=some y) (h:(f21 Pf) t y=some true):x.Kids[i]? =some y:=na e λe'=>by rw[e',Oi]at h;cases h
theorem kh {x y:ab} {t:bd} {i:Nat} (e:(f30 Pf) x i=some y) (h:(f34 Pf) t y=some true):x.Kids[i]? =some y:=na e λe'=>by rw[e',NF]at h;cases h
theorem kr {x y:ab} {t:bd} {w:aB} {i:Nat} (e:(f30 Pf) x i=some y) (h:(f35 Pf) t y w=some true):x.Kids[i]? =some y:=na e λe'=>by rw[e',MG]at h;cases h
theorem ku {x y:ab} {t:bd} {w:aB} {i:Nat} (e:(f30 Pf) x i=some y) (h:(f36 Pf) t y w=some true):x.Kids[i]? =some y:=na e λe'=>by rw[e',MH]at h;cases h
theorem ka {x y:ab} {i:Nat} (e:(f30 Pf) x i=some y) (h:(f52 Pf) y=some true):x.Kids[i]? =some y:=na e λe'=>by rw[e',PT,qV]at h;cases h
theorem nb (x:ab) (i:Nat):∃y,(f30 Pf) x i=some y:=by obtain⟨y,e,_⟩:=wM x i;exact⟨y,e⟩
theorem va {x y z:ab} {i j:Nat} (e:(f30 Pf) x i=some y) (h:x.Kids[j]? =some z) (hij:i<j):x.Kids[i]? =some y:=by
 obtain⟨u,hu⟩:=b3 (l:=x.Kids) (i:=i) (by have:=(cT.1 h).1;omega);have:=pW hu;rw[e]at this;cases this;exact hu
theorem Tb (c:List Int):∀(x:ab) (t:bd),t.path.length<1000000->(f29 Pf) t x=some true->ae ((xl Pf) c x) (λr=>CX c r.2 x):=by
 refine ab.ind λx ih t ht h=>?_;rw[Te,xk];rw[zZ,mC]at h;cases h5:x.Op==5 with
 |true=>
  have:(x.Op !=5)=false:=by simp only[bne,h5];rfl
  rw[this];exact ae.ret (CX.add c (by simpa using h5))
 |false=>
  have:(x.Op !=5)=true:=by simp only[bne,h5];rfl
  rw[this,bZ];rw[h5,cw]at h;obtain⟨y2,e2,_⟩:=EO x;rw[e2,aP]at h;cases b2:y2.2 with
  |false=>rw[b2]at h;cases h
  |true=>
  rw[b2,u1,cw]at h;obtain⟨y4,e4,h4⟩:=FI t y2.1 ht;rw[e4,aP]at h;cases b4:y4.2 with
  |false=>rw[b4]at h;cases h
  |true=>
  rw[b4,bZ]at h;obtain⟨y6,e6⟩:=nb x 0;have e6':(f30 Pf) x 0=some y6:=e6;rw[e6',aP]at h;have hi:(f29 Pf) y4.1 y6=some true:=by
   obtain⟨r,er,_⟩:=NG y6 y4.1 (by have:=h4.1;omega);rw[er]at h⊢;exact h
  have hk:x.Kids[0]? =some y6:=na e6 λe=>by rw[e,Hf]at hi;cases hi
  have hm:=bV hk;rw[show aq x.Kids 0=some y6 from hk,aP];exact(ih y6 hm y4.1 (by have:=h4.1;omega) hi).mono λr hr=>hr.up hm
section
variable {B:Nat} (hB:B<=1048576)
include hB
theorem Ta {x:ab} {t:bd} (hx:x.ok B) (ht:t.path.length+eY x<1000000):ae ((f37 Pf) t x) (λr=>decide (r>=0)=true->∃(i:Nat) (k z:ab),r=(i:Int)/\x.Kids[i]? =some k/\k.Kids[0]? =some z/\(f21 Pf) t z=some true):=by
 rw[ab.dv]at hx;obtain⟨_,hty,_,_,_,hkl,hkk⟩:=hx;rw[PU,qX,MI,nh];refine ae.bind (P:=λr=>decide (r>=0)=true->∃(i:Nat) (k z:ab),r=(i:Int)/\x.Kids[i]? =some k/\k.Kids[0]? =some z/\(f21 Pf) t z=some true) ?_ (λ_ h=>ae.ret h);refine kJ (L:=λi=>(lE Pf) x.Kids x t i) (len:=x.Kids.length) (λ_=>True) (λi hi _ k=>?_) (λ_=>?_) 0 (by omega) trivial
 ·show ae ((lE Pf) x.Kids x t i) _;obtain⟨y,hy⟩:=b3 hi;have hyo:=ab.gf hkk (bV hy);have hyo':=hyo;rw[ab.dv]at hyo';have:decide (i<x.Kids.length)=true:=by simpa using hi
  rw[CS,mV,ab.a8,bO,this,bZ,b0 hy,aP,cI i (by omega)];refine ae.bind (P:=λr=>r=true->∃z,y.Kids[0]? =some z/\(f21 Pf) t z=some true) ?_ (λ_ h=>ae.bif (λe=>ae.ret λ_=>?_) (λ_=>k trivial))
  ·rw[PV,qY,ab.a8];refine ae.bif (λ_=>ae.bif (λhl=>?_) (λ_=>ae.ret λe=>by cases e)) (λ_=>ae.ret λe=>by cases e);obtain⟨z,hz⟩:=b3 (l:=y.Kids) (i:=0) (by simp at hl;exact hl);have e0:aq y.Kids 0=some z:=hz;have hzm:=bV hz;have hzo:=ab.gf hyo'.2.2.2.2.2.2 hzm;have hzo':=hzo;rw[ab.dv]at hzo';have c1:=sE hzm;have c2:=sE (bV hy);rw[e0];simp only[aP];refine ae.bind (pA (B:=B) (by omega) hzo'.2.1.2) (λ_ _=>ae.bif (λ_=>?_) (λ_=>ae.ret λe=>by cases e));obtain⟨r,e,_⟩:=(PO hB hzo (t:=t) (by omega)).gQ;rw[e,aP];exact ae.ret λg=>⟨z,hz,by rw[g]at e;exact e⟩
  ·obtain⟨z,h1,h2⟩:=h e;exact⟨i,y,z,rfl,hy,h1,h2⟩
 ·show ae ((lE Pf) x.Kids x t x.Kids.length) _;have:decide (x.Kids.length<x.Kids.length)=false:=by simp
  rw[CS,mV,ab.a8,bO,this,cw];exact ae.ret λe=>absurd e (by decide)
theorem S0 {x:ab} {t:bd} (hx:x.ok B) (ht:t.path.length+eY x<1000000):∀(k i:Nat),k=x.Kids.length-i->(lT Pf) t x (i:Int)=some true->∀j y,i<=j->x.Kids[j]? =some y->(f21 Pf) ⟨t.path++[(j:Int)]⟩ y=some true
 |0,i,hk,_,j,y,hij,hy=>by have:=(cT.1 hy).1;omega
 |k+1,i,hk,h,j,y,hij,hy=>by
  have hx':=hx;rw[ab.dv]at hx';obtain⟨_,_,_,_,_,hkl,hkk⟩:=hx';have hi:i<x.Kids.length:=by omega
  obtain⟨z,hz⟩:=b3 hi;have hzm:=bV hz;have:decide (i<x.Kids.length)=true:=by simpa using hi
  rw[FJ,nF,ab.a8,bO,this,bZ,b0 hz,aP,xN t _ (by omega),aP,cI i (by omega)]at h;obtain⟨r,e,_⟩:=(PO hB (ab.gf hkk hzm) (t:=⟨t.path++[(i:Int)]⟩) (by have:=sE hzm;simp;omega)).gQ;rw[e,aP]at h;cases r with
  |false=>cases h
  |true=>
  rcases Tp hij with rfl|hlt
  ·rw[hz]at hy;cases hy;exact e
  ·exact S0 hx ht k (i+1) (by omega) h j y hlt hy
structure S5 (x:ab) (t:bd):Prop where
 gQ:(f21 Pf) t x=some true->∀c,ae ((f23 Pf) c x t) (λr=>CX c r.2 x)
 hold:(f34 Pf) t x=some true->∀c,ae ((f38 Pf) c x t) (λr=>CX c r.2 x)
 reach:∀w,(f35 Pf) t x w=some true->∀c,ae ((f39 Pf) c x t w) (λr=>CX c r.2 x)
 under:∀w,(f36 Pf) t x w=some true->∀c,ae ((f39 Pf) c x t w) (λr=>CX c r.2 x)
theorem vb:∀(n:Nat) (x:ab),eY x<n->x.ok B->∀t:bd,t.path.length+eY x<1000000->S5 x t
 |0,x,h=>by omega
 |n+1,x,hn=>λhx t ht=>by
  have hx':=hx;rw[ab.dv]at hx';obtain⟨_,hty,_,_,_,hkl,hkk⟩:=hx';have hp:t.path.length<1000000:=by omega
  have A:∀{k:ab} {i:Nat},(f30 Pf) x i=some k->∀u:bd,u.path.length<=t.path.length+1->qW k u:=λ{k i} e u hu=>by
   obtain⟨r,e',hr⟩:=wM x i;rw[e]at e';cases e';rcases hr with hr|⟨_,rfl⟩
   ·have hm:=bV hr;exact PO hB (ab.gf hkk hm) (by have:=sE hm;omega)
   ·exact Oj u
  have C:∀{k:ab} {i:Nat},x.Kids[i]? =some k->∀u:bd,u.path.length<=t.path.length+1->S5 k u:=λ{k i} hk u hu=>by
   have hm:=bV hk;exact vb n k (by have:=sE hm;omega) (ab.gf hkk hm) u (by have:=sE hm;omega)
  obtain⟨k0,e0⟩:=nb x 0;obtain⟨k1,e1⟩:=nb x 1;obtain⟨k2,e2⟩:=nb x 2;have e0':(f30 Pf) x 0=some k0:=e0;have e1':(f30 Pf) x 1=some k1:=e1;have e2':(f30 Pf) x 2=some k2:=e2;have i0:x.Kids[0]? =some k0->aq x.Kids 0=some k0:=λh=>h;have i1:x.Kids[1]? =some k1->aq x.Kids 1=some k1:=λh=>h;have i2:x.Kids[2]? =some k2->aq x.Kids 2=some k2:=λh=>h;have one:∀{i:Nat} {k:ab} {c:List Int} {o:Option (Unit×List Int)},x.Kids[i]? =some k->ae o (λr=>CX c r.2 k)->ae (o.bind λy=>some ((),y.2)) (λr=>CX c r.2 x):=λhk h=>ae.bind h λy hy=>ae.ret (hy.up (bV hk))
  --the number of a part
  have num:∀w,(f53 Pf) t x w=some true->∀c,ae ((f39 Pf) c x t w) (λr=>CX c r.2 x):=λw h c=>by
   rw[Ig,oM]at h;cases h31:x.Op==31 with
   |false=>rw[h31]at h;cases h
   |true=>
   rw[h31,bZ,e0',aP]at h;have bQ:x.Op=31:=by simpa using h31
   cases hs:(f55 Pf) k0.aA {aS:=0,aF:=w.aF}with
   |none=>rw[hs]at h;cases h
   |some b=>
   rw[hs,aP]at h;cases b with
   |false=>cases h
   |true=>
   rw[bZ,aP]at h;obtain⟨r,e,_⟩:=(A e0 t (by omega)).gQ;rw[e,aP]at h;cases h;have hk:=kc e0 e;rw[L',Ah,bQ];show ae ((aq x.Kids 0).bind _) _;rw[i0 hk,aP];exact one hk ((C hk t (by omega)).gQ e c)
  refine⟨λh c=>?_,λh c=>?_,λw h c=>?_,λw h c=>?_⟩
  ·--covers
   rw[qR,ky]at h;obtain⟨b,eb,_⟩:=NG x t hp;rw[Tn,Ad,eb,aP];rw[eb,aP]at h;cases b with
   |true=>exact Tb c x t hp eb
   |false=>
   rw[cw]at h⊢;cases h16:x.Op==16 with
   |true=>
    rw[h16,bZ,e0',aP]at h;rw[bZ];obtain⟨r,e,_⟩:=(A e0 t (by omega)).gQ;rw[e,aP]at h;cases r with
    |true=>
     have hk:=kc e0 e;rw[i0 hk,aP,e,aP,bZ,aP];exact one hk ((C hk t (by omega)).gQ e c)
    |false=>
     rw[cw,e1',aP]at h;obtain⟨r',e',_⟩:=(A e1 t (by omega)).gQ;rw[e',aP]at h;cases h;have hk1:=kc e1 e';have hk0:=va e0 hk1 (by omega);rw[i0 hk0,aP,e,aP,cw,i1 hk1,aP];exact one hk1 ((C hk1 t (by omega)).gQ e' c)
   |false=>
   rw[h16,cw]at h;rw[cw];cases h7:x.Op==7 with
   |true=>
    rw[h7,bZ,e1',aP]at h;rw[bZ];obtain⟨r,e,_⟩:=(A e1 t (by omega)).gQ;rw[e,aP]at h;cases r with
    |false=>cases h
    |true=>
    rw[bZ,e2',aP]at h;obtain⟨r',e',_⟩:=(A e2 t (by omega)).gQ;rw[e',aP]at h;cases h;have hk1:=kc e1 e;have hk2:=kc e2 e';rw[i1 hk1,aP];refine ae.bind ((C hk1 t (by omega)).gQ e c) λy hy=>?_;rw[i2 hk2,aP];exact ae.bind ((C hk2 t (by omega)).gQ e' _) λz hz=>ae.ret (hy.two hz hk1 hk2 (by omega))
   |false=>
   rw[h7,cw]at h;rw[cw];cases h25:x.Op==25 with
   |true=>
    rw[h25,bZ]at h;rw[bZ];have all:=S0 hB hx ht _ 0 rfl h;refine(jO (L:=λi c'=>(xn Pf) x t i c') (P:=λr:Unit×List Int=>CX c r.2 x) (len:=x.Kids.length) (λi c'=>(c.Nodup->c'.Nodup)/\(∀n∈c',n∈c\/∃y,Sb y x/\y.Op=5/\y.At=n)/\c'.length<=c.length+fq (x.Kids.take i)) (λi c' hi hI kk=>?_) (λc' hI=>?_) 0 c (by omega) ⟨id,λ_ h=> .inl h,by omega⟩)
    ·show ae ((xn Pf) x t i c') _;obtain⟨y,hy⟩:=b3 hi;have hm:=bV hy;have:decide (i<x.Kids.length)=true:=by simpa using hi
     rw[S4,xm,ab.a8,bO,this,bZ,b0 hy,aP,xN t _ hp,aP,cI i (by omega)];refine ae.bind ((C hy _ (by simp)).gQ (all i y (by omega) hy) c') λr hr=>kk r.2 ⟨λn=>hr.nd (hI.1 n),λn hn=>?_,by rw[KT hy];have:=hr.len;have:=hI.2.2;omega⟩;rcases hr.mem n hn with hn|⟨z,h1,h2⟩
     ·exact hI.2.1 n hn
     ·exact .inr ⟨z,.kz hm h1,h2⟩
    ·show ae ((xn Pf) x t x.Kids.length c') _;have:decide (x.Kids.length<x.Kids.length)=false:=by simp
     rw[uT]at hI;rw[S4,xm,ab.a8,bO,this,cw];exact ae.ret ⟨hI.1,hI.2.1,by rw[sQ];have:=hI.2.2;show c'.length<=_;omega⟩
   |false=>
   rw[h25,cw]at h;rw[cw];cases h26:x.Op==26 with
   |true=>
    rw[h26,bZ,xN t _ hp,aP,e0',aP]at h;rw[bZ];obtain⟨r,e,_⟩:=(A e0 ⟨t.path++[-1]⟩ (by simp)).gQ;rw[e,aP]at h;cases r with
    |false=>cases h
    |true=>
    rw[bZ,xN t _ hp,aP,e1',aP]at h;obtain⟨r',e',_⟩:=(A e1 ⟨t.path++[-2]⟩ (by simp)).gQ;rw[e',aP]at h;cases h;have hk0:=kc e0 e;have hk1:=kc e1 e';rw[i0 hk0,aP,xN t _ hp,aP];refine ae.bind ((C hk0 _ (by simp)).gQ e c) λy hy=>?_;rw[i1 hk1,aP,xN t _ hp,aP];exact ae.bind ((C hk1 _ (by simp)).gQ e' _) λz hz=>ae.ret (hy.two hz hk0 hk1 (by omega))
   |false=>
   rw[h26,cw]at h;rw[cw];cases h28:x.Op==28 with
   |true=>
    rw[h28,bZ,e0',aP]at h;rw[bZ];obtain⟨r,e,_⟩:=(A e0 t (by omega)).gQ;rw[e,aP]at h;cases h;have hk:=kc e0 e;rw[i0 hk,aP];exact one hk ((C hk t (by omega)).gQ e c)
   |false=>
   rw[h28,cw]at h;rw[cw];have proj:(((f32 Pf) x).bind λy35=>bif !y35.snd then some false else((f33 Pf) t y35.fst).bind λy37=>bif y37.snd then((f30 Pf) x 0).bind λy39=>((f21 Pf) y37.fst y39).bind λy40=>some y40 else some false)=some true->
     ae (((f32 Pf) x).bind λy47=>((f33 Pf) t y47.fst).bind λy48=>(aq x.Kids 0).bind λx49=>((f23 Pf) c x49 y48.fst).bind λy51=>some ((),y51.snd)) (λr=>CX c r.2 x):=λh=>by
    obtain⟨y2,q2,_⟩:=EO x;rw[q2,aP]at h⊢;cases b2:y2.2 with
    |false=>rw[b2]at h;cases h
    |true=>
    rw[b2,u1,cw]at h;obtain⟨y4,q4,h4⟩:=FI t y2.1 hp;rw[q4,aP]at h⊢;cases b4:y4.2 with
    |false=>rw[b4]at h;cases h
    |true=>
    rw[b4,bZ,e0',aP]at h;obtain⟨r,e,_⟩:=(A e0 y4.1 (by have:=h4.1;omega)).gQ;rw[e,aP]at h;cases h;have hk:=kc e0 e;rw[i0 hk,aP];exact one hk ((C hk _ (by have:=h4.1;omega)).gQ e c)
   cases h19:x.Op==19 with
   |true=>
    rw[h19,bZ]at h;rw[bZ];exact proj h
   |false=>
   rw[h19,cw]at h;rw[cw];cases h35:x.Op==35 with
   |true=>
    rw[h35,bZ]at h;rw[bZ];exact proj h
   |false=>
   rw[h35,cw]at h;rw[cw];cases h21:x.Op==21 with
   |true=>
    rw[h21,bZ,e0',aP]at h;rw[bZ];obtain⟨r,e,_⟩:=(A e0 t (by omega)).hold;rw[e,aP]at h;cases h;have hk:=kh e0 e;rw[i0 hk,aP];exact one hk ((C hk t (by omega)).hold e c)
   |false=>
   rw[h21,cw]at h;rw[cw];cases h22:x.Op==22 with
   |true=>
    rw[h22,bZ]at h;rw[bZ];cases k2':x.aA.aF.Kind==2 with
    |true=>
     rw[k2',bZ,e0',aP]at h;obtain⟨r,e,_⟩:=(A e0 t (by omega)).reach x.aA;rw[e,aP]at h;cases h;have hk:=kr e0 e;rw[i0 hk,aP];exact one hk ((C hk t (by omega)).reach _ e c)
    |false=>
    rw[k2',cw]at h;cases k3':x.aA.aF.Kind==3 with
    |true=>
     rw[k3',bZ,e0',aP]at h;obtain⟨r,e,_⟩:=(A e0 t (by omega)).under x.aA;rw[e,aP]at h;cases h;have hk:=ku e0 e;rw[i0 hk,aP];exact one hk ((C hk t (by omega)).under _ e c)
    |false=>rw[k3']at h;cases h
   |false=>
   rw[h22,cw]at h;rw[cw];cases h23:x.Op==23 with
   |false=>rw[h23]at h;cases h
   |true=>
   rw[h23,bZ]at h;rw[bZ];obtain⟨r,e,hr⟩:=Ta hB hx ht;rw[e,aP]at h⊢;obtain⟨i,k,z,rfl,hk,hz,hc⟩:=hr (cQ h);rw[b0 hk,aP,show aq k.Kids 0=some z from hz,aP];have hkm:=bV hk;have hzm:=bV hz;have hko:=ab.gf hkk hkm;rw[ab.dv]at hko;have c1:=sE hkm;have c2:=sE hzm;exact ae.bind ((vb n z (by omega) (ab.gf hko.2.2.2.2.2.2 hzm) t (by omega)).gQ hc c) λy hy=>ae.ret ((hy.up hzm).up hkm)
  ·--holds
   rw[Ie,oL]at h;rw[To,Af];cases h2:x.Op==2 with
   |true=>
    have bQ:x.Op=2:=by simpa using h2
    rw[bQ];exact ae.ret (CX.refl c x)
   |false=>
   rw[h2,cw]at h;cases h32:x.Op==32 with
   |true=>
    rw[h32,bZ,e0',aP]at h;rw[bZ];obtain⟨r,e,_⟩:=(A e0 t (by omega)).gQ;rw[e,aP]at h;cases h;have hk:=kc e0 e;rw[i0 hk,aP];exact one hk ((C hk t (by omega)).gQ e c)
   |false=>
   rw[h32,cw]at h;rw[cw];cases h8:x.Op==8 with
   |true=>
    rw[h8,bZ,e0',aP]at h;rw[bZ];obtain⟨r,e,_⟩:=(A e0 t (by omega)).hold;rw[e,aP]at h;cases r with
    |true=>
     have hk:=kh e0 e;rw[i0 hk,aP,e,aP,bZ,aP];exact one hk ((C hk t (by omega)).hold e c)
    |false=>
     rw[cw,e1',aP]at h;obtain⟨r',e',_⟩:=(A e1 t (by omega)).hold;rw[e',aP]at h;cases h;have hk1:=kh e1 e';have hk0:=va e0 hk1 (by omega);rw[i0 hk0,aP,e,aP,cw,i1 hk1,aP];exact one hk1 ((C hk1 t (by omega)).hold e' c)
   |false=>
   rw[h8,cw]at h;rw[cw];cases h9:x.Op==9 with
   |false=>rw[h9]at h;cases h
   |true=>
   rw[h9,bZ,e0',aP]at h;rw[bZ];obtain⟨r,e,_⟩:=(A e0 t (by omega)).hold;rw[e,aP]at h;cases r with
   |false=>cases h
   |true=>
   rw[bZ,e1',aP]at h;obtain⟨r',e',_⟩:=(A e1 t (by omega)).hold;rw[e',aP]at h;cases h;have hk0:=kh e0 e;have hk1:=kh e1 e';rw[i0 hk0,aP];refine ae.bind ((C hk0 t (by omega)).hold e c) λy hy=>?_;rw[i1 hk1,aP];exact ae.bind ((C hk1 t (by omega)).hold e' _) λz hz=>ae.ret (hy.two hz hk0 hk1 (by omega))
  ·--reaches
   rw[Ih,oN]at h;cases h17:x.Op==17 with
   |false=>
    rw[h17,cw]at h;have:(f53 Pf) t x w=some true:=by
     cases hn:(f53 Pf) t x w with
     |none=>rw[hn]at h;cases h
     |some b=>rw[hn]at h;exact h
    exact num w this c
   |true=>
   rw[h17,bZ,e0',aP]at h;rw[L',Ah,h17,bZ];obtain⟨r,e,_⟩:=(A e0 t (by omega)).reach w;rw[e,aP]at h;obtain⟨r',e',_⟩:=(A e1 t (by omega)).reach w;obtain⟨a1,f1,_⟩:=wN k1;obtain⟨a0,f0,_⟩:=wN k0;simp only[e1',aP,f1,e',e0',f0]at h;cases r with
   |true=>
    have hk0:=kr e0 e;cases a1 with
    |true=>
     have hk1:=ka e1 f1;rw[i0 hk0,aP,e,aP,bZ,i1 hk1,aP,f1,aP,bZ,aP];exact one hk0 ((C hk0 t (by omega)).reach w e c)
    |false=>
     cases r' with
     |false=>cases h
     |true=>
     have hk1:=kr e1 e';rw[i0 hk0,aP,e,aP,bZ,i1 hk1,aP,f1,aP,cw,aP];exact one hk1 ((C hk1 t (by omega)).reach w e' c)
   |false=>
    cases r' with
    |false=>cases h
    |true=>
    have hk1:=kr e1 e';have hk0:=va e0 hk1 (by omega);rw[i0 hk0,aP,e,aP,cw,i1 hk1,aP];exact one hk1 ((C hk1 t (by omega)).reach w e' c)
  ·--under
   rw[Ii,oO]at h;cases h18:x.Op==18 with
   |false=>
    rw[h18,cw]at h;have:(f53 Pf) t x w=some true:=by
     cases hn:(f53 Pf) t x w with
     |none=>rw[hn]at h;cases h
     |some b=>rw[hn]at h;exact h
    exact num w this c
   |true=>
   rw[h18,bZ,e0',aP]at h;have bQ:x.Op=18:=by simpa using h18
   rw[L',Ah,bQ];obtain⟨r,e,_⟩:=(A e0 t (by omega)).under w;rw[e,aP]at h;cases r with
   |false=>cases h
   |true=>
   have hk0:=ku e0 e;show ae ((aq x.Kids 0).bind _) _;rw[i0 hk0,aP];exact one hk0 ((C hk0 t (by omega)).under w e c)
