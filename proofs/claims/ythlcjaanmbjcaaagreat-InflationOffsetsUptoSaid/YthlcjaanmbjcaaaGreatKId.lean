/- InflationOffsets. -/
import Derived.Test.YthlcjaanmbjcaaaGreatKIc
set_option linter.all false
namespace Go.Proofs.YthlcjaanmbjcaaaGreat
open Go Go.Bw
inductive ib:ab->Prop
 |mk {x:ab}:(x.Op=7->3<=x.Kids.length)->(x.Op=26->2<=x.Kids.length)->(x.Op=28->1<=x.Kids.length)->(∀k∈x.Kids,ib k)->ib x
theorem ib.leaf {x:ab} (h:x.Op≠7/\x.Op≠26/\x.Op≠28) (hk:∀k∈x.Kids,ib k):ib x:= .mk (λe=>absurd e h.1) (λe=>absurd e h.2.1) (λe=>absurd e h.2.2) hk
theorem W.ar {l:af} {ps:List TParam} {y:ab} {w:aB} (h:W l ps y w):ib y:=by
 have no:∀k∈([]:List ab),ib k:=by simp
 have one:∀{x:ab},ib x->∀k∈[x],ib k:=λhx k hk=>by simp at hk;subst hk;exact hx
 have two:∀{x y:ab},ib x->ib y->∀k∈[x,y],ib k:=λhx hy k hk=>by simp at hk;rcases hk with rfl|rfl<;>assumption
 have three:∀{x y z:ab},ib x->ib y->ib z->∀k∈[x,y,z],ib k:=λhx hy hz k hk=>by simp at hk;rcases hk with rfl|rfl|rfl<;>assumption
 induction h with
 |int _ _ _=>exact .leaf (by simp) no
 |bool _ _=>exact .leaf (by simp) no
 |name _ _=>exact .leaf (by simp) no
 |param hp _=>exact .leaf (by simp) no
 |state _=>exact .leaf (by simp) no
 |xj _ hn=>exact .leaf (by simp) no
 |Hg hn _ _ _ i1 i2 i3=>exact .mk (by simp) (by simp) (by simp) (three i1 i2 i3)
 |Hh _ _ _ _ i1 i2 i3=>exact .mk (by simp) (by simp) (by simp) (three i1 i2 i3)
 |Hk _ _ _ _ i1 i2 i3=>exact .mk (by simp) (by simp) (by simp) (three i1 i3 i2)
 |conn h _ _ _ i1 i2=>exact .leaf (by simp only;omega) (two i1 i2)
 |not _ _ i1=>exact .leaf (by simp) (one i1)
 |less h _ _ _ i1 i2=>exact .leaf (by simp only;omega) (two i1 i2)
 |equal _ _ _ _ i1 i2=>exact .leaf (by simp) (two i1 i2)
 |Hl _ _ _ i1 i2=>exact .leaf (by simp) (two i1 i2)
 |Hm _ _ _ _ i1 i2=>exact .leaf (by simp) (two i1 i2)
 |Hn _ _ _ _ i1 i2=>exact .leaf (by simp) (two i2 i1)
 |GW hn _ _ _ i1 i2=>exact .leaf (by simp) (two i1 i2)
 |GX _ _ _ _ i1 i2=>exact .leaf (by simp) (two i1 i2)
 |GY _ _ _ _ i1 i2=>exact .leaf (by simp) (two i2 i1)
 |yB h _ _ _ i1 i2=>exact .leaf (by simp only;omega) (two i1 i2)
 |field _ hs _ _ hp _ i1=>exact .leaf (by simp) (one i1)
 |at_ _ hs _ hp _ _ i1 i2=>exact .leaf (by simp) (two i1 i2)
 |flag h0 hk _ i1=>exact .leaf (by simp) (one i1)
 |num h0 hk _ i1=>exact .leaf (by simp) (one i1)
 |Ho h0 hk _ _ i1=>exact .leaf (by simp) i1
 |map h0 hk hp _ _ i1 i2=>
  refine .leaf (by simp) (λk hm=>?_);obtain⟨q,h1,h2⟩:=fe.1 hm;simp at h2;rcases h2 with rfl|rfl
  ·exact i1 q h1
  ·exact i2 q h1
 |Hq h0 hk hl _ i1=>
  refine .leaf (by simp) (λk hm=>?_);obtain⟨i,hi⟩:=gA hm;obtain⟨p,hp⟩:=b3 (i:=i) (by rw[<-hl];exact(cT.1 hi).1);exact i1 i k p hi hp
 |pair h0 hk hp hq _ _ i1 i2=>exact .mk (by simp) (by simp) (by simp) (two i1 i2)
 |one h0 hk _ i1=>exact .leaf (by simp) (one i1)
 |write _ _ _ _ i1 i2 i3=>exact .mk (by simp) (by simp) (by simp) (three i1 i2 i3)
 |size _ _ _ i1=>exact .leaf (by simp) (one i1)
 |sum _ _ _ _ _ _ i1=>exact .leaf (by simp) (one i1)
 |Il hm _ _ _ _ i1=>exact .leaf (by simp at hm;simp only;omega) (one i1)
 |part h _ hs _ hp _ i1=>exact .leaf (by simp only;omega) (one i1)
theorem S8:∀x:ab,eY x<1000000->ae ((f12 Pf) x) (λr=>r.length<=eY x/\∀y,Sb y x->y∈r):=by
 refine ab.ind λx ih h=>?_;rw[Tj,uw];have hc:=sQ x;refine(jO (L:=λi s=>(xp Pf) x s i) (P:=λr=>r.length<=eY x/\∀y,Sb y x->y∈r) (len:=x.Kids.length) (λi s=>s.length<=1+fq (x.Kids.take i)/\x∈s/\∀j k y,j<i->x.Kids[j]? =some k->Sb y k->y∈s) (λi s hi hI kk=>?_) (λs hI=>?_) 0 [x] (by omega) ⟨by simp,by simp,λj k y hj=>by omega⟩)
 ·show ae ((xp Pf) x s i) _;obtain⟨y,hy⟩:=b3 hi;have hm:=bV hy;have ht:=KT hy;have hle:=SX (ks:=x.Kids) (i:=i+1);have:decide (i<x.Kids.length)=true:=by simpa using hi
  have hlen:x.Kids.length<=fq x.Kids:=by
   have:∀ks:List ab,ks.length<=fq ks:=λks=>by
    induction ks with
    |nil=>simp
    |cons k ks ih=>rw[fq,sQ];simp;omega
   exact this _
  rw[S1,xo,ab.a8,bO,this,bZ,b0 hy,aP,cI i (by omega)];refine ae.bind (ih y hm (by have:=sE hm;omega)) (λr hr=>ae.bif (λ_=>kk _ ⟨by simp;have:=hr.1;have:=hI.1;omega,lv _ hI.2.1,λj k z hj hk hz=>?_⟩) (λe=>?_))
  ·rcases jK.1 hj with hj|rfl
   ·exact lv _ (hI.2.2 j k z hj hk hz)
   ·rw[hy]at hk;cases hk;exact R2 _ (hr.2 z hz)
  ·have:=hr.1;have:=hI.1;simp at e;omega
 ·show ae ((xp Pf) x s x.Kids.length) _;have:decide (x.Kids.length<x.Kids.length)=false:=by simp
  rw[uT]at hI;rw[S1,xo,ab.a8,bO,this,cw];refine ae.ret ⟨by have:=hI.1;omega,λy hy=>?_⟩;cases hy with
  |refl=>exact hI.2.1
  |kz hk hs=>
   obtain⟨j,hj⟩:=gA hk;exact hI.2.2 j _ y (cT.1 hj).1 hj hs
theorem SZ {ps:List ab} {a:Int} {o:Bool} (hl:ps.length<1000000) (h:∃y∈ps,y.At=a/\(o=true->y.Op=5)):(f14 Pf) ps a o=some true:=by
 rw[Ij,ru];have h:∃y∈ps,(y.At==a&&(!o||y.Op==5))=true:=by
  obtain⟨y,h1,h2,h3⟩:=h;refine⟨y,h1,?_⟩;cases o with
  |false=>simp[h2]
  |true=>simp[h2,h3 rfl]
 have:=MJ (a:=ps) (L:=λi=>(tz Pf) ps a o i) (λy=>y.At==a&&(!o||y.Op==5)) (λi x hx hi=>?_) ?_
 ·rw[BU.2 h]at this;exact this
 ·show(tz Pf) ps a o i=_;have:decide (i<ps.length)=true:=by simpa using hi
  rw[S2,xq,ab.a8,bO,this,bZ,b0 hx,aP,aP,cI i (by omega)];cases x.At==a<;>cases o<;>cases x.Op==5<;>rfl
 ·show(tz Pf) ps a o ps.length=_;have:decide (ps.length<ps.length)=false:=by simp
  rw[S2,xq,ab.a8,bO,this,cw]
section
variable {B:Nat} (hB:B<=1048576)
include hB
theorem S9:∀(x:ab),ib x->x.ok B->∀t:bd,t.path.length+eY x<1000000->ae ((f22 Pf) t x) (λr=>∃y,Sb y x/\y.At=r):=by
 refine ab.ind λx ih ha hx t ht=>?_;have hx':=hx;rw[ab.dv]at hx';obtain⟨_,hty,_,_,_,hkl,hkk⟩:=hx';cases ha with
 |mk a7 a26 a28 ak=>
 have hp:t.path.length<1000000:=by omega
 have D:∀{k:ab},k∈x.Kids->∀u:bd,u.path.length<=t.path.length+1->ae (((f22 Pf) u k).bind λy=>some y) (λr=>∃y,Sb y x/\y.At=r):=λ{k} hm u hu=>
  ae.bind (ih k hm (ak k hm) (ab.gf hkk hm) u (by have:=sE hm;omega)) λr ⟨y,h1,h2⟩=>ae.ret ⟨y,.kz hm h1,h2⟩
 have K:∀{k:ab},k∈x.Kids->∀u:bd,u.path.length<=t.path.length+1->ae ((f21 Pf) u k) (λ_=>True):=λ{k} hm u hu=>(PO hB (ab.gf hkk hm) (by have:=sE hm;omega)).gQ;have self:∃y,Sb y x/\y.At=x.At:=⟨x,.refl,rfl⟩;rw[Ik,uB];refine ae.bif (λh=>?_) (λ_=>ae.bif (λ_=>?_) (λ_=>ae.bif (λh=>?_) (λ_=>ae.bif (λh=>?_) (λ_=>ae.ret self))))
 ·have hl:=a7 (by simpa using h);obtain⟨k1,h1⟩:=b3 (l:=x.Kids) (i:=1) (by omega);obtain⟨k2,h2⟩:=b3 (l:=x.Kids) (i:=2) (by omega);have q1:(f30 Pf) x 1=some k1:=pW h1;have q2:(f30 Pf) x 2=some k2:=pW h2;have m1:=bV h1;rw[q1,q2,aP];exact ae.bind (K m1 t (by omega)) λ_ _=>ae.bif (λ_=>D m1 t (by omega)) (λ_=>by rw[aP];exact D (bV h2) t (by omega))
 ·refine(kJ (L:=λi=>(xy Pf) t x i) (len:=x.Kids.length) (λ_=>True) (λi hi _ k=>?_) (λ_=>?_) 0 (by omega) trivial)
  ·show ae ((xy Pf) t x i) _;obtain⟨y,hy⟩:=b3 hi;have hm:=bV hy;have:decide (i<x.Kids.length)=true:=by simpa using hi
   rw[S3,xw,ab.a8,bO,this,bZ,b0 hy,aP,xN t _ hp,aP,cI i (by omega)];exact ae.bind (K hm _ (by simp)) λ_ _=>ae.bif (λ_=>D hm _ (by simp)) (λ_=>k trivial)
  ·show ae ((xy Pf) t x x.Kids.length) _;have:decide (x.Kids.length<x.Kids.length)=false:=by simp
   rw[S3,xw,ab.a8,bO,this,cw];exact ae.ret self
 ·have hl:=a26 (by simpa using h);obtain⟨k0,h0⟩:=b3 (l:=x.Kids) (i:=0) (by omega);obtain⟨k1,h1⟩:=b3 (l:=x.Kids) (i:=1) (by omega);have q0:(f30 Pf) x 0=some k0:=pW h0;have q1:(f30 Pf) x 1=some k1:=pW h1;have m0:=bV h0;rw[xN t _ hp,xN t _ hp,q0,q1,aP,aP];exact ae.bind (K m0 _ (by simp)) λ_ _=>ae.bif (λ_=>by rw[aP];exact D m0 _ (by simp)) (λ_=>by rw[aP,aP];exact D (bV h1) _ (by simp))
 ·have hl:=a28 (by simpa using h);obtain⟨k0,h0⟩:=b3 (l:=x.Kids) (i:=0) (by omega);have q0:(f30 Pf) x 0=some k0:=pW h0;rw[q0,aP];exact D (bV h0) t (by omega)
theorem S':∀x:ab,x.ok B->ae ((f16 Pf) x) (λr=>(∃y,Sb y x/\y.Op=5)->r=true):=by
 refine ab.ind λx ih hx=>?_;rw[ab.dv]at hx;obtain⟨_,_,_,_,_,hkl,hkk⟩:=hx;rw[Tk,AB];refine ae.bif (λ_=>ae.ret λ_=>rfl) (λh5=>?_);rw[Tc,xr,Td,tq];refine ae.bind (P:=λr=>(∃y,Sb y x/\y.Op=5)->r=true) (ae.bind (P:=λr=>(∃y,Sb y x/\y.Op=5)->decide (r>=0)=true) ?_ (λr h=>ae.ret h)) (λr h=>ae.ret h);refine kJ (L:=λi=>(vP Pf) x.Kids i) (len:=x.Kids.length) (λn=>∀j k,j<n->x.Kids[j]? =some k->¬∃y,Sb y k/\y.Op=5) (λi hi hI k=>?_) (λhI=>?_) 0 (by omega) (λj k hj=>by omega)
 ·show ae ((vP Pf) x.Kids i) _;obtain⟨y,hy⟩:=b3 hi;have hm:=bV hy;have:decide (i<x.Kids.length)=true:=by simpa using hi
  rw[SY,vO,ab.a8,bO,this,bZ,b0 hy,aP,cI i (by omega)];refine ae.bind (ih y hm (ab.gf hkk hm)) λr hr=>ae.bif (λ_=>ae.ret λ_=>by simp) (λe=>k λj z hj hz g=>?_);rcases jK.1 hj with hj|rfl
  ·exact hI j z hj hz g
  ·rw[hy]at hz;cases hz;rw[hr g]at e;cases e
 ·show ae ((vP Pf) x.Kids x.Kids.length) _;have:decide (x.Kids.length<x.Kids.length)=false:=by simp
  rw[SY,vO,ab.a8,bO,this,cw];refine ae.ret λ⟨y,hs,hy⟩=>?_;cases hs with
  |refl=>rw[hy]at h5;cases h5
  |kz hk hs=>
   obtain⟨j,hj⟩:=gA hk;exact absurd ⟨y,hs,hy⟩ (hI j _ (cT.1 hj).1 hj)
omit hB in
theorem Tf {x y:ab} (h:Sb y x):x.ok B->y.ok B:=by
 induction h with
 |refl=>exact id
 |kz hk _ ih=>exactλhx=>ih (by rw[ab.dv]at hx;exact ab.gf hx.2.2.2.2.2.2 hk)
theorem S7 {l:af} {f:bl} (haw:(f6 Pf)=some true) (hl:l.ok B) (hf:f.ok B):(f5 Pf) l f=some true:=by
 rw[e5,B5,haw,aP,u1,cw];have hfb:=hf.2.2.2.2;refine ae.of (ae.bind (Lw hB hl) (λy3 q3=>ae.bif (λ_=>ae.ret rfl) (λe3=>?_)));obtain⟨hs,hla⟩:=q3 (by simpa using e3);refine ae.bind (vB hB hl hf (by omega)) (λy5 q5=>ae.bif (λ_=>ae.ret rfl) (λe5=>?_));obtain⟨h0,vf,cf⟩:=q5 (by simpa using e5);have hup:(f20 Pf) l f=some true:=by rw[Ib,oK,h0,vf];rfl
 refine ae.bind (S8 f.Body (by omega)) (λy7 q7=>ae.bif (λe6=>?_) (λe6=>?_))
 ·have e6:y5.1=false:=by simpa using e6
  rw[e6]at cf;have hw:VF B l f:=by obtain⟨r,q,h⟩:=Lv hB hl hf;rw[vf]at q;cases q;exact h rfl
  obtain⟨r,qr,y,hy,hr⟩:=S9 hB f.Body hw.body.ar hfb mB (by simp[mB];omega);have hb:(f13 Pf) l f=some (r,0):=by
   rw[Tl,AF,hup];show(((f21 Pf) mB f.Body).bind _)=_;rw[cf];show(((f22 Pf) mB f.Body).bind _)=_;rw[qr];rfl
  rw[hb];show ae (((f14 Pf) y7 r false).bind λy11=>some y11) _;rw[SZ (by omega) ⟨y,q7.2 y hy,hr,λe=>by cases e⟩];exact ae.ret rfl
 ·have e6:y5.1=true:=by simpa using e6
  rw[e6]at cf;obtain⟨⟨u,s⟩,qs,hs5⟩:=(vb hB (eY f.Body+1) f.Body (by omega) hfb mB (by simp[mB];omega)).gQ cf [];have hmem:∀n∈s,∃y,Sb y f.Body/\y.Op=5/\y.At=n:=λn hn=>(hs5.mem n hn).elim (λh=>by simp at h) id;have hnd:s.Nodup:=hs5.nd List.nodup_nil;have hlen:s.length<=80:=by have:=hs5.len;simp at this;omega
  have hok:qM s=true:=by
   have hr:∀n∈s,(decide (-9223372036854775808<=n)&&decide (n<=9223372036854775807))=true:=λn hn=>by
    obtain⟨y,hy,_,hat⟩:=hmem n hn;have:=Tf hy hfb;rw[ab.dv]at this;have:=this.2.2.2.2.1;rw[hat]at this;simp[Lit.wf,IntKind.min,IntKind.max,IntKind.signed,IntKind.bits]at this⊢;omega
   unfold qM;rw[fH.2 hr,decide_eq_true hnd,show Nat.ble s.length 1000000=true from uQ (by omega)];rfl
  have hca:(f15 Pf) l f=some (gh s,0):=by
   rw[Tm,Aj,hup];show(((f21 Pf) mB f.Body).bind _)=_;rw[cf];show(((f23 Pf) [] f.Body mB).bind _)=_;rw[qs];show(bif qM s then _ else _)=_;rw[hok];rfl
  have hfnd:∀n∈gh s,(f14 Pf) y7 n true=some true:=λn hn=>by
   obtain⟨y,hy,h5,hat⟩:=hmem n ((vp s).mem_iff.1 hn);exact SZ (by omega) ⟨y,q7.2 y hy,hat,λ_=>h5⟩
  have hsl:(gh s).length<=80:=by rw[(vp s).length_eq];exact hlen
  have hrise:∀(i:Nat) a b,(gh s)[i]? =some a->(gh s)[i+1]? =some b->decide (a>=b)=false:=λi a b ha hb=>by
   have h1:=B' s;have h2:(gh s).Nodup:=(vp s).nodup_iff.2 hnd;obtain⟨hia,ea⟩:=cT.1 ha;obtain⟨hib,eb⟩:=cT.1 hb;have h3:=Tq.1 h1 i (i+1) hia hib (by omega);have h4:=Tq.1 h2 i (i+1) hia hib (by omega);rw[ea,eb]at h3 h4;simp;omega
  have loop:∀L:Int->Option Bool,(∀s17,L s17=(bif decide (s17<((gh s).length:Int))then((aq (gh s) s17).bind λx19=>(((f14 Pf) y7 x19 true).bind λy21=>(bif !y21 then some false else(bif decide (s17>0)then((aq (gh s) (IntKind.i64.wrap (s17-1))).bind λx24=>((aq (gh s) s17).bind λx26=>(bif decide (x24>=x26)then some false else L (IntKind.i64.wrap (s17+1)))))else L (IntKind.i64.wrap (s17+1))))))else some true))->L 0=some true:=λL hL=>by
   have hlast:L ((gh s).length:Int)=some true:=by rw[hL];simp
   rw[<-hlast];refine ae.of (kJ (L:=L) (P:=λr=>r=true) (len:=(gh s).length) (λ_=>True) (λi hi _ k=>?_) (λ_=>⟨true,hlast,rfl⟩) 0 (by omega) trivial)|>.trans hlast.symm
   obtain⟨y,hy⟩:=b3 hi;rw[hL,bO];have:decide (i<(gh s).length)=true:=by simpa using hi
   rw[this,bZ,b0 hy,aP,hfnd y (bV hy),aP,u1,cw,cI i (by omega)];refine ae.bif (λh=>?_) (λ_=>k trivial);have h:0<i:=by simp at h;omega
   obtain⟨z,hz⟩:=b3 (l:=gh s) (i:=i-1) (by omega);have e:IntKind.i64.wrap ((i:Int)-1)=((i-1:Nat):Int):=by rw[wrap64 (by omega) (by omega)];omega
   rw[e,b0 hz,aP,aP,hrise (i-1) z y hz (by rw[show i-1+1=i by omega];exact hy),cw];exact k trivial
  have l1:=loop (λi=>(tP Pf) y7 (gh s,0) i) (λi=>by show(tP Pf) y7 (gh s,0) i=_;rw[Tg,xR,kI]);have l2:=loop (λi=>(tQ Pf) y7 (gh s,0) i) (λi=>by show(tQ Pf) y7 (gh s,0) i=_;rw[Th,xS,kI]);rw[hca,aP];show ae (bif decide (((bM IntKind.i64 (gh s)).length:Int)>0)then((f16 Pf) f.Body).bind λy15=>bif !y15 then some false else(tP Pf) y7 (gh s,0) 0 else(tQ Pf) y7 (gh s,0) 0) (λr=>r=true);refine ae.bif (λh=>?_) (λ_=>⟨true,l2,rfl⟩);refine ae.bind (S' hB f.Body hfb) (λr hr=>?_);have:r=true:=by
   apply hr;rw[kI]at h;have h:0<(gh s).length:=by simp at h;omega
   obtain⟨z,hz⟩:=b3 h;obtain⟨y,hy,h5,_⟩:=hmem z ((vp s).mem_iff.1 (bV hz));exact⟨y,hy,h5⟩
  rw[this];exact⟨true,l1,rfl⟩
