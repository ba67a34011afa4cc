/- join.leq decides the order. -/
import Derived.Test.YtmbalfjhlngncaaGreatKKd
set_option linter.all false
namespace Go.Proofs.YtmbalfjhlngncaaGreat
open Go Go.Bw
theorem wD {a : List (List UInt8)} {x : List UInt8} (ha : a.length < 9223372036854775807) : ((f145 Pf) a x = some (-1) ∧ x ∉ a) ∨ ∃ i : Nat, (f145 Pf) a x = some (i : Int) ∧ a[i]? = some x := by
  rw [CP a x ha]
  rcases wG (fun y => x == y) a 0 with ⟨h1, h2⟩ | ⟨i, y, h1, h2, h3, _⟩
  · exact .inl ⟨congrArg some h1, fun hx => by have := h2 x hx; simp at this⟩
  · have e : x = y := by simpa using h3
    subst e
    exact .inr ⟨i, by have e : idxOf (fun y => x == y) a 0 = ((0 + i : Nat) : Int) := h1
                      rw [e, lB], h2⟩
theorem HC {α:Type} {a:List α} {L:Int->Option Int} {C:α->Prop} {g:α->Option Bool} (hl:a.length<=274877906944) (hg:∀x∈a,∃r,g x=some r/\(r=true↔C x)) (hL:∀j,L j=bif decide (j<(a.length:Int))then((ao a j).bind λx=>(g x).bind λy=>bif y then some j else L (IntKind.i64.wrap (j+1)))else some (-1)):∃r,L 0=some r/\(decide (r>=0)=true↔∃x∈a,C x):=by
 have:=eZ (L:=λi=>L i) (P:=λr=>decide (r>=0)=true↔∃x∈a,C x) (len:=a.length) (λi=>∀x∈a.take i,¬C x) (λi hi hI k=>by
  show ab (L i) _;obtain⟨x,hx⟩:=bw hi;have hm:=a7 hx;obtain⟨r,h1,h2⟩:=hg x hm;have:decide (i<a.length)=true:=by simpa using hi
  rw[hL,a6,this,aD,bg hx,aw,h1,aw,bM i (by omega)];refine ab.bif (λh=>ab.ret ?_) (λh=>k λz hz=>?_)
  ·have:decide ((i:Int)>=0)=true:=by simp
   rw[this];exact nz ⟨x,hm,h2.1 h⟩
  ·rw[eY,hx]at hz;rcases bO.1 hz with hz|hz
   ·exact hI z hz
   ·simp at hz;subst hz;intro g;rw[h2.2 g]at h;cases h) (λhI=>by
  show ab (L a.length) _;have:decide (a.length<a.length)=false:=by simp
  rw[hL,a6,this,aF];rw[eQ]at hI;exact ab.ret (eR λ⟨x,hx,hc⟩=>hI x hx hc)) 0 (by omega) (by simp)
 exact this
theorem Od {e:ax} {fs:List ax} (hl:fs.length<=274877906944) (he:bQ e.aY) (hf:∀f∈fs,bQ f.aY):∃r,(f192 Pf) e fs=some r/\(r=true↔∃f∈fs,under e f):=by
 obtain⟨r,h1,h2⟩:=HC (L:=λj=>(wo Pf) fs e j) (C:=λf=>under e f) (g:=λx=>(f250 Pf) x e) hl (λx hx=>by
  obtain⟨r,h1,h2⟩:=abX he (hf x hx);refine⟨r,?_,h2⟩;rw[afQ,zx,h1];rfl) (λj=>by rw[Y',wq,ax.aI])
 refine⟨_,?_,h2⟩;rw[afR,zy,aaU,wO,aaV,sG,h1];rfl
theorem HG:∀l:ah,cj l->∀a b:af,VE l a->VE l b->SV a->SV b->ab ((f128 Pf) l a b) (λr=>r=true↔aS l a b):=by
 refine ah.ind λl ih hL a b ha hb sa sb=>?_;rw[afS,zA];refine hL.cases (λhk=>?_) (λhk=>?_) (λhk=>?_) (λp hk hp=>?_) (λhk=>?_) (λp q hk hp=>?_) (λhk=>?_) (λhk=>?_)
 ·simp only[hk,Int.reduceBEq,aD,aF];rw[aS.k1 (.inl hk)];exact ab.ret decide_eq_true_iff
 ·rcases hk with hk|hk
  ·simp only[hk,Int.reduceBEq,aD,aF];rw[aS.k1 (.inr hk)];exact ab.ret decide_eq_true_iff
  ·simp only[hk,Int.reduceBEq,aD,aF];rw[aS.k3 hk];exact ab.ret decide_eq_true_iff
 ·have main:ab (((f182 Pf) a.Names b.Names).bind λy5=>some y5) (λr=>r=true↔aS l a b):=by
   have h1:=sa.bv.names;have h2:=sb.bv.names;rw[Cz _ _ (by omega) (by omega),aS.k4 hk];exact ab.ret HK
  rcases hk with hk|hk
  ·simp only[hk,Int.reduceBEq,aD,aF];exact main
  ·simp only[hk,Int.reduceBEq,aD,aF];exact main
 ·simp only[hk,Int.reduceBEq,aD,aF];have hm:p∈l.aj:=by rw[hp];simp
  obtain⟨p1,ns,ps,hp1,rfl,hN,hlen,hv,_⟩:=ha.k5 hk;obtain⟨p2,ms,qs,hp2,rfl,hM,hlen2,hw,_⟩:=hb.k5 hk;rw[hp]at hp1 hp2;cases hp1;cases hp2;have s1:=sa.bv.names;have s2:=sb.bv.names;cases sa with
  |mk _ _ _ _ _ sap=>
  cases sb with
  |mk _ _ _ _ _ sbp=>
  rw[aS.k5 hk hp];simp only at s1 s2 sap sbp⊢;refine eZ (L:=λi=>(qv Pf) l ⟨0,ns,ps,[]⟩ ⟨0,ms,qs,[]⟩ i) (P:=λr=>r=true↔∀(i:Nat) k x,ns[i]? =some k->ps[i]? =some x->∃(j:Nat) (y:af),ms[j]? =some k/\qs[j]? =some y/\aS p x y) (len:=ns.length) (λn=>∀(i:Nat) k x,i<n->ns[i]? =some k->ps[i]? =some x->∃(j:Nat) (y:af),ms[j]? =some k/\qs[j]? =some y/\aS p x y) (λi hi hI k=>?_) (λhI=>?_) 0 (by omega) (λi k x h=>by omega)
  ·show ab ((qv Pf) l ⟨0,ns,ps,[]⟩ ⟨0,ms,qs,[]⟩ i) _;obtain⟨s,hs⟩:=bw hi;obtain⟨x,hx⟩:=kO hlen hs;have hxm:=a7 hx;have:decide (i<ns.length)=true:=by simpa using hi
   rw[Q4,tn,bD,a6,this,aD,bg hs,aw];rcases wD (a:=ms) (x:=s) (by omega)with⟨e1,e2⟩|⟨j,e1,e2⟩
   ·rw[e1,aw];refine ab.ret (eR λg=>?_);obtain⟨j,y,g1,_⟩:=g i s x hs hx;exact e2 (a7 g1)
   ·obtain⟨y,hy⟩:=kO hlen2 e2;have hym:=a7 hy;rw[e1,aw,dM (by omega),aF,hp,dZ,aw,bg hx,aw,bg hy,aw,bM i (by omega)];refine ab.bind (ih p hm (hL.part hm) x y (hv x hxm) (hw y hym) (sap x hxm) (sbp y hym)) (λr hr=>ab.bif (λh=>ab.ret (eR λg=>?_)) (λh=>k λm k' x' hm' h1 h2=>?_))
    ·obtain⟨j',y',g1,g2,g3⟩:=g i s x hs hx;have:=ni hM.1 g1 e2;subst this;rw[hy]at g2;cases g2;rw[hr.2 g3]at h;cases h
    ·rcases nf.1 hm' with hm'|rfl
     ·exact hI m k' x' hm' h1 h2
     ·rw[hs]at h1;cases h1;rw[hx]at h2;cases h2;exact⟨j,y,e2,hy,hr.1 (by simpa using h)⟩
  ·show ab ((qv Pf) l ⟨0,ns,ps,[]⟩ ⟨0,ms,qs,[]⟩ ns.length) _;have:decide (ns.length<ns.length)=false:=by simp
   rw[Q4,tn,bD,a6,this,aF];exact ab.ret (nz λi k x h=>hI i k x (b9.1 h).1 h)
 ·simp only[hk,Int.reduceBEq,aD,aF];obtain⟨ps,rfl,hlen,hv⟩:=ha.k6 (.inl hk);obtain⟨qs,rfl,hlen2,hw⟩:=hb.k6 (.inl hk);have s1:=sa.bv.parts;cases sa with
  |mk _ _ _ _ _ sap=>
  cases sb with
  |mk _ _ _ _ _ sbp=>
  rw[aS.k6 hk];simp only at s1 sap sbp⊢;refine eZ (L:=λi=>(qw Pf) l ⟨0,[],ps,[]⟩ ⟨0,[],qs,[]⟩ i) (P:=λr=>r=true↔∀(i:Nat) p x y,l.aj[i]? =some p->ps[i]? =some x->qs[i]? =some y->aS p x y) (len:=l.aj.length) (λn=>∀(i:Nat) p x y,i<n->l.aj[i]? =some p->ps[i]? =some x->qs[i]? =some y->aS p x y) (λi hi hI k=>?_) (λhI=>?_) 0 (by omega) (λi k x _ h=>by omega)
  ·show ab ((qw Pf) l ⟨0,[],ps,[]⟩ ⟨0,[],qs,[]⟩ i) _;obtain⟨p,hp⟩:=bw hi;obtain⟨x,hx⟩:=bw (l:=ps) (i:=i) (by omega);obtain⟨y,hy⟩:=bw (l:=qs) (i:=i) (by omega);have hm:=a7 hp;have:decide (i<l.aj.length)=true:=by simpa using hi
   rw[Q5,tp,ah.aI,a6,this,aD,bg hp,aw,bg hx,aw,bg hy,aw,bM i (by omega)];refine ab.bind (ih p hm (hL.part hm) x y (hv i x p hx hp) (hw i y p hy hp) (sap x (a7 hx)) (sbp y (a7 hy))) (λr hr=>ab.bif (λh=>ab.ret (eR λg=>?_)) (λh=>k λm p' x' y' hm' h1 h2 h3=>?_))
   ·rw[hr.2 (g i p x y hp hx hy)]at h;cases h
   ·rcases nf.1 hm' with hm'|rfl
    ·exact hI m p' x' y' hm' h1 h2 h3
    ·rw[hp]at h1;cases h1;rw[hx]at h2;cases h2;rw[hy]at h3;cases h3;exact hr.1 (by simpa using h)
  ·show ab ((qw Pf) l ⟨0,[],ps,[]⟩ ⟨0,[],qs,[]⟩ l.aj.length) _;have:decide (l.aj.length<l.aj.length)=false:=by simp
   rw[Q5,tp,ah.aI,a6,this,aF];exact ab.ret (nz λi p x y h=>hI i p x y (b9.1 h).1 h)
 ·simp only[hk,Int.reduceBEq,aD,aF];obtain⟨x,x',rfl,hx,hx'⟩:=jK hk hp ha;obtain⟨y,y',rfl,hy,hy'⟩:=jK hk hp hb;have mp:p∈l.aj:=by rw[hp];simp
  have mq:q∈l.aj:=by rw[hp];simp
  cases sa with
  |mk _ _ _ _ _ sap=>
  cases sb with
  |mk _ _ _ _ _ sbp=>
  rw[aS.k7 hk hp rfl rfl,hp];simp only at sap sbp⊢;rw[dZ,aw,dZ,aw];have i1:∀{α:Type} (a b:α),ao [a,b] 1=some b:=λ_ _=>rfl;obtain⟨z,e2,hz⟩:=wM (a:=x) (b:=y) (m:=274877906944) (by omega) (sap x (by simp)).bv;rw[e2,aw];refine ab.bif (λh=>?_) (λh=>?_)
  ·have e1:x=y:=hz.1 h;rw[i1,aw,i1,aw,i1,aw];refine ab.bind (ih q mq (hL.part mq) x' y' hx' hy' (sap x' (by simp)) (sbp y' (by simp))) (λr hr=>ab.ret ?_);rw[hr];exact⟨λh=> .inl ⟨e1,h⟩,λh=>h.elim (λh=>h.2) λh=>absurd e1 h.1⟩
  ·have e1:x≠y:=λe=>by rw[hz.2 e]at h;cases h
   simp only[dZ,aw];refine ab.bind (ih p mp (hL.part mp) x y hx hy (sap x (by simp)) (sbp y (by simp))) (λr hr=>ab.ret ?_);rw[hr];exact⟨λh=> .inr ⟨e1,h⟩,λh=>h.elim (λh=>absurd h.1 e1) λh=>h.2⟩
 ·simp only[hk,Int.reduceBEq,aD,aF];rw[aS.k8 hk];refine ab.bif (λh=>ab.ret (nz (.inl (by simpa using h)))) (λh0=>ab.bif (λh=>ab.ret (nz (.inr (.inl (by simpa using h))))) (λh2=>?_));obtain⟨r,e,hr⟩:=wM (a:=a) (b:=b) (m:=274877906944) (by omega) sa.bv;rw[e,aw];refine ab.ret ?_;rw[hr];exact⟨λh=> .inr (.inr h),λh=>by
   rcases h with h|h|h
   ·rw[h]at h0;cases h0
   ·rw[h]at h2;cases h2
   ·exact h⟩
 ·simp only[hk,Int.reduceBEq,aD,aF];obtain⟨es,rfl,h1,_⟩:=ha.k9 hk;obtain⟨fs,rfl,k1,_⟩:=hb.k9 hk;have s1:=sa.bv.entries;have s2:=sb.bv.entries;rw[aS.k9 hk];simp only at s1 s2⊢;refine eZ (L:=λi=>(qx Pf) ⟨0,[],[],es⟩ ⟨0,[],[],fs⟩ i) (P:=λr=>r=true↔∀e∈es,∃f∈fs,under e f) (len:=es.length) (λn=>∀e∈es.take n,∃f∈fs,under e f) (λi hi hI k=>?_) (λhI=>?_) 0 (by omega) (by simp)
  ·show ab ((qx Pf) ⟨0,[],[],es⟩ ⟨0,[],[],fs⟩ i) _;obtain⟨x,hx⟩:=bw hi;have hm:=a7 hx;obtain⟨r,e,hr⟩:=Od (e:=x) (fs:=fs) (by omega) (h1 x hm).2.1 (λf hf=>(k1 f hf).2.1);have:decide (i<es.length)=true:=by simpa using hi
   rw[Q6,tq,ax.aI,a6,this,aD,bg hx,aw,e,aw,bM i (by omega)];refine ab.bif (λh=>ab.ret (eR λg=>?_)) (λh=>k λz hz=>?_)
   ·rw[hr.2 (g x hm)]at h;cases h
   ·rw[eY,hx]at hz;rcases bO.1 hz with hz|hz
    ·exact hI z hz
    ·simp at hz;subst hz;exact hr.1 (by simpa using h)
  ·show ab ((qx Pf) ⟨0,[],[],es⟩ ⟨0,[],[],fs⟩ es.length) _;have:decide (es.length<es.length)=false:=by simp
   rw[Q6,tq,ax.aI,a6,this,aF];rw[eQ]at hI;exact ab.ret (nz hI)
theorem Q0 {α:Type} {s t:List α} {x:α} (h:s.Sublist t):(s++[x]).Sublist (t++[x]):=h.append (FB _)
theorem Q1 {α:Type} {s t:List α} {x:α} (h:s.Sublist t):s.Sublist (t++[x]):=h.trans (List.sublist_append_left _ _)
theorem PT {es:List ax} (h:es.Pairwise λe f=>eO e f<0):es.Nodup:=h.imp λ{a b} h e=>by rw[e,oE.refl]at h;omega
theorem Z4 {es fs:List ax} (he:iZ es) (hf:iZ fs) (hl1:es.length<=137438953472) (hl2:fs.length<=137438953472):ab ((f248 Pf) es fs) (λms=>(ms.Pairwise λe f=>eO e f<0)/\(∀e,e∈ms↔(e∈es/\¬∃f∈fs,under e f)\/(e∈fs/\¬∃f∈es,lQ e f))/\ms.length<=es.length+fs.length):=by
 rw[afO,u0];refine dX (L:=λi s=>(oN Pf) es fs s i) (P:=λms=>(ms.Pairwise λe f=>eO e f<0)/\(∀e,e∈ms↔(e∈es/\¬∃f∈fs,under e f)\/(e∈fs/\¬∃f∈es,lQ e f))/\ms.length<=es.length+fs.length) (len:=es.length) (λi s=>s.Sublist (es.take i)/\∀e,e∈s↔e∈es.take i/\¬∃f∈fs,under e f) (λi s hi hI k=>?_) (λs hI=>?_) 0 [] (by omega) ⟨by simp,by simp⟩
 ·show ab ((oN Pf) es fs s i) _;obtain⟨x,hx⟩:=bw hi;have hm:=a7 hx;obtain⟨r,e,hr⟩:=Od (e:=x) (fs:=fs) (by omega) (he.1 x hm).2.1 (λf h=>(hf.1 f h).2.1);have:decide (i<es.length)=true:=by simpa using hi
  have hsl:s.length<=i:=iM hI.1.length_le (by rw[gU];omega);have ht:es.take (i+1)=es.take i++[x]:=by rw[eY,hx];rfl
  rw[Q2,tj,ax.aI,a6,this,aD,bg hx,aw,e,aw,bM i (by omega),dW (by simp;omega),aD];refine ab.bif (λh=>k _ ?_) (λh=>k _ ?_)
  ·have hno:¬∃f∈fs,under x f:=λg=>by rw[hr.2 g]at h;cases h
   rw[ht];refine⟨Q0 hI.1,λe=>?_⟩;rw[bO,bO,hI.2 e,gS];exact⟨λh=>h.elim (λh=>⟨.inl h.1,h.2⟩) λh=>⟨.inr h,h▸hno⟩,λh=>h.1.elim (λg=> .inl ⟨g,h.2⟩) .inr⟩
  ·have hyes:∃f∈fs,under x f:=hr.1 (by simpa using h);rw[ht];refine⟨Q1 hI.1,λe=>?_⟩;rw[bO,hI.2 e,gS];exact⟨λh=>⟨.inl h.1,h.2⟩,λh=>h.1.elim (λg=>⟨g,h.2⟩) λg=>absurd (g▸hyes) h.2⟩
 show ab ((oN Pf) es fs s es.length) _;have:decide (es.length<es.length)=false:=by simp
 rw[Q2,tj,ax.aI,a6,this,aF];rw[eQ]at hI;refine dX (L:=λi t=>(oO Pf) es fs t i) (P:=λms=>(ms.Pairwise λe f=>eO e f<0)/\(∀e,e∈ms↔(e∈es/\¬∃f∈fs,under e f)\/(e∈fs/\¬∃f∈es,lQ e f))/\ms.length<=es.length+fs.length) (len:=fs.length) (λi t=>∃u,t=s++u/\u.Sublist (fs.take i)/\∀e,e∈u↔e∈fs.take i/\¬∃f∈es,lQ e f) (λi t hi hJ k=>?_) (λt hJ=>?_) 0 s (by omega) ⟨[],by simp,by simp,by simp⟩
 ·show ab ((oO Pf) es fs t i) _;obtain⟨u,rfl,hJ⟩:=hJ;obtain⟨x,hx⟩:=bw hi;have hm:=a7 hx;obtain⟨r,e1,hr⟩:=HC (a:=es) (L:=λj=>(wj Pf) es x j) (C:=λf=>lQ x f) (g:=λy=>(f292 Pf) y x) (by omega) (λy hy=>by
   obtain⟨r,h1,_,h2,_⟩:=HJ (hf.1 x hm).2.1 (he.1 y hy).2.1;refine⟨r==1,?_,by rw[beq_iff_eq];exact h2⟩;rw[afP,zw,h1];rfl) (λj=>by rw[Y9,wm,ax.aI])
  have e2:(Cy Pf) es x=some (decide (r>=0)):=by
   rw[aaS,wN,aaT,sF,e1];rfl
  have:decide (i<fs.length)=true:=by simpa using hi
  have hsl:s.length<=es.length:=hI.1.length_le;have hul:u.length<=i:=iM hJ.1.length_le (by rw[gU];omega);have ht:fs.take (i+1)=fs.take i++[x]:=by rw[eY,hx];rfl
  rw[Q3,tm,PU,ax.aI,a6,this,aD,bg hx,aw,e2,aw,bM i (by omega),dW (by simp;omega),aD];refine ab.bif (λh=>k _ ?_) (λh=>k _ ?_)
  ·have hno:¬∃f∈es,lQ x f:=λg=>by rw[hr.2 g]at h;cases h
   rw[ht];refine⟨u++[x],by simp,Q0 hJ.1,λe=>?_⟩;rw[bO,bO,hJ.2 e,gS];exact⟨λh=>h.elim (λh=>⟨.inl h.1,h.2⟩) λh=>⟨.inr h,h▸hno⟩,λh=>h.1.elim (λg=> .inl ⟨g,h.2⟩) .inr⟩
  ·have hyes:∃f∈es,lQ x f:=hr.1 (by simpa using h);rw[ht];refine⟨u,rfl,Q1 hJ.1,λe=>?_⟩;rw[bO,hJ.2 e,gS];exact⟨λh=>⟨.inl h.1,h.2⟩,λh=>h.1.elim (λg=>⟨g,h.2⟩) λg=>absurd (g▸hyes) h.2⟩
 show ab ((oO Pf) es fs t fs.length) _;obtain⟨u,rfl,hJ⟩:=hJ;rw[eQ]at hJ;have:decide (fs.length<fs.length)=false:=by simp
 have hsl:s.length<=es.length:=hI.1.length_le;have hul:u.length<=fs.length:=hJ.1.length_le;have hck:yn (s++u)=true:=by
  unfold yn;rw[fR];intro e h;rw[iL];have:bQ e.aY:=by
   rcases bO.1 h with h|h
   ·exact(he.1 e ((hI.2 e).1 h).1).2.1
   ·exact(hf.1 e ((hJ.2 e).1 h).1).2.1
  have:=ny this;omega
 have hsf:sN (s++u)=some ((),dw eO (s++u)):=(Zr (s++u)).trans (by rw[dW (by simp;omega),hck];rfl);rw[Q3,tm,PU,ax.aI,a6,this,aF,hsf,aw,dI (by rw[ax.aI,ax.aI,mv]),aD];have mem:∀e,e∈dw eO (s++u)↔(e∈es/\¬∃f∈fs,under e f)\/(e∈fs/\¬∃f∈es,lQ e f):=λe=>by
  rw[(nk (s++u)).mem_iff,bO,hI.2 e,hJ.2 e]
 refine ab.ret ⟨?_,mem,by rw[mv];simp;omega⟩;have nd:(s++u).Nodup:=by
  rw[kg];refine⟨(PT he.2.1).sublist hI.1,(PT hf.2.1).sublist hJ.1,λa ha b hb e=>?_⟩;subst e;exact((hI.2 a).1 ha).2 ⟨a,((hJ.2 a).1 hb).1,under.refl a⟩
 have nd':(dw eO (s++u)).Nodup:=(nk (s++u)).symm.nodup nd;exact(List.Pairwise.and (rY oE (s++u)) nd').imp λ{a b} h=>by
  have h0:=oE.eU a b;by_cases e:eO a b=0
  ·exact absurd (h0.1 e) h.2
  ·have:=h.1;omega
theorem Tl {α:Type} [BEq α] [LawfulBEq α]:∀{a b:List α},a.Nodup->(∀x∈a,x∈b)->a.length<=b.length
 |[],b,_,_=>by simp
 |x::a,b,h,hs=>by
  rw[MR]at h;have hx:=hs x (by simp);have:=Tl h.2 (b:=b.erase x) λy hy=>(YB λe:y=x=>h.1 (e▸hy)).2 (hs y (by simp[hy]));rw[akq hx]at this;have:=List.length_pos_of_mem hx;simp;omega
theorem PN {l:ah} (h:cj l):HI l.Names l.bl:=λr hr=>by
 obtain⟨h1,h2,h3,h4⟩:=h.names.2.2.2 r hr;have h3':∀x∈r.If,x∈l.Names:=λx hx=>qt.1 (fR.1 h3 x hx);refine⟨⟨h3',qt.1 h4⟩,?_,h2⟩;have hl:=h.I3.1;have:r.If.length<=l.Names.length:=by
  rw[sD]at h2;have nd:r.If.Nodup:=h2.imp λ{a b} h e=>by rw[e,jG]at h;cases h
  exact Tl nd h3'
 split at hl
 ·omega
 ·split at hl<;>omega
theorem Ur {l:ah} {v:af} (hk:l.Kind=10) (h:cj l) (hv:VE l v):∀s∈v.Names,s∈l.Names:=by
 obtain⟨ns,rfl,hn,_⟩:=hv.k4 (.inr hk);have:l.Names≠[]:=by have:=h.shape;unfold gL at this;simp[hk]at this;exact this.2.1
 exactλs hs=>(hn.2 s hs).2.resolve_left this
theorem PR:∀l:ah,cj l->∀a b:af,VE l a->VE l b->BV 137438953472 a->BV 137438953472 b->ab ((f189 Pf) l a b) (λr=>ed l a b r):=by
 refine ah.ind λl ih hL a b ha hb ba bb=>?_;have sa:SV a:=ha.sv (m:=137438953472) (by omega) ba;have sb:SV b:=hb.sv (m:=137438953472) (by omega) bb;have alt:∀{Q:af->Prop},(aS l a b->Q b)->(aS l b a->Q a)->(¬aS l a b->¬aS l b a->Q ⟨2,[],[],[]⟩)->ab (((f128 Pf) l a b).bind λy71=>(bif y71 then(some b)else(((f128 Pf) l b a).bind λy73=>(bif y73 then(some a)else(some ({N:=2,Names:=[],aj:=[],Entries:=[]:af})))))) Q:=by
  intro Q q1 q2 q3;refine ab.bind (HG l hL a b ha hb sa sb) (λy hy=>ab.bif (λh=>ab.ret (q1 (hy.1 h))) (λh=>?_));refine ab.bind (HG l hL b a hb ha sb sa) (λz hz=>ab.bif (λg=>ab.ret (q2 (hz.1 g))) (λg=>ab.ret (q3 ?_ ?_)))
  ·intro e;rw[hy.2 e]at h;cases h
  ·intro e;rw[hz.2 e]at g;cases g
 have chn:lu l->ab (((f128 Pf) l a b).bind λy71=>(bif y71 then(some b)else(((f128 Pf) l b a).bind λy73=>(bif y73 then(some a)else(some ({N:=2,Names:=[],aj:=[],Entries:=[]:af})))))) (λr=>ed l a b r):=λhc=>
  alt (λh=>ed.leq hL hb h) (λh=>ed.geq hL ha h) (λh g=>(OY hc hL ha hb).elim (λe=>absurd e h) (λe=>absurd e g))
 rw[afN,zt];refine hL.cases (λhk=>?_) (λhk=>?_) (λhk=>?_) (λp hk hp=>?_) (λhk=>?_) (λp q hk hp=>?_) (λhk=>?_) (λhk=>?_)
 ·simp only[hk,Int.reduceBEq,aD,aF];exact chn (.one (.inl hk))
 ·rcases hk with hk|hk
  ·simp only[hk,Int.reduceBEq,aD,aF];exact chn (.one (.inr (.inl hk)))
  ·simp only[hk,Int.reduceBEq,aD,aF];exact chn (.one (.inr (.inr hk)))
 ·obtain⟨ns,rfl,hN,hCa⟩:=ha.k4 hk;obtain⟨ms,rfl,hM,hCb⟩:=hb.k4 hk;have n1:=ba.names;have n2:=bb.names;simp only at n1 n2;have hu:=Nv hN.1 hM.1;have hlen:=PS ns ms;have hmem:∀x,x∈cH ns ms↔x∈ns\/x∈ms:=λx=>qd;rcases hk with hk|hk
  ·simp only[hk,Int.reduceBEq,aD,aF];rw[union_eq (by omega) hN.1 hM.1,aw];exact ab.ret (adv hL hk ha hb hu hmem hlen)
  ·simp only[hk,Int.reduceBEq,aD,aF];rw[union_eq (by omega) hN.1 hM.1,aw];have hLN:=hL.I3;have hl1:l.Names.length<=12:=by have:=hLN.1;rw[aN (by omega),bq hk]at this;exact this
   have hl2:l.bl.length<=32:=hLN.2;have hLn:=hL.names;have hin:∀x∈cH ns ms,x∈l.Names:=λx hx=>((hmem x).1 hx).elim (Ur hk hL ha x) (Ur hk hL hb x);refine ab.bind (PM (hLn.2.1 (by omega)) (by omega) hLn.1 (PN hL) (by omega) hu (by omega) hin) (λy hy=>ab.ret ?_);obtain⟨_,y1,y2,c1,c2,c3,c4⟩:=hy;refine⟨Z3 hL hk ⟨y1,λs hs=>⟨hLn.1 s (c1 s hs),.inr (c1 s hs)⟩⟩ c3 (λx hx=>c2 x ((hmem x).2 hx)) (λds hd h=>c4 ds hd λx hx=>h x ((hmem x).1 hx)),λm n h0 _ _=> .mk (by simp only;omega) (by simp) (by simp) (by simp) (by simp)⟩
 ·simp only[hk,Int.reduceBEq,aD,aF];have hm:p∈l.aj:=by rw[hp];simp
  obtain⟨p1,ns,ps,hp1,rfl,hN,hlen,hv,_⟩:=ha.k5 hk;obtain⟨p2,ms,qs,hp2,rfl,hM,hlen2,hw,_⟩:=hb.k5 hk;rw[hp]at hp1 hp2;cases hp1;cases hp2;have n1:=ba.names;have n2:=bb.names;simp only at n1 n2;have hu:=Nv hN.1 hM.1;have hul:=PS ns ms;have hmem:∀x,x∈cH ns ms↔x∈ns\/x∈ms:=λx=>qd;rw[union_eq (by omega) hN.1 hM.1,aw];refine dX (L:=λi s=>(mD Pf) l ⟨0,ns,ps,[]⟩ ⟨0,ms,qs,[]⟩ (cH ns ms) i s) (P:=λr=>ed l ⟨0,ns,ps,[]⟩ ⟨0,ms,qs,[]⟩ r) (len:=(cH ns ms).length) (λi s=>s.length=i/\∀(j:Nat) k z,(cH ns ms)[j]? =some k->s[j]? =some z->(k∉ns/\∃j:Nat,ms[j]? =some k/\qs[j]? =some z)\/(k∉ms/\∃j:Nat,ns[j]? =some k/\ps[j]? =some z)\/∃(i':Nat) (j:Nat) (x:af) (y:af),ns[i']? =some k/\ps[i']? =some x/\ms[j]? =some k/\qs[j]? =some y/\ed p x y z) (λi s hi hI kk=>?_) (λs hI=>?_) 0 [] (by omega) ⟨rfl,λj k z _ h=>by simp at h⟩
  ·show ab ((mD Pf) l ⟨0,ns,ps,[]⟩ ⟨0,ms,qs,[]⟩ (cH ns ms) i s) _;obtain⟨k,hk'⟩:=bw hi;have hku:=a7 hk';obtain⟨hIl,hI⟩:=hI;have:decide (i<(cH ns ms).length)=true:=by simpa using hi
   have hg:∀z:af,decide ((s++[z]).length<=274877906944)=true:=λz=>dW (by simp;omega);have fin:∀z,((k∉ns/\∃j:Nat,ms[j]? =some k/\qs[j]? =some z)\/(k∉ms/\∃j:Nat,ns[j]? =some k/\ps[j]? =some z)\/∃(i':Nat) (j:Nat) (x:af) (y:af),ns[i']? =some k/\ps[i']? =some x/\ms[j]? =some k/\qs[j]? =some y/\ed p x y z)->ab ((mD Pf) l ⟨0,ns,ps,[]⟩ ⟨0,ms,qs,[]⟩ (cH ns ms) (IntKind.i64.wrap ((i:Int)+1)) (s++[z])) (λr=>ed l ⟨0,ns,ps,[]⟩ ⟨0,ms,qs,[]⟩ r):=by
    intro z hz;rw[bM i (by omega)];refine kk _ ⟨by simp[hIl],λj k' z' h1 h2=>?_⟩;by_cases hj:j<i
    ·rw[lz (by omega)]at h2;exact hI j k' z' h1 h2
    ·have:j=i:=by
      have:=(b9.1 h2).1;simp at this;omega
     subst this;rw[hk']at h1;cases h1;rw[<-hIl,YI]at h2;cases h2;exact hz
   rw[QY,tf,bD,a6,this,aD,bg hk',aw];rcases wD (a:=ns) (x:=k) (by omega)with⟨e1,e2⟩|⟨j1,e1,e2⟩
   ·rcases wD (a:=ms) (x:=k) (by omega)with⟨f1,f2⟩|⟨j2,f1,f2⟩
    ·exact absurd ((hmem k).1 hku) (λh=>h.elim e2 f2)
    ·obtain⟨y,hy⟩:=kO hlen2 f2;rw[e1,aw,f1,aw,dI (by decide),aD,bg hy,aw,hg,aD];exact fin y (.inl ⟨e2,j2,f2,hy⟩)
   ·obtain⟨x,hx⟩:=kO hlen e2;rw[e1,aw];rcases wD (a:=ms) (x:=k) (by omega)with⟨f1,f2⟩|⟨j2,f1,f2⟩
    ·rw[f1,aw,dM (by omega),aF,dI (by decide),aD,bg hx,aw,hg,aD];exact fin x (.inr (.inl ⟨f2,j1,e2,hx⟩))
    ·obtain⟨y,hy⟩:=kO hlen2 f2;have hxm:=a7 hx;have hym:=a7 hy;rw[f1,aw,dM (by omega),aF,dM (by omega),aF,hp,dZ,aw,bg hx,aw,bg hy,aw];refine ab.bind (ih p hm (hL.part hm) x y (hv x hxm) (hw y hym) (ba.part hxm) (bb.part hym)) (λz hz=>?_);rw[hg,aD];exact fin z (.inr (.inr ⟨j1,j2,x,y,e2,hx,f2,hy,hz⟩))
  ·show ab ((mD Pf) l ⟨0,ns,ps,[]⟩ ⟨0,ms,qs,[]⟩ (cH ns ms) (cH ns ms).length s) _;have:decide ((cH ns ms).length<(cH ns ms).length)=false:=by simp
   rw[QY,tf,bD,a6,this,aF];exact ab.ret (adw hL hk hp ha hb hu hmem hul hI.1.symm hI.2)
 ·simp only[hk,Int.reduceBEq,aD,aF];obtain⟨ps,rfl,hlen,hv⟩:=ha.k6 (.inl hk);obtain⟨qs,rfl,hlen2,hw⟩:=hb.k6 (.inl hk);have n1:=ba.parts;simp only at n1;refine dX (L:=λi s=>(qu Pf) l ⟨0,[],ps,[]⟩ ⟨0,[],qs,[]⟩ i s) (P:=λr=>ed l ⟨0,[],ps,[]⟩ ⟨0,[],qs,[]⟩ r) (len:=l.aj.length) (λi s=>s.length=i/\∀(j:Nat) p x y z,l.aj[j]? =some p->ps[j]? =some x->qs[j]? =some y->s[j]? =some z->ed p x y z) (λi s hi hI kk=>?_) (λs hI=>?_) 0 [] (by omega) ⟨rfl,λj p x y z _ _ _ h=>by simp at h⟩
  ·show ab ((qu Pf) l ⟨0,[],ps,[]⟩ ⟨0,[],qs,[]⟩ i s) _;obtain⟨p,hp⟩:=bw hi;obtain⟨x,hx⟩:=bw (l:=ps) (i:=i) (by omega);obtain⟨y,hy⟩:=bw (l:=qs) (i:=i) (by omega);have hm:=a7 hp;obtain⟨hIl,hI⟩:=hI;have:decide (i<l.aj.length)=true:=by simpa using hi
   rw[QZ,th,ah.aI,a6,this,aD,bg hp,aw,bg hx,aw,bg hy,aw];refine ab.bind (ih p hm (hL.part hm) x y (hv i x p hx hp) (hw i y p hy hp) (ba.part (a7 hx)) (bb.part (a7 hy))) (λz hz=>?_);rw[dW (by simp;omega),aD,bM i (by omega)];refine kk _ ⟨by simp[hIl],λj p' x' y' z' h1 h2 h3 h4=>?_⟩;by_cases hj:j<i
   ·rw[lz (by omega)]at h4;exact hI j p' x' y' z' h1 h2 h3 h4
   ·have:j=i:=by
     have:=(b9.1 h4).1;simp at this;omega
    subst this;rw[hp]at h1;cases h1;rw[hx]at h2;cases h2;rw[hy]at h3;cases h3;rw[<-hIl,YI]at h4;cases h4;exact hz
  ·show ab ((qu Pf) l ⟨0,[],ps,[]⟩ ⟨0,[],qs,[]⟩ l.aj.length s) _;have:decide (l.aj.length<l.aj.length)=false:=by simp
   rw[QZ,th,ah.aI,a6,this,aF];exact ab.ret (abV hL hk ha hb hI.1 hI.2)
 ·simp only[hk,Int.reduceBEq,aD,aF];obtain⟨x,x',rfl,hx,hx'⟩:=jK hk hp ha;obtain⟨y,y',rfl,hy,hy'⟩:=jK hk hp hb;have mp:p∈l.aj:=by rw[hp];simp
  have mq:q∈l.aj:=by rw[hp];simp
  have i1:∀{α:Type} (a b:α),ao [a,b] 1=some b:=λ_ _=>rfl;obtain⟨z,e2,hz⟩:=wM (a:=x) (b:=y) (m:=137438953472) (by omega) (ba.part (by simp));rw[hp];simp only[dZ,i1,aw];rw[e2,aw];refine ab.bif (λh=>?_) (λh=>?_)
  ·have e1:x=y:=hz.1 h;subst e1;refine ab.bind (ih q mq (hL.part mq) x' y' hx' hy' (ba.part (by simp)) (bb.part (by simp))) (λr hr=>ab.ret ?_);exact adx hL hk hp hx hr
  ·have e1:x≠y:=λe=>by rw[hz.2 e]at h;cases h
   refine alt (λh=>ed.leq hL hb h) (λh=>ed.geq hL ha h) (λh g=>?_);obtain⟨p',hp',hc⟩:=hL.chain hk;rw[hp]at hp';cases hp';rw[aS.k7 hk hp rfl rfl]at h g;rcases OY hc (hL.part mp) hx hy with t|t
   ·exact absurd (.inr ⟨e1,t⟩) h
   ·exact absurd (.inr ⟨λe=>e1 e.symm,t⟩) g
 ·simp only[hk,Int.reduceBEq,aD,aF];exact alt (λh=>ed.leq hL hb h) (λh=>ed.geq hL ha h) (λh g=>abW hL hk ha hb h g)
 ·simp only[hk,Int.reduceBEq,aD,aF];obtain⟨es,rfl,h1⟩:=ha.k9 hk;obtain⟨fs,rfl,k1⟩:=hb.k9 hk;refine ab.bind (Z4 h1 k1 ba.entries bb.entries) (λr hr=>ab.ret ?_);exact ady hL hk ha hb hr.1 hr.2.1 hr.2.2
