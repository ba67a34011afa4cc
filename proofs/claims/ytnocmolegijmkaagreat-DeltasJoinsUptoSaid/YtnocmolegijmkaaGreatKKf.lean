/- join.leq decides the order. -/
import Derived.Test.YtnocmolegijmkaaGreatKKd
set_option linter.all false
namespace Go.Proofs.YtnocmolegijmkaaGreat
open Go Go.Bw
theorem tG {a : List (List UInt8)} {x : List UInt8} (ha : a.length < 9223372036854775807) : ((f93 Pf) a x = some (-1) ∧ x ∉ a) ∨ ∃ i : Nat, (f93 Pf) a x = some (i : Int) ∧ a[i]? = some x := by
  rw [EG a x ha]
  rcases yB (fun y => x == y) a 0 with ⟨h1, h2⟩ | ⟨i, y, h1, h2, h3, _⟩
  · exact .inl ⟨congrArg some h1, fun hx => by have := h2 x hx; simp at this⟩
  · have e : x = y := by simpa using h3
    subst e
    exact .inr ⟨i, by have e : idxOf (fun y => x == y) a 0 = ((0 + i : Nat) : Int) := h1
                      rw [e, kJ], h2⟩
theorem JK {D:Type} {a:List D} {L:Int->Option Int} {C:D->Prop} {g:D->Option Bool} (hl:a.length<=274877906944) (hg:∀x∈a,∃r,g x=some r/\(r=true↔C x)) (hL:∀j,L j=bif decide (j<(a.length:Int))then((aj a j).bind λx=>(g x).bind λy=>bif y then some j else L (IntKind.i64.wrap (j+1)))else some (-1)):∃r,L 0=some r/\(decide (r>=0)=true↔∃x∈a,C x):=by
 have:=gE (L:=λi=>L i) (P:=λr=>decide (r>=0)=true↔∃x∈a,C x) (len:=a.length) (λi=>∀x∈a.take i,¬C x) (λi hi hI k=>by
  show ae (L i) _;obtain⟨x,hx⟩:=bo hi;have hm:=aV hx;obtain⟨r,h1,h2⟩:=hg x hm;have:decide (i<a.length)=true:=by simpa using hi
  rw[hL,a7,this,aB,bf hx,au,h1,au,bW i (by omega)];refine ae.bif (λh=>ae.ret ?_) (λh=>k λz hz=>?_)
  ·have:decide ((i:Int)>=0)=true:=by simp
   rw[this];exact oU ⟨x,hm,h2.1 h⟩
  ·rw[fM,hx]at hz;rcases b7.1 hz with hz|hz
   ·exact hI z hz
   ·simp at hz;subst hz;intro g;rw[h2.2 g]at h;cases h) (λhI=>by
  show ae (L a.length) _;have:decide (a.length<a.length)=false:=by simp
  rw[hL,a7,this,aC];rw[eV]at hI;exact ae.ret (fO λ⟨x,hx,hc⟩=>hI x hx hc)) 0 (by omega) (by simp)
 exact this
theorem P2 {e:az} {fs:List az} (hl:fs.length<=274877906944) (he:cd e.a8) (hf:∀f∈fs,cd f.a8):∃r,(f95 Pf) e fs=some r/\(r=true↔∃f∈fs,under e f):=by
 obtain⟨r,h1,h2⟩:=JK (L:=λj=>(xX Pf) fs e j) (C:=λf=>under e f) (g:=λx=>(f143 Pf) x e) hl (λx hx=>by
  obtain⟨r,h1,h2⟩:=adG he (hf x hx);refine⟨r,?_,h2⟩;rw[aiS,Be,h1];rfl) (λj=>by rw[aaZ,xY,az.aH])
 refine⟨_,?_,h2⟩;rw[e95,CT,acG,yS,acH,ue,h1];rfl
theorem JO:∀l:ag,cA l->∀a b:af,VE l a->VE l b->SV a->SV b->ae ((f45 Pf) l a b) (λr=>r=true↔aP l a b):=by
 refine ag.ind λl ih hL a b ha hb sa sb=>?_;rw[e45,CU];refine hL.cases (λhk=>?_) (λhk=>?_) (λhk=>?_) (λp hk hp=>?_) (λhk=>?_) (λp q hk hp=>?_) (λhk=>?_) (λhk=>?_)
 ·simp only[hk,Int.reduceBEq,aB,aC];rw[aP.k1 (.inl hk)];exact ae.ret decide_eq_true_iff
 ·rcases hk with hk|hk
  ·simp only[hk,Int.reduceBEq,aB,aC];rw[aP.k1 (.inr hk)];exact ae.ret decide_eq_true_iff
  ·simp only[hk,Int.reduceBEq,aB,aC];rw[aP.k3 hk];exact ae.ret decide_eq_true_iff
 ·have main:ae (((f92 Pf) a.Names b.Names).bind λy5=>some y5) (λr=>r=true↔aP l a b):=by
   have h1:=sa.bv.names;have h2:=sb.bv.names;rw[Em _ _ (by omega) (by omega),aP.k4 hk];exact ae.ret JR
  rcases hk with hk|hk
  ·simp only[hk,Int.reduceBEq,aB,aC];exact main
  ·simp only[hk,Int.reduceBEq,aB,aC];exact main
 ·simp only[hk,Int.reduceBEq,aB,aC];have hm:p∈l.ai:=by rw[hp];simp
  obtain⟨p1,ns,ps,hp1,rfl,hN,hlen,hv,_⟩:=ha.k5 hk;obtain⟨p2,ms,qs,hp2,rfl,hM,hlen2,hw,_⟩:=hb.k5 hk;rw[hp]at hp1 hp2;cases hp1;cases hp2;have s1:=sa.bv.names;have s2:=sb.bv.names;cases sa with
  |mk _ _ _ _ _ sap=>
  cases sb with
  |mk _ _ _ _ _ sbp=>
  rw[aP.k5 hk hp];simp only at s1 s2 sap sbp⊢;refine gE (L:=λi=>(r8 Pf) l ⟨0,ns,ps,[]⟩ ⟨0,ms,qs,[]⟩ i) (P:=λr=>r=true↔∀(i:Nat) k x,ns[i]? =some k->ps[i]? =some x->∃(j:Nat) (y:af),ms[j]? =some k/\qs[j]? =some y/\aP p x y) (len:=ns.length) (λn=>∀(i:Nat) k x,i<n->ns[i]? =some k->ps[i]? =some x->∃(j:Nat) (y:af),ms[j]? =some k/\qs[j]? =some y/\aP p x y) (λi hi hI k=>?_) (λhI=>?_) 0 (by omega) (λi k x h=>by omega)
  ·show ae ((r8 Pf) l ⟨0,ns,ps,[]⟩ ⟨0,ms,qs,[]⟩ i) _;obtain⟨s,hs⟩:=bo hi;obtain⟨x,hx⟩:=lF hlen hs;have hxm:=aV hx;have:decide (i<ns.length)=true:=by simpa using hi
   rw[U8,vI,bN,a7,this,aB,bf hs,au];rcases tG (a:=ms) (x:=s) (by omega)with⟨e1,e2⟩|⟨j,e1,e2⟩
   ·rw[e1,au];refine ae.ret (fO λg=>?_);obtain⟨j,y,g1,_⟩:=g i s x hs hx;exact e2 (aV g1)
   ·obtain⟨y,hy⟩:=lF hlen2 e2;have hym:=aV hy;rw[e1,au,dH (by omega),aC,hp,eO,au,bf hx,au,bf hy,au,bW i (by omega)];refine ae.bind (ih p hm (hL.part hm) x y (hv x hxm) (hw y hym) (sap x hxm) (sbp y hym)) (λr hr=>ae.bif (λh=>ae.ret (fO λg=>?_)) (λh=>k λm k' x' hm' h1 h2=>?_))
    ·obtain⟨j',y',g1,g2,g3⟩:=g i s x hs hx;have:=mI hM.1 g1 e2;subst this;rw[hy]at g2;cases g2;rw[hr.2 g3]at h;cases h
    ·rcases pD.1 hm' with hm'|rfl
     ·exact hI m k' x' hm' h1 h2
     ·rw[hs]at h1;cases h1;rw[hx]at h2;cases h2;exact⟨j,y,e2,hy,hr.1 (by simpa using h)⟩
  ·show ae ((r8 Pf) l ⟨0,ns,ps,[]⟩ ⟨0,ms,qs,[]⟩ ns.length) _;have:decide (ns.length<ns.length)=false:=by simp
   rw[U8,vI,bN,a7,this,aC];exact ae.ret (oU λi k x h=>hI i k x (cr.1 h).1 h)
 ·simp only[hk,Int.reduceBEq,aB,aC];obtain⟨ps,rfl,hlen,hv⟩:=ha.k6 (.inl hk);obtain⟨qs,rfl,hlen2,hw⟩:=hb.k6 (.inl hk);have s1:=sa.bv.parts;cases sa with
  |mk _ _ _ _ _ sap=>
  cases sb with
  |mk _ _ _ _ _ sbp=>
  rw[aP.k6 hk];simp only at s1 sap sbp⊢;refine gE (L:=λi=>(r9 Pf) l ⟨0,[],ps,[]⟩ ⟨0,[],qs,[]⟩ i) (P:=λr=>r=true↔∀(i:Nat) p x y,l.ai[i]? =some p->ps[i]? =some x->qs[i]? =some y->aP p x y) (len:=l.ai.length) (λn=>∀(i:Nat) p x y,i<n->l.ai[i]? =some p->ps[i]? =some x->qs[i]? =some y->aP p x y) (λi hi hI k=>?_) (λhI=>?_) 0 (by omega) (λi k x _ h=>by omega)
  ·show ae ((r9 Pf) l ⟨0,[],ps,[]⟩ ⟨0,[],qs,[]⟩ i) _;obtain⟨p,hp⟩:=bo hi;obtain⟨x,hx⟩:=bo (l:=ps) (i:=i) (by omega);obtain⟨y,hy⟩:=bo (l:=qs) (i:=i) (by omega);have hm:=aV hp;have:decide (i<l.ai.length)=true:=by simpa using hi
   rw[U9,vJ,ag.aH,a7,this,aB,bf hp,au,bf hx,au,bf hy,au,bW i (by omega)];refine ae.bind (ih p hm (hL.part hm) x y (hv i x p hx hp) (hw i y p hy hp) (sap x (aV hx)) (sbp y (aV hy))) (λr hr=>ae.bif (λh=>ae.ret (fO λg=>?_)) (λh=>k λm p' x' y' hm' h1 h2 h3=>?_))
   ·rw[hr.2 (g i p x y hp hx hy)]at h;cases h
   ·rcases pD.1 hm' with hm'|rfl
    ·exact hI m p' x' y' hm' h1 h2 h3
    ·rw[hp]at h1;cases h1;rw[hx]at h2;cases h2;rw[hy]at h3;cases h3;exact hr.1 (by simpa using h)
  ·show ae ((r9 Pf) l ⟨0,[],ps,[]⟩ ⟨0,[],qs,[]⟩ l.ai.length) _;have:decide (l.ai.length<l.ai.length)=false:=by simp
   rw[U9,vJ,ag.aH,a7,this,aC];exact ae.ret (oU λi p x y h=>hI i p x y (cr.1 h).1 h)
 ·simp only[hk,Int.reduceBEq,aB,aC];obtain⟨x,x',rfl,hx,hx'⟩:=kV hk hp ha;obtain⟨y,y',rfl,hy,hy'⟩:=kV hk hp hb;have mp:p∈l.ai:=by rw[hp];simp
  have mq:q∈l.ai:=by rw[hp];simp
  cases sa with
  |mk _ _ _ _ _ sap=>
  cases sb with
  |mk _ _ _ _ _ sbp=>
  rw[aP.k7 hk hp rfl rfl,hp];simp only at sap sbp⊢;rw[eO,au,eO,au];have i1:∀{D:Type} (a b:D),aj [a,b] 1=some b:=λ_ _=>rfl;obtain⟨z,e2,hz⟩:=yO (a:=x) (b:=y) (m:=274877906944) (by omega) (sap x (by simp)).bv;rw[e2,au];refine ae.bif (λh=>?_) (λh=>?_)
  ·have e1:x=y:=hz.1 h;rw[i1,au,i1,au,i1,au];refine ae.bind (ih q mq (hL.part mq) x' y' hx' hy' (sap x' (by simp)) (sbp y' (by simp))) (λr hr=>ae.ret ?_);rw[hr];exact⟨λh=> .inl ⟨e1,h⟩,λh=>h.elim (λh=>h.2) λh=>absurd e1 h.1⟩
  ·have e1:x≠y:=λe=>by rw[hz.2 e]at h;cases h
   simp only[eO,au];refine ae.bind (ih p mp (hL.part mp) x y hx hy (sap x (by simp)) (sbp y (by simp))) (λr hr=>ae.ret ?_);rw[hr];exact⟨λh=> .inr ⟨e1,h⟩,λh=>h.elim (λh=>absurd h.1 e1) λh=>h.2⟩
 ·simp only[hk,Int.reduceBEq,aB,aC];rw[aP.k8 hk];refine ae.bif (λh=>ae.ret (oU (.inl (by simpa using h)))) (λh0=>ae.bif (λh=>ae.ret (oU (.inr (.inl (by simpa using h))))) (λh2=>?_));obtain⟨r,e,hr⟩:=yO (a:=a) (b:=b) (m:=274877906944) (by omega) sa.bv;rw[e,au];refine ae.ret ?_;rw[hr];exact⟨λh=> .inr (.inr h),λh=>by
   rcases h with h|h|h
   ·rw[h]at h0;cases h0
   ·rw[h]at h2;cases h2
   ·exact h⟩
 ·simp only[hk,Int.reduceBEq,aB,aC];obtain⟨es,rfl,h1,_⟩:=ha.k9 hk;obtain⟨fs,rfl,k1,_⟩:=hb.k9 hk;have s1:=sa.bv.entries;have s2:=sb.bv.entries;rw[aP.k9 hk];simp only at s1 s2⊢;refine gE (L:=λi=>(sc Pf) ⟨0,[],[],es⟩ ⟨0,[],[],fs⟩ i) (P:=λr=>r=true↔∀e∈es,∃f∈fs,under e f) (len:=es.length) (λn=>∀e∈es.take n,∃f∈fs,under e f) (λi hi hI k=>?_) (λhI=>?_) 0 (by omega) (by simp)
  ·show ae ((sc Pf) ⟨0,[],[],es⟩ ⟨0,[],[],fs⟩ i) _;obtain⟨x,hx⟩:=bo hi;have hm:=aV hx;obtain⟨r,e,hr⟩:=P2 (e:=x) (fs:=fs) (by omega) (h1 x hm).2.1 (λf hf=>(k1 f hf).2.1);have:decide (i<es.length)=true:=by simpa using hi
   rw[U',vK,az.aH,a7,this,aB,bf hx,au,e,au,bW i (by omega)];refine ae.bif (λh=>ae.ret (fO λg=>?_)) (λh=>k λz hz=>?_)
   ·rw[hr.2 (g x hm)]at h;cases h
   ·rw[fM,hx]at hz;rcases b7.1 hz with hz|hz
    ·exact hI z hz
    ·simp at hz;subst hz;exact hr.1 (by simpa using h)
  ·show ae ((sc Pf) ⟨0,[],[],es⟩ ⟨0,[],[],fs⟩ es.length) _;have:decide (es.length<es.length)=false:=by simp
   rw[U',vK,az.aH,a7,this,aC];rw[eV]at hI;exact ae.ret (oU hI)
theorem S3 {D:Type} {s t:List D} {x:D} (h:s.Sublist t):(s++[x]).Sublist (t++[x]):=h.append (HF _)
theorem S4 {D:Type} {s t:List D} {x:D} (h:s.Sublist t):s.Sublist (t++[x]):=h.trans (List.sublist_append_left _ _)
theorem RG {es:List az} (h:es.Pairwise λe f=>fJ e f<0):es.Nodup:=h.imp λ{a b} h e=>by rw[e,pP.refl]at h;omega
theorem abV {es fs:List az} (he:ke es) (hf:ke fs) (hl1:es.length<=137438953472) (hl2:fs.length<=137438953472):ae ((f193 Pf) es fs) (λms=>(ms.Pairwise λe f=>fJ e f<0)/\(∀e,e∈ms↔(e∈es/\¬∃f∈fs,under e f)\/(e∈fs/\¬∃f∈es,mU e f))/\ms.length<=es.length+fs.length):=by
 rw[aiQ,wT];refine eo (L:=λi s=>(pY Pf) es fs s i) (P:=λms=>(ms.Pairwise λe f=>fJ e f<0)/\(∀e,e∈ms↔(e∈es/\¬∃f∈fs,under e f)\/(e∈fs/\¬∃f∈es,mU e f))/\ms.length<=es.length+fs.length) (len:=es.length) (λi s=>s.Sublist (es.take i)/\∀e,e∈s↔e∈es.take i/\¬∃f∈fs,under e f) (λi s hi hI k=>?_) (λs hI=>?_) 0 [] (by omega) ⟨by simp,by simp⟩
 ·show ae ((pY Pf) es fs s i) _;obtain⟨x,hx⟩:=bo hi;have hm:=aV hx;obtain⟨r,e,hr⟩:=P2 (e:=x) (fs:=fs) (by omega) (he.1 x hm).2.1 (λf h=>(hf.1 f h).2.1);have:decide (i<es.length)=true:=by simpa using hi
  have hsl:s.length<=i:=iM hI.1.length_le (by rw[iK];omega);have ht:es.take (i+1)=es.take i++[x]:=by rw[fM,hx];rfl
  rw[S5,uR,az.aH,a7,this,aB,bf hx,au,e,au,bW i (by omega),eN (by simp;omega),aB];refine ae.bif (λh=>k _ ?_) (λh=>k _ ?_)
  ·have hno:¬∃f∈fs,under x f:=λg=>by rw[hr.2 g]at h;cases h
   rw[ht];refine⟨S3 hI.1,λe=>?_⟩;rw[b7,b7,hI.2 e,iZ];exact⟨λh=>h.elim (λh=>⟨.inl h.1,h.2⟩) λh=>⟨.inr h,h▸hno⟩,λh=>h.1.elim (λg=> .inl ⟨g,h.2⟩) .inr⟩
  ·have hyes:∃f∈fs,under x f:=hr.1 (by simpa using h);rw[ht];refine⟨S4 hI.1,λe=>?_⟩;rw[b7,hI.2 e,iZ];exact⟨λh=>⟨.inl h.1,h.2⟩,λh=>h.1.elim (λg=>⟨g,h.2⟩) λg=>absurd (g▸hyes) h.2⟩
 show ae ((pY Pf) es fs s es.length) _;have:decide (es.length<es.length)=false:=by simp
 rw[S5,uR,az.aH,a7,this,aC];rw[eV]at hI;refine eo (L:=λi t=>(pZ Pf) es fs t i) (P:=λms=>(ms.Pairwise λe f=>fJ e f<0)/\(∀e,e∈ms↔(e∈es/\¬∃f∈fs,under e f)\/(e∈fs/\¬∃f∈es,mU e f))/\ms.length<=es.length+fs.length) (len:=fs.length) (λi t=>∃u,t=s++u/\u.Sublist (fs.take i)/\∀e,e∈u↔e∈fs.take i/\¬∃f∈es,mU e f) (λi t hi hJ k=>?_) (λt hJ=>?_) 0 s (by omega) ⟨[],by simp,by simp,by simp⟩
 ·show ae ((pZ Pf) es fs t i) _;obtain⟨u,rfl,hJ⟩:=hJ;obtain⟨x,hx⟩:=bo hi;have hm:=aV hx;obtain⟨r,e1,hr⟩:=JK (a:=es) (L:=λj=>(xV Pf) es x j) (C:=λf=>mU x f) (g:=λy=>(f242 Pf) y x) (by omega) (λy hy=>by
   obtain⟨r,h1,_,h2,_⟩:=JQ (hf.1 x hm).2.1 (he.1 y hy).2.1;refine⟨r==1,?_,by rw[beq_iff_eq];exact h2⟩;rw[aiR,Bd,h1];rfl) (λj=>by rw[aaY,xW,az.aH])
  have e2:(El Pf) es x=some (decide (r>=0)):=by
   rw[acE,yR,acF,uc,e1];rfl
  have:decide (i<fs.length)=true:=by simpa using hi
  have hsl:s.length<=es.length:=hI.1.length_le;have hul:u.length<=i:=iM hJ.1.length_le (by rw[iK];omega);have ht:fs.take (i+1)=fs.take i++[x]:=by rw[fM,hx];rfl
  rw[S6,uS,RH,az.aH,a7,this,aB,bf hx,au,e2,au,bW i (by omega),eN (by simp;omega),aB];refine ae.bif (λh=>k _ ?_) (λh=>k _ ?_)
  ·have hno:¬∃f∈es,mU x f:=λg=>by rw[hr.2 g]at h;cases h
   rw[ht];refine⟨u++[x],by simp,S3 hJ.1,λe=>?_⟩;rw[b7,b7,hJ.2 e,iZ];exact⟨λh=>h.elim (λh=>⟨.inl h.1,h.2⟩) λh=>⟨.inr h,h▸hno⟩,λh=>h.1.elim (λg=> .inl ⟨g,h.2⟩) .inr⟩
  ·have hyes:∃f∈es,mU x f:=hr.1 (by simpa using h);rw[ht];refine⟨u,rfl,S4 hJ.1,λe=>?_⟩;rw[b7,hJ.2 e,iZ];exact⟨λh=>⟨.inl h.1,h.2⟩,λh=>h.1.elim (λg=>⟨g,h.2⟩) λg=>absurd (g▸hyes) h.2⟩
 show ae ((pZ Pf) es fs t fs.length) _;obtain⟨u,rfl,hJ⟩:=hJ;rw[eV]at hJ;have:decide (fs.length<fs.length)=false:=by simp
 have hsl:s.length<=es.length:=hI.1.length_le;have hul:u.length<=fs.length:=hJ.1.length_le;have hck:AK (s++u)=true:=by
  unfold AK;rw[gf];intro e h;rw[jQ];have:cd e.a8:=by
   rcases b7.1 h with h|h
   ·exact(he.1 e ((hI.2 e).1 h).1).2.1
   ·exact(hf.1 e ((hJ.2 e).1 h).1).2.1
  have:=oT this;omega
 have hsf:uy (s++u)=some ((),dR fJ (s++u)):=(abe (s++u)).trans (by rw[eN (by simp;omega),hck];rfl);rw[S6,uS,RH,az.aH,a7,this,aC,hsf,au,dT (by rw[az.aH,az.aH,nL]),aB];have mem:∀e,e∈dR fJ (s++u)↔(e∈es/\¬∃f∈fs,under e f)\/(e∈fs/\¬∃f∈es,mU e f):=λe=>by
  rw[(oL (s++u)).mem_iff,b7,hI.2 e,hJ.2 e]
 refine ae.ret ⟨?_,mem,by rw[nL];simp;omega⟩;have nd:(s++u).Nodup:=by
  rw[ly];refine⟨(RG he.2.1).sublist hI.1,(RG hf.2.1).sublist hJ.1,λa ha b hb e=>?_⟩;subst e;exact((hI.2 a).1 ha).2 ⟨a,((hJ.2 a).1 hb).1,under.refl a⟩
 have nd':(dR fJ (s++u)).Nodup:=(oL (s++u)).symm.nodup nd;exact(List.Pairwise.and (tF pP (s++u)) nd').imp λ{a b} h=>by
  have h0:=pP.fQ a b;by_cases e:fJ a b=0
  ·exact absurd (h0.1 e) h.2
  ·have:=h.1;omega
theorem U7 {D:Type} [BEq D] [LawfulBEq D]:∀{a b:List D},a.Nodup->(∀x∈a,x∈b)->a.length<=b.length
 |[],b,_,_=>by simp
 |x::a,b,h,hs=>by
  rw[OJ]at h;have hx:=hs x (by simp);have:=U7 h.2 (b:=b.erase x) λy hy=>(aao λe:y=x=>h.1 (e▸hy)).2 (hs y (by simp[hy]));rw[anS hx]at this;have:=List.length_pos_of_mem hx;simp;omega
theorem RA {l:ag} (h:cA l):JP l.Names l.bO:=λr hr=>by
 obtain⟨h1,h2,h3,h4⟩:=h.names.2.2.2 r hr;have h3':∀x∈r.If,x∈l.Names:=λx hx=>rI.1 (gf.1 h3 x hx);refine⟨⟨h3',rI.1 h4⟩,?_,h2⟩;have hl:=h.KZ.1;have:r.If.length<=l.Names.length:=by
  rw[ua]at h2;have nd:r.If.Nodup:=h2.imp λ{a b} h e=>by rw[e,kP]at h;cases h
  exact U7 nd h3'
 split at hl
 ·omega
 ·split at hl<;>omega
theorem We {l:ag} {v:af} (hk:l.Kind=10) (h:cA l) (hv:VE l v):∀s∈v.Names,s∈l.Names:=by
 obtain⟨ns,rfl,hn,_⟩:=hv.k4 (.inr hk);have:l.Names≠[]:=by have:=h.shape;unfold iQ at this;simp[hk]at this;exact this.2.1
 exactλs hs=>(hn.2 s hs).2.resolve_left this
theorem RE:∀l:ag,cA l->∀a b:af,VE l a->VE l b->BV 137438953472 a->BV 137438953472 b->ae ((f138 Pf) l a b) (λr=>eQ l a b r):=by
 refine ag.ind λl ih hL a b ha hb ba bb=>?_;have sa:SV a:=ha.sv (m:=137438953472) (by omega) ba;have sb:SV b:=hb.sv (m:=137438953472) (by omega) bb;have alt:∀{Q:af->Prop},(aP l a b->Q b)->(aP l b a->Q a)->(¬aP l a b->¬aP l b a->Q ⟨2,[],[],[]⟩)->ae (((f45 Pf) l a b).bind λy71=>(bif y71 then(some b)else(((f45 Pf) l b a).bind λy73=>(bif y73 then(some a)else(some ({N:=2,Names:=[],ai:=[],Entries:=[]:af})))))) Q:=by
  intro Q q1 q2 q3;refine ae.bind (JO l hL a b ha hb sa sb) (λy hy=>ae.bif (λh=>ae.ret (q1 (hy.1 h))) (λh=>?_));refine ae.bind (JO l hL b a hb ha sb sa) (λz hz=>ae.bif (λg=>ae.ret (q2 (hz.1 g))) (λg=>ae.ret (q3 ?_ ?_)))
  ·intro e;rw[hy.2 e]at h;cases h
  ·intro e;rw[hz.2 e]at g;cases g
 have chn:mC l->ae (((f45 Pf) l a b).bind λy71=>(bif y71 then(some b)else(((f45 Pf) l b a).bind λy73=>(bif y73 then(some a)else(some ({N:=2,Names:=[],ai:=[],Entries:=[]:af})))))) (λr=>eQ l a b r):=λhc=>
  alt (λh=>eQ.leq hL hb h) (λh=>eQ.geq hL ha h) (λh g=>(QJ hc hL ha hb).elim (λe=>absurd e h) (λe=>absurd e g))
 rw[aiP,Bc];refine hL.cases (λhk=>?_) (λhk=>?_) (λhk=>?_) (λp hk hp=>?_) (λhk=>?_) (λp q hk hp=>?_) (λhk=>?_) (λhk=>?_)
 ·simp only[hk,Int.reduceBEq,aB,aC];exact chn (.one (.inl hk))
 ·rcases hk with hk|hk
  ·simp only[hk,Int.reduceBEq,aB,aC];exact chn (.one (.inr (.inl hk)))
  ·simp only[hk,Int.reduceBEq,aB,aC];exact chn (.one (.inr (.inr hk)))
 ·obtain⟨ns,rfl,hN,hCa⟩:=ha.k4 hk;obtain⟨ms,rfl,hM,hCb⟩:=hb.k4 hk;have n1:=ba.names;have n2:=bb.names;simp only at n1 n2;have hu:=Pl hN.1 hM.1;have hlen:=RF ns ms;have hmem:∀x,x∈cS ns ms↔x∈ns\/x∈ms:=λx=>rv;rcases hk with hk|hk
  ·simp only[hk,Int.reduceBEq,aB,aC];rw[union_eq (by omega) hN.1 hM.1,au];exact ae.ret (afb hL hk ha hb hu hmem hlen)
  ·simp only[hk,Int.reduceBEq,aB,aC];rw[union_eq (by omega) hN.1 hM.1,au];have hLN:=hL.KZ;have hl1:l.Names.length<=12:=by have:=hLN.1;rw[aM (by omega),bg hk]at this;exact this
   have hl2:l.bO.length<=32:=hLN.2;have hLn:=hL.names;have hin:∀x∈cS ns ms,x∈l.Names:=λx hx=>((hmem x).1 hx).elim (We hk hL ha x) (We hk hL hb x);refine ae.bind (Rz (hLn.2.1 (by omega)) (by omega) hLn.1 (RA hL) (by omega) hu (by omega) hin) (λy hy=>ae.ret ?_);obtain⟨_,y1,y2,c1,c2,c3,c4⟩:=hy;refine⟨abU hL hk ⟨y1,λs hs=>⟨hLn.1 s (c1 s hs),.inr (c1 s hs)⟩⟩ c3 (λx hx=>c2 x ((hmem x).2 hx)) (λds hd h=>c4 ds hd λx hx=>h x ((hmem x).1 hx)),λm n h0 _ _=> .mk (by simp only;omega) (by simp) (by simp) (by simp) (by simp)⟩
 ·simp only[hk,Int.reduceBEq,aB,aC];have hm:p∈l.ai:=by rw[hp];simp
  obtain⟨p1,ns,ps,hp1,rfl,hN,hlen,hv,_⟩:=ha.k5 hk;obtain⟨p2,ms,qs,hp2,rfl,hM,hlen2,hw,_⟩:=hb.k5 hk;rw[hp]at hp1 hp2;cases hp1;cases hp2;have n1:=ba.names;have n2:=bb.names;simp only at n1 n2;have hu:=Pl hN.1 hM.1;have hul:=RF ns ms;have hmem:∀x,x∈cS ns ms↔x∈ns\/x∈ms:=λx=>rv;rw[union_eq (by omega) hN.1 hM.1,au];refine eo (L:=λi s=>(nT Pf) l ⟨0,ns,ps,[]⟩ ⟨0,ms,qs,[]⟩ (cS ns ms) i s) (P:=λr=>eQ l ⟨0,ns,ps,[]⟩ ⟨0,ms,qs,[]⟩ r) (len:=(cS ns ms).length) (λi s=>s.length=i/\∀(j:Nat) k z,(cS ns ms)[j]? =some k->s[j]? =some z->(k∉ns/\∃j:Nat,ms[j]? =some k/\qs[j]? =some z)\/(k∉ms/\∃j:Nat,ns[j]? =some k/\ps[j]? =some z)\/∃(i':Nat) (j:Nat) (x:af) (y:af),ns[i']? =some k/\ps[i']? =some x/\ms[j]? =some k/\qs[j]? =some y/\eQ p x y z) (λi s hi hI kk=>?_) (λs hI=>?_) 0 [] (by omega) ⟨rfl,λj k z _ h=>by simp at h⟩
  ·show ae ((nT Pf) l ⟨0,ns,ps,[]⟩ ⟨0,ms,qs,[]⟩ (cS ns ms) i s) _;obtain⟨k,hk'⟩:=bo hi;have hku:=aV hk';obtain⟨hIl,hI⟩:=hI;have:decide (i<(cS ns ms).length)=true:=by simpa using hi
   have hg:∀z:af,decide ((s++[z]).length<=274877906944)=true:=λz=>eN (by simp;omega);have fin:∀z,((k∉ns/\∃j:Nat,ms[j]? =some k/\qs[j]? =some z)\/(k∉ms/\∃j:Nat,ns[j]? =some k/\ps[j]? =some z)\/∃(i':Nat) (j:Nat) (x:af) (y:af),ns[i']? =some k/\ps[i']? =some x/\ms[j]? =some k/\qs[j]? =some y/\eQ p x y z)->ae ((nT Pf) l ⟨0,ns,ps,[]⟩ ⟨0,ms,qs,[]⟩ (cS ns ms) (IntKind.i64.wrap ((i:Int)+1)) (s++[z])) (λr=>eQ l ⟨0,ns,ps,[]⟩ ⟨0,ms,qs,[]⟩ r):=by
    intro z hz;rw[bW i (by omega)];refine kk _ ⟨by simp[hIl],λj k' z' h1 h2=>?_⟩;by_cases hj:j<i
    ·rw[mF (by omega)]at h2;exact hI j k' z' h1 h2
    ·have:j=i:=by
      have:=(cr.1 h2).1;simp at this;omega
     subst this;rw[hk']at h1;cases h1;rw[<-hIl,aaw]at h2;cases h2;exact hz
   rw[S1,uP,bN,a7,this,aB,bf hk',au];rcases tG (a:=ns) (x:=k) (by omega)with⟨e1,e2⟩|⟨j1,e1,e2⟩
   ·rcases tG (a:=ms) (x:=k) (by omega)with⟨f1,f2⟩|⟨j2,f1,f2⟩
    ·exact absurd ((hmem k).1 hku) (λh=>h.elim e2 f2)
    ·obtain⟨y,hy⟩:=lF hlen2 f2;rw[e1,au,f1,au,dT (by decide),aB,bf hy,au,hg,aB];exact fin y (.inl ⟨e2,j2,f2,hy⟩)
   ·obtain⟨x,hx⟩:=lF hlen e2;rw[e1,au];rcases tG (a:=ms) (x:=k) (by omega)with⟨f1,f2⟩|⟨j2,f1,f2⟩
    ·rw[f1,au,dH (by omega),aC,dT (by decide),aB,bf hx,au,hg,aB];exact fin x (.inr (.inl ⟨f2,j1,e2,hx⟩))
    ·obtain⟨y,hy⟩:=lF hlen2 f2;have hxm:=aV hx;have hym:=aV hy;rw[f1,au,dH (by omega),aC,dH (by omega),aC,hp,eO,au,bf hx,au,bf hy,au];refine ae.bind (ih p hm (hL.part hm) x y (hv x hxm) (hw y hym) (ba.part hxm) (bb.part hym)) (λz hz=>?_);rw[hg,aB];exact fin z (.inr (.inr ⟨j1,j2,x,y,e2,hx,f2,hy,hz⟩))
  ·show ae ((nT Pf) l ⟨0,ns,ps,[]⟩ ⟨0,ms,qs,[]⟩ (cS ns ms) (cS ns ms).length s) _;have:decide ((cS ns ms).length<(cS ns ms).length)=false:=by simp
   rw[S1,uP,bN,a7,this,aC];exact ae.ret (afc hL hk hp ha hb hu hmem hul hI.1.symm hI.2)
 ·simp only[hk,Int.reduceBEq,aB,aC];obtain⟨ps,rfl,hlen,hv⟩:=ha.k6 (.inl hk);obtain⟨qs,rfl,hlen2,hw⟩:=hb.k6 (.inl hk);have n1:=ba.parts;simp only at n1;refine eo (L:=λi s=>(rJ Pf) l ⟨0,[],ps,[]⟩ ⟨0,[],qs,[]⟩ i s) (P:=λr=>eQ l ⟨0,[],ps,[]⟩ ⟨0,[],qs,[]⟩ r) (len:=l.ai.length) (λi s=>s.length=i/\∀(j:Nat) p x y z,l.ai[j]? =some p->ps[j]? =some x->qs[j]? =some y->s[j]? =some z->eQ p x y z) (λi s hi hI kk=>?_) (λs hI=>?_) 0 [] (by omega) ⟨rfl,λj p x y z _ _ _ h=>by simp at h⟩
  ·show ae ((rJ Pf) l ⟨0,[],ps,[]⟩ ⟨0,[],qs,[]⟩ i s) _;obtain⟨p,hp⟩:=bo hi;obtain⟨x,hx⟩:=bo (l:=ps) (i:=i) (by omega);obtain⟨y,hy⟩:=bo (l:=qs) (i:=i) (by omega);have hm:=aV hp;obtain⟨hIl,hI⟩:=hI;have:decide (i<l.ai.length)=true:=by simpa using hi
   rw[S2,uQ,ag.aH,a7,this,aB,bf hp,au,bf hx,au,bf hy,au];refine ae.bind (ih p hm (hL.part hm) x y (hv i x p hx hp) (hw i y p hy hp) (ba.part (aV hx)) (bb.part (aV hy))) (λz hz=>?_);rw[eN (by simp;omega),aB,bW i (by omega)];refine kk _ ⟨by simp[hIl],λj p' x' y' z' h1 h2 h3 h4=>?_⟩;by_cases hj:j<i
   ·rw[mF (by omega)]at h4;exact hI j p' x' y' z' h1 h2 h3 h4
   ·have:j=i:=by
     have:=(cr.1 h4).1;simp at this;omega
    subst this;rw[hp]at h1;cases h1;rw[hx]at h2;cases h2;rw[hy]at h3;cases h3;rw[<-hIl,aaw]at h4;cases h4;exact hz
  ·show ae ((rJ Pf) l ⟨0,[],ps,[]⟩ ⟨0,[],qs,[]⟩ l.ai.length s) _;have:decide (l.ai.length<l.ai.length)=false:=by simp
   rw[S2,uQ,ag.aH,a7,this,aC];exact ae.ret (adE hL hk ha hb hI.1 hI.2)
 ·simp only[hk,Int.reduceBEq,aB,aC];obtain⟨x,x',rfl,hx,hx'⟩:=kV hk hp ha;obtain⟨y,y',rfl,hy,hy'⟩:=kV hk hp hb;have mp:p∈l.ai:=by rw[hp];simp
  have mq:q∈l.ai:=by rw[hp];simp
  have i1:∀{D:Type} (a b:D),aj [a,b] 1=some b:=λ_ _=>rfl;obtain⟨z,e2,hz⟩:=yO (a:=x) (b:=y) (m:=137438953472) (by omega) (ba.part (by simp));rw[hp];simp only[eO,i1,au];rw[e2,au];refine ae.bif (λh=>?_) (λh=>?_)
  ·have e1:x=y:=hz.1 h;subst e1;refine ae.bind (ih q mq (hL.part mq) x' y' hx' hy' (ba.part (by simp)) (bb.part (by simp))) (λr hr=>ae.ret ?_);exact afd hL hk hp hx hr
  ·have e1:x≠y:=λe=>by rw[hz.2 e]at h;cases h
   refine alt (λh=>eQ.leq hL hb h) (λh=>eQ.geq hL ha h) (λh g=>?_);obtain⟨p',hp',hc⟩:=hL.chain hk;rw[hp]at hp';cases hp';rw[aP.k7 hk hp rfl rfl]at h g;rcases QJ hc (hL.part mp) hx hy with t|t
   ·exact absurd (.inr ⟨e1,t⟩) h
   ·exact absurd (.inr ⟨λe=>e1 e.symm,t⟩) g
 ·simp only[hk,Int.reduceBEq,aB,aC];exact alt (λh=>eQ.leq hL hb h) (λh=>eQ.geq hL ha h) (λh g=>adF hL hk ha hb h g)
 ·simp only[hk,Int.reduceBEq,aB,aC];obtain⟨es,rfl,h1⟩:=ha.k9 hk;obtain⟨fs,rfl,k1⟩:=hb.k9 hk;refine ae.bind (abV h1 k1 ba.entries bb.entries) (λr hr=>ae.ret ?_);exact afe hL hk ha hb hr.1 hr.2.1 hr.2.2
