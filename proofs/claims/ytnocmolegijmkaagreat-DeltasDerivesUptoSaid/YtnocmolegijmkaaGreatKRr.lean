/- A well-typed expression is what its trees are elaborated to: all but calls. -/
import Derived.Test.YtnocmolegijmkaaGreatKRk
set_option linter.all false
namespace Go.Proofs.YtnocmolegijmkaaGreat
open Go Go.Bw
def cQ:AV->Prop:=λ_=>False
def El (c:bJ) (n:af) (w:ay) (y:ab):Prop:=ae ((bR Pu) c n w) (·=y) cQ
def Ea (c:bJ) (n:af) (w:ay) (y:ab):Prop:=ae ((lH Pu) c n w) (·=⟨y.Op,y.aj,y.N,y.Text,0,y.Kids⟩) cQ
theorem dK {D:Type} {c:bJ} {n:af} {w:ay} {y:ab} {f:ab->Option (aR D)} {Q:D->Prop} (h:El c n w y) (g:ae (f y) Q cQ):ae (Bw.aA ((bR Pu) c n w) f) Q cQ:=ae.aA h λy' e=>by
 have e:y'=y:=e;rw[e];exact g
theorem El.eq {c : bJ} {n : af} {w : ay} {y : ab} (h : El c n w y) : (bR Pu) c n w = some (.ret y) := by
  obtain ⟨r, e, h⟩ := h
  cases r with
  | ret x => have h : x = y := h
             rw [e, h]
  | aM z => exact h.elim
section
variable {B:Nat} (hB:B<=1048576) {c:bJ}
include hB
theorem dS {n:af} {w:ay} {y:ab} (hw:bW B w) (hy:a7 B y.aj) (hat:n.At=y.At) (hf:Fit w y.aj) (h:Ea c n w y):El c n w y:=by
 unfold El;rw[JR,sv];refine ae.aA h (λy' e=>?_);subst e;refine ae.aC (tc hB _ hy.ok) (ae.aC (fK w) ?_);have fin:(⟨y.Op,y.aj,y.N,y.Text,n.At,y.Kids⟩:ab)=y:=by rw[hat];cases y;rfl
 refine ae.bif (λh=>?_) (λh=>?_)
 ·refine ae.bind (wE hB hw.ok) (λb hb=>?_);have hn:isNone w=false:=by simpa using h
  have:b=true:=hb.2 (hf hn);rw[this];exact ae.ret fin
 ·exact ae.ret fin
omit hB in
theorem NQ {n x z:af} {a b t:ay} {op:Int} {u v:ab} (hn:n.Kids=[x,z]) (hx:El c x a u) (hz:El c z b v):ae ((iJ Pu) c op n a b t) (·=⟨op,t,0,[],0,[u,v]⟩) cQ:=by
 rw[IE,rX,hn];refine ae.aC (v:=x) rfl (dK hx ?_);refine ae.aC (v:=z) rfl (dK hz ?_);exact ae.ret rfl
def TC (c:bJ) (x z:af) (u v:ab) (lt:Bool):Prop:=
 (¬fq u/\El c x (aL 0) u/\El c z u.aj v/\(lt=true->u.aj.aK=0))\/(fq u/\¬fq v/\El c z (aL 0) v/\El c x v.aj u/\(lt=true->v.aj.aK=0))
omit hB in
theorem sN {n x z:af} {lt:Bool} {u v:ab} (hx:Br c.params u x) (hz:Br c.params v z) (h:TC c x z u v lt):ae ((qa Pu) c n x z lt) (·=(u,v)) cQ:=by
 rw[IG,sj];have lts:∀{t:ay},(lt=true->t.aK=0)->lt=true->(t.aK !=0)=true->False:=λh e h2=>by simp[h e]at h2
 refine ae.bind (NR _ _ hx) (λo ho=>?_);refine ae.bif (λe=>?_) (λe=>?_)
 ·rcases h with⟨h1,_⟩|⟨h1,h2,h3,h4,h5⟩
  ·exact absurd (ho.1 e) h1
  refine ae.bind (NR _ _ hz) (λo2 ho2=>?_);refine ae.bif (λe2=>absurd (ho2.1 e2) h2) (λ_=>?_);refine dK h3 ?_;refine ae.bif (λhl=>?_) (λ_=>dK h4 (ae.ret rfl));exact ae.bif (λhs=>(lts h5 hl hs).elim) (λ_=>dK h4 (ae.ret rfl))
 ·rcases h with⟨h1,h3,h4,h5⟩|⟨h1,_⟩
  ·refine dK h3 ?_;refine ae.bif (λhl=>?_) (λ_=>dK h4 (ae.ret rfl));exact ae.bif (λhs=>(lts h5 hl hs).elim) (λ_=>dK h4 (ae.ret rfl))
  ·rw[ho.2 h1]at e;cases e
omit hB in
theorem Ei {n x:af} {ks:List Int} {u:ab} (hk:ks.length<9223372036854775807) (hx:El c x (aL 0) u) (hs:u.aj.aK=0) (hm:u.aj.ai.Kind∈ks):ae ((nO Pu) c n x ks) (·=u) cQ:=by
 rw[yD,oJ];refine dK hx ?_;refine ae.bif (λh=>by simp[hs]at h) (λ_=>?_);refine ae.aC (kJ ks _ hk) ?_;refine ae.bif (λh=>?_) (λ_=>ae.ret rfl);have:(ks.any λy=>u.aj.ai.Kind==y)=true:=ln.2 ⟨_,hm,by simp⟩;rw[this]at h;cases h
omit hB in
theorem Fj {D:Type} {n x:af} {ks:List Int} {u:ab} {f:ab->Option (aR D)} {Q:D->Prop} (h:ae ((nO Pu) c n x ks) (·=u) cQ) (g:ae (f u) Q cQ):ae (Bw.aA ((nO Pu) c n x ks) f) Q cQ:=ae.aA h λy' e=>by
 have e:y'=u:=e;rw[e];exact g
variable (hc:CE B c) (hd:∀(i j:Nat) p q,c.params[i]? =some p->c.params[j]? =some q->p.Name=q.Name->i=j)
def IH (B:Nat) (c:bJ) (k:ab):Prop:=∀w n,bW B w->W c.l c.params k w->Br c.params k n->El c n w k
omit hB in
include hc in
theorem uK {x z:af} {u v:ab} {lt:Bool} (iu:IH B c u) (iv:IH B c v) (hx:Br c.params u x) (hz:Br c.params v z)
  (h:(W c.l c.params u (aL 0)/\W c.l c.params v u.aj/\(lt=true->u.aj.aK=0))\/(W c.l c.params v (aL 0)/\W c.l c.params u v.aj/\(lt=true->v.aj.aK=0))):TC c x z u v lt:=by
 have z0:isNone (aL 0)=true:=rfl;rcases h with⟨h1,h2,h3⟩|⟨h1,h2,h3⟩
 ·exact .inl ⟨h1.closed z0,iu _ _ (.inl rfl) h1 hx,iv _ _ (.inr (W.tt hc h1 (.inl rfl)).ty) h2 hz,h3⟩
 ·have tv:=W.tt hc h1 (.inl rfl);have tu:=W.tt hc h2 (.inr tv.ty);by_cases ho:fq u
  ·exact .inr ⟨ho,h1.closed z0,iv _ _ (.inl rfl) h1 hz,iu _ _ (.inr tv.ty) h2 hx,h3⟩
  ·have e:=h2.qf tv.ty.eB;exact .inl ⟨ho,iu _ _ (.inl rfl) (h2.free ho) hx,iv _ _ (.inr tu.ty) (by rw[<-e];exact h1.own z0 tv) hz,by rw[<-e];exact h3⟩
omit hB in
theorem Yh {n x z:af} {w a b t:ay} {op:Int} {u v:ab} (hn:n.Kids=[x,z]) (hx:El c x a u) (hz:El c z b v) (h:(lH Pu) c n w=Bw.aA ((iJ Pu) c op n a b t) λy=>some (.ret y)) {a':Int}:Ea c n w ⟨op,t,0,[],a',[u,v]⟩:=by
 unfold Ea;rw[h];exact ae.aA (NQ hn hx hz) λy e=>ae.ret e
end
section
variable {B:Nat} (hB:B<=1048576) {c:bJ} (hc:CE B c) (hd:∀(i j:Nat) p q,c.params[i]? =some p->c.params[j]? =some q->p.Name=q.Name->i=j)
theorem ww (n:Int) (h:1<=n/\n<=4:=by decide):bW B (aL n):= .inr (a7.sort h)
theorem Yg {D:Type} {P:D->Prop} {x y:D} (h:∀k∈[x,y],P k):P x/\P y:=⟨h x (by simp),h y (by simp)⟩
include hB hc in
theorem mm {op kd a:Int} {t w:ay} {x y:ab} {x' y':af} (hw:bW B w) (hW:W c.l c.params ⟨op,t,0,[],a,[x,y]⟩ w) (hm:(op,kd)∈eF) (ih:∀k∈[x,y],IH B c k) (bx:Br c.params x x') (by':Br c.params y y'):El c ⟨kd,[],0,a,[x',y']⟩ w ⟨op,t,0,[],a,[x,y]⟩:=by
 obtain⟨ix,iy⟩:=Yg ih;have htt:=W.tt hc hW hw;have z0:isNone (aL 0)=true:=rfl;have el:Fit w t->Ea c ⟨kd,[],0,a,[x',y']⟩ w ⟨op,t,0,[],a,[x,y]⟩->El c ⟨kd,[],0,a,[x',y']⟩ w ⟨op,t,0,[],a,[x,y]⟩:=λhf h=>dS hB hw htt.ty rfl hf h;simp only[eF,cu,gx,or_false,ck]at hm;have two:∀{t:ay} {u v:ay} {op':Int},El c x' u x->El c y' v y->(lH Pu) c ⟨kd,[],0,a,[x',y']⟩ w=Bw.aA ((iJ Pu) c op' ⟨kd,[],0,a,[x',y']⟩ u v t) (λy=>some (.ret y))->Ea c ⟨kd,[],0,a,[x',y']⟩ w ⟨op',t,0,[],a,[x,y]⟩:=λh1 h2 h=>Yh rfl h1 h2 h;obtain⟨kids,hk⟩:∃kids,[x,y]=kids:=⟨_,rfl⟩;have hW:W c.l c.params ⟨op,t,0,[],a,kids⟩ w:=by rw[<-hk];exact hW
 cases hW with
 |conn ho h1 h2 hf=>
  cases hk;rcases hm with⟨rfl,rfl⟩|⟨rfl,rfl⟩|⟨rfl,rfl⟩|⟨rfl,rfl⟩|⟨rfl,rfl⟩|⟨rfl,rfl⟩|⟨rfl,rfl⟩|⟨rfl,rfl⟩|⟨rfl,rfl⟩|⟨rfl,rfl⟩|⟨rfl,rfl⟩
  all_goals first
   |(exfalso;revert ho;decide)
   |exact el hf (two (ix _ _ (ww 2) h1 bx) (iy _ _ (ww 2) h2 by') (by rw[eu,dO];simp only[bp,aq,Int.reduceBEq,aO,a6]))
 |less ho h1 h2 hf=>
  cases hk;rcases hm with⟨rfl,rfl⟩|⟨rfl,rfl⟩|⟨rfl,rfl⟩|⟨rfl,rfl⟩|⟨rfl,rfl⟩|⟨rfl,rfl⟩|⟨rfl,rfl⟩|⟨rfl,rfl⟩|⟨rfl,rfl⟩|⟨rfl,rfl⟩|⟨rfl,rfl⟩
  all_goals first
   |(exfalso;revert ho;decide)
   |exact el hf (two (ix _ _ (ww 1) h1 bx) (iy _ _ (ww 1) h2 by') (by rw[eu,dO];simp only[bp,aq,Int.reduceBEq,aO,a6]))
 |jA ho h1 h2 hf=>
  cases hk;rcases hm with⟨rfl,rfl⟩|⟨rfl,rfl⟩|⟨rfl,rfl⟩|⟨rfl,rfl⟩|⟨rfl,rfl⟩|⟨rfl,rfl⟩|⟨rfl,rfl⟩|⟨rfl,rfl⟩|⟨rfl,rfl⟩|⟨rfl,rfl⟩|⟨rfl,rfl⟩
  all_goals first
   |(exfalso;revert ho;decide)
   |exact el hf (two (ix _ _ (ww 1) h1 bx) (iy _ _ (ww 1) h2 by') (by rw[eu,dO];simp only[bp,aq,Int.reduceBEq,aO,a6]))
 |mC h1 h2 hf=>
  cases hk;have hk:kd=37:=by omega
  subst hk;exact el hf (two (ix _ _ (ww 3) h1 bx) (iy _ _ (ww 4) h2 by') (by rw[eu,dO];simp only[bp,aq,Int.reduceBEq,aO,a6]))
 |equal h1 hs h2 hf=>
  cases hk;have hk:kd=36:=by omega
  subst hk;refine el hf ?_;unfold Ea;rw[eu,dO,kV,iK];simp only[bp,aq,Int.reduceBEq,aO,a6];refine ae.aA (P:=(·=⟨13,aL 2,0,[],0,[x,y]⟩)) ?_ (λ_ e=>ae.ret e);refine ae.aC (v:=x') rfl (dK (ix _ _ (.inl rfl) h1 bx) ?_);refine ae.bif (λh=>absurd (by simpa using h) hs) (λ_=>?_);refine ae.aC (v:=y') rfl (dK (iy _ _ (.inr (htt.ez (k:=x) (by simp)).ty) h2 by') ?_);exact ae.ret rfl
 |mD h1 hs h2 hf=>
  cases hk;have hk:kd=38:=by omega
  subst hk;refine el hf ?_;unfold Ea;rw[eu,dO,kV,iK];simp only[bp,aq,Int.reduceBEq,aO,a6];refine ae.aA (P:=(·=⟨15,aL 2,0,[],0,[x,y]⟩)) ?_ (λ_ e=>ae.ret e);refine ae.aC (v:=x') rfl (ae.aC (v:=y') rfl ?_);refine ae.aA (sN bx by' (uK hc ix iy bx by' (.inl ⟨h1,h2,λ_=>hs⟩))) (λr e=>?_);have e:r=(x,y):=e;subst e;exact ae.ret rfl
 |mE h1 hs h2 hf=>
  cases hk;have hk:kd=38:=by omega
  subst hk;refine el hf ?_;unfold Ea;rw[eu,dO,kV,iK];simp only[bp,aq,Int.reduceBEq,aO,a6];refine ae.aA (P:=(·=⟨15,aL 2,0,[],0,[x,y]⟩)) ?_ (λ_ e=>ae.ret e);refine ae.aC (v:=x') rfl (ae.aC (v:=y') rfl ?_);refine ae.aA (sN bx by' (uK hc ix iy bx by' (.inr ⟨h1,h2,λ_=>hs⟩))) (λr e=>?_);have e:r=(x,y):=e;subst e;exact ae.ret rfl
 |jt hn hs h1 h2=>
  cases hk;have hk:kd=39:=by omega
  subst hk;refine el (λ_=>rfl) ?_;unfold Ea;rw[eu,dO,kV,iK];simp only[bp,fK,hn,aq,Int.reduceBEq,aO,a6,vJ];refine ae.aA (P:=(·=⟨16,t,0,[],0,[x,y]⟩)) ?_ (λ_ e=>ae.ret e);refine ae.bif (λh=>by simp[hs]at h) (λ_=>?_);exact ae.aA (NQ rfl (ix _ _ hw h1 bx) (iy _ _ hw h2 by')) (λ_ e=>ae.ret e)
 |kQ hn h1 hs h2=>
  cases hk;have hk:kd=39:=by omega
  subst hk;refine el (λh=>by rw[hn]at h;cases h) ?_;unfold Ea;rw[eu,dO,kV,iK];simp only[bp,fK,hn,aq,Int.reduceBEq,aO,a6,qx];refine ae.aA (P:=(·=⟨16,x.aj,0,[],0,[x,y]⟩)) ?_ (λ_ e=>ae.ret e);refine ae.aC (v:=x') rfl (ae.aC (v:=y') rfl ?_);refine ae.aA (sN bx by' (uK hc ix iy bx by' (.inl ⟨h1,h2,λ_=>hs⟩))) (λr e=>?_);have e:r=(x,y):=e;subst e;exact ae.ret rfl
 |kR hn h1 hs h2=>
  cases hk;have hk:kd=39:=by omega
  subst hk;refine el (λh=>by rw[hn]at h;cases h) ?_;unfold Ea;rw[eu,dO,kV,iK];simp only[bp,fK,hn,aq,Int.reduceBEq,aO,a6,qx];refine ae.aA (P:=(·=⟨16,x.aj,0,[],0,[x,y]⟩)) ?_ (λ_ e=>ae.ret e);refine ae.aC (v:=x') rfl (ae.aC (v:=y') rfl ?_);refine ae.aA (sN bx by' (uK hc ix iy bx by' (.inr ⟨h1,h2,λ_=>hs⟩))) (λr e=>?_);have e:r=(x,y):=e;subst e;exact ae.ret rfl
 |at_ h1 hs h5 hp h2 hf=>
  rename_i p;cases hk;have hk:kd=43:=by omega
  subst hk;refine el hf ?_;unfold Ea;rw[eu,dO,kV,iK];simp only[bp,aq,Int.reduceBEq,aO,a6];refine ae.aA (P:=(·=⟨20,bN p,0,[],0,[x,y]⟩)) ?_ (λ_ e=>ae.ret e);refine ae.aC (v:=x') rfl (Fj (Ei (by simp) (ix _ _ (.inl rfl) h1 bx) hs (by simp[h5])) ?_);refine ae.aC (v:=y') rfl (dK (iy _ _ (ww 3) h2 by') ?_);refine ae.aC hp (ae.aC (of_eq _) ?_);exact ae.ret rfl
 |map=>omega
 |iY=>omega
 |gT=>omega
 |pair=>omega
 |_=>cases hk
end
theorem LN {l:List (List UInt8)} {j:Nat} {t:List UInt8} (h:l[j]? =some t) (hd:∀(i j:Nat) t,l[i]? =some t->l[j]? =some t->i=j):idxOf (λy=>t==y) l 0=(j:Int):=by
 rcases qC (λy=>t==y) l 0 with⟨_,h2⟩|⟨i,x,h1,h2,h3,_⟩
 ·have:=h2 t (bh h);simp at this
 ·have e:t=x:=by simpa using h3
  subst e;have e2:=hd i j t h2 h;have h1:idxOf (λy=>t==y) l 0=((0+i:Nat):Int):=h1;rw[h1,e2];simp
section
variable {B:Nat} (hB:B<=1048576) {c:bJ}
theorem qN {ks:List Int} {w:ay} {n:af} (hk:ks.length<9223372036854775807) (hs:w.aK=0) (hm:w.ai.Kind∈ks):ae ((gL Pu) ks w n) (λ_=>True) cQ:=by
 rw[IC,rV];refine ae.bif (λh=>by simp[hs]at h) (λ_=>?_);refine ae.aC (kJ ks _ hk) ?_;refine ae.bif (λh=>?_) (λ_=>ae.ret trivial);have:(ks.any λy=>w.ai.Kind==y)=true:=ln.2 ⟨_,hm,by simp⟩;rw[this]at h;cases h
theorem Xm (hB:B<=1048576) {n:af} {l:ah} {kids:List ab} (hl:ef l) (ho:l.ok B) {s4:List Bool} {s3:List ab} (h3:s3.length=l.aw.length) (h4:s4.length=l.aw.length) (hk:kids.length=l.aw.length)
  (h5:∀j:Nat,s4[j]? =some true->s3[j]? =kids[j]?) (h6:∀(j:Nat) k p,s4[j]? =some false->kids[j]? =some k->l.aw[j]? =some p->k=⟨6,bN p,0,[],n.At,[]⟩):ae ((jP Pu) n l s4 s3 0) (·=kids) cQ:=by
 have hlen:l.aw.length<=B:=by rw[ah.cM]at ho;exact ho.2.2.2.2.1.1
 have h:=ph (L:=λi (b:List ab)=>(jP Pu) n l s4 b i) (P:=(·=kids)) (E:=cQ) (len:=l.aw.length) (λi b=>b.length=l.aw.length/\∀(j:Nat),(j<i\/s4[j]? =some true)->b[j]? =kids[j]?) (λi b hi hJ k=>by
   show ae ((jP Pu) n l s4 b i) _ _;rw[tB,nc,ah.aB,aU];have:decide (i<l.aw.length)=true:=by simpa using hi
   obtain⟨p,hp⟩:=bg hi;obtain⟨f,hf⟩:=bg (l:=s4) (i:=i) (by rw[h4];exact hi);obtain⟨x,hx⟩:=bg (l:=b) (i:=i) (by rw[hJ.1];exact hi);obtain⟨q,hq⟩:=bg (l:=kids) (i:=i) (by rw[hk];exact hi);have hm:=bh hp;rw[this,aO,bc hp,aq,bc hf,aq,bO i (by omega)];refine ae.bif (λh1=>?_) (λh1=>?_)
   ·refine ae.aC (tc hB p (q8 ho hm)) (ae.aC (of_eq p) (ae.aC (eo hx) ?_));rw[fv];refine k _ ⟨by simp[hJ.1],λj hj=>?_⟩;by_cases e:j=i
    ·subst e;rw[mQ (by rw[hJ.1];exact hi),hq];have h1:f=false:=by simpa using h1
     rw[h6 j q p (by rw[hf,h1]) hq hp]
    ·rw[ky (by omega)];exact hJ.2 j (by rcases hj with hj|hj;exact .inl (by omega);exact .inr hj)
   ·refine k _ ⟨hJ.1,λj hj=>?_⟩;by_cases e:j=i
    ·subst e;have:f=true:=by simpa using h1
     exact hJ.2 j (.inr (by rw[hf,this]))
    ·exact hJ.2 j (by rcases hj with hj|hj;exact .inl (by omega);exact .inr hj)) (λb hJ=>by
   show ae ((jP Pu) n l s4 b _) _ _;rw[tB,nc,ah.aB,aU];have:decide (l.aw.length<l.aw.length)=false:=by simp
   rw[this,a6];refine ae.ret (DN λj=>?_);by_cases hj:j<l.aw.length
   ·exact hJ.2 j (.inl hj)
   ·rw[pc (by rw[hJ.1];omega),pc (by rw[hk];omega)]) 0 s3 (by omega) ⟨h3,λj hj=>by
    rcases hj with hj|hj
    ·omega
    ·exact h5 j hj⟩
 exact h
theorem Vp (hB:B<=1048576) {l:ah} {kids:List ab} {es:List (Nat×Int×af)} {a:Int} {tx:List UInt8} (hl:ef l) (ho:l.ok B) (h6:l.Kind=6) (hk:kids.length=l.aw.length) (hes:es.length<=kids.length)
  (hdis:∀(i j:Nat) e e',es[i]? =some e->es[j]? =some e'->e.1=e'.1->i=j) (hlt:∀e∈es,e.1<kids.length)
  (hE:∀(e:Nat×Int×af) k p,e∈es->kids[e.1]? =some k->l.aw[e.1]? =some p->El c e.2.2 (bN p) k)
  (hR:∀(j:Nat) k p,kids[j]? =some k->l.aw[j]? =some p->(∃e∈es,e.1=j)\/k=⟨6,bN p,0,[],a,[]⟩):ae ((uX Pu) c ⟨51,tx,0,a,es.map (eZ l.Names)⟩ l) (·=kids) cQ:=by
 have hlen:l.aw.length<=B:=by rw[ah.cM]at ho;exact ho.2.2.2.2.1.1
 have hpn:=rq hl h6;rw[IF,si,ah.aB,EO (by omega),aq,aq];have h:=ph (L:=λi (b:List ab×List Bool)=>(mb Pu) c ⟨51,tx,0,a,es.map (eZ l.Names)⟩ l b.1 b.2 i) (P:=(·=kids)) (E:=cQ) (len:=es.length) (λi b=>b.1.length=l.aw.length/\b.2.length=l.aw.length/\(∀j:Nat,b.2[j]? =some true->b.1[j]? =kids[j]?)/\∀j:Nat,b.2[j]? =some true↔∃(q:Nat) (e:Nat×Int×af),q<i/\es[q]? =some e/\e.1=j) (λi b hi hI k=>by
   show ae ((mb Pu) c ⟨51,tx,0,a,es.map (eZ l.Names)⟩ l b.1 b.2 i) _ _;rw[tC,nf,af.aB];show ae (bif decide ((i:Int)<((es.map (eZ l.Names)).length:Int))then _ else _) _ _;rw[jI,aU];have:decide (i<es.length)=true:=by simpa using hi
   obtain⟨e,he⟩:=bg hi;have hem:=bh he;have hje:=hlt e hem;obtain⟨t,ht⟩:=bg (l:=l.Names) (i:=e.1) (by omega);obtain⟨p,hp⟩:=bg (l:=l.aw) (i:=e.1) (by omega);obtain⟨q,hq⟩:=bg hje;have hent:(es.map (eZ l.Names))[i]? =some ⟨52,t,0,e.2.1,[e.2.2]⟩:=by rw[qu,he];simp[eZ,ht]
   show ae (bif decide (i<es.length)then(ao (es.map (eZ l.Names)) (i:Int)).bind _ else _) _ _;rw[this,aO,bc hent,aq,qL _ _ (by omega),aq,bO i (by omega)];rw[LN ht (D4 hl h6)];refine ae.bif (λh=>by simp at h;omega) (λ_=>?_);obtain⟨f,hf⟩:=bg (l:=b.2) (i:=e.1) (by rw[hI.2.1];omega);obtain⟨x,hx⟩:=bg (l:=b.1) (i:=e.1) (by rw[hI.1];omega);refine ae.aC (eo hf) ?_;refine ae.bif (λh=>?_) (λ_=>?_)
   ·have h:f=true:=h;obtain⟨q',e',h1,h2,h3⟩:=(hI.2.2.2 e.1).1 (by rw[hf,h]);have:=hdis q' i e' e h2 he h3;omega
   refine ae.aC (v:=e.2.2) rfl (ae.aC (eo hp) (ae.aC (of_eq p) ?_));refine dK (hE e q p hem hq hp) ?_;refine ae.aC (eo hx) (ae.aC (eo hf) ?_);rw[fv];refine k (b.1.set e.1 q,b.2.set e.1 true) ⟨by simp[hI.1],by simp[hI.2.1],λj hj=>?_,λj=>?_⟩
   ·by_cases ej:j=e.1
    ·subst ej;simp only;rw[mQ (by rw[hI.1];omega),hq]
    ·simp only at hj⊢;rw[ky (by omega)]at hj⊢;exact hI.2.2.1 j hj
   ·by_cases ej:j=e.1
    ·subst ej;simp only;rw[mQ (by rw[hI.2.1];omega)];exact⟨λ_=>⟨i,e,by omega,he,rfl⟩,λ_=>rfl⟩
    ·simp only;rw[ky (by omega),hI.2.2.2 j];constructor
     ·rintro ⟨q',e',h1,h2,h3⟩;exact⟨q',e',by omega,h2,h3⟩
     ·rintro ⟨q',e',h1,h2,h3⟩;refine⟨q',e',?_,h2,h3⟩;rcases lW.1 h1 with h|h
      ·exact h
      ·subst h;rw[he]at h2;cases h2;exact absurd h3.symm ej) (λb hI=>by
   show ae ((mb Pu) c ⟨51,tx,0,a,es.map (eZ l.Names)⟩ l b.1 b.2 _) _ _;rw[tC,nf,af.aB];show ae (bif decide ((es.length:Int)<((es.map (eZ l.Names)).length:Int))then _ else _) _ _;rw[jI,aU];have:decide (es.length<es.length)=false:=by simp
   rw[this,a6];refine Xm hB hl ho hI.1 hI.2.1 hk hI.2.2.1 (λj k p hj hkj hp=>?_);rcases hR j k p hkj hp with⟨e,he,hej⟩|h
   ·obtain⟨q,hq⟩:=fR he;have:=(hI.2.2.2 j).2 ⟨q,e,(cy.1 hq).1,hq,hej⟩;rw[this]at hj;cases hj
   ·exact h) 0 (List.replicate l.aw.length ab.z,List.replicate l.aw.length false) (by omega) ⟨by simp,by simp,λj hj=>by
    simp[DT]at hj,λj=>by
    constructor
    ·intro hj;simp[DT]at hj
    ·rintro ⟨q,e,h1,_⟩;omega⟩
 exact h
theorem qH {D:Type} {l:List D} {i:Nat} {x:D} (h:l[i]? =some x):l.take i++[x]=l.take (i+1):=by
 rw[J7,h];rfl
theorem Ye (hB:B<=1048576) {w:ay} {kids:List ab} {ks:List af} {a:Int} {tx:List UInt8} (hn:kids.length<=1048576) (hl:kids.length=ks.length) (hE:∀(i:Nat) k k',kids[i]? =some k->ks[i]? =some k'->El c k' (aL 0) k) (hs:∀k∈kids,k.aj.aK=3\/k.aj.aK=4):ae ((gD Pu) c ⟨51,tx,0,a,ks⟩ w 0 []) (·=⟨23,w,0,[],0,kids⟩) cQ:=by
 have h:=ph (L:=λi (b:List ab)=>(gD Pu) c ⟨51,tx,0,a,ks⟩ w i b) (P:=(·=⟨23,w,0,[],0,kids⟩)) (E:=cQ) (len:=ks.length) (λi b=>b=kids.take i) (λi b hi hI k=>by
   show ae ((gD Pu) c ⟨51,tx,0,a,ks⟩ w i b) _ _;rw[pz,lu,af.aB];show ae (bif decide ((i:Int)<(ks.length:Int))then(ao ks (i:Int)).bind _ else _) _ _;rw[aU];have:decide (i<ks.length)=true:=by simpa using hi
   obtain⟨e,he⟩:=bg hi;obtain⟨y,hy⟩:=bg (l:=kids) (i:=i) (by omega);have hbl:b.length=i:=by rw[hI,gw];omega
   rw[this,aO,bc he,aq,bO i (by omega)];refine dK (hE i y e hy he) ?_;have hlen:decide ((b++[ab.z]).length<=274877906944)=true:=by simp;omega
   rw[hlen,aO,ab.aB,lY,fv,ly];have e1:(b++[ab.z])[b.length]? =some ab.z:=by simp
   have e2:IntKind.i64.wrap ((((ab.rows b++ab.rows [ab.z]).length:Nat):Int)-1)=(b.length:Int):=by
    rw[kA,ab.aB,ab.aB,wrap64 (by simp<;>omega) (by simp<;>omega)];simp
   have e3:(b++[y])[b.length]? =some y:=by simp
   rw[e1,aq,e2,lY,e3,aq];have go:ae ((gD Pu) c ⟨51,tx,0,a,ks⟩ w ((i+1:Nat):Int) (b++[y])) (·=⟨23,w,0,[],0,kids⟩) cQ:=k _ (by rw[hI,qH hy]);have hsy:=hs y (bh hy);refine ae.bif (λh3=>?_) (λ_=>go);refine ae.bif (λh4=>?_) (λ_=>go);simp at h3 h4;omega) (λb hI=>by
   show ae ((gD Pu) c ⟨51,tx,0,a,ks⟩ w _ b) _ _;rw[pz,lu,af.aB];show ae (bif decide ((ks.length:Int)<(ks.length:Int))then _ else _) _ _;rw[aU];have:decide (ks.length<ks.length)=false:=by simp
   rw[this,a6];have:b=kids:=by rw[hI,<-hl,jg]
   rw[this];exact ae.ret rfl) 0 [] (by omega) (by simp)
 exact h
theorem Yf (hB:B<=1048576) {w:ay} {p:ah} {qs:List (ab×ab)} {es:List (List UInt8×Int×af×af)} {a:Int} {tx:List UInt8} (hp:w.ai.aw[0]? =some p) (hn:qs.length<=1048576) (hl:qs.length=es.length)
  (h1:∀(i:Nat) q e,qs[i]? =some q->es[i]? =some e->El c e.2.2.1 (aL 3) q.1) (h2:∀(i:Nat) q e,qs[i]? =some q->es[i]? =some e->El c e.2.2.2 (bN p) q.2):ae ((jO Pu) c ⟨51,tx,0,a,es.map fm⟩ w 0 []) (·=⟨24,w,0,[],0,qs.flatMap λq=>[q.1,q.2]⟩) cQ:=by
 have h:=ph (L:=λi (b:List ab)=>(jO Pu) c ⟨51,tx,0,a,es.map fm⟩ w i b) (P:=(·=⟨24,w,0,[],0,qs.flatMap λq=>[q.1,q.2]⟩)) (E:=cQ) (len:=es.length) (λi b=>b=((qs.take i).flatMap λq=>[q.1,q.2])) (λi b hi hI k=>by
   show ae ((jO Pu) c ⟨51,tx,0,a,es.map fm⟩ w i b) _ _;rw[tA,nb,af.aB];show ae (bif decide ((i:Int)<((es.map fm).length:Int))then(ao (es.map fm) (i:Int)).bind _ else _) _ _;rw[jI,aU];have:decide (i<es.length)=true:=by simpa using hi
   obtain⟨e,he⟩:=bg hi;obtain⟨q,hq⟩:=bg (l:=qs) (i:=i) (by omega);have hent:(es.map fm)[i]? =some (fm e):=by rw[qu,he];rfl
   have hbl:b.length<=2*i:=by rw[hI,oc,gw];omega
   rw[this,aO,bc hent,aq,bO i (by omega)];refine ae.aC (v:=e.2.2.1) rfl (ae.aC (bp 3) ?_);refine dK (h1 i q e hq he) ?_;have hlen:decide ((b++[ab.z]).length<=274877906944)=true:=by simp;omega
   rw[hlen,aO,ab.aB,fv,ly];have e1:(b++[ab.z])[b.length]? =some ab.z:=by simp
   refine ae.aC (eo e1) (ae.aC (v:=e.2.2.2) rfl (ae.aC hp (ae.aC (of_eq p) ?_)));refine dK (h2 i q e hq he) ?_;have hlen2:decide (((b++[q.1])++[ab.z]).length<=274877906944)=true:=by simp;omega
   have e2:(((ab.rows b++ab.rows [ab.z]).length:Nat):Int)=(((b++[q.1]).length:Nat):Int):=by
    rw[kA,ab.aB,ab.aB];simp
   have e3:((b++[q.1])++[ab.z])[(b++[q.1]).length]? =some ab.z:=by simp
   rw[hlen2,aO,e2];refine ae.aC (eo e3) ?_;rw[fv,ly];refine k _ ?_;rw[hI,<-qH hq,acq];simp) (λb hI=>by
   show ae ((jO Pu) c ⟨51,tx,0,a,es.map fm⟩ w _ b) _ _;rw[tA,nb,af.aB];show ae (bif decide ((es.length:Int)<((es.map fm).length:Int))then _ else _) _ _;rw[jI,aU];have:decide (es.length<es.length)=false:=by simp
   rw[this,a6];have:b=(qs.flatMap λq=>[q.1,q.2]):=by rw[hI,<-hl,jg]
   rw[this];exact ae.ret rfl) 0 [] (by omega) (by simp)
 exact h
end
section
variable {B:Nat} (hB:B<=1048576) {c:bJ} (hc:CE B c) (hd:∀(i j:Nat) p q,c.params[i]? =some p->c.params[j]? =some q->p.Name=q.Name->i=j)
theorem Xj {w:ay} {x:ab} {x':af} {a:Int} (hs:w.aK=0) (hk:w.ai.Kind=1) (hx:El c x' (aL 2) x):ae ((cV Pu) c ⟨51,[102,108,97,103],0,a,[x']⟩ w) (·=⟨21,w,0,[],0,[x]⟩) cQ:=by
 have ha:(dT Pu) [102,108,97,103]=some 1:=by rw[er,dN];rfl
 rw[ew,dP];refine ae.aC ha ?_;refine ae.bif (λ_=>?_) (λh=>absurd h (by decide));refine ae.bif (λh=>absurd h (by simp[af.aB])) (λ_=>?_);refine ae.bif (λ_=>?_) (λh=>absurd (show(([102,108,97,103]:List UInt8)==[102,108,97,103])=false from h) (by decide));refine ae.cr (λ_ h=>h.elim) (qN (by simp) hs (by simp;exact hk)) (λ_ _=>?_);refine ae.aC (v:=x') rfl (ae.aC (bp 2) (dK hx ?_));exact ae.ret rfl
theorem Yb {w:ay} {x:ab} {x':af} {a:Int} (hs:w.aK=0) (hk:w.ai.Kind=2\/w.ai.Kind=3) (hx:El c x' (aL 1) x):ae ((cV Pu) c ⟨51,[110,117,109],0,a,[x']⟩ w) (·=⟨22,w,0,[],0,[x]⟩) cQ:=by
 have ha:(dT Pu) [110,117,109]=some 1:=by rw[er,dN];rfl
 rw[ew,dP];refine ae.aC ha ?_;refine ae.bif (λ_=>?_) (λh=>absurd h (by decide));refine ae.bif (λh=>absurd h (by simp[af.aB])) (λ_=>?_);refine ae.bif (λh=>absurd (show(([110,117,109]:List UInt8)==[102,108,97,103])=true from h) (by decide)) (λ_=>?_);refine ae.bif (λ_=>?_) (λh=>absurd (show(([110,117,109]:List UInt8)==[110,117,109])=false from h) (by decide));refine ae.cr (λ_ h=>h.elim) (qN (by simp) hs (by simp;exact hk)) (λ_ _=>?_);refine ae.aC (v:=x') rfl (ae.aC (bp 1) (dK hx ?_));exact ae.ret rfl
theorem Yc {w:ay} {x:ab} {x':af} {a:Int} (hs:w.aK=0) (hk:w.ai.Kind=8) (hx:El c x' (aL 3) x):ae ((cV Pu) c ⟨51,[111,110,101],0,a,[x']⟩ w) (·=⟨27,w,0,[],0,[x]⟩) cQ:=by
 have ha:(dT Pu) [111,110,101]=some 1:=by rw[er,dN];rfl
 rw[ew,dP];refine ae.aC ha ?_;refine ae.bif (λ_=>?_) (λh=>absurd h (by decide));refine ae.bif (λh=>absurd h (by simp[af.aB])) (λ_=>?_);refine ae.bif (λh=>absurd (show(([111,110,101]:List UInt8)==[102,108,97,103])=true from h) (by decide)) (λ_=>?_);refine ae.bif (λh=>absurd (show(([111,110,101]:List UInt8)==[110,117,109])=true from h) (by decide)) (λ_=>?_);refine ae.bif (λh=>absurd (show(([111,110,101]:List UInt8)==[115,101,116])=true from h) (by decide)) (λ_=>?_);refine ae.bif (λh=>absurd (show(([111,110,101]:List UInt8)==[109,97,112])=true from h) (by decide)) (λ_=>?_);refine ae.bif (λh=>absurd (show(([111,110,101]:List UInt8)==[114,101,99])=true from h) (by decide)) (λ_=>?_);refine ae.bif (λh=>absurd (show(([111,110,101]:List UInt8)==[112,97,105,114])=true from h) (by decide)) (λ_=>?_);refine ae.bif (λ_=>?_) (λh=>absurd (show(([111,110,101]:List UInt8)==[111,110,101])=false from h) (by decide));refine ae.cr (λ_ h=>h.elim) (qN (by simp) hs (by simp;exact hk)) (λ_ _=>?_);refine ae.aC (v:=x') rfl (ae.aC (bp 3) (dK hx ?_));exact ae.ret rfl
theorem TB {w:ay} {x y:ab} {x' y':af} {p q:ah} {a:Int} (hs:w.aK=0) (hk:w.ai.Kind=7) (hp:w.ai.aw[0]? =some p) (hq:w.ai.aw[1]? =some q) (hx:El c x' (bN p) x) (hy:El c y' (bN q) y):ae ((cV Pu) c ⟨51,Co,0,a,[x',y']⟩ w) (·=⟨26,w,0,[],0,[x,y]⟩) cQ:=by
 show ae ((cV Pu) c ⟨51,[112,97,105,114],0,a,[x',y']⟩ w) _ _;have ha:(dT Pu) [112,97,105,114]=some 2:=by rw[er,dN];rfl
 rw[ew,dP];refine ae.aC ha ?_;refine ae.bif (λ_=>?_) (λh=>absurd h (by decide));refine ae.bif (λh=>absurd h (by simp[af.aB])) (λ_=>?_);refine ae.bif (λh=>absurd (show(([112,97,105,114]:List UInt8)==[102,108,97,103])=true from h) (by decide)) (λ_=>?_);refine ae.bif (λh=>absurd (show(([112,97,105,114]:List UInt8)==[110,117,109])=true from h) (by decide)) (λ_=>?_);refine ae.bif (λh=>absurd (show(([112,97,105,114]:List UInt8)==[115,101,116])=true from h) (by decide)) (λ_=>?_);refine ae.bif (λh=>absurd (show(([112,97,105,114]:List UInt8)==[109,97,112])=true from h) (by decide)) (λ_=>?_);refine ae.bif (λh=>absurd (show(([112,97,105,114]:List UInt8)==[114,101,99])=true from h) (by decide)) (λ_=>?_);refine ae.bif (λ_=>?_) (λh=>absurd (show(([112,97,105,114]:List UInt8)==[112,97,105,114])=false from h) (by decide));refine ae.cr (λ_ h=>h.elim) (qN (by simp) hs (by simp;exact hk)) (λ_ _=>?_);refine ae.aC (v:=x') rfl (ae.aC hp (ae.aC (of_eq p) (dK hx ?_)));refine ae.bif (λ_=>?_) (λe=>absurd e (by simp));refine ae.aC (v:=ab.z) rfl (ae.aC (v:=y') rfl (ae.aC hq (ae.aC (of_eq q) (dK hy ?_))));refine ae.bif (λ_=>?_) (λe=>absurd e (by simp));refine ae.aC (v:=ab.z) rfl ?_;exact ae.ret rfl
theorem Tq {w:ay} {x y z:ab} {x' y' z':af} {a:Int} (hx:El c x' (bN eE) x) (hy:El c y' (aL 1) y) (hz:El c z' (aL 3) z):ae ((cV Pu) c ⟨51,Cc,0,a,[x',y',z']⟩ w) (·=⟨28,bN eE,0,[],0,[x,y,z]⟩) cQ:=by
 show ae ((cV Pu) c ⟨51,[119,114,105,116,101],0,a,[x',y',z']⟩ w) _ _;have ha:(dT Pu) [119,114,105,116,101]=some 3:=by rw[er,dN];rfl
 rw[ew,dP];refine ae.aC ha ?_;refine ae.bif (λ_=>?_) (λh=>absurd h (by decide));refine ae.bif (λh=>absurd h (by simp[af.aB])) (λ_=>?_);refine ae.bif (λh=>absurd (show(([119,114,105,116,101]:List UInt8)==[102,108,97,103])=true from h) (by decide)) (λ_=>?_);refine ae.bif (λh=>absurd (show(([119,114,105,116,101]:List UInt8)==[110,117,109])=true from h) (by decide)) (λ_=>?_);refine ae.bif (λh=>absurd (show(([119,114,105,116,101]:List UInt8)==[115,101,116])=true from h) (by decide)) (λ_=>?_);refine ae.bif (λh=>absurd (show(([119,114,105,116,101]:List UInt8)==[109,97,112])=true from h) (by decide)) (λ_=>?_);refine ae.bif (λh=>absurd (show(([119,114,105,116,101]:List UInt8)==[114,101,99])=true from h) (by decide)) (λ_=>?_);refine ae.bif (λh=>absurd (show(([119,114,105,116,101]:List UInt8)==[112,97,105,114])=true from h) (by decide)) (λ_=>?_);refine ae.bif (λh=>absurd (show(([119,114,105,116,101]:List UInt8)==[111,110,101])=true from h) (by decide)) (λ_=>?_);refine ae.bif (λ_=>?_) (λh=>absurd (show(([119,114,105,116,101]:List UInt8)==[119,114,105,116,101])=false from h) (by decide));refine ae.aC (of_eq eE) (ae.aC (v:=x') rfl (dK hx ?_));refine ae.bif (λ_=>?_) (λe=>absurd e (by simp));refine ae.aC (v:=ab.z) rfl (ae.aC (v:=y') rfl (ae.aC (bp 1) (dK hy ?_)));refine ae.bif (λ_=>?_) (λe=>absurd e (by simp));refine ae.aC (v:=ab.z) rfl (ae.aC (v:=z') rfl (ae.aC (bp 3) (dK hz ?_)));refine ae.bif (λ_=>?_) (λe=>absurd e (by simp));refine ae.aC (v:=ab.z) rfl ?_;exact ae.ret rfl
include hB in
theorem T0 {w:ay} {kids:List ab} {ks:List af} {a:Int} (h0:w.aK=0) (hk:w.ai.Kind=4\/w.ai.Kind=10) (hn:kids.length<=1048576) (hl:kids.length=ks.length) (hE:∀(i:Nat) k k',kids[i]? =some k->ks[i]? =some k'->El c k' (aL 0) k) (hs:∀k∈kids,k.aj.aK=3\/k.aj.aK=4):ae ((cV Pu) c ⟨51,yW,0,a,ks⟩ w) (·=⟨23,w,0,[],0,kids⟩) cQ:=by
 show ae ((cV Pu) c ⟨51,[115,101,116],0,a,ks⟩ w) _ _;have ha:(dT Pu) [115,101,116]=some (-1):=by rw[er,dN];rfl
 rw[ew,dP];refine ae.aC ha ?_;refine ae.bif (λh=>absurd h (by decide)) (λ_=>?_);refine ae.bif (λh=>absurd (show(([115,101,116]:List UInt8)==[102,108,97,103])=true from h) (by decide)) (λ_=>?_);refine ae.bif (λh=>absurd (show(([115,101,116]:List UInt8)==[110,117,109])=true from h) (by decide)) (λ_=>?_);refine ae.bif (λ_=>?_) (λh=>absurd (show(([115,101,116]:List UInt8)==[115,101,116])=false from h) (by decide));refine ae.cr (λ_ h=>h.elim) (qN (by simp) h0 (by simp;exact hk)) (λ_ _=>?_);exact Ye hB hn hl hE hs
include hB in
theorem T1 {w:ay} {p:ah} {qs:List (ab×ab)} {es:List (List UInt8×Int×af×af)} {a:Int} (h0:w.aK=0) (hk:w.ai.Kind=5) (hp:w.ai.aw[0]? =some p) (hn:qs.length<=1048576) (hl:qs.length=es.length) (h1:∀(i:Nat) q e,qs[i]? =some q->es[i]? =some e->El c e.2.2.1 (aL 3) q.1) (h2:∀(i:Nat) q e,qs[i]? =some q->es[i]? =some e->El c e.2.2.2 (bN p) q.2):ae ((cV Pu) c ⟨51,dD,0,a,es.map fm⟩ w) (·=⟨24,w,0,[],0,qs.flatMap λq=>[q.1,q.2]⟩) cQ:=by
 show ae ((cV Pu) c ⟨51,[109,97,112],0,a,es.map fm⟩ w) _ _;have ha:(dT Pu) [109,97,112]=some (-1):=by rw[er,dN];rfl
 rw[ew,dP];refine ae.aC ha ?_;refine ae.bif (λh=>absurd h (by decide)) (λ_=>?_);refine ae.bif (λh=>absurd (show(([109,97,112]:List UInt8)==[102,108,97,103])=true from h) (by decide)) (λ_=>?_);refine ae.bif (λh=>absurd (show(([109,97,112]:List UInt8)==[110,117,109])=true from h) (by decide)) (λ_=>?_);refine ae.bif (λh=>absurd (show(([109,97,112]:List UInt8)==[115,101,116])=true from h) (by decide)) (λ_=>?_);refine ae.bif (λ_=>?_) (λh=>absurd (show(([109,97,112]:List UInt8)==[109,97,112])=false from h) (by decide));refine ae.cr (λ_ h=>h.elim) (qN (by simp) h0 (by simp;exact hk)) (λ_ _=>?_);exact Yf hB hp hn hl h1 h2
include hB in
theorem T2 {w:ay} {kids:List ab} {es:List (Nat×Int×af)} {a:Int} (hw:a7 B w) (h0:w.aK=0) (h6:w.ai.Kind=6) (hk:kids.length=w.ai.aw.length) (hes:es.length<=kids.length) (hdis:∀(i j:Nat) e e',es[i]? =some e->es[j]? =some e'->e.1=e'.1->i=j) (hlt:∀e∈es,e.1<kids.length) (hE:∀(e:Nat×Int×af) k p,e∈es->kids[e.1]? =some k->w.ai.aw[e.1]? =some p->El c e.2.2 (bN p) k) (hR:∀(j:Nat) k p,kids[j]? =some k->w.ai.aw[j]? =some p->(∃e∈es,e.1=j)\/k=⟨6,bN p,0,[],a,[]⟩):ae ((cV Pu) c ⟨51,dc,0,a,es.map (eZ w.ai.Names)⟩ w) (·=⟨25,w,0,[],0,kids⟩) cQ:=by
 show ae ((cV Pu) c ⟨51,[114,101,99],0,a,es.map (eZ w.ai.Names)⟩ w) _ _;have ha:(dT Pu) [114,101,99]=some (-1):=by rw[er,dN];rfl
 rw[ew,dP];refine ae.aC ha ?_;refine ae.bif (λh=>absurd h (by decide)) (λ_=>?_);refine ae.bif (λh=>absurd (show(([114,101,99]:List UInt8)==[102,108,97,103])=true from h) (by decide)) (λ_=>?_);refine ae.bif (λh=>absurd (show(([114,101,99]:List UInt8)==[110,117,109])=true from h) (by decide)) (λ_=>?_);refine ae.bif (λh=>absurd (show(([114,101,99]:List UInt8)==[115,101,116])=true from h) (by decide)) (λ_=>?_);refine ae.bif (λh=>absurd (show(([114,101,99]:List UInt8)==[109,97,112])=true from h) (by decide)) (λ_=>?_);refine ae.bif (λ_=>?_) (λh=>absurd (show(([114,101,99]:List UInt8)==[114,101,99])=false from h) (by decide));refine ae.cr (λ_ h=>h.elim) (qN (by simp) h0 (by simp;exact h6)) (λ_ _=>?_);refine ae.aA (Vp hB (hw.du h0).1 (hw.du h0).2 h6 hk hes hdis hlt hE hR) (λy e=>?_);have e:y=kids:=e;subst e;exact ae.ret rfl
theorem pG {op:Int} {t:ay} {n x':af} {ks:List Int} {x:ab} (hk:ks.length<9223372036854775807) (hx:El c x' (aL 0) x) (hs:x.aj.aK=0) (hm:x.aj.ai.Kind∈ks):ae ((jZ Pu) op t ks c n x') (·=⟨op,t,0,[],0,[x]⟩) cQ:=by
 rw[u5,nQ];exact Fj (Ei hk hx hs hm) (ae.ret rfl)
theorem Vm {w:ay} {x:ab} {x':af} {a:Int} (hx:El c x' (aL 0) x) (hs:x.aj.aK=0) (hm:x.aj.ai.Kind∈[(2:Int),3]):ae ((cV Pu) c ⟨51,[110,117,109,98,101,114],0,a,[x']⟩ w) (·=⟨31,aL 1,0,[],0,[x]⟩) cQ:=by
 have ha:(dT Pu) [110,117,109,98,101,114]=some 1:=by rw[er,dN];rfl
 rw[ew,dP];refine ae.aC ha ?_;refine ae.bif (λ_=>?_) (λh=>absurd h (by decide));refine ae.bif (λh=>absurd h (by simp[af.aB])) (λ_=>?_);refine ae.bif (λh=>absurd (show(([110,117,109,98,101,114]:List UInt8)==[102,108,97,103])=true from h) (by decide)) (λ_=>?_);refine ae.bif (λh=>absurd (show(([110,117,109,98,101,114]:List UInt8)==[110,117,109])=true from h) (by decide)) (λ_=>?_);refine ae.bif (λh=>absurd (show(([110,117,109,98,101,114]:List UInt8)==[115,101,116])=true from h) (by decide)) (λ_=>?_);refine ae.bif (λh=>absurd (show(([110,117,109,98,101,114]:List UInt8)==[109,97,112])=true from h) (by decide)) (λ_=>?_);refine ae.bif (λh=>absurd (show(([110,117,109,98,101,114]:List UInt8)==[114,101,99])=true from h) (by decide)) (λ_=>?_);refine ae.bif (λh=>absurd (show(([110,117,109,98,101,114]:List UInt8)==[112,97,105,114])=true from h) (by decide)) (λ_=>?_);refine ae.bif (λh=>absurd (show(([110,117,109,98,101,114]:List UInt8)==[111,110,101])=true from h) (by decide)) (λ_=>?_);refine ae.bif (λh=>absurd (show(([110,117,109,98,101,114]:List UInt8)==[119,114,105,116,101])=true from h) (by decide)) (λ_=>?_);refine ae.aA (P:=(·=⟨31,aL 1,0,[],0,[x]⟩)) ?_ (λ_ e=>ae.ret e);rw[mA,jy];refine ae.aC (v:=x') rfl (ae.aC (bp 2) (ae.aC (bp 1) (ae.aC (bp 4) ?_)));refine ae.bif (λh=>absurd (show(([110,117,109,98,101,114]:List UInt8)==[115,105,122,101])=true from h) (by decide)) (λ_=>?_);refine ae.bif (λh=>absurd (show(([110,117,109,98,101,114]:List UInt8)==[115,117,109])=true from h) (by decide)) (λ_=>?_);refine ae.bif (λ_=>?_) (λh=>absurd (show(([110,117,109,98,101,114]:List UInt8)==[110,117,109,98,101,114])=false from h) (by decide));exact ae.aA (pG (by simp) hx hs hm) (λ_ e=>ae.ret e)
theorem ZT {w:ay} {x:ab} {x':af} {a:Int} (hx:El c x' (aL 0) x) (hs:x.aj.aK=0) (hm:x.aj.ai.Kind∈[(1:Int)]):ae ((cV Pu) c ⟨51,[111,110],0,a,[x']⟩ w) (·=⟨32,aL 2,0,[],0,[x]⟩) cQ:=by
 have ha:(dT Pu) [111,110]=some 1:=by rw[er,dN];rfl
 rw[ew,dP];refine ae.aC ha ?_;refine ae.bif (λ_=>?_) (λh=>absurd h (by decide));refine ae.bif (λh=>absurd h (by simp[af.aB])) (λ_=>?_);refine ae.bif (λh=>absurd (show(([111,110]:List UInt8)==[102,108,97,103])=true from h) (by decide)) (λ_=>?_);refine ae.bif (λh=>absurd (show(([111,110]:List UInt8)==[110,117,109])=true from h) (by decide)) (λ_=>?_);refine ae.bif (λh=>absurd (show(([111,110]:List UInt8)==[115,101,116])=true from h) (by decide)) (λ_=>?_);refine ae.bif (λh=>absurd (show(([111,110]:List UInt8)==[109,97,112])=true from h) (by decide)) (λ_=>?_);refine ae.bif (λh=>absurd (show(([111,110]:List UInt8)==[114,101,99])=true from h) (by decide)) (λ_=>?_);refine ae.bif (λh=>absurd (show(([111,110]:List UInt8)==[112,97,105,114])=true from h) (by decide)) (λ_=>?_);refine ae.bif (λh=>absurd (show(([111,110]:List UInt8)==[111,110,101])=true from h) (by decide)) (λ_=>?_);refine ae.bif (λh=>absurd (show(([111,110]:List UInt8)==[119,114,105,116,101])=true from h) (by decide)) (λ_=>?_);refine ae.aA (P:=(·=⟨32,aL 2,0,[],0,[x]⟩)) ?_ (λ_ e=>ae.ret e);rw[mA,jy];refine ae.aC (v:=x') rfl (ae.aC (bp 2) (ae.aC (bp 1) (ae.aC (bp 4) ?_)));refine ae.bif (λh=>absurd (show(([111,110]:List UInt8)==[115,105,122,101])=true from h) (by decide)) (λ_=>?_);refine ae.bif (λh=>absurd (show(([111,110]:List UInt8)==[115,117,109])=true from h) (by decide)) (λ_=>?_);refine ae.bif (λh=>absurd (show(([111,110]:List UInt8)==[110,117,109,98,101,114])=true from h) (by decide)) (λ_=>?_);refine ae.bif (λ_=>?_) (λh=>absurd (show(([111,110]:List UInt8)==[111,110])=false from h) (by decide));exact ae.aA (pG (by simp) hx hs hm) (λ_ e=>ae.ret e)
theorem Xl {w:ay} {x:ab} {x':af} {a:Int} (hx:El c x' (aL 0) x) (hs:x.aj.aK=0) (hm:x.aj.ai.Kind∈[(5:Int),4,10]):ae ((cV Pu) c ⟨51,[107,101,121,115],0,a,[x']⟩ w) (·=⟨33,aL 4,0,[],0,[x]⟩) cQ:=by
 have ha:(dT Pu) [107,101,121,115]=some 1:=by rw[er,dN];rfl
 rw[ew,dP];refine ae.aC ha ?_;refine ae.bif (λ_=>?_) (λh=>absurd h (by decide));refine ae.bif (λh=>absurd h (by simp[af.aB])) (λ_=>?_);refine ae.bif (λh=>absurd (show(([107,101,121,115]:List UInt8)==[102,108,97,103])=true from h) (by decide)) (λ_=>?_);refine ae.bif (λh=>absurd (show(([107,101,121,115]:List UInt8)==[110,117,109])=true from h) (by decide)) (λ_=>?_);refine ae.bif (λh=>absurd (show(([107,101,121,115]:List UInt8)==[115,101,116])=true from h) (by decide)) (λ_=>?_);refine ae.bif (λh=>absurd (show(([107,101,121,115]:List UInt8)==[109,97,112])=true from h) (by decide)) (λ_=>?_);refine ae.bif (λh=>absurd (show(([107,101,121,115]:List UInt8)==[114,101,99])=true from h) (by decide)) (λ_=>?_);refine ae.bif (λh=>absurd (show(([107,101,121,115]:List UInt8)==[112,97,105,114])=true from h) (by decide)) (λ_=>?_);refine ae.bif (λh=>absurd (show(([107,101,121,115]:List UInt8)==[111,110,101])=true from h) (by decide)) (λ_=>?_);refine ae.bif (λh=>absurd (show(([107,101,121,115]:List UInt8)==[119,114,105,116,101])=true from h) (by decide)) (λ_=>?_);refine ae.aA (P:=(·=⟨33,aL 4,0,[],0,[x]⟩)) ?_ (λ_ e=>ae.ret e);rw[mA,jy];refine ae.aC (v:=x') rfl (ae.aC (bp 2) (ae.aC (bp 1) (ae.aC (bp 4) ?_)));refine ae.bif (λh=>absurd (show(([107,101,121,115]:List UInt8)==[115,105,122,101])=true from h) (by decide)) (λ_=>?_);refine ae.bif (λh=>absurd (show(([107,101,121,115]:List UInt8)==[115,117,109])=true from h) (by decide)) (λ_=>?_);refine ae.bif (λh=>absurd (show(([107,101,121,115]:List UInt8)==[110,117,109,98,101,114])=true from h) (by decide)) (λ_=>?_);refine ae.bif (λh=>absurd (show(([107,101,121,115]:List UInt8)==[111,110])=true from h) (by decide)) (λ_=>?_);refine ae.bif (λ_=>?_) (λh=>absurd (show(([107,101,121,115]:List UInt8)==[107,101,121,115])=false from h) (by decide));exact ae.aA (pG (by simp) hx hs hm) (λ_ e=>ae.ret e)
theorem Vn {w:ay} {x:ab} {x':af} {a:Int} (hx:El c x' (aL 0) x) (hs:x.aj.aK=0) (hm:x.aj.ai.Kind∈[(8:Int),9]):ae ((cV Pu) c ⟨51,[118,97,108,117,101,115],0,a,[x']⟩ w) (·=⟨34,aL 4,0,[],0,[x]⟩) cQ:=by
 have ha:(dT Pu) [118,97,108,117,101,115]=some 1:=by rw[er,dN];rfl
 rw[ew,dP];refine ae.aC ha ?_;refine ae.bif (λ_=>?_) (λh=>absurd h (by decide));refine ae.bif (λh=>absurd h (by simp[af.aB])) (λ_=>?_);refine ae.bif (λh=>absurd (show(([118,97,108,117,101,115]:List UInt8)==[102,108,97,103])=true from h) (by decide)) (λ_=>?_);refine ae.bif (λh=>absurd (show(([118,97,108,117,101,115]:List UInt8)==[110,117,109])=true from h) (by decide)) (λ_=>?_);refine ae.bif (λh=>absurd (show(([118,97,108,117,101,115]:List UInt8)==[115,101,116])=true from h) (by decide)) (λ_=>?_);refine ae.bif (λh=>absurd (show(([118,97,108,117,101,115]:List UInt8)==[109,97,112])=true from h) (by decide)) (λ_=>?_);refine ae.bif (λh=>absurd (show(([118,97,108,117,101,115]:List UInt8)==[114,101,99])=true from h) (by decide)) (λ_=>?_);refine ae.bif (λh=>absurd (show(([118,97,108,117,101,115]:List UInt8)==[112,97,105,114])=true from h) (by decide)) (λ_=>?_);refine ae.bif (λh=>absurd (show(([118,97,108,117,101,115]:List UInt8)==[111,110,101])=true from h) (by decide)) (λ_=>?_);refine ae.bif (λh=>absurd (show(([118,97,108,117,101,115]:List UInt8)==[119,114,105,116,101])=true from h) (by decide)) (λ_=>?_);refine ae.aA (P:=(·=⟨34,aL 4,0,[],0,[x]⟩)) ?_ (λ_ e=>ae.ret e);rw[mA,jy];refine ae.aC (v:=x') rfl (ae.aC (bp 2) (ae.aC (bp 1) (ae.aC (bp 4) ?_)));refine ae.bif (λh=>absurd (show(([118,97,108,117,101,115]:List UInt8)==[115,105,122,101])=true from h) (by decide)) (λ_=>?_);refine ae.bif (λh=>absurd (show(([118,97,108,117,101,115]:List UInt8)==[115,117,109])=true from h) (by decide)) (λ_=>?_);refine ae.bif (λh=>absurd (show(([118,97,108,117,101,115]:List UInt8)==[110,117,109,98,101,114])=true from h) (by decide)) (λ_=>?_);refine ae.bif (λh=>absurd (show(([118,97,108,117,101,115]:List UInt8)==[111,110])=true from h) (by decide)) (λ_=>?_);refine ae.bif (λh=>absurd (show(([118,97,108,117,101,115]:List UInt8)==[107,101,121,115])=true from h) (by decide)) (λ_=>?_);refine ae.bif (λ_=>?_) (λh=>absurd (show(([118,97,108,117,101,115]:List UInt8)==[118,97,108,117,101,115])=false from h) (by decide));exact ae.aA (pG (by simp) hx hs hm) (λ_ e=>ae.ret e)
theorem TZ {w:ay} {x:ab} {x':af} {a:Int} (hx:El c x' (aL 0) x) (hs:x.aj.aK=0) (hm:x.aj.ai.Kind∈[(8:Int),9]):ae ((cV Pu) c ⟨51,[99,111,110,102,108,105,99,116],0,a,[x']⟩ w) (·=⟨37,aL 2,0,[],0,[x]⟩) cQ:=by
 have ha:(dT Pu) [99,111,110,102,108,105,99,116]=some 1:=by rw[er,dN];rfl
 rw[ew,dP];refine ae.aC ha ?_;refine ae.bif (λ_=>?_) (λh=>absurd h (by decide));refine ae.bif (λh=>absurd h (by simp[af.aB])) (λ_=>?_);refine ae.bif (λh=>absurd (show(([99,111,110,102,108,105,99,116]:List UInt8)==[102,108,97,103])=true from h) (by decide)) (λ_=>?_);refine ae.bif (λh=>absurd (show(([99,111,110,102,108,105,99,116]:List UInt8)==[110,117,109])=true from h) (by decide)) (λ_=>?_);refine ae.bif (λh=>absurd (show(([99,111,110,102,108,105,99,116]:List UInt8)==[115,101,116])=true from h) (by decide)) (λ_=>?_);refine ae.bif (λh=>absurd (show(([99,111,110,102,108,105,99,116]:List UInt8)==[109,97,112])=true from h) (by decide)) (λ_=>?_);refine ae.bif (λh=>absurd (show(([99,111,110,102,108,105,99,116]:List UInt8)==[114,101,99])=true from h) (by decide)) (λ_=>?_);refine ae.bif (λh=>absurd (show(([99,111,110,102,108,105,99,116]:List UInt8)==[112,97,105,114])=true from h) (by decide)) (λ_=>?_);refine ae.bif (λh=>absurd (show(([99,111,110,102,108,105,99,116]:List UInt8)==[111,110,101])=true from h) (by decide)) (λ_=>?_);refine ae.bif (λh=>absurd (show(([99,111,110,102,108,105,99,116]:List UInt8)==[119,114,105,116,101])=true from h) (by decide)) (λ_=>?_);refine ae.aA (P:=(·=⟨37,aL 2,0,[],0,[x]⟩)) ?_ (λ_ e=>ae.ret e);rw[mA,jy];refine ae.aC (v:=x') rfl (ae.aC (bp 2) (ae.aC (bp 1) (ae.aC (bp 4) ?_)));refine ae.bif (λh=>absurd (show(([99,111,110,102,108,105,99,116]:List UInt8)==[115,105,122,101])=true from h) (by decide)) (λ_=>?_);refine ae.bif (λh=>absurd (show(([99,111,110,102,108,105,99,116]:List UInt8)==[115,117,109])=true from h) (by decide)) (λ_=>?_);refine ae.bif (λh=>absurd (show(([99,111,110,102,108,105,99,116]:List UInt8)==[110,117,109,98,101,114])=true from h) (by decide)) (λ_=>?_);refine ae.bif (λh=>absurd (show(([99,111,110,102,108,105,99,116]:List UInt8)==[111,110])=true from h) (by decide)) (λ_=>?_);refine ae.bif (λh=>absurd (show(([99,111,110,102,108,105,99,116]:List UInt8)==[107,101,121,115])=true from h) (by decide)) (λ_=>?_);refine ae.bif (λh=>absurd (show(([99,111,110,102,108,105,99,116]:List UInt8)==[118,97,108,117,101,115])=true from h) (by decide)) (λ_=>?_);refine ae.bif (λ_=>?_) (λh=>absurd (show(([99,111,110,102,108,105,99,116]:List UInt8)==[99,111,110,102,108,105,99,116])=false from h) (by decide));exact ae.aA (pG (by simp) hx hs hm) (λ_ e=>ae.ret e)
theorem Xk {w:ay} {x:ab} {x':af} {a:Int} (hx:El c x' (aL 0) x) (hm:x.aj.aK=4\/(x.aj.aK=0/\x.aj.ai.Kind∈[(4:Int),5,9,10])):ae ((cV Pu) c ⟨51,[115,105,122,101],0,a,[x']⟩ w) (·=⟨29,aL 1,0,[],0,[x]⟩) cQ:=by
 have ha:(dT Pu) [115,105,122,101]=some 1:=by rw[er,dN];rfl
 rw[ew,dP];refine ae.aC ha ?_;refine ae.bif (λ_=>?_) (λh=>absurd h (by decide));refine ae.bif (λh=>absurd h (by simp[af.aB])) (λ_=>?_);refine ae.bif (λh=>absurd (show(([115,105,122,101]:List UInt8)==[102,108,97,103])=true from h) (by decide)) (λ_=>?_);refine ae.bif (λh=>absurd (show(([115,105,122,101]:List UInt8)==[110,117,109])=true from h) (by decide)) (λ_=>?_);refine ae.bif (λh=>absurd (show(([115,105,122,101]:List UInt8)==[115,101,116])=true from h) (by decide)) (λ_=>?_);refine ae.bif (λh=>absurd (show(([115,105,122,101]:List UInt8)==[109,97,112])=true from h) (by decide)) (λ_=>?_);refine ae.bif (λh=>absurd (show(([115,105,122,101]:List UInt8)==[114,101,99])=true from h) (by decide)) (λ_=>?_);refine ae.bif (λh=>absurd (show(([115,105,122,101]:List UInt8)==[112,97,105,114])=true from h) (by decide)) (λ_=>?_);refine ae.bif (λh=>absurd (show(([115,105,122,101]:List UInt8)==[111,110,101])=true from h) (by decide)) (λ_=>?_);refine ae.bif (λh=>absurd (show(([115,105,122,101]:List UInt8)==[119,114,105,116,101])=true from h) (by decide)) (λ_=>?_);refine ae.aA (P:=(·=⟨29,aL 1,0,[],0,[x]⟩)) ?_ (λ_ e=>ae.ret e);rw[mA,jy];refine ae.aC (v:=x') rfl (ae.aC (bp 2) (ae.aC (bp 1) (ae.aC (bp 4) ?_)));refine ae.bif (λ_=>?_) (λh=>absurd (show(([115,105,122,101]:List UInt8)==[115,105,122,101])=false from h) (by decide));refine dK hx ?_;refine ae.bif (λh4=>?_) (λ_=>ae.ret rfl);have hm:x.aj.aK=0/\x.aj.ai.Kind∈[(4:Int),5,9,10]:=by
  rcases hm with h|h
  ·simp[h]at h4
  ·exact h
 refine ae.bif (λh=>by simp[hm.1]at h) (λ_=>?_);refine ae.aC (kJ _ _ (by simp)) ?_;refine ae.bif (λh=>?_) (λ_=>ae.ret rfl);have h2:=hm.2;simp at h h2;omega
theorem Yd {w:ay} {x:ab} {x':af} {a:Int} {p:ah} (hx:El c x' (aL 0) x) (hs:x.aj.aK=0) (h5:x.aj.ai.Kind=5) (hp:x.aj.ai.aw[0]? =some p) (hk:p.Kind=2\/p.Kind=3):ae ((cV Pu) c ⟨51,[115,117,109],0,a,[x']⟩ w) (·=⟨30,aL 1,0,[],0,[x]⟩) cQ:=by
 have ha:(dT Pu) [115,117,109]=some 1:=by rw[er,dN];rfl
 rw[ew,dP];refine ae.aC ha ?_;refine ae.bif (λ_=>?_) (λh=>absurd h (by decide));refine ae.bif (λh=>absurd h (by simp[af.aB])) (λ_=>?_);refine ae.bif (λh=>absurd (show(([115,117,109]:List UInt8)==[102,108,97,103])=true from h) (by decide)) (λ_=>?_);refine ae.bif (λh=>absurd (show(([115,117,109]:List UInt8)==[110,117,109])=true from h) (by decide)) (λ_=>?_);refine ae.bif (λh=>absurd (show(([115,117,109]:List UInt8)==[115,101,116])=true from h) (by decide)) (λ_=>?_);refine ae.bif (λh=>absurd (show(([115,117,109]:List UInt8)==[109,97,112])=true from h) (by decide)) (λ_=>?_);refine ae.bif (λh=>absurd (show(([115,117,109]:List UInt8)==[114,101,99])=true from h) (by decide)) (λ_=>?_);refine ae.bif (λh=>absurd (show(([115,117,109]:List UInt8)==[112,97,105,114])=true from h) (by decide)) (λ_=>?_);refine ae.bif (λh=>absurd (show(([115,117,109]:List UInt8)==[111,110,101])=true from h) (by decide)) (λ_=>?_);refine ae.bif (λh=>absurd (show(([115,117,109]:List UInt8)==[119,114,105,116,101])=true from h) (by decide)) (λ_=>?_);refine ae.aA (P:=(·=⟨30,aL 1,0,[],0,[x]⟩)) ?_ (λ_ e=>ae.ret e);rw[mA,jy];refine ae.aC (v:=x') rfl (ae.aC (bp 2) (ae.aC (bp 1) (ae.aC (bp 4) ?_)));refine ae.bif (λh=>absurd (show(([115,117,109]:List UInt8)==[115,105,122,101])=true from h) (by decide)) (λ_=>?_);refine ae.bif (λ_=>?_) (λh=>absurd (show(([115,117,109]:List UInt8)==[115,117,109])=false from h) (by decide));refine ae.aA (pG (x:=x) (by simp) hx hs (by simp[h5])) (λy e=>?_);subst e;refine ae.aC (v:=x) rfl (ae.aC hp ?_);refine ae.bif (λh2=>?_) (λ_=>ae.ret rfl);refine ae.bif (λh3=>?_) (λ_=>ae.ret rfl);simp at h2 h3;omega
theorem Wg {w:ay} {x:ab} {x':af} {a:Int} {p:ah} (hx:El c x' (aL 0) x) (hs:x.aj.aK=0) (h7:x.aj.ai.Kind=7) (hp:x.aj.ai.aw[0]? =some p):ae ((cV Pu) c ⟨51,[102,105,114,115,116],0,a,[x']⟩ w) (·=⟨35,bN p,0,[],0,[x]⟩) cQ:=by
 have ha:(dT Pu) [102,105,114,115,116]=some 1:=by rw[er,dN];rfl
 rw[ew,dP];refine ae.aC ha ?_;refine ae.bif (λ_=>?_) (λh=>absurd h (by decide));refine ae.bif (λh=>absurd h (by simp[af.aB])) (λ_=>?_);refine ae.bif (λh=>absurd (show(([102,105,114,115,116]:List UInt8)==[102,108,97,103])=true from h) (by decide)) (λ_=>?_);refine ae.bif (λh=>absurd (show(([102,105,114,115,116]:List UInt8)==[110,117,109])=true from h) (by decide)) (λ_=>?_);refine ae.bif (λh=>absurd (show(([102,105,114,115,116]:List UInt8)==[115,101,116])=true from h) (by decide)) (λ_=>?_);refine ae.bif (λh=>absurd (show(([102,105,114,115,116]:List UInt8)==[109,97,112])=true from h) (by decide)) (λ_=>?_);refine ae.bif (λh=>absurd (show(([102,105,114,115,116]:List UInt8)==[114,101,99])=true from h) (by decide)) (λ_=>?_);refine ae.bif (λh=>absurd (show(([102,105,114,115,116]:List UInt8)==[112,97,105,114])=true from h) (by decide)) (λ_=>?_);refine ae.bif (λh=>absurd (show(([102,105,114,115,116]:List UInt8)==[111,110,101])=true from h) (by decide)) (λ_=>?_);refine ae.bif (λh=>absurd (show(([102,105,114,115,116]:List UInt8)==[119,114,105,116,101])=true from h) (by decide)) (λ_=>?_);refine ae.aA (P:=(·=⟨35,bN p,0,[],0,[x]⟩)) ?_ (λ_ e=>ae.ret e);rw[mA,jy];refine ae.aC (v:=x') rfl (ae.aC (bp 2) (ae.aC (bp 1) (ae.aC (bp 4) ?_)));refine ae.bif (λh=>absurd (show(([102,105,114,115,116]:List UInt8)==[115,105,122,101])=true from h) (by decide)) (λ_=>?_);refine ae.bif (λh=>absurd (show(([102,105,114,115,116]:List UInt8)==[115,117,109])=true from h) (by decide)) (λ_=>?_);refine ae.bif (λh=>absurd (show(([102,105,114,115,116]:List UInt8)==[110,117,109,98,101,114])=true from h) (by decide)) (λ_=>?_);refine ae.bif (λh=>absurd (show(([102,105,114,115,116]:List UInt8)==[111,110])=true from h) (by decide)) (λ_=>?_);refine ae.bif (λh=>absurd (show(([102,105,114,115,116]:List UInt8)==[107,101,121,115])=true from h) (by decide)) (λ_=>?_);refine ae.bif (λh=>absurd (show(([102,105,114,115,116]:List UInt8)==[118,97,108,117,101,115])=true from h) (by decide)) (λ_=>?_);refine ae.bif (λh=>absurd (show(([102,105,114,115,116]:List UInt8)==[99,111,110,102,108,105,99,116])=true from h) (by decide)) (λ_=>?_);refine ae.bif (λh=>absurd (show(([102,105,114,115,116]:List UInt8)==[115,101,99,111,110,100])=true from h) (by decide)) (λ_=>?_);refine ae.aA (pG (x:=x) (by simp) hx hs (by simp[h7])) (λy e=>?_);subst e;refine ae.aC (v:=x) rfl (ae.aC hp (ae.aC (of_eq p) ?_));exact ae.ret rfl
theorem Vo {w:ay} {x:ab} {x':af} {a:Int} {p:ah} (hx:El c x' (aL 0) x) (hs:x.aj.aK=0) (h7:x.aj.ai.Kind=7) (hp:x.aj.ai.aw[1]? =some p):ae ((cV Pu) c ⟨51,[115,101,99,111,110,100],0,a,[x']⟩ w) (·=⟨36,bN p,0,[],0,[x]⟩) cQ:=by
 have ha:(dT Pu) [115,101,99,111,110,100]=some 1:=by rw[er,dN];rfl
 rw[ew,dP];refine ae.aC ha ?_;refine ae.bif (λ_=>?_) (λh=>absurd h (by decide));refine ae.bif (λh=>absurd h (by simp[af.aB])) (λ_=>?_);refine ae.bif (λh=>absurd (show(([115,101,99,111,110,100]:List UInt8)==[102,108,97,103])=true from h) (by decide)) (λ_=>?_);refine ae.bif (λh=>absurd (show(([115,101,99,111,110,100]:List UInt8)==[110,117,109])=true from h) (by decide)) (λ_=>?_);refine ae.bif (λh=>absurd (show(([115,101,99,111,110,100]:List UInt8)==[115,101,116])=true from h) (by decide)) (λ_=>?_);refine ae.bif (λh=>absurd (show(([115,101,99,111,110,100]:List UInt8)==[109,97,112])=true from h) (by decide)) (λ_=>?_);refine ae.bif (λh=>absurd (show(([115,101,99,111,110,100]:List UInt8)==[114,101,99])=true from h) (by decide)) (λ_=>?_);refine ae.bif (λh=>absurd (show(([115,101,99,111,110,100]:List UInt8)==[112,97,105,114])=true from h) (by decide)) (λ_=>?_);refine ae.bif (λh=>absurd (show(([115,101,99,111,110,100]:List UInt8)==[111,110,101])=true from h) (by decide)) (λ_=>?_);refine ae.bif (λh=>absurd (show(([115,101,99,111,110,100]:List UInt8)==[119,114,105,116,101])=true from h) (by decide)) (λ_=>?_);refine ae.aA (P:=(·=⟨36,bN p,0,[],0,[x]⟩)) ?_ (λ_ e=>ae.ret e);rw[mA,jy];refine ae.aC (v:=x') rfl (ae.aC (bp 2) (ae.aC (bp 1) (ae.aC (bp 4) ?_)));refine ae.bif (λh=>absurd (show(([115,101,99,111,110,100]:List UInt8)==[115,105,122,101])=true from h) (by decide)) (λ_=>?_);refine ae.bif (λh=>absurd (show(([115,101,99,111,110,100]:List UInt8)==[115,117,109])=true from h) (by decide)) (λ_=>?_);refine ae.bif (λh=>absurd (show(([115,101,99,111,110,100]:List UInt8)==[110,117,109,98,101,114])=true from h) (by decide)) (λ_=>?_);refine ae.bif (λh=>absurd (show(([115,101,99,111,110,100]:List UInt8)==[111,110])=true from h) (by decide)) (λ_=>?_);refine ae.bif (λh=>absurd (show(([115,101,99,111,110,100]:List UInt8)==[107,101,121,115])=true from h) (by decide)) (λ_=>?_);refine ae.bif (λh=>absurd (show(([115,101,99,111,110,100]:List UInt8)==[118,97,108,117,101,115])=true from h) (by decide)) (λ_=>?_);refine ae.bif (λh=>absurd (show(([115,101,99,111,110,100]:List UInt8)==[99,111,110,102,108,105,99,116])=true from h) (by decide)) (λ_=>?_);refine ae.bif (λ_=>?_) (λh=>absurd (show(([115,101,99,111,110,100]:List UInt8)==[115,101,99,111,110,100])=false from h) (by decide));refine ae.aA (pG (x:=x) (by simp) hx hs (by simp[h7])) (λy e=>?_);subst e;refine ae.aC (v:=x) rfl (ae.aC hp (ae.aC (of_eq p) ?_));exact ae.ret rfl
