/- A well-typed expression is what its trees are elaborated to: all but calls. -/
import Derived.Test.YtfgnmgbiijpkiaaGreatKRk
set_option linter.all false
namespace Go.Proofs.YtfgnmgbiijpkiaaGreat
open Go Go.Bw
def cV:AV->Prop:=λ_=>False
def El (c:bO) (n:ab) (w:az) (y:ae):Prop:=af ((f48 Pf) c n w) (·=y) cV
def Ea (c:bO) (n:ab) (w:az) (y:ae):Prop:=af ((f91 Pf) c n w) (·=⟨y.Op,y.ai,y.N,y.Text,0,y.Kids⟩) cV
theorem dH {D:Type} {c:bO} {n:ab} {w:az} {y:ae} {f:ae->Option (aX D)} {Q:D->Prop} (h:El c n w y) (g:af (f y) Q cV):af (Bw.aA ((f48 Pf) c n w) f) Q cV:=af.aA h λy' e=>by
 have e:y'=y:=e;rw[e];exact g
theorem El.eq {c : bO} {n : ab} {w : az} {y : ae} (h : El c n w y) : (f48 Pf) c n w = some (.ret y) := by
  obtain ⟨r, e, h⟩ := h
  cases r with
  | ret x => have h : x = y := h
             rw [e, h]
  | aO z => exact h.elim
section
variable {B:Nat} (hB:B<=1048576) {c:bO}
include hB
theorem dS {n:ab} {w:az} {y:ae} (hw:bY B w) (hy:bq B y.ai) (hat:n.At=y.At) (hf:Fit w y.ai) (h:Ea c n w y):El c n w y:=by
 unfold El;rw[I3,rS];refine af.aA h (λy' e=>?_);subst e;refine af.aB (sH hB _ hy.ok) (af.aB (fD w) ?_);have fin:(⟨y.Op,y.ai,y.N,y.Text,n.At,y.Kids⟩:ae)=y:=by rw[hat];cases y;rfl
 refine af.bif (λh=>?_) (λh=>?_)
 ·refine af.bind (zJ hB hw.ok) (λb hb=>?_);have hn:isNone w=false:=by simpa using h
  have:b=true:=hb.2 (hf hn);rw[this];exact af.ret fin
 ·exact af.ret fin
omit hB in
theorem NL {n x z:ab} {a b t:az} {op:Int} {u v:ae} (hn:n.Kids=[x,z]) (hx:El c x a u) (hz:El c z b v):af ((f158 Pf) c op n a b t) (·=⟨op,t,0,[],0,[u,v]⟩) cV:=by
 rw[GM,rq,hn];refine af.aB (v:=x) rfl (dH hx ?_);refine af.aB (v:=z) rfl (dH hz ?_);exact af.ret rfl
def TC (c:bO) (x z:ab) (u v:ae) (lt:Bool):Prop:=
 (¬fi u/\El c x (aL 0) u/\El c z u.ai v/\(lt=true->u.ai.aP=0))\/(fi u/\¬fi v/\El c z (aL 0) v/\El c x v.ai u/\(lt=true->v.ai.aP=0))
omit hB in
theorem si {n x z:ab} {lt:Bool} {u v:ae} (hx:Br c.params u x) (hz:Br c.params v z) (h:TC c x z u v lt):af ((f203 Pf) c n x z lt) (·=(u,v)) cV:=by
 rw[GO,rz];have lts:∀{t:az},(lt=true->t.aP=0)->lt=true->(t.aP !=0)=true->False:=λh e h2=>by simp[h e]at h2
 refine af.bind (NM _ _ hx) (λo ho=>?_);refine af.bif (λe=>?_) (λe=>?_)
 ·rcases h with⟨h1,_⟩|⟨h1,h2,h3,h4,h5⟩
  ·exact absurd (ho.1 e) h1
  refine af.bind (NM _ _ hz) (λo2 ho2=>?_);refine af.bif (λe2=>absurd (ho2.1 e2) h2) (λ_=>?_);refine dH h3 ?_;refine af.bif (λhl=>?_) (λ_=>dH h4 (af.ret rfl));exact af.bif (λhs=>(lts h5 hl hs).elim) (λ_=>dH h4 (af.ret rfl))
 ·rcases h with⟨h1,h3,h4,h5⟩|⟨h1,_⟩
  ·refine dH h3 ?_;refine af.bif (λhl=>?_) (λ_=>dH h4 (af.ret rfl));exact af.bif (λhs=>(lts h5 hl hs).elim) (λ_=>dH h4 (af.ret rfl))
  ·rw[ho.2 h1]at e;cases e
omit hB in
theorem CL {n x:ab} {ks:List Int} {u:ae} (hk:ks.length<9223372036854775807) (hx:El c x (aL 0) u) (hs:u.ai.aP=0) (hm:u.ai.aj.Kind∈ks):af ((f204 Pf) c n x ks) (·=u) cV:=by
 rw[wT,og];refine dH hx ?_;refine af.bif (λh=>by simp[hs]at h) (λ_=>?_);refine af.aB (kq ks _ hk) ?_;refine af.bif (λh=>?_) (λ_=>af.ret rfl);have:(ks.any λy=>u.ai.aj.Kind==y)=true:=ka.2 ⟨_,hm,by simp⟩;rw[this]at h;cases h
omit hB in
theorem Eo {D:Type} {n x:ab} {ks:List Int} {u:ae} {f:ae->Option (aX D)} {Q:D->Prop} (h:af ((f204 Pf) c n x ks) (·=u) cV) (g:af (f u) Q cV):af (Bw.aA ((f204 Pf) c n x ks) f) Q cV:=af.aA h λy' e=>by
 have e:y'=u:=e;rw[e];exact g
variable (hc:CE B c) (hd:∀(i j:Nat) p q,c.params[i]? =some p->c.params[j]? =some q->p.Name=q.Name->i=j)
def IH (B:Nat) (c:bO) (k:ae):Prop:=∀w n,bY B w->W c.l c.params k w->Br c.params k n->El c n w k
omit hB in
include hc in
theorem uk {x z:ab} {u v:ae} {lt:Bool} (iu:IH B c u) (iv:IH B c v) (hx:Br c.params u x) (hz:Br c.params v z)
  (h:(W c.l c.params u (aL 0)/\W c.l c.params v u.ai/\(lt=true->u.ai.aP=0))\/(W c.l c.params v (aL 0)/\W c.l c.params u v.ai/\(lt=true->v.ai.aP=0))):TC c x z u v lt:=by
 have z0:isNone (aL 0)=true:=rfl;rcases h with⟨h1,h2,h3⟩|⟨h1,h2,h3⟩
 ·exact .inl ⟨h1.closed z0,iu _ _ (.inl rfl) h1 hx,iv _ _ (.inr (W.tt hc h1 (.inl rfl)).ty) h2 hz,h3⟩
 ·have tv:=W.tt hc h1 (.inl rfl);have tu:=W.tt hc h2 (.inr tv.ty);by_cases ho:fi u
  ·exact .inr ⟨ho,h1.closed z0,iv _ _ (.inl rfl) h1 hz,iu _ _ (.inr tv.ty) h2 hx,h3⟩
  ·have e:=h2.p0 tv.ty.lY;exact .inl ⟨ho,iu _ _ (.inl rfl) (h2.free ho) hx,iv _ _ (.inr tu.ty) (by rw[<-e];exact h1.own z0 tv) hz,by rw[<-e];exact h3⟩
omit hB in
theorem ZO {n x z:ab} {w a b t:az} {op:Int} {u v:ae} (hn:n.Kids=[x,z]) (hx:El c x a u) (hz:El c z b v) (h:(f91 Pf) c n w=Bw.aA ((f158 Pf) c op n a b t) λy=>some (.ret y)) {a':Int}:Ea c n w ⟨op,t,0,[],a',[u,v]⟩:=by
 unfold Ea;rw[h];exact af.aA (NL hn hx hz) λy e=>af.ret e
end
section
variable {B:Nat} (hB:B<=1048576) {c:bO} (hc:CE B c) (hd:∀(i j:Nat) p q,c.params[i]? =some p->c.params[j]? =some q->p.Name=q.Name->i=j)
theorem ww (n:Int) (h:1<=n/\n<=4:=by decide):bY B (aL n):= .inr (bq.sort h)
theorem ZN {D:Type} {P:D->Prop} {x y:D} (h:∀k∈[x,y],P k):P x/\P y:=⟨h x (by simp),h y (by simp)⟩
include hB hc in
theorem l6 {op kd a:Int} {t w:az} {x y:ae} {x' y':ab} (hw:bY B w) (hW:W c.l c.params ⟨op,t,0,[],a,[x,y]⟩ w) (hm:(op,kd)∈eE) (ih:∀k∈[x,y],IH B c k) (bx:Br c.params x x') (by':Br c.params y y'):El c ⟨kd,[],0,a,[x',y']⟩ w ⟨op,t,0,[],a,[x,y]⟩:=by
 obtain⟨ix,iy⟩:=ZN ih;have htt:=W.tt hc hW hw;have z0:isNone (aL 0)=true:=rfl;have el:Fit w t->Ea c ⟨kd,[],0,a,[x',y']⟩ w ⟨op,t,0,[],a,[x,y]⟩->El c ⟨kd,[],0,a,[x',y']⟩ w ⟨op,t,0,[],a,[x,y]⟩:=λhf h=>dS hB hw htt.ty rfl hf h;simp only[eE,cm,fM,or_false,cu]at hm;have two:∀{t:az} {u v:az} {op':Int},El c x' u x->El c y' v y->(f91 Pf) c ⟨kd,[],0,a,[x',y']⟩ w=Bw.aA ((f158 Pf) c op' ⟨kd,[],0,a,[x',y']⟩ u v t) (λy=>some (.ret y))->Ea c ⟨kd,[],0,a,[x',y']⟩ w ⟨op',t,0,[],a,[x,y]⟩:=λh1 h2 h=>ZO rfl h1 h2 h;obtain⟨kids,hk⟩:∃kids,[x,y]=kids:=⟨_,rfl⟩;have hW:W c.l c.params ⟨op,t,0,[],a,kids⟩ w:=by rw[<-hk];exact hW
 cases hW with
 |conn ho h1 h2 hf=>
  cases hk;rcases hm with⟨rfl,rfl⟩|⟨rfl,rfl⟩|⟨rfl,rfl⟩|⟨rfl,rfl⟩|⟨rfl,rfl⟩|⟨rfl,rfl⟩|⟨rfl,rfl⟩|⟨rfl,rfl⟩|⟨rfl,rfl⟩|⟨rfl,rfl⟩|⟨rfl,rfl⟩
  all_goals first
   |(exfalso;revert ho;decide)
   |exact el hf (two (ix _ _ (ww 2) h1 bx) (iy _ _ (ww 2) h2 by') (by rw[eA,dN];simp only[bC,aw,Int.reduceBEq,aV,bp]))
 |less ho h1 h2 hf=>
  cases hk;rcases hm with⟨rfl,rfl⟩|⟨rfl,rfl⟩|⟨rfl,rfl⟩|⟨rfl,rfl⟩|⟨rfl,rfl⟩|⟨rfl,rfl⟩|⟨rfl,rfl⟩|⟨rfl,rfl⟩|⟨rfl,rfl⟩|⟨rfl,rfl⟩|⟨rfl,rfl⟩
  all_goals first
   |(exfalso;revert ho;decide)
   |exact el hf (two (ix _ _ (ww 1) h1 bx) (iy _ _ (ww 1) h2 by') (by rw[eA,dN];simp only[bC,aw,Int.reduceBEq,aV,bp]))
 |ml ho h1 h2 hf=>
  cases hk;rcases hm with⟨rfl,rfl⟩|⟨rfl,rfl⟩|⟨rfl,rfl⟩|⟨rfl,rfl⟩|⟨rfl,rfl⟩|⟨rfl,rfl⟩|⟨rfl,rfl⟩|⟨rfl,rfl⟩|⟨rfl,rfl⟩|⟨rfl,rfl⟩|⟨rfl,rfl⟩
  all_goals first
   |(exfalso;revert ho;decide)
   |exact el hf (two (ix _ _ (ww 1) h1 bx) (iy _ _ (ww 1) h2 by') (by rw[eA,dN];simp only[bC,aw,Int.reduceBEq,aV,bp]))
 |oD h1 h2 hf=>
  cases hk;have hk:kd=37:=by omega
  subst hk;exact el hf (two (ix _ _ (ww 3) h1 bx) (iy _ _ (ww 4) h2 by') (by rw[eA,dN];simp only[bC,aw,Int.reduceBEq,aV,bp]))
 |equal h1 hs h2 hf=>
  cases hk;have hk:kd=36:=by omega
  subst hk;refine el hf ?_;unfold Ea;rw[eA,dN,kA,ie];simp only[bC,aw,Int.reduceBEq,aV,bp];refine af.aA (P:=(·=⟨13,aL 2,0,[],0,[x,y]⟩)) ?_ (λ_ e=>af.ret e);refine af.aB (v:=x') rfl (dH (ix _ _ (.inl rfl) h1 bx) ?_);refine af.bif (λh=>absurd (by simpa using h) hs) (λ_=>?_);refine af.aB (v:=y') rfl (dH (iy _ _ (.inr (htt.mx (k:=x) (by simp)).ty) h2 by') ?_);exact af.ret rfl
 |oE h1 hs h2 hf=>
  cases hk;have hk:kd=38:=by omega
  subst hk;refine el hf ?_;unfold Ea;rw[eA,dN,kA,ie];simp only[bC,aw,Int.reduceBEq,aV,bp];refine af.aA (P:=(·=⟨15,aL 2,0,[],0,[x,y]⟩)) ?_ (λ_ e=>af.ret e);refine af.aB (v:=x') rfl (af.aB (v:=y') rfl ?_);refine af.aA (si bx by' (uk hc ix iy bx by' (.inl ⟨h1,h2,λ_=>hs⟩))) (λr e=>?_);have e:r=(x,y):=e;subst e;exact af.ret rfl
 |oF h1 hs h2 hf=>
  cases hk;have hk:kd=38:=by omega
  subst hk;refine el hf ?_;unfold Ea;rw[eA,dN,kA,ie];simp only[bC,aw,Int.reduceBEq,aV,bp];refine af.aA (P:=(·=⟨15,aL 2,0,[],0,[x,y]⟩)) ?_ (λ_ e=>af.ret e);refine af.aB (v:=x') rfl (af.aB (v:=y') rfl ?_);refine af.aA (si bx by' (uk hc ix iy bx by' (.inr ⟨h1,h2,λ_=>hs⟩))) (λr e=>?_);have e:r=(x,y):=e;subst e;exact af.ret rfl
 |nj hn hs h1 h2=>
  cases hk;have hk:kd=39:=by omega
  subst hk;refine el (λ_=>rfl) ?_;unfold Ea;rw[eA,dN,kA,ie];simp only[bC,fD,hn,aw,Int.reduceBEq,aV,bp,u5];refine af.aA (P:=(·=⟨16,t,0,[],0,[x,y]⟩)) ?_ (λ_ e=>af.ret e);refine af.bif (λh=>by simp[hs]at h) (λ_=>?_);exact af.aA (NL rfl (ix _ _ hw h1 bx) (iy _ _ hw h2 by')) (λ_ e=>af.ret e)
 |nk hn h1 hs h2=>
  cases hk;have hk:kd=39:=by omega
  subst hk;refine el (λh=>by rw[hn]at h;cases h) ?_;unfold Ea;rw[eA,dN,kA,ie];simp only[bC,fD,hn,aw,Int.reduceBEq,aV,bp,xQ];refine af.aA (P:=(·=⟨16,x.ai,0,[],0,[x,y]⟩)) ?_ (λ_ e=>af.ret e);refine af.aB (v:=x') rfl (af.aB (v:=y') rfl ?_);refine af.aA (si bx by' (uk hc ix iy bx by' (.inl ⟨h1,h2,λ_=>hs⟩))) (λr e=>?_);have e:r=(x,y):=e;subst e;exact af.ret rfl
 |nq hn h1 hs h2=>
  cases hk;have hk:kd=39:=by omega
  subst hk;refine el (λh=>by rw[hn]at h;cases h) ?_;unfold Ea;rw[eA,dN,kA,ie];simp only[bC,fD,hn,aw,Int.reduceBEq,aV,bp,xQ];refine af.aA (P:=(·=⟨16,x.ai,0,[],0,[x,y]⟩)) ?_ (λ_ e=>af.ret e);refine af.aB (v:=x') rfl (af.aB (v:=y') rfl ?_);refine af.aA (si bx by' (uk hc ix iy bx by' (.inr ⟨h1,h2,λ_=>hs⟩))) (λr e=>?_);have e:r=(x,y):=e;subst e;exact af.ret rfl
 |at_ h1 hs h5 hp h2 hf=>
  rename_i p;cases hk;have hk:kd=43:=by omega
  subst hk;refine el hf ?_;unfold Ea;rw[eA,dN,kA,ie];simp only[bC,aw,Int.reduceBEq,aV,bp];refine af.aA (P:=(·=⟨20,b7 p,0,[],0,[x,y]⟩)) ?_ (λ_ e=>af.ret e);refine af.aB (v:=x') rfl (Eo (CL (by simp) (ix _ _ (.inl rfl) h1 bx) hs (by simp[h5])) ?_);refine af.aB (v:=y') rfl (dH (iy _ _ (ww 3) h2 by') ?_);refine af.aB hp (af.aB (of_eq _) ?_);exact af.ret rfl
 |map=>omega
 |jO=>omega
 |kI=>omega
 |pair=>omega
 |_=>cases hk
end
theorem Lp {l:List (List UInt8)} {j:Nat} {t:List UInt8} (h:l[j]? =some t) (hd:∀(i j:Nat) t,l[i]? =some t->l[j]? =some t->i=j):idxOf (λy=>t==y) l 0=(j:Int):=by
 rcases qk (λy=>t==y) l 0 with⟨_,h2⟩|⟨i,x,h1,h2,h3,_⟩
 ·have:=h2 t (bw h);simp at this
 ·have e:t=x:=by simpa using h3
  subst e;have e2:=hd i j t h2 h;have h1:idxOf (λy=>t==y) l 0=((0+i:Nat):Int):=h1;rw[h1,e2];simp
section
variable {B:Nat} (hB:B<=1048576) {c:bO}
theorem qx {ks:List Int} {w:az} {n:ab} (hk:ks.length<9223372036854775807) (hs:w.aP=0) (hm:w.aj.Kind∈ks):af ((f198 Pf) ks w n) (λ_=>True) cV:=by
 rw[GK,rn];refine af.bif (λh=>by simp[hs]at h) (λ_=>?_);refine af.aB (kq ks _ hk) ?_;refine af.bif (λh=>?_) (λ_=>af.ret trivial);have:(ks.any λy=>w.aj.Kind==y)=true:=ka.2 ⟨_,hm,by simp⟩;rw[this]at h;cases h
theorem YC (hB:B<=1048576) {n:ab} {l:ah} {kids:List ae} (hl:dw l) (ho:l.ok B) {s4:List Bool} {s3:List ae} (h3:s3.length=l.ax.length) (h4:s4.length=l.ax.length) (hk:kids.length=l.ax.length)
  (h5:∀j:Nat,s4[j]? =some true->s3[j]? =kids[j]?) (h6:∀(j:Nat) k p,s4[j]? =some false->kids[j]? =some k->l.ax[j]? =some p->k=⟨6,b7 p,0,[],n.At,[]⟩):af ((jz Pf) n l s4 s3 0) (·=kids) cV:=by
 have hlen:l.ax.length<=B:=by rw[ah.c8]at ho;exact ho.2.2.2.2.1.1
 have h:=oW (L:=λi (b:List ae)=>(jz Pf) n l s4 b i) (P:=(·=kids)) (E:=cV) (len:=l.ax.length) (λi b=>b.length=l.ax.length/\∀(j:Nat),(j<i\/s4[j]? =some true)->b[j]? =kids[j]?) (λi b hi hJ k=>by
   show af ((jz Pf) n l s4 b i) _ _;rw[sQ,mM,ah.aD,aY];have:decide (i<l.ax.length)=true:=by simpa using hi
   obtain⟨p,hp⟩:=bh hi;obtain⟨f,hf⟩:=bh (l:=s4) (i:=i) (by rw[h4];exact hi);obtain⟨x,hx⟩:=bh (l:=b) (i:=i) (by rw[hJ.1];exact hi);obtain⟨q,hq⟩:=bh (l:=kids) (i:=i) (by rw[hk];exact hi);have hm:=bw hp;rw[this,aV,bj hp,aw,bj hf,aw,bP i (by omega)];refine af.bif (λh1=>?_) (λh1=>?_)
   ·refine af.aB (sH hB p (pw ho hm)) (af.aB (of_eq p) (af.aB (er hx) ?_));rw[fj];refine k _ ⟨by simp[hJ.1],λj hj=>?_⟩;by_cases e:j=i
    ·subst e;rw[mA (by rw[hJ.1];exact hi),hq];have h1:f=false:=by simpa using h1
     rw[h6 j q p (by rw[hf,h1]) hq hp]
    ·rw[jX (by omega)];exact hJ.2 j (by rcases hj with hj|hj;exact .inl (by omega);exact .inr hj)
   ·refine k _ ⟨hJ.1,λj hj=>?_⟩;by_cases e:j=i
    ·subst e;have:f=true:=by simpa using h1
     exact hJ.2 j (.inr (by rw[hf,this]))
    ·exact hJ.2 j (by rcases hj with hj|hj;exact .inl (by omega);exact .inr hj)) (λb hJ=>by
   show af ((jz Pf) n l s4 b _) _ _;rw[sQ,mM,ah.aD,aY];have:decide (l.ax.length<l.ax.length)=false:=by simp
   rw[this,bp];refine af.ret (Cf λj=>?_);by_cases hj:j<l.ax.length
   ·exact hJ.2 j (.inl hj)
   ·rw[oT (by rw[hJ.1];omega),oT (by rw[hk];omega)]) 0 s3 (by omega) ⟨h3,λj hj=>by
    rcases hj with hj|hj
    ·omega
    ·exact h5 j hj⟩
 exact h
theorem WI (hB:B<=1048576) {l:ah} {kids:List ae} {es:List (Nat×Int×ab)} {a:Int} {tx:List UInt8} (hl:dw l) (ho:l.ok B) (h6:l.Kind=6) (hk:kids.length=l.ax.length) (hes:es.length<=kids.length)
  (hdis:∀(i j:Nat) e e',es[i]? =some e->es[j]? =some e'->e.1=e'.1->i=j) (hlt:∀e∈es,e.1<kids.length)
  (hE:∀(e:Nat×Int×ab) k p,e∈es->kids[e.1]? =some k->l.ax[e.1]? =some p->El c e.2.2 (b7 p) k)
  (hR:∀(j:Nat) k p,kids[j]? =some k->l.ax[j]? =some p->(∃e∈es,e.1=j)\/k=⟨6,b7 p,0,[],a,[]⟩):af ((f201 Pf) c ⟨51,tx,0,a,es.map (eZ l.Names)⟩ l) (·=kids) cV:=by
 have hlen:l.ax.length<=B:=by rw[ah.c8]at ho;exact ho.2.2.2.2.1.1
 have hpn:=qZ hl h6;rw[GN,ry,ah.aD,Dr (by omega),aw,aw];have h:=oW (L:=λi (b:List ae×List Bool)=>(lQ Pf) c ⟨51,tx,0,a,es.map (eZ l.Names)⟩ l b.1 b.2 i) (P:=(·=kids)) (E:=cV) (len:=es.length) (λi b=>b.1.length=l.ax.length/\b.2.length=l.ax.length/\(∀j:Nat,b.2[j]? =some true->b.1[j]? =kids[j]?)/\∀j:Nat,b.2[j]? =some true↔∃(q:Nat) (e:Nat×Int×ab),q<i/\es[q]? =some e/\e.1=j) (λi b hi hI k=>by
   show af ((lQ Pf) c ⟨51,tx,0,a,es.map (eZ l.Names)⟩ l b.1 b.2 i) _ _;rw[sR,mN,ab.aD];show af (bif decide ((i:Int)<((es.map (eZ l.Names)).length:Int))then _ else _) _ _;rw[jt,aY];have:decide (i<es.length)=true:=by simpa using hi
   obtain⟨e,he⟩:=bh hi;have hem:=bw he;have hje:=hlt e hem;obtain⟨t,ht⟩:=bh (l:=l.Names) (i:=e.1) (by omega);obtain⟨p,hp⟩:=bh (l:=l.ax) (i:=e.1) (by omega);obtain⟨q,hq⟩:=bh hje;have hent:(es.map (eZ l.Names))[i]? =some ⟨52,t,0,e.2.1,[e.2.2]⟩:=by rw[my,he];simp[eZ,ht]
   show af (bif decide (i<es.length)then(au (es.map (eZ l.Names)) (i:Int)).bind _ else _) _ _;rw[this,aV,bj hent,aw,qw _ _ (by omega),aw,bP i (by omega)];rw[Lp ht (Cs hl h6)];refine af.bif (λh=>by simp at h;omega) (λ_=>?_);obtain⟨f,hf⟩:=bh (l:=b.2) (i:=e.1) (by rw[hI.2.1];omega);obtain⟨x,hx⟩:=bh (l:=b.1) (i:=e.1) (by rw[hI.1];omega);refine af.aB (er hf) ?_;refine af.bif (λh=>?_) (λ_=>?_)
   ·have h:f=true:=h;obtain⟨q',e',h1,h2,h3⟩:=(hI.2.2.2 e.1).1 (by rw[hf,h]);have:=hdis q' i e' e h2 he h3;omega
   refine af.aB (v:=e.2.2) rfl (af.aB (er hp) (af.aB (of_eq p) ?_));refine dH (hE e q p hem hq hp) ?_;refine af.aB (er hx) (af.aB (er hf) ?_);rw[fj];refine k (b.1.set e.1 q,b.2.set e.1 true) ⟨by simp[hI.1],by simp[hI.2.1],λj hj=>?_,λj=>?_⟩
   ·by_cases ej:j=e.1
    ·subst ej;simp only;rw[mA (by rw[hI.1];omega),hq]
    ·simp only at hj⊢;rw[jX (by omega)]at hj⊢;exact hI.2.2.1 j hj
   ·by_cases ej:j=e.1
    ·subst ej;simp only;rw[mA (by rw[hI.2.1];omega)];exact⟨λ_=>⟨i,e,by omega,he,rfl⟩,λ_=>rfl⟩
    ·simp only;rw[jX (by omega),hI.2.2.2 j];constructor
     ·rintro ⟨q',e',h1,h2,h3⟩;exact⟨q',e',by omega,h2,h3⟩
     ·rintro ⟨q',e',h1,h2,h3⟩;refine⟨q',e',?_,h2,h3⟩;rcases iQ.1 h1 with h|h
      ·exact h
      ·subst h;rw[he]at h2;cases h2;exact absurd h3.symm ej) (λb hI=>by
   show af ((lQ Pf) c ⟨51,tx,0,a,es.map (eZ l.Names)⟩ l b.1 b.2 _) _ _;rw[sR,mN,ab.aD];show af (bif decide ((es.length:Int)<((es.map (eZ l.Names)).length:Int))then _ else _) _ _;rw[jt,aY];have:decide (es.length<es.length)=false:=by simp
   rw[this,bp];refine YC hB hl ho hI.1 hI.2.1 hk hI.2.2.1 (λj k p hj hkj hp=>?_);rcases hR j k p hkj hp with⟨e,he,hej⟩|h
   ·obtain⟨q,hq⟩:=gr he;have:=(hI.2.2.2 j).2 ⟨q,e,(cr.1 hq).1,hq,hej⟩;rw[this]at hj;cases hj
   ·exact h) 0 (List.replicate l.ax.length ae.z,List.replicate l.ax.length false) (by omega) ⟨by simp,by simp,λj hj=>by
    simp[Ck]at hj,λj=>by
    constructor
    ·intro hj;simp[Ck]at hj
    ·rintro ⟨q,e,h1,_⟩;omega⟩
 exact h
theorem lK {D:Type} {l:List D} {i:Nat} {x:D} (h:l[i]? =some x):l.take i++[x]=l.take (i+1):=by
 rw[List.take_add_one,h];rfl
theorem ZL (hB:B<=1048576) {w:az} {kids:List ae} {ks:List ab} {a:Int} {tx:List UInt8} (hn:kids.length<=1048576) (hl:kids.length=ks.length) (hE:∀(i:Nat) k k',kids[i]? =some k->ks[i]? =some k'->El c k' (aL 0) k) (hs:∀k∈kids,k.ai.aP=3\/k.ai.aP=4):af ((gz Pf) c ⟨51,tx,0,a,ks⟩ w 0 []) (·=⟨23,w,0,[],0,kids⟩) cV:=by
 have h:=oW (L:=λi (b:List ae)=>(gz Pf) c ⟨51,tx,0,a,ks⟩ w i b) (P:=(·=⟨23,w,0,[],0,kids⟩)) (E:=cV) (len:=ks.length) (λi b=>b=kids.take i) (λi b hi hI k=>by
   show af ((gz Pf) c ⟨51,tx,0,a,ks⟩ w i b) _ _;rw[pe,kT,ab.aD];show af (bif decide ((i:Int)<(ks.length:Int))then(au ks (i:Int)).bind _ else _) _ _;rw[aY];have:decide (i<ks.length)=true:=by simpa using hi
   obtain⟨e,he⟩:=bh hi;obtain⟨y,hy⟩:=bh (l:=kids) (i:=i) (by omega);have hbl:b.length=i:=by rw[hI,gT];omega
   rw[this,aV,bj he,aw,bP i (by omega)];refine dH (hE i y e hy he) ?_;have hlen:decide ((b++[ae.z]).length<=274877906944)=true:=by simp;omega
   rw[hlen,aV,ae.aD,lI,fj,kX];have e1:(b++[ae.z])[b.length]? =some ae.z:=by simp
   have e2:IntKind.i64.wrap ((((ae.rows b++ae.rows [ae.z]).length:Nat):Int)-1)=(b.length:Int):=by
    rw[jV,ae.aD,ae.aD,wrap64 (by simp<;>omega) (by simp<;>omega)];simp
   have e3:(b++[y])[b.length]? =some y:=by simp
   rw[e1,aw,e2,lI,e3,aw];have go:af ((gz Pf) c ⟨51,tx,0,a,ks⟩ w ((i+1:Nat):Int) (b++[y])) (·=⟨23,w,0,[],0,kids⟩) cV:=k _ (by rw[hI,lK hy]);have hsy:=hs y (bw hy);refine af.bif (λh3=>?_) (λ_=>go);refine af.bif (λh4=>?_) (λ_=>go);simp at h3 h4;omega) (λb hI=>by
   show af ((gz Pf) c ⟨51,tx,0,a,ks⟩ w _ b) _ _;rw[pe,kT,ab.aD];show af (bif decide ((ks.length:Int)<(ks.length:Int))then _ else _) _ _;rw[aY];have:decide (ks.length<ks.length)=false:=by simp
   rw[this,bp];have:b=kids:=by rw[hI,<-hl,jW]
   rw[this];exact af.ret rfl) 0 [] (by omega) (by simp)
 exact h
theorem ZM (hB:B<=1048576) {w:az} {p:ah} {qs:List (ae×ae)} {es:List (List UInt8×Int×ab×ab)} {a:Int} {tx:List UInt8} (hp:w.aj.ax[0]? =some p) (hn:qs.length<=1048576) (hl:qs.length=es.length)
  (h1:∀(i:Nat) q e,qs[i]? =some q->es[i]? =some e->El c e.2.2.1 (aL 3) q.1) (h2:∀(i:Nat) q e,qs[i]? =some q->es[i]? =some e->El c e.2.2.2 (b7 p) q.2):af ((jy Pf) c ⟨51,tx,0,a,es.map fg⟩ w 0 []) (·=⟨24,w,0,[],0,qs.flatMap λq=>[q.1,q.2]⟩) cV:=by
 have h:=oW (L:=λi (b:List ae)=>(jy Pf) c ⟨51,tx,0,a,es.map fg⟩ w i b) (P:=(·=⟨24,w,0,[],0,qs.flatMap λq=>[q.1,q.2]⟩)) (E:=cV) (len:=es.length) (λi b=>b=((qs.take i).flatMap λq=>[q.1,q.2])) (λi b hi hI k=>by
   show af ((jy Pf) c ⟨51,tx,0,a,es.map fg⟩ w i b) _ _;rw[sP,mL,ab.aD];show af (bif decide ((i:Int)<((es.map fg).length:Int))then(au (es.map fg) (i:Int)).bind _ else _) _ _;rw[jt,aY];have:decide (i<es.length)=true:=by simpa using hi
   obtain⟨e,he⟩:=bh hi;obtain⟨q,hq⟩:=bh (l:=qs) (i:=i) (by omega);have hent:(es.map fg)[i]? =some (fg e):=by rw[my,he];rfl
   have hbl:b.length<=2*i:=by rw[hI,sG,gT];omega
   rw[this,aV,bj hent,aw,bP i (by omega)];refine af.aB (v:=e.2.2.1) rfl (af.aB (bC 3) ?_);refine dH (h1 i q e hq he) ?_;have hlen:decide ((b++[ae.z]).length<=274877906944)=true:=by simp;omega
   rw[hlen,aV,ae.aD,fj,kX];have e1:(b++[ae.z])[b.length]? =some ae.z:=by simp
   refine af.aB (er e1) (af.aB (v:=e.2.2.2) rfl (af.aB hp (af.aB (of_eq p) ?_)));refine dH (h2 i q e hq he) ?_;have hlen2:decide (((b++[q.1])++[ae.z]).length<=274877906944)=true:=by simp;omega
   have e2:(((ae.rows b++ae.rows [ae.z]).length:Nat):Int)=(((b++[q.1]).length:Nat):Int):=by
    rw[jV,ae.aD,ae.aD];simp
   have e3:((b++[q.1])++[ae.z])[(b++[q.1]).length]? =some ae.z:=by simp
   rw[hlen2,aV,e2];refine af.aB (er e3) ?_;rw[fj,kX];refine k _ ?_;rw[hI,<-lK hq,List.flatMap_append];simp) (λb hI=>by
   show af ((jy Pf) c ⟨51,tx,0,a,es.map fg⟩ w _ b) _ _;rw[sP,mL,ab.aD];show af (bif decide ((es.length:Int)<((es.map fg).length:Int))then _ else _) _ _;rw[jt,aY];have:decide (es.length<es.length)=false:=by simp
   rw[this,bp];have:b=(qs.flatMap λq=>[q.1,q.2]):=by rw[hI,<-hl,jW]
   rw[this];exact af.ret rfl) 0 [] (by omega) (by simp)
 exact h
end
section
variable {B:Nat} (hB:B<=1048576) {c:bO} (hc:CE B c) (hd:∀(i j:Nat) p q,c.params[i]? =some p->c.params[j]? =some q->p.Name=q.Name->i=j)
theorem Yz {w:az} {x:ae} {x':ab} {a:Int} (hs:w.aP=0) (hk:w.aj.Kind=1) (hx:El c x' (aL 2) x):af ((f159 Pf) c ⟨51,[102,108,97,103],0,a,[x']⟩ w) (·=⟨21,w,0,[],0,[x]⟩) cV:=by
 have ha:(f197 Pf) [102,108,97,103]=some 1:=by rw[eu,dL];rfl
 rw[ew,dM];refine af.aB ha ?_;refine af.bif (λ_=>?_) (λh=>absurd h (by decide));refine af.bif (λh=>absurd h (by simp[ab.aD])) (λ_=>?_);refine af.bif (λ_=>?_) (λh=>absurd (show(([102,108,97,103]:List UInt8)==[102,108,97,103])=false from h) (by decide));refine af.cx (λ_ h=>h.elim) (qx (by simp) hs (by simp;exact hk)) (λ_ _=>?_);refine af.aB (v:=x') rfl (af.aB (bC 2) (dH hx ?_));exact af.ret rfl
theorem ZI {w:az} {x:ae} {x':ab} {a:Int} (hs:w.aP=0) (hk:w.aj.Kind=2\/w.aj.Kind=3) (hx:El c x' (aL 1) x):af ((f159 Pf) c ⟨51,[110,117,109],0,a,[x']⟩ w) (·=⟨22,w,0,[],0,[x]⟩) cV:=by
 have ha:(f197 Pf) [110,117,109]=some 1:=by rw[eu,dL];rfl
 rw[ew,dM];refine af.aB ha ?_;refine af.bif (λ_=>?_) (λh=>absurd h (by decide));refine af.bif (λh=>absurd h (by simp[ab.aD])) (λ_=>?_);refine af.bif (λh=>absurd (show(([110,117,109]:List UInt8)==[102,108,97,103])=true from h) (by decide)) (λ_=>?_);refine af.bif (λ_=>?_) (λh=>absurd (show(([110,117,109]:List UInt8)==[110,117,109])=false from h) (by decide));refine af.cx (λ_ h=>h.elim) (qx (by simp) hs (by simp;exact hk)) (λ_ _=>?_);refine af.aB (v:=x') rfl (af.aB (bC 1) (dH hx ?_));exact af.ret rfl
theorem ZJ {w:az} {x:ae} {x':ab} {a:Int} (hs:w.aP=0) (hk:w.aj.Kind=8) (hx:El c x' (aL 3) x):af ((f159 Pf) c ⟨51,[111,110,101],0,a,[x']⟩ w) (·=⟨27,w,0,[],0,[x]⟩) cV:=by
 have ha:(f197 Pf) [111,110,101]=some 1:=by rw[eu,dL];rfl
 rw[ew,dM];refine af.aB ha ?_;refine af.bif (λ_=>?_) (λh=>absurd h (by decide));refine af.bif (λh=>absurd h (by simp[ab.aD])) (λ_=>?_);refine af.bif (λh=>absurd (show(([111,110,101]:List UInt8)==[102,108,97,103])=true from h) (by decide)) (λ_=>?_);refine af.bif (λh=>absurd (show(([111,110,101]:List UInt8)==[110,117,109])=true from h) (by decide)) (λ_=>?_);refine af.bif (λh=>absurd (show(([111,110,101]:List UInt8)==[115,101,116])=true from h) (by decide)) (λ_=>?_);refine af.bif (λh=>absurd (show(([111,110,101]:List UInt8)==[109,97,112])=true from h) (by decide)) (λ_=>?_);refine af.bif (λh=>absurd (show(([111,110,101]:List UInt8)==[114,101,99])=true from h) (by decide)) (λ_=>?_);refine af.bif (λh=>absurd (show(([111,110,101]:List UInt8)==[112,97,105,114])=true from h) (by decide)) (λ_=>?_);refine af.bif (λ_=>?_) (λh=>absurd (show(([111,110,101]:List UInt8)==[111,110,101])=false from h) (by decide));refine af.cx (λ_ h=>h.elim) (qx (by simp) hs (by simp;exact hk)) (λ_ _=>?_);refine af.aB (v:=x') rfl (af.aB (bC 3) (dH hx ?_));exact af.ret rfl
theorem U2 {w:az} {x y:ae} {x' y':ab} {p q:ah} {a:Int} (hs:w.aP=0) (hk:w.aj.Kind=7) (hp:w.aj.ax[0]? =some p) (hq:w.aj.ax[1]? =some q) (hx:El c x' (b7 p) x) (hy:El c y' (b7 q) y):af ((f159 Pf) c ⟨51,A6,0,a,[x',y']⟩ w) (·=⟨26,w,0,[],0,[x,y]⟩) cV:=by
 show af ((f159 Pf) c ⟨51,[112,97,105,114],0,a,[x',y']⟩ w) _ _;have ha:(f197 Pf) [112,97,105,114]=some 2:=by rw[eu,dL];rfl
 rw[ew,dM];refine af.aB ha ?_;refine af.bif (λ_=>?_) (λh=>absurd h (by decide));refine af.bif (λh=>absurd h (by simp[ab.aD])) (λ_=>?_);refine af.bif (λh=>absurd (show(([112,97,105,114]:List UInt8)==[102,108,97,103])=true from h) (by decide)) (λ_=>?_);refine af.bif (λh=>absurd (show(([112,97,105,114]:List UInt8)==[110,117,109])=true from h) (by decide)) (λ_=>?_);refine af.bif (λh=>absurd (show(([112,97,105,114]:List UInt8)==[115,101,116])=true from h) (by decide)) (λ_=>?_);refine af.bif (λh=>absurd (show(([112,97,105,114]:List UInt8)==[109,97,112])=true from h) (by decide)) (λ_=>?_);refine af.bif (λh=>absurd (show(([112,97,105,114]:List UInt8)==[114,101,99])=true from h) (by decide)) (λ_=>?_);refine af.bif (λ_=>?_) (λh=>absurd (show(([112,97,105,114]:List UInt8)==[112,97,105,114])=false from h) (by decide));refine af.cx (λ_ h=>h.elim) (qx (by simp) hs (by simp;exact hk)) (λ_ _=>?_);refine af.aB (v:=x') rfl (af.aB hp (af.aB (of_eq p) (dH hx ?_)));refine af.bif (λ_=>?_) (λe=>absurd e (by simp));refine af.aB (v:=ae.z) rfl (af.aB (v:=y') rfl (af.aB hq (af.aB (of_eq q) (dH hy ?_))));refine af.bif (λ_=>?_) (λe=>absurd e (by simp));refine af.aB (v:=ae.z) rfl ?_;exact af.ret rfl
theorem UQ {w:az} {x y z:ae} {x' y' z':ab} {a:Int} (hx:El c x' (b7 eF) x) (hy:El c y' (aL 1) y) (hz:El c z' (aL 3) z):af ((f159 Pf) c ⟨51,AS,0,a,[x',y',z']⟩ w) (·=⟨28,b7 eF,0,[],0,[x,y,z]⟩) cV:=by
 show af ((f159 Pf) c ⟨51,[119,114,105,116,101],0,a,[x',y',z']⟩ w) _ _;have ha:(f197 Pf) [119,114,105,116,101]=some 3:=by rw[eu,dL];rfl
 rw[ew,dM];refine af.aB ha ?_;refine af.bif (λ_=>?_) (λh=>absurd h (by decide));refine af.bif (λh=>absurd h (by simp[ab.aD])) (λ_=>?_);refine af.bif (λh=>absurd (show(([119,114,105,116,101]:List UInt8)==[102,108,97,103])=true from h) (by decide)) (λ_=>?_);refine af.bif (λh=>absurd (show(([119,114,105,116,101]:List UInt8)==[110,117,109])=true from h) (by decide)) (λ_=>?_);refine af.bif (λh=>absurd (show(([119,114,105,116,101]:List UInt8)==[115,101,116])=true from h) (by decide)) (λ_=>?_);refine af.bif (λh=>absurd (show(([119,114,105,116,101]:List UInt8)==[109,97,112])=true from h) (by decide)) (λ_=>?_);refine af.bif (λh=>absurd (show(([119,114,105,116,101]:List UInt8)==[114,101,99])=true from h) (by decide)) (λ_=>?_);refine af.bif (λh=>absurd (show(([119,114,105,116,101]:List UInt8)==[112,97,105,114])=true from h) (by decide)) (λ_=>?_);refine af.bif (λh=>absurd (show(([119,114,105,116,101]:List UInt8)==[111,110,101])=true from h) (by decide)) (λ_=>?_);refine af.bif (λ_=>?_) (λh=>absurd (show(([119,114,105,116,101]:List UInt8)==[119,114,105,116,101])=false from h) (by decide));refine af.aB (of_eq eF) (af.aB (v:=x') rfl (dH hx ?_));refine af.bif (λ_=>?_) (λe=>absurd e (by simp));refine af.aB (v:=ae.z) rfl (af.aB (v:=y') rfl (af.aB (bC 1) (dH hy ?_)));refine af.bif (λ_=>?_) (λe=>absurd e (by simp));refine af.aB (v:=ae.z) rfl (af.aB (v:=z') rfl (af.aB (bC 3) (dH hz ?_)));refine af.bif (λ_=>?_) (λe=>absurd e (by simp));refine af.aB (v:=ae.z) rfl ?_;exact af.ret rfl
include hB in
theorem Vl {w:az} {kids:List ae} {ks:List ab} {a:Int} (h0:w.aP=0) (hk:w.aj.Kind=4\/w.aj.Kind=10) (hn:kids.length<=1048576) (hl:kids.length=ks.length) (hE:∀(i:Nat) k k',kids[i]? =some k->ks[i]? =some k'->El c k' (aL 0) k) (hs:∀k∈kids,k.ai.aP=3\/k.ai.aP=4):af ((f159 Pf) c ⟨51,w9,0,a,ks⟩ w) (·=⟨23,w,0,[],0,kids⟩) cV:=by
 show af ((f159 Pf) c ⟨51,[115,101,116],0,a,ks⟩ w) _ _;have ha:(f197 Pf) [115,101,116]=some (-1):=by rw[eu,dL];rfl
 rw[ew,dM];refine af.aB ha ?_;refine af.bif (λh=>absurd h (by decide)) (λ_=>?_);refine af.bif (λh=>absurd (show(([115,101,116]:List UInt8)==[102,108,97,103])=true from h) (by decide)) (λ_=>?_);refine af.bif (λh=>absurd (show(([115,101,116]:List UInt8)==[110,117,109])=true from h) (by decide)) (λ_=>?_);refine af.bif (λ_=>?_) (λh=>absurd (show(([115,101,116]:List UInt8)==[115,101,116])=false from h) (by decide));refine af.cx (λ_ h=>h.elim) (qx (by simp) h0 (by simp;exact hk)) (λ_ _=>?_);exact ZL hB hn hl hE hs
include hB in
theorem Vm {w:az} {p:ah} {qs:List (ae×ae)} {es:List (List UInt8×Int×ab×ab)} {a:Int} (h0:w.aP=0) (hk:w.aj.Kind=5) (hp:w.aj.ax[0]? =some p) (hn:qs.length<=1048576) (hl:qs.length=es.length) (h1:∀(i:Nat) q e,qs[i]? =some q->es[i]? =some e->El c e.2.2.1 (aL 3) q.1) (h2:∀(i:Nat) q e,qs[i]? =some q->es[i]? =some e->El c e.2.2.2 (b7 p) q.2):af ((f159 Pf) c ⟨51,dC,0,a,es.map fg⟩ w) (·=⟨24,w,0,[],0,qs.flatMap λq=>[q.1,q.2]⟩) cV:=by
 show af ((f159 Pf) c ⟨51,[109,97,112],0,a,es.map fg⟩ w) _ _;have ha:(f197 Pf) [109,97,112]=some (-1):=by rw[eu,dL];rfl
 rw[ew,dM];refine af.aB ha ?_;refine af.bif (λh=>absurd h (by decide)) (λ_=>?_);refine af.bif (λh=>absurd (show(([109,97,112]:List UInt8)==[102,108,97,103])=true from h) (by decide)) (λ_=>?_);refine af.bif (λh=>absurd (show(([109,97,112]:List UInt8)==[110,117,109])=true from h) (by decide)) (λ_=>?_);refine af.bif (λh=>absurd (show(([109,97,112]:List UInt8)==[115,101,116])=true from h) (by decide)) (λ_=>?_);refine af.bif (λ_=>?_) (λh=>absurd (show(([109,97,112]:List UInt8)==[109,97,112])=false from h) (by decide));refine af.cx (λ_ h=>h.elim) (qx (by simp) h0 (by simp;exact hk)) (λ_ _=>?_);exact ZM hB hp hn hl h1 h2
include hB in
theorem Vn {w:az} {kids:List ae} {es:List (Nat×Int×ab)} {a:Int} (hw:bq B w) (h0:w.aP=0) (h6:w.aj.Kind=6) (hk:kids.length=w.aj.ax.length) (hes:es.length<=kids.length) (hdis:∀(i j:Nat) e e',es[i]? =some e->es[j]? =some e'->e.1=e'.1->i=j) (hlt:∀e∈es,e.1<kids.length) (hE:∀(e:Nat×Int×ab) k p,e∈es->kids[e.1]? =some k->w.aj.ax[e.1]? =some p->El c e.2.2 (b7 p) k) (hR:∀(j:Nat) k p,kids[j]? =some k->w.aj.ax[j]? =some p->(∃e∈es,e.1=j)\/k=⟨6,b7 p,0,[],a,[]⟩):af ((f159 Pf) c ⟨51,dg,0,a,es.map (eZ w.aj.Names)⟩ w) (·=⟨25,w,0,[],0,kids⟩) cV:=by
 show af ((f159 Pf) c ⟨51,[114,101,99],0,a,es.map (eZ w.aj.Names)⟩ w) _ _;have ha:(f197 Pf) [114,101,99]=some (-1):=by rw[eu,dL];rfl
 rw[ew,dM];refine af.aB ha ?_;refine af.bif (λh=>absurd h (by decide)) (λ_=>?_);refine af.bif (λh=>absurd (show(([114,101,99]:List UInt8)==[102,108,97,103])=true from h) (by decide)) (λ_=>?_);refine af.bif (λh=>absurd (show(([114,101,99]:List UInt8)==[110,117,109])=true from h) (by decide)) (λ_=>?_);refine af.bif (λh=>absurd (show(([114,101,99]:List UInt8)==[115,101,116])=true from h) (by decide)) (λ_=>?_);refine af.bif (λh=>absurd (show(([114,101,99]:List UInt8)==[109,97,112])=true from h) (by decide)) (λ_=>?_);refine af.bif (λ_=>?_) (λh=>absurd (show(([114,101,99]:List UInt8)==[114,101,99])=false from h) (by decide));refine af.cx (λ_ h=>h.elim) (qx (by simp) h0 (by simp;exact h6)) (λ_ _=>?_);refine af.aA (WI hB (hw.dy h0).1 (hw.dy h0).2 h6 hk hes hdis hlt hE hR) (λy e=>?_);have e:y=kids:=e;subst e;exact af.ret rfl
theorem px {op:Int} {t:az} {n x':ab} {ks:List Int} {x:ae} (hk:ks.length<9223372036854775807) (hx:El c x' (aL 0) x) (hs:x.ai.aP=0) (hm:x.ai.aj.Kind∈ks):af ((f237 Pf) op t ks c n x') (·=⟨op,t,0,[],0,[x]⟩) cV:=by
 rw[uC,nr];exact Eo (CL hk hx hs hm) (af.ret rfl)
theorem WE {w:az} {x:ae} {x':ab} {a:Int} (hx:El c x' (aL 0) x) (hs:x.ai.aP=0) (hm:x.ai.aj.Kind∈[(2:Int),3]):af ((f159 Pf) c ⟨51,[110,117,109,98,101,114],0,a,[x']⟩ w) (·=⟨31,aL 1,0,[],0,[x]⟩) cV:=by
 have ha:(f197 Pf) [110,117,109,98,101,114]=some 1:=by rw[eu,dL];rfl
 rw[ew,dM];refine af.aB ha ?_;refine af.bif (λ_=>?_) (λh=>absurd h (by decide));refine af.bif (λh=>absurd h (by simp[ab.aD])) (λ_=>?_);refine af.bif (λh=>absurd (show(([110,117,109,98,101,114]:List UInt8)==[102,108,97,103])=true from h) (by decide)) (λ_=>?_);refine af.bif (λh=>absurd (show(([110,117,109,98,101,114]:List UInt8)==[110,117,109])=true from h) (by decide)) (λ_=>?_);refine af.bif (λh=>absurd (show(([110,117,109,98,101,114]:List UInt8)==[115,101,116])=true from h) (by decide)) (λ_=>?_);refine af.bif (λh=>absurd (show(([110,117,109,98,101,114]:List UInt8)==[109,97,112])=true from h) (by decide)) (λ_=>?_);refine af.bif (λh=>absurd (show(([110,117,109,98,101,114]:List UInt8)==[114,101,99])=true from h) (by decide)) (λ_=>?_);refine af.bif (λh=>absurd (show(([110,117,109,98,101,114]:List UInt8)==[112,97,105,114])=true from h) (by decide)) (λ_=>?_);refine af.bif (λh=>absurd (show(([110,117,109,98,101,114]:List UInt8)==[111,110,101])=true from h) (by decide)) (λ_=>?_);refine af.bif (λh=>absurd (show(([110,117,109,98,101,114]:List UInt8)==[119,114,105,116,101])=true from h) (by decide)) (λ_=>?_);refine af.aA (P:=(·=⟨31,aL 1,0,[],0,[x]⟩)) ?_ (λ_ e=>af.ret e);rw[mc,jc];refine af.aB (v:=x') rfl (af.aB (bC 2) (af.aB (bC 1) (af.aB (bC 4) ?_)));refine af.bif (λh=>absurd (show(([110,117,109,98,101,114]:List UInt8)==[115,105,122,101])=true from h) (by decide)) (λ_=>?_);refine af.bif (λh=>absurd (show(([110,117,109,98,101,114]:List UInt8)==[115,117,109])=true from h) (by decide)) (λ_=>?_);refine af.bif (λ_=>?_) (λh=>absurd (show(([110,117,109,98,101,114]:List UInt8)==[110,117,109,98,101,114])=false from h) (by decide));exact af.aA (px (by simp) hx hs hm) (λ_ e=>af.ret e)
theorem aaG {w:az} {x:ae} {x':ab} {a:Int} (hx:El c x' (aL 0) x) (hs:x.ai.aP=0) (hm:x.ai.aj.Kind∈[(1:Int)]):af ((f159 Pf) c ⟨51,[111,110],0,a,[x']⟩ w) (·=⟨32,aL 2,0,[],0,[x]⟩) cV:=by
 have ha:(f197 Pf) [111,110]=some 1:=by rw[eu,dL];rfl
 rw[ew,dM];refine af.aB ha ?_;refine af.bif (λ_=>?_) (λh=>absurd h (by decide));refine af.bif (λh=>absurd h (by simp[ab.aD])) (λ_=>?_);refine af.bif (λh=>absurd (show(([111,110]:List UInt8)==[102,108,97,103])=true from h) (by decide)) (λ_=>?_);refine af.bif (λh=>absurd (show(([111,110]:List UInt8)==[110,117,109])=true from h) (by decide)) (λ_=>?_);refine af.bif (λh=>absurd (show(([111,110]:List UInt8)==[115,101,116])=true from h) (by decide)) (λ_=>?_);refine af.bif (λh=>absurd (show(([111,110]:List UInt8)==[109,97,112])=true from h) (by decide)) (λ_=>?_);refine af.bif (λh=>absurd (show(([111,110]:List UInt8)==[114,101,99])=true from h) (by decide)) (λ_=>?_);refine af.bif (λh=>absurd (show(([111,110]:List UInt8)==[112,97,105,114])=true from h) (by decide)) (λ_=>?_);refine af.bif (λh=>absurd (show(([111,110]:List UInt8)==[111,110,101])=true from h) (by decide)) (λ_=>?_);refine af.bif (λh=>absurd (show(([111,110]:List UInt8)==[119,114,105,116,101])=true from h) (by decide)) (λ_=>?_);refine af.aA (P:=(·=⟨32,aL 2,0,[],0,[x]⟩)) ?_ (λ_ e=>af.ret e);rw[mc,jc];refine af.aB (v:=x') rfl (af.aB (bC 2) (af.aB (bC 1) (af.aB (bC 4) ?_)));refine af.bif (λh=>absurd (show(([111,110]:List UInt8)==[115,105,122,101])=true from h) (by decide)) (λ_=>?_);refine af.bif (λh=>absurd (show(([111,110]:List UInt8)==[115,117,109])=true from h) (by decide)) (λ_=>?_);refine af.bif (λh=>absurd (show(([111,110]:List UInt8)==[110,117,109,98,101,114])=true from h) (by decide)) (λ_=>?_);refine af.bif (λ_=>?_) (λh=>absurd (show(([111,110]:List UInt8)==[111,110])=false from h) (by decide));exact af.aA (px (by simp) hx hs hm) (λ_ e=>af.ret e)
theorem YB {w:az} {x:ae} {x':ab} {a:Int} (hx:El c x' (aL 0) x) (hs:x.ai.aP=0) (hm:x.ai.aj.Kind∈[(5:Int),4,10]):af ((f159 Pf) c ⟨51,[107,101,121,115],0,a,[x']⟩ w) (·=⟨33,aL 4,0,[],0,[x]⟩) cV:=by
 have ha:(f197 Pf) [107,101,121,115]=some 1:=by rw[eu,dL];rfl
 rw[ew,dM];refine af.aB ha ?_;refine af.bif (λ_=>?_) (λh=>absurd h (by decide));refine af.bif (λh=>absurd h (by simp[ab.aD])) (λ_=>?_);refine af.bif (λh=>absurd (show(([107,101,121,115]:List UInt8)==[102,108,97,103])=true from h) (by decide)) (λ_=>?_);refine af.bif (λh=>absurd (show(([107,101,121,115]:List UInt8)==[110,117,109])=true from h) (by decide)) (λ_=>?_);refine af.bif (λh=>absurd (show(([107,101,121,115]:List UInt8)==[115,101,116])=true from h) (by decide)) (λ_=>?_);refine af.bif (λh=>absurd (show(([107,101,121,115]:List UInt8)==[109,97,112])=true from h) (by decide)) (λ_=>?_);refine af.bif (λh=>absurd (show(([107,101,121,115]:List UInt8)==[114,101,99])=true from h) (by decide)) (λ_=>?_);refine af.bif (λh=>absurd (show(([107,101,121,115]:List UInt8)==[112,97,105,114])=true from h) (by decide)) (λ_=>?_);refine af.bif (λh=>absurd (show(([107,101,121,115]:List UInt8)==[111,110,101])=true from h) (by decide)) (λ_=>?_);refine af.bif (λh=>absurd (show(([107,101,121,115]:List UInt8)==[119,114,105,116,101])=true from h) (by decide)) (λ_=>?_);refine af.aA (P:=(·=⟨33,aL 4,0,[],0,[x]⟩)) ?_ (λ_ e=>af.ret e);rw[mc,jc];refine af.aB (v:=x') rfl (af.aB (bC 2) (af.aB (bC 1) (af.aB (bC 4) ?_)));refine af.bif (λh=>absurd (show(([107,101,121,115]:List UInt8)==[115,105,122,101])=true from h) (by decide)) (λ_=>?_);refine af.bif (λh=>absurd (show(([107,101,121,115]:List UInt8)==[115,117,109])=true from h) (by decide)) (λ_=>?_);refine af.bif (λh=>absurd (show(([107,101,121,115]:List UInt8)==[110,117,109,98,101,114])=true from h) (by decide)) (λ_=>?_);refine af.bif (λh=>absurd (show(([107,101,121,115]:List UInt8)==[111,110])=true from h) (by decide)) (λ_=>?_);refine af.bif (λ_=>?_) (λh=>absurd (show(([107,101,121,115]:List UInt8)==[107,101,121,115])=false from h) (by decide));exact af.aA (px (by simp) hx hs hm) (λ_ e=>af.ret e)
theorem WG {w:az} {x:ae} {x':ab} {a:Int} (hx:El c x' (aL 0) x) (hs:x.ai.aP=0) (hm:x.ai.aj.Kind∈[(8:Int),9]):af ((f159 Pf) c ⟨51,[118,97,108,117,101,115],0,a,[x']⟩ w) (·=⟨34,aL 4,0,[],0,[x]⟩) cV:=by
 have ha:(f197 Pf) [118,97,108,117,101,115]=some 1:=by rw[eu,dL];rfl
 rw[ew,dM];refine af.aB ha ?_;refine af.bif (λ_=>?_) (λh=>absurd h (by decide));refine af.bif (λh=>absurd h (by simp[ab.aD])) (λ_=>?_);refine af.bif (λh=>absurd (show(([118,97,108,117,101,115]:List UInt8)==[102,108,97,103])=true from h) (by decide)) (λ_=>?_);refine af.bif (λh=>absurd (show(([118,97,108,117,101,115]:List UInt8)==[110,117,109])=true from h) (by decide)) (λ_=>?_);refine af.bif (λh=>absurd (show(([118,97,108,117,101,115]:List UInt8)==[115,101,116])=true from h) (by decide)) (λ_=>?_);refine af.bif (λh=>absurd (show(([118,97,108,117,101,115]:List UInt8)==[109,97,112])=true from h) (by decide)) (λ_=>?_);refine af.bif (λh=>absurd (show(([118,97,108,117,101,115]:List UInt8)==[114,101,99])=true from h) (by decide)) (λ_=>?_);refine af.bif (λh=>absurd (show(([118,97,108,117,101,115]:List UInt8)==[112,97,105,114])=true from h) (by decide)) (λ_=>?_);refine af.bif (λh=>absurd (show(([118,97,108,117,101,115]:List UInt8)==[111,110,101])=true from h) (by decide)) (λ_=>?_);refine af.bif (λh=>absurd (show(([118,97,108,117,101,115]:List UInt8)==[119,114,105,116,101])=true from h) (by decide)) (λ_=>?_);refine af.aA (P:=(·=⟨34,aL 4,0,[],0,[x]⟩)) ?_ (λ_ e=>af.ret e);rw[mc,jc];refine af.aB (v:=x') rfl (af.aB (bC 2) (af.aB (bC 1) (af.aB (bC 4) ?_)));refine af.bif (λh=>absurd (show(([118,97,108,117,101,115]:List UInt8)==[115,105,122,101])=true from h) (by decide)) (λ_=>?_);refine af.bif (λh=>absurd (show(([118,97,108,117,101,115]:List UInt8)==[115,117,109])=true from h) (by decide)) (λ_=>?_);refine af.bif (λh=>absurd (show(([118,97,108,117,101,115]:List UInt8)==[110,117,109,98,101,114])=true from h) (by decide)) (λ_=>?_);refine af.bif (λh=>absurd (show(([118,97,108,117,101,115]:List UInt8)==[111,110])=true from h) (by decide)) (λ_=>?_);refine af.bif (λh=>absurd (show(([118,97,108,117,101,115]:List UInt8)==[107,101,121,115])=true from h) (by decide)) (λ_=>?_);refine af.bif (λ_=>?_) (λh=>absurd (show(([118,97,108,117,101,115]:List UInt8)==[118,97,108,117,101,115])=false from h) (by decide));exact af.aA (px (by simp) hx hs hm) (λ_ e=>af.ret e)
theorem Vk {w:az} {x:ae} {x':ab} {a:Int} (hx:El c x' (aL 0) x) (hs:x.ai.aP=0) (hm:x.ai.aj.Kind∈[(8:Int),9]):af ((f159 Pf) c ⟨51,[99,111,110,102,108,105,99,116],0,a,[x']⟩ w) (·=⟨37,aL 2,0,[],0,[x]⟩) cV:=by
 have ha:(f197 Pf) [99,111,110,102,108,105,99,116]=some 1:=by rw[eu,dL];rfl
 rw[ew,dM];refine af.aB ha ?_;refine af.bif (λ_=>?_) (λh=>absurd h (by decide));refine af.bif (λh=>absurd h (by simp[ab.aD])) (λ_=>?_);refine af.bif (λh=>absurd (show(([99,111,110,102,108,105,99,116]:List UInt8)==[102,108,97,103])=true from h) (by decide)) (λ_=>?_);refine af.bif (λh=>absurd (show(([99,111,110,102,108,105,99,116]:List UInt8)==[110,117,109])=true from h) (by decide)) (λ_=>?_);refine af.bif (λh=>absurd (show(([99,111,110,102,108,105,99,116]:List UInt8)==[115,101,116])=true from h) (by decide)) (λ_=>?_);refine af.bif (λh=>absurd (show(([99,111,110,102,108,105,99,116]:List UInt8)==[109,97,112])=true from h) (by decide)) (λ_=>?_);refine af.bif (λh=>absurd (show(([99,111,110,102,108,105,99,116]:List UInt8)==[114,101,99])=true from h) (by decide)) (λ_=>?_);refine af.bif (λh=>absurd (show(([99,111,110,102,108,105,99,116]:List UInt8)==[112,97,105,114])=true from h) (by decide)) (λ_=>?_);refine af.bif (λh=>absurd (show(([99,111,110,102,108,105,99,116]:List UInt8)==[111,110,101])=true from h) (by decide)) (λ_=>?_);refine af.bif (λh=>absurd (show(([99,111,110,102,108,105,99,116]:List UInt8)==[119,114,105,116,101])=true from h) (by decide)) (λ_=>?_);refine af.aA (P:=(·=⟨37,aL 2,0,[],0,[x]⟩)) ?_ (λ_ e=>af.ret e);rw[mc,jc];refine af.aB (v:=x') rfl (af.aB (bC 2) (af.aB (bC 1) (af.aB (bC 4) ?_)));refine af.bif (λh=>absurd (show(([99,111,110,102,108,105,99,116]:List UInt8)==[115,105,122,101])=true from h) (by decide)) (λ_=>?_);refine af.bif (λh=>absurd (show(([99,111,110,102,108,105,99,116]:List UInt8)==[115,117,109])=true from h) (by decide)) (λ_=>?_);refine af.bif (λh=>absurd (show(([99,111,110,102,108,105,99,116]:List UInt8)==[110,117,109,98,101,114])=true from h) (by decide)) (λ_=>?_);refine af.bif (λh=>absurd (show(([99,111,110,102,108,105,99,116]:List UInt8)==[111,110])=true from h) (by decide)) (λ_=>?_);refine af.bif (λh=>absurd (show(([99,111,110,102,108,105,99,116]:List UInt8)==[107,101,121,115])=true from h) (by decide)) (λ_=>?_);refine af.bif (λh=>absurd (show(([99,111,110,102,108,105,99,116]:List UInt8)==[118,97,108,117,101,115])=true from h) (by decide)) (λ_=>?_);refine af.bif (λ_=>?_) (λh=>absurd (show(([99,111,110,102,108,105,99,116]:List UInt8)==[99,111,110,102,108,105,99,116])=false from h) (by decide));exact af.aA (px (by simp) hx hs hm) (λ_ e=>af.ret e)
theorem YA {w:az} {x:ae} {x':ab} {a:Int} (hx:El c x' (aL 0) x) (hm:x.ai.aP=4\/(x.ai.aP=0/\x.ai.aj.Kind∈[(4:Int),5,9,10])):af ((f159 Pf) c ⟨51,[115,105,122,101],0,a,[x']⟩ w) (·=⟨29,aL 1,0,[],0,[x]⟩) cV:=by
 have ha:(f197 Pf) [115,105,122,101]=some 1:=by rw[eu,dL];rfl
 rw[ew,dM];refine af.aB ha ?_;refine af.bif (λ_=>?_) (λh=>absurd h (by decide));refine af.bif (λh=>absurd h (by simp[ab.aD])) (λ_=>?_);refine af.bif (λh=>absurd (show(([115,105,122,101]:List UInt8)==[102,108,97,103])=true from h) (by decide)) (λ_=>?_);refine af.bif (λh=>absurd (show(([115,105,122,101]:List UInt8)==[110,117,109])=true from h) (by decide)) (λ_=>?_);refine af.bif (λh=>absurd (show(([115,105,122,101]:List UInt8)==[115,101,116])=true from h) (by decide)) (λ_=>?_);refine af.bif (λh=>absurd (show(([115,105,122,101]:List UInt8)==[109,97,112])=true from h) (by decide)) (λ_=>?_);refine af.bif (λh=>absurd (show(([115,105,122,101]:List UInt8)==[114,101,99])=true from h) (by decide)) (λ_=>?_);refine af.bif (λh=>absurd (show(([115,105,122,101]:List UInt8)==[112,97,105,114])=true from h) (by decide)) (λ_=>?_);refine af.bif (λh=>absurd (show(([115,105,122,101]:List UInt8)==[111,110,101])=true from h) (by decide)) (λ_=>?_);refine af.bif (λh=>absurd (show(([115,105,122,101]:List UInt8)==[119,114,105,116,101])=true from h) (by decide)) (λ_=>?_);refine af.aA (P:=(·=⟨29,aL 1,0,[],0,[x]⟩)) ?_ (λ_ e=>af.ret e);rw[mc,jc];refine af.aB (v:=x') rfl (af.aB (bC 2) (af.aB (bC 1) (af.aB (bC 4) ?_)));refine af.bif (λ_=>?_) (λh=>absurd (show(([115,105,122,101]:List UInt8)==[115,105,122,101])=false from h) (by decide));refine dH hx ?_;refine af.bif (λh4=>?_) (λ_=>af.ret rfl);have hm:x.ai.aP=0/\x.ai.aj.Kind∈[(4:Int),5,9,10]:=by
  rcases hm with h|h
  ·simp[h]at h4
  ·exact h
 refine af.bif (λh=>by simp[hm.1]at h) (λ_=>?_);refine af.aB (kq _ _ (by simp)) ?_;refine af.bif (λh=>?_) (λ_=>af.ret rfl);have h2:=hm.2;simp at h h2;omega
theorem ZK {w:az} {x:ae} {x':ab} {a:Int} {p:ah} (hx:El c x' (aL 0) x) (hs:x.ai.aP=0) (h5:x.ai.aj.Kind=5) (hp:x.ai.aj.ax[0]? =some p) (hk:p.Kind=2\/p.Kind=3):af ((f159 Pf) c ⟨51,[115,117,109],0,a,[x']⟩ w) (·=⟨30,aL 1,0,[],0,[x]⟩) cV:=by
 have ha:(f197 Pf) [115,117,109]=some 1:=by rw[eu,dL];rfl
 rw[ew,dM];refine af.aB ha ?_;refine af.bif (λ_=>?_) (λh=>absurd h (by decide));refine af.bif (λh=>absurd h (by simp[ab.aD])) (λ_=>?_);refine af.bif (λh=>absurd (show(([115,117,109]:List UInt8)==[102,108,97,103])=true from h) (by decide)) (λ_=>?_);refine af.bif (λh=>absurd (show(([115,117,109]:List UInt8)==[110,117,109])=true from h) (by decide)) (λ_=>?_);refine af.bif (λh=>absurd (show(([115,117,109]:List UInt8)==[115,101,116])=true from h) (by decide)) (λ_=>?_);refine af.bif (λh=>absurd (show(([115,117,109]:List UInt8)==[109,97,112])=true from h) (by decide)) (λ_=>?_);refine af.bif (λh=>absurd (show(([115,117,109]:List UInt8)==[114,101,99])=true from h) (by decide)) (λ_=>?_);refine af.bif (λh=>absurd (show(([115,117,109]:List UInt8)==[112,97,105,114])=true from h) (by decide)) (λ_=>?_);refine af.bif (λh=>absurd (show(([115,117,109]:List UInt8)==[111,110,101])=true from h) (by decide)) (λ_=>?_);refine af.bif (λh=>absurd (show(([115,117,109]:List UInt8)==[119,114,105,116,101])=true from h) (by decide)) (λ_=>?_);refine af.aA (P:=(·=⟨30,aL 1,0,[],0,[x]⟩)) ?_ (λ_ e=>af.ret e);rw[mc,jc];refine af.aB (v:=x') rfl (af.aB (bC 2) (af.aB (bC 1) (af.aB (bC 4) ?_)));refine af.bif (λh=>absurd (show(([115,117,109]:List UInt8)==[115,105,122,101])=true from h) (by decide)) (λ_=>?_);refine af.bif (λ_=>?_) (λh=>absurd (show(([115,117,109]:List UInt8)==[115,117,109])=false from h) (by decide));refine af.aA (px (x:=x) (by simp) hx hs (by simp[h5])) (λy e=>?_);subst e;refine af.aB (v:=x) rfl (af.aB hp ?_);refine af.bif (λh2=>?_) (λ_=>af.ret rfl);refine af.bif (λh3=>?_) (λ_=>af.ret rfl);simp at h2 h3;omega
theorem Xt {w:az} {x:ae} {x':ab} {a:Int} {p:ah} (hx:El c x' (aL 0) x) (hs:x.ai.aP=0) (h7:x.ai.aj.Kind=7) (hp:x.ai.aj.ax[0]? =some p):af ((f159 Pf) c ⟨51,[102,105,114,115,116],0,a,[x']⟩ w) (·=⟨35,b7 p,0,[],0,[x]⟩) cV:=by
 have ha:(f197 Pf) [102,105,114,115,116]=some 1:=by rw[eu,dL];rfl
 rw[ew,dM];refine af.aB ha ?_;refine af.bif (λ_=>?_) (λh=>absurd h (by decide));refine af.bif (λh=>absurd h (by simp[ab.aD])) (λ_=>?_);refine af.bif (λh=>absurd (show(([102,105,114,115,116]:List UInt8)==[102,108,97,103])=true from h) (by decide)) (λ_=>?_);refine af.bif (λh=>absurd (show(([102,105,114,115,116]:List UInt8)==[110,117,109])=true from h) (by decide)) (λ_=>?_);refine af.bif (λh=>absurd (show(([102,105,114,115,116]:List UInt8)==[115,101,116])=true from h) (by decide)) (λ_=>?_);refine af.bif (λh=>absurd (show(([102,105,114,115,116]:List UInt8)==[109,97,112])=true from h) (by decide)) (λ_=>?_);refine af.bif (λh=>absurd (show(([102,105,114,115,116]:List UInt8)==[114,101,99])=true from h) (by decide)) (λ_=>?_);refine af.bif (λh=>absurd (show(([102,105,114,115,116]:List UInt8)==[112,97,105,114])=true from h) (by decide)) (λ_=>?_);refine af.bif (λh=>absurd (show(([102,105,114,115,116]:List UInt8)==[111,110,101])=true from h) (by decide)) (λ_=>?_);refine af.bif (λh=>absurd (show(([102,105,114,115,116]:List UInt8)==[119,114,105,116,101])=true from h) (by decide)) (λ_=>?_);refine af.aA (P:=(·=⟨35,b7 p,0,[],0,[x]⟩)) ?_ (λ_ e=>af.ret e);rw[mc,jc];refine af.aB (v:=x') rfl (af.aB (bC 2) (af.aB (bC 1) (af.aB (bC 4) ?_)));refine af.bif (λh=>absurd (show(([102,105,114,115,116]:List UInt8)==[115,105,122,101])=true from h) (by decide)) (λ_=>?_);refine af.bif (λh=>absurd (show(([102,105,114,115,116]:List UInt8)==[115,117,109])=true from h) (by decide)) (λ_=>?_);refine af.bif (λh=>absurd (show(([102,105,114,115,116]:List UInt8)==[110,117,109,98,101,114])=true from h) (by decide)) (λ_=>?_);refine af.bif (λh=>absurd (show(([102,105,114,115,116]:List UInt8)==[111,110])=true from h) (by decide)) (λ_=>?_);refine af.bif (λh=>absurd (show(([102,105,114,115,116]:List UInt8)==[107,101,121,115])=true from h) (by decide)) (λ_=>?_);refine af.bif (λh=>absurd (show(([102,105,114,115,116]:List UInt8)==[118,97,108,117,101,115])=true from h) (by decide)) (λ_=>?_);refine af.bif (λh=>absurd (show(([102,105,114,115,116]:List UInt8)==[99,111,110,102,108,105,99,116])=true from h) (by decide)) (λ_=>?_);refine af.bif (λh=>absurd (show(([102,105,114,115,116]:List UInt8)==[115,101,99,111,110,100])=true from h) (by decide)) (λ_=>?_);refine af.aA (px (x:=x) (by simp) hx hs (by simp[h7])) (λy e=>?_);subst e;refine af.aB (v:=x) rfl (af.aB hp (af.aB (of_eq p) ?_));exact af.ret rfl
theorem WH {w:az} {x:ae} {x':ab} {a:Int} {p:ah} (hx:El c x' (aL 0) x) (hs:x.ai.aP=0) (h7:x.ai.aj.Kind=7) (hp:x.ai.aj.ax[1]? =some p):af ((f159 Pf) c ⟨51,[115,101,99,111,110,100],0,a,[x']⟩ w) (·=⟨36,b7 p,0,[],0,[x]⟩) cV:=by
 have ha:(f197 Pf) [115,101,99,111,110,100]=some 1:=by rw[eu,dL];rfl
 rw[ew,dM];refine af.aB ha ?_;refine af.bif (λ_=>?_) (λh=>absurd h (by decide));refine af.bif (λh=>absurd h (by simp[ab.aD])) (λ_=>?_);refine af.bif (λh=>absurd (show(([115,101,99,111,110,100]:List UInt8)==[102,108,97,103])=true from h) (by decide)) (λ_=>?_);refine af.bif (λh=>absurd (show(([115,101,99,111,110,100]:List UInt8)==[110,117,109])=true from h) (by decide)) (λ_=>?_);refine af.bif (λh=>absurd (show(([115,101,99,111,110,100]:List UInt8)==[115,101,116])=true from h) (by decide)) (λ_=>?_);refine af.bif (λh=>absurd (show(([115,101,99,111,110,100]:List UInt8)==[109,97,112])=true from h) (by decide)) (λ_=>?_);refine af.bif (λh=>absurd (show(([115,101,99,111,110,100]:List UInt8)==[114,101,99])=true from h) (by decide)) (λ_=>?_);refine af.bif (λh=>absurd (show(([115,101,99,111,110,100]:List UInt8)==[112,97,105,114])=true from h) (by decide)) (λ_=>?_);refine af.bif (λh=>absurd (show(([115,101,99,111,110,100]:List UInt8)==[111,110,101])=true from h) (by decide)) (λ_=>?_);refine af.bif (λh=>absurd (show(([115,101,99,111,110,100]:List UInt8)==[119,114,105,116,101])=true from h) (by decide)) (λ_=>?_);refine af.aA (P:=(·=⟨36,b7 p,0,[],0,[x]⟩)) ?_ (λ_ e=>af.ret e);rw[mc,jc];refine af.aB (v:=x') rfl (af.aB (bC 2) (af.aB (bC 1) (af.aB (bC 4) ?_)));refine af.bif (λh=>absurd (show(([115,101,99,111,110,100]:List UInt8)==[115,105,122,101])=true from h) (by decide)) (λ_=>?_);refine af.bif (λh=>absurd (show(([115,101,99,111,110,100]:List UInt8)==[115,117,109])=true from h) (by decide)) (λ_=>?_);refine af.bif (λh=>absurd (show(([115,101,99,111,110,100]:List UInt8)==[110,117,109,98,101,114])=true from h) (by decide)) (λ_=>?_);refine af.bif (λh=>absurd (show(([115,101,99,111,110,100]:List UInt8)==[111,110])=true from h) (by decide)) (λ_=>?_);refine af.bif (λh=>absurd (show(([115,101,99,111,110,100]:List UInt8)==[107,101,121,115])=true from h) (by decide)) (λ_=>?_);refine af.bif (λh=>absurd (show(([115,101,99,111,110,100]:List UInt8)==[118,97,108,117,101,115])=true from h) (by decide)) (λ_=>?_);refine af.bif (λh=>absurd (show(([115,101,99,111,110,100]:List UInt8)==[99,111,110,102,108,105,99,116])=true from h) (by decide)) (λ_=>?_);refine af.bif (λ_=>?_) (λh=>absurd (show(([115,101,99,111,110,100]:List UInt8)==[115,101,99,111,110,100])=false from h) (by decide));refine af.aA (px (x:=x) (by simp) hx hs (by simp[h7])) (λy e=>?_);subst e;refine af.aB (v:=x) rfl (af.aB hp (af.aB (of_eq p) ?_));exact af.ret rfl
