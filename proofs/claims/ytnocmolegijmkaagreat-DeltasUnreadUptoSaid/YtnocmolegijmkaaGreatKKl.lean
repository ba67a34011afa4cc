/- Evaluation of well-typed expressions answers, and with a value of the type. -/
import Derived.Test.YtnocmolegijmkaaGreatKKi
set_option linter.all false
namespace Go.Proofs.YtnocmolegijmkaaGreat
open Go Go.Bw
theorem tJ {D β:Type} {f g:D->β}:∀{l:List D} {j:Nat} {q:D},l[j]? =some q->(l.flatMap λq=>[f q,g q])[2*j]? =some (f q)/\(l.flatMap λq=>[f q,g q])[2*j+1]? =some (g q)
 |a::l,0,q,h=>by
  simp only[jz,aD]at h;subst h;exact⟨rfl,rfl⟩
 |a::l,j+1,q,h=>by
  simp only[mU]at h;exact tJ (l:=l) h
theorem yn {D β:Type} {f g:D->β}:∀{l:List D},(l.flatMap λq=>[f q,g q]).length=2*l.length
 |[]=>rfl
 |a::l=>by
  have:=yn (f:=f) (g:=g) (l:=l);rw[sO,jS,this];simp;omega
def fQ:List (ab×ab)->Nat
 |[]=>0
 |q::l=>cd q.2+fQ l
theorem T2:∀{l:List (ab×ab)},fQ l<=cV (l.flatMap λq=>[q.1,q.2])
 |[]=>by simp[fQ,cV]
 |q::l=>by
  have:=T2 (l:=l);rw[sO,Eb,fQ];simp[cV];omega
theorem IG:∀{a b:List (ab×ab)},fQ (a++b)=fQ a+fQ b
 |[],b=>by simp[fQ]
 |x::a,b=>by rw[jR,fQ,fQ,IG];omega
theorem acF {l:List (ab×ab)} {i:Nat} {q:ab×ab} (h:l[i]? =some q):fQ (l.take (i+1))=fQ (l.take i)+cd q.2:=by
 rw[fB,h,IG];simp[fQ]
theorem aaY {l:List (ab×ab)} {i:Nat}:fQ (l.take i)<=fQ l:=by
 have:fQ l=fQ (l.take i)+fQ (l.drop i):=by rw[<-IG,Dk]
 omega
section
variable {B:Nat} (hB:B<=1048576) {c:cD} (hc:CE B c) {st:ah} {args:List br} (hst:VE c.l st) (bst:BV 1048576 st) (hargs:∀(i:Nat) p,c.params[i]? =some p->∃d,args[i]? =some d/\DV p.a6 d/\d.Names.length<=1048576)
include hB
theorem D0 {l:ai} (hl:l.ok B) (hL:cx l):(f178 Pf) l=some (bot l):=by
 rw[aiA,Ay,RR hB hl hL];rfl
theorem acG {p:ai} {ps:List ah} {v:ah} (hv:v.ak=ps) (hk:p.Kind=2\/p.Kind=3) (hL:cx p) (h:∀x∈ps,VE p x) (hl:ps.length<=274877906944):ae ((f187 Pf) v) (λr=> -1000000000000000<=r/\r<=1000000000000000):=by
 subst hv;rw[aiB,wg];refine dZ (L:=λi s=>(q8 Pf) v s i) (P:=λr=> -1000000000000000<=r/\r<=1000000000000000) (len:=v.ak.length) (λ_ s=> -1000000000000000<=s/\s<=1000000000000000) (λi s hi hI k=>?_) (λs hI=>?_) 0 (0:Int) (by omega) (by omega)
 ·show ae ((q8 Pf) v s i) _;obtain⟨x,hx⟩:=bm hi;have:decide (i<v.ak.length)=true:=by simpa using hi
  rw[T3,ub,ah.aF,aW,this,aB,a7 hx,ax,bO i (by omega)];exact ae.bind (T4 _) (λy hy=>k y hy)
 ·show ae ((q8 Pf) v s v.ak.length) _;have:decide (v.ak.length<v.ak.length)=false:=by simp
  rw[T3,ub,ah.aF,aW,this,aC];exact ae.ret hI
include hc hst bst hargs
theorem Ev {x:ab} {w:aP} (h:W c.l c.params x w):TT B x->cd x<=60000->ae ((f86 Pf) ⟨st,args⟩ x) (RV x.aO (cd x*1048576)):=by
 have one:∀{x:ab},1048576<=cd x*1048576:=λ{x}=>by rw[q7];omega
 have k1:∀{o:Int} {t:aP} {n:Int} {tx:List UInt8} {a:Int} {x:ab},cd x<cd ⟨o,t,n,tx,a,[x]⟩:=λ{o t n tx a x}=>adJ (by simp);have k2:∀{o:Int} {t:aP} {n:Int} {tx:List UInt8} {a:Int} {x y:ab},cd x+cd y<cd ⟨o,t,n,tx,a,[x,y]⟩:=λ{o t n tx a x y}=>by rw[cd];simp only[cV];omega
 have k3:∀{o:Int} {t:aP} {n:Int} {tx:List UInt8} {a:Int} {x y z:ab},cd x+cd y+cd z<cd ⟨o,t,n,tx,a,[x,y,z]⟩:=λ{o t n tx a x y z}=>by rw[cd];simp only[cV];omega
 have jn:∀{t:aP} {u v:ah} {m n:Nat},bw B t->t.a6=0->64<=m->m<=137438953472->n<=137438953472->VE t.aJ u->VE t.aJ v->BV m u->BV n v->ae ((f43 Pf) t.aJ u v) (λr=>VE t.aJ r.1/\BV (m+n) r.1):=λht hs h0 h1 h2 hu hv bu bv=>
  (IF hB (ht.dE hs).2 (ht.dE hs).1 hu hv (bu.mono h1) (bv.mono h2)).mono λr hr=>⟨hr.2.1.ve,hr.2.2 _ _ h0 bu bv⟩
 have lq:∀{t:aP} {u v:ah} {m n:Nat},bw B t->t.a6=0->m<=137438953472->n<=137438953472->VE t.aJ u->VE t.aJ v->BV m u->BV n v->∃r,(f19 Pf) t.aJ u v=some r:=λht hs h1 h2 hu hv bu bv=>by
  obtain⟨r,e,_⟩:=aff hB (ht.dE hs).2 (ht.dE hs).1 hu hv (hu.sv (by omega) bu) (hv.sv (by omega) bv);exact⟨r,e⟩
 induction h with
 |int h0 h1 _=>
  intro _ _;refine uc (by show(1:Int)<=6;decide) ?_;rw[sq,mL];simp only[Int.reduceBEq,aB,aC];exact ae.id (zd h0 h1)
 |bool _ _=>
  intro _ _;refine uc (by show(2:Int)<=6;decide) ?_;rw[sq,mL];simp only[Int.reduceBEq,aB,aC];exact ae.id jC
 |name hn _=>
  intro _ _;refine uc (by show(3:Int)<=6;decide) ?_;rw[sq,mL];simp only[Int.reduceBEq,aB,aC];exact ae.ret (.d (by show(3:Int)≠0;decide) (.name (Jl.2 hn)) (by simp))
 |param hp _=>
  intro _ _;refine uc (by show(4:Int)<=6;decide) ?_;rw[sq,mL];simp only[Int.reduceBEq,aB,aC];obtain⟨d,hd,dv,dn⟩:=hargs _ _ hp;have hs:=hc.par _ (aY hp);rw[a7 hd,ax];exact ae.ret (.d (by show _≠(0:Int);simp only[bo];omega) dv (iO dn one))
 |state _=>
  intro _ _;refine uc (by show(5:Int)<=6;decide) ?_;rw[sq,mL];simp only[Int.reduceBEq,aB,aC];exact ae.ret (.v rfl hst (bst.mono one))
 |rC h0 hn=>
  intro ht _;refine uc (by show(6:Int)<=6;decide) ?_;rw[sq,mL];simp only[Int.reduceBEq,aB,aC];have hl:=ht.ty.dE h0;rw[D0 hB hl.2 hl.1,ax];exact ae.ret (.v h0 (u0 hl.1) ((zW hB _ hl.2).mono one))
 | @oJ cc x y a w hn wc wx wy ic ix iy=>
  intro ht hk;have h3:= @k3 7 w 0 [] a cc x y;have ec:=wc.ty (by rfl);have ex:=wx.ty hn;have ey:=wy.ty hn;have ic:=ic (ht.bM (by simp)) (by omega);have ix:=ix (ht.bM (by simp)) (by omega);have iy:=iy (ht.bM (by simp)) (by omega);rw[ec]at ic;rw[ex]at ix;rw[ey]at iy;refine kD (by show(7:Int)<=7;decide) (by show(7:Int)<=18;decide) ?_;rw[jL,gO];simp only[Int.reduceBEq,aB,aC];refine ae.bind (ei rfl ic) (λy3 h3'=>?_);exact ae.bif (λ_=>ae.id (ei rfl (ix.mono λr hr=>hr.mono (gm _ (by omega))))) (λ_=>ae.id (ei rfl (iy.mono λr hr=>hr.mono (gm _ (by omega)))))
 | @v7 cc x y a w hn wc wx wy ic ix iy=>
  intro ht hk;have h3:= @k3 7 x.aO 0 [] a cc x y;have ec:=wc.ty (by rfl);have tx:=(ht.bM (k:=x) (by simp)).ty;have ey:=wy.ty tx.dP;have ic:=ic (ht.bM (by simp)) (by omega);have ix:=ix (ht.bM (by simp)) (by omega);have iy:=iy (ht.bM (by simp)) (by omega);rw[ec]at ic;rw[ey]at iy;refine kD (by show(7:Int)<=7;decide) (by show(7:Int)<=18;decide) ?_;rw[jL,gO];simp only[Int.reduceBEq,aB,aC];refine ae.bind (ei rfl ic) (λy3 h3'=>?_);exact ae.bif (λ_=>ae.id (ei rfl (ix.mono λr hr=>hr.mono (gm _ (by omega))))) (λ_=>ae.id (ei rfl (iy.mono λr hr=>hr.mono (gm _ (by omega)))))
 | @v8 cc x y a w hn wc wy wx ic iy ix=>
  intro ht hk;have h3:= @k3 7 x.aO 0 [] a cc x y;have ec:=wc.ty (by rfl);have ty:=(ht.bM (k:=y) (by simp)).ty;have ex:=wx.ty ty.dP;have ic:=ic (ht.bM (by simp)) (by omega);have ix:=ix (ht.bM (by simp)) (by omega);have iy:=iy (ht.bM (by simp)) (by omega);rw[ec]at ic;rw[<-ex]at iy;refine kD (by show(7:Int)<=7;decide) (by show(7:Int)<=18;decide) ?_;rw[jL,gO];simp only[Int.reduceBEq,aB,aC];refine ae.bind (ei rfl ic) (λy3 h3'=>?_);exact ae.bif (λ_=>ae.id (ei rfl (ix.mono λr hr=>hr.mono (gm _ (by omega))))) (λ_=>ae.id (ei rfl (iy.mono λr hr=>hr.mono (gm _ (by omega)))))
 | @conn op x y a w ho wx wy _ ix iy=>
  intro ht hk;have h3:= @k2 op (bo 2) 0 [] a x y;have ex:=wx.ty (by rfl);have ey:=wy.ty (by rfl);have ix:=ix (ht.bM (by simp)) (by omega);have iy:=iy (ht.bM (by simp)) (by omega);rw[ex]at ix;rw[ey]at iy;refine kD (by show(7:Int)<=op;omega) (by show op<=18;omega) ?_;rw[jL,gO];rcases ho with rfl|rfl<;>simp only[Int.reduceBEq,aB,aC]
  ·refine ae.bind (ei rfl ix) (λy3 h3'=>ae.bif (λ_=>ae.id jC) (λ_=>?_));exact ae.bind (ei rfl iy) (λ_ _=>ae.id jC)
  ·refine ae.bind (ei rfl ix) (λy3 h3'=>ae.bif (λ_=>?_) (λ_=>ae.id jC));exact ae.bind (ei rfl iy) (λ_ _=>ae.id jC)
 | @not x a w wx _ ix=>
  intro ht hk;have h3:= @k1 10 (bo 2) 0 [] a x;have ix:=ix (ht.bM (by simp)) (by omega);refine kD (by show(7:Int)<=10;decide) (by show(10:Int)<=18;decide) ?_;rw[jL,gO];simp only[Int.reduceBEq,aB,aC];exact ae.bind (ei rfl ix) (λ_ _=>ae.id jC)
 | @less op x y a w ho wx wy _ ix iy=>
  intro ht hk;have h3:= @k2 op (bo 2) 0 [] a x y;have ix:=ix (ht.bM (by simp)) (by omega);have iy:=iy (ht.bM (by simp)) (by omega);refine kD (by show(7:Int)<=op;omega) (by show op<=18;omega) ?_;rw[jL,gO];rcases ho with rfl|rfl<;>simp only[Int.reduceBEq,aB,aC]<;>exact ae.bind (ei rfl ix) (λ_ _=>ae.bind (ei rfl iy) (λ_ _=>ae.id jC))
 | @equal x y a w wx hs wy _ ix iy=>
  intro ht hk;have h3:= @k2 13 (bo 2) 0 [] a x y;have tx:=(ht.bM (k:=x) (by simp)).ty;have ey:=wy.ty tx.dP;have ix:=ix (ht.bM (by simp)) (by omega);have iy:=iy (ht.bM (by simp)) (by omega);rw[ey]at iy;refine kD (by show(7:Int)<=13;decide) (by show(13:Int)<=18;decide) ?_;rw[jL,gO];simp only[Int.reduceBEq,aB,aC];refine ae.bind (ei rfl ix) (λy1 h1=>ae.bind (ei rfl iy) (λy2 h2=>?_));obtain⟨d1,rfl,_,n1⟩:=h1.dK hs;obtain⟨d2,rfl,_,n2⟩:=h2.dK hs;refine ae.bif (λ_=>ae.bif (λ_=>?_) (λ_=>ae.id jC)) (λ_=>ae.id jC);obtain⟨r,e,_⟩:=adK (a:=d1.Names) (b:=d2.Names) (by omega) (by omega);rw[e,ax];exact ae.id jC
 | @Az x y a w wx wy _ ix iy=>
  intro ht hk;have h3:= @k2 14 (bo 2) 0 [] a x y;have ey:=wy.ty (by rfl);have ix:=ix (ht.bM (by simp)) (by omega);have iy:=iy (ht.bM (by simp)) (by omega);rw[ey]at iy;refine kD (by show(7:Int)<=14;decide) (by show(14:Int)<=18;decide) ?_;rw[jL,gO];simp only[Int.reduceBEq,aB,aC];refine ae.bind (ei rfl iy) (λy2 h2=>ae.bind (ei rfl ix) (λy1 h1=>?_));obtain⟨ns,rfl,_,_,nl⟩:=h2.set
  rw[has_eq _ _ (by show ns.length<_;omega),ax];exact ae.id jC
 | @AA x y a w wx hs wy _ ix iy=>
  intro ht hk;have h3:= @k2 15 (bo 2) 0 [] a x y;have tx:=(ht.bM (k:=x) (by simp)).ty;have ey:=wy.ty tx.dP;have ix:=ix (ht.bM (by simp)) (by omega);have iy:=iy (ht.bM (by simp)) (by omega);rw[ey]at iy;refine kD (by show(7:Int)<=15;decide) (by show(15:Int)<=18;decide) ?_;rw[jL,gO];simp only[Int.reduceBEq,aB,aC];rw[eH,ax];refine ae.bind (ei rfl ix) (λy1 h1=>ae.bind (ei rfl iy) (λy2 h2=>?_));obtain⟨v1,rfl,v2,v3⟩:=h1.val hs;obtain⟨u1,rfl,u2,u3⟩:=h2.val hs;obtain⟨r,e⟩:=lq tx hs (by omega) (by omega) v2 u2 v3 u3;rw[e,ax];exact ae.id jC
 | @AB x y a w wy hs wx _ iy ix=>
  intro ht hk;have h3:= @k2 15 (bo 2) 0 [] a x y;have ty:=(ht.bM (k:=y) (by simp)).ty;have ex:=wx.ty ty.dP;have ix:=ix (ht.bM (by simp)) (by omega);have iy:=iy (ht.bM (by simp)) (by omega);rw[<-ex]at iy hs ty;refine kD (by show(7:Int)<=15;decide) (by show(15:Int)<=18;decide) ?_;rw[jL,gO];simp only[Int.reduceBEq,aB,aC];rw[eH,ax];refine ae.bind (ei rfl ix) (λy1 h1=>ae.bind (ei rfl iy) (λy2 h2=>?_));obtain⟨v1,rfl,v2,v3⟩:=h1.val hs;obtain⟨u1,rfl,u2,u3⟩:=h2.val hs;obtain⟨r,e⟩:=lq ty hs (by omega) (by omega) v2 u2 v3 u3;rw[e,ax];exact ae.id jC
 | @qe x y a w hn hs wx wy ix iy=>
  intro ht hk;have h3:= @k2 16 w 0 [] a x y;have ex:=wx.ty hn;have ey:=wy.ty hn;have ix:=ix (ht.bM (by simp)) (by omega);have iy:=iy (ht.bM (by simp)) (by omega);rw[ex]at ix;rw[ey]at iy;have tt:bw B w:=ht.ty;refine kD (by show(7:Int)<=16;decide) (by show(16:Int)<=18;decide) ?_;rw[jL,gO];simp only[Int.reduceBEq,aB,aC];refine ae.bind (ei rfl ix) (λy1 h1=>ae.bind (ei rfl iy) (λy2 h2=>?_));obtain⟨v1,rfl,v2,v3⟩:=h1.val hs;obtain⟨u1,rfl,u2,u3⟩:=h2.val hs;have:= @one x;refine ae.bind (jn tt hs (by omega) (by omega) (by omega) v2 u2 v3 u3) (λy hy=>ae.ret (.v hs hy.1 (hy.2.mono ?_)));rw[<-iN];exact gm _ (by omega)
 | @vK x y a w hn wx hs wy ix iy=>
  intro ht hk;have h3:= @k2 16 x.aO 0 [] a x y;have tx:=(ht.bM (k:=x) (by simp)).ty;have ey:=wy.ty tx.dP;have ix:=ix (ht.bM (by simp)) (by omega);have iy:=iy (ht.bM (by simp)) (by omega);rw[ey]at iy;refine kD (by show(7:Int)<=16;decide) (by show(16:Int)<=18;decide) ?_;rw[jL,gO];simp only[Int.reduceBEq,aB,aC];refine ae.bind (ei rfl ix) (λy1 h1=>ae.bind (ei rfl iy) (λy2 h2=>?_));obtain⟨v1,rfl,v2,v3⟩:=h1.val hs;obtain⟨u1,rfl,u2,u3⟩:=h2.val hs;have:= @one x;refine ae.bind (jn tx hs (by omega) (by omega) (by omega) v2 u2 v3 u3) (λy hy=>ae.ret (.v hs hy.1 (hy.2.mono ?_)));rw[<-iN];exact gm _ (by omega)
 | @vL x y a w hn wy hs wx iy ix=>
  intro ht hk;have h3:= @k2 16 x.aO 0 [] a x y;have ty:=(ht.bM (k:=y) (by simp)).ty;have ex:=wx.ty ty.dP;have ix:=ix (ht.bM (by simp)) (by omega);have iy:=iy (ht.bM (by simp)) (by omega);rw[<-ex]at iy hs ty;refine kD (by show(7:Int)<=16;decide) (by show(16:Int)<=18;decide) ?_;rw[jL,gO];simp only[Int.reduceBEq,aB,aC];refine ae.bind (ei rfl ix) (λy1 h1=>ae.bind (ei rfl iy) (λy2 h2=>?_));obtain⟨v1,rfl,v2,v3⟩:=h1.val hs;obtain⟨u1,rfl,u2,u3⟩:=h2.val hs;have:= @one x;refine ae.bind (jn ty hs (by omega) (by omega) (by omega) v2 u2 v3 u3) (λy hy=>ae.ret (.v hs hy.1 (hy.2.mono ?_)));rw[<-iN];exact gm _ (by omega)
 | @qn op x y a w ho wx wy _ ix iy=>
  intro ht hk;have h3:= @k2 op (bo 1) 0 [] a x y;have ix:=ix (ht.bM (by simp)) (by omega);have iy:=iy (ht.bM (by simp)) (by omega);refine kD (by show(7:Int)<=op;omega) (by show op<=18;omega) ?_;rw[jL,gO];rcases ho with rfl|rfl<;>simp only[Int.reduceBEq,aB,aC]<;>exact ae.bind (ei rfl ix) (λ_ _=>ae.bind (ei rfl iy) (λ_ _=>ae.bind (T4 _) (λz hz=>ae.id (zd hz.1 hz.2))))
 | @field x i p a w wx hs hk6 hi hp _ ix=>
  intro ht hk;have h3:= @k1 19 (dc p) i [] a x;have ix:=ix (ht.bM (by simp)) (by omega);refine Jm (.inl rfl) ?_;rw[Lr,sr];simp only[Int.reduceBEq,aB,aC];rw[eH,ax];refine ae.bind ix (λy1 h1=>?_);obtain⟨v1,rfl,v2,v3⟩:=h1.val hs;obtain⟨ps,rfl,hl,hv⟩:=v2.k6 (.inl hk6);obtain⟨z,hz⟩:=bm (l:=ps) (i:=i) (by have:=(cr.1 hp).1;omega);show ae ((aq ps (i:Int)).bind _) _;rw[a7 hz,ax];exact ae.ret (.v rfl (hv i z p hz hp) ((v3.part (aY hz)).mono (gm _ (by omega))))
 | @at_ x k p a w wx hs hk5 hp wk _ ix ik=>
  intro ht hk;have h3:= @k2 20 (dc p) 0 [] a x k;have ek:=wk.ty (by rfl);have ix:=ix (ht.bM (by simp)) (by omega);have ik:=ik (ht.bM (by simp)) (by omega);rw[ek]at ik;have tx:=(ht.bM (k:=x) (by simp)).ty;refine Jm (.inr (.inl rfl)) ?_;rw[Lr,sr];simp only[Int.reduceBEq,aB,aC];rw[eH,ax];refine ae.bind ix (λy1 h1=>?_);obtain⟨v1,rfl,v2,v3⟩:=h1.val hs;obtain⟨q,ns,ps,hq,rfl,hN,hlen,hv,_⟩:=v2.k5 hk5;rw[hq]at hp;simp only[jz,aD]at hp;subst hp;have qL:=(tx.dE hs).1.part (p:=q) (by rw[hq];simp);have qo:=ue (tx.dE hs).2 (p:=q) (by rw[hq];simp);rw[show aq [x,k] 1=some k from rfl,ax];refine ae.bind ik (λy2 h2=>?_);obtain⟨s,rfl,_⟩:=h2.name;have hn:=v3.names;simp only at hn⊢;rcases xJ (a:=ns) (x:=s) (by omega)with⟨e1,_⟩|⟨j,e1,e2⟩
  ·rw[e1,ax,dH (by decide),aC];show ae (((f178 Pf) q).bind _) _;rw[D0 hB qo qL,ax];exact ae.ret (.v rfl (u0 qL) ((zW hB _ qo).mono one))
  ·obtain⟨z,hz⟩:=lN hlen e2;rw[e1,ax,dN (by omega),aB,a7 hz,ax];exact ae.ret (.v rfl (hv z (aY hz)) ((v3.part (aY hz)).mono (gm _ (by omega))))
 | @flag x a w h0 hk1 wx ix=>
  intro ht hk;have h3:= @k1 21 w 0 [] a x;have ex:=wx.ty (by rfl);have ix:=ix (ht.bM (by simp)) (by omega);rw[ex]at ix;refine pV (by show(21:Int)<=21;decide) (by show(21:Int)<=28;decide) ?_;rw[lZ,jK];simp only[Int.reduceBEq,aB,aC];refine ae.bind (mr rfl ix) (λy1 h1=>?_);obtain⟨n,rfl,hn⟩:=h1.bool;exact ae.ret (.v h0 (.flag hk1 hn) (.mk (by simp) (by simp) (by simp) (by simp) (by simp)))
 | @num x a w h0 hk1 wx ix=>
  intro ht hk;have h3:= @k1 22 w 0 [] a x;have ix:=ix (ht.bM (by simp)) (by omega);have tw:bw B w:=ht.ty;have hr:=(tw.dE h0).1.range;refine pV (by show(21:Int)<=22;decide) (by show(22:Int)<=28;decide) ?_;rw[lZ,jK];simp only[Int.reduceBEq,aB,aC];refine ae.bind (mr rfl ix) (λy1 h1=>ae.ret (.v h0 (.num hk1 ?_ ?_) (.mk (by simp) (by simp) (by simp) (by simp) (by simp))))
  ·split<;>split<;>omega
  ·split<;>split<;>omega
 | @one x a w h0 hk8 wx ix=>
  intro ht hk;have h3:= @k1 27 w 0 [] a x;have ex:=wx.ty (by rfl);have ix:=ix (ht.bM (by simp)) (by omega);rw[ex]at ix;have tw:bw B w:=ht.ty;have tl:=tw.dE h0;have hn:w.aJ.Names.length<=B:=by have:=tl.2;rw[ai.dA]at this;exact this.2.2.2.1.1
  refine pV (by show(21:Int)<=27;decide) (by show(27:Int)<=28;decide) ?_;rw[lZ,jK];simp only[Int.reduceBEq,aB,aC];refine ae.bind (mr rfl ix) (λy1 h1=>?_);obtain⟨s,rfl,hs⟩:=h1.name;rw[DL (by omega),ax];refine ae.bif (λ_=>?_) (λh=>?_)
  ·rw[D0 hB tl.2 tl.1,ax];exact ae.ret (.v h0 (u0 tl.1) ((zW hB _ tl.2).mono one))
  ·have h:=Ec.1 (by simpa using h);exact ae.ret (.v h0 (.Kc hk8 ⟨by simp[rising],λz hz=>by simp at hz;subst hz;exact⟨hs,h⟩⟩) (.mk (by simp;omega) (by simp) (by simp) (by simp) (by simp)))
 | @write x y z a w wx wy wz _ ix iy iz=>
  intro ht hk;have h3:= @k3 28 (dc fx) 0 [] a x y z;have ex:=wx.ty (by rfl);have ez:=wz.ty (by rfl);have ix:=ix (ht.bM (by simp)) (by omega);have iy:=iy (ht.bM (by simp)) (by omega);have iz:=iz (ht.bM (by simp)) (by omega);rw[ex]at ix;rw[ez]at iz;refine pV (by show(21:Int)<=28;decide) (by show(28:Int)<=28;decide) ?_;rw[lZ,jK];simp only[Int.reduceBEq,aB,aC];refine ae.bind (mr rfl ix) (λy1 h1=>ae.bind (mr rfl iy) (λy2 h2=>ae.bind (mr rfl iz) (λy3 h3'=>?_)));obtain⟨v1,rfl,v2,v3⟩:=h1.val rfl;obtain⟨s,rfl,hs⟩:=h3'.name;have:= @one x;have hz:1<=cd z:=by rw[q7];omega
  refine ae.bind (acH hB (by omega) (by omega) (EU B) v2 v3 hs) (λr hr=>ae.ret (.v rfl hr.1 (hr.2.mono ?_)));have:cd x*1048576+64<=(cd x+cd z)*1048576:=by rw[iN];omega
  exact iO this (gm _ (by omega))
 | @size x a w wx hsz _ ix=>
  intro ht hk;have h3:= @k1 29 (bo 1) 0 [] a x;have ix:=ix (ht.bM (by simp)) (by omega);refine JI (.inl ⟨by show(29:Int)<=29;decide,by show(29:Int)<=34;decide⟩) ?_;rw[Ls,sw];simp only[Int.reduceBEq,aB,aC];rw[eH,ax];refine ae.bind ix (λy1 h1=>?_);have hb:y1.d.Names.length<=cd x*1048576/\y1.v.Names.length<=cd x*1048576/\y1.v.Entries.length<=cd x*1048576:=by
   cases h1 with
   |v _ _ b=>exact⟨by simp[zD],b.names,b.entries⟩
   |d _ _ b=>exact⟨b,by simp[zV],by simp[zV]⟩
  have e:(f186 Pf) y1=some (((y1.d.Names.length+y1.v.Names.length+y1.v.Entries.length:Nat):Int)):=by
   rw[aiC,AD,bH,bH,az.aF,wrap64 (x:=(y1.d.Names.length:Int)+_) (by omega) (by omega),wrap64 (by omega) (by omega)];congr 1
  rw[e,ax];exact ae.id (zd (by omega) (by omega))
 | @sum x p a w wx hs hk5 hp hpk _ ix=>
  intro ht hk;have h3:= @k1 30 (bo 1) 0 [] a x;have ix:=ix (ht.bM (by simp)) (by omega);have tx:=(ht.bM (k:=x) (by simp)).ty;refine JI (.inl ⟨by show(29:Int)<=30;decide,by show(30:Int)<=34;decide⟩) ?_;rw[Ls,sw];simp only[Int.reduceBEq,aB,aC];rw[eH,ax];refine ae.bind ix (λy1 h1=>?_);obtain⟨v1,rfl,v2,v3⟩:=h1.val hs;obtain⟨q,ns,ps,hq,rfl,hN,hlen,hv,_⟩:=v2.k5 hk5;rw[hq]at hp;simp only[jz,aD]at hp;subst hp;have qL:=(tx.dE hs).1.part (p:=q) (by rw[hq];simp);have:=v3.parts;simp only at this;exact ae.bind (acG hB (ps:=ps) rfl hpk qL hv (by omega)) (λr hr=>ae.id (zd hr.1 hr.2))
 | @part op i x p a w ho wx hs hk7 hp _ ix=>
  intro ht hk;have h3:= @k1 op (dc p) 0 [] a x;have ix:=ix (ht.bM (by simp)) (by omega);refine Jm (by show op=19\/op=20\/op=35\/op=36;omega) ?_;have fin:∀y1,RV x.aO (cd x*1048576) y1->ae ((aq y1.v.ak (i:Int)).bind λx8=>some (⟨⟨0,0,[],[]⟩,x8⟩:bP)) (RV (dc p) (cd ⟨op,dc p,0,[],a,[x]⟩*1048576)):=by
   intro y1 h1;obtain⟨v1,rfl,v2,v3⟩:=h1.val hs;obtain⟨ps,rfl,hl,hv⟩:=v2.k6 (.inr hk7);obtain⟨z,hz⟩:=bm (l:=ps) (i:=i) (by have:=(cr.1 hp).1;omega);show ae ((aq ps (i:Int)).bind _) _;rw[a7 hz,ax];exact ae.ret (.v rfl (hv i z p hz hp) ((v3.part (aY hz)).mono (gm _ (by omega))))
  rw[Lr,sr];rcases ho with⟨rfl,rfl⟩|⟨rfl,rfl⟩<;>simp only[Int.reduceBEq,aB,aC]
  ·rw[eH,ax];exact ae.bind ix fin
  ·rw[eH,ax];exact ae.bind ix fin
 | @sL op x s ks a w hm wx hs hkk _ ix=>
  intro ht hk;have h3:= @k1 op (bo s) 0 [] a x;have ix:=ix (ht.bM (by simp)) (by omega);have tx:=(ht.bM (k:=x) (by simp)).ty;have hr:=(tx.dE hs).1.range;simp only[ck,cM,aas,or_false]at hm;have le:cd x*1048576<=cd ⟨op,bo s,0,[],a,[x]⟩*1048576:=gm _ (by omega);have clone:∀ns:List (List UInt8),ns.length<=cd x*1048576->rising ns=true->(∀z∈ns,dw z=true)->ae (((f129 Pf) ns).bind λy15=>((f188 Pf) y15).bind λy16=>some y16) (RV (bo 4) (cd ⟨op,bo s,0,[],a,[x]⟩*1048576)):=by
   intro ns h1 h2 h3;rw[show(f129 Pf) ns=some ns by rw[FZ];exact nf (by omega),ax,XV,wh];exact ae.ret (.d (by decide) (.set h2 h3) (iO h1 le))
  refine JI (by show(29<=op/\op<=34)\/op=37;omega) ?_;rw[Ls,sw];rcases hm with⟨rfl,rfl,rfl⟩|⟨rfl,rfl,rfl⟩|⟨rfl,rfl,rfl⟩|⟨rfl,rfl,rfl⟩|⟨rfl,rfl,rfl⟩<;>simp only[Int.reduceBEq,aB,aC]<;>simp only[ck,aas,or_false]at hkk<;>simp only[eH,ax]<;>refine ae.bind ix (λy1 h1=>?_)<;>obtain⟨v1,rfl,v2,v3⟩:=h1.val hs
  ·obtain⟨n,rfl,n1,n2⟩:=v2.k2 hkk;exact ae.id (zd (by show _<=n;omega) (by show n<=_;omega))
  ·exact ae.id jC
  ·rcases hkk with h5|hkk
   ·obtain⟨q,ns,ps,hq,rfl,hN,_⟩:=v2.k5 h5;exact clone ns v3.names hN.1 λz hz=>(hN.2 z hz).1
   ·obtain⟨ns,rfl,hN,_⟩:=v2.k4 hkk;exact clone ns v3.names hN.1 λz hz=>(hN.2 z hz).1
  ·rcases hkk with h8|h9
   ·rw[h8];simp only[Int.reduceBEq,aC];rcases v2.k8 h8 with⟨n,rfl,_⟩|⟨z,rfl,hN⟩
    ·exact clone [] (by simp) rfl (by simp)
    ·exact clone [z] v3.names hN.1 λz hz=>(hN.2 z hz).1
   ·rw[h9];simp only[Int.reduceBEq,aB];obtain⟨es,rfl,hE⟩:=v2.k9 h9;have he:=v3.entries;simp only at he;refine ae.bind (Rc (v:=⟨0,[],[],es⟩) (by simp only;omega)) (λr hr=>?_);rw[XV,wh];refine ae.ret (.d (by decide) (.set hr.1 λz hz=>?_) (iO hr.2.1 (iO he le)));obtain⟨e,he,rfl⟩:=(hr.2.2 z).1 hz;exact(hE.1 e he).2.2
  ·refine ae.bif (λ_=>ae.id jC) (λ_=>?_);refine ae.bind (Rc (v:=v1) (by have:=v3.entries;omega)) (λr hr=>?_);exact ae.id jC
 | @AF kids a w h0 hkk _ wk hso ik=>
  intro ht hk;have tw:bw B w:=ht.ty;have tl:=tw.dE h0;have hlo:=tl.2;rw[ai.dA]at hlo;have hLn:w.aJ.Names.length<=B:=hlo.2.2.2.1.1;have ce:cd ⟨23,w,0,[],a,kids⟩=1+cV kids:=by rw[cd]
  rw[ce]at hk⊢;refine pV (by show(21:Int)<=23;decide) (by show(23:Int)<=28;decide) ?_;rw[lZ,jK];simp only[Int.reduceBEq,aB,aC];have hkl:kids.length<=cV kids:=tv;have main:ae ((f183 Pf) ⟨st,args⟩ ⟨23,w,0,[],a,kids⟩) (λr=>VE w.aJ ⟨0,r,[],[]⟩/\r.length<=1048576*(1+cV kids)):=by
   rw[aiD,wi];refine dZ (L:=λi s=>(nk Pf) ⟨st,args⟩ ⟨23,w,0,[],a,kids⟩ s i) (P:=λr=>VE w.aJ ⟨0,r,[],[]⟩/\r.length<=1048576*(1+cV kids)) (len:=kids.length) (λi s=>s.length<=1048576*cV (kids.take i)/\∀z∈s,dw z=true) (λi s hi hI k=>?_) (λs hI=>?_) 0 [] (by omega) ⟨by simp,by simp⟩
   ·show ae ((nk Pf) ⟨st,args⟩ ⟨23,w,0,[],a,kids⟩ s i) _;obtain⟨x,hx⟩:=bm hi;have hm:=aY hx;have hcx:=od hm;have ht':=Rb hx;have hle:= @aaL kids (i+1);have ix:=ik x hm (ht.bM hm) (by omega);have hx1:1<=cd x:=by rw[q7];omega
    have hsx:=hso x hm;have:decide (i<kids.length)=true:=by simpa using hi
    rw[T5,uf,F1];simp only[ab.aF];rw[aW,this,aB,a7 hx,ax,bO i (by omega)];refine ae.bind ix (λy hy=>?_);obtain⟨d,rfl,hd,hdn⟩:=hy.dK (by rcases hsx with h|h<;>omega);rcases hsx with h|h
    ·rw[h]at hd;obtain⟨z0,rfl,gn⟩:∃z0,d=⟨3,0,z0,[]⟩/\dw z0=true:=by cases hd with|name g=>exact⟨_,rfl,g⟩
     simp only[Int.reduceBEq,aB,aC];rw[eC (by simp;omega),aB,eC (by simp;omega),aB];refine k _ ⟨by simp;omega,λz hz=>?_⟩;simp at hz;rcases hz with hz|rfl
     ·exact hI.2 z hz
     ·exact gn
    ·rw[h]at hd;obtain⟨ns,rfl,gn⟩:∃ns,d=⟨4,0,[],ns⟩/\∀z∈ns,dw z=true:=by cases hd with|set _ g=>exact⟨_,rfl,g⟩
     simp only[Int.reduceBEq,aB,aC];simp only at hdn;rw[eC (by rw[jS];omega),aB];refine k _ ⟨by rw[jS];omega,λz hz=>?_⟩;rcases bU.1 hz with hz|hz
     ·exact hI.2 z hz
     ·exact gn z hz
   ·show ae ((nk Pf) ⟨st,args⟩ ⟨23,w,0,[],a,kids⟩ s kids.length) _;rw[eN]at hI;have:decide (kids.length<kids.length)=false:=by simp
    rw[T5,uf,F1];simp only[ab.aF];have fl:(s.filter λz=>eO w.aJ.Names z).length<=s.length:=Dy _ _;rw[aW,this,aC,afg (by omega) (by omega),ax,zY (by omega),ax];have nl:= @tK (s.filter λz=>eO w.aJ.Names z);have np:jP w.aJ.Names (eW (s.filter λz=>eO w.aJ.Names z)):=⟨HL,λz hz=>by
     rw[SQ,iw]at hz;exact⟨hI.2 z hz.1,Ec.1 hz.2⟩⟩
    rcases hkk with h4|h10
    ·rw[h4];simp only[Int.reduceBEq,aC];have hR:w.aJ.bI=[]:=by have:=tl.1.shape;unfold iD at this;simp[h4]at this;exact this.2.1
     exact ae.ret ⟨.set (.inl h4) np (by rw[hR];simp[mc]),by omega⟩
    ·rw[h10];simp only[Int.reduceBEq,aB];have hnn:w.aJ.Names≠[]:=by have:=tl.1.shape;unfold iD at this;simp[h10]at this;exact this.2.1
     have hLN:=tl.1.names;have hl2:w.aJ.bI.length<=32:=tl.1.Lt.2;refine ae.bind (SR (hLN.2.1 (by omega)) (by omega) hLN.1 (SU tl.1) (by omega) HL (by omega) (λz hz=>(np.2 z hz).2.resolve_left hnn)) (λy hy=>ae.ret ?_);obtain⟨_,y1,y2,c1,c2,c3,c4⟩:=hy;exact⟨.set (.inr h10) ⟨y1,λz hz=>⟨hLN.1 z (c1 z hz),.inr (c1 z hz)⟩⟩ c3,by omega⟩
  refine ae.bind main (λr hr=>ae.ret (.v h0 hr.1 (.mk (by simp only;omega) (by simp) (by simp) (by simp) (by simp))))
 | @map kids p a w h0 hk5 _ hp wk wv i1 i2=>
  intro ht hk;have tw:bw B w:=ht.ty;have tl:=tw.dE h0;obtain⟨q,hq⟩:=zZ tl.1 hk5;rw[hq]at hp;simp only[jz,aD]at hp;subst hp;have pm:q∈w.aJ.ak:=by rw[hq];simp
  have pL:=tl.1.part pm;have po:=ue tl.2 pm;have hLn:w.aJ.Names.length<=B:=by have:=tl.2;rw[ai.dA]at this;exact this.2.2.2.1.1
  have ce:cd ⟨24,w,0,[],a,kids.flatMap λq=>[q.1,q.2]⟩=1+cV (kids.flatMap λq=>[q.1,q.2]):=by rw[cd]
  have ht1:∀{k},k∈(kids.flatMap λq=>[q.1,q.2])->TT B k:=λh=>ht.bM h;rw[ce]at hk⊢;generalize hK:(kids.flatMap λq=>[q.1,q.2])=K at*
  have hKl:K.length=2*kids.length:=by rw[<-hK];exact yn
  have hsq:fQ kids<=cV K:=by rw[<-hK];exact T2
  have hKc:K.length<=cV K:=tv;refine pV (by show(21:Int)<=24;decide) (by show(24:Int)<=28;decide) ?_;rw[lZ,jK];simp only[Int.reduceBEq,aB,aC];refine dZ (L:=λ(j:Int) s=>(kX Pf) ⟨st,args⟩ ⟨24,w,0,[],a,K⟩ (2*j) s) (P:=RV w ((1+cV K)*1048576)) (len:=kids.length) (λj s=>VE w.aJ s/\BV (1048576*(1+fQ (kids.take j))) s) (λj s hj hI k=>?_) (λs hI=>?_) 0 ⟨0,[],[],[]⟩ (by omega) ⟨.map hk5 hq ⟨by simp[rising],by simp⟩ rfl (by simp) (by simp),.mk (by simp) (by simp) (by simp) (by simp) (by simp)⟩
  ·show ae ((kX Pf) ⟨st,args⟩ ⟨24,w,0,[],a,K⟩ (2*(j:Int)) s) _;have k':∀b',VE w.aJ b'/\BV (1048576*(1+fQ (kids.take (j+1)))) b'->ae ((kX Pf) ⟨st,args⟩ ⟨24,w,0,[],a,K⟩ (2*((j+1:Nat):Int)) b') (RV w ((1+cV K)*1048576)):=k;obtain⟨e,he⟩:=bm hj;have hm:=aY he;have fg:=tJ (f:=λq:ab×ab=>q.1) (g:=λq:ab×ab=>q.2) he;have hsum:=acF he;have hsle:= @aaY kids (j+1);rw[hK]at fg;have m1:=aY fg.1;have m2:=aY fg.2;have c1:=od m1;have c2:=od m2;have t1:=i1 e hm (ht1 m1) (by omega);have t2:=i2 e hm (ht1 m2) (by omega);rw[(wk e hm).ty rfl]at t1;rw[(wv e hm).ty (bw.of pL po).dP]at t2;have z1:(2*(j:Int))=((2*j:Nat):Int):=by omega
   have z2:IntKind.i64.wrap (((2*j:Nat):Int)+1)=((2*j+1:Nat):Int):=bO _ (by omega);have z3:IntKind.i64.wrap (((2*j:Nat):Int)+2)=2*((j+1:Nat):Int):=by rw[wrap64 (by omega) (by omega)];omega
   have hlt:decide (2*j<K.length)=true:=by simp;omega
   rw[z1,ES,px];simp only[ab.aF];rw[aW,hlt,aB,z2,z3];refine ae.bind (mr (a7 fg.1) t1) (λy1 h1=>ae.bind (mr (a7 fg.2) t2) (λy2 h2=>?_));obtain⟨nm,rfl,hnm⟩:=h1.name;obtain⟨v,rfl,v2,v3⟩:=h2.val rfl;have v2:VE q v:=v2;have hup:∀{b'},BV (1048576*(1+fQ (kids.take j))) b'->BV (1048576*(1+fQ (kids.take (j+1)))) b':=λh=>h.mono (by omega);rw[DL (by omega),ax];refine ae.bif (λ_=>k' _ ⟨hI.1,hup hI.2⟩) (λhal=>?_);have hal:=Ec.1 (by simpa using hal);rw[hq,eH,ax];obtain⟨r,e3,hr⟩:=Qy (v:=v) hB po pL (v2.sv (by omega) v3);rw[e3,ax];refine ae.bif (λ_=>k' _ ⟨hI.1,hup hI.2⟩) (λhnb=>?_);have hnb:v≠bot q:=λe=>by rw[hr.2 e]at hnb;cases hnb
   have e1:VE w.aJ ⟨0,[nm],[v],[]⟩:= .map hk5 hq ⟨by simp[rising],λz hz=>by simp at hz;subst hz;exact⟨hnm,hal⟩⟩ rfl (λu hu=>by simp at hu;subst hu;exact v2) (λu hu=>by simp at hu;subst hu;exact hnb);have hc1:1<=cd e.2:=by rw[q7];omega
   have b1:BV (cd e.2*1048576) ⟨0,[nm],[v],[]⟩:= .mk (by simp;omega) (by simp;omega) (by simp) (by simp) (λu hu=>by simp at hu;subst hu;exact v3);refine ae.bind (jn tw h0 (by omega) (by omega) (by omega) hI.1 e1 hI.2 b1) (λy hy=>k' _ ⟨hy.1,hy.2.mono (by omega)⟩)
  ·show ae ((kX Pf) ⟨st,args⟩ ⟨24,w,0,[],a,K⟩ (2*(kids.length:Int)) s) _;have z1:(2*(kids.length:Int))=((2*kids.length:Nat):Int):=by omega
   have hlt:decide (2*kids.length<K.length)=false:=by simp;omega
   rw[eN]at hI;rw[z1,ES,px];simp only[ab.aF];rw[aW,hlt,aC];exact ae.ret (.v h0 hI.1 (hI.2.mono (by omega)))
 | @ql kids a w h0 hk6 _ hl wk ik=>
  intro ht hk;have tw:bw B w:=ht.ty;have ce:cd ⟨25,w,0,[],a,kids⟩=1+cV kids:=by rw[cd]
  have hKc:kids.length<=cV kids:=tv;rw[ce]at hk⊢;refine pV (by show(21:Int)<=25;decide) (by show(25:Int)<=28;decide) ?_;rw[lZ,jK];simp only[Int.reduceBEq,aB,aC];refine dZ (L:=λi s=>(ky Pf) ⟨st,args⟩ ⟨25,w,0,[],a,kids⟩ i s) (P:=RV w ((1+cV kids)*1048576)) (len:=kids.length) (λi s=>s.length=i/\(∀(j:Nat) v p,s[j]? =some v->w.aJ.ak[j]? =some p->VE p v)/\∀v∈s,BV ((1+cV kids)*1048576) v) (λi s hi hI k=>?_) (λs hI=>?_) 0 [] (by omega) ⟨rfl,by simp,by simp⟩
  ·show ae ((ky Pf) ⟨st,args⟩ ⟨25,w,0,[],a,kids⟩ i s) _;obtain⟨x,hx⟩:=bm hi;obtain⟨p,hp⟩:=bm (l:=w.aJ.ak) (i:=i) (by omega);have hm:=aY hx;have hcx:=od hm;have pm:=aY hp;have t1:=ik i x p hx hp (ht.bM hm) (by omega);rw[(wk i x p hx hp).ty (iP tw h0 pm).dP]at t1;have:decide (i<kids.length)=true:=by simpa using hi
   rw[py,lP];simp only[ab.aF];rw[aW,this,aB,bO i (by omega)];refine ae.bind (mr (a7 hx) t1) (λy hy=>?_);obtain⟨v,rfl,v2,v3⟩:=hy.val rfl;have v2:VE p v:=v2;obtain⟨g1,g2,g3⟩:=hI;rw[eC (by simp;omega),aB];refine k _ ⟨by simp[g1],λj u p' h1 h2=>?_,λu hu=>?_⟩
   ·by_cases hj:j<i
    ·rw[mh (by omega)]at h1;exact g2 j u p' h1 h2
    ·have:j=i:=by
      have:=(cr.1 h1).1;simp at this;omega
     subst this;rw[hp]at h2;cases h2;rw[<-g1,aax]at h1;cases h1;exact v2
   ·rcases bU.1 hu with hu|hu
    ·exact g3 u hu
    ·simp at hu;subst hu;exact v3.mono (gm _ (by omega))
  ·show ae ((ky Pf) ⟨st,args⟩ ⟨25,w,0,[],a,kids⟩ kids.length s) _;have:decide (kids.length<kids.length)=false:=by simp
   rw[py,lP];simp only[ab.aF];rw[aW,this,aC];exact ae.ret (.v h0 (.prod (.inl hk6) (by omega) hI.2.1) (.mk (by simp) (by simp only;omega) (by simp) (by simp) hI.2.2))
 | @pair x y p q a w h0 hk7 hp hq wx wy ix iy=>
  intro ht hk;have tw:bw B w:=ht.ty;have h3:= @k2 26 w 0 [] a x y;have pm:=aY hp;have qm:=aY hq;have ix:=ix (ht.bM (by simp)) (by omega);have iy:=iy (ht.bM (by simp)) (by omega);rw[wx.ty (iP tw h0 pm).dP]at ix;rw[wy.ty (iP tw h0 qm).dP]at iy;obtain⟨p',q',hpq⟩:=z6 (tw.dE h0).1 hk7;rw[hpq]at hp hq;simp only[jz,aD,mU]at hp hq;subst hp;subst hq;have i0:IntKind.i64.wrap ((0:Int)+1)=1:=by decide
  have i1:IntKind.i64.wrap ((1:Int)+1)=2:=by decide
  refine pV (by show(21:Int)<=26;decide) (by show(26:Int)<=28;decide) ?_;rw[lZ,jK];simp only[Int.reduceBEq,aB,aC];rw[Jn,q9];simp only[ab.aF];rw[show decide ((0:Int)<(([x,y]:List ab).length:Int))=true by rfl,aB,i0];refine ae.bind (mr rfl ix) (λy1 h1=>?_);obtain⟨v,rfl,v2,v3⟩:=h1.val rfl;rw[eC (by simp),aB,Jn,q9];simp only[ab.aF];rw[show decide ((1:Int)<(([x,y]:List ab).length:Int))=true by rfl,aB,i1];refine ae.bind (mr rfl iy) (λy2 h2=>?_);obtain⟨u,rfl,u2,u3⟩:=h2.val rfl;rw[eC (by simp),aB,Jn,q9];simp only[ab.aF];rw[show decide ((2:Int)<(([x,y]:List ab).length:Int))=false by rfl,aC];have:= @one x;refine ae.ret (.v h0 (V9 hk7 hpq v2 u2) (.mk (by simp) (by simp;omega) (by simp) (by simp) (λz hz=>?_)));simp at hz;rcases hz with rfl|rfl
  ·exact v3.mono (gm _ (by omega))
  ·exact u3.mono (gm _ (by omega))
