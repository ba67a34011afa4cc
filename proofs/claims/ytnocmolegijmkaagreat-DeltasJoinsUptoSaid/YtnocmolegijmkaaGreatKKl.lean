/- Evaluation of well-typed expressions answers, and with a value of the type. -/
import Derived.Test.YtnocmolegijmkaaGreatKKi
set_option linter.all false
namespace Go.Proofs.YtnocmolegijmkaaGreat
open Go Go.Bw
theorem uk {D β:Type} {f g:D->β}:∀{l:List D} {j:Nat} {q:D},l[j]? =some q->(l.flatMap λq=>[f q,g q])[2*j]? =some (f q)/\(l.flatMap λq=>[f q,g q])[2*j+1]? =some (g q)
 |a::l,0,q,h=>by
  simp only[jP,aE]at h;subst h;exact⟨rfl,rfl⟩
 |a::l,j+1,q,h=>by
  simp only[nD]at h;exact uk (l:=l) h
theorem zf {D β:Type} {f g:D->β}:∀{l:List D},(l.flatMap λq=>[f q,g q]).length=2*l.length
 |[]=>rfl
 |a::l=>by
  have:=zf (f:=f) (g:=g) (l:=l);rw[tr,kp,this];simp;omega
def ew:List (ab×ab)->Nat
 |[]=>0
 |q::l=>bI q.2+ew l
theorem JI:∀{l:List (ab×ab)},ew l<=b8 (l.flatMap λq=>[q.1,q.2])
 |[]=>by simp[ew,b8]
 |q::l=>by
  have:=JI (l:=l);rw[tr,Ej,ew];simp[b8];omega
theorem I2:∀{a b:List (ab×ab)},ew (a++b)=ew a+ew b
 |[],b=>by simp[ew]
 |x::a,b=>by rw[ko,ew,ew,I2];omega
theorem acz {l:List (ab×ab)} {i:Nat} {q:ab×ab} (h:l[i]? =some q):ew (l.take (i+1))=ew (l.take i)+bI q.2:=by
 rw[fM,h,I2];simp[ew]
theorem aaX {l:List (ab×ab)} {i:Nat}:ew (l.take i)<=ew l:=by
 have:ew l=ew (l.take i)+ew (l.drop i):=by rw[<-I2,Dx]
 omega
section
variable {B:Nat} (hB:B<=1048576) {c:cI} (hc:CE B c) {st:af} {args:List bD} (hst:VE c.l st) (bst:BV 1048576 st) (hargs:∀(i:Nat) p,c.params[i]? =some p->∃d,args[i]? =some d/\DV p.a6 d/\d.Names.length<=1048576)
include hB
theorem yA {l:ag} (hl:l.ok B) (hL:cA l):(f178 Pf) l=some (bot l):=by
 rw[aiy,AY,QG hB hl hL];rfl
theorem acA {p:ag} {ps:List af} {v:af} (hv:v.ai=ps) (hk:p.Kind=2\/p.Kind=3) (hL:cA p) (h:∀x∈ps,VE p x) (hl:ps.length<=274877906944):ae ((f187 Pf) v) (λr=> -1000000000000000<=r/\r<=1000000000000000):=by
 subst hv;rw[aiz,wN];refine eo (L:=λi s=>(rG Pf) v s i) (P:=λr=> -1000000000000000<=r/\r<=1000000000000000) (len:=v.ai.length) (λ_ s=> -1000000000000000<=s/\s<=1000000000000000) (λi s hi hI k=>?_) (λs hI=>?_) 0 (0:Int) (by omega) (by omega)
 ·show ae ((rG Pf) v s i) _;obtain⟨x,hx⟩:=bo hi;have:decide (i<v.ai.length)=true:=by simpa using hi
  rw[SP,uG,af.aH,a7,this,aB,bf hx,au,bW i (by omega)];exact ae.bind (SQ _) (λy hy=>k y hy)
 ·show ae ((rG Pf) v s v.ai.length) _;have:decide (v.ai.length<v.ai.length)=false:=by simp
  rw[SP,uG,af.aH,a7,this,aC];exact ae.ret hI
include hc hst bst hargs
theorem EB {x:ab} {w:aQ} (h:W c.l c.params x w):TT B x->bI x<=60000->ae ((f86 Pf) ⟨st,args⟩ x) (RV x.aO (bI x*1048576)):=by
 have one:∀{x:ab},1048576<=bI x*1048576:=λ{x}=>by rw[gU];omega
 have k1:∀{o:Int} {t:aQ} {n:Int} {tx:List UInt8} {a:Int} {x:ab},bI x<bI ⟨o,t,n,tx,a,[x]⟩:=λ{o t n tx a x}=>adB (by simp);have k2:∀{o:Int} {t:aQ} {n:Int} {tx:List UInt8} {a:Int} {x y:ab},bI x+bI y<bI ⟨o,t,n,tx,a,[x,y]⟩:=λ{o t n tx a x y}=>by rw[bI];simp only[b8];omega
 have k3:∀{o:Int} {t:aQ} {n:Int} {tx:List UInt8} {a:Int} {x y z:ab},bI x+bI y+bI z<bI ⟨o,t,n,tx,a,[x,y,z]⟩:=λ{o t n tx a x y z}=>by rw[bI];simp only[b8];omega
 have jn:∀{t:aQ} {u v:af} {m n:Nat},bx B t->t.a6=0->64<=m->m<=137438953472->n<=137438953472->VE t.aD u->VE t.aD v->BV m u->BV n v->ae ((f43 Pf) t.aD u v) (λr=>VE t.aD r.1/\BV (m+n) r.1):=λht hs h0 h1 h2 hu hv bu bv=>
  (uw hB (ht.dz hs).2 (ht.dz hs).1 hu hv (bu.mono h1) (bv.mono h2)).mono λr hr=>⟨hr.2.1.ve,hr.2.2 _ _ h0 bu bv⟩
 have lq:∀{t:aQ} {u v:af} {m n:Nat},bx B t->t.a6=0->m<=137438953472->n<=137438953472->VE t.aD u->VE t.aD v->BV m u->BV n v->∃r,(f19 Pf) t.aD u v=some r:=λht hs h1 h2 hu hv bu bv=>by
  obtain⟨r,e,_⟩:=SL hB (ht.dz hs).2 (ht.dz hs).1 hu hv (hu.sv (by omega) bu) (hv.sv (by omega) bv);exact⟨r,e⟩
 induction h with
 |int h0 h1 _=>
  intro _ _;refine uH (by show(1:Int)<=6;decide) ?_;rw[qI,mr];simp only[Int.reduceBEq,aB,aC];exact ae.id (zQ h0 h1)
 |bool _ _=>
  intro _ _;refine uH (by show(2:Int)<=6;decide) ?_;rw[qI,mr];simp only[Int.reduceBEq,aB,aC];exact ae.id jS
 |name hn _=>
  intro _ _;refine uH (by show(3:Int)<=6;decide) ?_;rw[qI,mr];simp only[Int.reduceBEq,aB,aC];exact ae.ret (.d (by show(3:Int)≠0;decide) (.name (JL.2 hn)) (by simp))
 |param hp _=>
  intro _ _;refine uH (by show(4:Int)<=6;decide) ?_;rw[qI,mr];simp only[Int.reduceBEq,aB,aC];obtain⟨d,hd,dv,dn⟩:=hargs _ _ hp;have hs:=hc.par _ (aV hp);rw[bf hd,au];exact ae.ret (.d (by show _≠(0:Int);simp only[br];omega) dv (iM dn one))
 |state _=>
  intro _ _;refine uH (by show(5:Int)<=6;decide) ?_;rw[qI,mr];simp only[Int.reduceBEq,aB,aC];exact ae.ret (.v rfl hst (bst.mono one))
 |Aq h0 hn=>
  intro ht _;refine uH (by show(6:Int)<=6;decide) ?_;rw[qI,mr];simp only[Int.reduceBEq,aB,aC];have hl:=ht.ty.dz h0;rw[yA hB hl.2 hl.1,au];exact ae.ret (.v h0 (n9 hl.1) ((Ap hB _ hl.2).mono one))
 | @sS cc x y a w hn wc wx wy ic ix iy=>
  intro ht hk;have h3:= @k3 7 w 0 [] a cc x y;have ec:=wc.ty (by rfl);have ex:=wx.ty hn;have ey:=wy.ty hn;have ic:=ic (ht.bV (by simp)) (by omega);have ix:=ix (ht.bV (by simp)) (by omega);have iy:=iy (ht.bV (by simp)) (by omega);rw[ec]at ic;rw[ex]at ix;rw[ey]at iy;refine kZ (by show(7:Int)<=7;decide) (by show(7:Int)<=18;decide) ?_;rw[ka,gv];simp only[Int.reduceBEq,aB,aC];refine ae.bind (eE rfl ic) (λy3 h3'=>?_);exact ae.bif (λ_=>ae.id (eE rfl (ix.mono λr hr=>hr.mono (gg _ (by omega))))) (λ_=>ae.id (eE rfl (iy.mono λr hr=>hr.mono (gg _ (by omega)))))
 | @wJ cc x y a w hn wc wx wy ic ix iy=>
  intro ht hk;have h3:= @k3 7 x.aO 0 [] a cc x y;have ec:=wc.ty (by rfl);have tx:=(ht.bV (k:=x) (by simp)).ty;have ey:=wy.ty tx.eW;have ic:=ic (ht.bV (by simp)) (by omega);have ix:=ix (ht.bV (by simp)) (by omega);have iy:=iy (ht.bV (by simp)) (by omega);rw[ec]at ic;rw[ey]at iy;refine kZ (by show(7:Int)<=7;decide) (by show(7:Int)<=18;decide) ?_;rw[ka,gv];simp only[Int.reduceBEq,aB,aC];refine ae.bind (eE rfl ic) (λy3 h3'=>?_);exact ae.bif (λ_=>ae.id (eE rfl (ix.mono λr hr=>hr.mono (gg _ (by omega))))) (λ_=>ae.id (eE rfl (iy.mono λr hr=>hr.mono (gg _ (by omega)))))
 | @wK cc x y a w hn wc wy wx ic iy ix=>
  intro ht hk;have h3:= @k3 7 x.aO 0 [] a cc x y;have ec:=wc.ty (by rfl);have ty:=(ht.bV (k:=y) (by simp)).ty;have ex:=wx.ty ty.eW;have ic:=ic (ht.bV (by simp)) (by omega);have ix:=ix (ht.bV (by simp)) (by omega);have iy:=iy (ht.bV (by simp)) (by omega);rw[ec]at ic;rw[<-ex]at iy;refine kZ (by show(7:Int)<=7;decide) (by show(7:Int)<=18;decide) ?_;rw[ka,gv];simp only[Int.reduceBEq,aB,aC];refine ae.bind (eE rfl ic) (λy3 h3'=>?_);exact ae.bif (λ_=>ae.id (eE rfl (ix.mono λr hr=>hr.mono (gg _ (by omega))))) (λ_=>ae.id (eE rfl (iy.mono λr hr=>hr.mono (gg _ (by omega)))))
 | @conn op x y a w ho wx wy _ ix iy=>
  intro ht hk;have h3:= @k2 op (br 2) 0 [] a x y;have ex:=wx.ty (by rfl);have ey:=wy.ty (by rfl);have ix:=ix (ht.bV (by simp)) (by omega);have iy:=iy (ht.bV (by simp)) (by omega);rw[ex]at ix;rw[ey]at iy;refine kZ (by show(7:Int)<=op;omega) (by show op<=18;omega) ?_;rw[ka,gv];rcases ho with rfl|rfl<;>simp only[Int.reduceBEq,aB,aC]
  ·refine ae.bind (eE rfl ix) (λy3 h3'=>ae.bif (λ_=>ae.id jS) (λ_=>?_));exact ae.bind (eE rfl iy) (λ_ _=>ae.id jS)
  ·refine ae.bind (eE rfl ix) (λy3 h3'=>ae.bif (λ_=>?_) (λ_=>ae.id jS));exact ae.bind (eE rfl iy) (λ_ _=>ae.id jS)
 | @not x a w wx _ ix=>
  intro ht hk;have h3:= @k1 10 (br 2) 0 [] a x;have ix:=ix (ht.bV (by simp)) (by omega);refine kZ (by show(7:Int)<=10;decide) (by show(10:Int)<=18;decide) ?_;rw[ka,gv];simp only[Int.reduceBEq,aB,aC];exact ae.bind (eE rfl ix) (λ_ _=>ae.id jS)
 | @less op x y a w ho wx wy _ ix iy=>
  intro ht hk;have h3:= @k2 op (br 2) 0 [] a x y;have ix:=ix (ht.bV (by simp)) (by omega);have iy:=iy (ht.bV (by simp)) (by omega);refine kZ (by show(7:Int)<=op;omega) (by show op<=18;omega) ?_;rw[ka,gv];rcases ho with rfl|rfl<;>simp only[Int.reduceBEq,aB,aC]<;>exact ae.bind (eE rfl ix) (λ_ _=>ae.bind (eE rfl iy) (λ_ _=>ae.id jS))
 | @equal x y a w wx hs wy _ ix iy=>
  intro ht hk;have h3:= @k2 13 (br 2) 0 [] a x y;have tx:=(ht.bV (k:=x) (by simp)).ty;have ey:=wy.ty tx.eW;have ix:=ix (ht.bV (by simp)) (by omega);have iy:=iy (ht.bV (by simp)) (by omega);rw[ey]at iy;refine kZ (by show(7:Int)<=13;decide) (by show(13:Int)<=18;decide) ?_;rw[ka,gv];simp only[Int.reduceBEq,aB,aC];refine ae.bind (eE rfl ix) (λy1 h1=>ae.bind (eE rfl iy) (λy2 h2=>?_));obtain⟨d1,rfl,_,n1⟩:=h1.dS hs;obtain⟨d2,rfl,_,n2⟩:=h2.dS hs;refine ae.bif (λ_=>ae.bif (λ_=>?_) (λ_=>ae.id jS)) (λ_=>ae.id jS);obtain⟨r,e,_⟩:=adC (a:=d1.Names) (b:=d2.Names) (by omega) (by omega);rw[e,au];exact ae.id jS
 | @KU x y a w wx wy _ ix iy=>
  intro ht hk;have h3:= @k2 14 (br 2) 0 [] a x y;have ey:=wy.ty (by rfl);have ix:=ix (ht.bV (by simp)) (by omega);have iy:=iy (ht.bV (by simp)) (by omega);rw[ey]at iy;refine kZ (by show(7:Int)<=14;decide) (by show(14:Int)<=18;decide) ?_;rw[ka,gv];simp only[Int.reduceBEq,aB,aC];refine ae.bind (eE rfl iy) (λy2 h2=>ae.bind (eE rfl ix) (λy1 h1=>?_));obtain⟨ns,rfl,_,_,nl⟩:=h2.set
  rw[has_eq _ _ (by show ns.length<_;omega),au];exact ae.id jS
 | @KV x y a w wx hs wy _ ix iy=>
  intro ht hk;have h3:= @k2 15 (br 2) 0 [] a x y;have tx:=(ht.bV (k:=x) (by simp)).ty;have ey:=wy.ty tx.eW;have ix:=ix (ht.bV (by simp)) (by omega);have iy:=iy (ht.bV (by simp)) (by omega);rw[ey]at iy;refine kZ (by show(7:Int)<=15;decide) (by show(15:Int)<=18;decide) ?_;rw[ka,gv];simp only[Int.reduceBEq,aB,aC];rw[eO,au];refine ae.bind (eE rfl ix) (λy1 h1=>ae.bind (eE rfl iy) (λy2 h2=>?_));obtain⟨v1,rfl,v2,v3⟩:=h1.val hs;obtain⟨u1,rfl,u2,u3⟩:=h2.val hs;obtain⟨r,e⟩:=lq tx hs (by omega) (by omega) v2 u2 v3 u3;rw[e,au];exact ae.id jS
 | @KW x y a w wy hs wx _ iy ix=>
  intro ht hk;have h3:= @k2 15 (br 2) 0 [] a x y;have ty:=(ht.bV (k:=y) (by simp)).ty;have ex:=wx.ty ty.eW;have ix:=ix (ht.bV (by simp)) (by omega);have iy:=iy (ht.bV (by simp)) (by omega);rw[<-ex]at iy hs ty;refine kZ (by show(7:Int)<=15;decide) (by show(15:Int)<=18;decide) ?_;rw[ka,gv];simp only[Int.reduceBEq,aB,aC];rw[eO,au];refine ae.bind (eE rfl ix) (λy1 h1=>ae.bind (eE rfl iy) (λy2 h2=>?_));obtain⟨v1,rfl,v2,v3⟩:=h1.val hs;obtain⟨u1,rfl,u2,u3⟩:=h2.val hs;obtain⟨r,e⟩:=lq ty hs (by omega) (by omega) v2 u2 v3 u3;rw[e,au];exact ae.id jS
 | @sA x y a w hn hs wx wy ix iy=>
  intro ht hk;have h3:= @k2 16 w 0 [] a x y;have ex:=wx.ty hn;have ey:=wy.ty hn;have ix:=ix (ht.bV (by simp)) (by omega);have iy:=iy (ht.bV (by simp)) (by omega);rw[ex]at ix;rw[ey]at iy;have tt:bx B w:=ht.ty;refine kZ (by show(7:Int)<=16;decide) (by show(16:Int)<=18;decide) ?_;rw[ka,gv];simp only[Int.reduceBEq,aB,aC];refine ae.bind (eE rfl ix) (λy1 h1=>ae.bind (eE rfl iy) (λy2 h2=>?_));obtain⟨v1,rfl,v2,v3⟩:=h1.val hs;obtain⟨u1,rfl,u2,u3⟩:=h2.val hs;have:= @one x;refine ae.bind (jn tt hs (by omega) (by omega) (by omega) v2 u2 v3 u3) (λy hy=>ae.ret (.v hs hy.1 (hy.2.mono ?_)));rw[<-jc];exact gg _ (by omega)
 | @wm x y a w hn wx hs wy ix iy=>
  intro ht hk;have h3:= @k2 16 x.aO 0 [] a x y;have tx:=(ht.bV (k:=x) (by simp)).ty;have ey:=wy.ty tx.eW;have ix:=ix (ht.bV (by simp)) (by omega);have iy:=iy (ht.bV (by simp)) (by omega);rw[ey]at iy;refine kZ (by show(7:Int)<=16;decide) (by show(16:Int)<=18;decide) ?_;rw[ka,gv];simp only[Int.reduceBEq,aB,aC];refine ae.bind (eE rfl ix) (λy1 h1=>ae.bind (eE rfl iy) (λy2 h2=>?_));obtain⟨v1,rfl,v2,v3⟩:=h1.val hs;obtain⟨u1,rfl,u2,u3⟩:=h2.val hs;have:= @one x;refine ae.bind (jn tx hs (by omega) (by omega) (by omega) v2 u2 v3 u3) (λy hy=>ae.ret (.v hs hy.1 (hy.2.mono ?_)));rw[<-jc];exact gg _ (by omega)
 | @wo x y a w hn wy hs wx iy ix=>
  intro ht hk;have h3:= @k2 16 x.aO 0 [] a x y;have ty:=(ht.bV (k:=y) (by simp)).ty;have ex:=wx.ty ty.eW;have ix:=ix (ht.bV (by simp)) (by omega);have iy:=iy (ht.bV (by simp)) (by omega);rw[<-ex]at iy hs ty;refine kZ (by show(7:Int)<=16;decide) (by show(16:Int)<=18;decide) ?_;rw[ka,gv];simp only[Int.reduceBEq,aB,aC];refine ae.bind (eE rfl ix) (λy1 h1=>ae.bind (eE rfl iy) (λy2 h2=>?_));obtain⟨v1,rfl,v2,v3⟩:=h1.val hs;obtain⟨u1,rfl,u2,u3⟩:=h2.val hs;have:= @one x;refine ae.bind (jn ty hs (by omega) (by omega) (by omega) v2 u2 v3 u3) (λy hy=>ae.ret (.v hs hy.1 (hy.2.mono ?_)));rw[<-jc];exact gg _ (by omega)
 | @AZ op x y a w ho wx wy _ ix iy=>
  intro ht hk;have h3:= @k2 op (br 1) 0 [] a x y;have ix:=ix (ht.bV (by simp)) (by omega);have iy:=iy (ht.bV (by simp)) (by omega);refine kZ (by show(7:Int)<=op;omega) (by show op<=18;omega) ?_;rw[ka,gv];rcases ho with rfl|rfl<;>simp only[Int.reduceBEq,aB,aC]<;>exact ae.bind (eE rfl ix) (λ_ _=>ae.bind (eE rfl iy) (λ_ _=>ae.bind (SQ _) (λz hz=>ae.id (zQ hz.1 hz.2))))
 | @field x i p a w wx hs hk6 hi hp _ ix=>
  intro ht hk;have h3:= @k1 19 (cX p) i [] a x;have ix:=ix (ht.bV (by simp)) (by omega);refine JM (.inl rfl) ?_;rw[AW,nh];simp only[Int.reduceBEq,aB,aC];rw[eO,au];refine ae.bind ix (λy1 h1=>?_);obtain⟨v1,rfl,v2,v3⟩:=h1.val hs;obtain⟨ps,rfl,hl,hv⟩:=v2.k6 (.inl hk6);obtain⟨z,hz⟩:=bo (l:=ps) (i:=i) (by have:=(cr.1 hp).1;omega);show ae ((aj ps (i:Int)).bind _) _;rw[bf hz,au];exact ae.ret (.v rfl (hv i z p hz hp) ((v3.part (aV hz)).mono (gg _ (by omega))))
 | @at_ x k p a w wx hs hk5 hp wk _ ix ik=>
  intro ht hk;have h3:= @k2 20 (cX p) 0 [] a x k;have ek:=wk.ty (by rfl);have ix:=ix (ht.bV (by simp)) (by omega);have ik:=ik (ht.bV (by simp)) (by omega);rw[ek]at ik;have tx:=(ht.bV (k:=x) (by simp)).ty;refine JM (.inr (.inl rfl)) ?_;rw[AW,nh];simp only[Int.reduceBEq,aB,aC];rw[eO,au];refine ae.bind ix (λy1 h1=>?_);obtain⟨v1,rfl,v2,v3⟩:=h1.val hs;obtain⟨q,ns,ps,hq,rfl,hN,hlen,hv,_⟩:=v2.k5 hk5;rw[hq]at hp;simp only[jP,aE]at hp;subst hp;have qL:=(tx.dz hs).1.part (p:=q) (by rw[hq];simp);have qo:=oR (tx.dz hs).2 (p:=q) (by rw[hq];simp);rw[show aj [x,k] 1=some k from rfl,au];refine ae.bind ik (λy2 h2=>?_);obtain⟨s,rfl,_⟩:=h2.name;have hn:=v3.names;simp only at hn⊢;rcases tG (a:=ns) (x:=s) (by omega)with⟨e1,_⟩|⟨j,e1,e2⟩
  ·rw[e1,au,dH (by decide),aC];show ae (((f178 Pf) q).bind _) _;rw[yA hB qo qL,au];exact ae.ret (.v rfl (n9 qL) ((Ap hB _ qo).mono one))
  ·obtain⟨z,hz⟩:=lF hlen e2;rw[e1,au,dT (by omega),aB,bf hz,au];exact ae.ret (.v rfl (hv z (aV hz)) ((v3.part (aV hz)).mono (gg _ (by omega))))
 | @flag x a w h0 hk1 wx ix=>
  intro ht hk;have h3:= @k1 21 w 0 [] a x;have ex:=wx.ty (by rfl);have ix:=ix (ht.bV (by simp)) (by omega);rw[ex]at ix;refine qn (by show(21:Int)<=21;decide) (by show(21:Int)<=28;decide) ?_;rw[oA,kb];simp only[Int.reduceBEq,aB,aC];refine ae.bind (mP rfl ix) (λy1 h1=>?_);obtain⟨n,rfl,hn⟩:=h1.bool;exact ae.ret (.v h0 (.flag hk1 hn) (.mk (by simp) (by simp) (by simp) (by simp) (by simp)))
 | @num x a w h0 hk1 wx ix=>
  intro ht hk;have h3:= @k1 22 w 0 [] a x;have ix:=ix (ht.bV (by simp)) (by omega);have tw:bx B w:=ht.ty;have hr:=(tw.dz h0).1.range;refine qn (by show(21:Int)<=22;decide) (by show(22:Int)<=28;decide) ?_;rw[oA,kb];simp only[Int.reduceBEq,aB,aC];refine ae.bind (mP rfl ix) (λy1 h1=>ae.ret (.v h0 (.num hk1 ?_ ?_) (.mk (by simp) (by simp) (by simp) (by simp) (by simp))))
  ·split<;>split<;>omega
  ·split<;>split<;>omega
 | @one x a w h0 hk8 wx ix=>
  intro ht hk;have h3:= @k1 27 w 0 [] a x;have ex:=wx.ty (by rfl);have ix:=ix (ht.bV (by simp)) (by omega);rw[ex]at ix;have tw:bx B w:=ht.ty;have tl:=tw.dz h0;have hn:w.aD.Names.length<=B:=by have:=tl.2;rw[ag.dK]at this;exact this.2.2.2.1.1
  refine qn (by show(21:Int)<=27;decide) (by show(27:Int)<=28;decide) ?_;rw[oA,kb];simp only[Int.reduceBEq,aB,aC];refine ae.bind (mP rfl ix) (λy1 h1=>?_);obtain⟨s,rfl,hs⟩:=h1.name;rw[DZ (by omega),au];refine ae.bif (λ_=>?_) (λh=>?_)
  ·rw[yA hB tl.2 tl.1,au];exact ae.ret (.v h0 (n9 tl.1) ((Ap hB _ tl.2).mono one))
  ·have h:=yM.1 (by simpa using h);exact ae.ret (.v h0 (.KA hk8 ⟨by simp[rising],λz hz=>by simp at hz;subst hz;exact⟨hs,h⟩⟩) (.mk (by simp;omega) (by simp) (by simp) (by simp) (by simp)))
 | @write x y z a w wx wy wz _ ix iy iz=>
  intro ht hk;have h3:= @k3 28 (cX fI) 0 [] a x y z;have ex:=wx.ty (by rfl);have ez:=wz.ty (by rfl);have ix:=ix (ht.bV (by simp)) (by omega);have iy:=iy (ht.bV (by simp)) (by omega);have iz:=iz (ht.bV (by simp)) (by omega);rw[ex]at ix;rw[ez]at iz;refine qn (by show(21:Int)<=28;decide) (by show(28:Int)<=28;decide) ?_;rw[oA,kb];simp only[Int.reduceBEq,aB,aC];refine ae.bind (mP rfl ix) (λy1 h1=>ae.bind (mP rfl iy) (λy2 h2=>ae.bind (mP rfl iz) (λy3 h3'=>?_)));obtain⟨v1,rfl,v2,v3⟩:=h1.val rfl;obtain⟨s,rfl,hs⟩:=h3'.name;have:= @one x;have hz:1<=bI z:=by rw[gU];omega
  refine ae.bind (acB hB (by omega) (by omega) (E3 B) v2 v3 hs) (λr hr=>ae.ret (.v rfl hr.1 (hr.2.mono ?_)));have:bI x*1048576+64<=(bI x+bI z)*1048576:=by rw[jc];omega
  exact iM this (gg _ (by omega))
 | @size x a w wx hsz _ ix=>
  intro ht hk;have h3:= @k1 29 (br 1) 0 [] a x;have ix:=ix (ht.bV (by simp)) (by omega);refine J8 (.inl ⟨by show(29:Int)<=29;decide,by show(29:Int)<=34;decide⟩) ?_;rw[KX,pf];simp only[Int.reduceBEq,aB,aC];rw[eO,au];refine ae.bind ix (λy1 h1=>?_);have hb:y1.d.Names.length<=bI x*1048576/\y1.v.Names.length<=bI x*1048576/\y1.v.Entries.length<=bI x*1048576:=by
   cases h1 with
   |v _ _ b=>exact⟨by simp[zD],b.names,b.entries⟩
   |d _ _ b=>exact⟨b,by simp[zV],by simp[zV]⟩
  have e:(f186 Pf) y1=some (((y1.d.Names.length+y1.v.Names.length+y1.v.Entries.length:Nat):Int)):=by
   rw[aiA,A0,bN,bN,az.aH,wrap64 (x:=(y1.d.Names.length:Int)+_) (by omega) (by omega),wrap64 (by omega) (by omega)];congr 1
  rw[e,au];exact ae.id (zQ (by omega) (by omega))
 | @sum x p a w wx hs hk5 hp hpk _ ix=>
  intro ht hk;have h3:= @k1 30 (br 1) 0 [] a x;have ix:=ix (ht.bV (by simp)) (by omega);have tx:=(ht.bV (k:=x) (by simp)).ty;refine J8 (.inl ⟨by show(29:Int)<=30;decide,by show(30:Int)<=34;decide⟩) ?_;rw[KX,pf];simp only[Int.reduceBEq,aB,aC];rw[eO,au];refine ae.bind ix (λy1 h1=>?_);obtain⟨v1,rfl,v2,v3⟩:=h1.val hs;obtain⟨q,ns,ps,hq,rfl,hN,hlen,hv,_⟩:=v2.k5 hk5;rw[hq]at hp;simp only[jP,aE]at hp;subst hp;have qL:=(tx.dz hs).1.part (p:=q) (by rw[hq];simp);have:=v3.parts;simp only at this;exact ae.bind (acA hB (ps:=ps) rfl hpk qL hv (by omega)) (λr hr=>ae.id (zQ hr.1 hr.2))
 | @part op i x p a w ho wx hs hk7 hp _ ix=>
  intro ht hk;have h3:= @k1 op (cX p) 0 [] a x;have ix:=ix (ht.bV (by simp)) (by omega);refine JM (by show op=19\/op=20\/op=35\/op=36;omega) ?_;have fin:∀y1,RV x.aO (bI x*1048576) y1->ae ((aj y1.v.ai (i:Int)).bind λx8=>some (⟨⟨0,0,[],[]⟩,x8⟩:bZ)) (RV (cX p) (bI ⟨op,cX p,0,[],a,[x]⟩*1048576)):=by
   intro y1 h1;obtain⟨v1,rfl,v2,v3⟩:=h1.val hs;obtain⟨ps,rfl,hl,hv⟩:=v2.k6 (.inr hk7);obtain⟨z,hz⟩:=bo (l:=ps) (i:=i) (by have:=(cr.1 hp).1;omega);show ae ((aj ps (i:Int)).bind _) _;rw[bf hz,au];exact ae.ret (.v rfl (hv i z p hz hp) ((v3.part (aV hz)).mono (gg _ (by omega))))
  rw[AW,nh];rcases ho with⟨rfl,rfl⟩|⟨rfl,rfl⟩<;>simp only[Int.reduceBEq,aB,aC]
  ·rw[eO,au];exact ae.bind ix fin
  ·rw[eO,au];exact ae.bind ix fin
 | @xz op x s ks a w hm wx hs hkk _ ix=>
  intro ht hk;have h3:= @k1 op (br s) 0 [] a x;have ix:=ix (ht.bV (by simp)) (by omega);have tx:=(ht.bV (k:=x) (by simp)).ty;have hr:=(tx.dz hs).1.range;simp only[cq,cR,aar,or_false]at hm;have le:bI x*1048576<=bI ⟨op,br s,0,[],a,[x]⟩*1048576:=gg _ (by omega);have clone:∀ns:List (List UInt8),ns.length<=bI x*1048576->rising ns=true->(∀z∈ns,dC z=true)->ae (((f129 Pf) ns).bind λy15=>((f188 Pf) y15).bind λy16=>some y16) (RV (br 4) (bI ⟨op,br s,0,[],a,[x]⟩*1048576)):=by
   intro ns h1 h2 h3;rw[show(f129 Pf) ns=some ns by rw[Gc];exact nM (by omega),au,WH,wO];exact ae.ret (.d (by decide) (.set h2 h3) (iM h1 le))
  refine J8 (by show(29<=op/\op<=34)\/op=37;omega) ?_;rw[KX,pf];rcases hm with⟨rfl,rfl,rfl⟩|⟨rfl,rfl,rfl⟩|⟨rfl,rfl,rfl⟩|⟨rfl,rfl,rfl⟩|⟨rfl,rfl,rfl⟩<;>simp only[Int.reduceBEq,aB,aC]<;>simp only[cq,aar,or_false]at hkk<;>simp only[eO,au]<;>refine ae.bind ix (λy1 h1=>?_)<;>obtain⟨v1,rfl,v2,v3⟩:=h1.val hs
  ·obtain⟨n,rfl,n1,n2⟩:=v2.k2 hkk;exact ae.id (zQ (by show _<=n;omega) (by show n<=_;omega))
  ·exact ae.id jS
  ·rcases hkk with h5|hkk
   ·obtain⟨q,ns,ps,hq,rfl,hN,_⟩:=v2.k5 h5;exact clone ns v3.names hN.1 λz hz=>(hN.2 z hz).1
   ·obtain⟨ns,rfl,hN,_⟩:=v2.k4 hkk;exact clone ns v3.names hN.1 λz hz=>(hN.2 z hz).1
  ·rcases hkk with h8|h9
   ·rw[h8];simp only[Int.reduceBEq,aC];rcases v2.k8 h8 with⟨n,rfl,_⟩|⟨z,rfl,hN⟩
    ·exact clone [] (by simp) rfl (by simp)
    ·exact clone [z] v3.names hN.1 λz hz=>(hN.2 z hz).1
   ·rw[h9];simp only[Int.reduceBEq,aB];obtain⟨es,rfl,hE⟩:=v2.k9 h9;have he:=v3.entries;simp only at he;refine ae.bind (P1 (v:=⟨0,[],[],es⟩) (by simp only;omega)) (λr hr=>?_);rw[WH,wO];refine ae.ret (.d (by decide) (.set hr.1 λz hz=>?_) (iM hr.2.1 (iM he le)));obtain⟨e,he,rfl⟩:=(hr.2.2 z).1 hz;exact(hE.1 e he).2.2
  ·refine ae.bif (λ_=>ae.id jS) (λ_=>?_);refine ae.bind (P1 (v:=v1) (by have:=v3.entries;omega)) (λr hr=>?_);exact ae.id jS
 | @KY kids a w h0 hkk _ wk hso ik=>
  intro ht hk;have tw:bx B w:=ht.ty;have tl:=tw.dz h0;have hlo:=tl.2;rw[ag.dK]at hlo;have hLn:w.aD.Names.length<=B:=hlo.2.2.2.1.1;have ce:bI ⟨23,w,0,[],a,kids⟩=1+b8 kids:=by rw[bI]
  rw[ce]at hk⊢;refine qn (by show(21:Int)<=23;decide) (by show(23:Int)<=28;decide) ?_;rw[oA,kb];simp only[Int.reduceBEq,aB,aC];have hkl:kids.length<=b8 kids:=tZ;have main:ae ((f183 Pf) ⟨st,args⟩ ⟨23,w,0,[],a,kids⟩) (λr=>VE w.aD ⟨0,r,[],[]⟩/\r.length<=1048576*(1+b8 kids)):=by
   rw[aiB,qM];refine eo (L:=λi s=>(kT Pf) ⟨st,args⟩ ⟨23,w,0,[],a,kids⟩ s i) (P:=λr=>VE w.aD ⟨0,r,[],[]⟩/\r.length<=1048576*(1+b8 kids)) (len:=kids.length) (λi s=>s.length<=1048576*b8 (kids.take i)/\∀z∈s,dC z=true) (λi s hi hI k=>?_) (λs hI=>?_) 0 [] (by omega) ⟨by simp,by simp⟩
   ·show ae ((kT Pf) ⟨st,args⟩ ⟨23,w,0,[],a,kids⟩ s i) _;obtain⟨x,hx⟩:=bo hi;have hm:=aV hx;have hcx:=lD hm;have ht':=P0 hx;have hle:= @aaK kids (i+1);have ix:=ik x hm (ht.bV hm) (by omega);have hx1:1<=bI x:=by rw[gU];omega
    have hsx:=hso x hm;have:decide (i<kids.length)=true:=by simpa using hi
    rw[SR,oS,Gd];simp only[ab.aH];rw[a7,this,aB,bf hx,au,bW i (by omega)];refine ae.bind ix (λy hy=>?_);obtain⟨d,rfl,hd,hdn⟩:=hy.dS (by rcases hsx with h|h<;>omega);rcases hsx with h|h
    ·rw[h]at hd;obtain⟨z0,rfl,gn⟩:∃z0,d=⟨3,0,z0,[]⟩/\dC z0=true:=by cases hd with|name g=>exact⟨_,rfl,g⟩
     simp only[Int.reduceBEq,aB,aC];rw[eN (by simp;omega),aB,eN (by simp;omega),aB];refine k _ ⟨by simp;omega,λz hz=>?_⟩;simp at hz;rcases hz with hz|rfl
     ·exact hI.2 z hz
     ·exact gn
    ·rw[h]at hd;obtain⟨ns,rfl,gn⟩:∃ns,d=⟨4,0,[],ns⟩/\∀z∈ns,dC z=true:=by cases hd with|set _ g=>exact⟨_,rfl,g⟩
     simp only[Int.reduceBEq,aB,aC];simp only at hdn;rw[eN (by rw[kp];omega),aB];refine k _ ⟨by rw[kp];omega,λz hz=>?_⟩;rcases b7.1 hz with hz|hz
     ·exact hI.2 z hz
     ·exact gn z hz
   ·show ae ((kT Pf) ⟨st,args⟩ ⟨23,w,0,[],a,kids⟩ s kids.length) _;rw[eV]at hI;have:decide (kids.length<kids.length)=false:=by simp
    rw[SR,oS,Gd];simp only[ab.aH];have fl:(s.filter λz=>eF w.aD.Names z).length<=s.length:=DK _ _;rw[a7,this,aC,ae8 (by omega) (by omega),au,Ar (by omega),au];have nl:= @um (s.filter λz=>eF w.aD.Names z);have np:km w.aD.Names (fh (s.filter λz=>eF w.aD.Names z)):=⟨H7,λz hz=>by
     rw[Ry,iN]at hz;exact⟨hI.2 z hz.1,yM.1 hz.2⟩⟩
    rcases hkk with h4|h10
    ·rw[h4];simp only[Int.reduceBEq,aC];have hR:w.aD.bO=[]:=by have:=tl.1.shape;unfold iQ at this;simp[h4]at this;exact this.2.1
     exact ae.ret ⟨.set (.inl h4) np (by rw[hR];simp[mB]),by omega⟩
    ·rw[h10];simp only[Int.reduceBEq,aB];have hnn:w.aD.Names≠[]:=by have:=tl.1.shape;unfold iQ at this;simp[h10]at this;exact this.2.1
     have hLN:=tl.1.names;have hl2:w.aD.bO.length<=32:=tl.1.KZ.2;refine ae.bind (Rz (hLN.2.1 (by omega)) (by omega) hLN.1 (RA tl.1) (by omega) H7 (by omega) (λz hz=>(np.2 z hz).2.resolve_left hnn)) (λy hy=>ae.ret ?_);obtain⟨_,y1,y2,c1,c2,c3,c4⟩:=hy;exact⟨.set (.inr h10) ⟨y1,λz hz=>⟨hLN.1 z (c1 z hz),.inr (c1 z hz)⟩⟩ c3,by omega⟩
  refine ae.bind main (λr hr=>ae.ret (.v h0 hr.1 (.mk (by simp only;omega) (by simp) (by simp) (by simp) (by simp))))
 | @map kids p a w h0 hk5 _ hp wk wv i1 i2=>
  intro ht hk;have tw:bx B w:=ht.ty;have tl:=tw.dz h0;obtain⟨q,hq⟩:=vy tl.1 hk5;rw[hq]at hp;simp only[jP,aE]at hp;subst hp;have pm:q∈w.aD.ai:=by rw[hq];simp
  have pL:=tl.1.part pm;have po:=oR tl.2 pm;have hLn:w.aD.Names.length<=B:=by have:=tl.2;rw[ag.dK]at this;exact this.2.2.2.1.1
  have ce:bI ⟨24,w,0,[],a,kids.flatMap λq=>[q.1,q.2]⟩=1+b8 (kids.flatMap λq=>[q.1,q.2]):=by rw[bI]
  have ht1:∀{k},k∈(kids.flatMap λq=>[q.1,q.2])->TT B k:=λh=>ht.bV h;rw[ce]at hk⊢;generalize hK:(kids.flatMap λq=>[q.1,q.2])=K at*
  have hKl:K.length=2*kids.length:=by rw[<-hK];exact zf
  have hsq:ew kids<=b8 K:=by rw[<-hK];exact JI
  have hKc:K.length<=b8 K:=tZ;refine qn (by show(21:Int)<=24;decide) (by show(24:Int)<=28;decide) ?_;rw[oA,kb];simp only[Int.reduceBEq,aB,aC];refine eo (L:=λ(j:Int) s=>(jw Pf) ⟨st,args⟩ ⟨24,w,0,[],a,K⟩ (2*j) s) (P:=RV w ((1+b8 K)*1048576)) (len:=kids.length) (λj s=>VE w.aD s/\BV (1048576*(1+ew (kids.take j))) s) (λj s hj hI k=>?_) (λs hI=>?_) 0 ⟨0,[],[],[]⟩ (by omega) ⟨.map hk5 hq ⟨by simp[rising],by simp⟩ rfl (by simp) (by simp),.mk (by simp) (by simp) (by simp) (by simp) (by simp)⟩
  ·show ae ((jw Pf) ⟨st,args⟩ ⟨24,w,0,[],a,K⟩ (2*(j:Int)) s) _;have k':∀b',VE w.aD b'/\BV (1048576*(1+ew (kids.take (j+1)))) b'->ae ((jw Pf) ⟨st,args⟩ ⟨24,w,0,[],a,K⟩ (2*((j+1:Nat):Int)) b') (RV w ((1+b8 K)*1048576)):=k;obtain⟨e,he⟩:=bo hj;have hm:=aV he;have fg:=uk (f:=λq:ab×ab=>q.1) (g:=λq:ab×ab=>q.2) he;have hsum:=acz he;have hsle:= @aaX kids (j+1);rw[hK]at fg;have m1:=aV fg.1;have m2:=aV fg.2;have c1:=lD m1;have c2:=lD m2;have t1:=i1 e hm (ht1 m1) (by omega);have t2:=i2 e hm (ht1 m2) (by omega);rw[(wk e hm).ty rfl]at t1;rw[(wv e hm).ty (bx.of pL po).eW]at t2;have z1:(2*(j:Int))=((2*j:Nat):Int):=by omega
   have z2:IntKind.i64.wrap (((2*j:Nat):Int)+1)=((2*j+1:Nat):Int):=bW _ (by omega);have z3:IntKind.i64.wrap (((2*j:Nat):Int)+2)=2*((j+1:Nat):Int):=by rw[wrap64 (by omega) (by omega)];omega
   have hlt:decide (2*j<K.length)=true:=by simp;omega
   rw[z1,E4,mN];simp only[ab.aH];rw[a7,hlt,aB,z2,z3];refine ae.bind (mP (bf fg.1) t1) (λy1 h1=>ae.bind (mP (bf fg.2) t2) (λy2 h2=>?_));obtain⟨nm,rfl,hnm⟩:=h1.name;obtain⟨v,rfl,v2,v3⟩:=h2.val rfl;have v2:VE q v:=v2;have hup:∀{b'},BV (1048576*(1+ew (kids.take j))) b'->BV (1048576*(1+ew (kids.take (j+1)))) b':=λh=>h.mono (by omega);rw[DZ (by omega),au];refine ae.bif (λ_=>k' _ ⟨hI.1,hup hI.2⟩) (λhal=>?_);have hal:=yM.1 (by simpa using hal);rw[hq,eO,au];obtain⟨r,e3,hr⟩:=Pk (v:=v) hB po pL (v2.sv (by omega) v3);rw[e3,au];refine ae.bif (λ_=>k' _ ⟨hI.1,hup hI.2⟩) (λhnb=>?_);have hnb:v≠bot q:=λe=>by rw[hr.2 e]at hnb;cases hnb
   have e1:VE w.aD ⟨0,[nm],[v],[]⟩:= .map hk5 hq ⟨by simp[rising],λz hz=>by simp at hz;subst hz;exact⟨hnm,hal⟩⟩ rfl (λu hu=>by simp at hu;subst hu;exact v2) (λu hu=>by simp at hu;subst hu;exact hnb);have hc1:1<=bI e.2:=by rw[gU];omega
   have b1:BV (bI e.2*1048576) ⟨0,[nm],[v],[]⟩:= .mk (by simp;omega) (by simp;omega) (by simp) (by simp) (λu hu=>by simp at hu;subst hu;exact v3);refine ae.bind (jn tw h0 (by omega) (by omega) (by omega) hI.1 e1 hI.2 b1) (λy hy=>k' _ ⟨hy.1,hy.2.mono (by omega)⟩)
  ·show ae ((jw Pf) ⟨st,args⟩ ⟨24,w,0,[],a,K⟩ (2*(kids.length:Int)) s) _;have z1:(2*(kids.length:Int))=((2*kids.length:Nat):Int):=by omega
   have hlt:decide (2*kids.length<K.length)=false:=by simp;omega
   rw[eV]at hI;rw[z1,E4,mN];simp only[ab.aH];rw[a7,hlt,aC];exact ae.ret (.v h0 hI.1 (hI.2.mono (by omega)))
 | @sT kids a w h0 hk6 _ hl wk ik=>
  intro ht hk;have tw:bx B w:=ht.ty;have ce:bI ⟨25,w,0,[],a,kids⟩=1+b8 kids:=by rw[bI]
  have hKc:kids.length<=b8 kids:=tZ;rw[ce]at hk⊢;refine qn (by show(21:Int)<=25;decide) (by show(25:Int)<=28;decide) ?_;rw[oA,kb];simp only[Int.reduceBEq,aB,aC];refine eo (L:=λi s=>(jV Pf) ⟨st,args⟩ ⟨25,w,0,[],a,kids⟩ i s) (P:=RV w ((1+b8 kids)*1048576)) (len:=kids.length) (λi s=>s.length=i/\(∀(j:Nat) v p,s[j]? =some v->w.aD.ai[j]? =some p->VE p v)/\∀v∈s,BV ((1+b8 kids)*1048576) v) (λi s hi hI k=>?_) (λs hI=>?_) 0 [] (by omega) ⟨rfl,by simp,by simp⟩
  ·show ae ((jV Pf) ⟨st,args⟩ ⟨25,w,0,[],a,kids⟩ i s) _;obtain⟨x,hx⟩:=bo hi;obtain⟨p,hp⟩:=bo (l:=w.aD.ai) (i:=i) (by omega);have hm:=aV hx;have hcx:=lD hm;have pm:=aV hp;have t1:=ik i x p hx hp (ht.bV hm) (by omega);rw[(wk i x p hx hp).ty (jd tw h0 pm).eW]at t1;have:decide (i<kids.length)=true:=by simpa using hi
   rw[E5,mO];simp only[ab.aH];rw[a7,this,aB,bW i (by omega)];refine ae.bind (mP (bf hx) t1) (λy hy=>?_);obtain⟨v,rfl,v2,v3⟩:=hy.val rfl;have v2:VE p v:=v2;obtain⟨g1,g2,g3⟩:=hI;rw[eN (by simp;omega),aB];refine k _ ⟨by simp[g1],λj u p' h1 h2=>?_,λu hu=>?_⟩
   ·by_cases hj:j<i
    ·rw[mF (by omega)]at h1;exact g2 j u p' h1 h2
    ·have:j=i:=by
      have:=(cr.1 h1).1;simp at this;omega
     subst this;rw[hp]at h2;cases h2;rw[<-g1,aaw]at h1;cases h1;exact v2
   ·rcases b7.1 hu with hu|hu
    ·exact g3 u hu
    ·simp at hu;subst hu;exact v3.mono (gg _ (by omega))
  ·show ae ((jV Pf) ⟨st,args⟩ ⟨25,w,0,[],a,kids⟩ kids.length s) _;have:decide (kids.length<kids.length)=false:=by simp
   rw[E5,mO];simp only[ab.aH];rw[a7,this,aC];exact ae.ret (.v h0 (.prod (.inl hk6) (by omega) hI.2.1) (.mk (by simp) (by simp only;omega) (by simp) (by simp) hI.2.2))
 | @pair x y p q a w h0 hk7 hp hq wx wy ix iy=>
  intro ht hk;have tw:bx B w:=ht.ty;have h3:= @k2 26 w 0 [] a x y;have pm:=aV hp;have qm:=aV hq;have ix:=ix (ht.bV (by simp)) (by omega);have iy:=iy (ht.bV (by simp)) (by omega);rw[wx.ty (jd tw h0 pm).eW]at ix;rw[wy.ty (jd tw h0 qm).eW]at iy;obtain⟨p',q',hpq⟩:=As (tw.dz h0).1 hk7;rw[hpq]at hp hq;simp only[jP,aE,nD]at hp hq;subst hp;subst hq;have i0:IntKind.i64.wrap ((0:Int)+1)=1:=by decide
  have i1:IntKind.i64.wrap ((1:Int)+1)=2:=by decide
  refine qn (by show(21:Int)<=26;decide) (by show(26:Int)<=28;decide) ?_;rw[oA,kb];simp only[Int.reduceBEq,aB,aC];rw[JN,nS];simp only[ab.aH];rw[show decide ((0:Int)<(([x,y]:List ab).length:Int))=true by rfl,aB,i0];refine ae.bind (mP rfl ix) (λy1 h1=>?_);obtain⟨v,rfl,v2,v3⟩:=h1.val rfl;rw[eN (by simp),aB,JN,nS];simp only[ab.aH];rw[show decide ((1:Int)<(([x,y]:List ab).length:Int))=true by rfl,aB,i1];refine ae.bind (mP rfl iy) (λy2 h2=>?_);obtain⟨u,rfl,u2,u3⟩:=h2.val rfl;rw[eN (by simp),aB,JN,nS];simp only[ab.aH];rw[show decide ((2:Int)<(([x,y]:List ab).length:Int))=false by rfl,aC];have:= @one x;refine ae.ret (.v h0 (U4 hk7 hpq v2 u2) (.mk (by simp) (by simp;omega) (by simp) (by simp) (λz hz=>?_)));simp at hz;rcases hz with rfl|rfl
  ·exact v3.mono (gg _ (by omega))
  ·exact u3.mono (gg _ (by omega))
