/- Evaluation of well-typed expressions answers, and with a value of the type. -/
import Derived.Test.YtmbalfjhlngncaaGreatKKi
set_option linter.all false
namespace Go.Proofs.YtmbalfjhlngncaaGreat
open Go Go.Bw
theorem wS {α β:Type} {f g:α->β}:∀{l:List α} {j:Nat} {q:α},l[j]? =some q->(l.flatMap λq=>[f q,g q])[2*j]? =some (f q)/\(l.flatMap λq=>[f q,g q])[2*j+1]? =some (g q)
 |a::l,0,q,h=>by
  simp only[jj,aC]at h;subst h;exact⟨rfl,rfl⟩
 |a::l,j+1,q,h=>by
  simp only[pQ]at h;exact wS (l:=l) h
theorem PJ {α β:Type} {f g:α->β}:∀{l:List α},(l.flatMap λq=>[f q,g q]).length=2*l.length
 |[]=>rfl
 |a::l=>by
  have:=PJ (f:=f) (g:=g) (l:=l);rw[BN,jB,this];simp;omega
def fi:List (ae×ae)->Nat
 |[]=>0
 |q::l=>cz q.2+fi l
theorem QP:∀{l:List (ae×ae)},fi l<=cU (l.flatMap λq=>[q.1,q.2])
 |[]=>by simp[fi,cU]
 |q::l=>by
  have:=QP (l:=l);rw[BN,Ct,fi];simp[cU];omega
theorem G1:∀{a b:List (ae×ae)},fi (a++b)=fi a+fi b
 |[],b=>by simp[fi]
 |x::a,b=>by rw[ke,fi,fi,G1];omega
theorem aaN {l:List (ae×ae)} {i:Nat} {q:ae×ae} (h:l[i]? =some q):fi (l.take (i+1))=fi (l.take i)+cz q.2:=by
 rw[eY,h,G1];simp[fi]
theorem Y8 {l:List (ae×ae)} {i:Nat}:fi (l.take i)<=fi l:=by
 have:fi l=fi (l.take i)+fi (l.drop i):=by rw[<-G1,BK]
 omega
section
variable {B:Nat} (hB:B<=1048576) {c:cx} (hc:CE B c) {st:af} {args:List aR} (hst:VE c.l st) (bst:BV 1048576 st) (hargs:∀(i:Nat) p,c.params[i]? =some p->∃d,args[i]? =some d/\DV p.aX d/\d.Names.length<=1048576)
include hB
theorem Gk {l:ah} (hl:l.ok B) (hL:cj l):(f140 Pf) l=some (bot l):=by
 rw[afq,yM,OV hB hl hL];rfl
theorem aaO {p:ah} {ps:List af} {v:af} (hv:v.aj=ps) (hk:p.Kind=2\/p.Kind=3) (hL:cj p) (h:∀x∈ps,VE p x) (hl:ps.length<=274877906944):ab ((f152 Pf) v) (λr=> -1000000000000000<=r/\r<=1000000000000000):=by
 subst hv;rw[afr,uT];refine dX (L:=λi s=>(ql Pf) v s i) (P:=λr=> -1000000000000000<=r/\r<=1000000000000000) (len:=v.aj.length) (λ_ s=> -1000000000000000<=s/\s<=1000000000000000) (λi s hi hI k=>?_) (λs hI=>?_) 0 (0:Int) (by omega) (by omega)
 ·show ab ((ql Pf) v s i) _;obtain⟨x,hx⟩:=bw hi;have:decide (i<v.aj.length)=true:=by simpa using hi
  rw[QQ,sT,af.aI,a6,this,aD,bg hx,aw,bM i (by omega)];exact ab.bind (QR _) (λy hy=>k y hy)
 ·show ab ((ql Pf) v s v.aj.length) _;have:decide (v.aj.length<v.aj.length)=false:=by simp
  rw[QQ,sT,af.aI,a6,this,aF];exact ab.ret hI
include hc hst bst hargs
theorem abO {x:ae} {w:aP} (h:W c.l c.params x w):TT B x->cz x<=60000->ab ((f50 Pf) ⟨st,args⟩ x) (RV x.aK (cz x*1048576)):=by
 have one:∀{x:ae},1048576<=cz x*1048576:=λ{x}=>by rw[qk];omega
 have k1:∀{o:Int} {t:aP} {n:Int} {tx:List UInt8} {a:Int} {x:ae},cz x<cz ⟨o,t,n,tx,a,[x]⟩:=λ{o t n tx a x}=>abS (by simp);have k2:∀{o:Int} {t:aP} {n:Int} {tx:List UInt8} {a:Int} {x y:ae},cz x+cz y<cz ⟨o,t,n,tx,a,[x,y]⟩:=λ{o t n tx a x y}=>by rw[cz];simp only[cU];omega
 have k3:∀{o:Int} {t:aP} {n:Int} {tx:List UInt8} {a:Int} {x y z:ae},cz x+cz y+cz z<cz ⟨o,t,n,tx,a,[x,y,z]⟩:=λ{o t n tx a x y z}=>by rw[cz];simp only[cU];omega
 have jn:∀{t:aP} {u v:af} {m n:Nat},bB B t->t.aX=0->64<=m->m<=137438953472->n<=137438953472->VE t.aL u->VE t.aL v->BV m u->BV n v->ab ((f68 Pf) t.aL u v) (λr=>VE t.aL r.1/\BV (m+n) r.1):=λht hs h0 h1 h2 hu hv bu bv=>
  (PK hB (ht.dS hs).2 (ht.dS hs).1 hu hv (bu.mono h1) (bv.mono h2)).mono λr hr=>⟨hr.2.1.ve,hr.2.2 _ _ h0 bu bv⟩
 have lq:∀{t:aP} {u v:af} {m n:Nat},bB B t->t.aX=0->m<=137438953472->n<=137438953472->VE t.aL u->VE t.aL v->BV m u->BV n v->∃r,(f69 Pf) t.aL u v=some r:=λht hs h1 h2 hu hv bu bv=>by
  obtain⟨r,e,_⟩:=adq hB (ht.dS hs).2 (ht.dS hs).1 hu hv (hu.sv (by omega) bu) (hv.sv (by omega) bv);exact⟨r,e⟩
 induction h with
 |int h0 h1 _=>
  intro _ _;refine sU (by show(1:Int)<=6;decide) ?_;rw[vK,kF];simp only[Int.reduceBEq,aD,aF];exact ab.id (xm h0 h1)
 |bool _ _=>
  intro _ _;refine sU (by show(2:Int)<=6;decide) ?_;rw[vK,kF];simp only[Int.reduceBEq,aD,aF];exact ab.id iN
 |name hn _=>
  intro _ _;refine sU (by show(3:Int)<=6;decide) ?_;rw[vK,kF];simp only[Int.reduceBEq,aD,aF];exact ab.ret (.d (by show(3:Int)≠0;decide) (.name (HD.2 hn)) (by simp))
 |param hp _=>
  intro _ _;refine sU (by show(4:Int)<=6;decide) ?_;rw[vK,kF];simp only[Int.reduceBEq,aD,aF];obtain⟨d,hd,dv,dn⟩:=hargs _ _ hp;have hs:=hc.par _ (a7 hp);rw[bg hd,aw];exact ab.ret (.d (by show _≠(0:Int);simp only[bm];omega) dv (iM dn one))
 |state _=>
  intro _ _;refine sU (by show(5:Int)<=6;decide) ?_;rw[vK,kF];simp only[Int.reduceBEq,aD,aF];exact ab.ret (.v rfl hst (bst.mono one))
 |uk h0 hn=>
  intro ht _;refine sU (by show(6:Int)<=6;decide) ?_;rw[vK,kF];simp only[Int.reduceBEq,aD,aF];have hl:=ht.ty.dS h0;rw[Gk hB hl.2 hl.1,aw];exact ab.ret (.v h0 (xM hl.1) ((DS hB _ hl.2).mono one))
 | @IW cc x y a w hn wc wx wy ic ix iy=>
  intro ht hk;have h3:= @k3 7 w 0 [] a cc x y;have ec:=wc.ty (by rfl);have ex:=wx.ty hn;have ey:=wy.ty hn;have ic:=ic (ht.cu (by simp)) (by omega);have ix:=ix (ht.cu (by simp)) (by omega);have iy:=iy (ht.cu (by simp)) (by omega);rw[ec]at ic;rw[ex]at ix;rw[ey]at iy;refine jO (by show(7:Int)<=7;decide) (by show(7:Int)<=18;decide) ?_;rw[jZ,gu];simp only[Int.reduceBEq,aD,aF];refine ab.bind (dQ rfl ic) (λy3 h3'=>?_);exact ab.bif (λ_=>ab.id (dQ rfl (ix.mono λr hr=>hr.mono (fE _ (by omega))))) (λ_=>ab.id (dQ rfl (iy.mono λr hr=>hr.mono (fE _ (by omega)))))
 | @IX cc x y a w hn wc wx wy ic ix iy=>
  intro ht hk;have h3:= @k3 7 x.aK 0 [] a cc x y;have ec:=wc.ty (by rfl);have tx:=(ht.cu (k:=x) (by simp)).ty;have ey:=wy.ty tx.ir;have ic:=ic (ht.cu (by simp)) (by omega);have ix:=ix (ht.cu (by simp)) (by omega);have iy:=iy (ht.cu (by simp)) (by omega);rw[ec]at ic;rw[ey]at iy;refine jO (by show(7:Int)<=7;decide) (by show(7:Int)<=18;decide) ?_;rw[jZ,gu];simp only[Int.reduceBEq,aD,aF];refine ab.bind (dQ rfl ic) (λy3 h3'=>?_);exact ab.bif (λ_=>ab.id (dQ rfl (ix.mono λr hr=>hr.mono (fE _ (by omega))))) (λ_=>ab.id (dQ rfl (iy.mono λr hr=>hr.mono (fE _ (by omega)))))
 | @IY cc x y a w hn wc wy wx ic iy ix=>
  intro ht hk;have h3:= @k3 7 x.aK 0 [] a cc x y;have ec:=wc.ty (by rfl);have ty:=(ht.cu (k:=y) (by simp)).ty;have ex:=wx.ty ty.ir;have ic:=ic (ht.cu (by simp)) (by omega);have ix:=ix (ht.cu (by simp)) (by omega);have iy:=iy (ht.cu (by simp)) (by omega);rw[ec]at ic;rw[<-ex]at iy;refine jO (by show(7:Int)<=7;decide) (by show(7:Int)<=18;decide) ?_;rw[jZ,gu];simp only[Int.reduceBEq,aD,aF];refine ab.bind (dQ rfl ic) (λy3 h3'=>?_);exact ab.bif (λ_=>ab.id (dQ rfl (ix.mono λr hr=>hr.mono (fE _ (by omega))))) (λ_=>ab.id (dQ rfl (iy.mono λr hr=>hr.mono (fE _ (by omega)))))
 | @conn op x y a w ho wx wy _ ix iy=>
  intro ht hk;have h3:= @k2 op (bm 2) 0 [] a x y;have ex:=wx.ty (by rfl);have ey:=wy.ty (by rfl);have ix:=ix (ht.cu (by simp)) (by omega);have iy:=iy (ht.cu (by simp)) (by omega);rw[ex]at ix;rw[ey]at iy;refine jO (by show(7:Int)<=op;omega) (by show op<=18;omega) ?_;rw[jZ,gu];rcases ho with rfl|rfl<;>simp only[Int.reduceBEq,aD,aF]
  ·refine ab.bind (dQ rfl ix) (λy3 h3'=>ab.bif (λ_=>ab.id iN) (λ_=>?_));exact ab.bind (dQ rfl iy) (λ_ _=>ab.id iN)
  ·refine ab.bind (dQ rfl ix) (λy3 h3'=>ab.bif (λ_=>?_) (λ_=>ab.id iN));exact ab.bind (dQ rfl iy) (λ_ _=>ab.id iN)
 | @not x a w wx _ ix=>
  intro ht hk;have h3:= @k1 10 (bm 2) 0 [] a x;have ix:=ix (ht.cu (by simp)) (by omega);refine jO (by show(7:Int)<=10;decide) (by show(10:Int)<=18;decide) ?_;rw[jZ,gu];simp only[Int.reduceBEq,aD,aF];exact ab.bind (dQ rfl ix) (λ_ _=>ab.id iN)
 | @less op x y a w ho wx wy _ ix iy=>
  intro ht hk;have h3:= @k2 op (bm 2) 0 [] a x y;have ix:=ix (ht.cu (by simp)) (by omega);have iy:=iy (ht.cu (by simp)) (by omega);refine jO (by show(7:Int)<=op;omega) (by show op<=18;omega) ?_;rw[jZ,gu];rcases ho with rfl|rfl<;>simp only[Int.reduceBEq,aD,aF]<;>exact ab.bind (dQ rfl ix) (λ_ _=>ab.bind (dQ rfl iy) (λ_ _=>ab.id iN))
 | @equal x y a w wx hs wy _ ix iy=>
  intro ht hk;have h3:= @k2 13 (bm 2) 0 [] a x y;have tx:=(ht.cu (k:=x) (by simp)).ty;have ey:=wy.ty tx.ir;have ix:=ix (ht.cu (by simp)) (by omega);have iy:=iy (ht.cu (by simp)) (by omega);rw[ey]at iy;refine jO (by show(7:Int)<=13;decide) (by show(13:Int)<=18;decide) ?_;rw[jZ,gu];simp only[Int.reduceBEq,aD,aF];refine ab.bind (dQ rfl ix) (λy1 h1=>ab.bind (dQ rfl iy) (λy2 h2=>?_));obtain⟨d1,rfl,_,n1⟩:=h1.dj hs;obtain⟨d2,rfl,_,n2⟩:=h2.dj hs;refine ab.bif (λ_=>ab.bif (λ_=>?_) (λ_=>ab.id iN)) (λ_=>ab.id iN);obtain⟨r,e,_⟩:=abT (a:=d1.Names) (b:=d2.Names) (by omega) (by omega);rw[e,aw];exact ab.id iN
 | @IZ x y a w wx wy _ ix iy=>
  intro ht hk;have h3:= @k2 14 (bm 2) 0 [] a x y;have ey:=wy.ty (by rfl);have ix:=ix (ht.cu (by simp)) (by omega);have iy:=iy (ht.cu (by simp)) (by omega);rw[ey]at iy;refine jO (by show(7:Int)<=14;decide) (by show(14:Int)<=18;decide) ?_;rw[jZ,gu];simp only[Int.reduceBEq,aD,aF];refine ab.bind (dQ rfl iy) (λy2 h2=>ab.bind (dQ rfl ix) (λy1 h1=>?_));obtain⟨ns,rfl,_,_,nl⟩:=h2.set
  rw[has_eq _ _ (by show ns.length<_;omega),aw];exact ab.id iN
 | @I0 x y a w wx hs wy _ ix iy=>
  intro ht hk;have h3:= @k2 15 (bm 2) 0 [] a x y;have tx:=(ht.cu (k:=x) (by simp)).ty;have ey:=wy.ty tx.ir;have ix:=ix (ht.cu (by simp)) (by omega);have iy:=iy (ht.cu (by simp)) (by omega);rw[ey]at iy;refine jO (by show(7:Int)<=15;decide) (by show(15:Int)<=18;decide) ?_;rw[jZ,gu];simp only[Int.reduceBEq,aD,aF];rw[dZ,aw];refine ab.bind (dQ rfl ix) (λy1 h1=>ab.bind (dQ rfl iy) (λy2 h2=>?_));obtain⟨v1,rfl,v2,v3⟩:=h1.val hs;obtain⟨u1,rfl,u2,u3⟩:=h2.val hs;obtain⟨r,e⟩:=lq tx hs (by omega) (by omega) v2 u2 v3 u3;rw[e,aw];exact ab.id iN
 | @I1 x y a w wy hs wx _ iy ix=>
  intro ht hk;have h3:= @k2 15 (bm 2) 0 [] a x y;have ty:=(ht.cu (k:=y) (by simp)).ty;have ex:=wx.ty ty.ir;have ix:=ix (ht.cu (by simp)) (by omega);have iy:=iy (ht.cu (by simp)) (by omega);rw[<-ex]at iy hs ty;refine jO (by show(7:Int)<=15;decide) (by show(15:Int)<=18;decide) ?_;rw[jZ,gu];simp only[Int.reduceBEq,aD,aF];rw[dZ,aw];refine ab.bind (dQ rfl ix) (λy1 h1=>ab.bind (dQ rfl iy) (λy2 h2=>?_));obtain⟨v1,rfl,v2,v3⟩:=h1.val hs;obtain⟨u1,rfl,u2,u3⟩:=h2.val hs;obtain⟨r,e⟩:=lq ty hs (by omega) (by omega) v2 u2 v3 u3;rw[e,aw];exact ab.id iN
 | @Iy x y a w hn hs wx wy ix iy=>
  intro ht hk;have h3:= @k2 16 w 0 [] a x y;have ex:=wx.ty hn;have ey:=wy.ty hn;have ix:=ix (ht.cu (by simp)) (by omega);have iy:=iy (ht.cu (by simp)) (by omega);rw[ex]at ix;rw[ey]at iy;have tt:bB B w:=ht.ty;refine jO (by show(7:Int)<=16;decide) (by show(16:Int)<=18;decide) ?_;rw[jZ,gu];simp only[Int.reduceBEq,aD,aF];refine ab.bind (dQ rfl ix) (λy1 h1=>ab.bind (dQ rfl iy) (λy2 h2=>?_));obtain⟨v1,rfl,v2,v3⟩:=h1.val hs;obtain⟨u1,rfl,u2,u3⟩:=h2.val hs;have:= @one x;refine ab.bind (jn tt hs (by omega) (by omega) (by omega) v2 u2 v3 u3) (λy hy=>ab.ret (.v hs hy.1 (hy.2.mono ?_)));rw[<-gV];exact fE _ (by omega)
 | @Iz x y a w hn wx hs wy ix iy=>
  intro ht hk;have h3:= @k2 16 x.aK 0 [] a x y;have tx:=(ht.cu (k:=x) (by simp)).ty;have ey:=wy.ty tx.ir;have ix:=ix (ht.cu (by simp)) (by omega);have iy:=iy (ht.cu (by simp)) (by omega);rw[ey]at iy;refine jO (by show(7:Int)<=16;decide) (by show(16:Int)<=18;decide) ?_;rw[jZ,gu];simp only[Int.reduceBEq,aD,aF];refine ab.bind (dQ rfl ix) (λy1 h1=>ab.bind (dQ rfl iy) (λy2 h2=>?_));obtain⟨v1,rfl,v2,v3⟩:=h1.val hs;obtain⟨u1,rfl,u2,u3⟩:=h2.val hs;have:= @one x;refine ab.bind (jn tx hs (by omega) (by omega) (by omega) v2 u2 v3 u3) (λy hy=>ab.ret (.v hs hy.1 (hy.2.mono ?_)));rw[<-gV];exact fE _ (by omega)
 | @IA x y a w hn wy hs wx iy ix=>
  intro ht hk;have h3:= @k2 16 x.aK 0 [] a x y;have ty:=(ht.cu (k:=y) (by simp)).ty;have ex:=wx.ty ty.ir;have ix:=ix (ht.cu (by simp)) (by omega);have iy:=iy (ht.cu (by simp)) (by omega);rw[<-ex]at iy hs ty;refine jO (by show(7:Int)<=16;decide) (by show(16:Int)<=18;decide) ?_;rw[jZ,gu];simp only[Int.reduceBEq,aD,aF];refine ab.bind (dQ rfl ix) (λy1 h1=>ab.bind (dQ rfl iy) (λy2 h2=>?_));obtain⟨v1,rfl,v2,v3⟩:=h1.val hs;obtain⟨u1,rfl,u2,u3⟩:=h2.val hs;have:= @one x;refine ab.bind (jn ty hs (by omega) (by omega) (by omega) v2 u2 v3 u3) (λy hy=>ab.ret (.v hs hy.1 (hy.2.mono ?_)));rw[<-gV];exact fE _ (by omega)
 | @Eh op x y a w ho wx wy _ ix iy=>
  intro ht hk;have h3:= @k2 op (bm 1) 0 [] a x y;have ix:=ix (ht.cu (by simp)) (by omega);have iy:=iy (ht.cu (by simp)) (by omega);refine jO (by show(7:Int)<=op;omega) (by show op<=18;omega) ?_;rw[jZ,gu];rcases ho with rfl|rfl<;>simp only[Int.reduceBEq,aD,aF]<;>exact ab.bind (dQ rfl ix) (λ_ _=>ab.bind (dQ rfl iy) (λ_ _=>ab.bind (QR _) (λz hz=>ab.id (xm hz.1 hz.2))))
 | @field x i p a w wx hs hk6 hi hp _ ix=>
  intro ht hk;have h3:= @k1 19 (dD p) i [] a x;have ix:=ix (ht.cu (by simp)) (by omega);refine HE (.inl rfl) ?_;rw[LB,n9];simp only[Int.reduceBEq,aD,aF];rw[dZ,aw];refine ab.bind ix (λy1 h1=>?_);obtain⟨v1,rfl,v2,v3⟩:=h1.val hs;obtain⟨ps,rfl,hl,hv⟩:=v2.k6 (.inl hk6);obtain⟨z,hz⟩:=bw (l:=ps) (i:=i) (by have:=(b9.1 hp).1;omega);show ab ((ao ps (i:Int)).bind _) _;rw[bg hz,aw];exact ab.ret (.v rfl (hv i z p hz hp) ((v3.part (a7 hz)).mono (fE _ (by omega))))
 | @at_ x k p a w wx hs hk5 hp wk _ ix ik=>
  intro ht hk;have h3:= @k2 20 (dD p) 0 [] a x k;have ek:=wk.ty (by rfl);have ix:=ix (ht.cu (by simp)) (by omega);have ik:=ik (ht.cu (by simp)) (by omega);rw[ek]at ik;have tx:=(ht.cu (k:=x) (by simp)).ty;refine HE (.inr (.inl rfl)) ?_;rw[LB,n9];simp only[Int.reduceBEq,aD,aF];rw[dZ,aw];refine ab.bind ix (λy1 h1=>?_);obtain⟨v1,rfl,v2,v3⟩:=h1.val hs;obtain⟨q,ns,ps,hq,rfl,hN,hlen,hv,_⟩:=v2.k5 hk5;rw[hq]at hp;simp only[jj,aC]at hp;subst hp;have qL:=(tx.dS hs).1.part (p:=q) (by rw[hq];simp);have qo:=sV (tx.dS hs).2 (p:=q) (by rw[hq];simp);rw[show ao [x,k] 1=some k from rfl,aw];refine ab.bind ik (λy2 h2=>?_);obtain⟨s,rfl,_⟩:=h2.name;have hn:=v3.names;simp only at hn⊢;rcases wD (a:=ns) (x:=s) (by omega)with⟨e1,_⟩|⟨j,e1,e2⟩
  ·rw[e1,aw,dM (by decide),aF];show ab (((f140 Pf) q).bind _) _;rw[Gk hB qo qL,aw];exact ab.ret (.v rfl (xM qL) ((DS hB _ qo).mono one))
  ·obtain⟨z,hz⟩:=kO hlen e2;rw[e1,aw,dI (by omega),aD,bg hz,aw];exact ab.ret (.v rfl (hv z (a7 hz)) ((v3.part (a7 hz)).mono (fE _ (by omega))))
 | @flag x a w h0 hk1 wx ix=>
  intro ht hk;have h3:= @k1 21 w 0 [] a x;have ex:=wx.ty (by rfl);have ix:=ix (ht.cu (by simp)) (by omega);rw[ex]at ix;refine o9 (by show(21:Int)<=21;decide) (by show(21:Int)<=28;decide) ?_;rw[pK,ka];simp only[Int.reduceBEq,aD,aF];refine ab.bind (lK rfl ix) (λy1 h1=>?_);obtain⟨n,rfl,hn⟩:=h1.bool;exact ab.ret (.v h0 (.flag hk1 hn) (.mk (by simp) (by simp) (by simp) (by simp) (by simp)))
 | @num x a w h0 hk1 wx ix=>
  intro ht hk;have h3:= @k1 22 w 0 [] a x;have ix:=ix (ht.cu (by simp)) (by omega);have tw:bB B w:=ht.ty;have hr:=(tw.dS h0).1.range;refine o9 (by show(21:Int)<=22;decide) (by show(22:Int)<=28;decide) ?_;rw[pK,ka];simp only[Int.reduceBEq,aD,aF];refine ab.bind (lK rfl ix) (λy1 h1=>ab.ret (.v h0 (.num hk1 ?_ ?_) (.mk (by simp) (by simp) (by simp) (by simp) (by simp))))
  ·split<;>split<;>omega
  ·split<;>split<;>omega
 | @one x a w h0 hk8 wx ix=>
  intro ht hk;have h3:= @k1 27 w 0 [] a x;have ex:=wx.ty (by rfl);have ix:=ix (ht.cu (by simp)) (by omega);rw[ex]at ix;have tw:bB B w:=ht.ty;have tl:=tw.dS h0;have hn:w.aL.Names.length<=B:=by have:=tl.2;rw[ah.dO]at this;exact this.2.2.2.1.1
  refine o9 (by show(21:Int)<=27;decide) (by show(27:Int)<=28;decide) ?_;rw[pK,ka];simp only[Int.reduceBEq,aD,aF];refine ab.bind (lK rfl ix) (λy1 h1=>?_);obtain⟨s,rfl,hs⟩:=h1.name;rw[F4 (by omega),aw];refine ab.bif (λ_=>?_) (λh=>?_)
  ·rw[Gk hB tl.2 tl.1,aw];exact ab.ret (.v h0 (xM tl.1) ((DS hB _ tl.2).mono one))
  ·have h:=Cu.1 (by simpa using h);exact ab.ret (.v h0 (.IB hk8 ⟨by simp[rising],λz hz=>by simp at hz;subst hz;exact⟨hs,h⟩⟩) (.mk (by simp;omega) (by simp) (by simp) (by simp) (by simp)))
 | @write x y z a w wx wy wz _ ix iy iz=>
  intro ht hk;have h3:= @k3 28 (dD eN) 0 [] a x y z;have ex:=wx.ty (by rfl);have ez:=wz.ty (by rfl);have ix:=ix (ht.cu (by simp)) (by omega);have iy:=iy (ht.cu (by simp)) (by omega);have iz:=iz (ht.cu (by simp)) (by omega);rw[ex]at ix;rw[ez]at iz;refine o9 (by show(21:Int)<=28;decide) (by show(28:Int)<=28;decide) ?_;rw[pK,ka];simp only[Int.reduceBEq,aD,aF];refine ab.bind (lK rfl ix) (λy1 h1=>ab.bind (lK rfl iy) (λy2 h2=>ab.bind (lK rfl iz) (λy3 h3'=>?_)));obtain⟨v1,rfl,v2,v3⟩:=h1.val rfl;obtain⟨s,rfl,hs⟩:=h3'.name;have:= @one x;have hz:1<=cz z:=by rw[qk];omega
  refine ab.bind (aaP hB (by omega) (by omega) (Dc B) v2 v3 hs) (λr hr=>ab.ret (.v rfl hr.1 (hr.2.mono ?_)));have:cz x*1048576+64<=(cz x+cz z)*1048576:=by rw[gV];omega
  exact iM this (fE _ (by omega))
 | @size x a w wx hsz _ ix=>
  intro ht hk;have h3:= @k1 29 (bm 1) 0 [] a x;have ix:=ix (ht.cu (by simp)) (by omega);refine H4 (.inl ⟨by show(29:Int)<=29;decide,by show(29:Int)<=34;decide⟩) ?_;rw[LC,oc];simp only[Int.reduceBEq,aD,aF];rw[dZ,aw];refine ab.bind ix (λy1 h1=>?_);have hb:y1.d.Names.length<=cz x*1048576/\y1.v.Names.length<=cz x*1048576/\y1.v.Entries.length<=cz x*1048576:=by
   cases h1 with
   |v _ _ b=>exact⟨by simp[zD],b.names,b.entries⟩
   |d _ _ b=>exact⟨b,by simp[zV],by simp[zV]⟩
  have e:(f151 Pf) y1=some (((y1.d.Names.length+y1.v.Names.length+y1.v.Entries.length:Nat):Int)):=by
   rw[afs,yO,bD,bD,ax.aI,wrap64 (x:=(y1.d.Names.length:Int)+_) (by omega) (by omega),wrap64 (by omega) (by omega)];congr 1
  rw[e,aw];exact ab.id (xm (by omega) (by omega))
 | @sum x p a w wx hs hk5 hp hpk _ ix=>
  intro ht hk;have h3:= @k1 30 (bm 1) 0 [] a x;have ix:=ix (ht.cu (by simp)) (by omega);have tx:=(ht.cu (k:=x) (by simp)).ty;refine H4 (.inl ⟨by show(29:Int)<=30;decide,by show(30:Int)<=34;decide⟩) ?_;rw[LC,oc];simp only[Int.reduceBEq,aD,aF];rw[dZ,aw];refine ab.bind ix (λy1 h1=>?_);obtain⟨v1,rfl,v2,v3⟩:=h1.val hs;obtain⟨q,ns,ps,hq,rfl,hN,hlen,hv,_⟩:=v2.k5 hk5;rw[hq]at hp;simp only[jj,aC]at hp;subst hp;have qL:=(tx.dS hs).1.part (p:=q) (by rw[hq];simp);have:=v3.parts;simp only at this;exact ab.bind (aaO hB (ps:=ps) rfl hpk qL hv (by omega)) (λr hr=>ab.id (xm hr.1 hr.2))
 | @part op i x p a w ho wx hs hk7 hp _ ix=>
  intro ht hk;have h3:= @k1 op (dD p) 0 [] a x;have ix:=ix (ht.cu (by simp)) (by omega);refine HE (by show op=19\/op=20\/op=35\/op=36;omega) ?_;have fin:∀y1,RV x.aK (cz x*1048576) y1->ab ((ao y1.v.aj (i:Int)).bind λx8=>some (⟨⟨0,0,[],[]⟩,x8⟩:bL)) (RV (dD p) (cz ⟨op,dD p,0,[],a,[x]⟩*1048576)):=by
   intro y1 h1;obtain⟨v1,rfl,v2,v3⟩:=h1.val hs;obtain⟨ps,rfl,hl,hv⟩:=v2.k6 (.inr hk7);obtain⟨z,hz⟩:=bw (l:=ps) (i:=i) (by have:=(b9.1 hp).1;omega);show ab ((ao ps (i:Int)).bind _) _;rw[bg hz,aw];exact ab.ret (.v rfl (hv i z p hz hp) ((v3.part (a7 hz)).mono (fE _ (by omega))))
  rw[LB,n9];rcases ho with⟨rfl,rfl⟩|⟨rfl,rfl⟩<;>simp only[Int.reduceBEq,aD,aF]
  ·rw[dZ,aw];exact ab.bind ix fin
  ·rw[dZ,aw];exact ab.bind ix fin
 | @LD op x s ks a w hm wx hs hkk _ ix=>
  intro ht hk;have h3:= @k1 op (bm s) 0 [] a x;have ix:=ix (ht.cu (by simp)) (by omega);have tx:=(ht.cu (k:=x) (by simp)).ty;have hr:=(tx.dS hs).1.range;simp only[b6,cF,YE,or_false]at hm;have le:cz x*1048576<=cz ⟨op,bm s,0,[],a,[x]⟩*1048576:=fE _ (by omega);have clone:∀ns:List (List UInt8),ns.length<=cz x*1048576->rising ns=true->(∀z∈ns,de z=true)->ab (((f51 Pf) ns).bind λy15=>((f153 Pf) y15).bind λy16=>some y16) (RV (bm 4) (cz ⟨op,bm s,0,[],a,[x]⟩*1048576)):=by
   intro ns h1 h2 h3;rw[show(f51 Pf) ns=some ns by rw[Bd];exact mw (by omega),aw,UJ,uU];exact ab.ret (.d (by decide) (.set h2 h3) (iM h1 le))
  refine H4 (by show(29<=op/\op<=34)\/op=37;omega) ?_;rw[LC,oc];rcases hm with⟨rfl,rfl,rfl⟩|⟨rfl,rfl,rfl⟩|⟨rfl,rfl,rfl⟩|⟨rfl,rfl,rfl⟩|⟨rfl,rfl,rfl⟩<;>simp only[Int.reduceBEq,aD,aF]<;>simp only[b6,YE,or_false]at hkk<;>simp only[dZ,aw]<;>refine ab.bind ix (λy1 h1=>?_)<;>obtain⟨v1,rfl,v2,v3⟩:=h1.val hs
  ·obtain⟨n,rfl,n1,n2⟩:=v2.k2 hkk;exact ab.id (xm (by show _<=n;omega) (by show n<=_;omega))
  ·exact ab.id iN
  ·rcases hkk with h5|hkk
   ·obtain⟨q,ns,ps,hq,rfl,hN,_⟩:=v2.k5 h5;exact clone ns v3.names hN.1 λz hz=>(hN.2 z hz).1
   ·obtain⟨ns,rfl,hN,_⟩:=v2.k4 hkk;exact clone ns v3.names hN.1 λz hz=>(hN.2 z hz).1
  ·rcases hkk with h8|h9
   ·rw[h8];simp only[Int.reduceBEq,aF];rcases v2.k8 h8 with⟨n,rfl,_⟩|⟨z,rfl,hN⟩
    ·exact clone [] (by simp) rfl (by simp)
    ·exact clone [z] v3.names hN.1 λz hz=>(hN.2 z hz).1
   ·rw[h9];simp only[Int.reduceBEq,aD];obtain⟨es,rfl,hE⟩:=v2.k9 h9;have he:=v3.entries;simp only at he;refine ab.bind (Oc (v:=⟨0,[],[],es⟩) (by simp only;omega)) (λr hr=>?_);rw[UJ,uU];refine ab.ret (.d (by decide) (.set hr.1 λz hz=>?_) (iM hr.2.1 (iM he le)));obtain⟨e,he,rfl⟩:=(hr.2.2 z).1 hz;exact(hE.1 e he).2.2
  ·refine ab.bif (λ_=>ab.id iN) (λ_=>?_);refine ab.bind (Oc (v:=v1) (by have:=v3.entries;omega)) (λr hr=>?_);exact ab.id iN
 | @I2 kids a w h0 hkk wk hso ik=>
  intro ht hk;have tw:bB B w:=ht.ty;have tl:=tw.dS h0;have hlo:=tl.2;rw[ah.dO]at hlo;have hLn:w.aL.Names.length<=B:=hlo.2.2.2.1.1;have ce:cz ⟨23,w,0,[],a,kids⟩=1+cU kids:=by rw[cz]
  rw[ce]at hk⊢;refine o9 (by show(21:Int)<=23;decide) (by show(23:Int)<=28;decide) ?_;rw[pK,ka];simp only[Int.reduceBEq,aD,aF];have hkl:kids.length<=cU kids:=Cv;have main:ab ((f147 Pf) ⟨st,args⟩ ⟨23,w,0,[],a,kids⟩) (λr=>VE w.aL ⟨0,r,[],[]⟩/\r.length<=1048576*(1+cU kids)):=by
   rw[aft,pB];refine dX (L:=λi s=>(mC Pf) ⟨st,args⟩ ⟨23,w,0,[],a,kids⟩ s i) (P:=λr=>VE w.aL ⟨0,r,[],[]⟩/\r.length<=1048576*(1+cU kids)) (len:=kids.length) (λi s=>s.length<=1048576*cU (kids.take i)/\∀z∈s,de z=true) (λi s hi hI k=>?_) (λs hI=>?_) 0 [] (by omega) ⟨by simp,by simp⟩
   ·show ab ((mC Pf) ⟨st,args⟩ ⟨23,w,0,[],a,kids⟩ s i) _;obtain⟨x,hx⟩:=bw hi;have hm:=a7 hx;have hcx:=sC hm;have ht':=Ob hx;have hle:= @YW kids (i+1);have ix:=ik x hm (ht.cu hm) (by omega);have hx1:1<=cz x:=by rw[qk];omega
    have hsx:=hso x hm;have:decide (i<kids.length)=true:=by simpa using hi
    rw[QS,oJ,Ei];simp only[ae.aI];rw[a6,this,aD,bg hx,aw,bM i (by omega)];refine ab.bind ix (λy hy=>?_);obtain⟨d,rfl,hd,hdn⟩:=hy.dj (by rcases hsx with h|h<;>omega);rcases hsx with h|h
    ·rw[h]at hd;obtain⟨z0,rfl,gn⟩:∃z0,d=⟨3,0,z0,[]⟩/\de z0=true:=by cases hd with|name g=>exact⟨_,rfl,g⟩
     simp only[Int.reduceBEq,aD,aF];rw[dW (by simp;omega),aD,dW (by simp;omega),aD];refine k _ ⟨by simp;omega,λz hz=>?_⟩;simp at hz;rcases hz with hz|rfl
     ·exact hI.2 z hz
     ·exact gn
    ·rw[h]at hd;obtain⟨ns,rfl,gn⟩:∃ns,d=⟨4,0,[],ns⟩/\∀z∈ns,de z=true:=by cases hd with|set _ g=>exact⟨_,rfl,g⟩
     simp only[Int.reduceBEq,aD,aF];simp only at hdn;rw[dW (by rw[jB];omega),aD];refine k _ ⟨by rw[jB];omega,λz hz=>?_⟩;rcases bO.1 hz with hz|hz
     ·exact hI.2 z hz
     ·exact gn z hz
   ·show ab ((mC Pf) ⟨st,args⟩ ⟨23,w,0,[],a,kids⟩ s kids.length) _;rw[eQ]at hI;have:decide (kids.length<kids.length)=false:=by simp
    rw[QS,oJ,Ei];simp only[ae.aI];have fl:(s.filter λz=>er w.aL.Names z).length<=s.length:=BY _ _;rw[a6,this,aF,adr (by omega) (by omega),aw,xN (by omega),aw];have nl:= @sJ (s.filter λz=>er w.aL.Names z);have np:jg w.aL.Names (eu (s.filter λz=>er w.aL.Names z)):=⟨F5,λz hz=>by
     rw[PL,gG]at hz;exact⟨hI.2 z hz.1,Cu.1 hz.2⟩⟩
    rcases hkk with h4|h10
    ·rw[h4];simp only[Int.reduceBEq,aF];have hR:w.aL.bl=[]:=by have:=tl.1.shape;unfold gL at this;simp[h4]at this;exact this.2.1
     exact ab.ret ⟨.set (.inl h4) np (by rw[hR];simp[lr]),by omega⟩
    ·rw[h10];simp only[Int.reduceBEq,aD];have hnn:w.aL.Names≠[]:=by have:=tl.1.shape;unfold gL at this;simp[h10]at this;exact this.2.1
     have hLN:=tl.1.names;have hl2:w.aL.bl.length<=32:=tl.1.I3.2;refine ab.bind (PM (hLN.2.1 (by omega)) (by omega) hLN.1 (PN tl.1) (by omega) F5 (by omega) (λz hz=>(np.2 z hz).2.resolve_left hnn)) (λy hy=>ab.ret ?_);obtain⟨_,y1,y2,c1,c2,c3,c4⟩:=hy;exact⟨.set (.inr h10) ⟨y1,λz hz=>⟨hLN.1 z (c1 z hz),.inr (c1 z hz)⟩⟩ c3,by omega⟩
  refine ab.bind main (λr hr=>ab.ret (.v h0 hr.1 (.mk (by simp only;omega) (by simp) (by simp) (by simp) (by simp))))
 | @map kids p a w h0 hk5 hp wk wv i1 i2=>
  intro ht hk;have tw:bB B w:=ht.ty;have tl:=tw.dS h0;obtain⟨q,hq⟩:=xO tl.1 hk5;rw[hq]at hp;simp only[jj,aC]at hp;subst hp;have pm:q∈w.aL.aj:=by rw[hq];simp
  have pL:=tl.1.part pm;have po:=sV tl.2 pm;have hLn:w.aL.Names.length<=B:=by have:=tl.2;rw[ah.dO]at this;exact this.2.2.2.1.1
  have ce:cz ⟨24,w,0,[],a,kids.flatMap λq=>[q.1,q.2]⟩=1+cU (kids.flatMap λq=>[q.1,q.2]):=by rw[cz]
  have ht1:∀{k},k∈(kids.flatMap λq=>[q.1,q.2])->TT B k:=λh=>ht.cu h;rw[ce]at hk⊢;generalize hK:(kids.flatMap λq=>[q.1,q.2])=K at*
  have hKl:K.length=2*kids.length:=by rw[<-hK];exact PJ
  have hsq:fi kids<=cU K:=by rw[<-hK];exact QP
  have hKc:K.length<=cU K:=Cv;refine o9 (by show(21:Int)<=24;decide) (by show(24:Int)<=28;decide) ?_;rw[pK,ka];simp only[Int.reduceBEq,aD,aF];refine dX (L:=λ(j:Int) s=>(kU Pf) ⟨st,args⟩ ⟨24,w,0,[],a,K⟩ (2*j) s) (P:=RV w ((1+cU K)*1048576)) (len:=kids.length) (λj s=>VE w.aL s/\BV (1048576*(1+fi (kids.take j))) s) (λj s hj hI k=>?_) (λs hI=>?_) 0 ⟨0,[],[],[]⟩ (by omega) ⟨.map hk5 hq ⟨by simp[rising],by simp⟩ rfl (by simp) (by simp),.mk (by simp) (by simp) (by simp) (by simp) (by simp)⟩
  ·show ab ((kU Pf) ⟨st,args⟩ ⟨24,w,0,[],a,K⟩ (2*(j:Int)) s) _;have k':∀b',VE w.aL b'/\BV (1048576*(1+fi (kids.take (j+1)))) b'->ab ((kU Pf) ⟨st,args⟩ ⟨24,w,0,[],a,K⟩ (2*((j+1:Nat):Int)) b') (RV w ((1+cU K)*1048576)):=k;obtain⟨e,he⟩:=bw hj;have hm:=a7 he;have fg:=wS (f:=λq:ae×ae=>q.1) (g:=λq:ae×ae=>q.2) he;have hsum:=aaN he;have hsle:= @Y8 kids (j+1);rw[hK]at fg;have m1:=a7 fg.1;have m2:=a7 fg.2;have c1:=sC m1;have c2:=sC m2;have t1:=i1 e hm (ht1 m1) (by omega);have t2:=i2 e hm (ht1 m2) (by omega);rw[(wk e hm).ty rfl]at t1;rw[(wv e hm).ty (bB.of pL po).ir]at t2;have z1:(2*(j:Int))=((2*j:Nat):Int):=by omega
   have z2:IntKind.i64.wrap (((2*j:Nat):Int)+1)=((2*j+1:Nat):Int):=bM _ (by omega);have z3:IntKind.i64.wrap (((2*j:Nat):Int)+2)=2*((j+1:Nat):Int):=by rw[wrap64 (by omega) (by omega)];omega
   have hlt:decide (2*j<K.length)=true:=by simp;omega
   rw[z1,Tf,pc];simp only[ae.aI];rw[a6,hlt,aD,z2,z3];refine ab.bind (lK (bg fg.1) t1) (λy1 h1=>ab.bind (lK (bg fg.2) t2) (λy2 h2=>?_));obtain⟨nm,rfl,hnm⟩:=h1.name;obtain⟨v,rfl,v2,v3⟩:=h2.val rfl;have v2:VE q v:=v2;have hup:∀{b'},BV (1048576*(1+fi (kids.take j))) b'->BV (1048576*(1+fi (kids.take (j+1)))) b':=λh=>h.mono (by omega);rw[F4 (by omega),aw];refine ab.bif (λ_=>k' _ ⟨hI.1,hup hI.2⟩) (λhal=>?_);have hal:=Cu.1 (by simpa using hal);rw[hq,dZ,aw];obtain⟨r,e3,hr⟩:=Zq (v:=v) hB po pL (v2.sv (by omega) v3);rw[e3,aw];refine ab.bif (λ_=>k' _ ⟨hI.1,hup hI.2⟩) (λhnb=>?_);have hnb:v≠bot q:=λe=>by rw[hr.2 e]at hnb;cases hnb
   have e1:VE w.aL ⟨0,[nm],[v],[]⟩:= .map hk5 hq ⟨by simp[rising],λz hz=>by simp at hz;subst hz;exact⟨hnm,hal⟩⟩ rfl (λu hu=>by simp at hu;subst hu;exact v2) (λu hu=>by simp at hu;subst hu;exact hnb);have hc1:1<=cz e.2:=by rw[qk];omega
   have b1:BV (cz e.2*1048576) ⟨0,[nm],[v],[]⟩:= .mk (by simp;omega) (by simp;omega) (by simp) (by simp) (λu hu=>by simp at hu;subst hu;exact v3);refine ab.bind (jn tw h0 (by omega) (by omega) (by omega) hI.1 e1 hI.2 b1) (λy hy=>k' _ ⟨hy.1,hy.2.mono (by omega)⟩)
  ·show ab ((kU Pf) ⟨st,args⟩ ⟨24,w,0,[],a,K⟩ (2*(kids.length:Int)) s) _;have z1:(2*(kids.length:Int))=((2*kids.length:Nat):Int):=by omega
   have hlt:decide (2*kids.length<K.length)=false:=by simp;omega
   rw[eQ]at hI;rw[z1,Tf,pc];simp only[ae.aI];rw[a6,hlt,aF];exact ab.ret (.v h0 hI.1 (hI.2.mono (by omega)))
 | @I4 kids a w h0 hk6 hl wk ik=>
  intro ht hk;have tw:bB B w:=ht.ty;have ce:cz ⟨25,w,0,[],a,kids⟩=1+cU kids:=by rw[cz]
  have hKc:kids.length<=cU kids:=Cv;rw[ce]at hk⊢;refine o9 (by show(21:Int)<=25;decide) (by show(25:Int)<=28;decide) ?_;rw[pK,ka];simp only[Int.reduceBEq,aD,aF];refine dX (L:=λi s=>(nD Pf) ⟨st,args⟩ ⟨25,w,0,[],a,kids⟩ i s) (P:=RV w ((1+cU kids)*1048576)) (len:=kids.length) (λi s=>s.length=i/\(∀(j:Nat) v p,s[j]? =some v->w.aL.aj[j]? =some p->VE p v)/\∀v∈s,BV ((1+cU kids)*1048576) v) (λi s hi hI k=>?_) (λs hI=>?_) 0 [] (by omega) ⟨rfl,by simp,by simp⟩
  ·show ab ((nD Pf) ⟨st,args⟩ ⟨25,w,0,[],a,kids⟩ i s) _;obtain⟨x,hx⟩:=bw hi;obtain⟨p,hp⟩:=bw (l:=w.aL.aj) (i:=i) (by omega);have hm:=a7 hx;have hcx:=sC hm;have pm:=a7 hp;have t1:=ik i x p hx hp (ht.cu hm) (by omega);rw[(wk i x p hx hp).ty (lL tw h0 pm).ir]at t1;have:decide (i<kids.length)=true:=by simpa using hi
   rw[Tg,pd];simp only[ae.aI];rw[a6,this,aD,bM i (by omega)];refine ab.bind (lK (bg hx) t1) (λy hy=>?_);obtain⟨v,rfl,v2,v3⟩:=hy.val rfl;have v2:VE p v:=v2;obtain⟨g1,g2,g3⟩:=hI;rw[dW (by simp;omega),aD];refine k _ ⟨by simp[g1],λj u p' h1 h2=>?_,λu hu=>?_⟩
   ·by_cases hj:j<i
    ·rw[lz (by omega)]at h1;exact g2 j u p' h1 h2
    ·have:j=i:=by
      have:=(b9.1 h1).1;simp at this;omega
     subst this;rw[hp]at h2;cases h2;rw[<-g1,YI]at h1;cases h1;exact v2
   ·rcases bO.1 hu with hu|hu
    ·exact g3 u hu
    ·simp at hu;subst hu;exact v3.mono (fE _ (by omega))
  ·show ab ((nD Pf) ⟨st,args⟩ ⟨25,w,0,[],a,kids⟩ kids.length s) _;have:decide (kids.length<kids.length)=false:=by simp
   rw[Tg,pd];simp only[ae.aI];rw[a6,this,aF];exact ab.ret (.v h0 (.prod (.inl hk6) (by omega) hI.2.1) (.mk (by simp) (by simp only;omega) (by simp) (by simp) hI.2.2))
 | @pair x y p q a w h0 hk7 hp hq wx wy ix iy=>
  intro ht hk;have tw:bB B w:=ht.ty;have h3:= @k2 26 w 0 [] a x y;have pm:=a7 hp;have qm:=a7 hq;have ix:=ix (ht.cu (by simp)) (by omega);have iy:=iy (ht.cu (by simp)) (by omega);rw[wx.ty (lL tw h0 pm).ir]at ix;rw[wy.ty (lL tw h0 qm).ir]at iy;obtain⟨p',q',hpq⟩:=xP (tw.dS h0).1 hk7;rw[hpq]at hp hq;simp only[jj,aC,pQ]at hp hq;subst hp;subst hq;have i0:IntKind.i64.wrap ((0:Int)+1)=1:=by decide
  have i1:IntKind.i64.wrap ((1:Int)+1)=2:=by decide
  refine o9 (by show(21:Int)<=26;decide) (by show(26:Int)<=28;decide) ?_;rw[pK,ka];simp only[Int.reduceBEq,aD,aF];rw[H5,nE];simp only[ae.aI];rw[show decide ((0:Int)<(([x,y]:List ae).length:Int))=true by rfl,aD,i0];refine ab.bind (lK rfl ix) (λy1 h1=>?_);obtain⟨v,rfl,v2,v3⟩:=h1.val rfl;rw[dW (by simp),aD,H5,nE];simp only[ae.aI];rw[show decide ((1:Int)<(([x,y]:List ae).length:Int))=true by rfl,aD,i1];refine ab.bind (lK rfl iy) (λy2 h2=>?_);obtain⟨u,rfl,u2,u3⟩:=h2.val rfl;rw[dW (by simp),aD,H5,nE];simp only[ae.aI];rw[show decide ((2:Int)<(([x,y]:List ae).length:Int))=false by rfl,aF];have:= @one x;refine ab.ret (.v h0 (Th hk7 hpq v2 u2) (.mk (by simp) (by simp;omega) (by simp) (by simp) (λz hz=>?_)));simp at hz;rcases hz with rfl|rfl
  ·exact v3.mono (fE _ (by omega))
  ·exact u3.mono (fE _ (by omega))
