/- The reference's comparison is reflexive; frames that agree where an expression looks give one result. -/
import Derived.Test.YtnocmolegijmkaaGreatKKm
set_option linter.all false
namespace Go.Proofs.YtnocmolegijmkaaGreat
open Go Go.Bw
theorem Rx (n:Int):(f88 Pf) n n=some 0:=by rw[e88,CB,beq_self_eq_true,aB]
theorem abP {a:List ah} (ha:a.length<=274877906944):ae ((f136 Pf) a a) (·=0):=by
 rw[aiw,wM];refine gE (L:=λi=>(rF Pf) a a i) (len:=a.length) (λ_=>True) (λi hi _ k=>?_) (λ_=>?_) 0 (by omega) trivial
 ·show ae ((rF Pf) a a i) _;obtain⟨x,hx⟩:=bo hi;rw[SO,uF,ah.aH,a7,dT hi];simp only[aB,bf hx,au,bne_self_eq_false,aC,bW i (by omega)];exact k trivial
 ·show ae ((rF Pf) a a a.length) _;rw[SO,uF,ah.aH,a7];simp only[tv,decide_false,aC,Rx,au];exact ae.ret rfl
theorem abQ {e:az} (ha:e.a8.length<=274877906944):ae ((f89 Pf) e e) (·=0):=by
 rw[e89,CC,beq_self_eq_true,fL,aC];exact ae.bind (abP ha) λ_ h=>ae.ret h
theorem aaV:∀v:af,SV v->ae ((f42 Pf) v v) (·=0):=by
 refine af.ind λv ih hv=>?_;cases hv with|mk h1 h2 h3 h4 h5 h6=>?_
 have qU:ae ((qh Pf) v v 0) (·=0):=by
  refine gE (L:=λi=>(qh Pf) v v i) (len:=v.Entries.length) (λ_=>True) (λi hi _ k=>?_) (λ_=>?_) 0 (by omega) trivial
  ·show ae ((qh Pf) v v i) _;obtain⟨x,hx⟩:=bo hi;rw[UX,vz,az.aH,a7,dT hi];simp only[aB,bf hx,au];refine ae.bind (abQ (h5 x (aV hx)).1) λy hy=>?_;rw[hy,bne_self_eq_false,aC,bW i (by omega)];exact k trivial
  ·show ae ((qh Pf) v v v.Entries.length) _;rw[UX,vz,az.aH,a7];simp only[tv,decide_false,aC,Rx,au];exact ae.ret rfl
 have par:∀s,ae ((qk Pf) v v s 0) (·=0):=λs=>by
  refine gE (L:=λi=>(qk Pf) v v s i) (len:=v.ai.length) (λ_=>True) (λi hi _ k=>?_) (λ_=>?_) 0 (by omega) trivial
  ·show ae ((qk Pf) v v s i) _;obtain⟨x,hx⟩:=bo hi;have hm:=aV hx;rw[UY,vA,af.aH,a7,dT hi];simp only[aB,bf hx,au];refine ae.bind (ih x hm (h6 x hm)) λy hy=>?_;rw[hy,bne_self_eq_false,aC,bW i (by omega)];exact k trivial
  ·show ae ((qk Pf) v v s v.ai.length) _;rw[UY,vA,af.aH,a7];simp only[tv,decide_false,aC,bne_self_eq_false];exact qU
 rw[e42,CD,bne_self_eq_false,aC];refine gE (L:=λi=>(rV Pf) v v 0 i) (len:=v.Names.length) (λ_=>True) (λi hi _ k=>?_) (λ_=>?_) 0 (by omega) trivial
 ·show ae ((rV Pf) v v 0 i) _;obtain⟨x,hx⟩:=bo hi;rw[UZ,vB,bN,a7,dT hi];simp only[aB,bf hx,au,beq_self_eq_true,fL,aC,bW i (by omega)];exact k trivial
 ·show ae ((rV Pf) v v 0 v.Names.length) _;rw[UZ,vB,bN,a7];simp only[tv,decide_false,aC,bne_self_eq_false];exact par 0
theorem abO {v:af} (h:SV v):(f17 Pf) v v=some true:=by
 rw[e17,CF];exact ae.of (ae.bind (aaV v h) λy hy=>by rw[hy];exact ae.ret rfl)
inductive Ag (F G:cG):ab->Prop
 |mk {x:ab}:(x.Op=5->F.state=G.state)->(x.Op=4->aj F.args x.N=aj G.args x.N)->(∀k∈x.Kids,Ag F G k)->Ag F G x
theorem agV {D β:Type} {p q:Option D} {f g:D->Option β} (h:p=q) (k:∀y,f y=g y):p.bind f=q.bind g:=by rw[h,funext k]
theorem aiv {D:Type} {c:Bool} {a b a' b':D} (h:a=a') (k:b=b'):(bif c then a else b)=bif c then a' else b':=by rw[h,k]
structure AgN (F G:cG) (n:Nat):Prop where
 ev:∀x,Ag F G x->f86 (Gf n) F x=f86 (Gf n) G x
 leaf:∀x,Ag F G x->f131 (Gf n) F x=f131 (Gf n) G x
 op:∀x,Ag F G x->f132 (Gf n) F x=f132 (Gf n) G x
 qX:∀i x,Ag F G x->f179 (Gf n) i F x=f179 (Gf n) i G x
 part:∀x,Ag F G x->f133 (Gf n) F x=f133 (Gf n) G x
 Y1:∀x,Ag F G x->f134 (Gf n) F x=f134 (Gf n) G x
 wL:∀x,Ag F G x->∀i s,jw (Gf n) F x i s=jw (Gf n) G x i s
 WC:∀x,Ag F G x->∀i s,jV (Gf n) F x i s=jV (Gf n) G x i s
 WD:∀x,Ag F G x->∀i s,nR (Gf n) F x i s=nR (Gf n) G x i s
 WE:∀i x,Ag F G x->f182 (Gf n) i F x=f182 (Gf n) i G x
 set:∀x,Ag F G x->f183 (Gf n) F x=f183 (Gf n) G x
 WG:∀x,Ag F G x->∀s i,kT (Gf n) F x s i=kT (Gf n) G x s i
 Y2:∀x,Ag F G x->f135 (Gf n) F x=f135 (Gf n) G x
