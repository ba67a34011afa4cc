/- The reference's comparison is reflexive; frames that agree where an expression looks give one result. -/
import Derived.Test.YtnocmolegijmkaaGreatKKm
set_option linter.all false
namespace Go.Proofs.YtnocmolegijmkaaGreat
open Go Go.Bw
theorem SP (n:Int):(f88 Pf) n n=some 0:=by rw[e88,Cu,beq_self_eq_true,aB]
theorem abT {a:List aj} (ha:a.length<=274877906944):ae ((f136 Pf) a a) (·=0):=by
 rw[aiy,we];refine fT (L:=λi=>(qZ Pf) a a i) (len:=a.length) (λ_=>True) (λi hi _ k=>?_) (λ_=>?_) 0 (by omega) trivial
 ·show ae ((qZ Pf) a a i) _;obtain⟨x,hx⟩:=bm hi;rw[T1,tZ,aj.aF,aW,dN hi];simp only[aB,a7 hx,ax,bne_self_eq_false,aC,bO i (by omega)];exact k trivial
 ·show ae ((qZ Pf) a a a.length) _;rw[T1,tZ,aj.aF,aW];simp only[qE,decide_false,aC,SP,ax];exact ae.ret rfl
theorem abU {e:az} (ha:e.a8.length<=274877906944):ae ((f89 Pf) e e) (·=0):=by
 rw[e89,Cv,beq_self_eq_true,fA,aC];exact ae.bind (abT ha) λ_ h=>ae.ret h
theorem aaW:∀v:ah,SV v->ae ((f42 Pf) v v) (·=0):=by
 refine ah.ind λv ih hv=>?_;cases hv with|mk h1 h2 h3 h4 h5 h6=>?_
 have Cl:ae ((pS Pf) v v 0) (·=0):=by
  refine fT (L:=λi=>(pS Pf) v v i) (len:=v.Entries.length) (λ_=>True) (λi hi _ k=>?_) (λ_=>?_) 0 (by omega) trivial
  ·show ae ((pS Pf) v v i) _;obtain⟨x,hx⟩:=bm hi;rw[V2,u5,az.aF,aW,dN hi];simp only[aB,a7 hx,ax];refine ae.bind (abU (h5 x (aY hx)).1) λy hy=>?_;rw[hy,bne_self_eq_false,aC,bO i (by omega)];exact k trivial
  ·show ae ((pS Pf) v v v.Entries.length) _;rw[V2,u5,az.aF,aW];simp only[qE,decide_false,aC,SP,ax];exact ae.ret rfl
 have par:∀s,ae ((pT Pf) v v s 0) (·=0):=λs=>by
  refine fT (L:=λi=>(pT Pf) v v s i) (len:=v.ak.length) (λ_=>True) (λi hi _ k=>?_) (λ_=>?_) 0 (by omega) trivial
  ·show ae ((pT Pf) v v s i) _;obtain⟨x,hx⟩:=bm hi;have hm:=aY hx;rw[V3,u6,ah.aF,aW,dN hi];simp only[aB,a7 hx,ax];refine ae.bind (ih x hm (h6 x hm)) λy hy=>?_;rw[hy,bne_self_eq_false,aC,bO i (by omega)];exact k trivial
  ·show ae ((pT Pf) v v s v.ak.length) _;rw[V3,u6,ah.aF,aW];simp only[qE,decide_false,aC,bne_self_eq_false];exact Cl
 rw[e42,Cw,bne_self_eq_false,aC];refine fT (L:=λi=>(ry Pf) v v 0 i) (len:=v.Names.length) (λ_=>True) (λi hi _ k=>?_) (λ_=>?_) 0 (by omega) trivial
 ·show ae ((ry Pf) v v 0 i) _;obtain⟨x,hx⟩:=bm hi;rw[V4,u7,bH,aW,dN hi];simp only[aB,a7 hx,ax,beq_self_eq_true,fA,aC,bO i (by omega)];exact k trivial
 ·show ae ((ry Pf) v v 0 v.Names.length) _;rw[V4,u7,bH,aW];simp only[qE,decide_false,aC,bne_self_eq_false];exact par 0
theorem abS {v:ah} (h:SV v):(f17 Pf) v v=some true:=by
 rw[e17,Cy];exact ae.of (ae.bind (aaW v h) λy hy=>by rw[hy];exact ae.ret rfl)
inductive Ag (F G:cL):ab->Prop
 |mk {x:ab}:(x.Op=5->F.state=G.state)->(x.Op=4->aq F.args x.N=aq G.args x.N)->(∀k∈x.Kids,Ag F G k)->Ag F G x
structure AgN (F G:cL) (n:Nat):Prop where
 ev:∀x,Ag F G x->f86 (Gf n) F x=f86 (Gf n) G x
 leaf:∀x,Ag F G x->f131 (Gf n) F x=f131 (Gf n) G x
 op:∀x,Ag F G x->f132 (Gf n) F x=f132 (Gf n) G x
 xe:∀i x,Ag F G x->f179 (Gf n) i F x=f179 (Gf n) i G x
 part:∀x,Ag F G x->f133 (Gf n) F x=f133 (Gf n) G x
 con:∀x,Ag F G x->f134 (Gf n) F x=f134 (Gf n) G x
 vX:∀x,Ag F G x->∀i s,kX (Gf n) F x i s=kX (Gf n) G x i s
 anW:∀x,Ag F G x->∀i s,ky (Gf n) F x i s=ky (Gf n) G x i s
 anX:∀x,Ag F G x->∀i s,ua (Gf n) F x i s=ua (Gf n) G x i s
 anY:∀i x,Ag F G x->f182 (Gf n) i F x=f182 (Gf n) i G x
 set:∀x,Ag F G x->f183 (Gf n) F x=f183 (Gf n) G x
 anZ:∀x,Ag F G x->∀s i,nk (Gf n) F x s i=nk (Gf n) G x s i
 obs:∀x,Ag F G x->f135 (Gf n) F x=f135 (Gf n) G x
inductive fH:ab->Prop
 |mk {x:ab}:x.Op≠5->(∀k∈x.Kids,fH k)->fH x
section
variable {B:Nat} (hB:B<=1048576)
include hB
theorem acz:∀x:ab,x.ok B->ae ((f20 Pf) x) (λr=>r=false->fH x):=by
 refine ab.ind λx ih hx=>?_;rw[ab.dA]at hx;obtain⟨_,_,_,_,_,hkl,hkk⟩:=hx;rw[e20,Ct];refine ae.bif (λ_=>ae.ret λe=>by cases e) (λh5=>?_);have loop:ae ((pg Pf) x.Kids 0) (λr=>decide (r>=0)=false->∀k∈x.Kids,fH k):=by
  refine fT (L:=λi=>(pg Pf) x.Kids i) (len:=x.Kids.length) (λn=>∀(i:Nat) k,i<n->x.Kids[i]? =some k->fH k) (λi hi hI k=>?_) (λhI=>?_) 0 (by omega) (λi p h=>by omega)
  ·show ae ((pg Pf) x.Kids i) _;obtain⟨y,hy⟩:=bm hi;have hm:=aY hy;rw[RO,tz,ab.aF,aW,dN hi];simp only[aB,a7 hy,ax];refine ae.bind (ih y hm (ab.fU hkk hm)) λr hr=>ae.bif (λ_=>ae.ret λe=>by simp at e) (λh=>?_);rw[bO i (by omega)];refine k λj z hj hz=>?_;rcases nW.1 hj with hj|rfl
   ·exact hI j z hj hz
   ·rw[hy]at hz;cases hz;exact hr h
  ·show ae ((pg Pf) x.Kids x.Kids.length) _;rw[RO,tz,ab.aF,aW];simp only[qE,decide_false,aC];refine ae.ret λ_ k hk=>?_;obtain⟨i,hi,e⟩:=List.mem_iff_getElem.1 hk;exact hI i k hi (by rw[Hg hi,e])
 rw[agn,zX,ago,u4];refine ae.bind (ae.bind loop λr hr=>ae.ret (P:=λb=>b=false->∀k∈x.Kids,fH k) hr) λb hb=>ae.ret λe=>?_;exact .mk (by simpa using h5) (hb e)
