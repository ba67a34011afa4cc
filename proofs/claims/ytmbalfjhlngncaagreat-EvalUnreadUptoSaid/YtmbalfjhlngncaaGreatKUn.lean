/- The reference's comparison is reflexive; frames that agree where an expression looks give one result. -/
import Derived.Test.YtmbalfjhlngncaaGreatKKm
set_option linter.all false
namespace Go.Proofs.YtmbalfjhlngncaaGreat
open Go Go.Bw
theorem Qr (n:Int):(f73 Pf) n n=some 0:=by rw[e73,BB,beq_self_eq_true,aD]
theorem aad {a:List ai} (ha:a.length<=274877906944):ab ((f129 Pf) a a) (·=0):=by
 rw[ag',vn];refine eZ (L:=λi=>(qH Pf) a a i) (len:=a.length) (λ_=>True) (λi hi _ k=>?_) (λ_=>?_) 0 (by omega) trivial
 ·show ab ((qH Pf) a a i) _;obtain⟨x,hx⟩:=bw hi;rw[RC,tY,ai.aI,a6,dI hi];simp only[aD,bg hx,aw,bne_self_eq_false,aF,bM i (by omega)];exact k trivial
 ·show ab ((qH Pf) a a a.length) _;rw[RC,tY,ai.aI,a6];simp only[oo,decide_false,aF,Qr,aw];exact ab.ret rfl
theorem aae {e:ax} (ha:e.aY.length<=274877906944):ab ((f74 Pf) e e) (·=0):=by
 rw[e74,BC,beq_self_eq_true,fm,aF];exact ab.bind (aad ha) λ_ h=>ab.ret h
theorem Ze:∀v:af,SV v->ab ((f38 Pf) v v) (·=0):=by
 refine af.ind λv ih hv=>?_;cases hv with|mk h1 h2 h3 h4 h5 h6=>?_
 have A9:ab ((pj Pf) v v 0) (·=0):=by
  refine eZ (L:=λi=>(pj Pf) v v i) (len:=v.Entries.length) (λ_=>True) (λi hi _ k=>?_) (λ_=>?_) 0 (by omega) trivial
  ·show ab ((pj Pf) v v i) _;obtain⟨x,hx⟩:=bw hi;rw[Tu,uB,ax.aI,a6,dI hi];simp only[aD,bg hx,aw];refine ab.bind (aae (h5 x (a7 hx)).1) λy hy=>?_;rw[hy,bne_self_eq_false,aF,bM i (by omega)];exact k trivial
  ·show ab ((pj Pf) v v v.Entries.length) _;rw[Tu,uB,ax.aI,a6];simp only[oo,decide_false,aF,Qr,aw];exact ab.ret rfl
 have par:∀s,ab ((pk Pf) v v s 0) (·=0):=λs=>by
  refine eZ (L:=λi=>(pk Pf) v v s i) (len:=v.aj.length) (λ_=>True) (λi hi _ k=>?_) (λ_=>?_) 0 (by omega) trivial
  ·show ab ((pk Pf) v v s i) _;obtain⟨x,hx⟩:=bw hi;have hm:=a7 hx;rw[Tv,uC,af.aI,a6,dI hi];simp only[aD,bg hx,aw];refine ab.bind (ih x hm (h6 x hm)) λy hy=>?_;rw[hy,bne_self_eq_false,aF,bM i (by omega)];exact k trivial
  ·show ab ((pk Pf) v v s v.aj.length) _;rw[Tv,uC,af.aI,a6];simp only[oo,decide_false,aF,bne_self_eq_false];exact A9
 rw[e38,BD,bne_self_eq_false,aF];refine eZ (L:=λi=>(qT Pf) v v 0 i) (len:=v.Names.length) (λ_=>True) (λi hi _ k=>?_) (λ_=>?_) 0 (by omega) trivial
 ·show ab ((qT Pf) v v 0 i) _;obtain⟨x,hx⟩:=bw hi;rw[Tw,uD,bD,a6,dI hi];simp only[aD,bg hx,aw,beq_self_eq_true,fm,aF,bM i (by omega)];exact k trivial
 ·show ab ((qT Pf) v v 0 v.Names.length) _;rw[Tw,uD,bD,a6];simp only[oo,decide_false,aF,bne_self_eq_false];exact par 0
theorem aac {v:af} (h:SV v):(f14 Pf) v v=some true:=by
 rw[e14,BE];exact ab.of (ab.bind (Ze v h) λy hy=>by rw[hy];exact ab.ret rfl)
theorem abt {d:aR} (h:d.Names.length<=274877906944):(f17 Pf) d d=some true:=by
 rw[e17,BH,e39,BG];simp only[beq_self_eq_true,aD];rw[e75,BF,bne_self_eq_false,aF];have:ab ((pn Pf) d.Names d.Names 0) (·=true):=by
  refine eZ (L:=λi=>(pn Pf) d.Names d.Names i) (len:=d.Names.length) (λ_=>True) (λi hi _ k=>?_) (λ_=>?_) 0 (by omega) trivial
  ·show ab ((pn Pf) d.Names d.Names i) _;obtain⟨x,hx⟩:=bw hi;rw[Tx,uE,bD,a6,dI hi];simp only[aD,bg hx,aw,beq_self_eq_true,fm,aF,bM i (by omega)];exact k trivial
  ·show ab ((pn Pf) d.Names d.Names d.Names.length) _;rw[Tx,uE,bD,a6];simp only[oo,decide_false,aF];exact ab.ret rfl
 rw[ab.of this];rfl
inductive Ag (F G:cG):ae->Prop
 |mk {x:ae}:(x.Op=5->F.state=G.state)->(x.Op=4->ao F.args x.N=ao G.args x.N)->(∀k∈x.Kids,Ag F G k)->Ag F G x
theorem Ag.cu {F G:cG} {x k:ae} (h:Ag F G x) (hk:k∈x.Kids):Ag F G k:=by cases h with|mk _ _ h=>exact h k hk
theorem aka {α β:Type} {l:List α} {i:Int} {f g:α->Option β} (h:∀x∈l,f x=g x):(ao l i).bind f=(ao l i).bind g:=by
 cases hx:ao l i with
 |none=>rfl
 |some x=>
  refine h x ?_;exact a7 (Pm hx).2
theorem afd {α β:Type} {p q:Option α} {f g:α->Option β} (h:p=q) (k:∀y,f y=g y):p.bind f=q.bind g:=by rw[h,funext k]
theorem akb {α:Type} {c:Bool} {a b a' b':α} (h:a=a') (k:b=b'):(bif c then a else b)=bif c then a' else b':=by rw[h,k]
structure MF (F G:cG) (n:Nat):Prop where
 ev:∀x,Ag F G x->f50 (Gf n) F x=f50 (Gf n) G x
 leaf:∀x,Ag F G x->f87 (Gf n) F x=f87 (Gf n) G x
 op:∀x,Ag F G x->f88 (Gf n) F x=f88 (Gf n) G x
 op1:∀i x,Ag F G x->f141 (Gf n) i F x=f141 (Gf n) i G x
 part:∀x,Ag F G x->f89 (Gf n) F x=f89 (Gf n) G x
 con:∀x,Ag F G x->f90 (Gf n) F x=f90 (Gf n) G x
 akc:∀x,Ag F G x->∀i s,kU (Gf n) F x i s=kU (Gf n) G x i s
 akd:∀x,Ag F G x->∀i s,nD (Gf n) F x i s=nD (Gf n) G x i s
 ake:∀x,Ag F G x->∀i s,uA (Gf n) F x i s=uA (Gf n) G x i s
 akf:∀i x,Ag F G x->f146 (Gf n) i F x=f146 (Gf n) i G x
 set:∀x,Ag F G x->f147 (Gf n) F x=f147 (Gf n) G x
 akg:∀x,Ag F G x->∀s i,mC (Gf n) F x s i=mC (Gf n) G x s i
 obs:∀x,Ag F G x->f91 (Gf n) F x=f91 (Gf n) G x
theorem lv {F G:cG} {n:Nat} {x:ae} {p:Prop} (ih:MF F G n) (h:Ag F G x) (k:MF F G n->Ag F G x->p:=by
 intro ih h
 repeat' (first|with_reducible rfl|exact ih.ev _ h|exact ih.ev _ (h.cu (by assumption))|exact ih.leaf _ h|exact ih.op _ h|exact ih.op1 _ _ h|exact ih.part _ h|exact ih.con _ h|exact ih.akc _ h _ _|exact ih.akd _ h _ _|exact ih.ake _ h _ _|exact ih.akf _ _ h|exact ih.set _ h|exact ih.akg _ h _ _|exact ih.obs _ h|with_reducible refine akb ?_ ?_|with_reducible refine aka λ_ _=>?_|with_reducible refine afd ?_ λ_=>?_)):p:=k ih h
theorem Yo {F G:cG}:∀n,MF F G n
 |0=>by constructor<;>intros<;>rfl
 |n+1=>by
  have ih:=Yo (F:=F) (G:=G) n;constructor
  ·intro x h;show me (Gf n) F x=me (Gf n) G x;exact lv ih h
  ·intro x h;cases h with|mk h5 h4 hk=>?_
   show kF (Gf n) F x=kF (Gf n) G x;unfold kF;by_cases e4:x.Op=4
   ·rw[h4 e4];simp only[e4];rfl
   ·by_cases e5:x.Op=5
    ·rw[h5 e5];simp only[e5];rfl
    ·have e4:(x.Op==4)=false:=by simpa using e4
     have e5:(x.Op==5)=false:=by simpa using e5
     simp only[e4,e5,aF]
  ·intro x h;show gu (Gf n) F x=gu (Gf n) G x;exact lv ih h
  ·intro i x h;show rp (Gf n) i F x=rp (Gf n) i G x;exact lv ih h
  ·intro x h;show n9 (Gf n) F x=n9 (Gf n) G x;exact lv ih h
  ·intro x h;show ka (Gf n) F x=ka (Gf n) G x;exact lv ih h
  ·intro x h i s;show pc (Gf n) F x i s=pc (Gf n) G x i s;exact lv ih h
  ·intro x h i s;show pd (Gf n) F x i s=pd (Gf n) G x i s;exact lv ih h
  ·intro x h i s;show nE (Gf n) F x i s=nE (Gf n) G x i s;exact lv ih h
  ·intro i x h;show rq (Gf n) i F x=rq (Gf n) i G x;exact lv ih h
  ·intro x h;show pB (Gf n) F x=pB (Gf n) G x;exact lv ih h
  ·intro x h s i;show oJ (Gf n) F x s i=oJ (Gf n) G x s i;exact lv ih h
  ·intro x h;show oc (Gf n) F x=oc (Gf n) G x;exact lv ih h
theorem SM {F G:cG} {x:ae} (h:Ag F G x):(f50 Pf) F x=(f50 Pf) G x:=
 PF.uniq (f:=λn=>f50 (Gf n) F x) (PF.ap (PF.ap (PF.K.k _ Xf.1) F) x) (by rw[funext λn=>(Yo n).ev x h];exact PF.ap (PF.ap (PF.K.k _ Xf.1) G) x)
theorem acQ {s t:af} {a b:List aR} {x:ae} (h:Ag ⟨s,a⟩ ⟨t,b⟩ x):(f23 Pf) x s a=(f23 Pf) x t b:=by
 rw[Lx,rJ,Lx,rJ,SM h]
theorem acR {s t:af} {a b:List aR} {x:ae} (h:Ag ⟨s,a⟩ ⟨t,b⟩ x):(f22 Pf) x s a=(f22 Pf) x t b:=by
 rw[Ly,rK,Ly,rK,SM h]
inductive pN:ae->Prop
 |mk {x:ae}:x.Op≠5->(∀k∈x.Kids,pN k)->pN x
theorem pN.ag {s t:af} {a:List aR} {x:ae} (h:pN x):Ag ⟨s,a⟩ ⟨t,a⟩ x:=by
 induction h with
 |mk h _ ih=>exact .mk (λe=>absurd e h) (λ_=>rfl) ih
section
variable {B:Nat} (hB:B<=1048576)
include hB
theorem abr:∀x:ae,x.ok B->ab ((f29 Pf) x) (λr=>r=false->pN x):=by
 refine ae.ind λx ih hx=>?_;rw[ae.dO]at hx;obtain⟨_,_,_,_,_,hkl,hkk⟩:=hx;rw[e29,BA];refine ab.bif (λ_=>ab.ret λe=>by cases e) (λh5=>?_);have loop:ab ((oA Pf) x.Kids 0) (λr=>decide (r>=0)=false->∀k∈x.Kids,pN k):=by
  refine eZ (L:=λi=>(oA Pf) x.Kids i) (len:=x.Kids.length) (λn=>∀(i:Nat) k,i<n->x.Kids[i]? =some k->pN k) (λi hi hI k=>?_) (λhI=>?_) 0 (by omega) (λi p h=>by omega)
  ·show ab ((oA Pf) x.Kids i) _;obtain⟨y,hy⟩:=bw hi;have hm:=a7 hy;rw[Ol,sw,ae.aI,a6,dI hi];simp only[aD,bg hy,aw];refine ab.bind (ih y hm (ae.gJ hkk hm)) λr hr=>ab.bif (λ_=>ab.ret λe=>by simp at e) (λh=>?_);rw[bM i (by omega)];refine k λj z hj hz=>?_;rcases nf.1 hj with hj|rfl
   ·exact hI j z hj hz
   ·rw[hy]at hz;cases hz;exact hr h
  ·show ab ((oA Pf) x.Kids x.Kids.length) _;rw[Ol,sw,ae.aI,a6];simp only[oo,decide_false,aF];refine ab.ret λ_ k hk=>?_;obtain⟨i,hi,e⟩:=List.mem_iff_getElem.1 hk;exact hI i k hi (by rw[ML hi,e])
 rw[aeH,xS,adN,tV];refine ab.bind (ab.bind loop λr hr=>ab.ret (P:=λb=>b=false->∀k∈x.Kids,pN k) hr) λb hb=>ab.ret λe=>?_;exact .mk (by simpa using h5) (hb e)
theorem adZ {l:ah} {f:bU} {s:af} {a:List aR} (hl:l.ok B) (hf:f.ok B) (hs:s.ok B) (ha:kR B a) (hc:cz f.Body<=60) {u:Option (af×Int)} {q:Option (aR×Int)} (hu:u=(f12 Pf) l f s a) (hq:q=(f15 Pf) l f s a)
  {X:(af×Int)->(af×Int)->(aR×Int)->(aR×Int)->Option Bool} (hX:∀v d,SV v.1->d.1.Names.length<=274877906944->X v v d d=some true):(((f12 Pf) l f s a).bind λv=>u.bind λw=>((f15 Pf) l f s a).bind λd=>q.bind λc=>X v w d c)=some true:=by
 obtain⟨v,e1,h1,_⟩:=Z0 hB hl hf hs ha hc;obtain⟨d,e2,h2,_⟩:=aaJ hB hl hf hs ha hc;rw[hu,hq,e1,e2];exact hX v d h1 (by omega)
omit hB in
theorem Nk {l:ah} {f:bU} {s t:af} {a:List aR} {b:Bool} (hs:(f26 Pf) l s=some true) (ht:(f26 Pf) l t=some true):(f36 Pf) l f b s a=(f36 Pf) l f b t a:=by
 rw[Lw,rI,Lw,rI,hs,ht]
theorem ZF {l:ah} {f:bU} {s t:af} {args:List aR} (haw:(f10 Pf)=some true) (hl:l.ok B) (hf:f.ok B) (hs:s.ok B) (ht:t.ok B) (ha:kR B args):(f7 Pf) l f s t args=some true:=by
 rw[e7,B7,haw,aw,fm,aF];refine ab.of (ab.bind (aaK hB hs ha) (λy1 h1=>ab.bif (λ_=>ab.ret rfl) (λe1=>?_)));have hc:=h1 (by simpa using e1);refine ab.bind (Oa (yh hB t ht) (k:=40) (by decide) (by decide)) (λ_ _=>ab.bif (λ_=>ab.ret rfl) (λ_=>?_));refine ab.bind (abr hB f.Body hf.2.2.2.2) (λy3 h3=>ab.bif (λ_=>ab.ret rfl) (λe3=>?_));have hno:=h3 e3;obtain⟨b4,q4,h4⟩:=Db hB hl (yh hB s hs);rw[q4,aw];refine ab.bif (λ_=>ab.ret rfl) (λe4=>?_);have e4:b4=true:=by simpa using e4
 subst e4;obtain⟨b5,q5,h5⟩:=Db hB hl (yh hB t ht);rw[q5,aw];refine ab.bif (λ_=>ab.ret rfl) (λe5=>?_);have e5:b5=true:=by simpa using e5
 subst e5;refine ab.eq (adZ hB hl hf hs ha hc ?_ ?_ (X:=λy13 y14 y15 y16=>_) λv d hv hd=>?_)
 ·rw[Lz,rL,Lz,rL,Nk q4 q5,acQ (hno.ag (s:=s) (t:=t))]
 ·rw[LA,rM,LA,rM,Nk q4 q5,acR (hno.ag (s:=s) (t:=t))]
 ·simp only[beq_self_eq_true,aD,aac hv,abt hd,aw]
