/- A well-typed expression is what its trees are elaborated to. -/
import Derived.Test.YtnocmolegijmkaaGreatKRr
set_option linter.all false
namespace Go.Proofs.YtnocmolegijmkaaGreat
open Go Go.Bw
section
variable {B:Nat} (hB:B<=1048576) {c:bJ} (hc:CE B c) (hd:∀(i j:Nat) p q,c.params[i]? =some p->c.params[j]? =some q->p.Name=q.Name->i=j)
omit hB in
theorem Ya {i:Nat} {p:TParam} (hd:∀(i j:Nat) p q,c.params[i]? =some p->c.params[j]? =some q->p.Name=q.Name->i=j) (h:c.params[i]? =some p):idxOf (λq:TParam=>q.Name==p.Name) c.params 0=(i:Int):=by
 rcases qC (λq:TParam=>q.Name==p.Name) c.params 0 with⟨_,h2⟩|⟨j,x,h1,h2,h3,_⟩
 ·have:=h2 p (bh h);simp at this
 ·have e2:=hd j i x p h2 h (by simpa using h3);have h1:idxOf (λq:TParam=>q.Name==p.Name) c.params 0=((0+j:Nat):Int):=h1;rw[h1,e2];simp
theorem iw {n:af} {w:ay} {y:ab} (h51:n.Kind=51) (h:ae ((cV Pu) c n w) (·=⟨y.Op,y.aj,y.N,y.Text,0,y.Kids⟩) cQ):Ea c n w y:=by
 unfold Ea;rw[eu,dO];simp only[bp,aq,h51,Int.reduceBEq,aO,a6];exact ae.aA h λ_ e=>ae.ret e
include hB hc hd in
theorem O7:∀y:ab,IH B c y:=by
 refine ab.ind λy ih w n hw hW hb=>?_;have htt:=W.tt hc hW hw;have z0:isNone (aL 0)=true:=rfl;have s0:bW B (aL 0):= .inl rfl;have hW0:=hW;cases hW with
 |int h1 h2 hf=>
  cases hb;refine dS hB hw htt.ty rfl hf ?_;unfold Ea;rw[eu,dO];simp only[bp,aq,Int.reduceBEq,aO,a6];exact ae.ret rfl
 |bool h1 hf=>
  cases hb
  ·refine dS hB hw htt.ty rfl hf ?_;unfold Ea;rw[eu,dO];simp only[bp,aq,Int.reduceBEq,aO,a6];exact ae.ret rfl
  ·refine dS hB hw htt.ty rfl hf ?_;unfold Ea;rw[eu,dO];simp only[bp,aq,Int.reduceBEq,aO,a6];exact ae.ret rfl
 |name h1 hf=>
  cases hb;refine dS hB hw htt.ty rfl hf ?_;unfold Ea;rw[eu,dO];simp only[bp,aq,Int.reduceBEq,aO,a6];exact ae.ret rfl
 |param hp hf=>
  rename_i i p a;generalize hi:(i:Int)=i' at hb;cases hb with
  |param hq=>
   rename_i i2 q;have:i2=i:=by omega
   subst this;rw[hp]at hq;cases hq;refine dS hB hw htt.ty rfl hf ?_;unfold Ea;rw[eu,dO];simp only[bp,aq,Int.reduceBEq,aO,a6];refine ae.aC (Fz _ _ (by have:=hc.num;omega)) ?_;show ae (bif decide (idxOf (λq:TParam=>q.Name==p.Name) c.params 0<0)then _ else _) _ _;rw[Ya hd hp];refine ae.bif (λh=>by simp at h;omega) (λ_=>?_);exact ae.aC (eo hp) (ae.ret rfl)
 |state hf=>
  cases hb;refine dS hB hw htt.ty rfl hf ?_;unfold Ea;rw[eu,dO];simp only[bp,of_eq,aq,Int.reduceBEq,aO,a6];exact ae.ret rfl
 |jl hs hn=>
  cases hb;refine dS hB hw htt.ty rfl (λ_=>rfl) ?_;unfold Ea;rw[eu,dO];simp only[bp,fK,hn,hs,aq,Int.reduceBEq,Int.reduceBNe,aO,a6];exact ae.ret rfl
 |iX hn h1 h2 h3=>
  cases hb with
  |ite b1 b2 b3=>
  rename_i c0 x y a c' x' y';refine dS hB hw htt.ty rfl (λ_=>rfl) ?_;unfold Ea;rw[eu,dO,kV,iK];simp only[bp,fK,hn,aq,Int.reduceBEq,aO,a6];refine ae.aA (P:=(·=⟨7,w,0,[],0,[c0,x,y]⟩)) ?_ (λ_ e=>ae.ret e);refine ae.aC (v:=c') rfl (dK (ih _ (by simp) _ _ (ww 2) h1 b1) ?_);refine ae.aC (v:=x') rfl (dK (ih _ (by simp) _ _ hw h2 b2) ?_);refine ae.aC (v:=y') rfl (dK (ih _ (by simp) _ _ hw h3 b3) ?_);have e:=h2.qf hn;exact ae.ret (by rw[<-e])
 |kY hn h1 h2 h3=>
  cases hb with
  |ite b1 b2 b3=>
  rename_i c0 x y a c' x' y';refine dS hB hw htt.ty rfl (λh=>by rw[hn]at h;cases h) ?_;unfold Ea;rw[eu,dO,kV,iK];simp only[bp,fK,hn,aq,Int.reduceBEq,aO,a6];refine ae.aA (P:=(·=⟨7,x.aj,0,[],0,[c0,x,y]⟩)) ?_ (λ_ e=>ae.ret e);refine ae.aC (v:=c') rfl (dK (ih _ (by simp) _ _ (ww 2) h1 b1) ?_);refine ae.aC (v:=x') rfl (ae.aC (v:=y') rfl ?_);refine ae.aA (sN b2 b3 (uK hc (ih x (by simp)) (ih y (by simp)) b2 b3 (.inl ⟨h2,h3,λe=>by cases e⟩))) (λr e=>?_);have e:r=(x,y):=e;subst e;exact ae.ret rfl
 |kZ hn h1 h2 h3=>
  cases hb with
  |ite b1 b2 b3=>
  rename_i c0 x y a c' x' y';refine dS hB hw htt.ty rfl (λh=>by rw[hn]at h;cases h) ?_;unfold Ea;rw[eu,dO,kV,iK];simp only[bp,fK,hn,aq,Int.reduceBEq,aO,a6];refine ae.aA (P:=(·=⟨7,x.aj,0,[],0,[c0,x,y]⟩)) ?_ (λ_ e=>ae.ret e);refine ae.aC (v:=c') rfl (dK (ih _ (by simp) _ _ (ww 2) h1 b1) ?_);refine ae.aC (v:=x') rfl (ae.aC (v:=y') rfl ?_);refine ae.aA (sN b2 b3 (uK hc (ih x (by simp)) (ih y (by simp)) b2 b3 (.inr ⟨h2,h3,λe=>by cases e⟩))) (λr e=>?_);have e:r=(x,y):=e;subst e;exact ae.ret rfl
 |not h1 hf=>
  rename_i x a;have hx:=λn b=>ih x (by simp) (aL 2) n (ww 2) h1 b;cases hb with
  |not b1=>
   rename_i x';refine dS hB hw htt.ty rfl hf ?_;unfold Ea;rw[eu,dO];simp only[bp,aq,Int.reduceBEq,aO,a6];exact ae.aC (v:=x') rfl (dK (hx _ b1) (ae.ret rfl))
  |k8 hm _=>simp[eO]at hm
 |field h1 hs h6 hi hp hf=>
  rename_i x i p a;have hx:=λn b=>ih x (by simp) (aL 0) n s0 h1 b;have hl:=((htt.ez (k:=x) (by simp)).ty.du hs);have hnl:x.aj.ai.Names.length<=B:=by have:=hl.2;rw[ah.cM]at this;exact this.2.2.2.1.1
  generalize hi':(i:Int)=i' at hb;cases hb with
  |field hn b1=>
   rename_i i2 s x';have:i2=i:=by omega
   subst this;refine dS hB hw htt.ty rfl hf ?_;unfold Ea;rw[eu,dO,kV,iK];simp only[bp,fK,aq,Int.reduceBEq,aO,a6];refine ae.aA (P:=(·=⟨19,bN p,i2,[],0,[x]⟩)) ?_ (λ_ e=>ae.ret e);refine ae.aC (v:=x') rfl (Fj (Ei (by simp) (hx _ b1) hs (by simp[h6])) ?_);refine ae.aC (qL _ _ (by omega)) ?_;rw[LN hn (D4 hl.1 h6)];refine ae.bif (λh=>by simp at h;omega) (λ_=>?_);refine ae.aC (eo hp) (ae.aC (of_eq p) ?_);exact ae.ret rfl
  |k8 hm _=>simp[eO]at hm
 |flag hs hk h1=>
  rename_i x a;have hx:=λn b=>ih x (by simp) (aL 2) n (ww 2) h1 b;cases hb with
  |k8 hm b1=>
   simp[eO]at hm;subst hm;exact dS hB hw htt.ty rfl (λ_=>rfl) (iw rfl (Xj hs hk (hx _ b1)))
 |num hs hk h1=>
  rename_i x a;have hx:=λn b=>ih x (by simp) (aL 1) n (ww 1) h1 b;cases hb with
  |k8 hm b1=>
   simp[eO]at hm;subst hm;exact dS hB hw htt.ty rfl (λ_=>rfl) (iw rfl (Yb hs hk (hx _ b1)))
 |one hs hk h1=>
  rename_i x a;have hx:=λn b=>ih x (by simp) (aL 3) n (ww 3) h1 b;cases hb with
  |k8 hm b1=>
   simp[eO]at hm;subst hm;exact dS hB hw htt.ty rfl (λ_=>rfl) (iw rfl (Yc hs hk (hx _ b1)))
 |size h1 hm' hf=>
  rename_i x a;have hx:=λn b=>ih x (by simp) (aL 0) n s0 h1 b;cases hb with
  |k8 hm b1=>
   simp[eO]at hm;subst hm;exact dS hB hw htt.ty rfl hf (iw rfl (Xk (hx _ b1) hm'))
 |sum h1 hs h5 hp hk hf=>
  rename_i x p a;have hx:=λn b=>ih x (by simp) (aL 0) n s0 h1 b;cases hb with
  |k8 hm b1=>
   simp[eO]at hm;subst hm;exact dS hB hw htt.ty rfl hf (iw rfl (Yd (hx _ b1) hs h5 hp hk))
 |lj hm h1 hs hk hf=>
  rename_i op x s ks a;have hx:=λn b=>ih x (by simp) (aL 0) n s0 h1 b;simp only[cu,gx,or_false,ck]at hm;rcases hm with⟨rfl,rfl,rfl⟩|⟨rfl,rfl,rfl⟩|⟨rfl,rfl,rfl⟩|⟨rfl,rfl,rfl⟩|⟨rfl,rfl,rfl⟩
  all_goals cases hb
  all_goals (rename_i hm b1;simp[eO]at hm;subst hm)
  ·exact dS hB hw htt.ty rfl hf (iw rfl (Vm (hx _ b1) hs hk))
  ·exact dS hB hw htt.ty rfl hf (iw rfl (ZT (hx _ b1) hs hk))
  ·exact dS hB hw htt.ty rfl hf (iw rfl (Xl (hx _ b1) hs hk))
  ·exact dS hB hw htt.ty rfl hf (iw rfl (Vn (hx _ b1) hs hk))
  ·exact dS hB hw htt.ty rfl hf (iw rfl (TZ (hx _ b1) hs hk))
 |part ho h1 hs h7 hp hf=>
  rename_i op i x p a;have hx:=λn b=>ih x (by simp) (aL 0) n s0 h1 b;rcases ho with⟨rfl,rfl⟩|⟨rfl,rfl⟩
  all_goals cases hb
  all_goals (rename_i hm b1;simp[eO]at hm;subst hm)
  ·exact dS hB hw htt.ty rfl hf (iw rfl (Wg (hx _ b1) hs h7 hp))
  ·exact dS hB hw htt.ty rfl hf (iw rfl (Vo (hx _ b1) hs h7 hp))
 |pair h0 hk hp hq h1 h2=>
  have tw:=htt.ty;cases hb with
  |two hm=>simp[eF]at hm
  |pair b1 b2=>
   exact dS hB hw htt.ty rfl (λ_=>rfl) (iw rfl (TB h0 hk hp hq (ih _ (by simp) _ _ (.inr (fJ tw h0 (bh hp))) h1 b1) (ih _ (by simp) _ _ (.inr (fJ tw h0 (bh hq))) h2 b2)))
 |write h1 h2 h3 hf=>
  have wr:a7 B (bN eE):=a7.of wD (wQ B);cases hb with
  |write b1 b2 b3=>
   exact dS hB hw htt.ty rfl hf (iw rfl (Tq (ih _ (by simp) _ _ (.inr wr) h1 b1) (ih _ (by simp) _ _ (ww 1) h2 b2) (ih _ (by simp) _ _ (ww 3) h3 b3)))
 |iY h0 hk hn h1 hs=>
  rename_i kids a;have key:∀{ks:List af},kids.length=ks.length->(∀(i:Nat) k k',kids[i]? =some k->ks[i]? =some k'->Br c.params k k')->El c ⟨51,yW,0,a,ks⟩ w ⟨23,w,0,[],a,kids⟩:=λhl hb=>
   dS hB hw htt.ty rfl (λ_=>rfl) (iw rfl (T0 hB h0 hk hn hl (λi k k' g1 g2=>ih k (bh g1) _ _ s0 (h1 k (bh g1)) (hb i k k' g1 g2)) hs))
  cases hb with
  |iY hl hb=>exact key hl hb
  |two hm=>simp[eF]at hm
  |k8 hm=>simp[eO]at hm
 |map h0 hk hn hp h1 h2=>
  rename_i qs p a;generalize hkd:(qs.flatMap λq=>[q.1,q.2])=kids at*
  have tw:=htt.ty;cases hb with
  |map e hl b1 b2=>
   rename_i qs2 es;have e2:qs=qs2:=LO (hkd.trans e);subst e2;subst hkd;have m1:∀q∈qs,q.1∈(qs.flatMap λq=>[q.1,q.2])/\q.2∈(qs.flatMap λq=>[q.1,q.2]):=λq hq=>⟨eH.2 ⟨q,hq,by simp⟩,eH.2 ⟨q,hq,by simp⟩⟩;exact dS hB hw htt.ty rfl (λ_=>rfl) (iw rfl (T1 hB h0 hk hp hn hl (λi q e g1 g2=>ih q.1 (m1 q (bh g1)).1 _ _ (ww 3) (h1 q (bh g1)) (b1 i q e g1 g2)) (λi q e g1 g2=>ih q.2 (m1 q (bh g1)).2 _ _ (.inr (fJ tw h0 (bh hp))) (h2 q (bh g1)) (b2 i q e g1 g2))))
  |two hm=>simp[eF]at hm
  |k8 hm=>simp[eO]at hm
 |gT h0 h6 hn hl h1=>
  rename_i kids a;have tw:=htt.ty;cases hb with
  |gT hnm hes hdis hlt hb hbot=>
   refine dS hB hw htt.ty rfl (λ_=>rfl) (iw rfl (T2 hB tw h0 h6 hl hes hdis hlt (λe k p he hk hp=>?_) (λj k p hk hp=>?_)))
   ·exact ih k (bh hk) _ _ (.inr (fJ tw h0 (bh hp))) (h1 _ k p hk hp) (hb e k he hk)
   ·rcases hbot j k hk with h|⟨h,h'⟩
    ·exact .inl h
    ·refine .inr ?_;have:=h1 j k p hk hp;cases this
     all_goals first|(simp at h;done)|skip
     ·simp at h';subst h';rfl
     all_goals (exfalso;simp at h;first|omega|(subst h;simp_all;done))
  |two hm=>simp[eF]at hm
  |k8 hm=>simp[eO]at hm
 |conn ho h1 h2 hf=>
  cases hb with
  |two hm b1 b2=>exact mm hB hc hw hW0 hm ih b1 b2
  |_=>omega
 |less ho h1 h2 hf=>
  cases hb with
  |two hm b1 b2=>exact mm hB hc hw hW0 hm ih b1 b2
  |_=>omega
 |jA ho h1 h2 hf=>
  cases hb with
  |two hm b1 b2=>exact mm hB hc hw hW0 hm ih b1 b2
  |_=>omega
 |equal h1 h2 h3 hf=>
  cases hb with
  |two hm b1 b2=>exact mm hB hc hw hW0 hm ih b1 b2
 |mC h1 h2 hf=>
  cases hb with
  |two hm b1 b2=>exact mm hB hc hw hW0 hm ih b1 b2
 |mD h1 h2 h3 hf=>
  cases hb with
  |two hm b1 b2=>exact mm hB hc hw hW0 hm ih b1 b2
 |mE h1 h2 h3 hf=>
  cases hb with
  |two hm b1 b2=>exact mm hB hc hw hW0 hm ih b1 b2
 |jt hn hs h1 h2=>
  cases hb with
  |two hm b1 b2=>exact mm hB hc hw hW0 hm ih b1 b2
 |kQ hn hs h1 h2=>
  cases hb with
  |two hm b1 b2=>exact mm hB hc hw hW0 hm ih b1 b2
 |kR hn hs h1 h2=>
  cases hb with
  |two hm b1 b2=>exact mm hB hc hw hW0 hm ih b1 b2
 |at_ h1 hs h5 hp h2 hf=>
  cases hb with
  |two hm b1 b2=>exact mm hB hc hw hW0 hm ih b1 b2
end
theorem ZS {ps:List TParam} {y:ab} {n:af} (h:Br ps y n):n.At=y.At/\(n.Kind=50↔y.Op=6):=by
 have t:∀q∈eF,q.1≠6/\q.2≠50:=by decide
 have o:∀q∈eO,q.1≠6:=by decide
 cases h with
 |two hm=>have:=t _ hm;exact⟨rfl,⟨λh=>absurd h this.2,λh=>absurd h this.1⟩⟩
 |k8 hm=>have:=o _ hm;exact⟨rfl,⟨λh=>by simp at h,λh=>absurd h this⟩⟩
 |_=>exact⟨rfl,by simp⟩
section
variable {B:Nat} (hB:B<=1048576) {c:bJ} {ps:List TParam}
theorem Vl {y : ab} {ns : List af} (hlen : y.Kids.length ≤ 2097152) (hl : y.Kids.length = ns.length) (h : ∀ (i : Nat) k n, y.Kids[i]? = some k → ns[i]? = some n → (nU Pu) ps k = some (n, true)) :
    (iA Pu) ps y false 0 [] = (iA Pu) ps y false (y.Kids.length : Int) ns := by
  have key : ∀ m i : Nat, i + m = y.Kids.length → (iA Pu) ps y false (i : Int) (ns.take i) = (iA Pu) ps y false (y.Kids.length : Int) ns := by
    intro m
    induction m with
    | zero => intro i hi; have : i = y.Kids.length := by omega
              subst this; rw [hl, jg]
    | succ m im =>
      intro i hi
      obtain ⟨k, hk⟩ := bg (l := y.Kids) (i := i) (by omega)
      obtain ⟨n, hn⟩ := bg (l := ns) (i := i) (by omega)
      have hb : (ns.take i).length = i := by rw [gw]; omega
      rw [B6, pN, ab.aB, aU]
      have : decide (i < y.Kids.length) = true := by simp; omega
      rw [this, aO, bc hk, aq, h i k n hk hn, aq]
      have hlen : decide ((ns.take i ++ [af.z]).length ≤ 274877906944) = true := by simp; omega
      show (bif decide ((ns.take i ++ [af.z]).length ≤ 274877906944) then (ao (ns.take i ++ [af.z]) _).bind _ else none) = _
      rw [hlen, aO, af.aB, lY, bO i (by omega), fv]
      have e1 : (ns.take i ++ [af.z])[(ns.take i).length]? = some af.z := by simp
      rw [e1, aq]
      show (iA Pu) ps y false _ ((ns.take i ++ [af.z]).set (ns.take i).length n) = _
      rw [ly, qH hn]
      exact im (i + 1) (by omega)
  exact key y.Kids.length 0 (by omega)
theorem UF {y : ab} {ns : List af} (hlen : y.Kids.length ≤ 2097152) (hl : y.Kids.length = ns.length) (h : ∀ (i : Nat) k n, y.Kids[i]? = some k → ns[i]? = some n → (lh Pu) ps k = some (n, true)) :
    (iT Pu) ps y false 0 [] = (iT Pu) ps y false (y.Kids.length : Int) ns := by
  have key : ∀ m i : Nat, i + m = y.Kids.length → (iT Pu) ps y false (i : Int) (ns.take i) = (iT Pu) ps y false (y.Kids.length : Int) ns := by
    intro m
    induction m with
    | zero => intro i hi; have : i = y.Kids.length := by omega
              subst this; rw [hl, jg]
    | succ m im =>
      intro i hi
      obtain ⟨k, hk⟩ := bg (l := y.Kids) (i := i) (by omega)
      obtain ⟨n, hn⟩ := bg (l := ns) (i := i) (by omega)
      have hb : (ns.take i).length = i := by rw [gw]; omega
      rw [Fv, rk, ab.aB, aU]
      have : decide (i < y.Kids.length) = true := by simp; omega
      rw [this, aO, bc hk, aq, h i k n hk hn, aq]
      have hlen : decide ((ns.take i ++ [n]).length ≤ 274877906944) = true := by simp; omega
      show (bif decide ((ns.take i ++ [n]).length ≤ 274877906944) then _ else none) = _
      rw [hlen, aO, bO i (by omega), qH hn]
      exact im (i + 1) (by omega)
  exact key y.Kids.length 0 (by omega)
def PL (ps:List TParam) (y:ab) (ns:List af):Prop:=∃n,(iA Pu) ps y false (y.Kids.length:Int) ns=some (n,true)/\Br ps y n
def O8 (ps:List TParam) (y:ab) (ns:List af):Prop:=∃n,(iT Pu) ps y false (y.Kids.length:Int) ns=some (n,true)/\Br ps y n
theorem wF {y:ab} {ns:List af}:(iA Pu) ps y false (y.Kids.length:Int) ns=((kn Pu) y.Op).bind λy18=>(bif y18.fst !=0 then(bif y18.snd !=(y.Kids.length:Int)then(some (({Kind:=y18.fst,Text:=[],N:=0,At:=y.At,Kids:=ns:af},false)))else(bif y18.fst==42 then((ao (y.Kids) (0)).bind λx22=>(bif decide (y.N<0)then(some (({Kind:=y18.fst,Text:=[],N:=0,At:=y.At,Kids:=ns:af},false)))else(bif decide (y.N>=(x22.aj.ai.Names.length:Int))then(some (({Kind:=y18.fst,Text:=[],N:=0,At:=y.At,Kids:=ns:af},false)))else((ao (x22.aj.ai.Names) (y.N)).bind λx26=>(some (({Kind:=y18.fst,Text:=x26,N:=0,At:=y.At,Kids:=ns:af},true)))))))else(some (({Kind:=y18.fst,Text:=[],N:=0,At:=y.At,Kids:=ns:af},true)))))else(((ko Pu) y.Op).bind λy28=>(bif y.Op==24 then(bif (ns.length:Int).tmod 2 !=0 then(some (({Kind:=51,Text:=y28,N:=0,At:=y.At,Kids:=ns:af},false)))else((kN Pu) y ns y28 [] 0))else(bif y.Op==25 then(bif (y.aj.ai.Names.length:Int) !=(ns.length:Int)then(some (({Kind:=51,Text:=y28,N:=0,At:=y.At,Kids:=ns:af},false)))else((jk Pu) y ns y28 [] 0))else(some (({Kind:=51,Text:=y28,N:=0,At:=y.At,Kids:=ns:af},!y28==[]))))))):=by
 rw[B6,pN,ab.aB,aU];have:decide (y.Kids.length<y.Kids.length)=false:=by simp
 rw[this,a6,af.aB];simp only[cv]
end
def dV (f:af->Bool) (b:Int):Nat->List af->List (Nat×Int×af)
 |_,[]=>[]
 |i,n::r=>bif f n then(i,b,n)::dV f b (i+1) r else dV f b (i+1) r
theorem wG {f:af->Bool} {b:Int}:∀{ns:List af} {i:Nat} {e:Nat×Int×af},e∈dV f b i ns->∃j,e.1=i+j/\ns[j]? =some e.2.2
 |n::r,i,e,h=>by
  rw[dV]at h;cases hf:f n with
  |true=>
   rw[hf,aO]at h;rcases cu.1 h with rfl|h
   ·exact⟨0,rfl,rfl⟩
   ·obtain⟨j,h1,h2⟩:=wG h;exact⟨j+1,by omega,h2⟩
  |false=>
   rw[hf,a6]at h;obtain⟨j,h1,h2⟩:=wG h;exact⟨j+1,by omega,h2⟩
theorem Mu {f:af->Bool} {b:Int}:∀{ns:List af} {i j:Nat} {n:af},ns[j]? =some n->f n=true->∃e∈dV f b i ns,e.1=i+j
 |m::r,i,0,n,h,hf=>by
  simp only[mO,aE]at h;subst h;rw[dV,hf];exact⟨_,SU ..,rfl⟩
 |m::r,i,j+1,n,h,hf=>by
  obtain⟨e,h1,h2⟩:=Mu (f:=f) (b:=b) (i:=i+1) (ns:=r) (j:=j) (by simpa using h) hf;refine⟨e,?_,by omega⟩;rw[dV];cases f m with
  |true=>exact Ap _ h1
  |false=>exact h1
theorem Mv {f:af->Bool} {b:Int}:∀{ns:List af} {i:Nat},(dV f b i ns).length<=ns.length
 |[],_=>bU _
 |n::r,i=>by
  have:=Mv (f:=f) (b:=b) (ns:=r) (i:=i+1);rw[dV];cases f n<;>simp<;>omega
theorem LL {f:af->Bool} {b:Int}:∀{ns:List af} {i:Nat},(dV f b i ns).Pairwise (λx y=>x.1<y.1)
 |[],_=>List.Pairwise.nil
 |n::r,i=>by
  have ih:=LL (f:=f) (b:=b) (ns:=r) (i:=i+1);rw[dV];cases f n with
  |true=>exact List.Pairwise.cons (λe he=>by obtain⟨j,h,_⟩:=wG he;show i<e.1;omega) ih
  |false=>exact ih
theorem Wf {f:af->Bool} {b:Int} {ns:List af} {i:Nat} (p q:Nat) (e e':Nat×Int×af) (hp:(dV f b i ns)[p]? =some e) (hq:(dV f b i ns)[q]? =some e') (h:e.1=e'.1):p=q:=by
 have hw:=LL (f:=f) (b:=b) (ns:=ns) (i:=i);rw[List.pairwise_iff_getElem]at hw;obtain⟨hp1,hp2⟩:=cy.1 hp;obtain⟨hq1,hq2⟩:=cy.1 hq;rcases J0 p q with g|g|g
 ·have:=hw p q hp1 hq1 g;rw[hp2,hq2]at this;omega
 ·exact g
 ·have:=hw q p hq1 hp1 g;rw[hp2,hq2]at this;omega
theorem Mw {b:Int}:∀{ns:List af} {i j:Nat},(dV (λ_=>true) b i ns)[j]? =(ns[j]?).map λn=>(i+j,b,n)
 |[],_,j=>by simp[dV]
 |n::r,i,0=>by simp[dV]
 |n::r,i,j+1=>by
  rw[dV,aO,nX,Mw,nX];congr 1;funext m;congr 1;omega
theorem O' {ps : List TParam} {t : ay} {a b : Int} {kids : List ab} {ns : List af} {f : af → Bool} (hn : t.ai.Names.length = kids.length) (hl : kids.length = ns.length) (h : ∀ (i : Nat) k n, kids[i]? = some k → ns[i]? = some n → Br ps k n) (hf : ∀ n, f n = false → n.Kind = 50 ∧ n.At = a) : Br ps ⟨25, t, 0, [], a, kids⟩ ⟨51, dc, 0, a, (dV f b 0 ns).map (eZ t.ai.Names)⟩ := by
  refine .gT hn (by rw [hl]; exact Mv) (fun p q e e' h1 h2 h3 => Wf p q e e' h1 h2 h3) (fun e he => ?_) (fun e k he hk => ?_) (fun j k hk => ?_)
  · obtain ⟨j, h1, h2⟩ := wG he
    have := (cy.1 h2).1; omega
  · obtain ⟨j, h1, h2⟩ := wG he
    rw [h1, oZ] at hk
    exact h j k _ hk h2
  · obtain ⟨n, hn⟩ := bg (l := ns) (i := j) (by have := (cy.1 hk).1; omega)
    cases hfn : f n with
    | true => obtain ⟨e, h1, h2⟩ := Mu (f := f) (b := b) (i := 0) hn hfn
              exact .inl ⟨e, h1, by omega⟩
    | false =>
      obtain ⟨h1, h2⟩ := hf n hfn
      have hb := ZS (h j k n hk hn)
      exact .inr ⟨hb.2.1 h1, by rw [← hb.1]; exact h2⟩
def gU (g:af->Int):List af->List (List UInt8×Int×af×af)
 |x::y::r=>([],g x,x,y)::gU g r
 |_=>[]
theorem Bk {g:af->Int}:∀{ns:List af} {i:Nat} {x y:af},ns[2*i]? =some x->ns[2*i+1]? =some y->(gU g ns)[i]? =some ([],g x,x,y)
 |a::b::r,0,x,y,h1,h2=>by
  simp only[Nat.mul_zero,oZ,mO,nX,aE]at h1 h2;subst h1;subst h2;rfl
 |a::b::r,i+1,x,y,h1,h2=>by
  rw[gU,nX];exact Bk (by simpa[DS]using h1) (by simpa[DS]using h2)
 |[a],i,x,y,h1,h2=>by simp at h2
 |[],i,x,y,h1,h2=>by simp at h1
theorem Bl {g:af->Int}:∀{ns:List af},(gU g ns).length=ns.length/2
 |a::b::r=>by rw[gU,fu,Bl (ns:=r)];simp;omega
 |[_]=>by simp[gU]
 |[]=>rfl
theorem LM {D:Type}:∀{qs:List (D×D)} {i:Nat} {q:D×D},qs[i]? =some q->(qs.flatMap λq=>[q.1,q.2])[2*i]? =some q.1/\(qs.flatMap λq=>[q.1,q.2])[2*i+1]? =some q.2
 |p::r,0,q,h=>by simp only[mO,aE]at h;subst h;exact⟨rfl,rfl⟩
 |p::r,i+1,q,h=>by
  have:=LM (qs:=r) (i:=i) (q:=q) (by simpa using h);simpa[DS,Af]using this
theorem O9 {ps:List TParam} {t:ay} {a:Int} {qs:List (ab×ab)} {ns:List af} {g:af->Int} (hl:(qs.flatMap λq=>[q.1,q.2]).length=ns.length) (h:∀(i:Nat) k n,(qs.flatMap λq=>[q.1,q.2])[i]? =some k->ns[i]? =some n->Br ps k n):Br ps ⟨24,t,0,[],a,qs.flatMap λq=>[q.1,q.2]⟩ ⟨51,dD,0,a,(gU g ns).map fm⟩:=by
 rw[oc]at hl;have key:∀(i:Nat) q e,qs[i]? =some q->(gU g ns)[i]? =some e->Br ps q.1 e.2.2.1/\Br ps q.2 e.2.2.2:=by
  intro i q e h1 h2;have hi:=(cy.1 h1).1;obtain⟨x,hx⟩:=bg (l:=ns) (i:=2*i) (by omega);obtain⟨y,hy⟩:=bg (l:=ns) (i:=2*i+1) (by omega);rw[Bk hx hy]at h2;cases h2;obtain⟨f1,f2⟩:=LM h1;exact⟨h _ _ _ f1 hx,h _ _ _ f2 hy⟩
 exact .map rfl (by rw[Bl];omega) (λi q e h1 h2=>(key i q e h1 h2).1) (λi q e h1 h2=>(key i q e h1 h2).2)
theorem Wd {y:ab} {ns:List af} {t:List UInt8} (he:ns.length%2=0) (hl:ns.length<=2097152):(kN Pu) y ns t [] 0=some (⟨51,t,0,y.At,(gU (λ_=>0) ns).map fm⟩,true):=by
 refine ag.of ?_;have h:=eS (L:=λi (b:List af)=>(kN Pu) y ns t b (2*i)) (P:=(·=(⟨51,t,0,y.At,(gU (λ_=>0) ns).map fm⟩,true))) (len:=ns.length/2) (λi b=>b=((gU (λ_=>0) ns).map fm).take i) (λi b hi hI k=>by
   show ag ((kN Pu) y ns t b _) _;have e0:(2*(i:Int))=((2*i:Nat):Int):=by omega
   rw[B4,pO,af.aB,e0,aU];have:decide (2*i<ns.length)=true:=by simp;omega
   obtain⟨p,hp⟩:=bg (by omega:2*i<ns.length);obtain⟨q,hq⟩:=bg (by omega:2*i+1<ns.length);have e2:IntKind.i64.wrap (((2*i:Nat):Int)+2)=2*((i+1:Nat):Int):=by rw[wrap64 (by omega) (by omega)];omega
   rw[this,aO,bc hp,aq,bO _ (by omega),bc hq,aq,e2];have hbl:b.length<=i:=by rw[hI,gw];omega
   have hlen:decide ((b++[({Kind:=52,Text:=[],N:=0,At:=0,Kids:=[p,q]}:af)]).length<=274877906944)=true:=by simp;omega
   rw[hlen,aO];refine k _ ?_;have hg:((gU (λ_=>0) ns).map fm)[i]? =some ⟨52,[],0,0,[p,q]⟩:=by rw[qu,Bk hp hq];rfl
   rw[hI,qH hg]) (λb hI=>by
   show ag ((kN Pu) y ns t b _) _;have e0:(2*((ns.length/2:Nat):Int))=((ns.length:Nat):Int):=by omega
   rw[B4,pO,af.aB,e0,aU];have:decide (ns.length<ns.length)=false:=by simp
   rw[this,a6];have e3:b=(gU (λ_=>0) ns).map fm:=by
    rw[hI];exact S4 (by rw[jI,Bl];exact bU _)
   rw[e3];exact ag.ret rfl) 0 [] (by omega) (by simp)
 simpa using h
theorem Vk {y:ab} {ns:List af} {t:List UInt8} (he:ns.length%2=0) (hl:ns.length<=2097152):(mi Pu) y ns t 0 []=some (⟨51,t,0,y.At,(gU (λx=>x.At) ns).map fm⟩,true):=by
 refine ag.of ?_;have h:=eS (L:=λi (b:List af)=>(mi Pu) y ns t (2*i) b) (P:=(·=(⟨51,t,0,y.At,(gU (λx=>x.At) ns).map fm⟩,true))) (len:=ns.length/2) (λi b=>b=((gU (λx=>x.At) ns).map fm).take i) (λi b hi hI k=>by
   show ag ((mi Pu) y ns t _ b) _;have e0:(2*(i:Int))=((2*i:Nat):Int):=by omega
   obtain⟨p,hp⟩:=bg (by omega:2*i<ns.length);obtain⟨q,hq⟩:=bg (by omega:2*i+1<ns.length);rw[B7,pR,af.aB,e0,bO _ (by omega),aU];have:decide (2*i+1<ns.length)=true:=by simp;omega
   have e2:IntKind.i64.wrap (((2*i:Nat):Int)+2)=2*((i+1:Nat):Int):=by rw[wrap64 (by omega) (by omega)];omega
   rw[this,aO,bc hp,aq,bc hq,aq,e2];have hbl:b.length<=i:=by rw[hI,gw];omega
   have hlen:decide ((b++[({Kind:=52,Text:=[],N:=0,At:=p.At,Kids:=[p,q]}:af)]).length<=274877906944)=true:=by simp;omega
   refine ag.aC rfl ?_;rw[hlen,aO];refine k _ ?_;have hg:((gU (λx=>x.At) ns).map fm)[i]? =some ⟨52,[],0,p.At,[p,q]⟩:=by rw[qu,Bk hp hq];rfl
   rw[hI,qH hg]) (λb hI=>by
   show ag ((mi Pu) y ns t _ b) _;have e0:(2*((ns.length/2:Nat):Int))=((ns.length:Nat):Int):=by omega
   rw[B7,pR,af.aB,e0,bO _ (by omega),aU];have:decide (ns.length+1<ns.length)=false:=by simp
   rw[this,a6];have e3:b=(gU (λx=>x.At) ns).map fm:=by
    rw[hI];exact S4 (by rw[jI,Bl];exact bU _)
   have e4:(((ns.length:Int)).tmod 2==0)=true:=by
    rw[Te (by omega)];simp;omega
   rw[e3,e4];exact ag.ret rfl) 0 [] (by omega) (by simp)
 simpa using h
theorem Xh {y:ab} {ns:List af} {t:List UInt8} (he:y.aj.ai.Names.length=ns.length) (hl:ns.length<=2097152):(jk Pu) y ns t [] 0=some (⟨51,t,0,y.At,(dV (λn=>!(n.Kind==50&&n.At==y.At)) 0 0 ns).map (eZ y.aj.ai.Names)⟩,true):=by
 have key:∀m i:Nat,i+m=ns.length->∀b:List af,b.length<=i->(jk Pu) y ns t b (i:Int)=some (⟨51,t,0,y.At,b++(dV (λn=>!(n.Kind==50&&n.At==y.At)) 0 i (ns.drop i)).map (eZ y.aj.ai.Names)⟩,true):=by
  intro m
  induction m with
  |zero=>
   intro i hi b hb;have:i=ns.length:=by omega
   subst this;rw[B5,pP,af.aB,aU,List.drop_length];have:decide (ns.length<ns.length)=false:=by simp
   rw[this,a6];simp[dV]
  |succ m im=>
   intro i hi b hb;obtain⟨x,hx⟩:=bg (l:=ns) (i:=i) (by omega);obtain⟨s,hs⟩:=bg (l:=y.aj.ai.Names) (i:=i) (by omega);rw[B5,pP,af.aB,aU];have:decide (i<ns.length)=true:=by simp;omega
   have hlen:decide ((b++[({Kind:=52,Text:=s,N:=0,At:=0,Kids:=[x]}:af)]).length<=274877906944)=true:=by simp;omega
   rw[this,aO,bc hx,aq,bc hs,aq,hlen,aO,bO i (by omega),mX hx,dV];have hent:eZ y.aj.ai.Names (i,0,x)=⟨52,s,0,0,[x]⟩:=by simp[eZ,hs]
   have bo:=im (i+1) (by omega) (b++[⟨52,s,0,0,[x]⟩]) (by simp;omega);have drop:=im (i+1) (by omega) b (by omega);cases h1:x.Kind==50 with
   |false=>
    have:(x.Kind !=50)=true:=by simp[bne,h1]
    rw[this,aO,Bool.false_and,vJ,aO,dY,hent,bo];simp
   |true=>
    have:(x.Kind !=50)=false:=by simp[bne,h1]
    rw[this,a6,Bool.true_and];cases h2:x.At==y.At with
    |false=>
     have:(x.At !=y.At)=true:=by simp[bne,h2]
     rw[this,aO,vJ,aO,dY,hent,bo];simp
    |true=>
     have:(x.At !=y.At)=false:=by simp[bne,h2]
     rw[this,a6,qx,a6,drop]
 simpa using key ns.length 0 (by omega) [] (by simp)
theorem We {y:ab} {ns:List af} {t:List UInt8} (he:y.aj.ai.Names.length=ns.length) (hl:ns.length<=2097152):(jR Pu) y ns t ns 0=some (⟨51,t,0,y.At,(dV (λ_=>true) y.At 0 ns).map (eZ y.aj.ai.Names)⟩,true):=by
 refine ag.of ?_;have hE:∀(j:Nat) x s,ns[j]? =some x->y.aj.ai.Names[j]? =some s->((dV (λ_=>true) y.At 0 ns).map (eZ y.aj.ai.Names))[j]? =some ⟨52,s,0,y.At,[x]⟩:=λj x s h1 h2=>by
  rw[qu,Mw,h1];simp[eZ,h2]
 have hEl:((dV (λ_=>true) y.At 0 ns).map (eZ y.aj.ai.Names)).length=ns.length:=by
  have key:∀(ns:List af) (i:Nat),(dV (λ_=>true) y.At i ns).length=ns.length:=by
   intro ns;induction ns with
   |nil=>intro i;rfl
   |cons n r ih=>intro i;rw[dV,aO,fu,ih,fu]
  rw[jI,key]
 have h:=eS (L:=λi (b:List af)=>(jR Pu) y ns t b i) (P:=(·=(⟨51,t,0,y.At,(dV (λ_=>true) y.At 0 ns).map (eZ y.aj.ai.Names)⟩,true))) (len:=ns.length) (λi b=>b.length=ns.length/\∀j:Nat,b[j]? =if j<i then((dV (λ_=>true) y.At 0 ns).map (eZ y.aj.ai.Names))[j]? else ns[j]?) (λi b hi hI k=>by
   show ag ((jR Pu) y ns t b _) _;obtain⟨x,hx⟩:=bg hi;obtain⟨s,hs⟩:=bg (l:=y.aj.ai.Names) (i:=i) (by omega);have hb:b[i]? =some x:=by rw[hI.2 i,bK (by omega),hx]
   rw[B',pS,af.aB,aU];have:decide (i<ns.length)=true:=by simpa using hi
   rw[this,aO,bc hs,aq,bc hb,aq,aq,fv,bO i (by omega)];refine k _ ⟨by simp[hI.1],λj=>?_⟩;by_cases e:j=i
   ·subst e;rw[mQ (by omega),cj (by omega),hE j x s hx hs]
   ·rw[ky (by omega),hI.2 j];by_cases h1:j<i
    ·rw[cj h1,cj (by omega)]
    ·rw[bK h1,bK (by omega)]) (λb hI=>by
   show ag ((jR Pu) y ns t b _) _;rw[B',pS,af.aB,aU];have:decide (ns.length<ns.length)=false:=by simp
   rw[this,a6];have e3:b=(dV (λ_=>true) y.At 0 ns).map (eZ y.aj.ai.Names):=DN λj=>by
    rw[hI.2 j];by_cases h1:j<ns.length
    ·rw[cj h1]
    ·rw[bK h1,pc (by omega),pc (by omega)]
   rw[e3];exact ag.ret rfl) 0 ns (by omega) ⟨rfl,λj=>by rw[bK (by omega)]⟩
 exact h
theorem W.kids {l:ah} {ps:List TParam} {y:ab} {w:ay} (h:W l ps y w):∀k∈y.Kids,∃w',W l ps k w':=by
 cases h with
 |iY _ _ _ h1 _=>exactλk hk=>⟨_,h1 k hk⟩
 |map _ _ _ _ h1 h2=>
  intro k hk;obtain⟨q,g1,g2⟩:=eH.1 hk;simp at g2;rcases g2 with rfl|rfl
  ·exact⟨_,h1 q g1⟩
  ·exact⟨_,h2 q g1⟩
 |gT _ _ _ hl h1=>
  intro k hk;obtain⟨i,hi⟩:=fR hk;obtain⟨p,hp⟩:=bg (i:=i) (by rw[<-hl];exact(cy.1 hi).1);exact⟨_,h1 i k p hi hp⟩
 |iX _ h1 h2 h3=>intro k hk;simp only[cu,gx,or_false]at hk;rcases hk with rfl|rfl|rfl;exact⟨_,h1⟩;exact⟨_,h2⟩;exact⟨_,h3⟩
 |kY _ h1 h2 h3=>intro k hk;simp only[cu,gx,or_false]at hk;rcases hk with rfl|rfl|rfl;exact⟨_,h1⟩;exact⟨_,h2⟩;exact⟨_,h3⟩
 |kZ _ h1 h2 h3=>intro k hk;simp only[cu,gx,or_false]at hk;rcases hk with rfl|rfl|rfl;exact⟨_,h1⟩;exact⟨_,h3⟩;exact⟨_,h2⟩
 |write h1 h2 h3 _=>intro k hk;simp only[cu,gx,or_false]at hk;rcases hk with rfl|rfl|rfl;exact⟨_,h1⟩;exact⟨_,h2⟩;exact⟨_,h3⟩
 |_=>
  intro k hk
  first
   |(simp at hk;done)
   |(simp only[cu,gx,or_false]at hk;subst hk;apply Exists.intro;assumption)
   |(simp only[cu,gx,or_false]at hk;rcases hk with rfl|rfl<;>(apply Exists.intro;assumption))
theorem Fi {D β:Type} {P:D->β->Prop}:∀{l:List D},(∀k∈l,∃n,P k n)->∃ns:List β,l.length=ns.length/\∀(i:Nat) k n,l[i]? =some k->ns[i]? =some n->P k n
 |[],_=>⟨[],rfl,by simp⟩
 |x::l,h=>by
  obtain⟨n,hn⟩:=h x (by simp);obtain⟨ns,h1,h2⟩:=Fi (l:=l) λk hk=>h k (by simp[hk]);refine⟨n::ns,by simp[h1],λi k m g1 g2=>?_⟩;cases i with
  |zero=>simp only[mO,aE]at g1 g2;subst g1;subst g2;exact hn
  |succ i=>exact h2 i k m (by simpa using g1) (by simpa using g2)
theorem Xd:∀q∈eF,(kn Pu) q.1=some (q.2,2)/\(ka Pu) q.1=some q.2/\q.2≠0/\q.2≠42/\q.1≠24/\q.1≠25/\q.1≠19:=by
 intro q hq;simp only[eF,cu,gx,or_false]at hq;rcases hq with rfl|rfl|rfl|rfl|rfl|rfl|rfl|rfl|rfl|rfl|rfl<;>refine⟨by rw[mL,jF];rfl,by rw[yH,oK];rfl,by decide⟩
theorem Xe:∀q∈eO,(kn Pu) q.1=some (0,0)/\(ko Pu) q.1=some q.2/\(ka Pu) q.1=some 0/\(eD Pu) q.1=some q.2/\q.1≠24/\q.1≠25/\(q.2==[])=false:=by
 intro q hq;simp only[eO,cu,gx,or_false]at hq;rcases hq with rfl|rfl|rfl|rfl|rfl|rfl|rfl|rfl|rfl|rfl|rfl|rfl<;>refine⟨by rw[mL,jF];rfl,by rw[zJ,oR];rfl,by rw[yH,oK];rfl,by rw[CI,qc];rfl,by decide⟩
section
variable {ps:List TParam}
theorem Xi {y:ab} (h:y.Kids≠[]\/(y.Op≠1/\y.Op≠2/\y.Op≠3/\y.Op≠4)):∃z,(vt Pu) ps y=some (z,false):=by
 rw[sB,mI,ab.aB];by_cases h0:y.Kids=[]
 ·have h:=h.resolve_left (λg=>g h0);have e1:(y.Op==1)=false:=by simpa using h.1
  have e2:(y.Op==2)=false:=by simpa using h.2.1
  have e3:(y.Op==3)=false:=by simpa using h.2.2.1
  have e4:(y.Op==4)=false:=by simpa using h.2.2.2
  rw[h0,e1,e2,e3,e4];exact⟨_,rfl⟩
 ·have:decide ((y.Kids.length:Int)>0)=true:=by
   have:=Ak.2 h0;simp;omega
  rw[this];exact⟨_,rfl⟩
theorem Xc {y:ab} {ns:List af} (hlf:y.Kids≠[]\/(y.Op≠1/\y.Op≠2/\y.Op≠3/\y.Op≠4)) (hlen:y.Kids.length<=2097152) (hl:y.Kids.length=ns.length) (h:∀(i:Nat) k n,y.Kids[i]? =some k->ns[i]? =some n->(nU Pu) ps k=some (n,true)) (ha:PL ps y ns):∃n,(nU Pu) ps y=some (n,true)/\Br ps y n:=by
 obtain⟨z,e⟩:=Xi (ps:=ps) hlf;obtain⟨n,h1,h2⟩:=ha;refine⟨n,?_,h2⟩;rw[JQ,su,e];show(iA Pu) ps y false 0 []=_;rw[Vl hlen hl h,h1]
theorem Wc {y:ab} {ns:List af} (hlen:y.Kids.length<=2097152) (hl:y.Kids.length=ns.length) (h:∀(i:Nat) k n,y.Kids[i]? =some k->ns[i]? =some n->(lh Pu) ps k=some (n,true)) (ha:O8 ps y ns):∃n,(lh Pu) ps y=some (n,true)/\Br ps y n:=by
 obtain⟨n,h1,h2⟩:=ha;refine⟨n,?_,h2⟩;rw[JS,qt,UF hlen hl h,h1]
theorem qM {y:ab} {ns:List af} {kd m:Int} (ho:(kn Pu) y.Op=some (kd,m)) (h0:kd≠0) (h42:kd≠42) (hm:m=(y.Kids.length:Int)):(iA Pu) ps y false (y.Kids.length:Int) ns=some (⟨kd,[],0,y.At,ns⟩,true):=by
 rw[wF,ho,aq];have e1:(kd !=0)=true:=by simpa using h0
 have e2:(kd==42)=false:=by simpa using h42
 have e3:(m !=(y.Kids.length:Int))=false:=by simpa using hm
 show(bif kd !=0 then(bif m !=(y.Kids.length:Int)then _ else bif kd==42 then _ else _)else _)=_;rw[e1,e2,e3];rfl
theorem AN {y:ab} {ns:List af} {s:List UInt8} (ho:(kn Pu) y.Op=some (0,0)) (hs:(ko Pu) y.Op=some s) (h24:y.Op≠24) (h25:y.Op≠25) (hne:(s==[])=false):(iA Pu) ps y false (y.Kids.length:Int) ns=some (⟨51,s,0,y.At,ns⟩,true):=by
 rw[wF,ho,aq];have e1:(y.Op==24)=false:=by simpa using h24
 have e2:(y.Op==25)=false:=by simpa using h25
 show(((ko Pu) y.Op).bind _)=_;rw[hs,aq,e1,e2,hne];rfl
theorem iq {y:ab} {ns:List af}:(iT Pu) ps y false (y.Kids.length:Int) ns=(((ka Pu) y.Op).bind λy14=>(bif y14 !=0 then(some (({Kind:=y14,Text:=[],N:=0,At:=y.At,Kids:=ns:af},(ns.length:Int)==2)))else(((eD Pu) y.Op).bind λy16=>(bif !y16==[]then(bif y.Op==24 then((mi Pu) y ns y16 0 [])else(bif y.Op==25 then(bif (y.aj.ai.Names.length:Int) !=(ns.length:Int)then(some (({Kind:=51,Text:=y16,N:=0,At:=y.At,Kids:=ns:af},false)))else((jR Pu) y ns y16 ns 0))else(some (({Kind:=51,Text:=y16,N:=0,At:=y.At,Kids:=ns:af},true)))))else(bif y.Op==1 then(bif (ns.length:Int)==0 then(bif decide (y.N>= -1000000000000000)then(some (({Kind:=44,Text:=[],N:=y.N,At:=y.At,Kids:=ns:af},decide (y.N<=1000000000000000))))else(some (({Kind:=44,Text:=[],N:=y.N,At:=y.At,Kids:=ns:af},false))))else(some (({Kind:=44,Text:=[],N:=y.N,At:=y.At,Kids:=ns:af},false))))else(bif y.Op==2 then(bif y.N==1 then(some (({Kind:=45,Text:=[],N:=0,At:=y.At,Kids:=ns:af},(ns.length:Int)==0)))else(some (({Kind:=46,Text:=[],N:=0,At:=y.At,Kids:=ns:af},(ns.length:Int)==0))))else(bif y.Op==3 then(bif (ns.length:Int)==0 then(((oU Pu) y.Text).bind λy56=>(some (({Kind:=47,Text:=y.Text,N:=0,At:=y.At,Kids:=ns:af},y56))))else(some (({Kind:=47,Text:=y.Text,N:=0,At:=y.At,Kids:=ns:af},false))))else(bif y.Op==4 then(bif decide (y.N<0)then(some (({Kind:=0,Text:=[],N:=0,At:=y.At,Kids:=ns:af},false)))else(bif decide (y.N>=(ps.length:Int))then(some (({Kind:=0,Text:=[],N:=0,At:=y.At,Kids:=ns:af},false)))else((ao ps (y.N)).bind λx60=>(some (({Kind:=48,Text:=x60.Name,N:=0,At:=y.At,Kids:=ns:af},(ns.length:Int)==0))))))else(bif y.Op==5 then(some (({Kind:=49,Text:=[],N:=0,At:=y.At,Kids:=ns:af},(ns.length:Int)==0)))else(bif y.Op==6 then(some (({Kind:=50,Text:=[],N:=0,At:=y.At,Kids:=ns:af},(ns.length:Int)==0)))else(bif y.Op==7 then(some (({Kind:=30,Text:=[],N:=0,At:=y.At,Kids:=ns:af},(ns.length:Int)==3)))else(bif y.Op==10 then(some (({Kind:=33,Text:=[],N:=0,At:=y.At,Kids:=ns:af},(ns.length:Int)==1)))else(bif y.Op==19 then(bif (ns.length:Int) !=1 then(some (({Kind:=0,Text:=[],N:=0,At:=y.At,Kids:=ns:af},false)))else(bif decide (y.N<0)then(some (({Kind:=0,Text:=[],N:=0,At:=y.At,Kids:=ns:af},false)))else((ao (y.Kids) (0)).bind λx69=>(bif decide (y.N>=(x69.aj.ai.Names.length:Int))then(some (({Kind:=0,Text:=[],N:=0,At:=y.At,Kids:=ns:af},false)))else((ao (y.Kids) (0)).bind λx72=>((ao (x72.aj.ai.Names) (y.N)).bind λx74=>(some (({Kind:=42,Text:=x74,N:=0,At:=y.At,Kids:=ns:af},true)))))))))else(some (({Kind:=0,Text:=[],N:=0,At:=y.At,Kids:=ns:af},false)))))))))))))))):=by
 rw[Fv,rk,ab.aB,aU];have:decide (y.Kids.length<y.Kids.length)=false:=by simp
 rw[this,a6,af.aB,TParam.aB];simp only[cv]
theorem UE {y:ab} {ns:List af} {kd:Int} (hb:(ka Pu) y.Op=some kd) (h0:kd≠0) (h2:ns.length=2):(iT Pu) ps y false (y.Kids.length:Int) ns=some (⟨kd,[],0,y.At,ns⟩,true):=by
 rw[iq,hb,aq,h2];have e1:(kd !=0)=true:=by simpa using h0
 rw[e1];rfl
theorem AD {y:ab} {ns:List af} {s:List UInt8} (hb:(ka Pu) y.Op=some 0) (hs:(eD Pu) y.Op=some s) (h24:y.Op≠24) (h25:y.Op≠25) (hne:(s==[])=false):(iT Pu) ps y false (y.Kids.length:Int) ns=some (⟨51,s,0,y.At,ns⟩,true):=by
 rw[iq,hb,aq];have e1:(y.Op==24)=false:=by simpa using h24
 have e2:(y.Op==25)=false:=by simpa using h25
 show(((eD Pu) y.Op).bind _)=_;rw[hs,aq,hne,e1,e2];rfl
theorem Xg (op:Int) (h:op=1\/op=2\/op=3\/op=4\/op=5\/op=6\/op=7\/op=10\/op=19):(ka Pu) op=some 0/\(eD Pu) op=some []:=by
 rcases h with rfl|rfl|rfl|rfl|rfl|rfl|rfl|rfl|rfl<;>exact⟨by rw[yH,oK];rfl,by rw[CI,qc];rfl⟩
theorem wS (op:Int) (s:List UInt8) (h:(op,s)=(23,yW)\/(op,s)=(24,dD)\/(op,s)=(25,dc)\/(op,s)=(26,Co)\/(op,s)=(28,Cc)):(kn Pu) op=some (0,0)/\(ko Pu) op=some s/\(ka Pu) op=some 0/\(eD Pu) op=some s:=by
 rcases h with h|h|h|h|h<;>cases h<;>exact⟨by rw[mL,jF];rfl,by rw[zJ,oR];rfl,by rw[yH,oK];rfl,by rw[CI,qc];rfl⟩
