/- A well-typed expression is what its trees are elaborated to. -/
import Derived.Test.YtfgnmgbiijpkiaaGreatKRr
set_option linter.all false
namespace Go.Proofs.YtfgnmgbiijpkiaaGreat
open Go Go.Bw
section
variable {B:Nat} (hB:B<=1048576) {c:bO} (hc:CE B c) (hd:∀(i j:Nat) p q,c.params[i]? =some p->c.params[j]? =some q->p.Name=q.Name->i=j)
omit hB in
theorem ZH {i:Nat} {p:TParam} (hd:∀(i j:Nat) p q,c.params[i]? =some p->c.params[j]? =some q->p.Name=q.Name->i=j) (h:c.params[i]? =some p):idxOf (λq:TParam=>q.Name==p.Name) c.params 0=(i:Int):=by
 rcases qk (λq:TParam=>q.Name==p.Name) c.params 0 with⟨_,h2⟩|⟨j,x,h1,h2,h3,_⟩
 ·have:=h2 p (bw h);simp at this
 ·have e2:=hd j i x p h2 h (by simpa using h3);have h1:idxOf (λq:TParam=>q.Name==p.Name) c.params 0=((0+j:Nat):Int):=h1;rw[h1,e2];simp
theorem gW {n:ab} {w:az} {y:ae} (h51:n.Kind=51) (h:af ((f159 Pf) c n w) (·=⟨y.Op,y.ai,y.N,y.Text,0,y.Kids⟩) cV):Ea c n w y:=by
 unfold Ea;rw[eA,dN];simp only[bC,aw,h51,Int.reduceBEq,aV,bp];exact af.aA h λ_ e=>af.ret e
include hB hc hd in
theorem PD:∀y:ae,IH B c y:=by
 refine ae.ind λy ih w n hw hW hb=>?_;have htt:=W.tt hc hW hw;have z0:isNone (aL 0)=true:=rfl;have s0:bY B (aL 0):= .inl rfl;have hW0:=hW;cases hW with
 |int h1 h2 hf=>
  cases hb;refine dS hB hw htt.ty rfl hf ?_;unfold Ea;rw[eA,dN];simp only[bC,aw,Int.reduceBEq,aV,bp];exact af.ret rfl
 |bool h1 hf=>
  cases hb
  ·refine dS hB hw htt.ty rfl hf ?_;unfold Ea;rw[eA,dN];simp only[bC,aw,Int.reduceBEq,aV,bp];exact af.ret rfl
  ·refine dS hB hw htt.ty rfl hf ?_;unfold Ea;rw[eA,dN];simp only[bC,aw,Int.reduceBEq,aV,bp];exact af.ret rfl
 |name h1 hf=>
  cases hb;refine dS hB hw htt.ty rfl hf ?_;unfold Ea;rw[eA,dN];simp only[bC,aw,Int.reduceBEq,aV,bp];exact af.ret rfl
 |param hp hf=>
  rename_i i p a;generalize hi:(i:Int)=i' at hb;cases hb with
  |param hq=>
   rename_i i2 q;have:i2=i:=by omega
   subst this;rw[hp]at hq;cases hq;refine dS hB hw htt.ty rfl hf ?_;unfold Ea;rw[eA,dN];simp only[bC,aw,Int.reduceBEq,aV,bp];refine af.aB (E7 _ _ (by have:=hc.num;omega)) ?_;show af (bif decide (idxOf (λq:TParam=>q.Name==p.Name) c.params 0<0)then _ else _) _ _;rw[ZH hd hp];refine af.bif (λh=>by simp at h;omega) (λ_=>?_);exact af.aB (er hp) (af.ret rfl)
 |state hf=>
  cases hb;refine dS hB hw htt.ty rfl hf ?_;unfold Ea;rw[eA,dN];simp only[bC,of_eq,aw,Int.reduceBEq,aV,bp];exact af.ret rfl
 |kZ hs hn=>
  cases hb;refine dS hB hw htt.ty rfl (λ_=>rfl) ?_;unfold Ea;rw[eA,dN];simp only[bC,fD,hn,hs,aw,Int.reduceBEq,Int.reduceBNe,aV,bp];exact af.ret rfl
 |nD hn h1 h2 h3=>
  cases hb with
  |ite b1 b2 b3=>
  rename_i c0 x y a c' x' y';refine dS hB hw htt.ty rfl (λ_=>rfl) ?_;unfold Ea;rw[eA,dN,kA,ie];simp only[bC,fD,hn,aw,Int.reduceBEq,aV,bp];refine af.aA (P:=(·=⟨7,w,0,[],0,[c0,x,y]⟩)) ?_ (λ_ e=>af.ret e);refine af.aB (v:=c') rfl (dH (ih _ (by simp) _ _ (ww 2) h1 b1) ?_);refine af.aB (v:=x') rfl (dH (ih _ (by simp) _ _ hw h2 b2) ?_);refine af.aB (v:=y') rfl (dH (ih _ (by simp) _ _ hw h3 b3) ?_);have e:=h2.p0 hn;exact af.ret (by rw[<-e])
 |nE hn h1 h2 h3=>
  cases hb with
  |ite b1 b2 b3=>
  rename_i c0 x y a c' x' y';refine dS hB hw htt.ty rfl (λh=>by rw[hn]at h;cases h) ?_;unfold Ea;rw[eA,dN,kA,ie];simp only[bC,fD,hn,aw,Int.reduceBEq,aV,bp];refine af.aA (P:=(·=⟨7,x.ai,0,[],0,[c0,x,y]⟩)) ?_ (λ_ e=>af.ret e);refine af.aB (v:=c') rfl (dH (ih _ (by simp) _ _ (ww 2) h1 b1) ?_);refine af.aB (v:=x') rfl (af.aB (v:=y') rfl ?_);refine af.aA (si b2 b3 (uk hc (ih x (by simp)) (ih y (by simp)) b2 b3 (.inl ⟨h2,h3,λe=>by cases e⟩))) (λr e=>?_);have e:r=(x,y):=e;subst e;exact af.ret rfl
 |nF hn h1 h2 h3=>
  cases hb with
  |ite b1 b2 b3=>
  rename_i c0 x y a c' x' y';refine dS hB hw htt.ty rfl (λh=>by rw[hn]at h;cases h) ?_;unfold Ea;rw[eA,dN,kA,ie];simp only[bC,fD,hn,aw,Int.reduceBEq,aV,bp];refine af.aA (P:=(·=⟨7,x.ai,0,[],0,[c0,x,y]⟩)) ?_ (λ_ e=>af.ret e);refine af.aB (v:=c') rfl (dH (ih _ (by simp) _ _ (ww 2) h1 b1) ?_);refine af.aB (v:=x') rfl (af.aB (v:=y') rfl ?_);refine af.aA (si b2 b3 (uk hc (ih x (by simp)) (ih y (by simp)) b2 b3 (.inr ⟨h2,h3,λe=>by cases e⟩))) (λr e=>?_);have e:r=(x,y):=e;subst e;exact af.ret rfl
 |not h1 hf=>
  rename_i x a;have hx:=λn b=>ih x (by simp) (aL 2) n (ww 2) h1 b;cases hb with
  |not b1=>
   rename_i x';refine dS hB hw htt.ty rfl hf ?_;unfold Ea;rw[eA,dN];simp only[bC,aw,Int.reduceBEq,aV,bp];exact af.aB (v:=x') rfl (dH (hx _ b1) (af.ret rfl))
  |kH hm _=>simp[eQ]at hm
 |field h1 hs h6 hi hp hf=>
  rename_i x i p a;have hx:=λn b=>ih x (by simp) (aL 0) n s0 h1 b;have hl:=((htt.mx (k:=x) (by simp)).ty.dy hs);have hnl:x.ai.aj.Names.length<=B:=by have:=hl.2;rw[ah.c8]at this;exact this.2.2.2.1.1
  generalize hi':(i:Int)=i' at hb;cases hb with
  |field hn b1=>
   rename_i i2 s x';have:i2=i:=by omega
   subst this;refine dS hB hw htt.ty rfl hf ?_;unfold Ea;rw[eA,dN,kA,ie];simp only[bC,fD,aw,Int.reduceBEq,aV,bp];refine af.aA (P:=(·=⟨19,b7 p,i2,[],0,[x]⟩)) ?_ (λ_ e=>af.ret e);refine af.aB (v:=x') rfl (Eo (CL (by simp) (hx _ b1) hs (by simp[h6])) ?_);refine af.aB (qw _ _ (by omega)) ?_;rw[Lp hn (Cs hl.1 h6)];refine af.bif (λh=>by simp at h;omega) (λ_=>?_);refine af.aB (er hp) (af.aB (of_eq p) ?_);exact af.ret rfl
  |kH hm _=>simp[eQ]at hm
 |flag hs hk h1=>
  rename_i x a;have hx:=λn b=>ih x (by simp) (aL 2) n (ww 2) h1 b;cases hb with
  |kH hm b1=>
   simp[eQ]at hm;subst hm;exact dS hB hw htt.ty rfl (λ_=>rfl) (gW rfl (Yz hs hk (hx _ b1)))
 |num hs hk h1=>
  rename_i x a;have hx:=λn b=>ih x (by simp) (aL 1) n (ww 1) h1 b;cases hb with
  |kH hm b1=>
   simp[eQ]at hm;subst hm;exact dS hB hw htt.ty rfl (λ_=>rfl) (gW rfl (ZI hs hk (hx _ b1)))
 |one hs hk h1=>
  rename_i x a;have hx:=λn b=>ih x (by simp) (aL 3) n (ww 3) h1 b;cases hb with
  |kH hm b1=>
   simp[eQ]at hm;subst hm;exact dS hB hw htt.ty rfl (λ_=>rfl) (gW rfl (ZJ hs hk (hx _ b1)))
 |size h1 hm' hf=>
  rename_i x a;have hx:=λn b=>ih x (by simp) (aL 0) n s0 h1 b;cases hb with
  |kH hm b1=>
   simp[eQ]at hm;subst hm;exact dS hB hw htt.ty rfl hf (gW rfl (YA (hx _ b1) hm'))
 |sum h1 hs h5 hp hk hf=>
  rename_i x p a;have hx:=λn b=>ih x (by simp) (aL 0) n s0 h1 b;cases hb with
  |kH hm b1=>
   simp[eQ]at hm;subst hm;exact dS hB hw htt.ty rfl hf (gW rfl (ZK (hx _ b1) hs h5 hp hk))
 |oN hm h1 hs hk hf=>
  rename_i op x s ks a;have hx:=λn b=>ih x (by simp) (aL 0) n s0 h1 b;simp only[cm,fM,or_false,cu]at hm;rcases hm with⟨rfl,rfl,rfl⟩|⟨rfl,rfl,rfl⟩|⟨rfl,rfl,rfl⟩|⟨rfl,rfl,rfl⟩|⟨rfl,rfl,rfl⟩
  all_goals cases hb
  all_goals (rename_i hm b1;simp[eQ]at hm;subst hm)
  ·exact dS hB hw htt.ty rfl hf (gW rfl (WE (hx _ b1) hs hk))
  ·exact dS hB hw htt.ty rfl hf (gW rfl (aaG (hx _ b1) hs hk))
  ·exact dS hB hw htt.ty rfl hf (gW rfl (YB (hx _ b1) hs hk))
  ·exact dS hB hw htt.ty rfl hf (gW rfl (WG (hx _ b1) hs hk))
  ·exact dS hB hw htt.ty rfl hf (gW rfl (Vk (hx _ b1) hs hk))
 |part ho h1 hs h7 hp hf=>
  rename_i op i x p a;have hx:=λn b=>ih x (by simp) (aL 0) n s0 h1 b;rcases ho with⟨rfl,rfl⟩|⟨rfl,rfl⟩
  all_goals cases hb
  all_goals (rename_i hm b1;simp[eQ]at hm;subst hm)
  ·exact dS hB hw htt.ty rfl hf (gW rfl (Xt (hx _ b1) hs h7 hp))
  ·exact dS hB hw htt.ty rfl hf (gW rfl (WH (hx _ b1) hs h7 hp))
 |pair h0 hk hp hq h1 h2=>
  have tw:=htt.ty;cases hb with
  |two hm=>simp[eE]at hm
  |pair b1 b2=>
   exact dS hB hw htt.ty rfl (λ_=>rfl) (gW rfl (U2 h0 hk hp hq (ih _ (by simp) _ _ (.inr (iT tw h0 (bw hp))) h1 b1) (ih _ (by simp) _ _ (.inr (iT tw h0 (bw hq))) h2 b2)))
 |write h1 h2 h3 hf=>
  have wr:bq B (b7 eF):=bq.of vB (vR B);cases hb with
  |write b1 b2 b3=>
   exact dS hB hw htt.ty rfl hf (gW rfl (UQ (ih _ (by simp) _ _ (.inr wr) h1 b1) (ih _ (by simp) _ _ (ww 1) h2 b2) (ih _ (by simp) _ _ (ww 3) h3 b3)))
 |jO h0 hk hn h1 hs=>
  rename_i kids a;have key:∀{ks:List ab},kids.length=ks.length->(∀(i:Nat) k k',kids[i]? =some k->ks[i]? =some k'->Br c.params k k')->El c ⟨51,w9,0,a,ks⟩ w ⟨23,w,0,[],a,kids⟩:=λhl hb=>
   dS hB hw htt.ty rfl (λ_=>rfl) (gW rfl (Vl hB h0 hk hn hl (λi k k' g1 g2=>ih k (bw g1) _ _ s0 (h1 k (bw g1)) (hb i k k' g1 g2)) hs))
  cases hb with
  |jO hl hb=>exact key hl hb
  |two hm=>simp[eE]at hm
  |kH hm=>simp[eQ]at hm
 |map h0 hk hn hp h1 h2=>
  rename_i qs p a;generalize hkd:(qs.flatMap λq=>[q.1,q.2])=kids at*
  have tw:=htt.ty;cases hb with
  |map e hl b1 b2=>
   rename_i qs2 es;have e2:qs=qs2:=Lq (hkd.trans e);subst e2;subst hkd;have m1:∀q∈qs,q.1∈(qs.flatMap λq=>[q.1,q.2])/\q.2∈(qs.flatMap λq=>[q.1,q.2]):=λq hq=>⟨ef.2 ⟨q,hq,by simp⟩,ef.2 ⟨q,hq,by simp⟩⟩;exact dS hB hw htt.ty rfl (λ_=>rfl) (gW rfl (Vm hB h0 hk hp hn hl (λi q e g1 g2=>ih q.1 (m1 q (bw g1)).1 _ _ (ww 3) (h1 q (bw g1)) (b1 i q e g1 g2)) (λi q e g1 g2=>ih q.2 (m1 q (bw g1)).2 _ _ (.inr (iT tw h0 (bw hp))) (h2 q (bw g1)) (b2 i q e g1 g2))))
  |two hm=>simp[eE]at hm
  |kH hm=>simp[eQ]at hm
 |kI h0 h6 hn hl h1=>
  rename_i kids a;have tw:=htt.ty;cases hb with
  |kI hnm hes hdis hlt hb hbot=>
   refine dS hB hw htt.ty rfl (λ_=>rfl) (gW rfl (Vn hB tw h0 h6 hl hes hdis hlt (λe k p he hk hp=>?_) (λj k p hk hp=>?_)))
   ·exact ih k (bw hk) _ _ (.inr (iT tw h0 (bw hp))) (h1 _ k p hk hp) (hb e k he hk)
   ·rcases hbot j k hk with h|⟨h,h'⟩
    ·exact .inl h
    ·refine .inr ?_;have:=h1 j k p hk hp;cases this
     all_goals first|(simp at h;done)|skip
     ·simp at h';subst h';rfl
     all_goals (exfalso;simp at h;first|omega|(subst h;simp_all;done))
  |two hm=>simp[eE]at hm
  |kH hm=>simp[eQ]at hm
 |conn ho h1 h2 hf=>
  cases hb with
  |two hm b1 b2=>exact l6 hB hc hw hW0 hm ih b1 b2
  |_=>omega
 |less ho h1 h2 hf=>
  cases hb with
  |two hm b1 b2=>exact l6 hB hc hw hW0 hm ih b1 b2
  |_=>omega
 |ml ho h1 h2 hf=>
  cases hb with
  |two hm b1 b2=>exact l6 hB hc hw hW0 hm ih b1 b2
  |_=>omega
 |equal h1 h2 h3 hf=>
  cases hb with
  |two hm b1 b2=>exact l6 hB hc hw hW0 hm ih b1 b2
 |oD h1 h2 hf=>
  cases hb with
  |two hm b1 b2=>exact l6 hB hc hw hW0 hm ih b1 b2
 |oE h1 h2 h3 hf=>
  cases hb with
  |two hm b1 b2=>exact l6 hB hc hw hW0 hm ih b1 b2
 |oF h1 h2 h3 hf=>
  cases hb with
  |two hm b1 b2=>exact l6 hB hc hw hW0 hm ih b1 b2
 |nj hn hs h1 h2=>
  cases hb with
  |two hm b1 b2=>exact l6 hB hc hw hW0 hm ih b1 b2
 |nk hn hs h1 h2=>
  cases hb with
  |two hm b1 b2=>exact l6 hB hc hw hW0 hm ih b1 b2
 |nq hn hs h1 h2=>
  cases hb with
  |two hm b1 b2=>exact l6 hB hc hw hW0 hm ih b1 b2
 |at_ h1 hs h5 hp h2 hf=>
  cases hb with
  |two hm b1 b2=>exact l6 hB hc hw hW0 hm ih b1 b2
end
theorem aaF {ps:List TParam} {y:ae} {n:ab} (h:Br ps y n):n.At=y.At/\(n.Kind=50↔y.Op=6):=by
 have t:∀q∈eE,q.1≠6/\q.2≠50:=by decide
 have o:∀q∈eQ,q.1≠6:=by decide
 cases h with
 |two hm=>have:=t _ hm;exact⟨rfl,⟨λh=>absurd h this.2,λh=>absurd h this.1⟩⟩
 |kH hm=>have:=o _ hm;exact⟨rfl,⟨λh=>by simp at h,λh=>absurd h this⟩⟩
 |_=>exact⟨rfl,by simp⟩
section
variable {B:Nat} (hB:B<=1048576) {c:bO} {ps:List TParam}
theorem WD {y : ae} {ns : List ab} (hlen : y.Kids.length ≤ 2097152) (hl : y.Kids.length = ns.length) (h : ∀ (i : Nat) k n, y.Kids[i]? = some k → ns[i]? = some n → (f62 Pf) ps k = some (n, true)) :
    (gX Pf) ps y false 0 [] = (gX Pf) ps y false (y.Kids.length : Int) ns := by
  have key : ∀ m i : Nat, i + m = y.Kids.length → (gX Pf) ps y false (i : Int) (ns.take i) = (gX Pf) ps y false (y.Kids.length : Int) ns := by
    intro m
    induction m with
    | zero => intro i hi; have : i = y.Kids.length := by omega
              subst this; rw [hl, jW]
    | succ m im =>
      intro i hi
      obtain ⟨k, hk⟩ := bh (l := y.Kids) (i := i) (by omega)
      obtain ⟨n, hn⟩ := bh (l := ns) (i := i) (by omega)
      have hb : (ns.take i).length = i := by rw [gT]; omega
      rw [AA, pA, ae.aD, aY]
      have : decide (i < y.Kids.length) = true := by simp; omega
      rw [this, aV, bj hk, aw, h i k n hk hn, aw]
      have hlen : decide ((ns.take i ++ [ab.z]).length ≤ 274877906944) = true := by simp; omega
      show (bif decide ((ns.take i ++ [ab.z]).length ≤ 274877906944) then (au (ns.take i ++ [ab.z]) _).bind _ else none) = _
      rw [hlen, aV, ab.aD, lI, bP i (by omega), fj]
      have e1 : (ns.take i ++ [ab.z])[(ns.take i).length]? = some ab.z := by simp
      rw [e1, aw]
      show (gX Pf) ps y false _ ((ns.take i ++ [ab.z]).set (ns.take i).length n) = _
      rw [kX, lK hn]
      exact im (i + 1) (by omega)
  exact key y.Kids.length 0 (by omega)
theorem VQ {y : ae} {ns : List ab} (hlen : y.Kids.length ≤ 2097152) (hl : y.Kids.length = ns.length) (h : ∀ (i : Nat) k n, y.Kids[i]? = some k → ns[i]? = some n → (f104 Pf) ps k = some (n, true)) :
    (iC Pf) ps y false 0 [] = (iC Pf) ps y false (y.Kids.length : Int) ns := by
  have key : ∀ m i : Nat, i + m = y.Kids.length → (iC Pf) ps y false (i : Int) (ns.take i) = (iC Pf) ps y false (y.Kids.length : Int) ns := by
    intro m
    induction m with
    | zero => intro i hi; have : i = y.Kids.length := by omega
              subst this; rw [hl, jW]
    | succ m im =>
      intro i hi
      obtain ⟨k, hk⟩ := bh (l := y.Kids) (i := i) (by omega)
      obtain ⟨n, hn⟩ := bh (l := ns) (i := i) (by omega)
      have hb : (ns.take i).length = i := by rw [gT]; omega
      rw [DF, qB, p6, ae.aD, aY]
      have : decide (i < y.Kids.length) = true := by simp; omega
      rw [this, aV, bj hk, aw, h i k n hk hn, aw]
      have hlen : decide ((ns.take i ++ [n]).length ≤ 274877906944) = true := by simp; omega
      show (bif decide ((ns.take i ++ [n]).length ≤ 274877906944) then _ else none) = _
      rw [hlen, aV, bP i (by omega), lK hn]
      exact im (i + 1) (by omega)
  exact key y.Kids.length 0 (by omega)
def Qj (ps:List TParam) (y:ae) (ns:List ab):Prop:=∃n,(gX Pf) ps y false (y.Kids.length:Int) ns=some (n,true)/\Br ps y n
def PE (ps:List TParam) (y:ae) (ns:List ab):Prop:=∃n,(iC Pf) ps y false (y.Kids.length:Int) ns=some (n,true)/\Br ps y n
theorem vz {y:ae} {ns:List ab}:(gX Pf) ps y false (y.Kids.length:Int) ns=((f108 Pf) y.Op).bind λy18=>(bif y18.fst !=0 then(bif y18.snd !=(y.Kids.length:Int)then(some (({Kind:=y18.fst,Text:=[],N:=0,At:=y.At,Kids:=ns:ab},false)))else(bif y18.fst==42 then((au (y.Kids) (0)).bind λx22=>(bif decide (y.N<0)then(some (({Kind:=y18.fst,Text:=[],N:=0,At:=y.At,Kids:=ns:ab},false)))else(bif decide (y.N>=(x22.ai.aj.Names.length:Int))then(some (({Kind:=y18.fst,Text:=[],N:=0,At:=y.At,Kids:=ns:ab},false)))else((au (x22.ai.aj.Names) (y.N)).bind λx26=>(some (({Kind:=y18.fst,Text:=x26,N:=0,At:=y.At,Kids:=ns:ab},true)))))))else(some (({Kind:=y18.fst,Text:=[],N:=0,At:=y.At,Kids:=ns:ab},true)))))else(((f109 Pf) y.Op).bind λy28=>(bif y.Op==24 then(bif (ns.length:Int).tmod 2 !=0 then(some (({Kind:=51,Text:=y28,N:=0,At:=y.At,Kids:=ns:ab},false)))else((kr Pf) y ns y28 [] 0))else(bif y.Op==25 then(bif (y.ai.aj.Names.length:Int) !=(ns.length:Int)then(some (({Kind:=51,Text:=y28,N:=0,At:=y.At,Kids:=ns:ab},false)))else((iU Pf) y ns y28 [] 0))else(some (({Kind:=51,Text:=y28,N:=0,At:=y.At,Kids:=ns:ab},!y28==[]))))))):=by
 rw[AA,pA,ae.aD,aY];have:decide (y.Kids.length<y.Kids.length)=false:=by simp
 rw[this,bp,ab.aD];simp only[cj]
end
def dU (f:ab->Bool) (b:Int):Nat->List ab->List (Nat×Int×ab)
 |_,[]=>[]
 |i,n::r=>bif f n then(i,b,n)::dU f b (i+1) r else dU f b (i+1) r
theorem vA {f:ab->Bool} {b:Int}:∀{ns:List ab} {i:Nat} {e:Nat×Int×ab},e∈dU f b i ns->∃j,e.1=i+j/\ns[j]? =some e.2.2
 |n::r,i,e,h=>by
  rw[dU]at h;cases hf:f n with
  |true=>
   rw[hf,aV]at h;rcases cm.1 h with rfl|h
   ·exact⟨0,rfl,rfl⟩
   ·obtain⟨j,h1,h2⟩:=vA h;exact⟨j+1,by omega,h2⟩
  |false=>
   rw[hf,bp]at h;obtain⟨j,h1,h2⟩:=vA h;exact⟨j+1,by omega,h2⟩
theorem L9 {f:ab->Bool} {b:Int}:∀{ns:List ab} {i j:Nat} {n:ab},ns[j]? =some n->f n=true->∃e∈dU f b i ns,e.1=i+j
 |m::r,i,0,n,h,hf=>by
  simp only[lD,aE]at h;subst h;rw[dU,hf];exact⟨_,B8 ..,rfl⟩
 |m::r,i,j+1,n,h,hf=>by
  obtain⟨e,h1,h2⟩:=L9 (f:=f) (b:=b) (i:=i+1) (ns:=r) (j:=j) (by simpa using h) hf;refine⟨e,?_,by omega⟩;rw[dU];cases f m with
  |true=>exact u9 _ h1
  |false=>exact h1
theorem L' {f:ab->Bool} {b:Int}:∀{ns:List ab} {i:Nat},(dU f b i ns).length<=ns.length
 |[],_=>bQ _
 |n::r,i=>by
  have:=L' (f:=f) (b:=b) (ns:=r) (i:=i+1);rw[dU];cases f n<;>simp<;>omega
theorem Ll {f:ab->Bool} {b:Int}:∀{ns:List ab} {i:Nat},(dU f b i ns).Pairwise (λx y=>x.1<y.1)
 |[],_=>List.Pairwise.nil
 |n::r,i=>by
  have ih:=Ll (f:=f) (b:=b) (ns:=r) (i:=i+1);rw[dU];cases f n with
  |true=>exact List.Pairwise.cons (λe he=>by obtain⟨j,h,_⟩:=vA he;show i<e.1;omega) ih
  |false=>exact ih
theorem Xs {f:ab->Bool} {b:Int} {ns:List ab} {i:Nat} (p q:Nat) (e e':Nat×Int×ab) (hp:(dU f b i ns)[p]? =some e) (hq:(dU f b i ns)[q]? =some e') (h:e.1=e'.1):p=q:=by
 have hw:=Ll (f:=f) (b:=b) (ns:=ns) (i:=i);rw[adu]at hw;obtain⟨hp1,hp2⟩:=cr.1 hp;obtain⟨hq1,hq2⟩:=cr.1 hq;rcases JH p q with g|g|g
 ·have:=hw p q hp1 hq1 g;rw[hp2,hq2]at this;omega
 ·exact g
 ·have:=hw q p hq1 hp1 g;rw[hp2,hq2]at this;omega
theorem Ma {b:Int}:∀{ns:List ab} {i j:Nat},(dU (λ_=>true) b i ns)[j]? =(ns[j]?).map λn=>(i+j,b,n)
 |[],_,j=>by simp[dU]
 |n::r,i,0=>by simp[dU]
 |n::r,i,j+1=>by
  rw[dU,aV,qd,Ma,qd];congr 1;funext m;congr 1;omega
theorem PH {ps : List TParam} {t : az} {a b : Int} {kids : List ae} {ns : List ab} {f : ab → Bool} (hn : t.aj.Names.length = kids.length) (hl : kids.length = ns.length) (h : ∀ (i : Nat) k n, kids[i]? = some k → ns[i]? = some n → Br ps k n) (hf : ∀ n, f n = false → n.Kind = 50 ∧ n.At = a) : Br ps ⟨25, t, 0, [], a, kids⟩ ⟨51, dg, 0, a, (dU f b 0 ns).map (eZ t.aj.Names)⟩ := by
  refine .kI hn (by rw [hl]; exact L') (fun p q e e' h1 h2 h3 => Xs p q e e' h1 h2 h3) (fun e he => ?_) (fun e k he hk => ?_) (fun j k hk => ?_)
  · obtain ⟨j, h1, h2⟩ := vA he
    have := (cr.1 h2).1; omega
  · obtain ⟨j, h1, h2⟩ := vA he
    rw [h1, oS] at hk
    exact h j k _ hk h2
  · obtain ⟨n, hn⟩ := bh (l := ns) (i := j) (by have := (cr.1 hk).1; omega)
    cases hfn : f n with
    | true => obtain ⟨e, h1, h2⟩ := L9 (f := f) (b := b) (i := 0) hn hfn
              exact .inl ⟨e, h1, by omega⟩
    | false =>
      obtain ⟨h1, h2⟩ := hf n hfn
      have hb := aaF (h j k n hk hn)
      exact .inr ⟨hb.2.1 h1, by rw [← hb.1]; exact h2⟩
def gL (g:ab->Int):List ab->List (List UInt8×Int×ab×ab)
 |x::y::r=>([],g x,x,y)::gL g r
 |_=>[]
theorem zH {g:ab->Int}:∀{ns:List ab} {i:Nat} {x y:ab},ns[2*i]? =some x->ns[2*i+1]? =some y->(gL g ns)[i]? =some ([],g x,x,y)
 |a::b::r,0,x,y,h1,h2=>by
  simp only[Nat.mul_zero,oS,lD,qd,aE]at h1 h2;subst h1;subst h2;rfl
 |a::b::r,i+1,x,y,h1,h2=>by
  rw[gL,qd];exact zH (by simpa[Ch]using h1) (by simpa[Ch]using h2)
 |[a],i,x,y,h1,h2=>by simp at h2
 |[],i,x,y,h1,h2=>by simp at h1
theorem zI {g:ab->Int}:∀{ns:List ab},(gL g ns).length=ns.length/2
 |a::b::r=>by rw[gL,iN,zI (ns:=r)];simp;omega
 |[_]=>by simp[gL]
 |[]=>rfl
theorem Ln {D:Type}:∀{qs:List (D×D)} {i:Nat} {q:D×D},qs[i]? =some q->(qs.flatMap λq=>[q.1,q.2])[2*i]? =some q.1/\(qs.flatMap λq=>[q.1,q.2])[2*i+1]? =some q.2
 |p::r,0,q,h=>by simp only[lD,aE]at h;subst h;exact⟨rfl,rfl⟩
 |p::r,i+1,q,h=>by
  have:=Ln (qs:=r) (i:=i) (q:=q) (by simpa using h);simpa[Ch,u3]using this
theorem PG {ps:List TParam} {t:az} {a:Int} {qs:List (ae×ae)} {ns:List ab} {g:ab->Int} (hl:(qs.flatMap λq=>[q.1,q.2]).length=ns.length) (h:∀(i:Nat) k n,(qs.flatMap λq=>[q.1,q.2])[i]? =some k->ns[i]? =some n->Br ps k n):Br ps ⟨24,t,0,[],a,qs.flatMap λq=>[q.1,q.2]⟩ ⟨51,dC,0,a,(gL g ns).map fg⟩:=by
 rw[sG]at hl;have key:∀(i:Nat) q e,qs[i]? =some q->(gL g ns)[i]? =some e->Br ps q.1 e.2.2.1/\Br ps q.2 e.2.2.2:=by
  intro i q e h1 h2;have hi:=(cr.1 h1).1;obtain⟨x,hx⟩:=bh (l:=ns) (i:=2*i) (by omega);obtain⟨y,hy⟩:=bh (l:=ns) (i:=2*i+1) (by omega);rw[zH hx hy]at h2;cases h2;obtain⟨f1,f2⟩:=Ln h1;exact⟨h _ _ _ f1 hx,h _ _ _ f2 hy⟩
 exact .map rfl (by rw[zI];omega) (λi q e h1 h2=>(key i q e h1 h2).1) (λi q e h1 h2=>(key i q e h1 h2).2)
theorem Xq {y:ae} {ns:List ab} {t:List UInt8} (he:ns.length%2=0) (hl:ns.length<=2097152):(kr Pf) y ns t [] 0=some (⟨51,t,0,y.At,(gL (λ_=>0) ns).map fg⟩,true):=by
 refine ag.of ?_;have h:=eg (L:=λi (b:List ab)=>(kr Pf) y ns t b (2*i)) (P:=(·=(⟨51,t,0,y.At,(gL (λ_=>0) ns).map fg⟩,true))) (len:=ns.length/2) (λi b=>b=((gL (λ_=>0) ns).map fg).take i) (λi b hi hI k=>by
   show ag ((kr Pf) y ns t b _) _;have e0:(2*(i:Int))=((2*i:Nat):Int):=by omega
   rw[Ay,pB,ab.aD,e0,aY];have:decide (2*i<ns.length)=true:=by simp;omega
   obtain⟨p,hp⟩:=bh (by omega:2*i<ns.length);obtain⟨q,hq⟩:=bh (by omega:2*i+1<ns.length);have e2:IntKind.i64.wrap (((2*i:Nat):Int)+2)=2*((i+1:Nat):Int):=by rw[wrap64 (by omega) (by omega)];omega
   rw[this,aV,bj hp,aw,bP _ (by omega),bj hq,aw,e2];have hbl:b.length<=i:=by rw[hI,gT];omega
   have hlen:decide ((b++[({Kind:=52,Text:=[],N:=0,At:=0,Kids:=[p,q]}:ab)]).length<=274877906944)=true:=by simp;omega
   rw[hlen,aV];refine k _ ?_;have hg:((gL (λ_=>0) ns).map fg)[i]? =some ⟨52,[],0,0,[p,q]⟩:=by rw[my,zH hp hq];rfl
   rw[hI,lK hg]) (λb hI=>by
   show ag ((kr Pf) y ns t b _) _;have e0:(2*((ns.length/2:Nat):Int))=((ns.length:Nat):Int):=by omega
   rw[Ay,pB,ab.aD,e0,aY];have:decide (ns.length<ns.length)=false:=by simp
   rw[this,bp];have e3:b=(gL (λ_=>0) ns).map fg:=by
    rw[hI];exact Ut (by rw[jt,zI];exact bQ _)
   rw[e3];exact ag.ret rfl) 0 [] (by omega) (by simp)
 simpa using h
theorem WC {y:ae} {ns:List ab} {t:List UInt8} (he:ns.length%2=0) (hl:ns.length<=2097152):(lT Pf) y ns t 0 []=some (⟨51,t,0,y.At,(gL (λx=>x.At) ns).map fg⟩,true):=by
 refine ag.of ?_;have h:=eg (L:=λi (b:List ab)=>(lT Pf) y ns t (2*i) b) (P:=(·=(⟨51,t,0,y.At,(gL (λx=>x.At) ns).map fg⟩,true))) (len:=ns.length/2) (λi b=>b=((gL (λx=>x.At) ns).map fg).take i) (λi b hi hI k=>by
   show ag ((lT Pf) y ns t _ b) _;have e0:(2*(i:Int))=((2*i:Nat):Int):=by omega
   obtain⟨p,hp⟩:=bh (by omega:2*i<ns.length);obtain⟨q,hq⟩:=bh (by omega:2*i+1<ns.length);rw[Ag,pk,ab.aD,e0,bP _ (by omega),aY];have:decide (2*i+1<ns.length)=true:=by simp;omega
   have e2:IntKind.i64.wrap (((2*i:Nat):Int)+2)=2*((i+1:Nat):Int):=by rw[wrap64 (by omega) (by omega)];omega
   rw[this,aV,bj hp,aw,bj hq,aw,e2];have hbl:b.length<=i:=by rw[hI,gT];omega
   have hlen:decide ((b++[({Kind:=52,Text:=[],N:=0,At:=p.At,Kids:=[p,q]}:ab)]).length<=274877906944)=true:=by simp;omega
   refine ag.aB rfl ?_;rw[hlen,aV];refine k _ ?_;have hg:((gL (λx=>x.At) ns).map fg)[i]? =some ⟨52,[],0,p.At,[p,q]⟩:=by rw[my,zH hp hq];rfl
   rw[hI,lK hg]) (λb hI=>by
   show ag ((lT Pf) y ns t _ b) _;have e0:(2*((ns.length/2:Nat):Int))=((ns.length:Nat):Int):=by omega
   rw[Ag,pk,ab.aD,e0,bP _ (by omega),aY];have:decide (ns.length+1<ns.length)=false:=by simp
   rw[this,bp];have e3:b=(gL (λx=>x.At) ns).map fg:=by
    rw[hI];exact Ut (by rw[jt,zI];exact bQ _)
   have e4:(((ns.length:Int)).tmod 2==0)=true:=by
    rw[UC (by omega)];simp;omega
   rw[e3,e4];exact ag.ret rfl) 0 [] (by omega) (by simp)
 simpa using h
theorem Yx {y:ae} {ns:List ab} {t:List UInt8} (he:y.ai.aj.Names.length=ns.length) (hl:ns.length<=2097152):(iU Pf) y ns t [] 0=some (⟨51,t,0,y.At,(dU (λn=>!(n.Kind==50&&n.At==y.At)) 0 0 ns).map (eZ y.ai.aj.Names)⟩,true):=by
 have key:∀m i:Nat,i+m=ns.length->∀b:List ab,b.length<=i->(iU Pf) y ns t b (i:Int)=some (⟨51,t,0,y.At,b++(dU (λn=>!(n.Kind==50&&n.At==y.At)) 0 i (ns.drop i)).map (eZ y.ai.aj.Names)⟩,true):=by
  intro m
  induction m with
  |zero=>
   intro i hi b hb;have:i=ns.length:=by omega
   subst this;rw[Az,pC,ab.aD,aY,List.drop_length];have:decide (ns.length<ns.length)=false:=by simp
   rw[this,bp];simp[dU]
  |succ m im=>
   intro i hi b hb;obtain⟨x,hx⟩:=bh (l:=ns) (i:=i) (by omega);obtain⟨s,hs⟩:=bh (l:=y.ai.aj.Names) (i:=i) (by omega);rw[Az,pC,ab.aD,aY];have:decide (i<ns.length)=true:=by simp;omega
   have hlen:decide ((b++[({Kind:=52,Text:=s,N:=0,At:=0,Kids:=[x]}:ab)]).length<=274877906944)=true:=by simp;omega
   rw[this,aV,bj hx,aw,bj hs,aw,hlen,aV,bP i (by omega),lM hx,dU];have hent:eZ y.ai.aj.Names (i,0,x)=⟨52,s,0,0,[x]⟩:=by simp[eZ,hs]
   have keep:=im (i+1) (by omega) (b++[⟨52,s,0,0,[x]⟩]) (by simp;omega);have drop:=im (i+1) (by omega) b (by omega);cases h1:x.Kind==50 with
   |false=>
    have:(x.Kind !=50)=true:=by simp[bne,h1]
    rw[this,aV,Bool.false_and,u5,aV,dP,hent,keep];simp
   |true=>
    have:(x.Kind !=50)=false:=by simp[bne,h1]
    rw[this,bp,Bool.true_and];cases h2:x.At==y.At with
    |false=>
     have:(x.At !=y.At)=true:=by simp[bne,h2]
     rw[this,aV,u5,aV,dP,hent,keep];simp
    |true=>
     have:(x.At !=y.At)=false:=by simp[bne,h2]
     rw[this,bp,xQ,bp,drop]
 simpa using key ns.length 0 (by omega) [] (by simp)
theorem Xr {y:ae} {ns:List ab} {t:List UInt8} (he:y.ai.aj.Names.length=ns.length) (hl:ns.length<=2097152):(jA Pf) y ns t ns 0=some (⟨51,t,0,y.At,(dU (λ_=>true) y.At 0 ns).map (eZ y.ai.aj.Names)⟩,true):=by
 refine ag.of ?_;have hE:∀(j:Nat) x s,ns[j]? =some x->y.ai.aj.Names[j]? =some s->((dU (λ_=>true) y.At 0 ns).map (eZ y.ai.aj.Names))[j]? =some ⟨52,s,0,y.At,[x]⟩:=λj x s h1 h2=>by
  rw[my,Ma,h1];simp[eZ,h2]
 have hEl:((dU (λ_=>true) y.At 0 ns).map (eZ y.ai.aj.Names)).length=ns.length:=by
  have key:∀(ns:List ab) (i:Nat),(dU (λ_=>true) y.At i ns).length=ns.length:=by
   intro ns;induction ns with
   |nil=>intro i;rfl
   |cons n r ih=>intro i;rw[dU,aV,iN,ih,iN]
  rw[jt,key]
 have h:=eg (L:=λi (b:List ab)=>(jA Pf) y ns t b i) (P:=(·=(⟨51,t,0,y.At,(dU (λ_=>true) y.At 0 ns).map (eZ y.ai.aj.Names)⟩,true))) (len:=ns.length) (λi b=>b.length=ns.length/\∀j:Nat,b[j]? =if j<i then((dU (λ_=>true) y.At 0 ns).map (eZ y.ai.aj.Names))[j]? else ns[j]?) (λi b hi hI k=>by
   show ag ((jA Pf) y ns t b _) _;obtain⟨x,hx⟩:=bh hi;obtain⟨s,hs⟩:=bh (l:=y.ai.aj.Names) (i:=i) (by omega);have hb:b[i]? =some x:=by rw[hI.2 i,cM (by omega),hx]
   rw[Ah,pn,ab.aD,aY];have:decide (i<ns.length)=true:=by simpa using hi
   rw[this,aV,bj hs,aw,bj hb,aw,aw,fj,bP i (by omega)];refine k _ ⟨by simp[hI.1],λj=>?_⟩;by_cases e:j=i
   ·subst e;rw[mA (by omega),dj (by omega),hE j x s hx hs]
   ·rw[jX (by omega),hI.2 j];by_cases h1:j<i
    ·rw[dj h1,dj (by omega)]
    ·rw[cM h1,cM (by omega)]) (λb hI=>by
   show ag ((jA Pf) y ns t b _) _;rw[Ah,pn,ab.aD,aY];have:decide (ns.length<ns.length)=false:=by simp
   rw[this,bp];have e3:b=(dU (λ_=>true) y.At 0 ns).map (eZ y.ai.aj.Names):=Cf λj=>by
    rw[hI.2 j];by_cases h1:j<ns.length
    ·rw[dj h1]
    ·rw[cM h1,oT (by omega),oT (by omega)]
   rw[e3];exact ag.ret rfl) 0 ns (by omega) ⟨rfl,λj=>by rw[cM (by omega)]⟩
 exact h
theorem W.kids {l:ah} {ps:List TParam} {y:ae} {w:az} (h:W l ps y w):∀k∈y.Kids,∃w',W l ps k w':=by
 cases h with
 |jO _ _ _ h1 _=>exactλk hk=>⟨_,h1 k hk⟩
 |map _ _ _ _ h1 h2=>
  intro k hk;obtain⟨q,g1,g2⟩:=ef.1 hk;simp at g2;rcases g2 with rfl|rfl
  ·exact⟨_,h1 q g1⟩
  ·exact⟨_,h2 q g1⟩
 |kI _ _ _ hl h1=>
  intro k hk;obtain⟨i,hi⟩:=gr hk;obtain⟨p,hp⟩:=bh (i:=i) (by rw[<-hl];exact(cr.1 hi).1);exact⟨_,h1 i k p hi hp⟩
 |nD _ h1 h2 h3=>intro k hk;simp only[cm,fM,or_false]at hk;rcases hk with rfl|rfl|rfl;exact⟨_,h1⟩;exact⟨_,h2⟩;exact⟨_,h3⟩
 |nE _ h1 h2 h3=>intro k hk;simp only[cm,fM,or_false]at hk;rcases hk with rfl|rfl|rfl;exact⟨_,h1⟩;exact⟨_,h2⟩;exact⟨_,h3⟩
 |nF _ h1 h2 h3=>intro k hk;simp only[cm,fM,or_false]at hk;rcases hk with rfl|rfl|rfl;exact⟨_,h1⟩;exact⟨_,h3⟩;exact⟨_,h2⟩
 |write h1 h2 h3 _=>intro k hk;simp only[cm,fM,or_false]at hk;rcases hk with rfl|rfl|rfl;exact⟨_,h1⟩;exact⟨_,h2⟩;exact⟨_,h3⟩
 |_=>
  intro k hk
  first
   |(simp at hk;done)
   |(simp only[cm,fM,or_false]at hk;subst hk;apply Exists.intro;assumption)
   |(simp only[cm,fM,or_false]at hk;rcases hk with rfl|rfl<;>(apply Exists.intro;assumption))
theorem En {D β:Type} {P:D->β->Prop}:∀{l:List D},(∀k∈l,∃n,P k n)->∃ns:List β,l.length=ns.length/\∀(i:Nat) k n,l[i]? =some k->ns[i]? =some n->P k n
 |[],_=>⟨[],rfl,by simp⟩
 |x::l,h=>by
  obtain⟨n,hn⟩:=h x (by simp);obtain⟨ns,h1,h2⟩:=En (l:=l) λk hk=>h k (by simp[hk]);refine⟨n::ns,by simp[h1],λi k m g1 g2=>?_⟩;cases i with
  |zero=>simp only[lD,aE]at g1 g2;subst g1;subst g2;exact hn
  |succ i=>exact h2 i k m (by simpa using g1) (by simpa using g2)
theorem Yu:∀q∈eE,(f108 Pf) q.1=some (q.2,2)/\(f173 Pf) q.1=some q.2/\q.2≠0/\q.2≠42/\q.1≠24/\q.1≠25/\q.1≠19:=by
 intro q hq;simp only[eE,cm,fM,or_false]at hq;rcases hq with rfl|rfl|rfl|rfl|rfl|rfl|rfl|rfl|rfl|rfl|rfl<;>refine⟨by rw[mb,jb];rfl,by rw[wV,oh];rfl,by decide⟩
theorem Yv:∀q∈eQ,(f108 Pf) q.1=some (0,0)/\(f109 Pf) q.1=some q.2/\(f173 Pf) q.1=some 0/\(f174 Pf) q.1=some q.2/\q.1≠24/\q.1≠25/\(q.2==[])=false:=by
 intro q hq;simp only[eQ,cm,fM,or_false]at hq;rcases hq with rfl|rfl|rfl|rfl|rfl|rfl|rfl|rfl|rfl|rfl|rfl|rfl<;>refine⟨by rw[mb,jb];rfl,by rw[wS,od];rfl,by rw[wV,oh];rfl,by rw[Bd,pV];rfl,by decide⟩
section
variable {ps:List TParam}
theorem Yy {y:ae} (h:y.Kids≠[]\/(y.Op≠1/\y.Op≠2/\y.Op≠3/\y.Op≠4)):∃z,(f107 Pf) ps y=some (z,false):=by
 rw[rv,ma,ae.aD];by_cases h0:y.Kids=[]
 ·have h:=h.resolve_left (λg=>g h0);have e1:(y.Op==1)=false:=by simpa using h.1
  have e2:(y.Op==2)=false:=by simpa using h.2.1
  have e3:(y.Op==3)=false:=by simpa using h.2.2.1
  have e4:(y.Op==4)=false:=by simpa using h.2.2.2
  rw[h0,e1,e2,e3,e4];exact⟨_,rfl⟩
 ·have:decide ((y.Kids.length:Int)>0)=true:=by
   have:=xL.2 h0;simp;omega
  rw[this];exact⟨_,rfl⟩
theorem Yt {y:ae} {ns:List ab} (hlf:y.Kids≠[]\/(y.Op≠1/\y.Op≠2/\y.Op≠3/\y.Op≠4)) (hlen:y.Kids.length<=2097152) (hl:y.Kids.length=ns.length) (h:∀(i:Nat) k n,y.Kids[i]? =some k->ns[i]? =some n->(f62 Pf) ps k=some (n,true)) (ha:Qj ps y ns):∃n,(f62 Pf) ps y=some (n,true)/\Br ps y n:=by
 obtain⟨z,e⟩:=Yy (ps:=ps) hlf;obtain⟨n,h1,h2⟩:=ha;refine⟨n,?_,h2⟩;rw[I0,rR,e];show(gX Pf) ps y false 0 []=_;rw[WD hlen hl h,h1]
theorem Xp {y:ae} {ns:List ab} (hlen:y.Kids.length<=2097152) (hl:y.Kids.length=ns.length) (h:∀(i:Nat) k n,y.Kids[i]? =some k->ns[i]? =some n->(f104 Pf) ps k=some (n,true)) (ha:PE ps y ns):∃n,(f104 Pf) ps y=some (n,true)/\Br ps y n:=by
 obtain⟨n,h1,h2⟩:=ha;refine⟨n,?_,h2⟩;rw[GQ,pT,VQ hlen hl h,h1]
theorem qv {y:ae} {ns:List ab} {kd m:Int} (ho:(f108 Pf) y.Op=some (kd,m)) (h0:kd≠0) (h42:kd≠42) (hm:m=(y.Kids.length:Int)):(gX Pf) ps y false (y.Kids.length:Int) ns=some (⟨kd,[],0,y.At,ns⟩,true):=by
 rw[vz,ho,aw];have e1:(kd !=0)=true:=by simpa using h0
 have e2:(kd==42)=false:=by simpa using h42
 have e3:(m !=(y.Kids.length:Int))=false:=by simpa using hm
 show(bif kd !=0 then(bif m !=(y.Kids.length:Int)then _ else bif kd==42 then _ else _)else _)=_;rw[e1,e2,e3];rfl
theorem yK {y:ae} {ns:List ab} {s:List UInt8} (ho:(f108 Pf) y.Op=some (0,0)) (hs:(f109 Pf) y.Op=some s) (h24:y.Op≠24) (h25:y.Op≠25) (hne:(s==[])=false):(gX Pf) ps y false (y.Kids.length:Int) ns=some (⟨51,s,0,y.At,ns⟩,true):=by
 rw[vz,ho,aw];have e1:(y.Op==24)=false:=by simpa using h24
 have e2:(y.Op==25)=false:=by simpa using h25
 show(((f109 Pf) y.Op).bind _)=_;rw[hs,aw,e1,e2,hne];rfl
theorem gU {y:ae} {ns:List ab}:(iC Pf) ps y false (y.Kids.length:Int) ns=(((f173 Pf) y.Op).bind λy14=>(bif y14 !=0 then(some (({Kind:=y14,Text:=[],N:=0,At:=y.At,Kids:=ns:ab},(ns.length:Int)==2)))else(((f174 Pf) y.Op).bind λy16=>(bif !y16==[]then(bif y.Op==24 then((lT Pf) y ns y16 0 [])else(bif y.Op==25 then(bif (y.ai.aj.Names.length:Int) !=(ns.length:Int)then(some (({Kind:=51,Text:=y16,N:=0,At:=y.At,Kids:=ns:ab},false)))else((jA Pf) y ns y16 ns 0))else(some (({Kind:=51,Text:=y16,N:=0,At:=y.At,Kids:=ns:ab},true)))))else(bif y.Op==1 then(bif (ns.length:Int)==0 then(bif decide (y.N>= -1000000000000000)then(some (({Kind:=44,Text:=[],N:=y.N,At:=y.At,Kids:=ns:ab},decide (y.N<=1000000000000000))))else(some (({Kind:=44,Text:=[],N:=y.N,At:=y.At,Kids:=ns:ab},false))))else(some (({Kind:=44,Text:=[],N:=y.N,At:=y.At,Kids:=ns:ab},false))))else(bif y.Op==2 then(bif y.N==1 then(some (({Kind:=45,Text:=[],N:=0,At:=y.At,Kids:=ns:ab},(ns.length:Int)==0)))else(some (({Kind:=46,Text:=[],N:=0,At:=y.At,Kids:=ns:ab},(ns.length:Int)==0))))else(bif y.Op==3 then(bif (ns.length:Int)==0 then(((p7 Pu) y.Text).bind λy56=>(some (({Kind:=47,Text:=y.Text,N:=0,At:=y.At,Kids:=ns:ab},y56))))else(some (({Kind:=47,Text:=y.Text,N:=0,At:=y.At,Kids:=ns:ab},false))))else(bif y.Op==4 then(bif decide (y.N<0)then(some (({Kind:=0,Text:=[],N:=0,At:=y.At,Kids:=ns:ab},false)))else(bif decide (y.N>=(ps.length:Int))then(some (({Kind:=0,Text:=[],N:=0,At:=y.At,Kids:=ns:ab},false)))else((au ps (y.N)).bind λx60=>(some (({Kind:=48,Text:=x60.Name,N:=0,At:=y.At,Kids:=ns:ab},(ns.length:Int)==0))))))else(bif y.Op==5 then(some (({Kind:=49,Text:=[],N:=0,At:=y.At,Kids:=ns:ab},(ns.length:Int)==0)))else(bif y.Op==6 then(some (({Kind:=50,Text:=[],N:=0,At:=y.At,Kids:=ns:ab},(ns.length:Int)==0)))else(bif y.Op==7 then(some (({Kind:=30,Text:=[],N:=0,At:=y.At,Kids:=ns:ab},(ns.length:Int)==3)))else(bif y.Op==10 then(some (({Kind:=33,Text:=[],N:=0,At:=y.At,Kids:=ns:ab},(ns.length:Int)==1)))else(bif y.Op==19 then(bif (ns.length:Int) !=1 then(some (({Kind:=0,Text:=[],N:=0,At:=y.At,Kids:=ns:ab},false)))else(bif decide (y.N<0)then(some (({Kind:=0,Text:=[],N:=0,At:=y.At,Kids:=ns:ab},false)))else((au (y.Kids) (0)).bind λx69=>(bif decide (y.N>=(x69.ai.aj.Names.length:Int))then(some (({Kind:=0,Text:=[],N:=0,At:=y.At,Kids:=ns:ab},false)))else((au (y.Kids) (0)).bind λx72=>((au (x72.ai.aj.Names) (y.N)).bind λx74=>(some (({Kind:=42,Text:=x74,N:=0,At:=y.At,Kids:=ns:ab},true)))))))))else(some (({Kind:=0,Text:=[],N:=0,At:=y.At,Kids:=ns:ab},false)))))))))))))))):=by
 rw[DF,qB,p6,ae.aD,aY];have:decide (y.Kids.length<y.Kids.length)=false:=by simp
 rw[this,bp,ab.aD,TParam.aD];simp only[cj]
theorem VP {y:ae} {ns:List ab} {kd:Int} (hb:(f173 Pf) y.Op=some kd) (h0:kd≠0) (h2:ns.length=2):(iC Pf) ps y false (y.Kids.length:Int) ns=some (⟨kd,[],0,y.At,ns⟩,true):=by
 rw[gU,hb,aw,h2];have e1:(kd !=0)=true:=by simpa using h0
 rw[e1];rfl
theorem yh {y:ae} {ns:List ab} {s:List UInt8} (hb:(f173 Pf) y.Op=some 0) (hs:(f174 Pf) y.Op=some s) (h24:y.Op≠24) (h25:y.Op≠25) (hne:(s==[])=false):(iC Pf) ps y false (y.Kids.length:Int) ns=some (⟨51,s,0,y.At,ns⟩,true):=by
 rw[gU,hb,aw];have e1:(y.Op==24)=false:=by simpa using h24
 have e2:(y.Op==25)=false:=by simpa using h25
 show(((f174 Pf) y.Op).bind _)=_;rw[hs,aw,hne,e1,e2];rfl
theorem Yw (op:Int) (h:op=1\/op=2\/op=3\/op=4\/op=5\/op=6\/op=7\/op=10\/op=19):(f173 Pf) op=some 0/\(f174 Pf) op=some []:=by
 rcases h with rfl|rfl|rfl|rfl|rfl|rfl|rfl|rfl|rfl<;>exact⟨by rw[wV,oh];rfl,by rw[Bd,pV];rfl⟩
theorem vQ (op:Int) (s:List UInt8) (h:(op,s)=(23,w9)\/(op,s)=(24,dC)\/(op,s)=(25,dg)\/(op,s)=(26,A6)\/(op,s)=(28,AS)):(f108 Pf) op=some (0,0)/\(f109 Pf) op=some s/\(f173 Pf) op=some 0/\(f174 Pf) op=some s:=by
 rcases h with h|h|h|h|h<;>cases h<;>exact⟨by rw[mb,jb];rfl,by rw[wS,od];rfl,by rw[wV,oh];rfl,by rw[Bd,pV];rfl⟩
