/- A well-typed expression is what its trees are elaborated to. -/
import Derived.Test.YtnocmolegijmkaaGreatKRu
set_option linter.all false
namespace Go.Proofs.YtnocmolegijmkaaGreat
open Go Go.Bw
section
variable {B:Nat} (hB:B<=1048576) {c:bm} (hc:CE B c) (hd:∀(i j:Nat) p q,c.params[i]? =some p->c.params[j]? =some q->p.Name=q.Name->i=j)
omit hB in
theorem R6 {i:Nat} {p:TParam} (hd:∀(i j:Nat) p q,c.params[i]? =some p->c.params[j]? =some q->p.Name=q.Name->i=j) (h:c.params[i]? =some p):idxOf (λq:TParam=>q.Name==p.Name) c.params 0=(i:Int):=by
 rcases sJ (λq:TParam=>q.Name==p.Name) c.params 0 with⟨_,h2⟩|⟨j,x,h1,h2,h3,_⟩
 ·have:=h2 p (br h);simp at this
 ·have e2:=hd j i x p h2 h (by simpa using h3);have h1:idxOf (λq:TParam=>q.Name==p.Name) c.params 0=((0+j:Nat):Int):=h1;rw[h1,e2];simp
theorem gw {n:af} {w:ay} {y:ab} (h51:n.Kind=51) (h:ae ((dM Pu) c n w) (·=⟨y.Op,y.aq,y.N,y.Text,0,y.Kids⟩) cC):Ea c n w y:=by
 unfold Ea;rw[ef,dC];simp only[bz,aE,h51,Int.reduceBEq,a6,bl];exact ae.aF h λ_ e=>ae.ret e
include hB hc hd in
theorem R5:∀y:ab,IH B c y:=by
 refine ab.ind λy ih w n hw hW hb=>?_;have htt:=W.tt hc hW hw;have z0:isNone (aK 0)=true:=rfl;have s0:cS B (aK 0):= .inl rfl;have hW0:=hW;cases hW with
 |int h1 h2 hf=>
  cases hb;refine dt hB hw htt.ty rfl hf ?_;unfold Ea;rw[ef,dC];simp only[bz,aE,Int.reduceBEq,a6,bl];exact ae.ret rfl
 |bool h1 hf=>
  cases hb
  ·refine dt hB hw htt.ty rfl hf ?_;unfold Ea;rw[ef,dC];simp only[bz,aE,Int.reduceBEq,a6,bl];exact ae.ret rfl
  ·refine dt hB hw htt.ty rfl hf ?_;unfold Ea;rw[ef,dC];simp only[bz,aE,Int.reduceBEq,a6,bl];exact ae.ret rfl
 |name h1 hf=>
  cases hb;refine dt hB hw htt.ty rfl hf ?_;unfold Ea;rw[ef,dC];simp only[bz,aE,Int.reduceBEq,a6,bl];exact ae.ret rfl
 |param hp hf=>
  rename_i i p a;generalize hi:(i:Int)=i' at hb;cases hb with
  |param hq=>
   rename_i i2 q;have:i2=i:=by omega
   subst this;rw[hp]at hq;cases hq;refine dt hB hw htt.ty rfl hf ?_;unfold Ea;rw[ef,dC];simp only[bz,aE,Int.reduceBEq,a6,bl];refine ae.au (J0 _ _ (by have:=hc.num;omega)) ?_;show ae (bif decide (idxOf (λq:TParam=>q.Name==p.Name) c.params 0<0)then _ else _) _ _;rw[R6 hd hp];refine ae.bif (λh=>by simp at h;omega) (λ_=>?_);exact ae.au (fU hp) (ae.ret rfl)
 |state hf=>
  cases hb;refine dt hB hw htt.ty rfl hf ?_;unfold Ea;rw[ef,dC];simp only[bz,of_eq,aE,Int.reduceBEq,a6,bl];exact ae.ret rfl
 |iq hs hn=>
  cases hb;refine dt hB hw htt.ty rfl (λ_=>rfl) ?_;unfold Ea;rw[ef,dC];simp only[bz,jD,hn,hs,aE,Int.reduceBEq,Int.reduceBNe,a6,bl];exact ae.ret rfl
 |iH hn h1 h2 h3=>
  cases hb with
  |ite b1 b2 b3=>
  rename_i c0 x y a c' x' y';refine dt hB hw htt.ty rfl (λ_=>rfl) ?_;unfold Ea;rw[ef,dC,kq,gV];simp only[bz,jD,hn,aE,Int.reduceBEq,a6,bl];refine ae.aF (P:=(·=⟨7,w,0,[],0,[c0,x,y]⟩)) ?_ (λ_ e=>ae.ret e);refine ae.au (v:=c') rfl (dn (ih _ (by simp) _ _ (ww 2) h1 b1) ?_);refine ae.au (v:=x') rfl (dn (ih _ (by simp) _ _ hw h2 b2) ?_);refine ae.au (v:=y') rfl (dn (ih _ (by simp) _ _ hw h3 b3) ?_);have e:=h2.nV hn;exact ae.ret (by rw[<-e])
 |ku hn h1 h2 h3=>
  cases hb with
  |ite b1 b2 b3=>
  rename_i c0 x y a c' x' y';refine dt hB hw htt.ty rfl (λh=>by rw[hn]at h;cases h) ?_;unfold Ea;rw[ef,dC,kq,gV];simp only[bz,jD,hn,aE,Int.reduceBEq,a6,bl];refine ae.aF (P:=(·=⟨7,x.aq,0,[],0,[c0,x,y]⟩)) ?_ (λ_ e=>ae.ret e);refine ae.au (v:=c') rfl (dn (ih _ (by simp) _ _ (ww 2) h1 b1) ?_);refine ae.au (v:=x') rfl (ae.au (v:=y') rfl ?_);refine ae.aF (qc b2 b3 (rp hc (ih x (by simp)) (ih y (by simp)) b2 b3 (.inl ⟨h2,h3,λe=>by cases e⟩))) (λr e=>?_);have e:r=(x,y):=e;subst e;exact ae.ret rfl
 |kv hn h1 h2 h3=>
  cases hb with
  |ite b1 b2 b3=>
  rename_i c0 x y a c' x' y';refine dt hB hw htt.ty rfl (λh=>by rw[hn]at h;cases h) ?_;unfold Ea;rw[ef,dC,kq,gV];simp only[bz,jD,hn,aE,Int.reduceBEq,a6,bl];refine ae.aF (P:=(·=⟨7,x.aq,0,[],0,[c0,x,y]⟩)) ?_ (λ_ e=>ae.ret e);refine ae.au (v:=c') rfl (dn (ih _ (by simp) _ _ (ww 2) h1 b1) ?_);refine ae.au (v:=x') rfl (ae.au (v:=y') rfl ?_);refine ae.aF (qc b2 b3 (rp hc (ih x (by simp)) (ih y (by simp)) b2 b3 (.inr ⟨h2,h3,λe=>by cases e⟩))) (λr e=>?_);have e:r=(x,y):=e;subst e;exact ae.ret rfl
 |not h1 hf=>
  rename_i x a;have hx:=λn b=>ih x (by simp) (aK 2) n (ww 2) h1 b;cases hb with
  |not b1=>
   rename_i x';refine dt hB hw htt.ty rfl hf ?_;unfold Ea;rw[ef,dC];simp only[bz,aE,Int.reduceBEq,a6,bl];exact ae.au (v:=x') rfl (dn (hx _ b1) (ae.ret rfl))
  |jO hm _=>simp[eg]at hm
 |field h1 hs h6 hi hp hf=>
  rename_i x i p a;have hx:=λn b=>ih x (by simp) (aK 0) n s0 h1 b;have hl:=((htt.fT (k:=x) (by simp)).ty.eT hs);have hnl:x.aq.aw.Names.length<=B:=by have:=hl.2;rw[ai.cY]at this;exact this.2.2.2.1.1
  generalize hi':(i:Int)=i' at hb;cases hb with
  |field hn b1=>
   rename_i i2 s x';have:i2=i:=by omega
   subst this;refine dt hB hw htt.ty rfl hf ?_;unfold Ea;rw[ef,dC,kq,gV];simp only[bz,jD,aE,Int.reduceBEq,a6,bl];refine ae.aF (P:=(·=⟨19,bY p,i2,[],0,[x]⟩)) ?_ (λ_ e=>ae.ret e);refine ae.au (v:=x') rfl (BJ (AH (by simp) (hx _ b1) hs (by simp[h6])) ?_);refine ae.au (sV _ _ (by omega)) ?_;rw[Hm hn (FZ hl.1 h6)];refine ae.bif (λh=>by simp at h;omega) (λ_=>?_);refine ae.au (fU hp) (ae.au (of_eq p) ?_);exact ae.ret rfl
  |jO hm _=>simp[eg]at hm
 |flag hs hk h1=>
  rename_i x a;have hx:=λn b=>ih x (by simp) (aK 2) n (ww 2) h1 b;cases hb with
  |jO hm b1=>
   simp[eg]at hm;subst hm;exact dt hB hw htt.ty rfl (λ_=>rfl) (gw rfl (Rb hs hk (hx _ b1)))
 |num hs hk h1=>
  rename_i x a;have hx:=λn b=>ih x (by simp) (aK 1) n (ww 1) h1 b;cases hb with
  |jO hm b1=>
   simp[eg]at hm;subst hm;exact dt hB hw htt.ty rfl (λ_=>rfl) (gw rfl (R7 hs hk (hx _ b1)))
 |one hs hk h1=>
  rename_i x a;have hx:=λn b=>ih x (by simp) (aK 3) n (ww 3) h1 b;cases hb with
  |jO hm b1=>
   simp[eg]at hm;subst hm;exact dt hB hw htt.ty rfl (λ_=>rfl) (gw rfl (R8 hs hk (hx _ b1)))
 |size h1 hm' hf=>
  rename_i x a;have hx:=λn b=>ih x (by simp) (aK 0) n s0 h1 b;cases hb with
  |jO hm b1=>
   simp[eg]at hm;subst hm;exact dt hB hw htt.ty rfl hf (gw rfl (Rc (hx _ b1) hm'))
 |sum h1 hs h5 hp hk hf=>
  rename_i x p a;have hx:=λn b=>ih x (by simp) (aK 0) n s0 h1 b;cases hb with
  |jO hm b1=>
   simp[eg]at hm;subst hm;exact dt hB hw htt.ty rfl hf (gw rfl (R9 (hx _ b1) hs h5 hp hk))
 |kE hm h1 hs hk hf=>
  rename_i op x s ks a;have hx:=λn b=>ih x (by simp) (aK 0) n s0 h1 b;simp only[cu,jY,or_false,bZ]at hm;rcases hm with⟨rfl,rfl,rfl⟩|⟨rfl,rfl,rfl⟩|⟨rfl,rfl,rfl⟩|⟨rfl,rfl,rfl⟩|⟨rfl,rfl,rfl⟩
  all_goals cases hb
  all_goals (rename_i hm b1;simp[eg]at hm;subst hm)
  ·exact dt hB hw htt.ty rfl hf (gw rfl (Pj (hx _ b1) hs hk))
  ·exact dt hB hw htt.ty rfl hf (gw rfl (T3 (hx _ b1) hs hk))
  ·exact dt hB hw htt.ty rfl hf (gw rfl (Re (hx _ b1) hs hk))
  ·exact dt hB hw htt.ty rfl hf (gw rfl (Pk (hx _ b1) hs hk))
  ·exact dt hB hw htt.ty rfl hf (gw rfl (NW (hx _ b1) hs hk))
 |part ho h1 hs h7 hp hf=>
  rename_i op i x p a;have hx:=λn b=>ih x (by simp) (aK 0) n s0 h1 b;rcases ho with⟨rfl,rfl⟩|⟨rfl,rfl⟩
  all_goals cases hb
  all_goals (rename_i hm b1;simp[eg]at hm;subst hm)
  ·exact dt hB hw htt.ty rfl hf (gw rfl (Qg (hx _ b1) hs h7 hp))
  ·exact dt hB hw htt.ty rfl hf (gw rfl (Pl (hx _ b1) hs h7 hp))
 |pair h0 hk hp hq h1 h2=>
  have tw:=htt.ty;cases hb with
  |two hm=>simp[dS]at hm
  |pair b1 b2=>
   exact dt hB hw htt.ty rfl (λ_=>rfl) (gw rfl (NJ h0 hk hp hq (ih _ (by simp) _ _ (.inr (gP tw h0 (br hp))) h1 b1) (ih _ (by simp) _ _ (.inr (gP tw h0 (br hq))) h2 b2)))
 |write h1 h2 h3 hf=>
  have wr:a7 B (bY eO):=a7.of wK (xl B);cases hb with
  |write b1 b2 b3=>
   exact dt hB hw htt.ty rfl hf (gw rfl (Ny (ih _ (by simp) _ _ (.inr wr) h1 b1) (ih _ (by simp) _ _ (ww 1) h2 b2) (ih _ (by simp) _ _ (ww 3) h3 b3)))
 |gW h0 hk hn h1 hs=>
  rename_i kids a;have key:∀{ks:List af},kids.length=ks.length->(∀(i:Nat) k k',kids[i]? =some k->ks[i]? =some k'->Br c.params k k')->El c ⟨51,uX,0,a,ks⟩ w ⟨23,w,0,[],a,kids⟩:=λhl hb=>
   dt hB hw htt.ty rfl (λ_=>rfl) (gw rfl (NX hB h0 hk hn hl (λi k k' g1 g2=>ih k (br g1) _ _ s0 (h1 k (br g1)) (hb i k k' g1 g2)) hs))
  cases hb with
  |gW hl hb=>exact key hl hb
  |two hm=>simp[dS]at hm
  |jO hm=>simp[eg]at hm
 |map h0 hk hn hp h1 h2=>
  rename_i qs p a;generalize hkd:(qs.flatMap λq=>[q.1,q.2])=kids at*
  have tw:=htt.ty;cases hb with
  |map e hl b1 b2=>
   rename_i qs2 es;have e2:qs=qs2:=Hn (hkd.trans e);subst e2;subst hkd;have m1:∀q∈qs,q.1∈(qs.flatMap λq=>[q.1,q.2])/\q.2∈(qs.flatMap λq=>[q.1,q.2]):=λq hq=>⟨eU.2 ⟨q,hq,by simp⟩,eU.2 ⟨q,hq,by simp⟩⟩;exact dt hB hw htt.ty rfl (λ_=>rfl) (gw rfl (NY hB h0 hk hp hn hl (λi q e g1 g2=>ih q.1 (m1 q (br g1)).1 _ _ (ww 3) (h1 q (br g1)) (b1 i q e g1 g2)) (λi q e g1 g2=>ih q.2 (m1 q (br g1)).2 _ _ (.inr (gP tw h0 (br hp))) (h2 q (br g1)) (b2 i q e g1 g2))))
  |two hm=>simp[dS]at hm
  |jO hm=>simp[eg]at hm
 |gG h0 h6 hn hl h1=>
  rename_i kids a;have tw:=htt.ty;cases hb with
  |gG hnm hes hdis hlt hb hbot=>
   refine dt hB hw htt.ty rfl (λ_=>rfl) (gw rfl (NZ hB tw h0 h6 hl hes hdis hlt (λe k p he hk hp=>?_) (λj k p hk hp=>?_)))
   ·exact ih k (br hk) _ _ (.inr (gP tw h0 (br hp))) (h1 _ k p hk hp) (hb e k he hk)
   ·rcases hbot j k hk with h|⟨h,h'⟩
    ·exact .inl h
    ·refine .inr ?_;have:=h1 j k p hk hp;cases this
     all_goals first|(simp at h;done)|skip
     ·simp at h';subst h';rfl
     all_goals (exfalso;simp at h;first|omega|(subst h;simp_all;done))
  |two hm=>simp[dS]at hm
  |jO hm=>simp[eg]at hm
 |conn ho h1 h2 hf=>
  cases hb with
  |two hm b1 b2=>exact kS hB hc hw hW0 hm ih b1 b2
  |_=>omega
 |less ho h1 h2 hf=>
  cases hb with
  |two hm b1 b2=>exact kS hB hc hw hW0 hm ih b1 b2
  |_=>omega
 |ji ho h1 h2 hf=>
  cases hb with
  |two hm b1 b2=>exact kS hB hc hw hW0 hm ih b1 b2
  |_=>omega
 |equal h1 h2 h3 hf=>
  cases hb with
  |two hm b1 b2=>exact kS hB hc hw hW0 hm ih b1 b2
 |k7 h1 h2 hf=>
  cases hb with
  |two hm b1 b2=>exact kS hB hc hw hW0 hm ih b1 b2
 |k8 h1 h2 h3 hf=>
  cases hb with
  |two hm b1 b2=>exact kS hB hc hw hW0 hm ih b1 b2
 |k9 h1 h2 h3 hf=>
  cases hb with
  |two hm b1 b2=>exact kS hB hc hw hW0 hm ih b1 b2
 |jb hn hs h1 h2=>
  cases hb with
  |two hm b1 b2=>exact kS hB hc hw hW0 hm ih b1 b2
 |kj hn hs h1 h2=>
  cases hb with
  |two hm b1 b2=>exact kS hB hc hw hW0 hm ih b1 b2
 |km hn hs h1 h2=>
  cases hb with
  |two hm b1 b2=>exact kS hB hc hw hW0 hm ih b1 b2
 |at_ h1 hs h5 hp h2 hf=>
  cases hb with
  |two hm b1 b2=>exact kS hB hc hw hW0 hm ih b1 b2
end
theorem T2 {ps:List TParam} {y:ab} {n:af} (h:Br ps y n):n.At=y.At/\(n.Kind=50↔y.Op=6):=by
 have t:∀q∈dS,q.1≠6/\q.2≠50:=by decide
 have o:∀q∈eg,q.1≠6:=by decide
 cases h with
 |two hm=>have:=t _ hm;exact⟨rfl,⟨λh=>absurd h this.2,λh=>absurd h this.1⟩⟩
 |jO hm=>have:=o _ hm;exact⟨rfl,⟨λh=>by simp at h,λh=>absurd h this⟩⟩
 |_=>exact⟨rfl,by simp⟩
section
variable {B:Nat} (hB:B<=1048576) {c:bm} {ps:List TParam}
theorem Ph {y : ab} {ns : List af} (hlen : y.Kids.length ≤ 2097152) (hl : y.Kids.length = ns.length) (h : ∀ (i : Nat) k n, y.Kids[i]? = some k → ns[i]? = some n → (mc Pu) ps k = some (n, true)) :
    (gy Pu) ps y false 0 [] = (gy Pu) ps y false (y.Kids.length : Int) ns := by
  have key : ∀ m i : Nat, i + m = y.Kids.length → (gy Pu) ps y false (i : Int) (ns.take i) = (gy Pu) ps y false (y.Kids.length : Int) ns := by
    intro m
    induction m with
    | zero => intro i hi; have : i = y.Kids.length := by omega
              subst this; rw [hl, kH]
    | succ m im =>
      intro i hi
      obtain ⟨k, hk⟩ := bu (l := y.Kids) (i := i) (by omega)
      obtain ⟨n, hn⟩ := bu (l := ns) (i := i) (by omega)
      have hb : (ns.take i).length = i := by rw [iS]; omega
      rw [xE, nD, ab.aH, bq]
      have : decide (i < y.Kids.length) = true := by simp; omega
      rw [this, a6, bw hk, aE, h i k n hk hn, aE]
      have hlen : decide ((ns.take i ++ [af.z]).length ≤ 274877906944) = true := by simp; omega
      show (bif decide ((ns.take i ++ [af.z]).length ≤ 274877906944) then (aA (ns.take i ++ [af.z]) _).bind _ else none) = _
      rw [hlen, a6, af.aH, ox, cw i (by omega), iR]
      have e1 : (ns.take i ++ [af.z])[(ns.take i).length]? = some af.z := by simp
      rw [e1, aE]
      show (gy Pu) ps y false _ ((ns.take i ++ [af.z]).set (ns.take i).length n) = _
      rw [np, qu hn]
      exact im (i + 1) (by omega)
  exact key y.Kids.length 0 (by omega)
theorem OC {y : ab} {ns : List af} (hlen : y.Kids.length ≤ 2097152) (hl : y.Kids.length = ns.length) (h : ∀ (i : Nat) k n, y.Kids[i]? = some k → ns[i]? = some n → (oc Pu) ps k = some (n, true)) :
    (jI Pu) ps y false 0 [] = (jI Pu) ps y false (y.Kids.length : Int) ns := by
  have key : ∀ m i : Nat, i + m = y.Kids.length → (jI Pu) ps y false (i : Int) (ns.take i) = (jI Pu) ps y false (y.Kids.length : Int) ns := by
    intro m
    induction m with
    | zero => intro i hi; have : i = y.Kids.length := by omega
              subst this; rw [hl, kH]
    | succ m im =>
      intro i hi
      obtain ⟨k, hk⟩ := bu (l := y.Kids) (i := i) (by omega)
      obtain ⟨n, hn⟩ := bu (l := ns) (i := i) (by omega)
      have hb : (ns.take i).length = i := by rw [iS]; omega
      rw [JB, q0, ab.aH, bq]
      have : decide (i < y.Kids.length) = true := by simp; omega
      rw [this, a6, bw hk, aE, h i k n hk hn, aE]
      have hlen : decide ((ns.take i ++ [n]).length ≤ 274877906944) = true := by simp; omega
      show (bif decide ((ns.take i ++ [n]).length ≤ 274877906944) then _ else none) = _
      rw [hlen, a6, cw i (by omega), qu hn]
      exact im (i + 1) (by omega)
  exact key y.Kids.length 0 (by omega)
def KG (ps:List TParam) (y:ab) (ns:List af):Prop:=∃n,(gy Pu) ps y false (y.Kids.length:Int) ns=some (n,true)/\Br ps y n
def J2 (ps:List TParam) (y:ab) (ns:List af):Prop:=∃n,(jI Pu) ps y false (y.Kids.length:Int) ns=some (n,true)/\Br ps y n
theorem sW {y:ab} {ns:List af}:(gy Pu) ps y false (y.Kids.length:Int) ns=((jm Pu) y.Op).bind λy18=>(bif y18.fst !=0 then(bif y18.snd !=(y.Kids.length:Int)then(some (({Kind:=y18.fst,Text:=[],N:=0,At:=y.At,Kids:=ns:af},false)))else(bif y18.fst==42 then((aA (y.Kids) (0)).bind λx22=>(bif decide (y.N<0)then(some (({Kind:=y18.fst,Text:=[],N:=0,At:=y.At,Kids:=ns:af},false)))else(bif decide (y.N>=(x22.aq.aw.Names.length:Int))then(some (({Kind:=y18.fst,Text:=[],N:=0,At:=y.At,Kids:=ns:af},false)))else((aA (x22.aq.aw.Names) (y.N)).bind λx26=>(some (({Kind:=y18.fst,Text:=x26,N:=0,At:=y.At,Kids:=ns:af},true)))))))else(some (({Kind:=y18.fst,Text:=[],N:=0,At:=y.At,Kids:=ns:af},true)))))else(((lk Pu) y.Op).bind λy28=>(bif y.Op==24 then(bif (ns.length:Int).tmod 2 !=0 then(some (({Kind:=51,Text:=y28,N:=0,At:=y.At,Kids:=ns:af},false)))else((jH Pu) y ns y28 [] 0))else(bif y.Op==25 then(bif (y.aq.aw.Names.length:Int) !=(ns.length:Int)then(some (({Kind:=51,Text:=y28,N:=0,At:=y.At,Kids:=ns:af},false)))else((il Pu) y ns y28 [] 0))else(some (({Kind:=51,Text:=y28,N:=0,At:=y.At,Kids:=ns:af},!y28==[]))))))):=by
 rw[xE,nD,ab.aH,bq];have:decide (y.Kids.length<y.Kids.length)=false:=by simp
 rw[this,bl,af.aH];simp only[eh]
end
def dw (f:af->Bool) (b:Int):Nat->List af->List (Nat×Int×af)
 |_,[]=>[]
 |i,n::r=>bif f n then(i,b,n)::dw f b (i+1) r else dw f b (i+1) r
theorem sX {f:af->Bool} {b:Int}:∀{ns:List af} {i:Nat} {e:Nat×Int×af},e∈dw f b i ns->∃j,e.1=i+j/\ns[j]? =some e.2.2
 |n::r,i,e,h=>by
  rw[dw]at h;cases hf:f n with
  |true=>
   rw[hf,a6]at h;rcases cu.1 h with rfl|h
   ·exact⟨0,rfl,rfl⟩
   ·obtain⟨j,h1,h2⟩:=sX h;exact⟨j+1,by omega,h2⟩
  |false=>
   rw[hf,bl]at h;obtain⟨j,h1,h2⟩:=sX h;exact⟨j+1,by omega,h2⟩
theorem H5 {f:af->Bool} {b:Int}:∀{ns:List af} {i j:Nat} {n:af},ns[j]? =some n->f n=true->∃e∈dw f b i ns,e.1=i+j
 |m::r,i,0,n,h,hf=>by
  simp only[mf,ax]at h;subst h;rw[dw,hf];exact⟨_,MR ..,rfl⟩
 |m::r,i,j+1,n,h,hf=>by
  obtain⟨e,h1,h2⟩:=H5 (f:=f) (b:=b) (i:=i+1) (ns:=r) (j:=j) (by simpa using h) hf;refine⟨e,?_,by omega⟩;rw[dw];cases f m with
  |true=>exact vC _ h1
  |false=>exact h1
theorem H6 {f:af->Bool} {b:Int}:∀{ns:List af} {i:Nat},(dw f b i ns).length<=ns.length
 |[],_=>bC _
 |n::r,i=>by
  have:=H6 (f:=f) (b:=b) (ns:=r) (i:=i+1);rw[dw];cases f n<;>simp<;>omega
theorem Hk {f:af->Bool} {b:Int}:∀{ns:List af} {i:Nat},(dw f b i ns).Pairwise (λx y=>x.1<y.1)
 |[],_=>List.Pairwise.nil
 |n::r,i=>by
  have ih:=Hk (f:=f) (b:=b) (ns:=r) (i:=i+1);rw[dw];cases f n with
  |true=>exact List.Pairwise.cons (λe he=>by obtain⟨j,h,_⟩:=sX he;show i<e.1;omega) ih
  |false=>exact ih
theorem Qd {f:af->Bool} {b:Int} {ns:List af} {i:Nat} (p q:Nat) (e e':Nat×Int×af) (hp:(dw f b i ns)[p]? =some e) (hq:(dw f b i ns)[q]? =some e') (h:e.1=e'.1):p=q:=by
 have hw:=Hk (f:=f) (b:=b) (ns:=ns) (i:=i);rw[List.pairwise_iff_getElem]at hw;obtain⟨hp1,hp2⟩:=cX.1 hp;obtain⟨hq1,hq2⟩:=cX.1 hq;rcases M4 p q with g|g|g
 ·have:=hw p q hp1 hq1 g;rw[hp2,hq2]at this;omega
 ·exact g
 ·have:=hw q p hq1 hp1 g;rw[hp2,hq2]at this;omega
theorem H7 {b:Int}:∀{ns:List af} {i j:Nat},(dw (λ_=>true) b i ns)[j]? =(ns[j]?).map λn=>(i+j,b,n)
 |[],_,j=>by simp[dw]
 |n::r,i,0=>by simp[dw]
 |n::r,i,j+1=>by
  rw[dw,a6,mS,H7,mS];congr 1;funext m;congr 1;omega
theorem J4 {ps : List TParam} {t : ay} {a b : Int} {kids : List ab} {ns : List af} {f : af → Bool} (hn : t.aw.Names.length = kids.length) (hl : kids.length = ns.length) (h : ∀ (i : Nat) k n, kids[i]? = some k → ns[i]? = some n → Br ps k n) (hf : ∀ n, f n = false → n.Kind = 50 ∧ n.At = a) : Br ps ⟨25, t, 0, [], a, kids⟩ ⟨51, dv, 0, a, (dw f b 0 ns).map (ep t.aw.Names)⟩ := by
  refine .gG hn (by rw [hl]; exact H6) (fun p q e e' h1 h2 h3 => Qd p q e e' h1 h2 h3) (fun e he => ?_) (fun e k he hk => ?_) (fun j k hk => ?_)
  · obtain ⟨j, h1, h2⟩ := sX he
    have := (cX.1 h2).1; omega
  · obtain ⟨j, h1, h2⟩ := sX he
    rw [h1, mO] at hk
    exact h j k _ hk h2
  · obtain ⟨n, hn⟩ := bu (l := ns) (i := j) (by have := (cX.1 hk).1; omega)
    cases hfn : f n with
    | true => obtain ⟨e, h1, h2⟩ := H5 (f := f) (b := b) (i := 0) hn hfn
              exact .inl ⟨e, h1, by omega⟩
    | false =>
      obtain ⟨h1, h2⟩ := hf n hfn
      have hb := T2 (h j k n hk hn)
      exact .inr ⟨hb.2.1 h1, by rw [← hb.1]; exact h2⟩
def ga (g:af->Int):List af->List (List UInt8×Int×af×af)
 |x::y::r=>([],g x,x,y)::ga g r
 |_=>[]
theorem wO {g:af->Int}:∀{ns:List af} {i:Nat} {x y:af},ns[2*i]? =some x->ns[2*i+1]? =some y->(ga g ns)[i]? =some ([],g x,x,y)
 |a::b::r,0,x,y,h1,h2=>by
  simp only[Nat.mul_zero,mO,mf,mS,ax]at h1 h2;subst h1;subst h2;rfl
 |a::b::r,i+1,x,y,h1,h2=>by
  rw[ga,mS];exact wO (by simpa[Af]using h1) (by simpa[Af]using h2)
 |[a],i,x,y,h1,h2=>by simp at h2
 |[],i,x,y,h1,h2=>by simp at h1
theorem wP {g:af->Int}:∀{ns:List af},(ga g ns).length=ns.length/2
 |a::b::r=>by rw[ga,eG,wP (ns:=r)];simp;omega
 |[_]=>by simp[ga]
 |[]=>rfl
theorem Hl {D:Type}:∀{qs:List (D×D)} {i:Nat} {q:D×D},qs[i]? =some q->(qs.flatMap λq=>[q.1,q.2])[2*i]? =some q.1/\(qs.flatMap λq=>[q.1,q.2])[2*i+1]? =some q.2
 |p::r,0,q,h=>by simp only[mf,ax]at h;subst h;exact⟨rfl,rfl⟩
 |p::r,i+1,q,h=>by
  have:=Hl (qs:=r) (i:=i) (q:=q) (by simpa using h);simpa[Af,vu]using this
theorem J3 {ps:List TParam} {t:ay} {a:Int} {qs:List (ab×ab)} {ns:List af} {g:af->Int} (hl:(qs.flatMap λq=>[q.1,q.2]).length=ns.length) (h:∀(i:Nat) k n,(qs.flatMap λq=>[q.1,q.2])[i]? =some k->ns[i]? =some n->Br ps k n):Br ps ⟨24,t,0,[],a,qs.flatMap λq=>[q.1,q.2]⟩ ⟨51,dR,0,a,(ga g ns).map eD⟩:=by
 rw[mV]at hl;have key:∀(i:Nat) q e,qs[i]? =some q->(ga g ns)[i]? =some e->Br ps q.1 e.2.2.1/\Br ps q.2 e.2.2.2:=by
  intro i q e h1 h2;have hi:=(cX.1 h1).1;obtain⟨x,hx⟩:=bu (l:=ns) (i:=2*i) (by omega);obtain⟨y,hy⟩:=bu (l:=ns) (i:=2*i+1) (by omega);rw[wO hx hy]at h2;cases h2;obtain⟨f1,f2⟩:=Hl h1;exact⟨h _ _ _ f1 hx,h _ _ _ f2 hy⟩
 exact .map rfl (by rw[wP];omega) (λi q e h1 h2=>(key i q e h1 h2).1) (λi q e h1 h2=>(key i q e h1 h2).2)
theorem Qb {y:ab} {ns:List af} {t:List UInt8} (he:ns.length%2=0) (hl:ns.length<=2097152):(jH Pu) y ns t [] 0=some (⟨51,t,0,y.At,(ga (λ_=>0) ns).map eD⟩,true):=by
 refine ah.of ?_;have h:=iU (L:=λi (b:List af)=>(jH Pu) y ns t b (2*i)) (P:=(·=(⟨51,t,0,y.At,(ga (λ_=>0) ns).map eD⟩,true))) (len:=ns.length/2) (λi b=>b=((ga (λ_=>0) ns).map eD).take i) (λi b hi hI k=>by
   show ah ((jH Pu) y ns t b _) _;have e0:(2*(i:Int))=((2*i:Nat):Int):=by omega
   rw[xC,nE,af.aH,e0,bq];have:decide (2*i<ns.length)=true:=by simp;omega
   obtain⟨p,hp⟩:=bu (by omega:2*i<ns.length);obtain⟨q,hq⟩:=bu (by omega:2*i+1<ns.length);have e2:IntKind.i64.wrap (((2*i:Nat):Int)+2)=2*((i+1:Nat):Int):=by rw[wrap64 (by omega) (by omega)];omega
   rw[this,a6,bw hp,aE,cw _ (by omega),bw hq,aE,e2];have hbl:b.length<=i:=by rw[hI,iS];omega
   have hlen:decide ((b++[({Kind:=52,Text:=[],N:=0,At:=0,Kids:=[p,q]}:af)]).length<=274877906944)=true:=by simp;omega
   rw[hlen,a6];refine k _ ?_;have hg:((ga (λ_=>0) ns).map eD)[i]? =some ⟨52,[],0,0,[p,q]⟩:=by rw[pU,wO hp hq];rfl
   rw[hI,qu hg]) (λb hI=>by
   show ah ((jH Pu) y ns t b _) _;have e0:(2*((ns.length/2:Nat):Int))=((ns.length:Nat):Int):=by omega
   rw[xC,nE,af.aH,e0,bq];have:decide (ns.length<ns.length)=false:=by simp
   rw[this,bl];have e3:b=(ga (λ_=>0) ns).map eD:=by
    rw[hI];exact M0 (by rw[jv,wP];exact bC _)
   rw[e3];exact ah.ret rfl) 0 [] (by omega) (by simp)
 simpa using h
theorem Pg {y:ab} {ns:List af} {t:List UInt8} (he:ns.length%2=0) (hl:ns.length<=2097152):(mr Pu) y ns t 0 []=some (⟨51,t,0,y.At,(ga (λx=>x.At) ns).map eD⟩,true):=by
 refine ah.of ?_;have h:=iU (L:=λi (b:List af)=>(mr Pu) y ns t (2*i) b) (P:=(·=(⟨51,t,0,y.At,(ga (λx=>x.At) ns).map eD⟩,true))) (len:=ns.length/2) (λi b=>b=((ga (λx=>x.At) ns).map eD).take i) (λi b hi hI k=>by
   show ah ((mr Pu) y ns t _ b) _;have e0:(2*(i:Int))=((2*i:Nat):Int):=by omega
   obtain⟨p,hp⟩:=bu (by omega:2*i<ns.length);obtain⟨q,hq⟩:=bu (by omega:2*i+1<ns.length);rw[Jz,qY,af.aH,e0,cw _ (by omega),bq];have:decide (2*i+1<ns.length)=true:=by simp;omega
   have e2:IntKind.i64.wrap (((2*i:Nat):Int)+2)=2*((i+1:Nat):Int):=by rw[wrap64 (by omega) (by omega)];omega
   rw[this,a6,bw hp,aE,bw hq,aE,e2];have hbl:b.length<=i:=by rw[hI,iS];omega
   have hlen:decide ((b++[({Kind:=52,Text:=[],N:=0,At:=p.At,Kids:=[p,q]}:af)]).length<=274877906944)=true:=by simp;omega
   refine ah.au rfl ?_;rw[hlen,a6];refine k _ ?_;have hg:((ga (λx=>x.At) ns).map eD)[i]? =some ⟨52,[],0,p.At,[p,q]⟩:=by rw[pU,wO hp hq];rfl
   rw[hI,qu hg]) (λb hI=>by
   show ah ((mr Pu) y ns t _ b) _;have e0:(2*((ns.length/2:Nat):Int))=((ns.length:Nat):Int):=by omega
   rw[Jz,qY,af.aH,e0,cw _ (by omega),bq];have:decide (ns.length+1<ns.length)=false:=by simp
   rw[this,bl];have e3:b=(ga (λx=>x.At) ns).map eD:=by
    rw[hI];exact M0 (by rw[jv,wP];exact bC _)
   have e4:(((ns.length:Int)).tmod 2==0)=true:=by
    rw[Ng (by omega)];simp;omega
   rw[e3,e4];exact ah.ret rfl) 0 [] (by omega) (by simp)
 simpa using h
theorem Q9 {y:ab} {ns:List af} {t:List UInt8} (he:y.aq.aw.Names.length=ns.length) (hl:ns.length<=2097152):(il Pu) y ns t [] 0=some (⟨51,t,0,y.At,(dw (λn=>!(n.Kind==50&&n.At==y.At)) 0 0 ns).map (ep y.aq.aw.Names)⟩,true):=by
 have key:∀m i:Nat,i+m=ns.length->∀b:List af,b.length<=i->(il Pu) y ns t b (i:Int)=some (⟨51,t,0,y.At,b++(dw (λn=>!(n.Kind==50&&n.At==y.At)) 0 i (ns.drop i)).map (ep y.aq.aw.Names)⟩,true):=by
  intro m
  induction m with
  |zero=>
   intro i hi b hb;have:i=ns.length:=by omega
   subst this;rw[xD,nF,af.aH,bq,List.drop_length];have:decide (ns.length<ns.length)=false:=by simp
   rw[this,bl];simp[dw]
  |succ m im=>
   intro i hi b hb;obtain⟨x,hx⟩:=bu (l:=ns) (i:=i) (by omega);obtain⟨s,hs⟩:=bu (l:=y.aq.aw.Names) (i:=i) (by omega);rw[xD,nF,af.aH,bq];have:decide (i<ns.length)=true:=by simp;omega
   have hlen:decide ((b++[({Kind:=52,Text:=s,N:=0,At:=0,Kids:=[x]}:af)]).length<=274877906944)=true:=by simp;omega
   rw[this,a6,bw hx,aE,bw hs,aE,hlen,a6,cw i (by omega),mn hx,dw];have hent:ep y.aq.aw.Names (i,0,x)=⟨52,s,0,0,[x]⟩:=by simp[ep,hs]
   have aX:=im (i+1) (by omega) (b++[⟨52,s,0,0,[x]⟩]) (by simp;omega);have drop:=im (i+1) (by omega) b (by omega);cases h1:x.Kind==50 with
   |false=>
    have:(x.Kind !=50)=true:=by simp[bne,h1]
    rw[this,a6,Bool.false_and,vx,a6,dA,hent,aX];simp
   |true=>
    have:(x.Kind !=50)=false:=by simp[bne,h1]
    rw[this,bl,Bool.true_and];cases h2:x.At==y.At with
    |false=>
     have:(x.At !=y.At)=true:=by simp[bne,h2]
     rw[this,a6,vx,a6,dA,hent,aX];simp
    |true=>
     have:(x.At !=y.At)=false:=by simp[bne,h2]
     rw[this,bl,pY,bl,drop]
 simpa using key ns.length 0 (by omega) [] (by simp)
theorem Qc {y:ab} {ns:List af} {t:List UInt8} (he:y.aq.aw.Names.length=ns.length) (hl:ns.length<=2097152):(lO Pu) y ns t ns 0=some (⟨51,t,0,y.At,(dw (λ_=>true) y.At 0 ns).map (ep y.aq.aw.Names)⟩,true):=by
 refine ah.of ?_;have hE:∀(j:Nat) x s,ns[j]? =some x->y.aq.aw.Names[j]? =some s->((dw (λ_=>true) y.At 0 ns).map (ep y.aq.aw.Names))[j]? =some ⟨52,s,0,y.At,[x]⟩:=λj x s h1 h2=>by
  rw[pU,H7,h1];simp[ep,h2]
 have hEl:((dw (λ_=>true) y.At 0 ns).map (ep y.aq.aw.Names)).length=ns.length:=by
  have key:∀(ns:List af) (i:Nat),(dw (λ_=>true) y.At i ns).length=ns.length:=by
   intro ns;induction ns with
   |nil=>intro i;rfl
   |cons n r ih=>intro i;rw[dw,a6,eG,ih,eG]
  rw[jv,key]
 have h:=iU (L:=λi (b:List af)=>(lO Pu) y ns t b i) (P:=(·=(⟨51,t,0,y.At,(dw (λ_=>true) y.At 0 ns).map (ep y.aq.aw.Names)⟩,true))) (len:=ns.length) (λi b=>b.length=ns.length/\∀j:Nat,b[j]? =if j<i then((dw (λ_=>true) y.At 0 ns).map (ep y.aq.aw.Names))[j]? else ns[j]?) (λi b hi hI k=>by
   show ah ((lO Pu) y ns t b _) _;obtain⟨x,hx⟩:=bu hi;obtain⟨s,hs⟩:=bu (l:=y.aq.aw.Names) (i:=i) (by omega);have hb:b[i]? =some x:=by rw[hI.2 i,bI (by omega),hx]
   rw[JA,qZ,af.aH,bq];have:decide (i<ns.length)=true:=by simpa using hi
   rw[this,a6,bw hs,aE,bw hb,aE,aE,iR,cw i (by omega)];refine k _ ⟨by simp[hI.1],λj=>?_⟩;by_cases e:j=i
   ·subst e;rw[ss (by omega),ck (by omega),hE j x s hx hs]
   ·rw[pV (by omega),hI.2 j];by_cases h1:j<i
    ·rw[ck h1,ck (by omega)]
    ·rw[bI h1,bI (by omega)]) (λb hI=>by
   show ah ((lO Pu) y ns t b _) _;rw[JA,qZ,af.aH,bq];have:decide (ns.length<ns.length)=false:=by simp
   rw[this,bl];have e3:b=(dw (λ_=>true) y.At 0 ns).map (ep y.aq.aw.Names):=FE λj=>by
    rw[hI.2 j];by_cases h1:j<ns.length
    ·rw[ck h1]
    ·rw[bI h1,pX (by omega),pX (by omega)]
   rw[e3];exact ah.ret rfl) 0 ns (by omega) ⟨rfl,λj=>by rw[bI (by omega)]⟩
 exact h
theorem W.kids {l:ai} {ps:List TParam} {y:ab} {w:ay} (h:W l ps y w):∀k∈y.Kids,∃w',W l ps k w':=by
 cases h with
 |gW _ _ _ h1 _=>exactλk hk=>⟨_,h1 k hk⟩
 |map _ _ _ _ h1 h2=>
  intro k hk;obtain⟨q,g1,g2⟩:=eU.1 hk;simp at g2;rcases g2 with rfl|rfl
  ·exact⟨_,h1 q g1⟩
  ·exact⟨_,h2 q g1⟩
 |gG _ _ _ hl h1=>
  intro k hk;obtain⟨i,hi⟩:=jW hk;obtain⟨p,hp⟩:=bu (i:=i) (by rw[<-hl];exact(cX.1 hi).1);exact⟨_,h1 i k p hi hp⟩
 |iH _ h1 h2 h3=>intro k hk;simp only[cu,jY,or_false]at hk;rcases hk with rfl|rfl|rfl;exact⟨_,h1⟩;exact⟨_,h2⟩;exact⟨_,h3⟩
 |ku _ h1 h2 h3=>intro k hk;simp only[cu,jY,or_false]at hk;rcases hk with rfl|rfl|rfl;exact⟨_,h1⟩;exact⟨_,h2⟩;exact⟨_,h3⟩
 |kv _ h1 h2 h3=>intro k hk;simp only[cu,jY,or_false]at hk;rcases hk with rfl|rfl|rfl;exact⟨_,h1⟩;exact⟨_,h3⟩;exact⟨_,h2⟩
 |write h1 h2 h3 _=>intro k hk;simp only[cu,jY,or_false]at hk;rcases hk with rfl|rfl|rfl;exact⟨_,h1⟩;exact⟨_,h2⟩;exact⟨_,h3⟩
 |_=>
  intro k hk
  first
   |(simp at hk;done)
   |(simp only[cu,jY,or_false]at hk;subst hk;apply Exists.intro;assumption)
   |(simp only[cu,jY,or_false]at hk;rcases hk with rfl|rfl<;>(apply Exists.intro;assumption))
theorem BI {D β:Type} {P:D->β->Prop}:∀{l:List D},(∀k∈l,∃n,P k n)->∃ns:List β,l.length=ns.length/\∀(i:Nat) k n,l[i]? =some k->ns[i]? =some n->P k n
 |[],_=>⟨[],rfl,by simp⟩
 |x::l,h=>by
  obtain⟨n,hn⟩:=h x (by simp);obtain⟨ns,h1,h2⟩:=BI (l:=l) λk hk=>h k (by simp[hk]);refine⟨n::ns,by simp[h1],λi k m g1 g2=>?_⟩;cases i with
  |zero=>simp only[mf,ax]at g1 g2;subst g1;subst g2;exact hn
  |succ i=>exact h2 i k m (by simpa using g1) (by simpa using g2)
theorem Q6:∀q∈dS,(jm Pu) q.1=some (q.2,2)/\(jN Pu) q.1=some q.2/\q.2≠0/\q.2≠42/\q.1≠24/\q.1≠25/\q.1≠19:=by
 intro q hq;simp only[dS,cu,jY,or_false]at hq;rcases hq with rfl|rfl|rfl|rfl|rfl|rfl|rfl|rfl|rfl|rfl|rfl<;>refine⟨by rw[ll,iK];rfl,by rw[yH,nT];rfl,by decide⟩
theorem Q7:∀q∈eg,(jm Pu) q.1=some (0,0)/\(lk Pu) q.1=some q.2/\(jN Pu) q.1=some 0/\(eo Pu) q.1=some q.2/\q.1≠24/\q.1≠25/\(q.2==[])=false:=by
 intro q hq;simp only[eg,cu,jY,or_false]at hq;rcases hq with rfl|rfl|rfl|rfl|rfl|rfl|rfl|rfl|rfl|rfl|rfl|rfl<;>refine⟨by rw[ll,iK];rfl,by rw[Fp,pM];rfl,by rw[yH,nT];rfl,by rw[EB,pE];rfl,by decide⟩
section
variable {ps:List TParam}
theorem Ra {y:ab} (h:y.Kids≠[]\/(y.Op≠1/\y.Op≠2/\y.Op≠3/\y.Op≠4)):∃z,(se Pu) ps y=some (z,false):=by
 rw[pS,lj,ab.aH];by_cases h0:y.Kids=[]
 ·have h:=h.resolve_left (λg=>g h0);have e1:(y.Op==1)=false:=by simpa using h.1
  have e2:(y.Op==2)=false:=by simpa using h.2.1
  have e3:(y.Op==3)=false:=by simpa using h.2.2.1
  have e4:(y.Op==4)=false:=by simpa using h.2.2.2
  rw[h0,e1,e2,e3,e4];exact⟨_,rfl⟩
 ·have:decide ((y.Kids.length:Int)>0)=true:=by
   have:=z8.2 h0;simp;omega
  rw[this];exact⟨_,rfl⟩
theorem Q5 {y:ab} {ns:List af} (hlf:y.Kids≠[]\/(y.Op≠1/\y.Op≠2/\y.Op≠3/\y.Op≠4)) (hlen:y.Kids.length<=2097152) (hl:y.Kids.length=ns.length) (h:∀(i:Nat) k n,y.Kids[i]? =some k->ns[i]? =some n->(mc Pu) ps k=some (n,true)) (ha:KG ps y ns):∃n,(mc Pu) ps y=some (n,true)/\Br ps y n:=by
 obtain⟨z,e⟩:=Ra (ps:=ps) hlf;obtain⟨n,h1,h2⟩:=ha;refine⟨n,?_,h2⟩;rw[Fq,pN,e];show(gy Pu) ps y false 0 []=_;rw[Ph hlen hl h,h1]
theorem Qa {y:ab} {ns:List af} (hlen:y.Kids.length<=2097152) (hl:y.Kids.length=ns.length) (h:∀(i:Nat) k n,y.Kids[i]? =some k->ns[i]? =some n->(oc Pu) ps k=some (n,true)) (ha:J2 ps y ns):∃n,(oc Pu) ps y=some (n,true)/\Br ps y n:=by
 obtain⟨n,h1,h2⟩:=ha;refine⟨n,?_,h2⟩;rw[MP,pR,OC hlen hl h,h1]
theorem oE {y:ab} {ns:List af} {kd m:Int} (ho:(jm Pu) y.Op=some (kd,m)) (h0:kd≠0) (h42:kd≠42) (hm:m=(y.Kids.length:Int)):(gy Pu) ps y false (y.Kids.length:Int) ns=some (⟨kd,[],0,y.At,ns⟩,true):=by
 rw[sW,ho,aE];have e1:(kd !=0)=true:=by simpa using h0
 have e2:(kd==42)=false:=by simpa using h42
 have e3:(m !=(y.Kids.length:Int))=false:=by simpa using hm
 show(bif kd !=0 then(bif m !=(y.Kids.length:Int)then _ else bif kd==42 then _ else _)else _)=_;rw[e1,e2,e3];rfl
theorem vV {y:ab} {ns:List af} {s:List UInt8} (ho:(jm Pu) y.Op=some (0,0)) (hs:(lk Pu) y.Op=some s) (h24:y.Op≠24) (h25:y.Op≠25) (hne:(s==[])=false):(gy Pu) ps y false (y.Kids.length:Int) ns=some (⟨51,s,0,y.At,ns⟩,true):=by
 rw[sW,ho,aE];have e1:(y.Op==24)=false:=by simpa using h24
 have e2:(y.Op==25)=false:=by simpa using h25
 show(((lk Pu) y.Op).bind _)=_;rw[hs,aE,e1,e2,hne];rfl
theorem gK {y:ab} {ns:List af}:(jI Pu) ps y false (y.Kids.length:Int) ns=(((jN Pu) y.Op).bind λy14=>(bif y14 !=0 then(some (({Kind:=y14,Text:=[],N:=0,At:=y.At,Kids:=ns:af},(ns.length:Int)==2)))else(((eo Pu) y.Op).bind λy16=>(bif !y16==[]then(bif y.Op==24 then((mr Pu) y ns y16 0 [])else(bif y.Op==25 then(bif (y.aq.aw.Names.length:Int) !=(ns.length:Int)then(some (({Kind:=51,Text:=y16,N:=0,At:=y.At,Kids:=ns:af},false)))else((lO Pu) y ns y16 ns 0))else(some (({Kind:=51,Text:=y16,N:=0,At:=y.At,Kids:=ns:af},true)))))else(bif y.Op==1 then(bif (ns.length:Int)==0 then(bif decide (y.N>= -1000000000000000)then(some (({Kind:=44,Text:=[],N:=y.N,At:=y.At,Kids:=ns:af},decide (y.N<=1000000000000000))))else(some (({Kind:=44,Text:=[],N:=y.N,At:=y.At,Kids:=ns:af},false))))else(some (({Kind:=44,Text:=[],N:=y.N,At:=y.At,Kids:=ns:af},false))))else(bif y.Op==2 then(bif y.N==1 then(some (({Kind:=45,Text:=[],N:=0,At:=y.At,Kids:=ns:af},(ns.length:Int)==0)))else(some (({Kind:=46,Text:=[],N:=0,At:=y.At,Kids:=ns:af},(ns.length:Int)==0))))else(bif y.Op==3 then(bif (ns.length:Int)==0 then(((sj Pu) y.Text).bind λy56=>(some (({Kind:=47,Text:=y.Text,N:=0,At:=y.At,Kids:=ns:af},y56))))else(some (({Kind:=47,Text:=y.Text,N:=0,At:=y.At,Kids:=ns:af},false))))else(bif y.Op==4 then(bif decide (y.N<0)then(some (({Kind:=0,Text:=[],N:=0,At:=y.At,Kids:=ns:af},false)))else(bif decide (y.N>=(ps.length:Int))then(some (({Kind:=0,Text:=[],N:=0,At:=y.At,Kids:=ns:af},false)))else((aA ps (y.N)).bind λx60=>(some (({Kind:=48,Text:=x60.Name,N:=0,At:=y.At,Kids:=ns:af},(ns.length:Int)==0))))))else(bif y.Op==5 then(some (({Kind:=49,Text:=[],N:=0,At:=y.At,Kids:=ns:af},(ns.length:Int)==0)))else(bif y.Op==6 then(some (({Kind:=50,Text:=[],N:=0,At:=y.At,Kids:=ns:af},(ns.length:Int)==0)))else(bif y.Op==7 then(some (({Kind:=30,Text:=[],N:=0,At:=y.At,Kids:=ns:af},(ns.length:Int)==3)))else(bif y.Op==10 then(some (({Kind:=33,Text:=[],N:=0,At:=y.At,Kids:=ns:af},(ns.length:Int)==1)))else(bif y.Op==19 then(bif (ns.length:Int) !=1 then(some (({Kind:=0,Text:=[],N:=0,At:=y.At,Kids:=ns:af},false)))else(bif decide (y.N<0)then(some (({Kind:=0,Text:=[],N:=0,At:=y.At,Kids:=ns:af},false)))else((aA (y.Kids) (0)).bind λx69=>(bif decide (y.N>=(x69.aq.aw.Names.length:Int))then(some (({Kind:=0,Text:=[],N:=0,At:=y.At,Kids:=ns:af},false)))else((aA (y.Kids) (0)).bind λx72=>((aA (x72.aq.aw.Names) (y.N)).bind λx74=>(some (({Kind:=42,Text:=x74,N:=0,At:=y.At,Kids:=ns:af},true)))))))))else(some (({Kind:=0,Text:=[],N:=0,At:=y.At,Kids:=ns:af},false)))))))))))))))):=by
 rw[JB,q0,ab.aH,bq];have:decide (y.Kids.length<y.Kids.length)=false:=by simp
 rw[this,bl,af.aH,TParam.aH];simp only[eh]
theorem OB {y:ab} {ns:List af} {kd:Int} (hb:(jN Pu) y.Op=some kd) (h0:kd≠0) (h2:ns.length=2):(jI Pu) ps y false (y.Kids.length:Int) ns=some (⟨kd,[],0,y.At,ns⟩,true):=by
 rw[gK,hb,aE,h2];have e1:(kd !=0)=true:=by simpa using h0
 rw[e1];rfl
theorem vO {y:ab} {ns:List af} {s:List UInt8} (hb:(jN Pu) y.Op=some 0) (hs:(eo Pu) y.Op=some s) (h24:y.Op≠24) (h25:y.Op≠25) (hne:(s==[])=false):(jI Pu) ps y false (y.Kids.length:Int) ns=some (⟨51,s,0,y.At,ns⟩,true):=by
 rw[gK,hb,aE];have e1:(y.Op==24)=false:=by simpa using h24
 have e2:(y.Op==25)=false:=by simpa using h25
 show(((eo Pu) y.Op).bind _)=_;rw[hs,aE,hne,e1,e2];rfl
theorem Q8 (op:Int) (h:op=1\/op=2\/op=3\/op=4\/op=5\/op=6\/op=7\/op=10\/op=19):(jN Pu) op=some 0/\(eo Pu) op=some []:=by
 rcases h with rfl|rfl|rfl|rfl|rfl|rfl|rfl|rfl|rfl<;>exact⟨by rw[yH,nT];rfl,by rw[EB,pE];rfl⟩
theorem tp (op:Int) (s:List UInt8) (h:(op,s)=(23,uX)\/(op,s)=(24,dR)\/(op,s)=(25,dv)\/(op,s)=(26,xU)\/(op,s)=(28,xI)):(jm Pu) op=some (0,0)/\(lk Pu) op=some s/\(jN Pu) op=some 0/\(eo Pu) op=some s:=by
 rcases h with h|h|h|h|h<;>cases h<;>exact⟨by rw[ll,iK];rfl,by rw[Fp,pM];rfl,by rw[yH,nT];rfl,by rw[EB,pE];rfl⟩
