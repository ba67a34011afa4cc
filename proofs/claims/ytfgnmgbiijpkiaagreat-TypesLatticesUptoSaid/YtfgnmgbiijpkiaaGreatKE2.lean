/- Calls that write what they are handed: one entry of own memory, told before and after. -/
import Derived.Test.YtfgnmgbiijpkiaaGreatKE1
set_option linter.all false
noncomputable section
namespace Go.Bw
open Go
inductive fu where
 |box (us:List AV)
 |row (e k:Nat) (rows:List (List AV))
 |jL (l:List Int)
def fu.c:fu->bm
 | .box us=> .box (us.map .d)
 | .row e k rows=> .row e k rows
 | .jL l=> .jL l
inductive dc:bm->fu->Prop where
 |box {cs:List CV} {us0 us:List AV}:fq cs=some us0->bZ us0 us->dc (.box cs) (.box us)
 |row {e k:Nat} {rows0 rows:List (List AV)}:dm rows0 rows->dc (.row e k rows0) (.row e k rows)
 |jL {l:List Int}:dc (.jL l) (.jL l)
def ub (y:AV) (e':fu):DR->Hp->Prop
 | .ret x,O=>(match e' with
  | .box us=>∃cs z zs ns ms,O.e.get 0=some (.box cs)/\b5 O.e 60 (x::cs)=some (z::zs,ns,ms)/\eqs ns/\(ms.all λp=>Nat.blt 0 p.1)=true/\b4 z y/\bZ zs us
  | .row e k rows=>∃rows0 z ns ms,O.e.get 0=some (.row e k rows0)/\b5 O.e 60 [x]=some ([z],ns,ms)/\eqs ns/\(ms.all λp=>Nat.blt 0 p.1)=true/\b4 z y/\dm rows0 rows
  | .jL l=>∃l0 z ns ms,O.e.get 0=some (.jL l0)/\b5 O.e 60 [x]=some ([z],ns,ms)/\eqs ns/\(ms.all λp=>Nat.blt 0 p.1)=true/\b4 z y/\l0=l)
 | .aO _,_=>False
def dk (E:Env) (g:FuncId) (args:List CV) (e:fu) (y:AV) (e':fu):Prop:=eh E g args (gF [e.c]) (ub y e')
def rE (i:Nat):CV->Option CV
 | .d x=>some (.d x)
 | .own t o=>match Nat.beq t i with
  |true=>some (.own 0 o)
  |false=>none
 | .os t n=>match Nat.beq t i with
  |true=>some (.os 0 n)
  |false=>none
 | .oe t n o=>match Nat.beq t i with
  |true=>some (.oe 0 n o)
  |false=>none
 | .agg [.om t]=>match Nat.beq t i with
  |true=>some (.agg [.om 0])
  |false=>none
 |_=>none
def mg (i:Nat):List CV->Option (List CV)
 |[]=>some []
 |x::xs=>match rE i x,mg i xs with
  |some y,some ys=>some (y::ys)
  |_,_=>none
def aH.one (L:aH) (i:Nat):aH:=⟨λt=>if t=0 then L.b i else none,λt n=>if t=0 then L.s i n else none⟩
theorem Wf {L:aH} {i:Nat} {x y:CV} {u:AV} (h:rE i x=some y) (hi:aI L x u):aI (L.one i) y u:=by
 cases x with
 |d z=>simp only[rE,aE]at h;subst h;exact hi
 |own t o=>
  simp only[rE]at h;split at h
  ·rename_i hb;cases h;have:=bE hb;subst this;simp only[aI]at hi⊢;obtain⟨b,t',h1,h2⟩:=hi;exact⟨b,t',by simpa[aH.one]using h1,h2⟩
  ·cases h
 |os t n=>
  simp only[rE]at h;split at h
  ·rename_i hb;cases h;have:=bE hb;subst this;simp only[aI]at hi⊢;obtain⟨a,c,t',h1,h2⟩:=hi;exact⟨a,c,t',by simpa[aH.one]using h1,h2⟩
  ·cases h
 |oe t n o=>
  simp only[rE]at h;split at h
  ·rename_i hb;cases h;have:=bE hb;subst this;simp only[aI]at hi⊢;obtain⟨a,c,t',h1,h2⟩:=hi;exact⟨a,c,t',by simpa[aH.one]using h1,h2⟩
  ·cases h
 |agg xs=>
  rcases xs with _|⟨x,_|⟨x2,r⟩⟩
  ·cases h
  ·cases x with
   |om t=>
    simp only[rE]at h;split at h
    ·rename_i hb;cases h;have:=bE hb;subst this;simp only[aI,aS]at hi⊢;obtain⟨ys,rfl,y,r,rfl,⟨b,t',h1,rfl⟩,rfl⟩:=hi;exact⟨_,rfl,_,_,rfl,⟨b,t',by simpa[aH.one]using h1,rfl⟩,rfl⟩
    ·cases h
   |_=>cases h
  ·cases x<;>cases h
 |_=>cases h
theorem CT {L:aH} {i:Nat}:∀{xs ys:List CV} {us:List AV},mg i xs=some ys->aS L xs us->aS (L.one i) ys us
 |[],ys,us,h,hi=>by simp only[mg,aE]at h;subst h;exact hi
 |x::xs,ys,us,h,hi=>by
  simp only[mg]at h;split at h
  ·rename_i y ys' h1 h2;cases h;simp only[aS]at hi⊢;obtain⟨u,r,rfl,h3,h4⟩:=hi;exact⟨u,r,rfl,Wf h1 h3,CT h2 h4⟩
  ·cases h
theorem yA {L:aH}:∀{cs:List CV} {us ys:List AV},fq cs=some us->aS L cs ys->ys=us
 |[],us,ys,h,hi=>by simp only[fq,aE]at h;subst h;exact hi
 |c::cs,us,ys,h,hi=>by
  cases c<;>simp only[fq]at h<;>try cases h
  split at h
  ·rename_i zs h1;cases h;simp only[aS,aI]at hi;obtain⟨u,r,rfl,rfl,h3⟩:=hi;rw[yA h1 h3]
  ·cases h
theorem CU:∀{l:List aq} {i:Nat} {x:aq},nth l i=some x->∃a b,l=a++x::b/\a.length=i
 |[],_,_,h=>by simp[nth]at h
 |y::l,0,x,h=>by simp only[nth,aE]at h;subst h;exact⟨[],l,rfl,rfl⟩
 |y::l,i+1,x,h=>by
  simp only[nth]at h;obtain⟨a,b,rfl,rfl⟩:=CU h;exact⟨y::a,b,rfl,rfl⟩
theorem M6 (a b:List aq) (x:aq):nth (a++x::b) a.length=some x:=by rw[cq];simp
theorem KV {a b:List aq} {x y:aq} {j:Nat} (hj:j≠a.length):nth (a++x::b) j=nth (a++y::b) j:=by
 rw[cq,cq];rcases mz j a.length with h|h
 ·rw[rY h,rY h]
 ·rw[B' h,B' h];obtain⟨m,hm⟩:∃m,j-a.length=m+1:=⟨j-a.length-1,by omega⟩;rw[hm];rfl
section
variable {E:Env} {N K:Nat} {Q:DQ} {Z:TS} {O:Hp} {o:Oper} {all rest:List Oper} {k:List It}
theorem KW {w w':World} {A A':Nat->Prop}:∀{l:List Int} {a:List MapEntry},kD w A (q9 l) a->kD w' A' (q9 l) a
 |[],a,h=>h
 |x::l,a,h=>by
  simp only[q9,dP,kD,Rel]at h⊢;obtain⟨e,r,rfl,h1,h2,h3⟩:=h;exact⟨e,r,rfl,h1,h2,KW (l:=l) h3⟩
theorem dk.frame {g:FuncId} {cs args:List CV} {i:Nat} {ce:bm} {e0 e1:fu} {y:AV} (h:dk E g args e0 y e1) (hr:mg i cs=some args) (hi:O.e.get i=some ce) (hs:dc ce e0):
  eh E g cs O (λr O'=>r= .ret (.d y)/\O'=O.set i e1.c):=λL ys OB hys hh=>by
 obtain⟨x,hx1,hx2⟩:=hh.en i _ hi;obtain⟨l,r,rfl,rfl⟩:=CU hx1
 --the entry in the callee's words
 obtain⟨x0,hx0,hids,hxe⟩:∃x0:aq,k9 (L.one l.length) 0 e0.c x0/\x0.ids=x.ids/\∀w A,x.ok w A->x0.ok w A:=by
  cases hs with
  |box h1 h2=>
   obtain⟨b,cs',h3,rfl,h4⟩:=hx2;rename_i us0 us;have:=yA h1 h4;subst this;refine⟨.box b us,⟨b,us,by simpa[aH.one]using h3,rfl,gA _⟩,rfl,λw A=>?_⟩;rintro ⟨e,vs,h5,h6⟩;exact⟨e,vs,h5,h2.rel h6⟩
  |row h2=>
   obtain⟨⟨a,c,h3,rfl⟩,h4⟩:=hx2;rename_i e k rows0 rows;have hl:=h2.length;refine⟨.row (.slice a rows.length c) e k rows,⟨⟨a,c,by simpa[aH.one,hl]using h3,rfl⟩,λm hm=>by simpa[aH.one]using h4 m (by omega)⟩,by cases a<;>simp[aq.ids,Value.ownBlock],λw A=>?_⟩;rintro ⟨vs,h5,h6⟩;exact⟨vs,h2.rel h5,by rw[hl];exact h6⟩
  |jL=>
   obtain⟨b,h3,rfl⟩:=hx2;exact⟨.map b (q9 _),⟨b,by simpa[aH.one]using h3,rfl⟩,rfl,λ_ _ h=>h⟩
 have hS0:HS (L.one l.length) (gF [e0.c]) [x0]:=by
  refine⟨λt z hz=>?_,rfl,λt ht=>?_⟩
  ·simp only[gF,nG]at hz;rcases Tr.ep 24 .lf 0 t (some e0.c) z hz with⟨rfl,h1⟩|⟨_,h1⟩
   ·cases h1;exact⟨x0,rfl,hx0⟩
   ·simp[Tr.jD]at h1
  ·have:t≠0:=by simp[gF]at ht;omega
   exact⟨by simp[aH.one,this],λn=>by simp[aH.one,this]⟩
 have h0:=h (L.one l.length) ys [x0] (CT hr hys) hS0;refine⟨h0.1,λF w vs hH hR=>?_⟩
 let F0:Nat->Prop:=λb=>F b\/b∈ids l\/b∈ids r
 have hA:∀z:aq,Al F0 [z]=Al F (l++z::r):=λz=>funext λb=>propext (by
  simp only[Al,F0,cn,cF,cJ,show ids []=[]from rfl,iz,not_or];constructor
  ·rintro ⟨⟨a1,a2,a3⟩,a4⟩;exact⟨a1,a2,a4,a3⟩
  ·rintro ⟨a1,a2,a3,a4⟩;exact⟨⟨a1,a2,a4⟩,a3⟩)
 have hAx:Al F0 [x0]=Al F (l++x::r):=by
  rw[hA];funext b;simp only[Al,cn,cF,hids]
 have hnd:=hH.nodup;simp only[cn,cF,iO,cJ]at hnd;have hfr:=hH.free;have hltb:=hH.lt;simp only[cn,cF,cJ]at hfr hltb;have hH0:bD E.toCx.G w F0 [x0]:=by
  refine⟨λz hz=>?_,?_,λb hb=>?_,λb hb=>?_,?_⟩
  ·simp only[nN]at hz;subst hz;rw[hAx];exact hxe _ _ (hH.eD x (by simp))
  ·simp only[ids,u3,JA,iz,hids];exact hnd.2.1.1
  ·simp only[ids,u3,JA,iz,hids]at hb;rintro (hF|hl|hr')
   ·exact hfr b (.inr (.inl hb)) hF
   ·exact hnd.2.2 b hl b (.inl hb) rfl
   ·exact hnd.2.1.2.2 b hb b hr' rfl
  ·rcases hb with hF|hl|hr'
   ·exact hH.bound b hF
   ·exact hltb b (.inl hl)
   ·exact hltb b (.inr (.inr hr'))
  ·rw[hAx];exact hH.dZ
 refine(h0.2 F0 w vs hH0 (by rw[hAx];exact hR)).mono ?_;rintro e w' ⟨r',OB',⟨L',d,η1,h1,h2,h3,h4⟩,hv,hh',hx⟩;cases d with
 |aO z=>exact h4.elim
 |ret z0=>
 obtain⟨u,rfl,h2⟩:=h2;obtain⟨v,rfl,hv⟩:=hv;have h10:=h1 0 (by simp[gF])
 --what is left there
 obtain⟨x',g1,g2,g3,g4,g5⟩:∃x':aq,k9 ⟨λt=>if t=l.length then L'.b 0 else L.b t,λt n=>if t=l.length then L'.s 0 n else L.s t n⟩ l.length e1.c x'/\x'.ok w' (Al F (l++x'::r))/\(∀b∈x'.ids,b∈ids OB')/\x'.ids.Nodup/\Rel w' (Al F (l++x'::r)) y v:=by
  cases e1 with
  |box us=>
   obtain⟨cs',z,zs,ns,ms,q1,q2,q3,q4,q5,q6⟩:=h4;obtain⟨q,hq1,hq2⟩:=h3.en 0 _ q1;obtain⟨b,us',hb,rfl,hi'⟩:=hq2;obtain⟨e',vs',hheap,hvs⟩:=gG hh' hq1;obtain⟨f1,_⟩:=gV h3 hh' (ms.map (·.1)) 60 q2 q3 (λp hp=>cP.2 ⟨p,hp,rfl⟩) (by simp only[aS];exact⟨u,us',rfl,h2,hi'⟩) (vs:=v::vs') (by simp only[aJ];exact⟨v,vs',rfl,hv,hvs⟩);have hk:cL w' (eR F0 OB' (ms.map (·.1))) w' (Al F (l++(aq.box b us)::r)):=⟨bQ _,λb' _ hb'=>⟨by
    rw[<-hA];refine⟨hb'.1,?_⟩;have:=hb'.2 0 _ hq1 (λhm=>by
     obtain⟨p,hp,hp0⟩:=cP.1 hm;have:=iA.1 q4 p hp;rw[hp0]at this;simp at this)
    simpa[ids,aq.ids]using this,rfl⟩⟩
   simp only[aJ]at f1;obtain⟨v1,vs1,e1',f2,f3⟩:=f1;simp only[lC]at e1';obtain⟨rfl,rfl⟩:=e1';exact⟨.box b us,⟨b,us,by simpa using hb,rfl,gA _⟩,⟨e',vs',hheap,q6.rel (f3.keep hk)⟩,λb' hb'=>ef.2 ⟨_,bw (by rw[<-cq];exact hq1),by simpa[aq.ids]using hb'⟩,by simp[aq.ids],q5 _ _ _ (f2.keep hk)⟩
  |row e k rows=>
   obtain⟨rows0,z,ns,ms,q1,q2,q3,q4,q5,q6⟩:=h4;obtain⟨q,hq1,hq2⟩:=h3.en 0 _ q1;obtain⟨⟨a,c,hb,rfl⟩,hm⟩:=hq2;have hl:=q6.length;obtain⟨vs',f4,f5⟩:=gG hh' hq1;obtain⟨f1,_⟩:=gV h3 hh' (ms.map (·.1)) 60 q2 q3 (λp hp=>cP.2 ⟨p,hp,rfl⟩) (by simp only[aS];exact⟨u,[],rfl,h2,rfl⟩) (vs:=[v]) (by simp only[aJ];exact⟨v,[],rfl,hv,rfl⟩);have hk:cL w' (eR F0 OB' (ms.map (·.1))) w' (Al F (l++(aq.row (.slice a rows.length c) e k rows)::r)):=⟨bQ _,λb' _ hb'=>⟨by
    rw[<-hA];refine⟨hb'.1,?_⟩;have:=hb'.2 0 _ hq1 (λhm=>by
     obtain⟨p,hp,hp0⟩:=cP.1 hm;have:=iA.1 q4 p hp;rw[hp0]at this;simp at this)
    cases a with|none=>simp[ids,aq.ids,Value.ownBlock]|some a=>simpa[ids,aq.ids,Value.ownBlock]using this,rfl⟩⟩
   simp only[aJ]at f1;obtain⟨v1,vs1,e1',f2,f3⟩:=f1;simp only[lC]at e1';obtain⟨rfl,rfl⟩:=e1';refine⟨.row (.slice a rows.length c) e k rows,⟨⟨a,c,by simpa[hl]using hb,rfl⟩,λm hm'=>by simpa using hm m (by omega)⟩,⟨vs',(q6.rel f4).keep ⟨bQ _,λb' hb' ha=>hk.2 b' hb' (AI _ ha)⟩,by rw[hl];exact f5⟩,λb' hb'=>ef.2 ⟨_,bw (by rw[<-cq];exact hq1),by cases a with|none=>simp[aq.ids,Value.ownBlock]at hb'|some a=>simpa[aq.ids,Value.ownBlock]using hb'⟩,?_,q5 _ _ _ (f2.keep hk)⟩;simp only[aq.ids];cases (Value.slice a rows.length c).ownBlock<;>simp
  |jL l1=>
   obtain⟨l0,z,ns,ms,q1,q2,q3,q4,q5,rfl⟩:=h4;obtain⟨q,hq1,hq2⟩:=h3.en 0 _ q1;obtain⟨b,hb,rfl⟩:=hq2;obtain⟨a,clock,hheap,hr,hnd',hlt'⟩:=gG hh' hq1;obtain⟨f1,_⟩:=gV h3 hh' (ms.map (·.1)) 60 q2 q3 (λp hp=>cP.2 ⟨p,hp,rfl⟩) (by simp only[aS];exact⟨u,[],rfl,h2,rfl⟩) (vs:=[v]) (by simp only[aJ];exact⟨v,[],rfl,hv,rfl⟩);have hk:cL w' (eR F0 OB' (ms.map (·.1))) w' (Al F (l++(aq.map b (q9 l0))::r)):=⟨bQ _,λb' _ hb'=>⟨by
    rw[<-hA];refine⟨hb'.1,?_⟩;have:=hb'.2 0 _ hq1 (λhm=>by
     obtain⟨p,hp,hp0⟩:=cP.1 hm;have:=iA.1 q4 p hp;rw[hp0]at this;simp at this)
    simpa[ids,aq.ids]using this,rfl⟩⟩
   simp only[aJ]at f1;obtain⟨v1,vs1,e1',f2,f3⟩:=f1;simp only[lC]at e1';obtain⟨rfl,rfl⟩:=e1';exact⟨.map b (q9 l0),⟨b,by simpa using hb,rfl⟩,⟨a,clock,hheap,KW hr,hnd',hlt'⟩,λb' hb'=>ef.2 ⟨_,bw (by rw[<-cq];exact hq1),by simpa[aq.ids]using hb'⟩,by simp[aq.ids],q5 _ _ _ (f2.keep hk)⟩
 have hnew:∀b∈x'.ids,b∈x.ids\/w.heap.size<=b:=λb hb=>(hx.new b (g3 b hb)).imp (λhb=>by simpa[ids,hids]using hb) id;have hblk:∀b,b<w.heap.size->b∉x.ids->w'.heap[b]? =w.heap[b]? :=λb hb hn=>hx.block b hb (by simpa[ids,hids]using hn);have hset:∀(t:Nat),t≠l.length->∀n,(λ(t n:Nat)=>if t=l.length then L'.s 0 n else L.s t n) t n=L.s t n:=λt ht n=>by simp[ht]
 have hle:L.le ⟨λt=>if t=l.length then L'.b 0 else L.b t,λt n=>if t=l.length then L'.s 0 n else L.s t n⟩:=by
  refine⟨λt b hb=>?_,λt n b hb=>?_⟩
  ·by_cases ht:t=l.length
   ·subst ht;simp only[if_true];exact h10.1 b (by simpa[aH.one]using hb)
   ·simp only[ht,if_false];exact hb
  ·by_cases ht:t=l.length
   ·subst ht;simp only[if_true];exact h10.2 n b (by simpa[aH.one]using hb)
   ·simp only[ht,if_false];exact hb
 have hlen:l.length<O.n:=by have:=hh.len;simp at this;omega
 refine⟨.ret y,l++x'::r,⟨_,.ret (.d y),O.set l.length e1.c,hle.toK _,⟨y,rfl,rfl⟩,⟨λt z hz=>?_,?_,λt ht=>?_⟩,rfl,rfl⟩,⟨v,rfl,g5⟩,hH.rU hx.size hblk hnew g4 g2,⟨hx.os,hx.tape,hx.output,hx.size,λb hb hn=>hblk b hb (λhm=>hn (by simp only[cn,cF,cJ];exact .inr (.inl hm))),λb hb=>?_,hx.drawn⟩⟩
 ·simp only[Hp.set]at hz;rcases Tr.ep 24 O.e l.length t (some e1.c) z hz with⟨rfl,q1⟩|⟨hne,q1⟩
  ·cases q1;exact⟨x',M6 _ _ _,g1⟩
  ·obtain⟨z',q2,q3⟩:=hh.en t z q1;exact⟨z',by rw[KV hne];exact q2,q3.mono hle (by funext n;exact hset t hne n)⟩
 ·have:=hh.len;simpa[Hp.set]using this
 ·simp only[Hp.set]at ht;have hne:t≠l.length:=by omega
  simp only[hne,if_false];exact hh.fJ t ht
 ·simp only[cn,cF,cJ]at hb⊢;rcases hb with hb|hb|hb
  ·exact .inl (.inl hb)
  ·rcases hnew b hb with hb|hb
   ·exact .inl (.inr (.inl hb))
   ·exact .inr hb
  ·exact .inl (.inr (.inr hb))
theorem ak.ib {dst:Option Nat} {f:Operand} {args:List Operand} {g:FuncId} {cs xs xs':List CV} {ce:bm} {e0 e1:fu} {y:AV} {tys:Array TypeId} {ty:TypeId} {pos:String} {after:Array Edge} (i:Nat)
  (h:dk E g xs e0 y e1) (hc:cT Z f args=some (g,cs)) (hr:mg i cs=some xs') (hx:xs'=xs) (hi:O.e.get i=some ce) (hs:dc ce e0) (hd:ck N dst=true)
  (k1:ak E N K (.ops all rest::k) Q (bW Z dst (.d y)) (O.set i e1.c)):
  ak E N K (.ops all (⟨dst,.call {callee:= .value f,args:=args.toArray,argTypes:=tys},ty,pos,after,none⟩::rest)::k) Q Z O:=by
 subst hx;exact DO.call (h.frame hr hi hs) hc hd (λx O' hq=>by obtain⟨e,rfl⟩:=hq;cases e;exact k1) (λx O' hq=>by cases hq.1)
def pH (ty:Nat) (z:AV):Option (Int×Int):=match z with
 | .bB t (.agg [.v (.int .i64 a),.v (.int .i64 b)])=>bif Nat.beq t ty then some (a,b)else none
 |_=>none
theorem Vb {ty:Nat} {z:AV} {p:Int×Int} (h:pH ty z=some p):z= .bB ty (.agg [.v (.int .i64 p.1),.v (.int .i64 p.2)]):=by
 unfold pH at h;split at h
 ·rename_i t a b;cases hb:Nat.beq t ty with
  |false=>rw[hb]at h;cases h
  |true=>rw[hb]at h;cases h;rw[bE hb]
 ·cases h
def fx {D β:Type} (ty:Nat) (o:Option (aX D)) (g:Int->Int->Option β) (f:D->Option β):Option β:=match o with
 |some (.ret x)=>f x
 |some (.aO z)=>(pH ty z).bind λp=>g p.1 p.2
 |none=>none
theorem Xa {D β:Type} {ty:Nat} {o:Option (aX D)} {g:Int->Int->Option β} {f:D->Option β} {r:β} (h:fx ty o g f=some r):(∃a b,o=some (.aO (.bB ty (.agg [.v (.int .i64 a),.v (.int .i64 b)])))/\g a b=some r)\/∃x,o=some (.ret x)/\f x=some r:=by
 cases o with
 |none=>cases h
 |some x=>cases x with
  |ret x=>exact .inr ⟨x,rfl,h⟩
  |aO z=>
   obtain⟨p,h1,h2⟩:=fb h;rw[Vb h1];exact .inl ⟨p.1,p.2,rfl,h2⟩
theorem ak.Xb {dst dst':Option Nat} {f:Operand} {args:List Operand} {g:FuncId} {cs:List CV} {xs' xs:List AV} {ns:List (Nat×Nat)} {ms:List (Nat×bm)} {ty':Nat} {a b:Int} {N' K':Nat} {σ':TS} {k':List It} {tys:Array TypeId} {ty:TypeId} {pos:String} {after:Array Edge} (h:Pure E.toCx g xs (.aO (.bB ty' (.agg [.v (.int .i64 a),.v (.int .i64 b)])))) (hc:cT Z f args=some (g,cs)) (hf:b5 O.e 60 cs=some (xs',ns,ms)) (hn:eqs ns) (hi:bZ xs' xs) (hl:ms=[]\/cU (.bB ty' (.agg [.v (.int .i64 a),.v (.int .i64 b)]))=true)
  (hp:jF k=some (N',K',σ',dst',ty',k')) (hq:ak E N' K' k' Q (bW σ' dst' (.d (.agg [.v (.int .i64 a),.v (.int .i64 b)]))) O):ak E N K (.ops all (⟨dst,.call {callee:= .value f,args:=args.toArray,argTypes:=tys},ty,pos,after,none⟩::rest)::k) Q Z O:=by
 show DO E N K all _ (dq E N K k Q) Z O;exact DO.sY 60 h hc hf hn hi hl (mS (y:= .agg [.v (.int .i64 a),.v (.int .i64 b)]) (.inr rfl) rfl k N K hp hq)
theorem bM.ib {f:Operand} {args:List Operand} {g:FuncId} {cs xs xs':List CV} {ce:bm} {e0 e1:fu} {y:AV} {tys:Array TypeId} (i:Nat) (ho:o.op= .call {callee:= .value f,args:=args.toArray,argTypes:=tys})
  (h:dk E g xs e0 y e1) (hc:cT Z f args=some (g,cs)) (hr:mg i cs=some xs') (hx:xs'=xs) (hi:O.e.get i=some ce) (hs:dc ce e0):bM E N o Z O (λr O'=>r= .ret (.d y)/\O'=O.set i e1.c):=by
 subst hx;exact bM.call ho (h.frame hr hi hs) hc
theorem ak.iD {l:List (Nat×Oper×TK)} {A:bR} {pend:List (Nat×Oper×CV)} {fs:List (Nat×List AV×AV)} {j:Nat} {σ1:TS} {η1:Hp} {f:Operand} {args:List Operand} {g:FuncId} {cs xs xs':List CV} {ce:bm} {e0 e1:fu} {y:AV} {tys:Array TypeId} (i:Nat) (hp:aG E N all pend Z O) (hnd:e9 ((dB (cd all.toArray j A)).map (·.1))=true) (hd:ck N o.dst=true) (cz:eJ (dB (cd all.toArray j A)) Z O=(σ1,η1)) (hw:cC all o σ1=some true)
  (ho:o.op= .call {callee:= .value f,args:=args.toArray,argTypes:=tys}) (h:dk E g xs e0 y e1) (hc:cT σ1 f args=some (g,cs)) (hr:mg i cs=some xs') (hx:xs'=xs) (hi:η1.e.get i=some ce) (hs:dc ce e0)
  (k1:ak E N K (.tl all l (cv all.toArray j A) (cG all j pend) fs::k) Q (bW σ1 o.dst (.d y)) (η1.set i e1.c)):ak E N K (.tl all ((j,o,.one)::l) A pend fs::k) Q Z O:=
 ak.q8 hp hnd hd cz hw (bM.ib i ho h hc hr hx hi hs) (λx O' hR=>by obtain⟨e,rfl⟩:=hR;cases e;exact k1) (λx O' hR=>by cases hR.1)
theorem dk.walk {g:FuncId} {fn:Func} {c:Code} {xs:List CV} {rs:List ResultVar} {nt:Nat} {e0 e1:fu} {y:AV} (hf:E.P.funcs[g]? =some fn) (hb:fn.body=some c) (hname:(fn.name== "runtime.NumGoroutine")=false) (hrs:fn.results=rs.toArray) (hnt:fn.ntmps=nt) (hn:Nat.ble xs.length nt=true)
  (h:ak E nt 1 [.code c] (RD E.T rs (ub y e1)) (gH 0 xs) (gF [e0.c])):dk E g xs e0 y e1:=eh.enter hf hb hname rs hrs nt hnt hn h
theorem RD.ON {rs:List ResultVar} {xs cs:List CV} {z y:AV} {zs us:List AV} {ns:List (Nat×Nat)} {ms:List (Nat×bm)} (h:dT E.T Z O rs=some xs) (hg:O.e.get 0=some (.box cs)) (hf:b5 O.e 60 (eI xs::cs)=some (z::zs,ns,ms)) (hn:eqs ns) (hm:(ms.all λp=>Nat.blt 0 p.1)=true) (e:b4 z y) (e':bZ zs us):RD E.T rs (ub y (.box us)) .ret Z O:=
 ⟨xs,h,cs,z,zs,ns,ms,hg,hf,hn,hm,e,e'⟩
theorem RD.vL {rs:List ResultVar} {xs cs:List CV} {z y:AV} {zs us:List AV} {ns:List (Nat×Nat)} {ms:List (Nat×bm)} (h:dT E.T Z O rs=some xs) (hg:O.e.get 0=some (.box cs)) (hf:b5 O.e 60 (eI xs::cs)=some (z::zs,ns,ms)) (hn:eqs ns) (hm:(ms.all λp=>Nat.blt 0 p.1)=true) (e:b4 z y) (e':bZ zs us):RD E.T rs (ub y (.box us)) .norm Z O:=
 ⟨xs,h,cs,z,zs,ns,ms,hg,hf,hn,hm,e,e'⟩
theorem ak.dY (j:Nat) {e kk:Nat} {rows rows':List (List AV)} (hi:O.e.get j=some (.row e kk rows)) (hI:dm rows rows') (h:ak E N K (.ops all rest::k) Q Z (O.set j (.row e kk rows'))):ak E N K (.ops all rest::k) Q Z O:=by
 show DO E N K all rest _ Z O;intro L ZB OB hs hh;obtain⟨y,hy,hE⟩:=hh.en j _ hi;obtain⟨⟨a,c,ha,rfl⟩,hm⟩:=hE;have hl:=hI.length;refine bo.kE (ez.TY j (y:= .row (.slice a rows.length c) e kk rows') hy rfl (λw A h=>?_)) ?_
 ·obtain⟨vs,h1,h2⟩:=h;exact⟨vs,hI.rel h1,by rw[hl];exact h2⟩
 exact h L _ _ hs (hh.set (.refl L) (λ_ _=>rfl) (λ_ _=>rfl) (hh.lt hi) ⟨⟨a,c,by rw[hl];exact ha,by rw[hl]⟩,λm hm'=>hm m (by omega)⟩)
def wv (m:Int):Option Nat:=match m with
 | .ofNat l=>bif Nat.ble l 274877906944 then some l else none
 | .negSucc _=>none
theorem Kq {m:Int} {l:Nat} (h:wv m=some l):m=(l:Int)/\l<=274877906944:=by
 unfold wv at h;split at h
 ·rename_i k;cases hb:Nat.ble k 274877906944 with
  |false=>rw[hb]at h;cases h
  |true=>rw[hb]at h;cases h;exact⟨rfl,dD hb⟩
 ·cases h
theorem dm.replicate {a b:List AV} (h:bZ a b):∀m:Nat,dm (List.replicate m a) (List.replicate m b)
 |0=> .nil
 |m+1=> .cons h (dm.replicate h m)
theorem ak.make {d:Nat} {t:TypeId} {p q:Operand} {ty:TypeId} {pos:String} {after:Array Edge} {e kk sz by' sz' by'':Nat} {z z':List Value} {td':TD} {kl kc:IntKind} {li ci:Int} (l:Nat)
  (hx:a6 Z p=some (.d (.v (.int kl li)))) (hli:li=(l:Int)) (hy:a6 Z q=some (.d (.v (.int kc ci)))) (hci:ci=(l:Int)) (ht:a7 E.T t=some ⟨.slice e kk,sz,by',z⟩) (hte:a7 E.T e=some ⟨td',sz',by'',z'⟩)
  (hk:Nat.ble 1 kk=true) (hby:Nat.ble 1 by''=true) (hd:Nat.blt d N=true) (hb:l*by''<=140737488355328)
  (h:ak E N K (.ops all rest::k) Q (bW Z (some d) (.os O.n l)) (O.push (.row e kk (List.replicate l (z'.map .v))))):ak E N K (.ops all (⟨some d,.makeSlice t p q,ty,pos,after,none⟩::rest)::k) Q Z O:=
 DO.make l l hb (bQ _) hx hli hy hci ht hte hk hby hd h
theorem ak.PN {d:Nat} {t:TypeId} {p q:Operand} {ty:TypeId} {pos:String} {after:Array Edge} {e kk sz by' sz' by'':Nat} {z z':List Value} {td':TD} {kl kc:IntKind} {li ci:Int} (l:Nat) (rows':List (List AV))
  (hx:a6 Z p=some (.d (.v (.int kl li)))) (hli:li=(l:Int)) (hy:a6 Z q=some (.d (.v (.int kc ci)))) (hci:ci=(l:Int)) (ht:a7 E.T t=some ⟨.slice e kk,sz,by',z⟩) (hte:a7 E.T e=some ⟨td',sz',by'',z'⟩)
  (hk:Nat.ble 1 kk=true) (hby:Nat.ble 1 by''=true) (hd:Nat.blt d N=true) (hb:l*by''<=140737488355328) (hI:dm (List.replicate l (z'.map .v)) rows') (hg:(O.push (.row e kk (List.replicate l (z'.map .v)))).e.get O.n=some (.row e kk (List.replicate l (z'.map .v))))
  (h:ak E N K (.ops all rest::k) Q (bW Z (some d) (.os O.n rows'.length)) ((O.push (.row e kk (List.replicate l (z'.map .v)))).set O.n (.row e kk rows'))):ak E N K (.ops all (⟨some d,.makeSlice t p q,ty,pos,after,none⟩::rest)::k) Q Z O:=by
 have hl:rows'.length=l:=by have:=hI.length;simpa using this
 refine ak.make l hx hli hy hci ht hte hk hby hd hb ?_;rw[hl]at h;exact ak.dY O.n (rows:=List.replicate l (z'.map .v)) hg hI h
theorem bM.Z4 (t:Nat) {x y:AV} {R:DR->Hp->Prop} (ht:Z.get t=some (.d x)) (hi:b4 x y) (h:bM E N o (Tr.put 24 Z t (some (.d y))) O R):bM E N o Z O R:=λL s OB hs hh=>by
 obtain⟨z,h1,h2⟩:=hs t _ ht;simp only[aI]at h2;subst h2;have hs1:SS L (Tr.put 24 Z t (some (.d y))) (fF s t y):=λu q hq=>by
  rcases Tr.ep 24 Z t u _ q hq with⟨rfl,h3⟩|⟨hne,h3⟩
  ·cases h3;exact⟨y,by simp[fF],rfl⟩
  ·obtain⟨q',h4,h5⟩:=hs u q h3;exact⟨q',by simp[fF,hne,h4],h5⟩
 intro F w a hN hd hH hopd;refine h L (fF s t y) OB hs1 hh F w a hN hd hH (λu hu q hq=>?_);unfold fF at hq;split at hq
 ·rename_i hut;subst hut;simp only[aE]at hq;subst hq;obtain⟨g1,g2⟩:=hopd u hu _ h1;exact⟨g1,hi _ _ _ g2⟩
 ·exact hopd u hu q hq
theorem ak.Vc {l:List (Nat×Oper×TK)} {A:bR} {pend:List (Nat×Oper×CV)} {fs:List (Nat×List AV×AV)} {q:Nat} {t:TypeId} {p v:Operand} {i n m e kk:Nat} {rows:List (List AV)} {r r':List AV} {x:AV} {ti:TI} {σ1:TS} {η1:Hp} (u:Nat) (y:AV) (j off:Nat) (hpd:aG E N all pend Z O) (hnd:e9 ((dB (cd all.toArray q A)).map (·.1))=true) (hd:o.dst=none) (cz:eJ (dB (cd all.toArray q A)) Z O=(σ1,η1)) (hw:cC all o σ1=some true)
  (ho:o.op= .store t p v) (hu:σ1.get u=some (.d x)) (hI:b4 x y) (hp:a6 (Tr.put 24 σ1 u (some (.d y))) p=some (.oe i n m)) (hv:a6 (Tr.put 24 σ1 u (some (.d y))) v=some (.d y)) (hi:η1.e.get i=some (.row e kk rows)) (hn:n=rows.length)
  (hm:m=j*kk+off) (hr:rows[j]? =some r) (ht:a7 E.T t=some ti) (hk:Nat.beq (cf y).length ti.size=true) (h1:eK (cf y)=true) (hl:eU r off (cf y)=some r')
  (h:ak E N K (.tl all l (cv all.toArray q A) (cG all q pend) fs::k) Q σ1 (η1.set i (.row e kk (rows.set j r')))):ak E N K (.tl all ((q,o,.one)::l) A pend fs::k) Q Z O:=
 ak.q8 hpd hnd (by rw[hd];rfl) cz hw (bM.Z4 u hu hI (bM.qq j off ho hp hv hi hn hm hr ht hk h1 hl)) (λx O' hR=>by obtain⟨h2,rfl⟩:=hR;rw[hd];exact h) (λx O' hR=>by cases hR.1)
theorem aQ.sZ {t:TypeId} {p:Operand} {lo hi:Option Operand} {sz by':Nat} {z:List Value} {b:List UInt8} (l h:Nat) (ho:o.op= .slice t p lo hi none) (hp:a6 Z p=some (.d (.v (.string ⟨⟨b⟩⟩)))) (ht:a7 E.T t=some ⟨.str,sz,by',z⟩)
  (hl:mf Z 0 lo=some l) (hh:mf Z b.length hi=some h) (h1:l<=h) (h2:h<=b.length):aQ E N o Z (.d (.v (.string ⟨⟨(b.take h).drop l⟩⟩))):=
 aQ.ed (by
  rw[ho];simp only[Bw.ed,lV hp,ht,Ak hl,Ak hh];have:(Nat.ble l h&&Nat.ble h b.length)=true:=by simp[h1,h2]
  rw[this])
def AW (e k:Nat) (rows:List (List AV)):DR->Hp->Prop
 | .ret x,O=>(∃j n rows0,x= .os j n/\n=rows0.length/\O.e.get j=some (.row e k rows0)/\dm rows0 rows)\/(x= .d (.v (.slice none 0 0))/\rows=[])
 | .aO _,_=>False
def jE (E:Env) (g:FuncId) (args:List AV) (e k:Nat) (rows:List (List AV)):Prop:=eh E g (args.map .d) Hp.nil (AW e k rows)
theorem jE.frame {g:FuncId} {args:List AV} {e k:Nat} {rows:List (List AV)} {cs:List CV} (h:jE E g args e k rows) (hc:fq cs=some args):eh E g cs O (λr O'=>r= .ret (.os O.n rows.length)/\O'=O.push (.row e k rows)):=λL ys OB hys hh=>by
 have:=yA hc hys;subst this;have h0:=h ⟨λ_=>none,λ_ _=>none⟩ ys [] (gA ys) (HS.nil _ λ_=>⟨rfl,λ_=>rfl⟩);refine⟨h0.1,λF w vs hH hR=>?_⟩;have hA:Al (λb=>F b\/b∈ids OB) []=Al F OB:=funext λb=>propext (by simp[Al,ids]);have hH0:bD E.toCx.G w (λb=>F b\/b∈ids OB) []:=⟨by simp,by simp[ids],by simp[ids],λb hb=>hb.elim (hH.bound b) (hH.lt b),by rw[hA];exact hH.dZ⟩;refine(h0.2 _ w vs hH0 (by rw[hA];exact hR)).mono ?_;rintro e' w' ⟨r',OB',⟨L',d,η1,h1,h2,h3,h4⟩,hv,hh',hx⟩;cases d with
 |aO z=>exact h4.elim
 |ret z0=>
 obtain⟨u,rfl,h2⟩:=h2;obtain⟨v,rfl,hv⟩:=hv;have hsame:∀b,b<w.heap.size->w'.heap[b]? =w.heap[b]? :=λb hb=>hx.block b hb (by simp[ids]);have hlen:=hh.len
 --the row
 obtain⟨a,c,rfl,g2,g3⟩:∃a c,v= .slice a rows.length c/\(aq.row (.slice a rows.length c) e k rows).ok w' (Al F (OB++[.row (.slice a rows.length c) e k rows]))/\∀b∈(aq.row (.slice a rows.length c) e k rows).ids,w.heap.size<=b:=by
  rcases h4 with⟨j,n,rows0,rfl,rfl,hg,hi⟩|⟨rfl,rfl⟩
  ·obtain⟨q,hq1,hq2⟩:=h3.en j _ hg;obtain⟨⟨a,c,hb,rfl⟩,_⟩:=hq2;simp only[aI]at h2;obtain⟨a',c',t',hb',rfl⟩:=h2;rw[hb]at hb';cases hb';have hl:=hi.length;simp only[Rel]at hv;subst hv;obtain⟨vs',f4,f5⟩:=gG hh' hq1;have hnew:∀b∈(aq.row (.slice a rows0.length c) e k rows0).ids,w.heap.size<=b:=λb hb=>(hx.new b (ef.2 ⟨_,bw (by rw[<-cq];exact hq1),hb⟩)).elim (λh=>by simp[ids]at h) id;refine⟨a,c,by rw[hl],⟨vs',(hi.rel f4).keep ⟨bQ _,λb _ ha=>⟨⟨λhF=>ha.1 (.inl hF),λhm=>?_⟩,rfl⟩⟩,by rw[hl];exact f5⟩,λb hb=>hnew b (by cases a with|none=>simp[aq.ids,Value.ownBlock]at hb|some a=>simpa[aq.ids,Value.ownBlock]using hb)⟩;rw[cn,cJ]at hm;rcases hm with hm|hm
   ·exact ha.1 (.inr hm)
   ·exact ha.2 (ef.2 ⟨_,bw (by rw[<-cq];exact hq1),by cases a with|none=>simp[ids,aq.ids,Value.ownBlock]at hm|some a=>simpa[ids,aq.ids,Value.ownBlock]using hm⟩)
  ·simp only[aI]at h2;subst h2;simp only[Rel]at hv;subst hv;exact⟨none,0,rfl,⟨[],by simp[bu],by simp,.inl ⟨rfl,rfl⟩⟩,by simp[aq.ids,Value.ownBlock]⟩
 have hdom:=hh.fJ O.n (bQ _);have hle:L.le (L.ba O.n rows.length (a,c)):=aH.ko λy hy=>by rw[hdom.2]at hy;cases hy
 have hbn:(L.ba O.n rows.length (a,c)).s O.n rows.length=some (a,c):=by simp[aH.ba]
 refine⟨.ret (.os 0 a rows.length c),OB++[.row (.slice a rows.length c) e k rows],⟨_,.ret (.os O.n rows.length),O.push (.row e k rows),hle.toK _,⟨_,rfl,by simp only[aI];exact⟨_,_,_,hbn,rfl⟩⟩,?_,rfl,rfl⟩,⟨_,rfl,by simp only[Rel]⟩,hH.push hx.size hsame g3 (by simp only[aq.ids];cases (Value.slice a rows.length c).ownBlock<;>simp) g2,⟨hx.os,hx.tape,hx.output,hx.size,λb hb _=>hsame b hb,λb hb=>?_,hx.drawn⟩⟩
 ·refine hh.push hle (λi hi=>by funext m;simp[aH.ba,hi]) (λ_ _=>rfl) ⟨⟨a,c,hbn,rfl⟩,λm hm=>?_⟩;have:m≠rows.length:=by omega
  simp only[aH.ba,this,and_false,if_false];exact hdom.2 m
 ·rw[cn,cJ]at hb;rcases hb with hb|hb
  ·exact .inl hb
  ·exact .inr (g3 b (by simpa[ids]using hb))
theorem ak.PL {dst:Option Nat} {f:Operand} {args:List Operand} {g:FuncId} {cs:List CV} {xs xs':List AV} {e kk:Nat} {rows:List (List AV)} {tys:Array TypeId} {ty:TypeId} {pos:String} {after:Array Edge}
  (h:jE E g xs e kk rows) (hc:cT Z f args=some (g,cs)) (hx:fq cs=some xs') (hi:xs'=xs) (hd:ck N dst=true) (k1:ak E N K (.ops all rest::k) Q (bW Z dst (.os O.n rows.length)) (O.push (.row e kk rows))):
  ak E N K (.ops all (⟨dst,.call {callee:= .value f,args:=args.toArray,argTypes:=tys},ty,pos,after,none⟩::rest)::k) Q Z O:=by
 subst hi;exact DO.call (h.frame hx) hc hd (λx O' hq=>by obtain⟨e,rfl⟩:=hq;cases e;exact k1) (λx O' hq=>by cases hq.1)
theorem jE.walk {g:FuncId} {fn:Func} {c:Code} {xs:List AV} {rs:List ResultVar} {nt:Nat} {e kk:Nat} {rows:List (List AV)} (hf:E.P.funcs[g]? =some fn) (hb:fn.body=some c) (hname:(fn.name== "runtime.NumGoroutine")=false) (hrs:fn.results=rs.toArray) (hnt:fn.ntmps=nt) (hn:Nat.ble xs.length nt=true)
  (h:ak E nt 0 [.code c] (RD E.T rs (AW e kk rows)) (gH 0 (xs.map .d)) Hp.nil):jE E g xs e kk rows:=eh.enter hf hb hname rs hrs nt hnt (by simpa using hn) h
theorem RD.E8 {rs:List ResultVar} {xs:List CV} {e kk j n:Nat} {rows0 rows:List (List AV)} (h:dT E.T Z O rs=some xs) (hp:eI xs= .os j n) (hn:n=rows0.length) (hg:O.e.get j=some (.row e kk rows0)) (e':dm rows0 rows):RD E.T rs (AW e kk rows) .ret Z O:=
 ⟨xs,h,.inl ⟨j,n,rows0,hp,hn,hg,e'⟩⟩
theorem RD.Da {rs:List ResultVar} {xs:List CV} {e kk:Nat} {rows:List (List AV)} (h:dT E.T Z O rs=some xs) (hp:eI xs= .d (.v (.slice none 0 0))) (e':rows=[]):RD E.T rs (AW e kk rows) .ret Z O:=
 ⟨xs,h,.inr ⟨hp,e'⟩⟩
def Eu (us:List AV) (e k:Nat) (rows:List (List AV)):DR->Hp->Prop
 | .ret x,O=>∃cs zs ns ms j,O.e.get 0=some (.box cs)/\b5 O.e 60 cs=some (zs,ns,ms)/\eqs ns/\(ms.all λp=>Nat.blt 0 p.1&& !Nat.beq p.1 j)=true/\bZ zs us/\((∃n rows0,x= .os j n/\n=rows0.length/\0<j/\O.e.get j=some (.row e k rows0)/\dm rows0 rows)\/(x= .d (.v (.slice none 0 0))/\rows=[]))
 | .aO _,_=>False
def qW (E:Env) (g:FuncId) (args:List CV) (us0 us:List AV) (e k:Nat) (rows:List (List AV)):Prop:=eh E g args (gF [(fu.box us0).c]) (Eu us e k rows)
theorem X' {X Y:aq} {l:List aq} {j:Nat} (h0:nth l 0=some X) (hj:nth l j=some Y) (hp:0<j) (hY:Y.ids.Nodup) (hn:(ids l).Nodup):(ids [X,Y]).Nodup/\∀b∈ids [X,Y],b∈ids l:=by
 cases l with
 |nil=>simp[nth]at h0
 |cons z l=>
  simp only[cq,lD,aE]at h0;subst h0;obtain⟨m,rfl⟩:∃m,j=m+1:=⟨j-1,by omega⟩;simp only[cq,qd]at hj;have hm:∀b∈Y.ids,b∈ids l:=λb hb=>ef.2 ⟨_,bw hj,hb⟩;simp only[cF,iO]at hn⊢;simp only[show ids []=[]from rfl,iz,cJ];exact⟨⟨hn.1,⟨hY,List.nodup_nil,by simp⟩,λa ha b hb=>hn.2.2 a ha b (hm b hb)⟩,λb hb=>hb.imp id (hm b)⟩
theorem qW.frame {g:FuncId} {cs args:List CV} {i:Nat} {ce:bm} {us0 us:List AV} {e k:Nat} {rows:List (List AV)} (h:qW E g args us0 us e k rows) (hr:mg i cs=some args) (hi:O.e.get i=some ce) (hs:dc ce (.box us0)):
  eh E g cs O (λr O'=>r= .ret (.os O.n rows.length)/\O'=(O.set i (fu.box us).c).push (.row e k rows)):=λL ys OB hys hh=>by
 obtain⟨x,hx1,hx2⟩:=hh.en i _ hi;obtain⟨l,r,rfl,rfl⟩:=CU hx1;obtain⟨x0,hx0,hids,hxe⟩:∃x0:aq,k9 (L.one l.length) 0 (fu.box us0).c x0/\x0.ids=x.ids/\∀w A,x.ok w A->x0.ok w A:=by
  cases hs with
  |box h1 h2=>
   obtain⟨b,cs',h3,rfl,h4⟩:=hx2;have:=yA h1 h4;subst this;refine⟨.box b us0,⟨b,us0,by simpa[aH.one]using h3,rfl,gA _⟩,rfl,λw A=>?_⟩;rintro ⟨e,vs,h5,h6⟩;exact⟨e,vs,h5,h2.rel h6⟩
 have hS0:HS (L.one l.length) (gF [(fu.box us0).c]) [x0]:=by
  refine⟨λt z hz=>?_,rfl,λt ht=>?_⟩
  ·simp only[gF,nG]at hz;rcases Tr.ep 24 .lf 0 t (some (fu.box us0).c) z hz with⟨rfl,h1⟩|⟨_,h1⟩
   ·cases h1;exact⟨x0,rfl,hx0⟩
   ·simp[Tr.jD]at h1
  ·have:t≠0:=by simp[gF]at ht;omega
   exact⟨by simp[aH.one,this],λn=>by simp[aH.one,this]⟩
 have h0:=h (L.one l.length) ys [x0] (CT hr hys) hS0;refine⟨h0.1,λF w vs hH hR=>?_⟩
 let F0:Nat->Prop:=λb=>F b\/b∈ids (l++r)
 have hp:(l++x::r).Perm ([x]++(l++r)):=List.perm_middle;have hHp:bD E.toCx.G w F ([x]++(l++r)):=hH.perm hp;have hAx:Al F0 [x0]=Al F (l++x::r):=by
  rw[pq hp,<-mI];funext b;simp only[Al,cF,hids,F0]
 have hnd:=hHp.nodup;rw[cn,iO]at hnd;have hH0:bD E.toCx.G w F0 [x0]:=by
  refine⟨λz hz=>?_,?_,λb hb=>?_,λb hb=>?_,?_⟩
  ·simp only[nN]at hz;subst hz;rw[hAx];exact hxe _ _ (hH.eD x (by simp))
  ·have:=hnd.1;simpa only[ids,u3,JA,iz,hids]using this
  ·simp only[ids,u3,JA,iz,hids]at hb;have hb':b∈ids [x]:=by simpa[ids]using hb
   rintro (hF|hl)
   ·exact hHp.free b (by rw[cn];exact oR _ hb') hF
   ·exact hnd.2.2 b hb' b hl rfl
  ·rcases hb with hF|hl
   ·exact hH.bound b hF
   ·exact hHp.lt b (by rw[cn];exact Um _ hl)
  ·rw[hAx];exact hH.dZ
 refine(h0.2 F0 w vs hH0 (by rw[hAx];exact hR)).mono ?_;rintro e' w' ⟨r',OB',⟨L',d,η1,h1,h2,h3,h4⟩,hv,hh',hx⟩;cases d with
 |aO z=>exact h4.elim
 |ret z0=>
 obtain⟨u,rfl,h2⟩:=h2;obtain⟨v,rfl,hv⟩:=hv;have h10:=h1 0 (by simp[gF]);obtain⟨cs',zs,ns,ms,j,q1,q2,q3,q4,q5,q6⟩:=h4;obtain⟨q,hq1,hq2⟩:=h3.en 0 _ q1;obtain⟨b,us',hb,rfl,hi'⟩:=hq2;obtain⟨e1',vs',hheap,hvs⟩:=gG hh' hq1;obtain⟨f1,_⟩:=gV h3 hh' (ms.map (·.1)) 60 q2 q3 (λp hp=>cP.2 ⟨p,hp,rfl⟩) hi' hvs;have hms:∀t,(t=0\/t=j)->t∉ms.map (·.1):=λt ht hm=>by
  obtain⟨p,hp,hp0⟩:=cP.1 hm;have:=iA.1 q4 p hp;simp only[bL,kQ]at this;rcases ht with rfl|rfl
  ·rw[hp0]at this;simp at this
  ·rw[hp0]at this;have h2:=this.2;rw[u4]at h2;cases h2
 --the row that is made,and the two together
 obtain⟨a,c,R,rfl,rfl,hR1,hR2,hR3⟩:∃a c R,v= .slice a rows.length c/\R=aq.row (.slice a rows.length c) e k rows/\(ids [aq.box b us,R]).Nodup/\(∀t∈ids [aq.box b us,R],t∈ids OB')/\(∀A,(∀t,eR F0 OB' (ms.map (·.1)) t->A t)->(R.ok w' A/\(aq.box b us).ok w' A)):=by
  have hbox:∀A,(∀t,eR F0 OB' (ms.map (·.1)) t->A t)->(aq.box b us).ok w' A:=λA hA=>⟨e1',vs',hheap,q5.rel (f1.keep ⟨bQ _,λt _ ht=>⟨hA t ht,rfl⟩⟩)⟩;rcases q6 with⟨n,rows0,rfl,rfl,hj,hg,hi2⟩|⟨rfl,rfl⟩
  ·obtain⟨q,hq1',hq2'⟩:=h3.en j _ hg;obtain⟨⟨a,c,hb',rfl⟩,_⟩:=hq2';simp only[aI]at h2;obtain⟨a',c',t',hb'',rfl⟩:=h2;rw[hb']at hb'';cases hb'';have hl:=hi2.length;simp only[Rel]at hv;subst hv;obtain⟨vs2,f4,f5⟩:=gG hh' hq1';have hnr:(aq.row (.slice a rows0.length c) e k rows0).ids.Nodup:=by simp only[aq.ids];cases (Value.slice a rows0.length c).ownBlock<;>simp
   have h2:=X' hq1 hq1' hj hnr hh'.nodup;have hid:ids [aq.box b us,aq.row (.slice a rows.length c) e k rows]=ids [aq.box b us',aq.row (.slice a rows0.length c) e k rows0]:=by
    cases a<;>simp[ids,aq.ids,Value.ownBlock]
   refine⟨a,c,_,by rw[hl],rfl,by rw[hid];exact h2.1,by rw[hid];exact h2.2,λA hA=>⟨⟨vs2,(hi2.rel f4).keep ⟨bQ _,λt _ ht=>⟨hA t (AI _ ht),rfl⟩⟩,by rw[hl];exact f5⟩,hbox A hA⟩⟩
  ·simp only[aI]at h2;subst h2;simp only[Rel]at hv;subst hv;refine⟨none,0,_,rfl,rfl,by simp[ids,aq.ids,Value.ownBlock],λt ht=>ef.2 ⟨_,bw (by rw[<-cq];exact hq1),by simpa[ids,aq.ids,Value.ownBlock]using ht⟩,λA hA=>⟨⟨[],by simp[bu],by simp,.inl ⟨rfl,rfl⟩⟩,hbox A hA⟩⟩
 generalize hRd:aq.row (.slice a rows.length c) e k rows=R at*
 have hsub:∀t,eR F0 OB' (ms.map (·.1)) t->Al F0 [aq.box b us,R] t:=λt ht=>by
  refine⟨ht.1,λhm=>?_⟩;rw[show [aq.box b us,R]=[aq.box b us]++[R]from rfl,cn,cJ]at hm;rcases hm with hm|hm
  ·exact ht.2 0 _ hq1 (hms 0 (.inl rfl)) (by simpa[ids,aq.ids]using hm)
  ·rcases q6 with⟨n,rows0,rfl,rfl,hj,hg,hi2⟩|⟨rfl,rfl⟩
   ·obtain⟨q,hq1',hq2'⟩:=h3.en j _ hg;obtain⟨⟨a2,c2,hb',rfl⟩,_⟩:=hq2';simp only[aI]at h2;obtain⟨a',c',t',hb'',h2'⟩:=h2;rw[hb']at hb'';cases hb'';subst h2';simp only[Rel]at hv;injection hv with hv1 hv2 hv3
    subst hv1;refine ht.2 j _ hq1' (hms j (.inr rfl)) ?_;subst hRd;cases a with|none=>simp[ids,aq.ids,Value.ownBlock]at hm|some a=>simpa[ids,aq.ids,Value.ownBlock]using hm
   ·simp only[aI]at h2;subst h2;simp only[Rel]at hv;injection hv with hv1 hv2 hv3
    subst hv1;subst hRd;simp[ids,aq.ids,Value.ownBlock]at hm
 have hh2:bD E.toCx.G w' F0 [aq.box b us,R]:=by
  refine⟨λz hz=>?_,hR1,λt ht=>hh'.free t (hR2 t ht),hh'.bound,hh'.dZ.keep ⟨bQ _,λt _ ht=>⟨hsub t (AI _ ht),rfl⟩⟩⟩;have:=hR3 _ hsub;simp only[cm,fM,or_false]at hz;rcases hz with rfl|rfl
  ·exact this.2
  ·exact this.1
 have hext:Ext [x] w [aq.box b us,R] w':=⟨hx.os,hx.tape,hx.output,hx.size,λt ht hn=>hx.block t ht (by simpa[ids,hids]using hn),λt ht=>(hx.new t (hR2 t ht)).imp (λh=>by simpa[ids,hids]using h) id,hx.drawn⟩;obtain⟨k1,k2⟩:=bD.back hHp hh2 hext;have hp2:([aq.box b us,R]++(l++r)).Perm ((l++aq.box b us::r)++[R]):=by
  have h1:((l++aq.box b us::r)++[R]).Perm (R::(l++aq.box b us::r)):=List.perm_append_singleton _ _;refine List.Perm.trans ?_ h1.symm;refine List.Perm.trans (List.Perm.swap _ _ _) ?_;refine List.Perm.cons _ ?_;exact(List.perm_middle (l₁:=l) (l₂:=r) (a:=aq.box b us)).symm
 have hle:L.le ⟨λt=>if t=l.length then L'.b 0 else L.b t,λt n=>if t=l.length then L'.s 0 n else L.s t n⟩:=by
  refine⟨λt b hb=>?_,λt n b hb=>?_⟩
  ·by_cases ht:t=l.length
   ·subst ht;simp only[if_true];exact h10.1 b (by simpa[aH.one]using hb)
   ·simp only[ht,if_false];exact hb
  ·by_cases ht:t=l.length
   ·subst ht;simp only[if_true];exact h10.2 n b (by simpa[aH.one]using hb)
   ·simp only[ht,if_false];exact hb
 have hset:∀(t:Nat),t≠l.length->∀n,(λ(t n:Nat)=>if t=l.length then L'.s 0 n else L.s t n) t n=L.s t n:=λt ht n=>by simp[ht]
 have hlen:l.length<O.n:=by have:=hh.len;simp at this;omega
 have hHS1:HS ⟨λt=>if t=l.length then L'.b 0 else L.b t,λt n=>if t=l.length then L'.s 0 n else L.s t n⟩ (O.set l.length (fu.box us).c) (l++aq.box b us::r):=by
  refine⟨λt z hz=>?_,?_,λt ht=>?_⟩
  ·simp only[Hp.set]at hz;rcases Tr.ep 24 O.e l.length t (some (fu.box us).c) z hz with⟨rfl,q1⟩|⟨hne,q1⟩
   ·cases q1;exact⟨_,M6 _ _ _,⟨b,us,by simpa using hb,rfl,gA _⟩⟩
   ·obtain⟨z',q2,q3⟩:=hh.en t z q1;exact⟨z',by rw[KV hne];exact q2,q3.mono hle (by funext n;exact hset t hne n)⟩
  ·have:=hh.len;simpa[Hp.set]using this
  ·simp only[Hp.set]at ht;have hne:t≠l.length:=by omega
   simp only[hne,if_false];exact hh.fJ t ht
 have hdom:=hHS1.fJ O.n (bQ _);generalize hρ1:(⟨λt=>if t=l.length then L'.b 0 else L.b t,λt n=>if t=l.length then L'.s 0 n else L.s t n⟩:aH)=L1 at*
 have hle2:L1.le (L1.ba O.n rows.length (a,c)):=aH.ko λy hy=>by rw[hdom.2]at hy;cases hy
 have hbn:(L1.ba O.n rows.length (a,c)).s O.n rows.length=some (a,c):=by simp[aH.ba]
 refine⟨.ret (.os 0 a rows.length c),(l++aq.box b us::r)++[R],⟨_,.ret (.os O.n rows.length),(O.set l.length (fu.box us).c).push (.row e k rows),(hle.trans hle2).toK _,⟨_,rfl,by simp only[aI];exact⟨_,_,_,hbn,rfl⟩⟩,?_,rfl,rfl⟩,⟨_,rfl,by simp only[Rel]⟩,k1.perm hp2,⟨hx.os,hx.tape,hx.output,hx.size,λt ht hn=>k2.block t ht (λhm=>hn ((oY hp).mem_iff.2 hm)),λt ht=>(k2.new t ((oY hp2).mem_iff.2 ht)).imp (λhm=>(oY hp).mem_iff.2 hm) id,hx.drawn⟩⟩;refine hHS1.push hle2 (λi hi=>by funext m;simp[aH.ba];intro h;exact absurd h hi) (λ_ _=>rfl) ?_;subst hRd;refine⟨⟨a,c,hbn,rfl⟩,λm hm=>?_⟩;have:m≠rows.length:=by omega
 simp only[aH.ba,this,and_false,if_false];exact hdom.2 m
theorem ak.Ev {dst:Option Nat} {f:Operand} {args:List Operand} {g:FuncId} {cs xs xs':List CV} {ce:bm} {us0 us:List AV} {e kk:Nat} {rows:List (List AV)} {tys:Array TypeId} {ty:TypeId} {pos:String} {after:Array Edge} (i:Nat)
  (h:qW E g xs us0 us e kk rows) (hc:cT Z f args=some (g,cs)) (hr:mg i cs=some xs') (hx:xs'=xs) (hi:O.e.get i=some ce) (hs:dc ce (.box us0)) (hd:ck N dst=true)
  (k1:ak E N K (.ops all rest::k) Q (bW Z dst (.os O.n rows.length)) ((O.set i (fu.box us).c).push (.row e kk rows))):
  ak E N K (.ops all (⟨dst,.call {callee:= .value f,args:=args.toArray,argTypes:=tys},ty,pos,after,none⟩::rest)::k) Q Z O:=by
 subst hx;exact DO.call (h.frame hr hi hs) hc hd (λx O' hq=>by obtain⟨e,rfl⟩:=hq;cases e;exact k1) (λx O' hq=>by cases hq.1)
theorem qW.walk {g:FuncId} {fn:Func} {c:Code} {xs:List CV} {rs:List ResultVar} {nt:Nat} {us0 us:List AV} {e kk:Nat} {rows:List (List AV)} (hf:E.P.funcs[g]? =some fn) (hb:fn.body=some c) (hname:(fn.name== "runtime.NumGoroutine")=false) (hrs:fn.results=rs.toArray) (hnt:fn.ntmps=nt) (hn:Nat.ble xs.length nt=true)
  (h:ak E nt 1 [.code c] (RD E.T rs (Eu us e kk rows)) (gH 0 xs) (gF [(fu.box us0).c])):qW E g xs us0 us e kk rows:=eh.enter hf hb hname rs hrs nt hnt hn h
theorem RD.OR {rs:List ResultVar} {xs cs:List CV} {zs us:List AV} {e kk j n:Nat} {rows0 rows:List (List AV)} {ns:List (Nat×Nat)} {ms:List (Nat×bm)} (h:dT E.T Z O rs=some xs) (hp:eI xs= .os j n) (hn:n=rows0.length) (hj:Nat.blt 0 j=true) (hg0:O.e.get 0=some (.box cs)) (hf:b5 O.e 60 cs=some (zs,ns,ms)) (hq:eqs ns) (hm:(ms.all λp=>Nat.blt 0 p.1&& !Nat.beq p.1 j)=true) (hg:O.e.get j=some (.row e kk rows0)) (e':dm rows0 rows) (i:bZ zs us):RD E.T rs (Eu us e kk rows) .ret Z O:=
 ⟨xs,h,cs,zs,ns,ms,j,hg0,hf,hq,hm,i,.inl ⟨n,rows0,hp,hn,by simpa using hj,hg,e'⟩⟩
