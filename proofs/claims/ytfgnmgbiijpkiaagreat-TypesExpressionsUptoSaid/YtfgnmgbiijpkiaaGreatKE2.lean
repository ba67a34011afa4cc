/- Calls that write what they are handed: one entry of own memory, told before and after. -/
import Derived.Test.YtfgnmgbiijpkiaaGreatKE1
set_option linter.all false
noncomputable section
namespace Go.Bw
open Go
inductive eW where
 |box (us:List AV)
 |row (e k:Nat) (rows:List (List AV))
 |iy (l:List Int)
def eW.c:eW->bg
 | .box us=> .box (us.map .d)
 | .row e k rows=> .row e k rows
 | .iy l=> .iy l
inductive aJ:bg->eW->Prop where
 |box {cs:List CV} {us0 us:List AV}:eF cs=some us0->bP us0 us->aJ (.box cs) (.box us)
 |row {e k:Nat} {rows0 rows:List (List AV)}:de rows0 rows->aJ (.row e k rows0) (.row e k rows)
 |iy {l:List Int}:aJ (.iy l) (.iy l)
def qh (y:AV) (e':eW):DR->Hp->Prop
 | .ret x,O=>(match e' with
  | .box us=>∃cs z zs ns ms,O.e.get 0=some (.box cs)/\bY O.e 60 (x::cs)=some (z::zs,ns,ms)/\eqs ns/\(ms.all λp=>Nat.blt 0 p.1)=true/\bQ z y/\bP zs us
  | .row e k rows=>∃rows0 z ns ms,O.e.get 0=some (.row e k rows0)/\bY O.e 60 [x]=some ([z],ns,ms)/\eqs ns/\(ms.all λp=>Nat.blt 0 p.1)=true/\bQ z y/\de rows0 rows
  | .iy l=>∃l0 z ns ms,O.e.get 0=some (.iy l0)/\bY O.e 60 [x]=some ([z],ns,ms)/\eqs ns/\(ms.all λp=>Nat.blt 0 p.1)=true/\bQ z y/\l0=l)
 | .aO _,_=>False
def dv (E:Env) (g:FuncId) (args:List CV) (e:eW) (y:AV) (e':eW):Prop:=dR E g args (fL [e.c]) (qh y e')
def n5 (i:Nat):CV->Option CV
 | .d x=>some (.d x)
 | .own t o=>match Nat.beq t i with
  |true=>some (.own 0 o)
  |false=>none
 | .os t n=>match Nat.beq t i with
  |true=>some (.os 0 n)
  |false=>none
 | .oe t n o=>match Nat.beq t i with
  |true=>some (.oe 0 n o)
  |false=>none
 | .agg [.om t]=>match Nat.beq t i with
  |true=>some (.agg [.om 0])
  |false=>none
 |_=>none
def k7 (i:Nat):List CV->Option (List CV)
 |[]=>some []
 |x::xs=>match n5 i x,k7 i xs with
  |some y,some ys=>some (y::ys)
  |_,_=>none
def aC.one (L:aC) (i:Nat):aC:=⟨λt=>if t=0 then L.b i else none,λt n=>if t=0 then L.s i n else none⟩
theorem NQ {L:aC} {i:Nat} {x y:CV} {u:AV} (h:n5 i x=some y) (hi:aE L x u):aE (L.one i) y u:=by
 cases x with
 |d z=>simp only[n5,aA]at h;subst h;exact hi
 |own t o=>
  simp only[n5]at h;split at h
  ·rename_i hb;cases h;have:=bB hb;subst this;simp only[aE]at hi⊢;obtain⟨b,t',h1,h2⟩:=hi;exact⟨b,t',by simpa[aC.one]using h1,h2⟩
  ·cases h
 |os t n=>
  simp only[n5]at h;split at h
  ·rename_i hb;cases h;have:=bB hb;subst this;simp only[aE]at hi⊢;obtain⟨a,c,t',h1,h2⟩:=hi;exact⟨a,c,t',by simpa[aC.one]using h1,h2⟩
  ·cases h
 |oe t n o=>
  simp only[n5]at h;split at h
  ·rename_i hb;cases h;have:=bB hb;subst this;simp only[aE]at hi⊢;obtain⟨a,c,t',h1,h2⟩:=hi;exact⟨a,c,t',by simpa[aC.one]using h1,h2⟩
  ·cases h
 |agg xs=>
  rcases xs with _|⟨x,_|⟨x2,r⟩⟩
  ·cases h
  ·cases x with
   |om t=>
    simp only[n5]at h;split at h
    ·rename_i hb;cases h;have:=bB hb;subst this;simp only[aE,aQ]at hi⊢;obtain⟨ys,rfl,y,r,rfl,⟨b,t',h1,rfl⟩,rfl⟩:=hi;exact⟨_,rfl,_,_,rfl,⟨b,t',by simpa[aC.one]using h1,rfl⟩,rfl⟩
    ·cases h
   |_=>cases h
  ·cases x<;>cases h
 |_=>cases h
theorem xY {L:aC} {i:Nat}:∀{xs ys:List CV} {us:List AV},k7 i xs=some ys->aQ L xs us->aQ (L.one i) ys us
 |[],ys,us,h,hi=>by simp only[k7,aA]at h;subst h;exact hi
 |x::xs,ys,us,h,hi=>by
  simp only[k7]at h;split at h
  ·rename_i y ys' h1 h2;cases h;simp only[aQ]at hi⊢;obtain⟨u,r,rfl,h3,h4⟩:=hi;exact⟨u,r,rfl,NQ h1 h3,xY h2 h4⟩
  ·cases h
theorem uL {L:aC}:∀{cs:List CV} {us ys:List AV},eF cs=some us->aQ L cs ys->ys=us
 |[],us,ys,h,hi=>by simp only[eF,aA]at h;subst h;exact hi
 |c::cs,us,ys,h,hi=>by
  cases c<;>simp only[eF]at h<;>try cases h
  split at h
  ·rename_i zs h1;cases h;simp only[aQ,aE]at hi;obtain⟨u,r,rfl,rfl,h3⟩:=hi;rw[uL h1 h3]
  ·cases h
theorem xZ:∀{l:List ah} {i:Nat} {x:ah},nth l i=some x->∃a b,l=a++x::b/\a.length=i
 |[],_,_,h=>by simp[nth]at h
 |y::l,0,x,h=>by simp only[nth,aA]at h;subst h;exact⟨[],l,rfl,rfl⟩
 |y::l,i+1,x,h=>by
  simp only[nth]at h;obtain⟨a,b,rfl,rfl⟩:=xZ h;exact⟨y::a,b,rfl,rfl⟩
theorem G2 (a b:List ah) (x:ah):nth (a++x::b) a.length=some x:=by rw[ck];simp
theorem E6 {a b:List ah} {x y:ah} {j:Nat} (hj:j≠a.length):nth (a++x::b) j=nth (a++y::b) j:=by
 rw[ck,ck];rcases jO j a.length with h|h
 ·rw[mR h,mR h]
 ·rw[xk h,xk h];obtain⟨m,hm⟩:∃m,j-a.length=m+1:=⟨j-a.length-1,by omega⟩;rw[hm];rfl
section
variable {E:Env} {N K:Nat} {Q:DQ} {Z:TS} {O:Hp} {o:Oper} {all rest:List Oper} {k:List It}
theorem E7 {w w':World} {A A':Nat->Prop}:∀{l:List Int} {a:List MapEntry},iZ w A (nR l) a->iZ w' A' (nR l) a
 |[],a,h=>h
 |x::l,a,h=>by
  simp only[nR,dW,iZ,Rel]at h⊢;obtain⟨e,r,rfl,h1,h2,h3⟩:=h;exact⟨e,r,rfl,h1,h2,E7 (l:=l) h3⟩
theorem dv.frame {g:FuncId} {cs args:List CV} {i:Nat} {ce:bg} {e0 e1:eW} {y:AV} (h:dv E g args e0 y e1) (hr:k7 i cs=some args) (hi:O.e.get i=some ce) (hs:aJ ce e0):
  dR E g cs O (λr η'=>r= .ret (.d y)/\η'=O.set i e1.c):=λL ys ηB hys hh=>by
 obtain⟨x,hx1,hx2⟩:=hh.en i _ hi;obtain⟨l,r,rfl,rfl⟩:=xZ hx1
 --the entry in the callee's words
 obtain⟨x0,hx0,hids,hxe⟩:∃x0:ah,ju (L.one l.length) 0 e0.c x0/\x0.ids=x.ids/\∀w A,x.ok w A->x0.ok w A:=by
  cases hs with
  |box h1 h2=>
   obtain⟨b,cs',h3,rfl,h4⟩:=hx2;rename_i us0 us;have:=uL h1 h4;subst this;refine⟨.box b us,⟨b,us,by simpa[aC.one]using h3,rfl,fG _⟩,rfl,λw A=>?_⟩;rintro ⟨e,vs,h5,h6⟩;exact⟨e,vs,h5,h2.rel h6⟩
  |row h2=>
   obtain⟨⟨a,c,h3,rfl⟩,h4⟩:=hx2;rename_i e k rows0 rows;have hl:=h2.length;refine⟨.row (.slice a rows.length c) e k rows,⟨⟨a,c,by simpa[aC.one,hl]using h3,rfl⟩,λm hm=>by simpa[aC.one]using h4 m (by omega)⟩,by cases a<;>simp[ah.ids,Value.ownBlock],λw A=>?_⟩;rintro ⟨vs,h5,h6⟩;exact⟨vs,h2.rel h5,by rw[hl];exact h6⟩
  |iy=>
   obtain⟨b,h3,rfl⟩:=hx2;exact⟨.map b (nR _),⟨b,by simpa[aC.one]using h3,rfl⟩,rfl,λ_ _ h=>h⟩
 have hS0:HS (L.one l.length) (fL [e0.c]) [x0]:=by
  refine⟨λt z hz=>?_,rfl,λt ht=>?_⟩
  ·simp only[fL,lh]at hz;rcases Tr.dU 24 .lf 0 t (some e0.c) z hz with⟨rfl,h1⟩|⟨_,h1⟩
   ·cases h1;exact⟨x0,rfl,hx0⟩
   ·simp[Tr.ie]at h1
  ·have:t≠0:=by simp[fL]at ht;omega
   exact⟨by simp[aC.one,this],λn=>by simp[aC.one,this]⟩
 have h0:=h (L.one l.length) ys [x0] (xY hr hys) hS0;refine⟨h0.1,λF w vs hH hR=>?_⟩
 let F0:Nat->Prop:=λb=>F b\/b∈ids l\/b∈ids r
 have hA:∀z:ah,Al F0 [z]=Al F (l++z::r):=λz=>funext λb=>propext (by
  simp only[Al,F0,cg,cE,cN,show ids []=[]from rfl,gw,not_or];constructor
  ·rintro ⟨⟨a1,a2,a3⟩,a4⟩;exact⟨a1,a2,a4,a3⟩
  ·rintro ⟨a1,a2,a3,a4⟩;exact⟨⟨a1,a2,a4⟩,a3⟩)
 have hAx:Al F0 [x0]=Al F (l++x::r):=by
  rw[hA];funext b;simp only[Al,cg,cE,hids]
 have hnd:=hH.nodup;simp only[cg,cE,jP,cN]at hnd;have hfr:=hH.free;have hltb:=hH.lt;simp only[cg,cE,cN]at hfr hltb;have hH0:bz E.toCx.G w F0 [x0]:=by
  refine⟨λz hz=>?_,?_,λb hb=>?_,λb hb=>?_,?_⟩
  ·simp only[lv]at hz;subst hz;rw[hAx];exact hxe _ _ (hH.ea x (by simp))
  ·simp only[ids,xl,DZ,gw,hids];exact hnd.2.1.1
  ·simp only[ids,xl,DZ,gw,hids]at hb;rintro (hF|hl|hr')
   ·exact hfr b (.inr (.inl hb)) hF
   ·exact hnd.2.2 b hl b (.inl hb) rfl
   ·exact hnd.2.1.2.2 b hb b hr' rfl
  ·rcases hb with hF|hl|hr'
   ·exact hH.bound b hF
   ·exact hltb b (.inl hl)
   ·exact hltb b (.inr (.inr hr'))
  ·rw[hAx];exact hH.dS
 refine(h0.2 F0 w vs hH0 (by rw[hAx];exact hR)).mono ?_;rintro e w' ⟨r',OB',⟨L',d,O1,h1,h2,h3,h4⟩,hv,hh',hx⟩;cases d with
 |aO z=>exact h4.elim
 |ret z0=>
 obtain⟨u,rfl,h2⟩:=h2;obtain⟨v,rfl,hv⟩:=hv;have h10:=h1 0 (by simp[fL])
 --what is left there
 obtain⟨x',g1,g2,g3,g4,g5⟩:∃x':ah,ju ⟨λt=>if t=l.length then L'.b 0 else L.b t,λt n=>if t=l.length then L'.s 0 n else L.s t n⟩ l.length e1.c x'/\x'.ok w' (Al F (l++x'::r))/\(∀b∈x'.ids,b∈ids OB')/\x'.ids.Nodup/\Rel w' (Al F (l++x'::r)) y v:=by
  cases e1 with
  |box us=>
   obtain⟨cs',z,zs,ns,ms,q1,q2,q3,q4,q5,q6⟩:=h4;obtain⟨q,hq1,hq2⟩:=h3.en 0 _ q1;obtain⟨b,us',hb,rfl,hi'⟩:=hq2;obtain⟨e',vs',hheap,hvs⟩:=fV hh' hq1;obtain⟨f1,_⟩:=fX h3 hh' (ms.map (·.1)) 60 q2 q3 (λp hp=>dt.2 ⟨p,hp,rfl⟩) (by simp only[aQ];exact⟨u,us',rfl,h2,hi'⟩) (vs:=v::vs') (by simp only[aF];exact⟨v,vs',rfl,hv,hvs⟩);have hk:cK w' (ek F0 OB' (ms.map (·.1))) w' (Al F (l++(ah.box b us)::r)):=⟨bA _,λb' _ hb'=>⟨by
    rw[<-hA];refine⟨hb'.1,?_⟩;have:=hb'.2 0 _ hq1 (λhm=>by
     obtain⟨p,hp,hp0⟩:=dt.1 hm;have:=gH.1 q4 p hp;rw[hp0]at this;simp at this)
    simpa[ids,ah.ids]using this,rfl⟩⟩
   simp only[aF]at f1;obtain⟨v1,vs1,e1',f2,f3⟩:=f1;simp only[jK]at e1';obtain⟨rfl,rfl⟩:=e1';exact⟨.box b us,⟨b,us,by simpa using hb,rfl,fG _⟩,⟨e',vs',hheap,q6.rel (f3.bm hk)⟩,λb' hb'=>ec.2 ⟨_,cy (by rw[<-ck];exact hq1),by simpa[ah.ids]using hb'⟩,by simp[ah.ids],q5 _ _ _ (f2.bm hk)⟩
  |row e k rows=>
   obtain⟨rows0,z,ns,ms,q1,q2,q3,q4,q5,q6⟩:=h4;obtain⟨q,hq1,hq2⟩:=h3.en 0 _ q1;obtain⟨⟨a,c,hb,rfl⟩,hm⟩:=hq2;have hl:=q6.length;obtain⟨vs',f4,f5⟩:=fV hh' hq1;obtain⟨f1,_⟩:=fX h3 hh' (ms.map (·.1)) 60 q2 q3 (λp hp=>dt.2 ⟨p,hp,rfl⟩) (by simp only[aQ];exact⟨u,[],rfl,h2,rfl⟩) (vs:=[v]) (by simp only[aF];exact⟨v,[],rfl,hv,rfl⟩);have hk:cK w' (ek F0 OB' (ms.map (·.1))) w' (Al F (l++(ah.row (.slice a rows.length c) e k rows)::r)):=⟨bA _,λb' _ hb'=>⟨by
    rw[<-hA];refine⟨hb'.1,?_⟩;have:=hb'.2 0 _ hq1 (λhm=>by
     obtain⟨p,hp,hp0⟩:=dt.1 hm;have:=gH.1 q4 p hp;rw[hp0]at this;simp at this)
    cases a with|none=>simp[ids,ah.ids,Value.ownBlock]|some a=>simpa[ids,ah.ids,Value.ownBlock]using this,rfl⟩⟩
   simp only[aF]at f1;obtain⟨v1,vs1,e1',f2,f3⟩:=f1;simp only[jK]at e1';obtain⟨rfl,rfl⟩:=e1';refine⟨.row (.slice a rows.length c) e k rows,⟨⟨a,c,by simpa[hl]using hb,rfl⟩,λm hm'=>by simpa using hm m (by omega)⟩,⟨vs',(q6.rel f4).bm ⟨bA _,λb' hb' ha=>hk.2 b' hb' (vz _ ha)⟩,by rw[hl];exact f5⟩,λb' hb'=>ec.2 ⟨_,cy (by rw[<-ck];exact hq1),by cases a with|none=>simp[ah.ids,Value.ownBlock]at hb'|some a=>simpa[ah.ids,Value.ownBlock]using hb'⟩,?_,q5 _ _ _ (f2.bm hk)⟩;simp only[ah.ids];cases (Value.slice a rows.length c).ownBlock<;>simp
  |iy l1=>
   obtain⟨l0,z,ns,ms,q1,q2,q3,q4,q5,rfl⟩:=h4;obtain⟨q,hq1,hq2⟩:=h3.en 0 _ q1;obtain⟨b,hb,rfl⟩:=hq2;obtain⟨a,clock,hheap,hr,hnd',hlt'⟩:=fV hh' hq1;obtain⟨f1,_⟩:=fX h3 hh' (ms.map (·.1)) 60 q2 q3 (λp hp=>dt.2 ⟨p,hp,rfl⟩) (by simp only[aQ];exact⟨u,[],rfl,h2,rfl⟩) (vs:=[v]) (by simp only[aF];exact⟨v,[],rfl,hv,rfl⟩);have hk:cK w' (ek F0 OB' (ms.map (·.1))) w' (Al F (l++(ah.map b (nR l0))::r)):=⟨bA _,λb' _ hb'=>⟨by
    rw[<-hA];refine⟨hb'.1,?_⟩;have:=hb'.2 0 _ hq1 (λhm=>by
     obtain⟨p,hp,hp0⟩:=dt.1 hm;have:=gH.1 q4 p hp;rw[hp0]at this;simp at this)
    simpa[ids,ah.ids]using this,rfl⟩⟩
   simp only[aF]at f1;obtain⟨v1,vs1,e1',f2,f3⟩:=f1;simp only[jK]at e1';obtain⟨rfl,rfl⟩:=e1';exact⟨.map b (nR l0),⟨b,by simpa using hb,rfl⟩,⟨a,clock,hheap,E7 hr,hnd',hlt'⟩,λb' hb'=>ec.2 ⟨_,cy (by rw[<-ck];exact hq1),by simpa[ah.ids]using hb'⟩,by simp[ah.ids],q5 _ _ _ (f2.bm hk)⟩
 have hnew:∀b∈x'.ids,b∈x.ids\/w.heap.size<=b:=λb hb=>(hx.new b (g3 b hb)).imp (λhb=>by simpa[ids,hids]using hb) id;have hblk:∀b,b<w.heap.size->b∉x.ids->w'.heap[b]? =w.heap[b]? :=λb hb hn=>hx.block b hb (by simpa[ids,hids]using hn);have hset:∀(t:Nat),t≠l.length->∀n,(λ(t n:Nat)=>if t=l.length then L'.s 0 n else L.s t n) t n=L.s t n:=λt ht n=>by simp[ht]
 have hle:L.le ⟨λt=>if t=l.length then L'.b 0 else L.b t,λt n=>if t=l.length then L'.s 0 n else L.s t n⟩:=by
  refine⟨λt b hb=>?_,λt n b hb=>?_⟩
  ·by_cases ht:t=l.length
   ·subst ht;simp only[if_true];exact h10.1 b (by simpa[aC.one]using hb)
   ·simp only[ht,if_false];exact hb
  ·by_cases ht:t=l.length
   ·subst ht;simp only[if_true];exact h10.2 n b (by simpa[aC.one]using hb)
   ·simp only[ht,if_false];exact hb
 have hlen:l.length<O.n:=by have:=hh.len;simp at this;omega
 refine⟨.ret y,l++x'::r,⟨_,.ret (.d y),O.set l.length e1.c,hle.toK _,⟨y,rfl,rfl⟩,⟨λt z hz=>?_,?_,λt ht=>?_⟩,rfl,rfl⟩,⟨v,rfl,g5⟩,hH.oH hx.size hblk hnew g4 g2,⟨hx.os,hx.tape,hx.output,hx.size,λb hb hn=>hblk b hb (λhm=>hn (by simp only[cg,cE,cN];exact .inr (.inl hm))),λb hb=>?_,hx.drawn⟩⟩
 ·simp only[Hp.set]at hz;rcases Tr.dU 24 O.e l.length t (some e1.c) z hz with⟨rfl,q1⟩|⟨hne,q1⟩
  ·cases q1;exact⟨x',G2 _ _ _,g1⟩
  ·obtain⟨z',q2,q3⟩:=hh.en t z q1;exact⟨z',by rw[E6 hne];exact q2,q3.mono hle (by funext n;exact hset t hne n)⟩
 ·have:=hh.len;simpa[Hp.set]using this
 ·simp only[Hp.set]at ht;have hne:t≠l.length:=by omega
  simp only[hne,if_false];exact hh.eY t ht
 ·simp only[cg,cE,cN]at hb⊢;rcases hb with hb|hb|hb
  ·exact .inl (.inl hb)
  ·rcases hnew b hb with hb|hb
   ·exact .inl (.inr (.inl hb))
   ·exact .inr hb
  ·exact .inl (.inr (.inr hb))
theorem af.aL {dst:Option Nat} {f:Operand} {args:List Operand} {g:FuncId} {cs xs xs':List CV} {ce:bg} {e0 e1:eW} {y:AV} {tys:Array TypeId} {ty:TypeId} {pos:String} {after:Array Edge} (i:Nat)
  (h:dv E g xs e0 y e1) (hc:cT Z f args=some (g,cs)) (hr:k7 i cs=some xs') (hx:xs'=xs) (hi:O.e.get i=some ce) (hs:aJ ce e0) (hd:cj N dst=true)
  (k1:af E N K (.ops all rest::k) Q (bN Z dst (.d y)) (O.set i e1.c)):
  af E N K (.ops all (⟨dst,.call {callee:= .value f,args:=args.toArray,argTypes:=tys},ty,pos,after,none⟩::rest)::k) Q Z O:=by
 subst hx;exact DO.call (h.frame hr hi hs) hc hd (λx η' hq=>by obtain⟨e,rfl⟩:=hq;cases e;exact k1) (λx η' hq=>by cases hq.1)
def nN (ty:Nat) (z:AV):Option (Int×Int):=match z with
 | .bu t (.agg [.v (.int .i64 a),.v (.int .i64 b)])=>bif Nat.beq t ty then some (a,b)else none
 |_=>none
theorem M7 {ty:Nat} {z:AV} {p:Int×Int} (h:nN ty z=some p):z= .bu ty (.agg [.v (.int .i64 p.1),.v (.int .i64 p.2)]):=by
 unfold nN at h;split at h
 ·rename_i t a b;cases hb:Nat.beq t ty with
  |false=>rw[hb]at h;cases h
  |true=>rw[hb]at h;cases h;rw[bB hb]
 ·cases h
def fm {D β:Type} (ty:Nat) (o:Option (aU D)) (g:Int->Int->Option β) (f:D->Option β):Option β:=match o with
 |some (.ret x)=>f x
 |some (.aO z)=>(nN ty z).bind λp=>g p.1 p.2
 |none=>none
theorem Oz {D β:Type} {ty:Nat} {o:Option (aU D)} {g:Int->Int->Option β} {f:D->Option β} {r:β} (h:fm ty o g f=some r):(∃a b,o=some (.aO (.bu ty (.agg [.v (.int .i64 a),.v (.int .i64 b)])))/\g a b=some r)\/∃x,o=some (.ret x)/\f x=some r:=by
 cases o with
 |none=>cases h
 |some x=>cases x with
  |ret x=>exact .inr ⟨x,rfl,h⟩
  |aO z=>
   obtain⟨p,h1,h2⟩:=eQ h;rw[M7 h1];exact .inl ⟨p.1,p.2,rfl,h2⟩
theorem af.OA {dst dst':Option Nat} {f:Operand} {args:List Operand} {g:FuncId} {cs:List CV} {xs' xs:List AV} {ns:List (Nat×Nat)} {ms:List (Nat×bg)} {ty':Nat} {a b:Int} {N' K':Nat} {Z':TS} {k':List It} {tys:Array TypeId} {ty:TypeId} {pos:String} {after:Array Edge} (h:Pure E.toCx g xs (.aO (.bu ty' (.agg [.v (.int .i64 a),.v (.int .i64 b)])))) (hc:cT Z f args=some (g,cs)) (hf:bY O.e 60 cs=some (xs',ns,ms)) (hn:eqs ns) (hi:bP xs' xs) (hl:ms=[]\/cR (.bu ty' (.agg [.v (.int .i64 a),.v (.int .i64 b)]))=true)
  (hp:ik k=some (N',K',Z',dst',ty',k')) (hq:af E N' K' k' Q (bN Z' dst' (.d (.agg [.v (.int .i64 a),.v (.int .i64 b)]))) O):af E N K (.ops all (⟨dst,.call {callee:= .value f,args:=args.toArray,argTypes:=tys},ty,pos,after,none⟩::rest)::k) Q Z O:=by
 show DO E N K all _ (dq E N K k Q) Z O;exact DO.pH 60 h hc hf hn hi hl (kL (y:= .agg [.v (.int .i64 a),.v (.int .i64 b)]) (.inr rfl) rfl k N K hp hq)
theorem bH.aL {f:Operand} {args:List Operand} {g:FuncId} {cs xs xs':List CV} {ce:bg} {e0 e1:eW} {y:AV} {tys:Array TypeId} (i:Nat) (ho:o.op= .call {callee:= .value f,args:=args.toArray,argTypes:=tys})
  (h:dv E g xs e0 y e1) (hc:cT Z f args=some (g,cs)) (hr:k7 i cs=some xs') (hx:xs'=xs) (hi:O.e.get i=some ce) (hs:aJ ce e0):bH E N o Z O (λr η'=>r= .ret (.d y)/\η'=O.set i e1.c):=by
 subst hx;exact bH.call ho (h.frame hr hi hs) hc
theorem af.gy {l:List (Nat×Oper×TK)} {A:bJ} {pend:List (Nat×Oper×CV)} {fs:List (Nat×List AV×AV)} {j:Nat} {Z1:TS} {O1:Hp} {f:Operand} {args:List Operand} {g:FuncId} {cs xs xs':List CV} {ce:bg} {e0 e1:eW} {y:AV} {tys:Array TypeId} (i:Nat) (hp:aD E N all pend Z O) (hnd:ez ((dp (b8 all.toArray j A)).map (·.1))=true) (hd:cj N o.dst=true) (cu:ee (dp (b8 all.toArray j A)) Z O=(Z1,O1)) (hw:cA all o Z1=some true)
  (ho:o.op= .call {callee:= .value f,args:=args.toArray,argTypes:=tys}) (h:dv E g xs e0 y e1) (hc:cT Z1 f args=some (g,cs)) (hr:k7 i cs=some xs') (hx:xs'=xs) (hi:O1.e.get i=some ce) (hs:aJ ce e0)
  (k1:af E N K (.tl all l (cm all.toArray j A) (cF all j pend) fs::k) Q (bN Z1 o.dst (.d y)) (O1.set i e1.c)):af E N K (.tl all ((j,o,.one)::l) A pend fs::k) Q Z O:=
 af.nQ hp hnd hd cu hw (bH.aL i ho h hc hr hx hi hs) (λx η' hR=>by obtain⟨e,rfl⟩:=hR;cases e;exact k1) (λx η' hR=>by cases hR.1)
theorem dv.walk {g:FuncId} {fn:Func} {c:Code} {xs:List CV} {rs:List ResultVar} {nt:Nat} {e0 e1:eW} {y:AV} (hf:E.P.funcs[g]? =some fn) (hb:fn.body=some c) (hname:(fn.name== "runtime.NumGoroutine")=false) (hrs:fn.results=rs.toArray) (hnt:fn.ntmps=nt) (hn:Nat.ble xs.length nt=true)
  (h:af E nt 1 [.code c] (RD E.T rs (qh y e1)) (fN 0 xs) (fL [e0.c])):dv E g xs e0 y e1:=dR.enter hf hb hname rs hrs nt hnt hn h
theorem RD.Ig {rs:List ResultVar} {xs cs:List CV} {z y:AV} {zs us:List AV} {ns:List (Nat×Nat)} {ms:List (Nat×bg)} (h:dH E.T Z O rs=some xs) (hg:O.e.get 0=some (.box cs)) (hf:bY O.e 60 (ed xs::cs)=some (z::zs,ns,ms)) (hn:eqs ns) (hm:(ms.all λp=>Nat.blt 0 p.1)=true) (e:bQ z y) (e':bP zs us):RD E.T rs (qh y (.box us)) .ret Z O:=
 ⟨xs,h,cs,z,zs,ns,ms,hg,hf,hn,hm,e,e'⟩
theorem RD.rR {rs:List ResultVar} {xs cs:List CV} {z y:AV} {zs us:List AV} {ns:List (Nat×Nat)} {ms:List (Nat×bg)} (h:dH E.T Z O rs=some xs) (hg:O.e.get 0=some (.box cs)) (hf:bY O.e 60 (ed xs::cs)=some (z::zs,ns,ms)) (hn:eqs ns) (hm:(ms.all λp=>Nat.blt 0 p.1)=true) (e:bQ z y) (e':bP zs us):RD E.T rs (qh y (.box us)) .norm Z O:=
 ⟨xs,h,cs,z,zs,ns,ms,hg,hf,hn,hm,e,e'⟩
theorem af.dP (j:Nat) {e kk:Nat} {rows rows':List (List AV)} (hi:O.e.get j=some (.row e kk rows)) (hI:de rows rows') (h:af E N K (.ops all rest::k) Q Z (O.set j (.row e kk rows'))):af E N K (.ops all rest::k) Q Z O:=by
 show DO E N K all rest _ Z O;intro L ZB ηB hs hh;obtain⟨y,hy,hE⟩:=hh.en j _ hi;obtain⟨⟨a,c,ha,rfl⟩,hm⟩:=hE;have hl:=hI.length;refine bh.i' (dV.L3 j (y:= .row (.slice a rows.length c) e kk rows') hy rfl (λw A h=>?_)) ?_
 ·obtain⟨vs,h1,h2⟩:=h;exact⟨vs,hI.rel h1,by rw[hl];exact h2⟩
 exact h L _ _ hs (hh.set (.refl L) (λ_ _=>rfl) (λ_ _=>rfl) (hh.lt hi) ⟨⟨a,c,by rw[hl];exact ha,by rw[hl]⟩,λm hm'=>hm m (by omega)⟩)
def sE (m:Int):Option Nat:=match m with
 | .ofNat l=>bif Nat.ble l 274877906944 then some l else none
 | .negSucc _=>none
theorem EJ {m:Int} {l:Nat} (h:sE m=some l):m=(l:Int)/\l<=274877906944:=by
 unfold sE at h;split at h
 ·rename_i k;cases hb:Nat.ble k 274877906944 with
  |false=>rw[hb]at h;cases h
  |true=>rw[hb]at h;cases h;exact⟨rfl,dw hb⟩
 ·cases h
theorem de.replicate {a b:List AV} (h:bP a b):∀m:Nat,de (List.replicate m a) (List.replicate m b)
 |0=> .nil
 |m+1=> .cons h (de.replicate h m)
theorem af.make {d:Nat} {t:TypeId} {p q:Operand} {ty:TypeId} {pos:String} {after:Array Edge} {e kk sz by' sz' by'':Nat} {z z':List Value} {td':TD} {kl kc:IntKind} {li ci:Int} (l:Nat)
  (hx:aW Z p=some (.d (.v (.int kl li)))) (hli:li=(l:Int)) (hy:aW Z q=some (.d (.v (.int kc ci)))) (hci:ci=(l:Int)) (ht:aX E.T t=some ⟨.slice e kk,sz,by',z⟩) (hte:aX E.T e=some ⟨td',sz',by'',z'⟩)
  (hk:Nat.ble 1 kk=true) (hby:Nat.ble 1 by''=true) (hd:Nat.blt d N=true) (hb:l*by''<=140737488355328)
  (h:af E N K (.ops all rest::k) Q (bN Z (some d) (.os O.n l)) (O.push (.row e kk (List.replicate l (z'.map .v))))):af E N K (.ops all (⟨some d,.makeSlice t p q,ty,pos,after,none⟩::rest)::k) Q Z O:=
 DO.make l l hb (bA _) hx hli hy hci ht hte hk hby hd h
theorem af.Ja {d:Nat} {t:TypeId} {p q:Operand} {ty:TypeId} {pos:String} {after:Array Edge} {e kk sz by' sz' by'':Nat} {z z':List Value} {td':TD} {kl kc:IntKind} {li ci:Int} (l:Nat) (rows':List (List AV))
  (hx:aW Z p=some (.d (.v (.int kl li)))) (hli:li=(l:Int)) (hy:aW Z q=some (.d (.v (.int kc ci)))) (hci:ci=(l:Int)) (ht:aX E.T t=some ⟨.slice e kk,sz,by',z⟩) (hte:aX E.T e=some ⟨td',sz',by'',z'⟩)
  (hk:Nat.ble 1 kk=true) (hby:Nat.ble 1 by''=true) (hd:Nat.blt d N=true) (hb:l*by''<=140737488355328) (hI:de (List.replicate l (z'.map .v)) rows') (hg:(O.push (.row e kk (List.replicate l (z'.map .v)))).e.get O.n=some (.row e kk (List.replicate l (z'.map .v))))
  (h:af E N K (.ops all rest::k) Q (bN Z (some d) (.os O.n rows'.length)) ((O.push (.row e kk (List.replicate l (z'.map .v)))).set O.n (.row e kk rows'))):af E N K (.ops all (⟨some d,.makeSlice t p q,ty,pos,after,none⟩::rest)::k) Q Z O:=by
 have hl:rows'.length=l:=by have:=hI.length;simpa using this
 refine af.make l hx hli hy hci ht hte hk hby hd hb ?_;rw[hl]at h;exact af.dP O.n (rows:=List.replicate l (z'.map .v)) hg hI h
theorem bH.Q3 (t:Nat) {x y:AV} {R:DR->Hp->Prop} (ht:Z.get t=some (.d x)) (hi:bQ x y) (h:bH E N o (Tr.put 24 Z t (some (.d y))) O R):bH E N o Z O R:=λL s ηB hs hh=>by
 obtain⟨z,h1,h2⟩:=hs t _ ht;simp only[aE]at h2;subst h2;have hs1:SS L (Tr.put 24 Z t (some (.d y))) (eR s t y):=λu q hq=>by
  rcases Tr.dU 24 Z t u _ q hq with⟨rfl,h3⟩|⟨hne,h3⟩
  ·cases h3;exact⟨y,by simp[eR],rfl⟩
  ·obtain⟨q',h4,h5⟩:=hs u q h3;exact⟨q',by simp[eR,hne,h4],h5⟩
 intro F w a hN hd hH hopd;refine h L (eR s t y) ηB hs1 hh F w a hN hd hH (λu hu q hq=>?_);unfold eR at hq;split at hq
 ·rename_i hut;subst hut;simp only[aA]at hq;subst hq;obtain⟨g1,g2⟩:=hopd u hu _ h1;exact⟨g1,hi _ _ _ g2⟩
 ·exact hopd u hu q hq
theorem af.M5 {l:List (Nat×Oper×TK)} {A:bJ} {pend:List (Nat×Oper×CV)} {fs:List (Nat×List AV×AV)} {q:Nat} {t:TypeId} {p v:Operand} {i n m e kk:Nat} {rows:List (List AV)} {r r':List AV} {x:AV} {ti:TI} {Z1:TS} {O1:Hp} (u:Nat) (y:AV) (j off:Nat) (hpd:aD E N all pend Z O) (hnd:ez ((dp (b8 all.toArray q A)).map (·.1))=true) (hd:o.dst=none) (cu:ee (dp (b8 all.toArray q A)) Z O=(Z1,O1)) (hw:cA all o Z1=some true)
  (ho:o.op= .store t p v) (hu:Z1.get u=some (.d x)) (hI:bQ x y) (hp:aW (Tr.put 24 Z1 u (some (.d y))) p=some (.oe i n m)) (hv:aW (Tr.put 24 Z1 u (some (.d y))) v=some (.d y)) (hi:O1.e.get i=some (.row e kk rows)) (hn:n=rows.length)
  (hm:m=j*kk+off) (hr:rows[j]? =some r) (ht:aX E.T t=some ti) (hk:Nat.beq (b9 y).length ti.size=true) (h1:ef (b9 y)=true) (hl:eo r off (b9 y)=some r')
  (h:af E N K (.tl all l (cm all.toArray q A) (cF all q pend) fs::k) Q Z1 (O1.set i (.row e kk (rows.set j r')))):af E N K (.tl all ((q,o,.one)::l) A pend fs::k) Q Z O:=
 af.nQ hpd hnd (by rw[hd];rfl) cu hw (bH.Q3 u hu hI (bH.nf j off ho hp hv hi hn hm hr ht hk h1 hl)) (λx η' hR=>by obtain⟨h2,rfl⟩:=hR;rw[hd];exact h) (λx η' hR=>by cases hR.1)
theorem aR.pK {t:TypeId} {p:Operand} {lo hi:Option Operand} {sz by':Nat} {z:List Value} {b:List UInt8} (l h:Nat) (ho:o.op= .slice t p lo hi none) (hp:aW Z p=some (.d (.v (.string ⟨⟨b⟩⟩)))) (ht:aX E.T t=some ⟨.str,sz,by',z⟩)
  (hl:ko Z 0 lo=some l) (hh:ko Z b.length hi=some h) (h1:l<=h) (h2:h<=b.length):aR E N o Z (.d (.v (.string ⟨⟨(b.take h).drop l⟩⟩))):=
 aR.dG (by
  rw[ho];simp only[Bw.dG,lB hp,ht,vn hl,vn hh];have:(Nat.ble l h&&Nat.ble h b.length)=true:=by simp[h1,h2]
  rw[this])
def vJ (e k:Nat) (rows:List (List AV)):DR->Hp->Prop
 | .ret x,O=>(∃j n rows0,x= .os j n/\n=rows0.length/\O.e.get j=some (.row e k rows0)/\de rows0 rows)\/(x= .d (.v (.slice none 0 0))/\rows=[])
 | .aO _,_=>False
def ki (E:Env) (g:FuncId) (args:List AV) (e k:Nat) (rows:List (List AV)):Prop:=dR E g (args.map .d) Hp.nil (vJ e k rows)
theorem ki.frame {g:FuncId} {args:List AV} {e k:Nat} {rows:List (List AV)} {cs:List CV} (h:ki E g args e k rows) (hc:eF cs=some args):dR E g cs O (λr η'=>r= .ret (.os O.n rows.length)/\η'=O.push (.row e k rows)):=λL ys ηB hys hh=>by
 have:=uL hc hys;subst this;have h0:=h ⟨λ_=>none,λ_ _=>none⟩ ys [] (fG ys) (HS.nil _ λ_=>⟨rfl,λ_=>rfl⟩);refine⟨h0.1,λF w vs hH hR=>?_⟩;have hA:Al (λb=>F b\/b∈ids ηB) []=Al F ηB:=funext λb=>propext (by simp[Al,ids]);have hH0:bz E.toCx.G w (λb=>F b\/b∈ids ηB) []:=⟨by simp,by simp[ids],by simp[ids],λb hb=>hb.elim (hH.bound b) (hH.lt b),by rw[hA];exact hH.dS⟩;refine(h0.2 _ w vs hH0 (by rw[hA];exact hR)).mono ?_;rintro e' w' ⟨r',OB',⟨L',d,O1,h1,h2,h3,h4⟩,hv,hh',hx⟩;cases d with
 |aO z=>exact h4.elim
 |ret z0=>
 obtain⟨u,rfl,h2⟩:=h2;obtain⟨v,rfl,hv⟩:=hv;have hsame:∀b,b<w.heap.size->w'.heap[b]? =w.heap[b]? :=λb hb=>hx.block b hb (by simp[ids]);have hlen:=hh.len
 --the row
 obtain⟨a,c,rfl,g2,g3⟩:∃a c,v= .slice a rows.length c/\(ah.row (.slice a rows.length c) e k rows).ok w' (Al F (ηB++[.row (.slice a rows.length c) e k rows]))/\∀b∈(ah.row (.slice a rows.length c) e k rows).ids,w.heap.size<=b:=by
  rcases h4 with⟨j,n,rows0,rfl,rfl,hg,hi⟩|⟨rfl,rfl⟩
  ·obtain⟨q,hq1,hq2⟩:=h3.en j _ hg;obtain⟨⟨a,c,hb,rfl⟩,_⟩:=hq2;simp only[aE]at h2;obtain⟨a',c',t',hb',rfl⟩:=h2;rw[hb]at hb';cases hb';have hl:=hi.length;simp only[Rel]at hv;subst hv;obtain⟨vs',f4,f5⟩:=fV hh' hq1;have hnew:∀b∈(ah.row (.slice a rows0.length c) e k rows0).ids,w.heap.size<=b:=λb hb=>(hx.new b (ec.2 ⟨_,cy (by rw[<-ck];exact hq1),hb⟩)).elim (λh=>by simp[ids]at h) id;refine⟨a,c,by rw[hl],⟨vs',(hi.rel f4).bm ⟨bA _,λb _ ha=>⟨⟨λhF=>ha.1 (.inl hF),λhm=>?_⟩,rfl⟩⟩,by rw[hl];exact f5⟩,λb hb=>hnew b (by cases a with|none=>simp[ah.ids,Value.ownBlock]at hb|some a=>simpa[ah.ids,Value.ownBlock]using hb)⟩;rw[cg,cN]at hm;rcases hm with hm|hm
   ·exact ha.1 (.inr hm)
   ·exact ha.2 (ec.2 ⟨_,cy (by rw[<-ck];exact hq1),by cases a with|none=>simp[ids,ah.ids,Value.ownBlock]at hm|some a=>simpa[ids,ah.ids,Value.ownBlock]using hm⟩)
  ·simp only[aE]at h2;subst h2;simp only[Rel]at hv;subst hv;exact⟨none,0,rfl,⟨[],by simp[br],by simp,.inl ⟨rfl,rfl⟩⟩,by simp[ah.ids,Value.ownBlock]⟩
 have hdom:=hh.eY O.n (bA _);have hle:L.le (L.aY O.n rows.length (a,c)):=aC.iQ λy hy=>by rw[hdom.2]at hy;cases hy
 have hbn:(L.aY O.n rows.length (a,c)).s O.n rows.length=some (a,c):=by simp[aC.aY]
 refine⟨.ret (.os 0 a rows.length c),ηB++[.row (.slice a rows.length c) e k rows],⟨_,.ret (.os O.n rows.length),O.push (.row e k rows),hle.toK _,⟨_,rfl,by simp only[aE];exact⟨_,_,_,hbn,rfl⟩⟩,?_,rfl,rfl⟩,⟨_,rfl,by simp only[Rel]⟩,hH.push hx.size hsame g3 (by simp only[ah.ids];cases (Value.slice a rows.length c).ownBlock<;>simp) g2,⟨hx.os,hx.tape,hx.output,hx.size,λb hb _=>hsame b hb,λb hb=>?_,hx.drawn⟩⟩
 ·refine hh.push hle (λi hi=>by funext m;simp[aC.aY,hi]) (λ_ _=>rfl) ⟨⟨a,c,hbn,rfl⟩,λm hm=>?_⟩;have:m≠rows.length:=by omega
  simp only[aC.aY,this,and_false,if_false];exact hdom.2 m
 ·rw[cg,cN]at hb;rcases hb with hb|hb
  ·exact .inl hb
  ·exact .inr (g3 b (by simpa[ids]using hb))
theorem af.I' {dst:Option Nat} {f:Operand} {args:List Operand} {g:FuncId} {cs:List CV} {xs xs':List AV} {e kk:Nat} {rows:List (List AV)} {tys:Array TypeId} {ty:TypeId} {pos:String} {after:Array Edge}
  (h:ki E g xs e kk rows) (hc:cT Z f args=some (g,cs)) (hx:eF cs=some xs') (hi:xs'=xs) (hd:cj N dst=true) (k1:af E N K (.ops all rest::k) Q (bN Z dst (.os O.n rows.length)) (O.push (.row e kk rows))):
  af E N K (.ops all (⟨dst,.call {callee:= .value f,args:=args.toArray,argTypes:=tys},ty,pos,after,none⟩::rest)::k) Q Z O:=by
 subst hi;exact DO.call (h.frame hx) hc hd (λx η' hq=>by obtain⟨e,rfl⟩:=hq;cases e;exact k1) (λx η' hq=>by cases hq.1)
theorem ki.walk {g:FuncId} {fn:Func} {c:Code} {xs:List AV} {rs:List ResultVar} {nt:Nat} {e kk:Nat} {rows:List (List AV)} (hf:E.P.funcs[g]? =some fn) (hb:fn.body=some c) (hname:(fn.name== "runtime.NumGoroutine")=false) (hrs:fn.results=rs.toArray) (hnt:fn.ntmps=nt) (hn:Nat.ble xs.length nt=true)
  (h:af E nt 0 [.code c] (RD E.T rs (vJ e kk rows)) (fN 0 (xs.map .d)) Hp.nil):ki E g xs e kk rows:=dR.enter hf hb hname rs hrs nt hnt (by simpa using hn) h
theorem RD.AX {rs:List ResultVar} {xs:List CV} {e kk j n:Nat} {rows0 rows:List (List AV)} (h:dH E.T Z O rs=some xs) (hp:ed xs= .os j n) (hn:n=rows0.length) (hg:O.e.get j=some (.row e kk rows0)) (e':de rows0 rows):RD E.T rs (vJ e kk rows) .ret Z O:=
 ⟨xs,h,.inl ⟨j,n,rows0,hp,hn,hg,e'⟩⟩
theorem RD.yG {rs:List ResultVar} {xs:List CV} {e kk:Nat} {rows:List (List AV)} (h:dH E.T Z O rs=some xs) (hp:ed xs= .d (.v (.slice none 0 0))) (e':rows=[]):RD E.T rs (vJ e kk rows) .ret Z O:=
 ⟨xs,h,.inr ⟨hp,e'⟩⟩
def Ae (us:List AV) (e k:Nat) (rows:List (List AV)):DR->Hp->Prop
 | .ret x,O=>∃cs zs ns ms j,O.e.get 0=some (.box cs)/\bY O.e 60 cs=some (zs,ns,ms)/\eqs ns/\(ms.all λp=>Nat.blt 0 p.1&& !Nat.beq p.1 j)=true/\bP zs us/\((∃n rows0,x= .os j n/\n=rows0.length/\0<j/\O.e.get j=some (.row e k rows0)/\de rows0 rows)\/(x= .d (.v (.slice none 0 0))/\rows=[]))
 | .aO _,_=>False
def nO (E:Env) (g:FuncId) (args:List CV) (us0 us:List AV) (e k:Nat) (rows:List (List AV)):Prop:=dR E g args (fL [(eW.box us0).c]) (Ae us e k rows)
theorem Pc {X Y:ah} {l:List ah} {j:Nat} (h0:nth l 0=some X) (hj:nth l j=some Y) (hp:0<j) (hY:Y.ids.Nodup) (hn:(ids l).Nodup):(ids [X,Y]).Nodup/\∀b∈ids [X,Y],b∈ids l:=by
 cases l with
 |nil=>simp[nth]at h0
 |cons z l=>
  simp only[ck,oN,aA]at h0;subst h0;obtain⟨m,rfl⟩:∃m,j=m+1:=⟨j-1,by omega⟩;simp only[ck,D0]at hj;have hm:∀b∈Y.ids,b∈ids l:=λb hb=>ec.2 ⟨_,cy hj,hb⟩;simp only[cE,jP]at hn⊢;simp only[show ids []=[]from rfl,gw,cN];exact⟨⟨hn.1,⟨hY,List.nodup_nil,by simp⟩,λa ha b hb=>hn.2.2 a ha b (hm b hb)⟩,λb hb=>hb.imp id (hm b)⟩
theorem nO.frame {g:FuncId} {cs args:List CV} {i:Nat} {ce:bg} {us0 us:List AV} {e k:Nat} {rows:List (List AV)} (h:nO E g args us0 us e k rows) (hr:k7 i cs=some args) (hi:O.e.get i=some ce) (hs:aJ ce (.box us0)):
  dR E g cs O (λr η'=>r= .ret (.os O.n rows.length)/\η'=(O.set i (eW.box us).c).push (.row e k rows)):=λL ys ηB hys hh=>by
 obtain⟨x,hx1,hx2⟩:=hh.en i _ hi;obtain⟨l,r,rfl,rfl⟩:=xZ hx1;obtain⟨x0,hx0,hids,hxe⟩:∃x0:ah,ju (L.one l.length) 0 (eW.box us0).c x0/\x0.ids=x.ids/\∀w A,x.ok w A->x0.ok w A:=by
  cases hs with
  |box h1 h2=>
   obtain⟨b,cs',h3,rfl,h4⟩:=hx2;have:=uL h1 h4;subst this;refine⟨.box b us0,⟨b,us0,by simpa[aC.one]using h3,rfl,fG _⟩,rfl,λw A=>?_⟩;rintro ⟨e,vs,h5,h6⟩;exact⟨e,vs,h5,h2.rel h6⟩
 have hS0:HS (L.one l.length) (fL [(eW.box us0).c]) [x0]:=by
  refine⟨λt z hz=>?_,rfl,λt ht=>?_⟩
  ·simp only[fL,lh]at hz;rcases Tr.dU 24 .lf 0 t (some (eW.box us0).c) z hz with⟨rfl,h1⟩|⟨_,h1⟩
   ·cases h1;exact⟨x0,rfl,hx0⟩
   ·simp[Tr.ie]at h1
  ·have:t≠0:=by simp[fL]at ht;omega
   exact⟨by simp[aC.one,this],λn=>by simp[aC.one,this]⟩
 have h0:=h (L.one l.length) ys [x0] (xY hr hys) hS0;refine⟨h0.1,λF w vs hH hR=>?_⟩
 let F0:Nat->Prop:=λb=>F b\/b∈ids (l++r)
 have hp:(l++x::r).Perm ([x]++(l++r)):=Wi;have hHp:bz E.toCx.G w F ([x]++(l++r)):=hH.perm hp;have hAx:Al F0 [x0]=Al F (l++x::r):=by
  rw[mj hp,<-kG];funext b;simp only[Al,cE,hids,F0]
 have hnd:=hHp.nodup;rw[cg,jP]at hnd;have hH0:bz E.toCx.G w F0 [x0]:=by
  refine⟨λz hz=>?_,?_,λb hb=>?_,λb hb=>?_,?_⟩
  ·simp only[lv]at hz;subst hz;rw[hAx];exact hxe _ _ (hH.ea x (by simp))
  ·have:=hnd.1;simpa only[ids,xl,DZ,gw,hids]using this
  ·simp only[ids,xl,DZ,gw,hids]at hb;have hb':b∈ids [x]:=by simpa[ids]using hb
   rintro (hF|hl)
   ·exact hHp.free b (by rw[cg];exact lX _ hb') hF
   ·exact hnd.2.2 b hb' b hl rfl
  ·rcases hb with hF|hl
   ·exact hH.bound b hF
   ·exact hHp.lt b (by rw[cg];exact Mn _ hl)
  ·rw[hAx];exact hH.dS
 refine(h0.2 F0 w vs hH0 (by rw[hAx];exact hR)).mono ?_;rintro e' w' ⟨r',OB',⟨L',d,O1,h1,h2,h3,h4⟩,hv,hh',hx⟩;cases d with
 |aO z=>exact h4.elim
 |ret z0=>
 obtain⟨u,rfl,h2⟩:=h2;obtain⟨v,rfl,hv⟩:=hv;have h10:=h1 0 (by simp[fL]);obtain⟨cs',zs,ns,ms,j,q1,q2,q3,q4,q5,q6⟩:=h4;obtain⟨q,hq1,hq2⟩:=h3.en 0 _ q1;obtain⟨b,us',hb,rfl,hi'⟩:=hq2;obtain⟨e1',vs',hheap,hvs⟩:=fV hh' hq1;obtain⟨f1,_⟩:=fX h3 hh' (ms.map (·.1)) 60 q2 q3 (λp hp=>dt.2 ⟨p,hp,rfl⟩) hi' hvs;have hms:∀t,(t=0\/t=j)->t∉ms.map (·.1):=λt ht hm=>by
  obtain⟨p,hp,hp0⟩:=dt.1 hm;have:=gH.1 q4 p hp;simp only[bI,je]at this;rcases ht with rfl|rfl
  ·rw[hp0]at this;simp at this
  ·rw[hp0]at this;have h2:=this.2;rw[rl]at h2;cases h2
 --the row that is made,and the two together
 obtain⟨a,c,R,rfl,rfl,hR1,hR2,hR3⟩:∃a c R,v= .slice a rows.length c/\R=ah.row (.slice a rows.length c) e k rows/\(ids [ah.box b us,R]).Nodup/\(∀t∈ids [ah.box b us,R],t∈ids OB')/\(∀A,(∀t,ek F0 OB' (ms.map (·.1)) t->A t)->(R.ok w' A/\(ah.box b us).ok w' A)):=by
  have hbox:∀A,(∀t,ek F0 OB' (ms.map (·.1)) t->A t)->(ah.box b us).ok w' A:=λA hA=>⟨e1',vs',hheap,q5.rel (f1.bm ⟨bA _,λt _ ht=>⟨hA t ht,rfl⟩⟩)⟩;rcases q6 with⟨n,rows0,rfl,rfl,hj,hg,hi2⟩|⟨rfl,rfl⟩
  ·obtain⟨q,hq1',hq2'⟩:=h3.en j _ hg;obtain⟨⟨a,c,hb',rfl⟩,_⟩:=hq2';simp only[aE]at h2;obtain⟨a',c',t',hb'',rfl⟩:=h2;rw[hb']at hb'';cases hb'';have hl:=hi2.length;simp only[Rel]at hv;subst hv;obtain⟨vs2,f4,f5⟩:=fV hh' hq1';have hnr:(ah.row (.slice a rows0.length c) e k rows0).ids.Nodup:=by simp only[ah.ids];cases (Value.slice a rows0.length c).ownBlock<;>simp
   have h2:=Pc hq1 hq1' hj hnr hh'.nodup;have hid:ids [ah.box b us,ah.row (.slice a rows.length c) e k rows]=ids [ah.box b us',ah.row (.slice a rows0.length c) e k rows0]:=by
    cases a<;>simp[ids,ah.ids,Value.ownBlock]
   refine⟨a,c,_,by rw[hl],rfl,by rw[hid];exact h2.1,by rw[hid];exact h2.2,λA hA=>⟨⟨vs2,(hi2.rel f4).bm ⟨bA _,λt _ ht=>⟨hA t (vz _ ht),rfl⟩⟩,by rw[hl];exact f5⟩,hbox A hA⟩⟩
  ·simp only[aE]at h2;subst h2;simp only[Rel]at hv;subst hv;refine⟨none,0,_,rfl,rfl,by simp[ids,ah.ids,Value.ownBlock],λt ht=>ec.2 ⟨_,cy (by rw[<-ck];exact hq1),by simpa[ids,ah.ids,Value.ownBlock]using ht⟩,λA hA=>⟨⟨[],by simp[br],by simp,.inl ⟨rfl,rfl⟩⟩,hbox A hA⟩⟩
 generalize hRd:ah.row (.slice a rows.length c) e k rows=R at*
 have hsub:∀t,ek F0 OB' (ms.map (·.1)) t->Al F0 [ah.box b us,R] t:=λt ht=>by
  refine⟨ht.1,λhm=>?_⟩;rw[show [ah.box b us,R]=[ah.box b us]++[R]from rfl,cg,cN]at hm;rcases hm with hm|hm
  ·exact ht.2 0 _ hq1 (hms 0 (.inl rfl)) (by simpa[ids,ah.ids]using hm)
  ·rcases q6 with⟨n,rows0,rfl,rfl,hj,hg,hi2⟩|⟨rfl,rfl⟩
   ·obtain⟨q,hq1',hq2'⟩:=h3.en j _ hg;obtain⟨⟨a2,c2,hb',rfl⟩,_⟩:=hq2';simp only[aE]at h2;obtain⟨a',c',t',hb'',h2'⟩:=h2;rw[hb']at hb'';cases hb'';subst h2';simp only[Rel]at hv;injection hv with hv1 hv2 hv3
    subst hv1;refine ht.2 j _ hq1' (hms j (.inr rfl)) ?_;subst hRd;cases a with|none=>simp[ids,ah.ids,Value.ownBlock]at hm|some a=>simpa[ids,ah.ids,Value.ownBlock]using hm
   ·simp only[aE]at h2;subst h2;simp only[Rel]at hv;injection hv with hv1 hv2 hv3
    subst hv1;subst hRd;simp[ids,ah.ids,Value.ownBlock]at hm
 have hh2:bz E.toCx.G w' F0 [ah.box b us,R]:=by
  refine⟨λz hz=>?_,hR1,λt ht=>hh'.free t (hR2 t ht),hh'.bound,hh'.dS.bm ⟨bA _,λt _ ht=>⟨hsub t (vz _ ht),rfl⟩⟩⟩;have:=hR3 _ hsub;simp only[dc,mS,or_false]at hz;rcases hz with rfl|rfl
  ·exact this.2
  ·exact this.1
 have hext:Ext [x] w [ah.box b us,R] w':=⟨hx.os,hx.tape,hx.output,hx.size,λt ht hn=>hx.block t ht (by simpa[ids,hids]using hn),λt ht=>(hx.new t (hR2 t ht)).imp (λh=>by simpa[ids,hids]using h) id,hx.drawn⟩;obtain⟨k1,k2⟩:=bz.back hHp hh2 hext;have hp2:([ah.box b us,R]++(l++r)).Perm ((l++ah.box b us::r)++[R]):=by
  have h1:((l++ah.box b us::r)++[R]).Perm (R::(l++ah.box b us::r)):=List.perm_append_singleton _ _;refine List.Perm.trans ?_ h1.symm;refine List.Perm.trans (List.Perm.swap _ _ _) ?_;refine List.Perm.cons _ ?_;exact(Wi (l₁:=l) (l₂:=r) (a:=ah.box b us)).symm
 have hle:L.le ⟨λt=>if t=l.length then L'.b 0 else L.b t,λt n=>if t=l.length then L'.s 0 n else L.s t n⟩:=by
  refine⟨λt b hb=>?_,λt n b hb=>?_⟩
  ·by_cases ht:t=l.length
   ·subst ht;simp only[if_true];exact h10.1 b (by simpa[aC.one]using hb)
   ·simp only[ht,if_false];exact hb
  ·by_cases ht:t=l.length
   ·subst ht;simp only[if_true];exact h10.2 n b (by simpa[aC.one]using hb)
   ·simp only[ht,if_false];exact hb
 have hset:∀(t:Nat),t≠l.length->∀n,(λ(t n:Nat)=>if t=l.length then L'.s 0 n else L.s t n) t n=L.s t n:=λt ht n=>by simp[ht]
 have hlen:l.length<O.n:=by have:=hh.len;simp at this;omega
 have hHS1:HS ⟨λt=>if t=l.length then L'.b 0 else L.b t,λt n=>if t=l.length then L'.s 0 n else L.s t n⟩ (O.set l.length (eW.box us).c) (l++ah.box b us::r):=by
  refine⟨λt z hz=>?_,?_,λt ht=>?_⟩
  ·simp only[Hp.set]at hz;rcases Tr.dU 24 O.e l.length t (some (eW.box us).c) z hz with⟨rfl,q1⟩|⟨hne,q1⟩
   ·cases q1;exact⟨_,G2 _ _ _,⟨b,us,by simpa using hb,rfl,fG _⟩⟩
   ·obtain⟨z',q2,q3⟩:=hh.en t z q1;exact⟨z',by rw[E6 hne];exact q2,q3.mono hle (by funext n;exact hset t hne n)⟩
  ·have:=hh.len;simpa[Hp.set]using this
  ·simp only[Hp.set]at ht;have hne:t≠l.length:=by omega
   simp only[hne,if_false];exact hh.eY t ht
 have hdom:=hHS1.eY O.n (bA _);generalize hρ1:(⟨λt=>if t=l.length then L'.b 0 else L.b t,λt n=>if t=l.length then L'.s 0 n else L.s t n⟩:aC)=L1 at*
 have hle2:L1.le (L1.aY O.n rows.length (a,c)):=aC.iQ λy hy=>by rw[hdom.2]at hy;cases hy
 have hbn:(L1.aY O.n rows.length (a,c)).s O.n rows.length=some (a,c):=by simp[aC.aY]
 refine⟨.ret (.os 0 a rows.length c),(l++ah.box b us::r)++[R],⟨_,.ret (.os O.n rows.length),(O.set l.length (eW.box us).c).push (.row e k rows),(hle.trans hle2).toK _,⟨_,rfl,by simp only[aE];exact⟨_,_,_,hbn,rfl⟩⟩,?_,rfl,rfl⟩,⟨_,rfl,by simp only[Rel]⟩,k1.perm hp2,⟨hx.os,hx.tape,hx.output,hx.size,λt ht hn=>k2.block t ht (λhm=>hn ((l7 hp).mem_iff.2 hm)),λt ht=>(k2.new t ((l7 hp2).mem_iff.2 ht)).imp (λhm=>(l7 hp).mem_iff.2 hm) id,hx.drawn⟩⟩;refine hHS1.push hle2 (λi hi=>by funext m;simp[aC.aY];intro h;exact absurd h hi) (λ_ _=>rfl) ?_;subst hRd;refine⟨⟨a,c,hbn,rfl⟩,λm hm=>?_⟩;have:m≠rows.length:=by omega
 simp only[aC.aY,this,and_false,if_false];exact hdom.2 m
theorem af.Af {dst:Option Nat} {f:Operand} {args:List Operand} {g:FuncId} {cs xs xs':List CV} {ce:bg} {us0 us:List AV} {e kk:Nat} {rows:List (List AV)} {tys:Array TypeId} {ty:TypeId} {pos:String} {after:Array Edge} (i:Nat)
  (h:nO E g xs us0 us e kk rows) (hc:cT Z f args=some (g,cs)) (hr:k7 i cs=some xs') (hx:xs'=xs) (hi:O.e.get i=some ce) (hs:aJ ce (.box us0)) (hd:cj N dst=true)
  (k1:af E N K (.ops all rest::k) Q (bN Z dst (.os O.n rows.length)) ((O.set i (eW.box us).c).push (.row e kk rows))):
  af E N K (.ops all (⟨dst,.call {callee:= .value f,args:=args.toArray,argTypes:=tys},ty,pos,after,none⟩::rest)::k) Q Z O:=by
 subst hx;exact DO.call (h.frame hr hi hs) hc hd (λx η' hq=>by obtain⟨e,rfl⟩:=hq;cases e;exact k1) (λx η' hq=>by cases hq.1)
theorem nO.walk {g:FuncId} {fn:Func} {c:Code} {xs:List CV} {rs:List ResultVar} {nt:Nat} {us0 us:List AV} {e kk:Nat} {rows:List (List AV)} (hf:E.P.funcs[g]? =some fn) (hb:fn.body=some c) (hname:(fn.name== "runtime.NumGoroutine")=false) (hrs:fn.results=rs.toArray) (hnt:fn.ntmps=nt) (hn:Nat.ble xs.length nt=true)
  (h:af E nt 1 [.code c] (RD E.T rs (Ae us e kk rows)) (fN 0 xs) (fL [(eW.box us0).c])):nO E g xs us0 us e kk rows:=dR.enter hf hb hname rs hrs nt hnt hn h
theorem RD.Ij {rs:List ResultVar} {xs cs:List CV} {zs us:List AV} {e kk j n:Nat} {rows0 rows:List (List AV)} {ns:List (Nat×Nat)} {ms:List (Nat×bg)} (h:dH E.T Z O rs=some xs) (hp:ed xs= .os j n) (hn:n=rows0.length) (hj:Nat.blt 0 j=true) (hg0:O.e.get 0=some (.box cs)) (hf:bY O.e 60 cs=some (zs,ns,ms)) (hq:eqs ns) (hm:(ms.all λp=>Nat.blt 0 p.1&& !Nat.beq p.1 j)=true) (hg:O.e.get j=some (.row e kk rows0)) (e':de rows0 rows) (i:bP zs us):RD E.T rs (Ae us e kk rows) .ret Z O:=
 ⟨xs,h,cs,zs,ns,ms,j,hg0,hf,hq,hm,i,.inl ⟨n,rows0,hp,hn,by simpa using hj,hg,e'⟩⟩
