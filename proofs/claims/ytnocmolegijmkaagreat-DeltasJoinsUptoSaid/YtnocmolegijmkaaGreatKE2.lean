/- Calls that write what they are handed: one entry of own memory, told before and after. -/
import Derived.Test.YtnocmolegijmkaaGreatKE1
set_option linter.all false
noncomputable section
namespace Go.Bw
open Go
inductive lR where
 |box (us:List AV)
 |row (e k:Nat) (rows:List (List AV))
 |lb (l:List Int)
def lR.c:lR->bC
 | .box us=> .box (us.map .d)
 | .row e k rows=> .row e k rows
 | .lb l=> .lb l
inductive o9:bC->lR->Prop where
 |box {cs:List CV} {us0 us:List AV}:iT cs=some us0->cN us0 us->o9 (.box cs) (.box us)
 |row {e k:Nat} {rows0 rows:List (List AV)}:eu rows0 rows->o9 (.row e k rows0) (.row e k rows)
 |lb {l:List Int}:o9 (.lb l) (.lb l)
def AA (y:AV) (e':lR):DR->Hp->Prop
 | .ret x,L=>(match e' with
  | .box us=>∃cs z zs ns ms,L.e.get 0=some (.box cs)/\cF L.e 60 (x::cs)=some (z::zs,ns,ms)/\eqs ns/\(ms.all λp=>Nat.blt 0 p.1)=true/\cz z y/\cN zs us
  | .row e k rows=>∃rows0 z ns ms,L.e.get 0=some (.row e k rows0)/\cF L.e 60 [x]=some ([z],ns,ms)/\eqs ns/\(ms.all λp=>Nat.blt 0 p.1)=true/\cz z y/\eu rows0 rows
  | .lb l=>∃l0 z ns ms,L.e.get 0=some (.lb l0)/\cF L.e 60 [x]=some ([z],ns,ms)/\eqs ns/\(ms.all λp=>Nat.blt 0 p.1)=true/\cz z y/\l0=l)
 | .aT _,_=>False
def kv (E:Env) (g:FuncId) (args:List CV) (e:lR) (y:AV) (e':lR):Prop:=gm E g args (jH [e.c]) (AA y e')
def sH (i:Nat):CV->Option CV
 | .d x=>some (.d x)
 | .own t o=>match Nat.beq t i with
  |true=>some (.own 0 o)
  |false=>none
 | .os t n=>match Nat.beq t i with
  |true=>some (.os 0 n)
  |false=>none
 | .oe t n o=>match Nat.beq t i with
  |true=>some (.oe 0 n o)
  |false=>none
 | .agg [.om t]=>match Nat.beq t i with
  |true=>some (.agg [.om 0])
  |false=>none
 |_=>none
def wE (i:Nat):List CV->Option (List CV)
 |[]=>some []
 |x::xs=>match sH i x,wE i xs with
  |some y,some ys=>some (y::ys)
  |_,_=>none
def aN.one (Z:aN) (i:Nat):aN:=⟨λt=>if t=0 then Z.b i else none,λt n=>if t=0 then Z.s i n else none⟩
theorem ace {Z:aN} {i:Nat} {x y:CV} {u:AV} (h:sH i x=some y) (hi:aK Z x u):aK (Z.one i) y u:=by
 cases x with
 |d z=>simp only[sH,aE]at h;subst h;exact hi
 |own t o=>
  simp only[sH]at h;split at h
  ·rename_i hb;cases h;have:=bQ hb;subst this;simp only[aK]at hi⊢;obtain⟨b,t',h1,h2⟩:=hi;exact⟨b,t',by simpa[aN.one]using h1,h2⟩
  ·cases h
 |os t n=>
  simp only[sH]at h;split at h
  ·rename_i hb;cases h;have:=bQ hb;subst this;simp only[aK]at hi⊢;obtain⟨a,c,t',h1,h2⟩:=hi;exact⟨a,c,t',by simpa[aN.one]using h1,h2⟩
  ·cases h
 |oe t n o=>
  simp only[sH]at h;split at h
  ·rename_i hb;cases h;have:=bQ hb;subst this;simp only[aK]at hi⊢;obtain⟨a,c,t',h1,h2⟩:=hi;exact⟨a,c,t',by simpa[aN.one]using h1,h2⟩
  ·cases h
 |agg xs=>
  rcases xs with _|⟨x,_|⟨x2,r⟩⟩
  ·cases h
  ·cases x with
   |om t=>
    simp only[sH]at h;split at h
    ·rename_i hb;cases h;have:=bQ hb;subst this;simp only[aK,aS]at hi⊢;obtain⟨ys,rfl,y,r,rfl,⟨b,t',h1,rfl⟩,rfl⟩:=hi;exact⟨_,rfl,_,_,rfl,⟨b,t',by simpa[aN.one]using h1,rfl⟩,rfl⟩
    ·cases h
   |_=>cases h
  ·cases x<;>cases h
 |_=>cases h
theorem Qc {Z:aN} {i:Nat}:∀{xs ys:List CV} {us:List AV},wE i xs=some ys->aS Z xs us->aS (Z.one i) ys us
 |[],ys,us,h,hi=>by simp only[wE,aE]at h;subst h;exact hi
 |x::xs,ys,us,h,hi=>by
  simp only[wE]at h;split at h
  ·rename_i y ys' h1 h2;cases h;simp only[aS]at hi⊢;obtain⟨u,r,rfl,h3,h4⟩:=hi;exact⟨u,r,rfl,ace h1 h3,Qc h2 h4⟩
  ·cases h
theorem Ie {Z:aN}:∀{cs:List CV} {us ys:List AV},iT cs=some us->aS Z cs ys->ys=us
 |[],us,ys,h,hi=>by simp only[iT,aE]at h;subst h;exact hi
 |c::cs,us,ys,h,hi=>by
  cases c<;>simp only[iT]at h<;>try cases h
  split at h
  ·rename_i zs h1;cases h;simp only[aS,aK]at hi;obtain⟨u,r,rfl,rfl,h3⟩:=hi;rw[Ie h1 h3]
  ·cases h
theorem Qd:∀{l:List aq} {i:Nat} {x:aq},nth l i=some x->∃a b,l=a++x::b/\a.length=i
 |[],_,_,h=>by simp[nth]at h
 |y::l,0,x,h=>by simp only[nth,aE]at h;subst h;exact⟨[],l,rfl,rfl⟩
 |y::l,i+1,x,h=>by
  simp only[nth]at h;obtain⟨a,b,rfl,rfl⟩:=Qd h;exact⟨y::a,b,rfl,rfl⟩
theorem aeO (a b:List aq) (x:aq):nth (a++x::b) a.length=some x:=by rw[cM];simp
theorem acf {a b:List aq} {x y:aq} {j:Nat} (hj:j≠a.length):nth (a++x::b) j=nth (a++y::b) j:=by
 rw[cM,cM];rcases nE j a.length with h|h
 ·rw[mF h,mF h]
 ·rw[xK h,xK h];obtain⟨m,hm⟩:∃m,j-a.length=m+1:=⟨j-a.length-1,by omega⟩;rw[hm];rfl
section
variable {E:Env} {N K:Nat} {Q:DQ} {O:TS} {L:Hp} {o:Oper} {all rest:List Oper} {k:List It}
theorem Qg {w w':World} {A A':Nat->Prop}:∀{l:List Int} {a:List MapEntry},gu w A (sq l) a->gu w' A' (sq l) a
 |[],a,h=>h
 |x::l,a,h=>by
  simp only[sq,dp,gu,Rel]at h⊢;obtain⟨e,r,rfl,h1,h2,h3⟩:=h;exact⟨e,r,rfl,h1,h2,Qg (l:=l) h3⟩
theorem kv.frame {g:FuncId} {cs args:List CV} {i:Nat} {ce:bC} {e0 e1:lR} {y:AV} (h:kv E g args e0 y e1) (hr:wE i cs=some args) (hi:L.e.get i=some ce) (hs:o9 ce e0):
  gm E g cs L (λr L'=>r= .ret (.d y)/\L'=L.set i e1.c):=λZ ys LB hys hh=>by
 obtain⟨x,hx1,hx2⟩:=hh.en i _ hi;obtain⟨l,r,rfl,rfl⟩:=Qd hx1
 --the entry in the callee's words
 obtain⟨x0,hx0,hids,hxe⟩:∃x0:aq,mZ (Z.one l.length) 0 e0.c x0/\x0.ids=x.ids/\∀w A,x.ok w A->x0.ok w A:=by
  cases hs with
  |box h1 h2=>
   obtain⟨b,cs',h3,rfl,h4⟩:=hx2;rename_i us0 us;have:=Ie h1 h4;subst this;refine⟨.box b us,⟨b,us,by simpa[aN.one]using h3,rfl,jv _⟩,rfl,λw A=>?_⟩;rintro ⟨e,vs,h5,h6⟩;exact⟨e,vs,h5,h2.rel h6⟩
  |row h2=>
   obtain⟨⟨a,c,h3,rfl⟩,h4⟩:=hx2;rename_i e k rows0 rows;have hl:=h2.length;refine⟨.row (.slice a rows.length c) e k rows,⟨⟨a,c,by simpa[aN.one,hl]using h3,rfl⟩,λm hm=>by simpa[aN.one]using h4 m (by omega)⟩,by cases a<;>simp[aq.ids,Value.ownBlock],λw A=>?_⟩;rintro ⟨vs,h5,h6⟩;exact⟨vs,h2.rel h5,by rw[hl];exact h6⟩
  |lb=>
   obtain⟨b,h3,rfl⟩:=hx2;exact⟨.map b (sq _),⟨b,by simpa[aN.one]using h3,rfl⟩,rfl,λ_ _ h=>h⟩
 have hS0:HS (Z.one l.length) (jH [e0.c]) [x0]:=by
  refine⟨λt z hz=>?_,rfl,λt ht=>?_⟩
  ·simp only[jH,qT]at hz;rcases Tr.fy 24 .lf 0 t (some e0.c) z hz with⟨rfl,h1⟩|⟨_,h1⟩
   ·cases h1;exact⟨x0,rfl,hx0⟩
   ·simp[Tr.lI]at h1
  ·have:t≠0:=by simp[jH]at ht;omega
   exact⟨by simp[aN.one,this],λn=>by simp[aN.one,this]⟩
 have h0:=h (Z.one l.length) ys [x0] (Qc hr hys) hS0;refine⟨h0.1,λF w vs hH hR=>?_⟩
 let F0:Nat->Prop:=λb=>F b\/b∈ids l\/b∈ids r
 have hA:∀z:aq,Al F0 [z]=Al F (l++z::r):=λz=>funext λb=>propext (by
  simp only[Al,F0,cB,cJ,b7,show ids []=[]from rfl,jO,not_or];constructor
  ·rintro ⟨⟨a1,a2,a3⟩,a4⟩;exact⟨a1,a2,a4,a3⟩
  ·rintro ⟨a1,a2,a3,a4⟩;exact⟨⟨a1,a2,a4⟩,a3⟩)
 have hAx:Al F0 [x0]=Al F (l++x::r):=by
  rw[hA];funext b;simp only[Al,cB,cJ,hids]
 have hnd:=hH.nodup;simp only[cB,cJ,ly,b7]at hnd;have hfr:=hH.free;have hltb:=hH.lt;simp only[cB,cJ,b7]at hfr hltb;have hH0:bM E.toCx.G w F0 [x0]:=by
  refine⟨λz hz=>?_,?_,λb hb=>?_,λb hb=>?_,?_⟩
  ·simp only[iZ]at hz;subst hz;rw[hAx];exact hxe _ _ (hH.eG x (by simp))
  ·simp only[ids,tr,aaj,jO,hids];exact hnd.2.1.1
  ·simp only[ids,tr,aaj,jO,hids]at hb;rintro (hF|hl|hr')
   ·exact hfr b (.inr (.inl hb)) hF
   ·exact hnd.2.2 b hl b (.inl hb) rfl
   ·exact hnd.2.1.2.2 b hb b hr' rfl
  ·rcases hb with hF|hl|hr'
   ·exact hH.bound b hF
   ·exact hltb b (.inl hl)
   ·exact hltb b (.inr (.inr hr'))
  ·rw[hAx];exact hH.gK
 refine(h0.2 F0 w vs hH0 (by rw[hAx];exact hR)).mono ?_;rintro e w' ⟨r',LB',⟨Z',d,L1,h1,h2,h3,h4⟩,hv,hh',hx⟩;cases d with
 |aT z=>exact h4.elim
 |ret z0=>
 obtain⟨u,rfl,h2⟩:=h2;obtain⟨v,rfl,hv⟩:=hv;have h10:=h1 0 (by simp[jH])
 --what is left there
 obtain⟨x',g1,g2,g3,g4,g5⟩:∃x':aq,mZ ⟨λt=>if t=l.length then Z'.b 0 else Z.b t,λt n=>if t=l.length then Z'.s 0 n else Z.s t n⟩ l.length e1.c x'/\x'.ok w' (Al F (l++x'::r))/\(∀b∈x'.ids,b∈ids LB')/\x'.ids.Nodup/\Rel w' (Al F (l++x'::r)) y v:=by
  cases e1 with
  |box us=>
   obtain⟨cs',z,zs,ns,ms,q1,q2,q3,q4,q5,q6⟩:=h4;obtain⟨q,hq1,hq2⟩:=h3.en 0 _ q1;obtain⟨b,us',hb,rfl,hi'⟩:=hq2;obtain⟨e',vs',hheap,hvs⟩:=ju hh' hq1;obtain⟨f1,_⟩:=jU h3 hh' (ms.map (·.1)) 60 q2 q3 (λp hp=>dP.2 ⟨p,hp,rfl⟩) (by simp only[aS];exact⟨u,us',rfl,h2,hi'⟩) (vs:=v::vs') (by simp only[aL];exact⟨v,vs',rfl,hv,hvs⟩);have hk:dF w' (gy F0 LB' (ms.map (·.1))) w' (Al F (l++(aq.box b us)::r)):=⟨bX _,λb' _ hb'=>⟨by
    rw[<-hA];refine⟨hb'.1,?_⟩;have:=hb'.2 0 _ hq1 (λhm=>by
     obtain⟨p,hp,hp0⟩:=dP.1 hm;have:=gf.1 q4 p hp;rw[hp0]at this;simp at this)
    simpa[ids,aq.ids]using this,rfl⟩⟩
   simp only[aL]at f1;obtain⟨v1,vs1,e1',f2,f3⟩:=f1;simp only[kn]at e1';obtain⟨rfl,rfl⟩:=e1';exact⟨.box b us,⟨b,us,by simpa using hb,rfl,jv _⟩,⟨e',vs',hheap,q6.rel (f3.keep hk)⟩,λb' hb'=>gB.2 ⟨_,aV (by rw[<-cM];exact hq1),by simpa[aq.ids]using hb'⟩,by simp[aq.ids],q5 _ _ _ (f2.keep hk)⟩
  |row e k rows=>
   obtain⟨rows0,z,ns,ms,q1,q2,q3,q4,q5,q6⟩:=h4;obtain⟨q,hq1,hq2⟩:=h3.en 0 _ q1;obtain⟨⟨a,c,hb,rfl⟩,hm⟩:=hq2;have hl:=q6.length;obtain⟨vs',f4,f5⟩:=ju hh' hq1;obtain⟨f1,_⟩:=jU h3 hh' (ms.map (·.1)) 60 q2 q3 (λp hp=>dP.2 ⟨p,hp,rfl⟩) (by simp only[aS];exact⟨u,[],rfl,h2,rfl⟩) (vs:=[v]) (by simp only[aL];exact⟨v,[],rfl,hv,rfl⟩);have hk:dF w' (gy F0 LB' (ms.map (·.1))) w' (Al F (l++(aq.row (.slice a rows.length c) e k rows)::r)):=⟨bX _,λb' _ hb'=>⟨by
    rw[<-hA];refine⟨hb'.1,?_⟩;have:=hb'.2 0 _ hq1 (λhm=>by
     obtain⟨p,hp,hp0⟩:=dP.1 hm;have:=gf.1 q4 p hp;rw[hp0]at this;simp at this)
    cases a with|none=>simp[ids,aq.ids,Value.ownBlock]|some a=>simpa[ids,aq.ids,Value.ownBlock]using this,rfl⟩⟩
   simp only[aL]at f1;obtain⟨v1,vs1,e1',f2,f3⟩:=f1;simp only[kn]at e1';obtain⟨rfl,rfl⟩:=e1';refine⟨.row (.slice a rows.length c) e k rows,⟨⟨a,c,by simpa[hl]using hb,rfl⟩,λm hm'=>by simpa using hm m (by omega)⟩,⟨vs',(q6.rel f4).keep ⟨bX _,λb' hb' ha=>hk.2 b' hb' (UG _ ha)⟩,by rw[hl];exact f5⟩,λb' hb'=>gB.2 ⟨_,aV (by rw[<-cM];exact hq1),by cases a with|none=>simp[aq.ids,Value.ownBlock]at hb'|some a=>simpa[aq.ids,Value.ownBlock]using hb'⟩,?_,q5 _ _ _ (f2.keep hk)⟩;simp only[aq.ids];cases (Value.slice a rows.length c).ownBlock<;>simp
  |lb l1=>
   obtain⟨l0,z,ns,ms,q1,q2,q3,q4,q5,rfl⟩:=h4;obtain⟨q,hq1,hq2⟩:=h3.en 0 _ q1;obtain⟨b,hb,rfl⟩:=hq2;obtain⟨a,clock,hheap,hr,hnd',hlt'⟩:=ju hh' hq1;obtain⟨f1,_⟩:=jU h3 hh' (ms.map (·.1)) 60 q2 q3 (λp hp=>dP.2 ⟨p,hp,rfl⟩) (by simp only[aS];exact⟨u,[],rfl,h2,rfl⟩) (vs:=[v]) (by simp only[aL];exact⟨v,[],rfl,hv,rfl⟩);have hk:dF w' (gy F0 LB' (ms.map (·.1))) w' (Al F (l++(aq.map b (sq l0))::r)):=⟨bX _,λb' _ hb'=>⟨by
    rw[<-hA];refine⟨hb'.1,?_⟩;have:=hb'.2 0 _ hq1 (λhm=>by
     obtain⟨p,hp,hp0⟩:=dP.1 hm;have:=gf.1 q4 p hp;rw[hp0]at this;simp at this)
    simpa[ids,aq.ids]using this,rfl⟩⟩
   simp only[aL]at f1;obtain⟨v1,vs1,e1',f2,f3⟩:=f1;simp only[kn]at e1';obtain⟨rfl,rfl⟩:=e1';exact⟨.map b (sq l0),⟨b,by simpa using hb,rfl⟩,⟨a,clock,hheap,Qg hr,hnd',hlt'⟩,λb' hb'=>gB.2 ⟨_,aV (by rw[<-cM];exact hq1),by simpa[aq.ids]using hb'⟩,by simp[aq.ids],q5 _ _ _ (f2.keep hk)⟩
 have hnew:∀b∈x'.ids,b∈x.ids\/w.heap.size<=b:=λb hb=>(hx.new b (g3 b hb)).imp (λhb=>by simpa[ids,hids]using hb) id;have hblk:∀b,b<w.heap.size->b∉x.ids->w'.heap[b]? =w.heap[b]? :=λb hb hn=>hx.block b hb (by simpa[ids,hids]using hn);have hset:∀(t:Nat),t≠l.length->∀n,(λ(t n:Nat)=>if t=l.length then Z'.s 0 n else Z.s t n) t n=Z.s t n:=λt ht n=>by simp[ht]
 have hle:Z.le ⟨λt=>if t=l.length then Z'.b 0 else Z.b t,λt n=>if t=l.length then Z'.s 0 n else Z.s t n⟩:=by
  refine⟨λt b hb=>?_,λt n b hb=>?_⟩
  ·by_cases ht:t=l.length
   ·subst ht;simp only[if_true];exact h10.1 b (by simpa[aN.one]using hb)
   ·simp only[ht,if_false];exact hb
  ·by_cases ht:t=l.length
   ·subst ht;simp only[if_true];exact h10.2 n b (by simpa[aN.one]using hb)
   ·simp only[ht,if_false];exact hb
 have hlen:l.length<L.n:=by have:=hh.len;simp at this;omega
 refine⟨.ret y,l++x'::r,⟨_,.ret (.d y),L.set l.length e1.c,hle.toK _,⟨y,rfl,rfl⟩,⟨λt z hz=>?_,?_,λt ht=>?_⟩,rfl,rfl⟩,⟨v,rfl,g5⟩,hH.lU hx.size hblk hnew g4 g2,⟨hx.os,hx.tape,hx.output,hx.size,λb hb hn=>hblk b hb (λhm=>hn (by simp only[cB,cJ,b7];exact .inr (.inl hm))),λb hb=>?_,hx.drawn⟩⟩
 ·simp only[Hp.set]at hz;rcases Tr.fy 24 L.e l.length t (some e1.c) z hz with⟨rfl,q1⟩|⟨hne,q1⟩
  ·cases q1;exact⟨x',aeO _ _ _,g1⟩
  ·obtain⟨z',q2,q3⟩:=hh.en t z q1;exact⟨z',by rw[acf hne];exact q2,q3.mono hle (by funext n;exact hset t hne n)⟩
 ·have:=hh.len;simpa[Hp.set]using this
 ·simp only[Hp.set]at ht;have hne:t≠l.length:=by omega
  simp only[hne,if_false];exact hh.iX t ht
 ·simp only[cB,cJ,b7]at hb⊢;rcases hb with hb|hb|hb
  ·exact .inl (.inl hb)
  ·rcases hnew b hb with hb|hb
   ·exact .inl (.inr (.inl hb))
   ·exact .inr hb
  ·exact .inl (.inr (.inr hb))
theorem ao.na {dst:Option Nat} {f:Operand} {args:List Operand} {g:FuncId} {cs xs xs':List CV} {ce:bC} {e0 e1:lR} {y:AV} {tys:Array TypeId} {ty:TypeId} {pos:String} {after:Array Edge} (i:Nat)
  (h:kv E g xs e0 y e1) (hc:eI O f args=some (g,cs)) (hr:wE i cs=some xs') (hx:xs'=xs) (hi:L.e.get i=some ce) (hs:o9 ce e0) (hd:cP N dst=true)
  (k1:ao E N K (.ops all rest::k) Q (cv O dst (.d y)) (L.set i e1.c)):
  ao E N K (.ops all (⟨dst,.call {callee:= .value f,args:=args.toArray,argTypes:=tys},ty,pos,after,none⟩::rest)::k) Q O L:=by
 subst hx;exact DO.call (h.frame hr hi hs) hc hd (λx L' hq=>by obtain⟨e,rfl⟩:=hq;cases e;exact k1) (λx L' hq=>by cases hq.1)
def rU (ty:Nat) (z:AV):Option (Int×Int):=match z with
 | .bP t (.agg [.v (.int .i64 a),.v (.int .i64 b)])=>bif Nat.beq t ty then some (a,b)else none
 |_=>none
theorem aa7 {ty:Nat} {z:AV} {p:Int×Int} (h:rU ty z=some p):z= .bP ty (.agg [.v (.int .i64 p.1),.v (.int .i64 p.2)]):=by
 unfold rU at h;split at h
 ·rename_i t a b;cases hb:Nat.beq t ty with
  |false=>rw[hb]at h;cases h
  |true=>rw[hb]at h;cases h;rw[bQ hb]
 ·cases h
def iY {D β:Type} (ty:Nat) (o:Option (bG D)) (g:Int->Int->Option β) (f:D->Option β):Option β:=match o with
 |some (.ret x)=>f x
 |some (.aT z)=>(rU ty z).bind λp=>g p.1 p.2
 |none=>none
theorem adi {D β:Type} {ty:Nat} {o:Option (bG D)} {g:Int->Int->Option β} {f:D->Option β} {r:β} (h:iY ty o g f=some r):(∃a b,o=some (.aT (.bP ty (.agg [.v (.int .i64 a),.v (.int .i64 b)])))/\g a b=some r)\/∃x,o=some (.ret x)/\f x=some r:=by
 cases o with
 |none=>cases h
 |some x=>cases x with
  |ret x=>exact .inr ⟨x,rfl,h⟩
  |aT z=>
   obtain⟨p,h1,h2⟩:=cE h;rw[aa7 h1];exact .inl ⟨p.1,p.2,rfl,h2⟩
theorem ao.adj {dst dst':Option Nat} {f:Operand} {args:List Operand} {g:FuncId} {cs:List CV} {xs' xs:List AV} {ns:List (Nat×Nat)} {ms:List (Nat×bC)} {ty':Nat} {a b:Int} {N' K':Nat} {O':TS} {k':List It} {tys:Array TypeId} {ty:TypeId} {pos:String} {after:Array Edge} (h:Pure E.toCx g xs (.aT (.bP ty' (.agg [.v (.int .i64 a),.v (.int .i64 b)])))) (hc:eI O f args=some (g,cs)) (hf:cF L.e 60 cs=some (xs',ns,ms)) (hn:eqs ns) (hi:cN xs' xs) (hl:ms=[]\/dD (.bP ty' (.agg [.v (.int .i64 a),.v (.int .i64 b)]))=true)
  (hp:kW k=some (N',K',O',dst',ty',k')) (hq:ao E N' K' k' Q (cv O' dst' (.d (.agg [.v (.int .i64 a),.v (.int .i64 b)]))) L):ao E N K (.ops all (⟨dst,.call {callee:= .value f,args:=args.toArray,argTypes:=tys},ty,pos,after,none⟩::rest)::k) Q O L:=by
 show DO E N K all _ (dq E N K k Q) O L;exact DO.uD 60 h hc hf hn hi hl (nQ (y:= .agg [.v (.int .i64 a),.v (.int .i64 b)]) (.inr rfl) rfl k N K hp hq)
theorem kv.walk {g:FuncId} {fn:Func} {c:Code} {xs:List CV} {rs:List ResultVar} {nt:Nat} {e0 e1:lR} {y:AV} (hf:E.P.funcs[g]? =some fn) (hb:fn.body=some c) (hname:(fn.name== "runtime.NumGoroutine")=false) (hrs:fn.results=rs.toArray) (hnt:fn.ntmps=nt) (hn:Nat.ble xs.length nt=true)
  (h:ao E nt 1 [.code c] (RD E.T rs (AA y e1)) (jy 0 xs) (jH [e0.c])):kv E g xs e0 y e1:=gm.enter hf hb hname rs hrs nt hnt hn h
theorem RD.UD {rs:List ResultVar} {xs cs:List CV} {z y:AV} {zs us:List AV} {ns:List (Nat×Nat)} {ms:List (Nat×bC)} (h:eX E.T O L rs=some xs) (hg:L.e.get 0=some (.box cs)) (hf:cF L.e 60 (fY xs::cs)=some (z::zs,ns,ms)) (hn:eqs ns) (hm:(ms.all λp=>Nat.blt 0 p.1)=true) (e:cz z y) (e':cN zs us):RD E.T rs (AA y (.box us)) .ret O L:=
 ⟨xs,h,cs,z,zs,ns,ms,hg,hf,hn,hm,e,e'⟩
theorem ao.fX (j:Nat) {e kk:Nat} {rows rows':List (List AV)} (hi:L.e.get j=some (.row e kk rows)) (hI:eu rows rows') (h:ao E N K (.ops all rest::k) Q O (L.set j (.row e kk rows'))):ao E N K (.ops all rest::k) Q O L:=by
 show DO E N K all rest _ O L;intro Z σB LB hs hh;obtain⟨y,hy,hE⟩:=hh.en j _ hi;obtain⟨⟨a,c,ha,rfl⟩,hm⟩:=hE;have hl:=hI.length;refine cj.lQ (fm.qU j (y:= .row (.slice a rows.length c) e kk rows') hy rfl (λw A h=>?_)) ?_
 ·obtain⟨vs,h1,h2⟩:=h;exact⟨vs,hI.rel h1,by rw[hl];exact h2⟩
 exact h Z _ _ hs (hh.set (.refl Z) (λ_ _=>rfl) (λ_ _=>rfl) (hh.lt hi) ⟨⟨a,c,by rw[hl];exact ha,by rw[hl]⟩,λm hm'=>hm m (by omega)⟩)
def o6 (m:Int):Option Nat:=match m with
 | .ofNat l=>bif Nat.ble l 274877906944 then some l else none
 | .negSucc _=>none
theorem D3 {m:Int} {l:Nat} (h:o6 m=some l):m=(l:Int)/\l<=274877906944:=by
 unfold o6 at h;split at h
 ·rename_i k;cases hb:Nat.ble k 274877906944 with
  |false=>rw[hb]at h;cases h
  |true=>rw[hb]at h;cases h;exact⟨rfl,eH hb⟩
 ·cases h
theorem eu.replicate {a b:List AV} (h:cN a b):∀m:Nat,eu (List.replicate m a) (List.replicate m b)
 |0=> .nil
 |m+1=> .cons h (eu.replicate h m)
theorem ao.make {d:Nat} {t:TypeId} {p q:Operand} {ty:TypeId} {pos:String} {after:Array Edge} {e kk sz by' sz' by'':Nat} {z z':List Value} {td':TD} {kl kc:IntKind} {li ci:Int} (l:Nat)
  (hx:aY O p=some (.d (.v (.int kl li)))) (hli:li=(l:Int)) (hy:aY O q=some (.d (.v (.int kc ci)))) (hci:ci=(l:Int)) (ht:bc E.T t=some ⟨.slice e kk,sz,by',z⟩) (hte:bc E.T e=some ⟨td',sz',by'',z'⟩)
  (hk:Nat.ble 1 kk=true) (hby:Nat.ble 1 by''=true) (hd:Nat.blt d N=true) (hb:l*by''<=140737488355328)
  (h:ao E N K (.ops all rest::k) Q (cv O (some d) (.os L.n l)) (L.push (.row e kk (List.replicate l (z'.map .v))))):ao E N K (.ops all (⟨some d,.makeSlice t p q,ty,pos,after,none⟩::rest)::k) Q O L:=
 DO.make l l hb (bX _) hx hli hy hci ht hte hk hby hd h
theorem ao.FO {d:Nat} {t:TypeId} {p q:Operand} {ty:TypeId} {pos:String} {after:Array Edge} {e kk sz by' sz' by'':Nat} {z z':List Value} {td':TD} {kl kc:IntKind} {li ci:Int} (l:Nat) (rows':List (List AV))
  (hx:aY O p=some (.d (.v (.int kl li)))) (hli:li=(l:Int)) (hy:aY O q=some (.d (.v (.int kc ci)))) (hci:ci=(l:Int)) (ht:bc E.T t=some ⟨.slice e kk,sz,by',z⟩) (hte:bc E.T e=some ⟨td',sz',by'',z'⟩)
  (hk:Nat.ble 1 kk=true) (hby:Nat.ble 1 by''=true) (hd:Nat.blt d N=true) (hb:l*by''<=140737488355328) (hI:eu (List.replicate l (z'.map .v)) rows') (hg:(L.push (.row e kk (List.replicate l (z'.map .v)))).e.get L.n=some (.row e kk (List.replicate l (z'.map .v))))
  (h:ao E N K (.ops all rest::k) Q (cv O (some d) (.os L.n rows'.length)) ((L.push (.row e kk (List.replicate l (z'.map .v)))).set L.n (.row e kk rows'))):ao E N K (.ops all (⟨some d,.makeSlice t p q,ty,pos,after,none⟩::rest)::k) Q O L:=by
 have hl:rows'.length=l:=by have:=hI.length;simpa using this
 refine ao.make l hx hli hy hci ht hte hk hby hd hb ?_;rw[hl]at h;exact ao.fX L.n (rows:=List.replicate l (z'.map .v)) hg hI h
theorem b5.v7 (t:Nat) {x y:AV} {R:DR->Hp->Prop} (ht:O.get t=some (.d x)) (hi:cz x y) (h:b5 E N o (Tr.put 24 O t (some (.d y))) L R):b5 E N o O L R:=λZ s LB hs hh=>by
 obtain⟨z,h1,h2⟩:=hs t _ ht;simp only[aK]at h2;subst h2;have hs1:SS Z (Tr.put 24 O t (some (.d y))) (gq s t y):=λu q hq=>by
  rcases Tr.fy 24 O t u _ q hq with⟨rfl,h3⟩|⟨hne,h3⟩
  ·cases h3;exact⟨y,by simp[gq],rfl⟩
  ·obtain⟨q',h4,h5⟩:=hs u q h3;exact⟨q',by simp[gq,hne,h4],h5⟩
 intro F w a hN hd hH hopd;refine h Z (gq s t y) LB hs1 hh F w a hN hd hH (λu hu q hq=>?_);unfold gq at hq;split at hq
 ·rename_i hut;subst hut;simp only[aE]at hq;subst hq;obtain⟨g1,g2⟩:=hopd u hu _ h1;exact⟨g1,hi _ _ _ g2⟩
 ·exact hopd u hu q hq
theorem ao.aa8 {l:List (Nat×Oper×TK)} {A:b6} {pend:List (Nat×Oper×CV)} {fs:List (Nat×List AV×AV)} {q:Nat} {t:TypeId} {p v:Operand} {i n m e kk:Nat} {rows:List (List AV)} {r r':List AV} {x:AV} {ti:TI} {O1:TS} {L1:Hp} (u:Nat) (y:AV) (j off:Nat) (hpd:aJ E N all pend O L) (hnd:fW ((eh (cD all.toArray q A)).map (·.1))=true) (hd:o.dst=none) (cU:fB (eh (cD all.toArray q A)) O L=(O1,L1)) (hw:cZ all o O1=some true)
  (ho:o.op= .store t p v) (hu:O1.get u=some (.d x)) (hI:cz x y) (hp:aY (Tr.put 24 O1 u (some (.d y))) p=some (.oe i n m)) (hv:aY (Tr.put 24 O1 u (some (.d y))) v=some (.d y)) (hi:L1.e.get i=some (.row e kk rows)) (hn:n=rows.length)
  (hm:m=j*kk+off) (hr:rows[j]? =some r) (ht:bc E.T t=some ti) (hk:Nat.beq (cH y).length ti.size=true) (h1:fc (cH y)=true) (hl:fN r off (cH y)=some r')
  (h:ao E N K (.tl all l (cO all.toArray q A) (dg all q pend) fs::k) Q O1 (L1.set i (.row e kk (rows.set j r')))):ao E N K (.tl all ((q,o,.one)::l) A pend fs::k) Q O L:=
 ao.sr hpd hnd (by rw[hd];rfl) cU hw (b5.v7 u hu hI (b5.l9 j off ho hp hv hi hn hm hr ht hk h1 hl)) (λx L' hR=>by obtain⟨h2,rfl⟩:=hR;rw[hd];exact h) (λx L' hR=>by cases hR.1)
def FP (e k:Nat) (rows:List (List AV)):DR->Hp->Prop
 | .ret x,L=>(∃j n rows0,x= .os j n/\n=rows0.length/\L.e.get j=some (.row e k rows0)/\eu rows0 rows)\/(x= .d (.v (.slice none 0 0))/\rows=[])
 | .aT _,_=>False
def kX (E:Env) (g:FuncId) (args:List AV) (e k:Nat) (rows:List (List AV)):Prop:=gm E g (args.map .d) Hp.nil (FP e k rows)
theorem kX.frame {g:FuncId} {args:List AV} {e k:Nat} {rows:List (List AV)} {cs:List CV} (h:kX E g args e k rows) (hc:iT cs=some args):gm E g cs L (λr L'=>r= .ret (.os L.n rows.length)/\L'=L.push (.row e k rows)):=λZ ys LB hys hh=>by
 have:=Ie hc hys;subst this;have h0:=h ⟨λ_=>none,λ_ _=>none⟩ ys [] (jv ys) (HS.nil _ λ_=>⟨rfl,λ_=>rfl⟩);refine⟨h0.1,λF w vs hH hR=>?_⟩;have hA:Al (λb=>F b\/b∈ids LB) []=Al F LB:=funext λb=>propext (by simp[Al,ids]);have hH0:bM E.toCx.G w (λb=>F b\/b∈ids LB) []:=⟨by simp,by simp[ids],by simp[ids],λb hb=>hb.elim (hH.bound b) (hH.lt b),by rw[hA];exact hH.gK⟩;refine(h0.2 _ w vs hH0 (by rw[hA];exact hR)).mono ?_;rintro e' w' ⟨r',LB',⟨Z',d,L1,h1,h2,h3,h4⟩,hv,hh',hx⟩;cases d with
 |aT z=>exact h4.elim
 |ret z0=>
 obtain⟨u,rfl,h2⟩:=h2;obtain⟨v,rfl,hv⟩:=hv;have hsame:∀b,b<w.heap.size->w'.heap[b]? =w.heap[b]? :=λb hb=>hx.block b hb (by simp[ids]);have hlen:=hh.len
 --the row
 obtain⟨a,c,rfl,g2,g3⟩:∃a c,v= .slice a rows.length c/\(aq.row (.slice a rows.length c) e k rows).ok w' (Al F (LB++[.row (.slice a rows.length c) e k rows]))/\∀b∈(aq.row (.slice a rows.length c) e k rows).ids,w.heap.size<=b:=by
  rcases h4 with⟨j,n,rows0,rfl,rfl,hg,hi⟩|⟨rfl,rfl⟩
  ·obtain⟨q,hq1,hq2⟩:=h3.en j _ hg;obtain⟨⟨a,c,hb,rfl⟩,_⟩:=hq2;simp only[aK]at h2;obtain⟨a',c',t',hb',rfl⟩:=h2;rw[hb]at hb';cases hb';have hl:=hi.length;simp only[Rel]at hv;subst hv;obtain⟨vs',f4,f5⟩:=ju hh' hq1;have hnew:∀b∈(aq.row (.slice a rows0.length c) e k rows0).ids,w.heap.size<=b:=λb hb=>(hx.new b (gB.2 ⟨_,aV (by rw[<-cM];exact hq1),hb⟩)).elim (λh=>by simp[ids]at h) id;refine⟨a,c,by rw[hl],⟨vs',(hi.rel f4).keep ⟨bX _,λb _ ha=>⟨⟨λhF=>ha.1 (.inl hF),λhm=>?_⟩,rfl⟩⟩,by rw[hl];exact f5⟩,λb hb=>hnew b (by cases a with|none=>simp[aq.ids,Value.ownBlock]at hb|some a=>simpa[aq.ids,Value.ownBlock]using hb)⟩;rw[cB,b7]at hm;rcases hm with hm|hm
   ·exact ha.1 (.inr hm)
   ·exact ha.2 (gB.2 ⟨_,aV (by rw[<-cM];exact hq1),by cases a with|none=>simp[ids,aq.ids,Value.ownBlock]at hm|some a=>simpa[ids,aq.ids,Value.ownBlock]using hm⟩)
  ·simp only[aK]at h2;subst h2;simp only[Rel]at hv;subst hv;exact⟨none,0,rfl,⟨[],by simp[bq],by simp,.inl ⟨rfl,rfl⟩⟩,by simp[aq.ids,Value.ownBlock]⟩
 have hdom:=hh.iX L.n (bX _);have hle:Z.le (Z.bm L.n rows.length (a,c)):=aN.mb λy hy=>by rw[hdom.2]at hy;cases hy
 have hbn:(Z.bm L.n rows.length (a,c)).s L.n rows.length=some (a,c):=by simp[aN.bm]
 refine⟨.ret (.os 0 a rows.length c),LB++[.row (.slice a rows.length c) e k rows],⟨_,.ret (.os L.n rows.length),L.push (.row e k rows),hle.toK _,⟨_,rfl,by simp only[aK];exact⟨_,_,_,hbn,rfl⟩⟩,?_,rfl,rfl⟩,⟨_,rfl,by simp only[Rel]⟩,hH.push hx.size hsame g3 (by simp only[aq.ids];cases (Value.slice a rows.length c).ownBlock<;>simp) g2,⟨hx.os,hx.tape,hx.output,hx.size,λb hb _=>hsame b hb,λb hb=>?_,hx.drawn⟩⟩
 ·refine hh.push hle (λi hi=>by funext m;simp[aN.bm,hi]) (λ_ _=>rfl) ⟨⟨a,c,hbn,rfl⟩,λm hm=>?_⟩;have:m≠rows.length:=by omega
  simp only[aN.bm,this,and_false,if_false];exact hdom.2 m
 ·rw[cB,b7]at hb;rcases hb with hb|hb
  ·exact .inl hb
  ·exact .inr (g3 b (by simpa[ids]using hb))
theorem ao.Ko {dst:Option Nat} {f:Operand} {args:List Operand} {g:FuncId} {cs:List CV} {xs xs':List AV} {e kk:Nat} {rows:List (List AV)} {tys:Array TypeId} {ty:TypeId} {pos:String} {after:Array Edge}
  (h:kX E g xs e kk rows) (hc:eI O f args=some (g,cs)) (hx:iT cs=some xs') (hi:xs'=xs) (hd:cP N dst=true) (k1:ao E N K (.ops all rest::k) Q (cv O dst (.os L.n rows.length)) (L.push (.row e kk rows))):
  ao E N K (.ops all (⟨dst,.call {callee:= .value f,args:=args.toArray,argTypes:=tys},ty,pos,after,none⟩::rest)::k) Q O L:=by
 subst hi;exact DO.call (h.frame hx) hc hd (λx L' hq=>by obtain⟨e,rfl⟩:=hq;cases e;exact k1) (λx L' hq=>by cases hq.1)
theorem kX.walk {g:FuncId} {fn:Func} {c:Code} {xs:List AV} {rs:List ResultVar} {nt:Nat} {e kk:Nat} {rows:List (List AV)} (hf:E.P.funcs[g]? =some fn) (hb:fn.body=some c) (hname:(fn.name== "runtime.NumGoroutine")=false) (hrs:fn.results=rs.toArray) (hnt:fn.ntmps=nt) (hn:Nat.ble xs.length nt=true)
  (h:ao E nt 0 [.code c] (RD E.T rs (FP e kk rows)) (jy 0 (xs.map .d)) Hp.nil):kX E g xs e kk rows:=gm.enter hf hb hname rs hrs nt hnt (by simpa using hn) h
theorem RD.Kp {rs:List ResultVar} {xs:List CV} {e kk j n:Nat} {rows0 rows:List (List AV)} (h:eX E.T O L rs=some xs) (hp:fY xs= .os j n) (hn:n=rows0.length) (hg:L.e.get j=some (.row e kk rows0)) (e':eu rows0 rows):RD E.T rs (FP e kk rows) .ret O L:=
 ⟨xs,h,.inl ⟨j,n,rows0,hp,hn,hg,e'⟩⟩
theorem RD.IN {rs:List ResultVar} {xs:List CV} {e kk:Nat} {rows:List (List AV)} (h:eX E.T O L rs=some xs) (hp:fY xs= .d (.v (.slice none 0 0))) (e':rows=[]):RD E.T rs (FP e kk rows) .ret O L:=
 ⟨xs,h,.inr ⟨hp,e'⟩⟩
