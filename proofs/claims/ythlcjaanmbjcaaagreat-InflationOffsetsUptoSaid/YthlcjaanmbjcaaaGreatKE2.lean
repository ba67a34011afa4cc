/- Calls that write what they are handed: one entry of own memory, told before and after. -/
import Derived.Test.YthlcjaanmbjcaaaGreatKE1
set_option linter.all false
noncomputable section
namespace Go.Bw
open Go
inductive ig where
 |box (us:List AV)
 |row (e k:Nat) (rows:List (List AV))
 |bL (l:List Int)
def ig.c:ig->aR
 | .box us=> .box (us.map .d)
 | .row e k rows=> .row e k rows
 | .bL l=> .bL l
inductive cJ:aR->ig->Prop where
 |box {cs:List CV} {us0 us:List AV}:eg cs=some us0->bx us0 us->cJ (.box cs) (.box us)
 |row {e k:Nat} {rows0 rows:List (List AV)}:cE rows0 rows->cJ (.row e k rows0) (.row e k rows)
 |bL {l:List Int}:cJ (.bL l) (.bL l)
def l9 (y:AV) (e':ig):DR->Hp->Prop
 | .ret x,O=>(match e' with
  | .box us=>∃cs z zs ns ms,O.e.get 0=some (.box cs)/\bA O.e 60 (x::cs)=some (z::zs,ns,ms)/\eqs ns/\(ms.all λp=>Nat.blt 0 p.1)=true/\bw z y/\bx zs us
  | .row e k rows=>∃rows0 z ns ms,O.e.get 0=some (.row e k rows0)/\bA O.e 60 [x]=some ([z],ns,ms)/\eqs ns/\(ms.all λp=>Nat.blt 0 p.1)=true/\bw z y/\cE rows0 rows
  | .bL l=>∃l0 z ns ms,O.e.get 0=some (.bL l0)/\bA O.e 60 [x]=some ([z],ns,ms)/\eqs ns/\(ms.all λp=>Nat.blt 0 p.1)=true/\bw z y/\l0=l)
 | .aD _,_=>False
def eP (E:Env) (g:FuncId) (args:List CV) (e:ig) (y:AV) (e':ig):Prop:=de E g args (gP [e.c]) (l9 y e')
def mi (i:Nat):CV->Option CV
 | .d x=>some (.d x)
 | .own t o=>match Nat.beq t i with
  |true=>some (.own 0 o)
  |false=>none
 | .os t n=>match Nat.beq t i with
  |true=>some (.os 0 n)
  |false=>none
 | .oe t n o=>match Nat.beq t i with
  |true=>some (.oe 0 n o)
  |false=>none
 | .agg [.om t]=>match Nat.beq t i with
  |true=>some (.agg [.om 0])
  |false=>none
 |_=>none
def ld (i:Nat):List CV->Option (List CV)
 |[]=>some []
 |x::xs=>match mi i x,ld i xs with
  |some y,some ys=>some (y::ys)
  |_,_=>none
def au.one (L:au) (i:Nat):au:=⟨λt=>if t=0 then L.b i else none,λt n=>if t=0 then L.s i n else none⟩
theorem Lc {L:au} {i:Nat} {x y:CV} {u:AV} (h:mi i x=some y) (hi:aw L x u):aw (L.one i) y u:=by
 cases x with
 |d z=>simp only[mi,ao]at h;subst h;exact hi
 |own t o=>
  simp only[mi]at h;split at h
  ·rename_i hb;cases h;have:=bf hb;subst this;simp only[aw]at hi⊢;obtain⟨b,t',h1,h2⟩:=hi;exact⟨b,t',by simpa[au.one]using h1,h2⟩
  ·cases h
 |os t n=>
  simp only[mi]at h;split at h
  ·rename_i hb;cases h;have:=bf hb;subst this;simp only[aw]at hi⊢;obtain⟨a,c,t',h1,h2⟩:=hi;exact⟨a,c,t',by simpa[au.one]using h1,h2⟩
  ·cases h
 |oe t n o=>
  simp only[mi]at h;split at h
  ·rename_i hb;cases h;have:=bf hb;subst this;simp only[aw]at hi⊢;obtain⟨a,c,t',h1,h2⟩:=hi;exact⟨a,c,t',by simpa[au.one]using h1,h2⟩
  ·cases h
 |agg xs=>
  rcases xs with _|⟨x,_|⟨x2,r⟩⟩
  ·cases h
  ·cases x with
   |om t=>
    simp only[mi]at h;split at h
    ·rename_i hb;cases h;have:=bf hb;subst this;simp only[aw,aC]at hi⊢;obtain⟨ys,rfl,y,r,rfl,⟨b,t',h1,rfl⟩,rfl⟩:=hi;exact⟨_,rfl,_,_,rfl,⟨b,t',by simpa[au.one]using h1,rfl⟩,rfl⟩
    ·cases h
   |_=>cases h
  ·cases x<;>cases h
 |_=>cases h
theorem C2 {L:au} {i:Nat}:∀{xs ys:List CV} {us:List AV},ld i xs=some ys->aC L xs us->aC (L.one i) ys us
 |[],ys,us,h,hi=>by simp only[ld,ao]at h;subst h;exact hi
 |x::xs,ys,us,h,hi=>by
  simp only[ld]at h;split at h
  ·rename_i y ys' h1 h2;cases h;simp only[aC]at hi⊢;obtain⟨u,r,rfl,h3,h4⟩:=hi;exact⟨u,r,rfl,Lc h1 h3,C2 h2 h4⟩
  ·cases h
theorem vt {L:au}:∀{cs:List CV} {us ys:List AV},eg cs=some us->aC L cs ys->ys=us
 |[],us,ys,h,hi=>by simp only[eg,ao]at h;subst h;exact hi
 |c::cs,us,ys,h,hi=>by
  cases c<;>simp only[eg]at h<;>try cases h
  split at h
  ·rename_i zs h1;cases h;simp only[aC,aw]at hi;obtain⟨u,r,rfl,rfl,h3⟩:=hi;rw[vt h1 h3]
  ·cases h
theorem C':∀{l:List ag} {i:Nat} {x:ag},nth l i=some x->∃a b,l=a++x::b/\a.length=i
 |[],_,_,h=>by simp[nth]at h
 |y::l,0,x,h=>by simp only[nth,ao]at h;subst h;exact⟨[],l,rfl,rfl⟩
 |y::l,i+1,x,h=>by
  simp only[nth]at h;obtain⟨a,b,rfl,rfl⟩:=C' h;exact⟨y::a,b,rfl,rfl⟩
theorem Mo (a b:List ag) (x:ag):nth (a++x::b) a.length=some x:=by rw[bP];simp
theorem Ld {a b:List ag} {x y:ag} {j:Nat} (hj:j≠a.length):nth (a++x::b) j=nth (a++y::b) j:=by
 rw[bP,bP];rcases je j a.length with h|h
 ·rw[mJ h,mJ h]
 ·rw[uO h,uO h];obtain⟨m,hm⟩:∃m,j-a.length=m+1:=⟨j-a.length-1,by omega⟩;rw[hm];rfl
section
variable {E:Env} {N K:Nat} {Q:DQ} {Z:TS} {O:Hp} {o:Oper} {all rest:List Oper} {k:List It}
theorem Da {w w':World} {A A':Nat->Prop}:∀{l:List Int} {a:List MapEntry},dJ w A (dB l) a->dJ w' A' (dB l) a
 |[],a,h=>h
 |x::l,a,h=>by
  simp only[dB,cA,dJ,Rel]at h⊢;obtain⟨e,r,rfl,h1,h2,h3⟩:=h;exact⟨e,r,rfl,h1,h2,Da (l:=l) h3⟩
theorem eP.frame {g:FuncId} {cs args:List CV} {i:Nat} {ce:aR} {e0 e1:ig} {y:AV} (h:eP E g args e0 y e1) (hr:ld i cs=some args) (hi:O.e.get i=some ce) (hs:cJ ce e0):
  de E g cs O (λr O'=>r= .ret (.d y)/\O'=O.set i e1.c):=λL ys ηB hys hh=>by
 obtain⟨x,hx1,hx2⟩:=hh.en i _ hi;obtain⟨l,r,rfl,rfl⟩:=C' hx1
 --the entry in the callee's words
 obtain⟨x0,hx0,hids,hxe⟩:∃x0:ag,iP (L.one l.length) 0 e0.c x0/\x0.ids=x.ids/\∀w A,x.ok w A->x0.ok w A:=by
  cases hs with
  |box h1 h2=>
   obtain⟨b,cs',h3,rfl,h4⟩:=hx2;rename_i us0 us;have:=vt h1 h4;subst this;refine⟨.box b us,⟨b,us,by simpa[au.one]using h3,rfl,fi _⟩,rfl,λw A=>?_⟩;rintro ⟨e,vs,h5,h6⟩;exact⟨e,vs,h5,h2.rel h6⟩
  |row h2=>
   obtain⟨⟨a,c,h3,rfl⟩,h4⟩:=hx2;rename_i e k rows0 rows;have hl:=h2.length;refine⟨.row (.slice a rows.length c) e k rows,⟨⟨a,c,by simpa[au.one,hl]using h3,rfl⟩,λm hm=>by simpa[au.one]using h4 m (by omega)⟩,by cases a<;>simp[ag.ids,Value.ownBlock],λw A=>?_⟩;rintro ⟨vs,h5,h6⟩;exact⟨vs,h2.rel h5,by rw[hl];exact h6⟩
  |bL=>
   obtain⟨b,h3,rfl⟩:=hx2;exact⟨.map b (dB _),⟨b,by simpa[au.one]using h3,rfl⟩,rfl,λ_ _ h=>h⟩
 have hS0:HS (L.one l.length) (gP [e0.c]) [x0]:=by
  refine⟨λt z hz=>?_,rfl,λt ht=>?_⟩
  ·simp only[gP,kn]at hz;rcases Tr.dA 24 .lf 0 t (some e0.c) z hz with⟨rfl,h1⟩|⟨_,h1⟩
   ·cases h1;exact⟨x0,rfl,hx0⟩
   ·simp[Tr.gH]at h1
  ·have:t≠0:=by simp[gP]at ht;omega
   exact⟨by simp[au.one,this],λn=>by simp[au.one,this]⟩
 have h0:=h (L.one l.length) ys [x0] (C2 hr hys) hS0;refine⟨h0.1,λF w vs hH hR=>?_⟩
 let F0:Nat->Prop:=λb=>F b\/b∈ids l\/b∈ids r
 have hA:∀z:ag,Al F0 [z]=Al F (l++z::r):=λz=>funext λb=>propext (by
  simp only[Al,F0,bI,b4,ck,show ids []=[]from rfl,gz,not_or];constructor
  ·rintro ⟨⟨a1,a2,a3⟩,a4⟩;exact⟨a1,a2,a4,a3⟩
  ·rintro ⟨a1,a2,a3,a4⟩;exact⟨⟨a1,a2,a4⟩,a3⟩)
 have hAx:Al F0 [x0]=Al F (l++x::r):=by
  rw[hA];funext b;simp only[Al,bI,b4,hids]
 have hnd:=hH.nodup;simp only[bI,b4,jd,ck]at hnd;have hfr:=hH.free;have hltb:=hH.lt;simp only[bI,b4,ck]at hfr hltb;have hH0:bh E.toCx.G w F0 [x0]:=by
  refine⟨λz hz=>?_,?_,λb hb=>?_,λb hb=>?_,?_⟩
  ·simp only[kC]at hz;subst hz;rw[hAx];exact hxe _ _ (hH.dw x (by simp))
  ·simp only[ids,R8,R9,gz,hids];exact hnd.2.1.1
  ·simp only[ids,R8,R9,gz,hids]at hb;rintro (hF|hl|hr')
   ·exact hfr b (.inr (.inl hb)) hF
   ·exact hnd.2.2 b hl b (.inl hb) rfl
   ·exact hnd.2.1.2.2 b hb b hr' rfl
  ·rcases hb with hF|hl|hr'
   ·exact hH.bound b hF
   ·exact hltb b (.inl hl)
   ·exact hltb b (.inr (.inr hr'))
  ·rw[hAx];exact hH.eX
 refine(h0.2 F0 w vs hH0 (by rw[hAx];exact hR)).mono ?_;rintro e w' ⟨r',OB',⟨L',d,O1,h1,h2,h3,h4⟩,hv,hh',hx⟩;cases d with
 |aD z=>exact h4.elim
 |ret z0=>
 obtain⟨u,rfl,h2⟩:=h2;obtain⟨v,rfl,hv⟩:=hv;have h10:=h1 0 (by simp[gP])
 --what is left there
 obtain⟨x',g1,g2,g3,g4,g5⟩:∃x':ag,iP ⟨λt=>if t=l.length then L'.b 0 else L.b t,λt n=>if t=l.length then L'.s 0 n else L.s t n⟩ l.length e1.c x'/\x'.ok w' (Al F (l++x'::r))/\(∀b∈x'.ids,b∈ids OB')/\x'.ids.Nodup/\Rel w' (Al F (l++x'::r)) y v:=by
  cases e1 with
  |box us=>
   obtain⟨cs',z,zs,ns,ms,q1,q2,q3,q4,q5,q6⟩:=h4;obtain⟨q,hq1,hq2⟩:=h3.en 0 _ q1;obtain⟨b,us',hb,rfl,hi'⟩:=hq2;obtain⟨e',vs',hheap,hvs⟩:=fg hh' hq1;obtain⟨f1,_⟩:=fy h3 hh' (ms.map (·.1)) 60 q2 q3 (λp hp=>cB.2 ⟨p,hp,rfl⟩) (by simp only[aC];exact⟨u,us',rfl,h2,hi'⟩) (vs:=v::vs') (by simp only[ax];exact⟨v,vs',rfl,hv,hvs⟩);have hk:b9 w' (dY F0 OB' (ms.map (·.1))) w' (Al F (l++(ag.box b us)::r)):=⟨bq _,λb' _ hb'=>⟨by
    rw[<-hA];refine⟨hb'.1,?_⟩;have:=hb'.2 0 _ hq1 (λhm=>by
     obtain⟨p,hp,hp0⟩:=cB.1 hm;have:=fH.1 q4 p hp;rw[hp0]at this;simp at this)
    simpa[ids,ag.ids]using this,rfl⟩⟩
   simp only[ax]at f1;obtain⟨v1,vs1,e1',f2,f3⟩:=f1;simp only[jb]at e1';obtain⟨rfl,rfl⟩:=e1';exact⟨.box b us,⟨b,us,by simpa using hb,rfl,fi _⟩,⟨e',vs',hheap,q6.rel (f3.aU hk)⟩,λb' hb'=>fe.2 ⟨_,bV (by rw[<-bP];exact hq1),by simpa[ag.ids]using hb'⟩,by simp[ag.ids],q5 _ _ _ (f2.aU hk)⟩
  |row e k rows=>
   obtain⟨rows0,z,ns,ms,q1,q2,q3,q4,q5,q6⟩:=h4;obtain⟨q,hq1,hq2⟩:=h3.en 0 _ q1;obtain⟨⟨a,c,hb,rfl⟩,hm⟩:=hq2;have hl:=q6.length;obtain⟨vs',f4,f5⟩:=fg hh' hq1;obtain⟨f1,_⟩:=fy h3 hh' (ms.map (·.1)) 60 q2 q3 (λp hp=>cB.2 ⟨p,hp,rfl⟩) (by simp only[aC];exact⟨u,[],rfl,h2,rfl⟩) (vs:=[v]) (by simp only[ax];exact⟨v,[],rfl,hv,rfl⟩);have hk:b9 w' (dY F0 OB' (ms.map (·.1))) w' (Al F (l++(ag.row (.slice a rows.length c) e k rows)::r)):=⟨bq _,λb' _ hb'=>⟨by
    rw[<-hA];refine⟨hb'.1,?_⟩;have:=hb'.2 0 _ hq1 (λhm=>by
     obtain⟨p,hp,hp0⟩:=cB.1 hm;have:=fH.1 q4 p hp;rw[hp0]at this;simp at this)
    cases a with|none=>simp[ids,ag.ids,Value.ownBlock]|some a=>simpa[ids,ag.ids,Value.ownBlock]using this,rfl⟩⟩
   simp only[ax]at f1;obtain⟨v1,vs1,e1',f2,f3⟩:=f1;simp only[jb]at e1';obtain⟨rfl,rfl⟩:=e1';refine⟨.row (.slice a rows.length c) e k rows,⟨⟨a,c,by simpa[hl]using hb,rfl⟩,λm hm'=>by simpa using hm m (by omega)⟩,⟨vs',(q6.rel f4).aU ⟨bq _,λb' hb' ha=>hk.2 b' hb' (Fp _ ha)⟩,by rw[hl];exact f5⟩,λb' hb'=>fe.2 ⟨_,bV (by rw[<-bP];exact hq1),by cases a with|none=>simp[ag.ids,Value.ownBlock]at hb'|some a=>simpa[ag.ids,Value.ownBlock]using hb'⟩,?_,q5 _ _ _ (f2.aU hk)⟩;simp only[ag.ids];cases (Value.slice a rows.length c).ownBlock<;>simp
  |bL l1=>
   obtain⟨l0,z,ns,ms,q1,q2,q3,q4,q5,rfl⟩:=h4;obtain⟨q,hq1,hq2⟩:=h3.en 0 _ q1;obtain⟨b,hb,rfl⟩:=hq2;obtain⟨a,clock,hheap,hr,hnd',hlt'⟩:=fg hh' hq1;obtain⟨f1,_⟩:=fy h3 hh' (ms.map (·.1)) 60 q2 q3 (λp hp=>cB.2 ⟨p,hp,rfl⟩) (by simp only[aC];exact⟨u,[],rfl,h2,rfl⟩) (vs:=[v]) (by simp only[ax];exact⟨v,[],rfl,hv,rfl⟩);have hk:b9 w' (dY F0 OB' (ms.map (·.1))) w' (Al F (l++(ag.map b (dB l0))::r)):=⟨bq _,λb' _ hb'=>⟨by
    rw[<-hA];refine⟨hb'.1,?_⟩;have:=hb'.2 0 _ hq1 (λhm=>by
     obtain⟨p,hp,hp0⟩:=cB.1 hm;have:=fH.1 q4 p hp;rw[hp0]at this;simp at this)
    simpa[ids,ag.ids]using this,rfl⟩⟩
   simp only[ax]at f1;obtain⟨v1,vs1,e1',f2,f3⟩:=f1;simp only[jb]at e1';obtain⟨rfl,rfl⟩:=e1';exact⟨.map b (dB l0),⟨b,by simpa using hb,rfl⟩,⟨a,clock,hheap,Da hr,hnd',hlt'⟩,λb' hb'=>fe.2 ⟨_,bV (by rw[<-bP];exact hq1),by simpa[ag.ids]using hb'⟩,by simp[ag.ids],q5 _ _ _ (f2.aU hk)⟩
 have hnew:∀b∈x'.ids,b∈x.ids\/w.heap.size<=b:=λb hb=>(hx.new b (g3 b hb)).imp (λhb=>by simpa[ids,hids]using hb) id;have hblk:∀b,b<w.heap.size->b∉x.ids->w'.heap[b]? =w.heap[b]? :=λb hb hn=>hx.block b hb (by simpa[ids,hids]using hn);have hset:∀(t:Nat),t≠l.length->∀n,(λ(t n:Nat)=>if t=l.length then L'.s 0 n else L.s t n) t n=L.s t n:=λt ht n=>by simp[ht]
 have hle:L.le ⟨λt=>if t=l.length then L'.b 0 else L.b t,λt n=>if t=l.length then L'.s 0 n else L.s t n⟩:=by
  refine⟨λt b hb=>?_,λt n b hb=>?_⟩
  ·by_cases ht:t=l.length
   ·subst ht;simp only[if_true];exact h10.1 b (by simpa[au.one]using hb)
   ·simp only[ht,if_false];exact hb
  ·by_cases ht:t=l.length
   ·subst ht;simp only[if_true];exact h10.2 n b (by simpa[au.one]using hb)
   ·simp only[ht,if_false];exact hb
 have hlen:l.length<O.n:=by have:=hh.len;simp at this;omega
 refine⟨.ret y,l++x'::r,⟨_,.ret (.d y),O.set l.length e1.c,hle.toK _,⟨y,rfl,rfl⟩,⟨λt z hz=>?_,?_,λt ht=>?_⟩,rfl,rfl⟩,⟨v,rfl,g5⟩,hH.lq hx.size hblk hnew g4 g2,⟨hx.os,hx.tape,hx.output,hx.size,λb hb hn=>hblk b hb (λhm=>hn (by simp only[bI,b4,ck];exact .inr (.inl hm))),λb hb=>?_,hx.drawn⟩⟩
 ·simp only[Hp.set]at hz;rcases Tr.dA 24 O.e l.length t (some e1.c) z hz with⟨rfl,q1⟩|⟨hne,q1⟩
  ·cases q1;exact⟨x',Mo _ _ _,g1⟩
  ·obtain⟨z',q2,q3⟩:=hh.en t z q1;exact⟨z',by rw[Ld hne];exact q2,q3.mono hle (by funext n;exact hset t hne n)⟩
 ·have:=hh.len;simpa[Hp.set]using this
 ·simp only[Hp.set]at ht;have hne:t≠l.length:=by omega
  simp only[hne,if_false];exact hh.eC t ht
 ·simp only[bI,b4,ck]at hb⊢;rcases hb with hb|hb|hb
  ·exact .inl (.inl hb)
  ·rcases hnew b hb with hb|hb
   ·exact .inl (.inr (.inl hb))
   ·exact .inr hb
  ·exact .inl (.inr (.inr hb))
theorem ai.g7 {dst:Option Nat} {f:Operand} {args:List Operand} {g:FuncId} {cs xs xs':List CV} {ce:aR} {e0 e1:ig} {y:AV} {tys:Array TypeId} {ty:TypeId} {pos:String} {after:Array Edge} (i:Nat)
  (h:eP E g xs e0 y e1) (hc:cu Z f args=some (g,cs)) (hr:ld i cs=some xs') (hx:xs'=xs) (hi:O.e.get i=some ce) (hs:cJ ce e0) (hd:bE N dst=true)
  (k1:ai E N K (.ops all rest::k) Q (br Z dst (.d y)) (O.set i e1.c)):
  ai E N K (.ops all (⟨dst,.call {callee:= .value f,args:=args.toArray,argTypes:=tys},ty,pos,after,none⟩::rest)::k) Q Z O:=by
 subst hx;exact DO.call (h.frame hr hi hs) hc hd (λx O' hq=>by obtain⟨e,rfl⟩:=hq;cases e;exact k1) (λx O' hq=>by cases hq.1)
def jR (ty:Nat) (z:AV):Option (Int×Int):=match z with
 | .ba t (.agg [.v (.int .i64 a),.v (.int .i64 b)])=>bif Nat.beq t ty then some (a,b)else none
 |_=>none
theorem Ko {ty:Nat} {z:AV} {p:Int×Int} (h:jR ty z=some p):z= .ba ty (.agg [.v (.int .i64 p.1),.v (.int .i64 p.2)]):=by
 unfold jR at h;split at h
 ·rename_i t a b;cases hb:Nat.beq t ty with
  |false=>rw[hb]at h;cases h
  |true=>rw[hb]at h;cases h;rw[bf hb]
 ·cases h
def dy {D β:Type} (ty:Nat) (o:Option (aT D)) (g:Int->Int->Option β) (f:D->Option β):Option β:=match o with
 |some (.ret x)=>f x
 |some (.aD z)=>(jR ty z).bind λp=>g p.1 p.2
 |none=>none
theorem LI {D β:Type} {ty:Nat} {o:Option (aT D)} {g:Int->Int->Option β} {f:D->Option β} {r:β} (h:dy ty o g f=some r):(∃a b,o=some (.aD (.ba ty (.agg [.v (.int .i64 a),.v (.int .i64 b)])))/\g a b=some r)\/∃x,o=some (.ret x)/\f x=some r:=by
 cases o with
 |none=>cases h
 |some x=>cases x with
  |ret x=>exact .inr ⟨x,rfl,h⟩
  |aD z=>
   obtain⟨p,h1,h2⟩:=fm h;rw[Ko h1];exact .inl ⟨p.1,p.2,rfl,h2⟩
theorem ai.LJ {dst dst':Option Nat} {f:Operand} {args:List Operand} {g:FuncId} {cs:List CV} {xs' xs:List AV} {ns:List (Nat×Nat)} {ms:List (Nat×aR)} {ty':Nat} {a b:Int} {N' K':Nat} {Z':TS} {k':List It} {tys:Array TypeId} {ty:TypeId} {pos:String} {after:Array Edge} (h:Pure E.toCx g xs (.aD (.ba ty' (.agg [.v (.int .i64 a),.v (.int .i64 b)])))) (hc:cu Z f args=some (g,cs)) (hf:bA O.e 60 cs=some (xs',ns,ms)) (hn:eqs ns) (hi:bx xs' xs) (hl:ms=[]\/cn (.ba ty' (.agg [.v (.int .i64 a),.v (.int .i64 b)]))=true)
  (hp:gm k=some (N',K',Z',dst',ty',k')) (hq:ai E N' K' k' Q (br Z' dst' (.d (.agg [.v (.int .i64 a),.v (.int .i64 b)]))) O):ai E N K (.ops all (⟨dst,.call {callee:= .value f,args:=args.toArray,argTypes:=tys},ty,pos,after,none⟩::rest)::k) Q Z O:=by
 show DO E N K all _ (dq E N K k Q) Z O;exact DO.nf 60 h hc hf hn hi hl (jq (y:= .agg [.v (.int .i64 a),.v (.int .i64 b)]) (.inr rfl) rfl k N K hp hq)
theorem bm.g7 {f:Operand} {args:List Operand} {g:FuncId} {cs xs xs':List CV} {ce:aR} {e0 e1:ig} {y:AV} {tys:Array TypeId} (i:Nat) (ho:o.op= .call {callee:= .value f,args:=args.toArray,argTypes:=tys})
  (h:eP E g xs e0 y e1) (hc:cu Z f args=some (g,cs)) (hr:ld i cs=some xs') (hx:xs'=xs) (hi:O.e.get i=some ce) (hs:cJ ce e0):bm E N o Z O (λr O'=>r= .ret (.d y)/\O'=O.set i e1.c):=by
 subst hx;exact bm.call ho (h.frame hr hi hs) hc
theorem ai.dO {l:List (Nat×Oper×TK)} {A:bo} {pend:List (Nat×Oper×CV)} {fs:List (Nat×List AV×AV)} {j:Nat} {Z1:TS} {O1:Hp} {f:Operand} {args:List Operand} {g:FuncId} {cs xs xs':List CV} {ce:aR} {e0 e1:ig} {y:AV} {tys:Array TypeId} (i:Nat) (hp:ak E N all pend Z O) (hnd:dP ((cG (bC all.toArray j A)).map (·.1))=true) (hd:bE N o.dst=true) (bQ:dD (cG (bC all.toArray j A)) Z O=(Z1,O1)) (hw:bX all o Z1=some true)
  (ho:o.op= .call {callee:= .value f,args:=args.toArray,argTypes:=tys}) (h:eP E g xs e0 y e1) (hc:cu Z1 f args=some (g,cs)) (hr:ld i cs=some xs') (hx:xs'=xs) (hi:O1.e.get i=some ce) (hs:cJ ce e0)
  (k1:ai E N K (.tl all l (bJ all.toArray j A) (b6 all j pend) fs::k) Q (br Z1 o.dst (.d y)) (O1.set i e1.c)):ai E N K (.tl all ((j,o,.one)::l) A pend fs::k) Q Z O:=
 ai.ma hp hnd hd bQ hw (bm.g7 i ho h hc hr hx hi hs) (λx O' hR=>by obtain⟨e,rfl⟩:=hR;cases e;exact k1) (λx O' hR=>by cases hR.1)
theorem eP.walk {g:FuncId} {fn:Func} {c:Code} {xs:List CV} {rs:List ResultVar} {nt:Nat} {e0 e1:ig} {y:AV} (hf:E.P.funcs[g]? =some fn) (hb:fn.body=some c) (hname:(fn.name== "runtime.NumGoroutine")=false) (hrs:fn.results=rs.toArray) (hnt:fn.ntmps=nt) (hn:Nat.ble xs.length nt=true)
  (h:ai E nt 1 [.code c] (RD E.T rs (l9 y e1)) (fj 0 xs) (gP [e0.c])):eP E g xs e0 y e1:=de.enter hf hb hname rs hrs nt hnt hn h
theorem RD.Fl {rs:List ResultVar} {xs cs:List CV} {z y:AV} {zs us:List AV} {ns:List (Nat×Nat)} {ms:List (Nat×aR)} (h:cU E.T Z O rs=some xs) (hg:O.e.get 0=some (.box cs)) (hf:bA O.e 60 (dC xs::cs)=some (z::zs,ns,ms)) (hn:eqs ns) (hm:(ms.all λp=>Nat.blt 0 p.1)=true) (e:bw z y) (e':bx zs us):RD E.T rs (l9 y (.box us)) .ret Z O:=
 ⟨xs,h,cs,z,zs,ns,ms,hg,hf,hn,hm,e,e'⟩
theorem RD.Np {rs:List ResultVar} {xs:List CV} {z y:AV} {l0 l:List Int} {ns:List (Nat×Nat)} {ms:List (Nat×aR)} (h:cU E.T Z O rs=some xs) (hg:O.e.get 0=some (.bL l0)) (hf:bA O.e 60 [dC xs]=some ([z],ns,ms)) (hn:eqs ns) (hm:(ms.all λp=>Nat.blt 0 p.1)=true) (e1:bw z y) (e':l0=l):RD E.T rs (l9 y (.bL l)) .ret Z O:=
 ⟨xs,h,l0,z,ns,ms,hg,hf,hn,hm,e1,e'⟩
theorem RD.dV {rs:List ResultVar} {xs:List CV} {z y:AV} {l0 l:List Int} {ns:List (Nat×Nat)} {ms:List (Nat×aR)} (h:cU E.T Z O rs=some xs) (hg:O.e.get 0=some (.bL l0)) (hf:bA O.e 60 [dC xs]=some ([z],ns,ms)) (hn:eqs ns) (hm:(ms.all λp=>Nat.blt 0 p.1)=true) (e1:bw z y) (e':l0=l):RD E.T rs (l9 y (.bL l)) .norm Z O:=
 ⟨xs,h,l0,z,ns,ms,hg,hf,hn,hm,e1,e'⟩
theorem ai.Nq (j:Nat) {e kk:Nat} {rows rows':List (List AV)} (hi:O.e.get j=some (.row e kk rows)) (hI:cE rows rows') (h:ai E N K (.ops all rest::k) Q Z (O.set j (.row e kk rows'))):ai E N K (.ops all rest::k) Q Z O:=by
 show DO E N K all rest _ Z O;intro L ZB ηB hs hh;obtain⟨y,hy,hE⟩:=hh.en j _ hi;obtain⟨⟨a,c,ha,rfl⟩,hm⟩:=hE;have hl:=hI.length;refine aQ.gM (dm.H7 j (y:= .row (.slice a rows.length c) e kk rows') hy rfl (λw A h=>?_)) ?_
 ·obtain⟨vs,h1,h2⟩:=h;exact⟨vs,hI.rel h1,by rw[hl];exact h2⟩
 exact h L _ _ hs (hh.set (.refl L) (λ_ _=>rfl) (λ_ _=>rfl) (hh.lt hi) ⟨⟨a,c,by rw[hl];exact ha,by rw[hl]⟩,λm hm'=>hm m (by omega)⟩)
def p6 (m:Int):Option Nat:=match m with
 | .ofNat l=>bif Nat.ble l 274877906944 then some l else none
 | .negSucc _=>none
theorem CC {m:Int} {l:Nat} (h:p6 m=some l):m=(l:Int)/\l<=274877906944:=by
 unfold p6 at h;split at h
 ·rename_i k;cases hb:Nat.ble k 274877906944 with
  |false=>rw[hb]at h;cases h
  |true=>rw[hb]at h;cases h;exact⟨rfl,cM hb⟩
 ·cases h
theorem cE.replicate {a b:List AV} (h:bx a b):∀m:Nat,cE (List.replicate m a) (List.replicate m b)
 |0=> .nil
 |m+1=> .cons h (cE.replicate h m)
theorem ai.make {d:Nat} {t:TypeId} {p q:Operand} {ty:TypeId} {pos:String} {after:Array Edge} {e kk sz by' sz' by'':Nat} {z z':List Value} {td':TD} {kl kc:IntKind} {li ci:Int} (l:Nat)
  (hx:aL Z p=some (.d (.v (.int kl li)))) (hli:li=(l:Int)) (hy:aL Z q=some (.d (.v (.int kc ci)))) (hci:ci=(l:Int)) (ht:aM E.T t=some ⟨.slice e kk,sz,by',z⟩) (hte:aM E.T e=some ⟨td',sz',by'',z'⟩)
  (hk:Nat.ble 1 kk=true) (hby:Nat.ble 1 by''=true) (hd:Nat.blt d N=true) (hb:l*by''<=140737488355328)
  (h:ai E N K (.ops all rest::k) Q (br Z (some d) (.os O.n l)) (O.push (.row e kk (List.replicate l (z'.map .v))))):ai E N K (.ops all (⟨some d,.makeSlice t p q,ty,pos,after,none⟩::rest)::k) Q Z O:=
 DO.make l l hb (bq _) hx hli hy hci ht hte hk hby hd h
theorem ai.Gz {d:Nat} {t:TypeId} {p q:Operand} {ty:TypeId} {pos:String} {after:Array Edge} {e kk sz by' sz' by'':Nat} {z z':List Value} {td':TD} {kl kc:IntKind} {li ci:Int} (l:Nat) (rows':List (List AV))
  (hx:aL Z p=some (.d (.v (.int kl li)))) (hli:li=(l:Int)) (hy:aL Z q=some (.d (.v (.int kc ci)))) (hci:ci=(l:Int)) (ht:aM E.T t=some ⟨.slice e kk,sz,by',z⟩) (hte:aM E.T e=some ⟨td',sz',by'',z'⟩)
  (hk:Nat.ble 1 kk=true) (hby:Nat.ble 1 by''=true) (hd:Nat.blt d N=true) (hb:l*by''<=140737488355328) (hI:cE (List.replicate l (z'.map .v)) rows') (hg:(O.push (.row e kk (List.replicate l (z'.map .v)))).e.get O.n=some (.row e kk (List.replicate l (z'.map .v))))
  (h:ai E N K (.ops all rest::k) Q (br Z (some d) (.os O.n rows'.length)) ((O.push (.row e kk (List.replicate l (z'.map .v)))).set O.n (.row e kk rows'))):ai E N K (.ops all (⟨some d,.makeSlice t p q,ty,pos,after,none⟩::rest)::k) Q Z O:=by
 have hl:rows'.length=l:=by have:=hI.length;simpa using this
 refine ai.make l hx hli hy hci ht hte hk hby hd hb ?_;rw[hl]at h;exact ai.Nq O.n (rows:=List.replicate l (z'.map .v)) hg hI h
theorem bm.NW (t:Nat) {x y:AV} {R:DR->Hp->Prop} (ht:Z.get t=some (.d x)) (hi:bw x y) (h:bm E N o (Tr.put 24 Z t (some (.d y))) O R):bm E N o Z O R:=λL s ηB hs hh=>by
 obtain⟨z,h1,h2⟩:=hs t _ ht;simp only[aw]at h2;subst h2;have hs1:SS L (Tr.put 24 Z t (some (.d y))) (ee s t y):=λu q hq=>by
  rcases Tr.dA 24 Z t u _ q hq with⟨rfl,h3⟩|⟨hne,h3⟩
  ·cases h3;exact⟨y,by simp[ee],rfl⟩
  ·obtain⟨q',h4,h5⟩:=hs u q h3;exact⟨q',by simp[ee,hne,h4],h5⟩
 intro F w a hN hd hH hopd;refine h L (ee s t y) ηB hs1 hh F w a hN hd hH (λu hu q hq=>?_);unfold ee at hq;split at hq
 ·rename_i hut;subst hut;simp only[ao]at hq;subst hq;obtain⟨g1,g2⟩:=hopd u hu _ h1;exact⟨g1,hi _ _ _ g2⟩
 ·exact hopd u hu q hq
theorem ai.Kp {l:List (Nat×Oper×TK)} {A:bo} {pend:List (Nat×Oper×CV)} {fs:List (Nat×List AV×AV)} {q:Nat} {t:TypeId} {p v:Operand} {i n m e kk:Nat} {rows:List (List AV)} {r r':List AV} {x:AV} {ti:TI} {Z1:TS} {O1:Hp} (u:Nat) (y:AV) (j off:Nat) (hpd:ak E N all pend Z O) (hnd:dP ((cG (bC all.toArray q A)).map (·.1))=true) (hd:o.dst=none) (bQ:dD (cG (bC all.toArray q A)) Z O=(Z1,O1)) (hw:bX all o Z1=some true)
  (ho:o.op= .store t p v) (hu:Z1.get u=some (.d x)) (hI:bw x y) (hp:aL (Tr.put 24 Z1 u (some (.d y))) p=some (.oe i n m)) (hv:aL (Tr.put 24 Z1 u (some (.d y))) v=some (.d y)) (hi:O1.e.get i=some (.row e kk rows)) (hn:n=rows.length)
  (hm:m=j*kk+off) (hr:rows[j]? =some r) (ht:aM E.T t=some ti) (hk:Nat.beq (bD y).length ti.size=true) (h1:dE (bD y)=true) (hl:dM r off (bD y)=some r')
  (h:ai E N K (.tl all l (bJ all.toArray q A) (b6 all q pend) fs::k) Q Z1 (O1.set i (.row e kk (rows.set j r')))):ai E N K (.tl all ((q,o,.one)::l) A pend fs::k) Q Z O:=
 ai.ma hpd hnd (by rw[hd];rfl) bQ hw (bm.NW u hu hI (bm.lL j off ho hp hv hi hn hm hr ht hk h1 hl)) (λx O' hR=>by obtain⟨h2,rfl⟩:=hR;rw[hd];exact h) (λx O' hR=>by cases hR.1)
def tD (e k:Nat) (rows:List (List AV)):DR->Hp->Prop
 | .ret x,O=>(∃j n rows0,x= .os j n/\n=rows0.length/\O.e.get j=some (.row e k rows0)/\cE rows0 rows)\/(x= .d (.v (.slice none 0 0))/\rows=[])
 | .aD _,_=>False
def iQ (E:Env) (g:FuncId) (args:List AV) (e k:Nat) (rows:List (List AV)):Prop:=de E g (args.map .d) Hp.nil (tD e k rows)
theorem iQ.frame {g:FuncId} {args:List AV} {e k:Nat} {rows:List (List AV)} {cs:List CV} (h:iQ E g args e k rows) (hc:eg cs=some args):de E g cs O (λr O'=>r= .ret (.os O.n rows.length)/\O'=O.push (.row e k rows)):=λL ys ηB hys hh=>by
 have:=vt hc hys;subst this;have h0:=h ⟨λ_=>none,λ_ _=>none⟩ ys [] (fi ys) (HS.nil _ λ_=>⟨rfl,λ_=>rfl⟩);refine⟨h0.1,λF w vs hH hR=>?_⟩;have hA:Al (λb=>F b\/b∈ids ηB) []=Al F ηB:=funext λb=>propext (by simp[Al,ids]);have hH0:bh E.toCx.G w (λb=>F b\/b∈ids ηB) []:=⟨by simp,by simp[ids],by simp[ids],λb hb=>hb.elim (hH.bound b) (hH.lt b),by rw[hA];exact hH.eX⟩;refine(h0.2 _ w vs hH0 (by rw[hA];exact hR)).mono ?_;rintro e' w' ⟨r',OB',⟨L',d,O1,h1,h2,h3,h4⟩,hv,hh',hx⟩;cases d with
 |aD z=>exact h4.elim
 |ret z0=>
 obtain⟨u,rfl,h2⟩:=h2;obtain⟨v,rfl,hv⟩:=hv;have hsame:∀b,b<w.heap.size->w'.heap[b]? =w.heap[b]? :=λb hb=>hx.block b hb (by simp[ids]);have hlen:=hh.len
 --the row
 obtain⟨a,c,rfl,g2,g3⟩:∃a c,v= .slice a rows.length c/\(ag.row (.slice a rows.length c) e k rows).ok w' (Al F (ηB++[.row (.slice a rows.length c) e k rows]))/\∀b∈(ag.row (.slice a rows.length c) e k rows).ids,w.heap.size<=b:=by
  rcases h4 with⟨j,n,rows0,rfl,rfl,hg,hi⟩|⟨rfl,rfl⟩
  ·obtain⟨q,hq1,hq2⟩:=h3.en j _ hg;obtain⟨⟨a,c,hb,rfl⟩,_⟩:=hq2;simp only[aw]at h2;obtain⟨a',c',t',hb',rfl⟩:=h2;rw[hb]at hb';cases hb';have hl:=hi.length;simp only[Rel]at hv;subst hv;obtain⟨vs',f4,f5⟩:=fg hh' hq1;have hnew:∀b∈(ag.row (.slice a rows0.length c) e k rows0).ids,w.heap.size<=b:=λb hb=>(hx.new b (fe.2 ⟨_,bV (by rw[<-bP];exact hq1),hb⟩)).elim (λh=>by simp[ids]at h) id;refine⟨a,c,by rw[hl],⟨vs',(hi.rel f4).aU ⟨bq _,λb _ ha=>⟨⟨λhF=>ha.1 (.inl hF),λhm=>?_⟩,rfl⟩⟩,by rw[hl];exact f5⟩,λb hb=>hnew b (by cases a with|none=>simp[ag.ids,Value.ownBlock]at hb|some a=>simpa[ag.ids,Value.ownBlock]using hb)⟩;rw[bI,ck]at hm;rcases hm with hm|hm
   ·exact ha.1 (.inr hm)
   ·exact ha.2 (fe.2 ⟨_,bV (by rw[<-bP];exact hq1),by cases a with|none=>simp[ids,ag.ids,Value.ownBlock]at hm|some a=>simpa[ids,ag.ids,Value.ownBlock]using hm⟩)
  ·simp only[aw]at h2;subst h2;simp only[Rel]at hv;subst hv;exact⟨none,0,rfl,⟨[],by simp[aX],by simp,.inl ⟨rfl,rfl⟩⟩,by simp[ag.ids,Value.ownBlock]⟩
 have hdom:=hh.eC O.n (bq _);have hle:L.le (L.aO O.n rows.length (a,c)):=au.gX λy hy=>by rw[hdom.2]at hy;cases hy
 have hbn:(L.aO O.n rows.length (a,c)).s O.n rows.length=some (a,c):=by simp[au.aO]
 refine⟨.ret (.os 0 a rows.length c),ηB++[.row (.slice a rows.length c) e k rows],⟨_,.ret (.os O.n rows.length),O.push (.row e k rows),hle.toK _,⟨_,rfl,by simp only[aw];exact⟨_,_,_,hbn,rfl⟩⟩,?_,rfl,rfl⟩,⟨_,rfl,by simp only[Rel]⟩,hH.push hx.size hsame g3 (by simp only[ag.ids];cases (Value.slice a rows.length c).ownBlock<;>simp) g2,⟨hx.os,hx.tape,hx.output,hx.size,λb hb _=>hsame b hb,λb hb=>?_,hx.drawn⟩⟩
 ·refine hh.push hle (λi hi=>by funext m;simp[au.aO,hi]) (λ_ _=>rfl) ⟨⟨a,c,hbn,rfl⟩,λm hm=>?_⟩;have:m≠rows.length:=by omega
  simp only[au.aO,this,and_false,if_false];exact hdom.2 m
 ·rw[bI,ck]at hb;rcases hb with hb|hb
  ·exact .inl hb
  ·exact .inr (g3 b (by simpa[ids]using hb))
theorem ai.xB {dst:Option Nat} {f:Operand} {args:List Operand} {g:FuncId} {cs:List CV} {xs xs':List AV} {e kk:Nat} {rows:List (List AV)} {tys:Array TypeId} {ty:TypeId} {pos:String} {after:Array Edge}
  (h:iQ E g xs e kk rows) (hc:cu Z f args=some (g,cs)) (hx:eg cs=some xs') (hi:xs'=xs) (hd:bE N dst=true) (k1:ai E N K (.ops all rest::k) Q (br Z dst (.os O.n rows.length)) (O.push (.row e kk rows))):
  ai E N K (.ops all (⟨dst,.call {callee:= .value f,args:=args.toArray,argTypes:=tys},ty,pos,after,none⟩::rest)::k) Q Z O:=by
 subst hi;exact DO.call (h.frame hx) hc hd (λx O' hq=>by obtain⟨e,rfl⟩:=hq;cases e;exact k1) (λx O' hq=>by cases hq.1)
theorem iQ.walk {g:FuncId} {fn:Func} {c:Code} {xs:List AV} {rs:List ResultVar} {nt:Nat} {e kk:Nat} {rows:List (List AV)} (hf:E.P.funcs[g]? =some fn) (hb:fn.body=some c) (hname:(fn.name== "runtime.NumGoroutine")=false) (hrs:fn.results=rs.toArray) (hnt:fn.ntmps=nt) (hn:Nat.ble xs.length nt=true)
  (h:ai E nt 0 [.code c] (RD E.T rs (tD e kk rows)) (fj 0 (xs.map .d)) Hp.nil):iQ E g xs e kk rows:=de.enter hf hb hname rs hrs nt hnt (by simpa using hn) h
theorem RD.xC {rs:List ResultVar} {xs:List CV} {e kk j n:Nat} {rows0 rows:List (List AV)} (h:cU E.T Z O rs=some xs) (hp:dC xs= .os j n) (hn:n=rows0.length) (hg:O.e.get j=some (.row e kk rows0)) (e':cE rows0 rows):RD E.T rs (tD e kk rows) .ret Z O:=
 ⟨xs,h,.inl ⟨j,n,rows0,hp,hn,hg,e'⟩⟩
theorem RD.vR {rs:List ResultVar} {xs:List CV} {e kk:Nat} {rows:List (List AV)} (h:cU E.T Z O rs=some xs) (hp:dC xs= .d (.v (.slice none 0 0))) (e':rows=[]):RD E.T rs (tD e kk rows) .ret Z O:=
 ⟨xs,h,.inr ⟨hp,e'⟩⟩
