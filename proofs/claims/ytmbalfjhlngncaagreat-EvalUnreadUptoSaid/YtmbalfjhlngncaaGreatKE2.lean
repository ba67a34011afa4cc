/- Calls that write what they are handed: one entry of own memory, told before and after. -/
import Derived.Test.YtmbalfjhlngncaaGreatKE1
set_option linter.all false
noncomputable section
namespace Go.Bw
open Go
inductive jQ where
 |box (us:List AV)
 |row (e k:Nat) (rows:List (List AV))
def jQ.c:jQ->br
 | .box us=> .box (us.map .d)
 | .row e k rows=> .row e k rows
inductive nK:br->jQ->Prop where
 |box {cs:List CV} {us0 us:List AV}:fL cs=some us0->b8 us0 us->nK (.box cs) (.box us)
 |row {e k:Nat} {rows0 rows:List (List AV)}:du rows0 rows->nK (.row e k rows0) (.row e k rows)
def xU (y:AV) (e':jQ):DR->Hp->Prop
 | .ret x,O=>(match e' with
  | .box us=>∃cs z zs ns ms,O.e.get 0=some (.box cs)/\cr O.e 60 (x::cs)=some (z::zs,ns,ms)/\eqs ns/\(ms.all λp=>Nat.blt 0 p.1)=true/\bV z y/\b8 zs us
  | .row e k rows=>∃rows0 z ns ms,O.e.get 0=some (.row e k rows0)/\cr O.e 60 [x]=some ([z],ns,ms)/\eqs ns/\(ms.all λp=>Nat.blt 0 p.1)=true/\bV z y/\du rows0 rows)
 | .aO _,_=>False
def iS (E:Env) (g:FuncId) (args:List CV) (e:jQ) (y:AV) (e':jQ):Prop:=eH E g args (iG [e.c]) (xU y e')
def uP (i:Nat):CV->Option CV
 | .d x=>some (.d x)
 | .own t o=>match Nat.beq t i with
  |true=>some (.own 0 o)
  |false=>none
 | .os t n=>match Nat.beq t i with
  |true=>some (.os 0 n)
  |false=>none
 | .oe t n o=>match Nat.beq t i with
  |true=>some (.oe 0 n o)
  |false=>none
 |_=>none
def rb (i:Nat):List CV->Option (List CV)
 |[]=>some []
 |x::xs=>match uP i x,rb i xs with
  |some y,some ys=>some (y::ys)
  |_,_=>none
def aJ.one (W:aJ) (i:Nat):aJ:=⟨λt=>if t=0 then W.b i else none,λt n=>if t=0 then W.s i n else none⟩
theorem aao {W:aJ} {i:Nat} {x y:CV} {u:AV} (h:uP i x=some y) (hi:aG W x u):aG (W.one i) y u:=by
 cases x with
 |d z=>simp only[uP,aC]at h;subst h;exact hi
 |own t o=>
  simp only[uP]at h;split at h
  ·rename_i hb;cases h;have:=bI hb;subst this;simp only[aG]at hi⊢;obtain⟨b,t',h1,h2⟩:=hi;exact⟨b,t',by simpa[aJ.one]using h1,h2⟩
  ·cases h
 |os t n=>
  simp only[uP]at h;split at h
  ·rename_i hb;cases h;have:=bI hb;subst this;simp only[aG]at hi⊢;obtain⟨a,c,t',h1,h2⟩:=hi;exact⟨a,c,t',by simpa[aJ.one]using h1,h2⟩
  ·cases h
 |oe t n o=>
  simp only[uP]at h;split at h
  ·rename_i hb;cases h;have:=bI hb;subst this;simp only[aG]at hi⊢;obtain⟨a,c,t',h1,h2⟩:=hi;exact⟨a,c,t',by simpa[aJ.one]using h1,h2⟩
  ·cases h
 |_=>cases h
theorem Ow {W:aJ} {i:Nat}:∀{xs ys:List CV} {us:List AV},rb i xs=some ys->aQ W xs us->aQ (W.one i) ys us
 |[],ys,us,h,hi=>by simp only[rb,aC]at h;subst h;exact hi
 |x::xs,ys,us,h,hi=>by
  simp only[rb]at h;split at h
  ·rename_i y ys' h1 h2;cases h;simp only[aQ]at hi⊢;obtain⟨u,r,rfl,h3,h4⟩:=hi;exact⟨u,r,rfl,aao h1 h3,Ow h2 h4⟩
  ·cases h
theorem Gb {W:aJ}:∀{cs:List CV} {us ys:List AV},fL cs=some us->aQ W cs ys->ys=us
 |[],us,ys,h,hi=>by simp only[fL,aC]at h;subst h;exact hi
 |c::cs,us,ys,h,hi=>by
  cases c<;>simp only[fL]at h<;>try cases h
  split at h
  ·rename_i zs h1;cases h;simp only[aQ,aG]at hi;obtain⟨u,r,rfl,rfl,h3⟩:=hi;rw[Gb h1 h3]
  ·cases h
theorem Ox:∀{l:List aq} {i:Nat} {x:aq},nth l i=some x->∃a b,l=a++x::b/\a.length=i
 |[],_,_,h=>by simp[nth]at h
 |y::l,0,x,h=>by simp only[nth,aC]at h;subst h;exact⟨[],l,rfl,rfl⟩
 |y::l,i+1,x,h=>by
  simp only[nth]at h;obtain⟨a,b,rfl,rfl⟩:=Ox h;exact⟨y::a,b,rfl,rfl⟩
theorem ac7 (a b:List aq) (x:aq):nth (a++x::b) a.length=some x:=by rw[cA];simp
theorem aap {a b:List aq} {x y:aq} {j:Nat} (hj:j≠a.length):nth (a++x::b) j=nth (a++y::b) j:=by
 rw[cA,cA];rcases mh j a.length with h|h
 ·rw[lz h,lz h]
 ·rw[vU h,vU h];obtain⟨m,hm⟩:∃m,j-a.length=m+1:=⟨j-a.length-1,by omega⟩;rw[hm];rfl
section
variable {E:Env} {N K:Nat} {Q:DQ} {Z:TS} {O:Hp} {o:Oper} {all rest:List Oper} {k:List It}
theorem iS.frame {g:FuncId} {cs args:List CV} {i:Nat} {ce:br} {e0 e1:jQ} {y:AV} (h:iS E g args e0 y e1) (hr:rb i cs=some args) (hi:O.e.get i=some ce) (hs:nK ce e0):
  eH E g cs O (λr O'=>r= .ret (.d y)/\O'=O.set i e1.c):=λW ys ηB hys hh=>by
 obtain⟨x,hx1,hx2⟩:=hh.en i _ hi;obtain⟨l,r,rfl,rfl⟩:=Ox hx1
 --the entry in the callee's words
 obtain⟨x0,hx0,hids,hxe⟩:∃x0:aq,lT (W.one l.length) 0 e0.c x0/\x0.ids=x.ids/\∀w A,x.ok w A->x0.ok w A:=by
  cases hs with
  |box h1 h2=>
   obtain⟨b,cs',h3,rfl,h4⟩:=hx2;rename_i us0 us;have:=Gb h1 h4;subst this;refine⟨.box b us,⟨b,us,by simpa[aJ.one]using h3,rfl,iq _⟩,rfl,λw A=>?_⟩;rintro ⟨e,vs,h5,h6⟩;exact⟨e,vs,h5,h2.rel h6⟩
  |row h2=>
   obtain⟨⟨a,c,h3,rfl⟩,h4⟩:=hx2;rename_i e k rows0 rows;have hl:=h2.length;refine⟨.row (.slice a rows.length c) e k rows,⟨⟨a,c,by simpa[aJ.one,hl]using h3,rfl⟩,λm hm=>by simpa[aJ.one]using h4 m (by omega)⟩,by cases a<;>simp[aq.ids,Value.ownBlock],λw A=>?_⟩;rintro ⟨vs,h5,h6⟩;exact⟨vs,h2.rel h5,by rw[hl];exact h6⟩
 have hS0:HS (W.one l.length) (iG [e0.c]) [x0]:=by
  refine⟨λt z hz=>?_,rfl,λt ht=>?_⟩
  ·simp only[iG,nW]at hz;rcases Tr.eB 24 .lf 0 t (some e0.c) z hz with⟨rfl,h1⟩|⟨_,h1⟩
   ·cases h1;exact⟨x0,rfl,hx0⟩
   ·simp[Tr.ku]at h1
  ·have:t≠0:=by simp[iG]at ht;omega
   exact⟨by simp[aJ.one,this],λn=>by simp[aJ.one,this]⟩
 have h0:=h (W.one l.length) ys [x0] (Ow hr hys) hS0;refine⟨h0.1,λF w vs hH hR=>?_⟩
 let F0:Nat->Prop:=λb=>F b\/b∈ids l\/b∈ids r
 have hA:∀z:aq,Al F0 [z]=Al F (l++z::r):=λz=>funext λb=>propext (by
  simp only[Al,F0,cd,cv,bO,show ids []=[]from rfl,ji,not_or];constructor
  ·rintro ⟨⟨a1,a2,a3⟩,a4⟩;exact⟨a1,a2,a4,a3⟩
  ·rintro ⟨a1,a2,a3,a4⟩;exact⟨⟨a1,a2,a4⟩,a3⟩)
 have hAx:Al F0 [x0]=Al F (l++x::r):=by
  rw[hA];funext b;simp only[Al,cd,cv,hids]
 have hnd:=hH.nodup;simp only[cd,cv,kg,bO]at hnd;have hfr:=hH.free;have hltb:=hH.lt;simp only[cd,cv,bO]at hfr hltb;have hH0:bG E.toCx.G w F0 [x0]:=by
  refine⟨λz hz=>?_,?_,λb hb=>?_,λb hb=>?_,?_⟩
  ·simp only[gS]at hz;subst hz;rw[hAx];exact hxe _ _ (hH.dR x (by simp))
  ·simp only[ids,BN,List.flatMap_nil,ji,hids];exact hnd.2.1.1
  ·simp only[ids,BN,List.flatMap_nil,ji,hids]at hb;rintro (hF|hl|hr')
   ·exact hfr b (.inr (.inl hb)) hF
   ·exact hnd.2.2 b hl b (.inl hb) rfl
   ·exact hnd.2.1.2.2 b hb b hr' rfl
  ·rcases hb with hF|hl|hr'
   ·exact hH.bound b hF
   ·exact hltb b (.inl hl)
   ·exact hltb b (.inr (.inr hr'))
  ·rw[hAx];exact hH.fX
 refine(h0.2 F0 w vs hH0 (by rw[hAx];exact hR)).mono ?_;rintro e w' ⟨r',OB',⟨W',d,O1,h1,h2,h3,h4⟩,hv,hh',hx⟩;cases d with
 |aO z=>exact h4.elim
 |ret z0=>
 obtain⟨u,rfl,h2⟩:=h2;obtain⟨v,rfl,hv⟩:=hv;have h10:=h1 0 (by simp[iG])
 --what is left there
 obtain⟨x',g1,g2,g3,g4,g5⟩:∃x':aq,lT ⟨λt=>if t=l.length then W'.b 0 else W.b t,λt n=>if t=l.length then W'.s 0 n else W.s t n⟩ l.length e1.c x'/\x'.ok w' (Al F (l++x'::r))/\(∀b∈x'.ids,b∈ids OB')/\x'.ids.Nodup/\Rel w' (Al F (l++x'::r)) y v:=by
  cases e1 with
  |box us=>
   obtain⟨cs',z,zs,ns,ms,q1,q2,q3,q4,q5,q6⟩:=h4;obtain⟨q,hq1,hq2⟩:=h3.en 0 _ q1;obtain⟨b,us',hb,rfl,hi'⟩:=hq2;obtain⟨e',vs',hheap,hvs⟩:=iP hh' hq1;obtain⟨f1,_⟩:=jt h3 hh' (ms.map (·.1)) 60 q2 q3 (λp hp=>dE.2 ⟨p,hp,rfl⟩) (by simp only[aQ];exact⟨u,us',rfl,h2,hi'⟩) (vs:=v::vs') (by simp only[aH];exact⟨v,vs',rfl,hv,hvs⟩);have hk:cS w' (fP F0 OB' (ms.map (·.1))) w' (Al F (l++(aq.box b us)::r)):=⟨bS _,λb' _ hb'=>⟨by
    rw[<-hA];refine⟨hb'.1,?_⟩;have:=hb'.2 0 _ hq1 (λhm=>by
     obtain⟨p,hp,hp0⟩:=dE.1 hm;have:=fR.1 q4 p hp;rw[hp0]at this;simp at this)
    simpa[ids,aq.ids]using this,rfl⟩⟩
   simp only[aH]at f1;obtain⟨v1,vs1,e1',f2,f3⟩:=f1;simp only[kb]at e1';obtain⟨rfl,rfl⟩:=e1';exact⟨.box b us,⟨b,us,by simpa using hb,rfl,iq _⟩,⟨e',vs',hheap,q6.rel (f3.keep hk)⟩,λb' hb'=>il.2 ⟨_,a7 (by rw[<-cA];exact hq1),by simpa[aq.ids]using hb'⟩,by simp[aq.ids],q5 _ _ _ (f2.keep hk)⟩
  |row e k rows=>
   obtain⟨rows0,z,ns,ms,q1,q2,q3,q4,q5,q6⟩:=h4;obtain⟨q,hq1,hq2⟩:=h3.en 0 _ q1;obtain⟨⟨a,c,hb,rfl⟩,hm⟩:=hq2;have hl:=q6.length;obtain⟨vs',f4,f5⟩:=iP hh' hq1;obtain⟨f1,_⟩:=jt h3 hh' (ms.map (·.1)) 60 q2 q3 (λp hp=>dE.2 ⟨p,hp,rfl⟩) (by simp only[aQ];exact⟨u,[],rfl,h2,rfl⟩) (vs:=[v]) (by simp only[aH];exact⟨v,[],rfl,hv,rfl⟩);have hk:cS w' (fP F0 OB' (ms.map (·.1))) w' (Al F (l++(aq.row (.slice a rows.length c) e k rows)::r)):=⟨bS _,λb' _ hb'=>⟨by
    rw[<-hA];refine⟨hb'.1,?_⟩;have:=hb'.2 0 _ hq1 (λhm=>by
     obtain⟨p,hp,hp0⟩:=dE.1 hm;have:=fR.1 q4 p hp;rw[hp0]at this;simp at this)
    cases a with|none=>simp[ids,aq.ids,Value.ownBlock]|some a=>simpa[ids,aq.ids,Value.ownBlock]using this,rfl⟩⟩
   simp only[aH]at f1;obtain⟨v1,vs1,e1',f2,f3⟩:=f1;simp only[kb]at e1';obtain⟨rfl,rfl⟩:=e1';refine⟨.row (.slice a rows.length c) e k rows,⟨⟨a,c,by simpa[hl]using hb,rfl⟩,λm hm'=>by simpa using hm m (by omega)⟩,⟨vs',(q6.rel f4).keep ⟨bS _,λb' hb' ha=>hk.2 b' hb' (SR _ ha)⟩,by rw[hl];exact f5⟩,λb' hb'=>il.2 ⟨_,a7 (by rw[<-cA];exact hq1),by cases a with|none=>simp[aq.ids,Value.ownBlock]at hb'|some a=>simpa[aq.ids,Value.ownBlock]using hb'⟩,?_,q5 _ _ _ (f2.keep hk)⟩;simp only[aq.ids];cases (Value.slice a rows.length c).ownBlock<;>simp
 have hnew:∀b∈x'.ids,b∈x.ids\/w.heap.size<=b:=λb hb=>(hx.new b (g3 b hb)).imp (λhb=>by simpa[ids,hids]using hb) id;have hblk:∀b,b<w.heap.size->b∉x.ids->w'.heap[b]? =w.heap[b]? :=λb hb hn=>hx.block b hb (by simpa[ids,hids]using hn);have hset:∀(t:Nat),t≠l.length->∀n,(λ(t n:Nat)=>if t=l.length then W'.s 0 n else W.s t n) t n=W.s t n:=λt ht n=>by simp[ht]
 have hle:W.le ⟨λt=>if t=l.length then W'.b 0 else W.b t,λt n=>if t=l.length then W'.s 0 n else W.s t n⟩:=by
  refine⟨λt b hb=>?_,λt n b hb=>?_⟩
  ·by_cases ht:t=l.length
   ·subst ht;simp only[if_true];exact h10.1 b (by simpa[aJ.one]using hb)
   ·simp only[ht,if_false];exact hb
  ·by_cases ht:t=l.length
   ·subst ht;simp only[if_true];exact h10.2 n b (by simpa[aJ.one]using hb)
   ·simp only[ht,if_false];exact hb
 have hlen:l.length<O.n:=by have:=hh.len;simp at this;omega
 refine⟨.ret y,l++x'::r,⟨_,.ret (.d y),O.set l.length e1.c,hle.toK _,⟨y,rfl,rfl⟩,⟨λt z hz=>?_,?_,λt ht=>?_⟩,rfl,rfl⟩,⟨v,rfl,g5⟩,hH.kE hx.size hblk hnew g4 g2,⟨hx.os,hx.tape,hx.output,hx.size,λb hb hn=>hblk b hb (λhm=>hn (by simp only[cd,cv,bO];exact .inr (.inl hm))),λb hb=>?_,hx.drawn⟩⟩
 ·simp only[Hp.set]at hz;rcases Tr.eB 24 O.e l.length t (some e1.c) z hz with⟨rfl,q1⟩|⟨hne,q1⟩
  ·cases q1;exact⟨x',ac7 _ _ _,g1⟩
  ·obtain⟨z',q2,q3⟩:=hh.en t z q1;exact⟨z',by rw[aap hne];exact q2,q3.mono hle (by funext n;exact hset t hne n)⟩
 ·have:=hh.len;simpa[Hp.set]using this
 ·simp only[Hp.set]at ht;have hne:t≠l.length:=by omega
  simp only[hne,if_false];exact hh.gQ t ht
 ·simp only[cd,cv,bO]at hb⊢;rcases hb with hb|hb|hb
  ·exact .inl (.inl hb)
  ·rcases hnew b hb with hb|hb
   ·exact .inl (.inr (.inl hb))
   ·exact .inr hb
  ·exact .inl (.inr (.inr hb))
theorem ak.kX {dst:Option Nat} {f:Operand} {args:List Operand} {g:FuncId} {cs xs xs':List CV} {ce:br} {e0 e1:jQ} {y:AV} {tys:Array TypeId} {ty:TypeId} {pos:String} {after:Array Edge} (i:Nat)
  (h:iS E g xs e0 y e1) (hc:dz Z f args=some (g,cs)) (hr:rb i cs=some xs') (hx:xs'=xs) (hi:O.e.get i=some ce) (hs:nK ce e0) (hd:cw N dst=true)
  (k1:ak E N K (.ops all rest::k) Q (bW Z dst (.d y)) (O.set i e1.c)):
  ak E N K (.ops all (⟨dst,.call {callee:= .value f,args:=args.toArray,argTypes:=tys},ty,pos,after,none⟩::rest)::k) Q Z O:=by
 subst hx;exact DO.call (h.frame hr hi hs) hc hd (λx O' hq=>by obtain⟨e,rfl⟩:=hq;cases e;exact k1) (λx O' hq=>by cases hq.1)
def oX (ty:Nat) (z:AV):Option (Int×Int):=match z with
 | .bC t (.agg [.v (.int .i64 a),.v (.int .i64 b)])=>bif Nat.beq t ty then some (a,b)else none
 |_=>none
theorem Zi {ty:Nat} {z:AV} {p:Int×Int} (h:oX ty z=some p):z= .bC ty (.agg [.v (.int .i64 p.1),.v (.int .i64 p.2)]):=by
 unfold oX at h;split at h
 ·rename_i t a b;cases hb:Nat.beq t ty with
  |false=>rw[hb]at h;cases h
  |true=>rw[hb]at h;cases h;rw[bI hb]
 ·cases h
def fC {α β:Type} (ty:Nat) (o:Option (bx α)) (g:Int->Int->Option β) (f:α->Option β):Option β:=match o with
 |some (.ret x)=>f x
 |some (.aO z)=>(oX ty z).bind λp=>g p.1 p.2
 |none=>none
theorem abA {α β:Type} {ty:Nat} {o:Option (bx α)} {g:Int->Int->Option β} {f:α->Option β} {r:β} (h:fC ty o g f=some r):(∃a b,o=some (.aO (.bC ty (.agg [.v (.int .i64 a),.v (.int .i64 b)])))/\g a b=some r)\/∃x,o=some (.ret x)/\f x=some r:=by
 cases o with
 |none=>cases h
 |some x=>cases x with
  |ret x=>exact .inr ⟨x,rfl,h⟩
  |aO z=>
   obtain⟨p,h1,h2⟩:=ck h;rw[Zi h1];exact .inl ⟨p.1,p.2,rfl,h2⟩
theorem ak.abB {dst dst':Option Nat} {f:Operand} {args:List Operand} {g:FuncId} {cs:List CV} {xs' xs:List AV} {ns:List (Nat×Nat)} {ms:List (Nat×br)} {ty':Nat} {a b:Int} {N' K':Nat} {Z':TS} {k':List It} {tys:Array TypeId} {ty:TypeId} {pos:String} {after:Array Edge} (h:Pure E.toCx g xs (.aO (.bC ty' (.agg [.v (.int .i64 a),.v (.int .i64 b)])))) (hc:dz Z f args=some (g,cs)) (hf:cr O.e 60 cs=some (xs',ns,ms)) (hn:eqs ns) (hi:b8 xs' xs) (hl:ms=[]\/cZ (.bC ty' (.agg [.v (.int .i64 a),.v (.int .i64 b)]))=true)
  (hp:jL k=some (N',K',Z',dst',ty',k')) (hq:ak E N' K' k' Q (bW Z' dst' (.d (.agg [.v (.int .i64 a),.v (.int .i64 b)]))) O):ak E N K (.ops all (⟨dst,.call {callee:= .value f,args:=args.toArray,argTypes:=tys},ty,pos,after,none⟩::rest)::k) Q Z O:=by
 show DO E N K all _ (dq E N K k Q) Z O;exact DO.sR 60 h hc hf hn hi hl (mA (y:= .agg [.v (.int .i64 a),.v (.int .i64 b)]) (.inr rfl) rfl k N K hp hq)
theorem bK.kX {f:Operand} {args:List Operand} {g:FuncId} {cs xs xs':List CV} {ce:br} {e0 e1:jQ} {y:AV} {tys:Array TypeId} (i:Nat) (ho:o.op= .call {callee:= .value f,args:=args.toArray,argTypes:=tys})
  (h:iS E g xs e0 y e1) (hc:dz Z f args=some (g,cs)) (hr:rb i cs=some xs') (hx:xs'=xs) (hi:O.e.get i=some ce) (hs:nK ce e0):bK E N o Z O (λr O'=>r= .ret (.d y)/\O'=O.set i e1.c):=by
 subst hx;exact bK.call ho (h.frame hr hi hs) hc
theorem iS.walk {g:FuncId} {fn:Func} {c:Code} {xs:List CV} {rs:List ResultVar} {nt:Nat} {e0 e1:jQ} {y:AV} (hf:E.P.funcs[g]? =some fn) (hb:fn.body=some c) (hname:(fn.name== "runtime.NumGoroutine")=false) (hrs:fn.results=rs.toArray) (hnt:fn.ntmps=nt) (hn:Nat.ble xs.length nt=true)
  (h:ak E nt 1 [.code c] (RD E.T rs (xU y e1)) (iv 0 xs) (iG [e0.c])):iS E g xs e0 y e1:=eH.enter hf hb hname rs hrs nt hnt hn h
theorem RD.SO {rs:List ResultVar} {xs cs:List CV} {z y:AV} {zs us:List AV} {ns:List (Nat×Nat)} {ms:List (Nat×br)} (h:eh E.T Z O rs=some xs) (hg:O.e.get 0=some (.box cs)) (hf:cr O.e 60 (ff xs::cs)=some (z::zs,ns,ms)) (hn:eqs ns) (hm:(ms.all λp=>Nat.blt 0 p.1)=true) (e:bV z y) (e':b8 zs us):RD E.T rs (xU y (.box us)) .ret Z O:=
 ⟨xs,h,cs,z,zs,ns,ms,hg,hf,hn,hm,e,e'⟩
theorem ak.fu (j:Nat) {e kk:Nat} {rows rows':List (List AV)} (hi:O.e.get j=some (.row e kk rows)) (hI:du rows rows') (h:ak E N K (.ops all rest::k) Q Z (O.set j (.row e kk rows'))):ak E N K (.ops all rest::k) Q Z O:=by
 show DO E N K all rest _ Z O;intro W ZB ηB hs hh;obtain⟨y,hy,hE⟩:=hh.en j _ hi;obtain⟨⟨a,c,ha,rfl⟩,hm⟩:=hE;have hl:=hI.length;refine bf.iW (dB.A9 j (y:= .row (.slice a rows.length c) e kk rows') hy rfl (λw A h=>?_)) ?_
 ·obtain⟨vs,h1,h2⟩:=h;exact⟨vs,hI.rel h1,by rw[hl];exact h2⟩
 exact h W _ _ hs (hh.set (.refl W) (λ_ _=>rfl) (λ_ _=>rfl) (hh.lt hi) ⟨⟨a,c,by rw[hl];exact ha,by rw[hl]⟩,λm hm'=>hm m (by omega)⟩)
def nH (m:Int):Option Nat:=match m with
 | .ofNat l=>bif Nat.ble l 274877906944 then some l else none
 | .negSucc _=>none
theorem Cc {m:Int} {l:Nat} (h:nH m=some l):m=(l:Int)/\l<=274877906944:=by
 unfold nH at h;split at h
 ·rename_i k;cases hb:Nat.ble k 274877906944 with
  |false=>rw[hb]at h;cases h
  |true=>rw[hb]at h;cases h;exact⟨rfl,dL hb⟩
 ·cases h
theorem du.replicate {a b:List AV} (h:b8 a b):∀m:Nat,du (List.replicate m a) (List.replicate m b)
 |0=> .nil
 |m+1=> .cons h (du.replicate h m)
theorem ak.make {d:Nat} {t:TypeId} {p q:Operand} {ty:TypeId} {pos:String} {after:Array Edge} {e kk sz by' sz' by'':Nat} {z z':List Value} {td':TD} {kl kc:IntKind} {li ci:Int} (l:Nat)
  (hx:aW Z p=some (.d (.v (.int kl li)))) (hli:li=(l:Int)) (hy:aW Z q=some (.d (.v (.int kc ci)))) (hci:ci=(l:Int)) (ht:aZ E.T t=some ⟨.slice e kk,sz,by',z⟩) (hte:aZ E.T e=some ⟨td',sz',by'',z'⟩)
  (hk:Nat.ble 1 kk=true) (hby:Nat.ble 1 by''=true) (hd:Nat.blt d N=true) (hb:l*by''<=140737488355328)
  (h:ak E N K (.ops all rest::k) Q (bW Z (some d) (.os O.n l)) (O.push (.row e kk (List.replicate l (z'.map .v))))):ak E N K (.ops all (⟨some d,.makeSlice t p q,ty,pos,after,none⟩::rest)::k) Q Z O:=
 DO.make l l hb (bS _) hx hli hy hci ht hte hk hby hd h
theorem ak.DZ {d:Nat} {t:TypeId} {p q:Operand} {ty:TypeId} {pos:String} {after:Array Edge} {e kk sz by' sz' by'':Nat} {z z':List Value} {td':TD} {kl kc:IntKind} {li ci:Int} (l:Nat) (rows':List (List AV))
  (hx:aW Z p=some (.d (.v (.int kl li)))) (hli:li=(l:Int)) (hy:aW Z q=some (.d (.v (.int kc ci)))) (hci:ci=(l:Int)) (ht:aZ E.T t=some ⟨.slice e kk,sz,by',z⟩) (hte:aZ E.T e=some ⟨td',sz',by'',z'⟩)
  (hk:Nat.ble 1 kk=true) (hby:Nat.ble 1 by''=true) (hd:Nat.blt d N=true) (hb:l*by''<=140737488355328) (hI:du (List.replicate l (z'.map .v)) rows') (hg:(O.push (.row e kk (List.replicate l (z'.map .v)))).e.get O.n=some (.row e kk (List.replicate l (z'.map .v))))
  (h:ak E N K (.ops all rest::k) Q (bW Z (some d) (.os O.n rows'.length)) ((O.push (.row e kk (List.replicate l (z'.map .v)))).set O.n (.row e kk rows'))):ak E N K (.ops all (⟨some d,.makeSlice t p q,ty,pos,after,none⟩::rest)::k) Q Z O:=by
 have hl:rows'.length=l:=by have:=hI.length;simpa using this
 refine ak.make l hx hli hy hci ht hte hk hby hd hb ?_;rw[hl]at h;exact ak.fu O.n (rows:=List.replicate l (z'.map .v)) hg hI h
theorem bK.uG (t:Nat) {x y:AV} {R:DR->Hp->Prop} (ht:Z.get t=some (.d x)) (hi:bV x y) (h:bK E N o (Tr.put 24 Z t (some (.d y))) O R):bK E N o Z O R:=λW s ηB hs hh=>by
 obtain⟨z,h1,h2⟩:=hs t _ ht;simp only[aG]at h2;subst h2;have hs1:SS W (Tr.put 24 Z t (some (.d y))) (fw s t y):=λu q hq=>by
  rcases Tr.eB 24 Z t u _ q hq with⟨rfl,h3⟩|⟨hne,h3⟩
  ·cases h3;exact⟨y,by simp[fw],rfl⟩
  ·obtain⟨q',h4,h5⟩:=hs u q h3;exact⟨q',by simp[fw,hne,h4],h5⟩
 intro F w a hN hd hH hopd;refine h W (fw s t y) ηB hs1 hh F w a hN hd hH (λu hu q hq=>?_);unfold fw at hq;split at hq
 ·rename_i hut;subst hut;simp only[aC]at hq;subst hq;obtain⟨g1,g2⟩:=hopd u hu _ h1;exact⟨g1,hi _ _ _ g2⟩
 ·exact hopd u hu q hq
theorem ak.Zj {l:List (Nat×Oper×TK)} {A:bN} {pend:List (Nat×Oper×CV)} {fs:List (Nat×List AV×AV)} {q:Nat} {t:TypeId} {p v:Operand} {i n m e kk:Nat} {rows:List (List AV)} {r r':List AV} {x:AV} {ti:TI} {Z1:TS} {O1:Hp} (u:Nat) (y:AV) (j off:Nat) (hpd:aE E N all pend Z O) (hnd:fe ((dH (cq all.toArray q A)).map (·.1))=true) (hd:o.dst=none) (cI:eG (dH (cq all.toArray q A)) Z O=(Z1,O1)) (hw:cM all o Z1=some true)
  (ho:o.op= .store t p v) (hu:Z1.get u=some (.d x)) (hI:bV x y) (hp:aW (Tr.put 24 Z1 u (some (.d y))) p=some (.oe i n m)) (hv:aW (Tr.put 24 Z1 u (some (.d y))) v=some (.d y)) (hi:O1.e.get i=some (.row e kk rows)) (hn:n=rows.length)
  (hm:m=j*kk+off) (hr:rows[j]? =some r) (ht:aZ E.T t=some ti) (hk:Nat.beq (cg y).length ti.size=true) (h1:eg (cg y)=true) (hl:eE r off (cg y)=some r')
  (h:ak E N K (.tl all l (cB all.toArray q A) (cP all q pend) fs::k) Q Z1 (O1.set i (.row e kk (rows.set j r')))):ak E N K (.tl all ((q,o,.one)::l) A pend fs::k) Q Z O:=
 ak.qW hpd hnd (by rw[hd];rfl) cI hw (bK.uG u hu hI (bK.kp j off ho hp hv hi hn hm hr ht hk h1 hl)) (λx O' hR=>by obtain⟨h2,rfl⟩:=hR;rw[hd];exact h) (λx O' hR=>by cases hR.1)
def D0 (e k:Nat) (rows:List (List AV)):DR->Hp->Prop
 | .ret x,O=>(∃j n rows0,x= .os j n/\n=rows0.length/\O.e.get j=some (.row e k rows0)/\du rows0 rows)\/(x= .d (.v (.slice none 0 0))/\rows=[])
 | .aO _,_=>False
def jM (E:Env) (g:FuncId) (args:List AV) (e k:Nat) (rows:List (List AV)):Prop:=eH E g (args.map .d) Hp.nil (D0 e k rows)
theorem jM.frame {g:FuncId} {args:List AV} {e k:Nat} {rows:List (List AV)} {cs:List CV} (h:jM E g args e k rows) (hc:fL cs=some args):eH E g cs O (λr O'=>r= .ret (.os O.n rows.length)/\O'=O.push (.row e k rows)):=λW ys ηB hys hh=>by
 have:=Gb hc hys;subst this;have h0:=h ⟨λ_=>none,λ_ _=>none⟩ ys [] (iq ys) (HS.nil _ λ_=>⟨rfl,λ_=>rfl⟩);refine⟨h0.1,λF w vs hH hR=>?_⟩;have hA:Al (λb=>F b\/b∈ids ηB) []=Al F ηB:=funext λb=>propext (by simp[Al,ids]);have hH0:bG E.toCx.G w (λb=>F b\/b∈ids ηB) []:=⟨by simp,by simp[ids],by simp[ids],λb hb=>hb.elim (hH.bound b) (hH.lt b),by rw[hA];exact hH.fX⟩;refine(h0.2 _ w vs hH0 (by rw[hA];exact hR)).mono ?_;rintro e' w' ⟨r',OB',⟨W',d,O1,h1,h2,h3,h4⟩,hv,hh',hx⟩;cases d with
 |aO z=>exact h4.elim
 |ret z0=>
 obtain⟨u,rfl,h2⟩:=h2;obtain⟨v,rfl,hv⟩:=hv;have hsame:∀b,b<w.heap.size->w'.heap[b]? =w.heap[b]? :=λb hb=>hx.block b hb (by simp[ids]);have hlen:=hh.len
 --the row
 obtain⟨a,c,rfl,g2,g3⟩:∃a c,v= .slice a rows.length c/\(aq.row (.slice a rows.length c) e k rows).ok w' (Al F (ηB++[.row (.slice a rows.length c) e k rows]))/\∀b∈(aq.row (.slice a rows.length c) e k rows).ids,w.heap.size<=b:=by
  rcases h4 with⟨j,n,rows0,rfl,rfl,hg,hi⟩|⟨rfl,rfl⟩
  ·obtain⟨q,hq1,hq2⟩:=h3.en j _ hg;obtain⟨⟨a,c,hb,rfl⟩,_⟩:=hq2;simp only[aG]at h2;obtain⟨a',c',t',hb',rfl⟩:=h2;rw[hb]at hb';cases hb';have hl:=hi.length;simp only[Rel]at hv;subst hv;obtain⟨vs',f4,f5⟩:=iP hh' hq1;have hnew:∀b∈(aq.row (.slice a rows0.length c) e k rows0).ids,w.heap.size<=b:=λb hb=>(hx.new b (il.2 ⟨_,a7 (by rw[<-cA];exact hq1),hb⟩)).elim (λh=>by simp[ids]at h) id;refine⟨a,c,by rw[hl],⟨vs',(hi.rel f4).keep ⟨bS _,λb _ ha=>⟨⟨λhF=>ha.1 (.inl hF),λhm=>?_⟩,rfl⟩⟩,by rw[hl];exact f5⟩,λb hb=>hnew b (by cases a with|none=>simp[aq.ids,Value.ownBlock]at hb|some a=>simpa[aq.ids,Value.ownBlock]using hb)⟩;rw[cd,bO]at hm;rcases hm with hm|hm
   ·exact ha.1 (.inr hm)
   ·exact ha.2 (il.2 ⟨_,a7 (by rw[<-cA];exact hq1),by cases a with|none=>simp[ids,aq.ids,Value.ownBlock]at hm|some a=>simpa[ids,aq.ids,Value.ownBlock]using hm⟩)
  ·simp only[aG]at h2;subst h2;simp only[Rel]at hv;subst hv;exact⟨none,0,rfl,⟨[],by simp[bo],by simp,.inl ⟨rfl,rfl⟩⟩,by simp[aq.ids,Value.ownBlock]⟩
 have hdom:=hh.gQ O.n (bS _);have hle:W.le (W.bj O.n rows.length (a,c)):=aJ.kP λy hy=>by rw[hdom.2]at hy;cases hy
 have hbn:(W.bj O.n rows.length (a,c)).s O.n rows.length=some (a,c):=by simp[aJ.bj]
 refine⟨.ret (.os 0 a rows.length c),ηB++[.row (.slice a rows.length c) e k rows],⟨_,.ret (.os O.n rows.length),O.push (.row e k rows),hle.toK _,⟨_,rfl,by simp only[aG];exact⟨_,_,_,hbn,rfl⟩⟩,?_,rfl,rfl⟩,⟨_,rfl,by simp only[Rel]⟩,hH.push hx.size hsame g3 (by simp only[aq.ids];cases (Value.slice a rows.length c).ownBlock<;>simp) g2,⟨hx.os,hx.tape,hx.output,hx.size,λb hb _=>hsame b hb,λb hb=>?_,hx.drawn⟩⟩
 ·refine hh.push hle (λi hi=>by funext m;simp[aJ.bj,hi]) (λ_ _=>rfl) ⟨⟨a,c,hbn,rfl⟩,λm hm=>?_⟩;have:m≠rows.length:=by omega
  simp only[aJ.bj,this,and_false,if_false];exact hdom.2 m
 ·rw[cd,bO]at hb;rcases hb with hb|hb
  ·exact .inl hb
  ·exact .inr (g3 b (by simpa[ids]using hb))
theorem ak.Im {dst:Option Nat} {f:Operand} {args:List Operand} {g:FuncId} {cs:List CV} {xs xs':List AV} {e kk:Nat} {rows:List (List AV)} {tys:Array TypeId} {ty:TypeId} {pos:String} {after:Array Edge}
  (h:jM E g xs e kk rows) (hc:dz Z f args=some (g,cs)) (hx:fL cs=some xs') (hi:xs'=xs) (hd:cw N dst=true) (k1:ak E N K (.ops all rest::k) Q (bW Z dst (.os O.n rows.length)) (O.push (.row e kk rows))):
  ak E N K (.ops all (⟨dst,.call {callee:= .value f,args:=args.toArray,argTypes:=tys},ty,pos,after,none⟩::rest)::k) Q Z O:=by
 subst hi;exact DO.call (h.frame hx) hc hd (λx O' hq=>by obtain⟨e,rfl⟩:=hq;cases e;exact k1) (λx O' hq=>by cases hq.1)
theorem jM.walk {g:FuncId} {fn:Func} {c:Code} {xs:List AV} {rs:List ResultVar} {nt:Nat} {e kk:Nat} {rows:List (List AV)} (hf:E.P.funcs[g]? =some fn) (hb:fn.body=some c) (hname:(fn.name== "runtime.NumGoroutine")=false) (hrs:fn.results=rs.toArray) (hnt:fn.ntmps=nt) (hn:Nat.ble xs.length nt=true)
  (h:ak E nt 0 [.code c] (RD E.T rs (D0 e kk rows)) (iv 0 (xs.map .d)) Hp.nil):jM E g xs e kk rows:=eH.enter hf hb hname rs hrs nt hnt (by simpa using hn) h
theorem RD.Io {rs:List ResultVar} {xs:List CV} {e kk j n:Nat} {rows0 rows:List (List AV)} (h:eh E.T Z O rs=some xs) (hp:ff xs= .os j n) (hn:n=rows0.length) (hg:O.e.get j=some (.row e kk rows0)) (e':du rows0 rows):RD E.T rs (D0 e kk rows) .ret Z O:=
 ⟨xs,h,.inl ⟨j,n,rows0,hp,hn,hg,e'⟩⟩
theorem RD.GO {rs:List ResultVar} {xs:List CV} {e kk:Nat} {rows:List (List AV)} (h:eh E.T Z O rs=some xs) (hp:ff xs= .d (.v (.slice none 0 0))) (e':rows=[]):RD E.T rs (D0 e kk rows) .ret Z O:=
 ⟨xs,h,.inr ⟨hp,e'⟩⟩
