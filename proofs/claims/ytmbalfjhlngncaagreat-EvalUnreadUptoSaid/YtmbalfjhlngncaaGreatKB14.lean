/- What the orders of a tail say of worlds; the rule for regions whose order is open. -/
import Derived.Test.YtmbalfjhlngncaaGreatKB12
import Derived.Test.YtmbalfjhlngncaaGreatKD3
set_option linter.all false
noncomputable section
namespace Go.Bw
open Go
def UH (C:Cx) (N:Nat) (ops:Array Oper) (p:Nat×(Nat×List AV)):Prop:=∃o,ops[p.1]? =some o/\o.guard=none/\o.dst=some p.2.1/\p.2.1<N/\(∀e∈o.after,Region.binds .any e=false)/\∀s O,fD C N o s O p.2.2
def dm (st:Nat->Option Nat):bN->List aq
 |[]=>[]
 |p::A=>(match st p.1 with
  |some b=>[.box b p.2.2]
  |none=>[])++dm st A
def eW (st:Nat->Option Nat):bN->Nat
 |[]=>0
 |p::A=>(match st p.1 with
  |some _=>0
  |none=>1)+eW st A
def gN (st:Nat->Option Nat) (i b:Nat):Nat->Option Nat:=λk=>if k=i then some b else st k
def lX (st:Nat->Option Nat) (A:bN):List ((Nat×List AV)×Nat):=A.map λp=>(p.2,(st p.1).getD 0)
section
variable {C:Cx} {N:Nat} {ops:Array Oper} {st:Nat->Option Nat}
theorem Na (j:Nat):∀A:bN,(dm st A).Perm (dm st (cq ops j A)++dm st (cB ops j A))
 |[]=>List.Perm.refl _
 |p::A=>by
  have ih:=Na j A;simp only[cq,cB,pU]at ih⊢;cases hb:eC ops p.1 j with
  |true=>
   simp only[fm,if_true,dm,jA,if_false,kJ];exact ih.append_left _
  |false=>
   simp only[BU,if_true,dm,jA,if_false];refine(ih.append_left _).trans ?_;rw[<-kJ,<-kJ];exact List.perm_append_comm.append_right _
theorem OR (j:Nat):∀A:bN,eW st A=eW st (cq ops j A)+eW st (cB ops j A)
 |[]=>rfl
 |p::A=>by
  have ih:=OR j A;simp only[cq,cB,pU]at ih⊢;cases hb:eC ops p.1 j with
  |true=>simp only[fm,if_true,eW,jA,if_false];omega
  |false=>simp only[BU,if_true,eW,jA,if_false];omega
theorem PE:∀{A:bN},(∀p∈A,st p.1≠none)->eW st A=0
 |[],_=>rfl
 |p::A,h=>by
  simp only[eW];rw[PE (A:=A) λq hq=>h q (by simp[hq])];have:=h p (by simp);cases hs:st p.1 with
  |none=>exact absurd hs this
  |some b=>rfl
theorem QL:∀{A:bN} {p:Nat×(Nat×List AV)},p∈A->st p.1=none->0<eW st A
 |q::A,p,hp,hs=>by
  simp only[eW];rcases b6.1 hp with rfl|hp
  ·rw[hs];simp only;omega
  ·have:=QL hp hs;omega
theorem PG:∀{A:bN},(∀p∈A,st p.1≠none)->cX (lX st A)=dm st A
 |[],_=>rfl
 |p::A,h=>by
  have ih:=PG (A:=A) λq hq=>h q (by simp[hq]);have:=h p (by simp);cases hs:st p.1 with
  |none=>exact absurd hs this
  |some b=>
   simp only[cX,lX]at ih;simp only[dm,hs,cX,lX,dg,Yz,akj,ih]
theorem abL (A:bN):(lX st A).map (·.1)=mb A:=by simp[lX,mb]
theorem OS {i b:Nat}:∀{A:bN},(∀p∈A,p.1≠i)->dm (gN st i b) A=dm st A/\eW (gN st i b) A=eW st A
 |[],_=>⟨rfl,rfl⟩
 |p::A,h=>by
  obtain⟨h1,h2⟩:=OS (b:=b) (A:=A) λq hq=>h q (by simp[hq]);have hne:=h p (by simp);simp only[dm,eW,h1,h2,gN,hne,if_false,and_self]
theorem PH {b:Nat}:∀{A:bN} {p:Nat×(Nat×List AV)},p∈A->(A.map (·.1)).Nodup->st p.1=none->(dm (gN st p.1 b) A).Perm (dm st A++[.box b p.2.2])/\eW (gN st p.1 b) A+1=eW st A
 |q::A,p,hp,hnd,hs=>by
  simp only[dg,MR,dE,not_exists,not_and]at hnd;rcases b6.1 hp with rfl|hp
  ·obtain⟨h1,h2⟩:=OS (st:=st) (b:=b) (A:=A) (i:=p.1) λq hq he=>hnd.1 q hq he;simp only[dm,eW,h1,h2,hs];refine⟨?_,by simp[gN];omega⟩;simp only[gN,if_true,pO];exact Fv
  ·have hne:q.1≠p.1:=λhe=>hnd.1 p hp he.symm;obtain⟨h1,h2⟩:=PH (b:=b) hp hnd.2 hs;simp only[dm,eW];have e:gN st p.1 b q.1=st q.1:=by simp[gN,hne]
   rw[e];refine⟨?_,by omega⟩;rw[kJ];exact h1.append_left _
theorem bG.back {G:Gl} {w w':World} {F:Nat->Prop} {Os Os' Or:List aq} (hH1:bG G w F (Os++Or)) (hh:bG G w' (λb=>F b\/b∈ids Or) Os') (hext:Ext Os w Os' w'):bG G w' F (Os'++Or)/\Ext (Os++Or) w (Os'++Or) w':=by
 have hlt:=hH1.lt;have hnd:=hH1.nodup;rw[cd,kg]at hnd;have hA:Al (λb=>F b\/b∈ids Or) Os'=Al F (Os'++Or):=nr;have hmem:∀b,b∈ids (Os++Or)↔b∈ids Os\/b∈ids Or:=λb=>by rw[cd,bO]
 have hnew:∀b∈ids Os',b∈ids Os\/w.heap.size<=b:=hext.new;have hr:∀b∈ids Or,b<w.heap.size/\b∉ids Os:=λb hb=>⟨hlt b (by simp[cd,hb]),λhm=>hnd.2.2 b hm b hb rfl⟩;have hE:Ext (Os++Or) w (Os'++Or) w':=by
  refine⟨hext.os,hext.tape,hext.output,hext.size,λb hb hn=>hext.block b hb λhm=>hn ((hmem b).2 (.inl hm)),λb hb=>?_,hext.drawn⟩;rw[cd,bO]at hb;rcases hb with hb|hb
  ·exact(hnew b hb).imp (λhm=>(hmem b).2 (.inl hm)) id
  ·exact .inl ((hmem b).2 (.inr hb))
 have hk:cS w (Al F (Os++Or)) w' (Al F (Os'++Or)):=hE.keeps;refine⟨⟨λx hx=>?_,?_,λb hb=>?_,λb hb=>hh.bound b (.inl hb),hH1.fX.keep hk⟩,hE⟩
 ·rcases bO.1 hx with hx|hx
  ·rw[<-hA];exact hh.dR x hx
  ·have hx0:=hH1.dR x (by simp[hx]);refine hx0.keep hk λb hb=>?_;have hbm:b∈ids Or:=il.2 ⟨x,hx,hb⟩;exact hext.block b (hr b hbm).1 (hr b hbm).2
 ·rw[cd,kg];refine⟨hh.nodup,hnd.2.1,λa ha b hb hab=>?_⟩;subst hab;rcases hnew a ha with h1|h1
  ·exact(hr a hb).2 h1
  ·have:=(hr a hb).1;omega
 ·rw[cd,bO]at hb;rcases hb with hb|hb
  ·exactλhF=>hh.free b hb (.inl hF)
  ·exact hH1.free b ((hmem b).2 (.inr hb))
theorem bG.drop {G:Gl} {w:World} {F:Nat->Prop} {O L:List aq} (h:bG G w F (O++L)):bG G w F O:=by
 have hsub:∀b∈ids O,b∈ids (O++L):=λb hb=>by rw[cd];exact ly _ hb
 have hk:=cS.sub (w:=w) (F:=F) hsub;have hnd:=h.nodup;rw[cd,kg]at hnd;exact⟨λx hx=>(h.dR x (by simp[hx])).keep hk (λ_ _=>rfl),hnd.1,λb hb=>h.free b (hsub b hb),h.bound,h.fX.keep hk⟩
theorem Ext.perm {O O' O'':List aq} {w w':World} (h:Ext O w O' w') (hp:O'.Perm O''):Ext O w O'' w':=⟨h.os,h.tape,h.output,h.size,h.block,λb hb=>h.new b ((wW hp).mem_iff.2 hb),h.drawn⟩
theorem Ext.drop {O O' L:List aq} {w w':World} (h:Ext O w (O'++L) w'):Ext O w O' w':=⟨h.os,h.tape,h.output,h.size,h.block,λb hb=>h.new b (by rw[cd];exact ly _ hb),h.drawn⟩
structure Uq (C:Cx) (N:Nat) (ops:Array Oper) (A:bN) (s:Sl):Prop where
 ok:∀p∈A,UH C N ops p
 nd:(A.map (·.1)).Nodup
 dst:∀p∈A,∀j oj,ops[j]? =some oj->j≠p.1->oj.dst≠some p.2.1
 sl:∀p∈A,s p.2.1=none
structure UI (A:bN) (listed wl:Array Bool) (st:Nat->Option Nat):Prop where
 h1:∀i,wl.getD i true=false->listed.getD i true=false\/∃p∈A,p.1=i/\st i=none
 h2:∀i,wl.getD i false=true->listed.getD i false=true/\∀p∈A,p.1=i->st i≠none
 h3:∀i,listed.getD i true=false->wl.getD i true=false
 h4:∀i,listed.getD i false=true->(∀p∈A,p.1=i->st i≠none)->wl.getD i false=true
 h5:∀p∈A,st p.1=none->wl.getD p.1 true=false
 h6:∀p∈A,listed.getD p.1 true=true
 h7:∀p∈A,listed.getD p.1 false=true
theorem M4 (l:Array Bool) (i:Nat):(l.setIfInBounds i true).getD i true=true:=by
 rcases mh i l.size with h|h
 ·simp[h]
 ·simp[rP,h]
theorem FL {l:Array Bool} {i:Nat} (h:l.getD i true=false):(l.setIfInBounds i true).getD i false=true:=by
 rcases mh i l.size with h'|h'
 ·simp[h']
 ·simp[rP,h']at h
theorem OT:∀{A:bN} {p q:Nat×(Nat×List AV)},(A.map (·.1)).Nodup->p∈A->q∈A->p.1=q.1->p=q
 |x::A,p,q,hnd,hp,hq,he=>by
  simp only[dg,MR,dE,not_exists,not_and]at hnd;rcases b6.1 hp with h1|h1<;>rcases b6.1 hq with h2|h2
  ·rw[h1,h2]
  ·exact absurd (by rw[<-he,h1]) (hnd.1 q h2)
  ·exact absurd (by rw[he,h2]) (hnd.1 p h1)
  ·exact OT hnd.2 h1 h2 he
theorem Y6 {i j:Nat} {o:Oper} (ho:ops[j]? =some o) (h:eC ops i j=true):∃e∈o.after,Region.binds .any e=true/\e.on=i:=by
 unfold eC at h;rw[ho]at h;simp only[FF,bJ,beq_iff_eq]at h;obtain⟨q,hq,h1,h2⟩:=h;exact⟨q,by simpa using hq,h1,h2⟩
theorem eS.perm {w:World} {F:Nat->Prop} {O O':List aq} {a:Act} {s:Sl} (h:eS w (Al F O) N a s) (hp:O.Perm O'):eS w (Al F O') N a s:=by rw[<-qh hp];exact h
variable {Qn:Sl->List aq->Prop} {Qp:AV->List aq->Prop} {Q:AQ}
theorem aaC (hQn:∀s O,Qn s O->∃Z',(∀t x,look Z' t=some x->s t=some x)/\Q .norm Z' O) (hQp:∀x O,Qp x O->Q (.aO x) [] O):
  ∀(m n:Nat) (A:bN) (listed wl:Array Bool) (pend:fZ) (s:Sl) (O:List aq) (st:Nat->Option Nat),m=n+eW st A->ib C N ops Qn Qp n A listed pend s O->Uq C N ops A s->UI A listed wl st->
   ∀F w0 O0 a w,eS w (Al F (O++dm st A)) N a s->(∀p∈A,∀b,st p.1=some b->a.tmps.getD p.2.1 undef= .pointer (some ⟨b,0,none⟩))->bG C.G w F (O++dm st A)->a.defers=[]->Ext O0 w0 (O++dm st A) w->
    wpAny C.P .any ops (CQ C.G N F w0 O0 Q) m wl a w:=by
 intro m
 induction m with
 |zero=>
  intro n A listed wl pend s O st hm h hA hW F w0 O0 a w hs hptr hh hdf hx;have hn:n=0:=by omega
  subst hn;have hall:∀p∈A,st p.1≠none:=λp hp hs=>by have:=QL hp hs;omega
  refine⟨?_,?_⟩
  ·refine akv.2 λj hj=>?_;obtain⟨hju,o,ho,hd⟩:=mem_ready.1 hj;rcases hW.h1 j hju with h1|⟨p,hp,rfl,h2⟩
   ·have:j∈Region.ready .any ops listed:=mem_ready.2 ⟨h1,o,ho,λe he hb=>(hW.h2 _ (hd e he hb)).1⟩;rw[h.2.1]at this;cases this
   ·exact hall p hp h2
  ·obtain⟨Z',h1,h2⟩:=hQn s O h.2.2;refine CQ.intro .norm rfl h2 ⟨?_,hh.drop,hdf⟩ hx.drop;have hk:=cS.sub (w:=w) (F:=F) (O:=O++dm st A) (O':=O) λb hb=>by rw[cd];exact ly _ hb
   exact⟨hs.1,λt x hx=>⟨(hs.2 t x (h1 t x hx)).1,(hs.2 t x (h1 t x hx)).2.keep hk⟩⟩
 |succ m ih=>
  intro n A listed wl pend s O st hm h hA hW F w0 O0 a w hs hptr hh hdf hx;refine⟨λh0=>?_,λj hj=>?_⟩
  ·have hall:∀p∈A,st p.1≠none:=λp hp hsn=>by
    obtain⟨o,ho,_,_,_,hna,_⟩:=hA.ok p hp;have:p.1∈Region.ready .any ops wl:=mem_ready.2 ⟨hW.h5 p hp hsn,o,ho,λe he hb=>by rw[hna e he]at hb;cases hb⟩;rw[h0]at this;cases this
   have hr0:Region.ready .any ops listed=[]:=by
    refine akv.2 λj hj=>?_;obtain⟨hju,o,ho,hd⟩:=mem_ready.1 hj;have:j∈Region.ready .any ops wl:=mem_ready.2 ⟨hW.h3 j hju,o,ho,λe he hb=>hW.h4 _ (hd e he hb) λp hp he'=>by rw[<-he'];exact hall p hp⟩;rw[h0]at this;cases this
   have hq:Qn s O:=by
    cases n with
    |zero=>exact h.2.2
    |succ n=>exact h.2.1 hr0
   obtain⟨Z',h1,h2⟩:=hQn s O hq;refine CQ.intro .norm rfl h2 ⟨?_,hh.drop,hdf⟩ hx.drop;have hk:=cS.sub (w:=w) (F:=F) (O:=O++dm st A) (O':=O) λb hb=>by rw[cd];exact ly _ hb
   exact⟨hs.1,λt x hx=>⟨(hs.2 t x (h1 t x hx)).1,(hs.2 t x (h1 t x hx)).2.keep hk⟩⟩
  ·obtain⟨hju,o,ho,hdep⟩:=mem_ready.1 hj;unfold wpOp;simp only[ho];rcases hW.h1 j hju with hjl|⟨p,hp,hpj,hsn⟩
   ·--an operation of the tail
    have hjr:j∈Region.ready .any ops listed:=mem_ready.2 ⟨hjl,o,ho,λe he hb=>(hW.h2 _ (hdep e he hb)).1⟩;cases n with
    |zero=>rw[h.2.1]at hjr;cases hjr
    |succ n=>
     obtain⟨o',ho',hst⟩:=h.2.2 j hjr;rw[ho]at ho';cases ho';have hex:∀p∈cq ops j A,st p.1≠none:=λp hp=>by
      simp only[cq,gG]at hp;obtain⟨e,he,hb,heq⟩:=Y6 ho hp.2;exact(hW.h2 p.1 (by rw[<-heq];exact hdep e he hb)).2 p hp.1 rfl
     have hstp:=Cs hst (lX st (cq ops j A)) (abL _);have hents:cX (lX st (cq ops j A))=dm st (cq ops j A):=PG hex;have hperm:(O++dm st A).Perm ((O++cX (lX st (cq ops j A)))++dm st (cB ops j A)):=by
      rw[hents,kJ];exact(Na j A).append_left _
     have hH1:=hh.perm hperm;have hx1:=hx.perm hperm;have hzs:∀z∈lX st (cq ops j A),∃p∈A,eC ops p.1 j=true/\z.1=p.2/\st p.1=some z.2:=λz hz=>by
      simp only[lX,dE]at hz;obtain⟨p,hp,rfl⟩:=hz;have:=hex p hp;simp only[cq,gG]at hp;refine⟨p,hp.1,hp.2,rfl,?_⟩;cases hs:st p.1 with
      |none=>exact absurd hs this
      |some b=>rfl
     generalize lX st (cq ops j A)=zs at hstp hperm hH1 hx1 hzs hents;have hcnt:m=n+eW st (cB ops j A):=by
      have h1:=OR (ops:=ops) (st:=st) j A;rw[PE hex]at h1;omega
     have hs1:eS w (Al F ((O++cX zs)++dm st (cB ops j A))) N a (gq O.length zs s):=by
      rw[<-qh hperm];refine⟨hs.1,λt x ht=>?_⟩;simp only[gq]at ht;split at ht
      ·rename_i y hl;cases ht;have:look (fY O.length zs++[]) t=some x:=by simpa using hl
       rcases sB this with⟨z,hz,k,rfl,rfl⟩|h
       ·obtain⟨p,hp,_,he,hsp⟩:=hzs z hz;obtain⟨_,_,_,_,hlt,_⟩:=hA.ok p hp;rw[he];exact⟨hlt,by simp only[Rel];exact hptr p hp _ hsp⟩
       ·simp[look]at h
      ·exact hs.2 t x ht
     have hne:∀p∈A,j≠p.1:=λp hp he=>by
      have:=hW.h6 p hp;rw[<-he,hjl]at this;cases this
     have hsub:∀p∈cB ops j A,p∈A:=λp hp=>(gG.1 hp).1;have hW':UI (cB ops j A) (listed.setIfInBounds j true) (wl.setIfInBounds j true) st:=by
      have hjne:∀{i:Nat} {l:Array Bool},(l.setIfInBounds j true).getD i true=false->j≠i:=λhi he=>by subst he;rw[M4]at hi;cases hi
      refine⟨λi hi=>?_,λi hi=>?_,λi hi=>?_,λi hi hall=>?_,λp hp hsn=>?_,λp hp=>?_,λp hp=>?_⟩
      ·have hji:=hjne hi;rw[getD_set_ne true hji]at hi⊢;rcases hW.h1 i hi with h1|⟨p,hp,rfl,h2⟩
       ·exact .inl h1
       ·refine .inr ⟨p,?_,rfl,h2⟩;simp only[cB,gG,jC];refine⟨hp,?_⟩;cases hb:eC ops p.1 j with
        |false=>rfl
        |true=>exact absurd h2 (hex p (by simp only[cq,gG];exact⟨hp,hb⟩))
      ·by_cases hji:j=i
       ·subst hji;exact⟨FL hjl,λp hp he=>absurd he.symm (hne p (hsub p hp))⟩
       ·rw[getD_set_ne false hji]at hi⊢;obtain⟨h1,h2⟩:=hW.h2 i hi;exact⟨h1,λp hp he=>h2 p (hsub p hp) he⟩
      ·have hji:=hjne hi;rw[getD_set_ne true hji]at hi⊢;exact hW.h3 i hi
      ·by_cases hji:j=i
       ·subst hji;exact FL hju
       ·rw[getD_set_ne false hji]at hi⊢;refine hW.h4 i hi λp hp he hsn=>?_;cases hb:eC ops p.1 j with
        |false=>exact hall p (by simp only[cB,gG,jC];exact⟨hp,hb⟩) he hsn
        |true=>exact hex p (by simp only[cq,gG];exact⟨hp,hb⟩) (by rw[he];exact hsn)
      ·rw[getD_set_ne true (hne p (hsub p hp))];exact hW.h5 p (hsub p hp) hsn
      ·rw[getD_set_ne true (hne p (hsub p hp))];exact hW.h6 p (hsub p hp)
      ·rw[getD_set_ne false (hne p (hsub p hp))];exact hW.h7 p (hsub p hp)
     have hA':∀x:AV,Uq C N ops (cB ops j A) (bj (gq O.length zs s) o.dst (some x)):=λx=>by
      refine⟨λp hp=>hA.ok p (hsub p hp),(List.filter_sublist.map _).nodup hA.nd,λp hp=>hA.dst p (hsub p hp),λp hp=>?_⟩;have hd:o.dst≠some p.2.1:=hA.dst p (hsub p hp) j o ho (hne p (hsub p hp));rw[mn λd hd' he=>hd (by rw[hd',he])];simp only[gq];cases hl:look (fY O.length zs) p.2.1 with
      |none=>exact hA.sl p (hsub p hp)
      |some y=>
       exfalso;have:look (fY O.length zs++[]) p.2.1=some y:=by simpa using hl
       rcases sB this with⟨z,hz,k,h1,_⟩|h
       ·obtain⟨q,hq,hb,he,_⟩:=hzs z hz;obtain⟨oq,hoq,_,hdq,_⟩:=hA.ok q hq;have hqp:q.1≠p.1:=λe=>by
         have:=(gG.1 hp).2;rw[<-e,hb]at this;cases this
        exact hA.dst p (hsub p hp) q.1 oq hoq hqp (by rw[hdq,<-he,h1])
       ·simp[look]at h
     have hptr':∀{v:Value},∀p∈cB ops j A,∀b,st p.1=some b->(a.put o.dst v).tmps.getD p.2.1 undef= .pointer (some ⟨b,0,none⟩):=λ{v} p hp b hb=>by
      have hd:o.dst≠some p.2.1:=hA.dst p (hsub p hp) j o ho (hne p (hsub p hp));rw[ou λd hd' he=>hd (by rw[hd',he])];exact hptr p (hsub p hp) b hb
     obtain⟨hdst,hst2⟩:=hstp;have put:∀{x:AV} {v:Value} {w':World} {O':List aq},Rel w' (Al F (O'++dm st (cB ops j A))) x v->Ext ((O++cX zs)++dm st (cB ops j A)) w (O'++dm st (cB ops j A)) w'->eS w' (Al F (O'++dm st (cB ops j A))) N (a.put o.dst v) (bj (gq O.length zs s) o.dst (some x)):=by
      intro x v w' O' hv hext;refine⟨by rw[CM];exact hs1.1,λt y hy=>?_⟩;by_cases htd:o.dst=some t
      ·have htN:=Cr hdst t htd;rw[htd]at hy⊢;simp only[bj,if_true,aC]at hy;subst hy;exact⟨htN,by rw[B0 (by rw[hs1.1];exact htN)];exact hv⟩
      ·have hne:∀d,o.dst=some d->t≠d:=λd hd' he=>htd (by rw[hd',he]);rw[mn hne]at hy;obtain⟨h1,h2⟩:=hs1.2 t y hy;exact⟨h1,by rw[ou hne];exact h2.keep hext.keeps⟩
     rcases hst2 with⟨hw,R,hE,h1,h2⟩|⟨hw,h1⟩
     ·rw[bq (B2 hs1 hw)];refine .inl (hE (λb=>F b\/b∈ids (dm st (cB ops j A))) w a hs1.1 hdf hH1.front (λt _ y hy=>by rw[nr];exact hs1.2 t y hy) _ _ ?_ ?_)
      ·intro v w' x O' hR hv hH' hext;obtain⟨g1,g2⟩:=bG.back hH1 hH' hext;rw[nr]at hv;exact ih n (cB ops j A) _ _ _ _ O' st hcnt (h1 x O' hR) (hA' x) hW' F w0 O0 _ w' (put hv g2) hptr' g1 (by rw[xL];exact hdf) (hx1.trans g2)
      ·intro v w' x O' hR hv hH' hext;obtain⟨g1,g2⟩:=bG.back hH1 hH' hext;rw[nr]at hv;have hk:=cS.sub (w:=w') (F:=F) (O:=O'++dm st (cB ops j A)) (O':=O') λb hb=>by rw[cd];exact ly _ hb
       exact⟨.aO x,[],O',hQp x O' (h2 x O' hR),⟨v,rfl,hv.keep hk⟩,⟨⟨hs1.1,λt x hx=>by simp[AE.sl,look]at hx⟩,g1.drop,hdf⟩,(hx1.trans g2).drop⟩
     ·rw[aN (by rw[B2 hs1 hw];simp)];exact ih n (cB ops j A) _ _ _ _ (O++cX zs) st hcnt h1 (hA' _) hW' F w0 O0 _ w (put (x:= .v undef) (v:=undef) (by simp only[Rel]) (Ext.refl _ w)) hptr' hH1 (by rw[xL];exact hdf) hx1
   ·--a fresh box
    subst hpj;obtain⟨o',ho',hg,hd,hlt,hna,hN⟩:=hA.ok p hp;rw[ho]at ho';cases ho';rw[bq (by simp[Region.wanted,hg])];refine .inl (hN (λ_=>none) (O++dm st A) F w a hs.1 hdf hh (λt _ y hy=>by cases hy) _ _ λvs e hv=>?_);obtain⟨hp1,hp2⟩:=PH (b:=w.heap.size) hp hA.nd hsn;have hperm:((O++dm st A)++[aq.box w.heap.size p.2.2]).Perm (O++dm (gN st p.1 w.heap.size) A):=by
     rw[kJ];exact(hp1.symm).append_left _
    have hext:=lF w (.cells vs.toArray e) (O++dm st A) (.box w.heap.size p.2.2) (by simp[aq.ids]);have hkeep:=hext.keeps (F:=F);refine ih n A listed (wl.setIfInBounds p.1 true) pend s O (gN st p.1 w.heap.size) (by omega) h hA ?_ F w0 O0 _ _ ?_ ?_ ?_ (by rw[xL];exact hdf) ((hx.trans hext).perm hperm)
    ·refine⟨λi hi=>?_,λi hi=>?_,λi hi=>?_,λi hi hall=>?_,λq hq hsq=>?_,hW.h6,hW.h7⟩
     ·have hji:p.1≠i:=λhe=>by subst he;rw[M4]at hi;cases hi
      rw[getD_set_ne true hji]at hi;rcases hW.h1 i hi with h1|⟨q,hq,rfl,h2⟩
      ·exact .inl h1
      ·exact .inr ⟨q,hq,rfl,by simp only[gN,ij hji,if_false];exact h2⟩
     ·by_cases hji:p.1=i
      ·subst hji;exact⟨hW.h7 p hp,λq hq he=>by simp[gN]⟩
      ·rw[getD_set_ne false hji]at hi;obtain⟨h1,h2⟩:=hW.h2 i hi;exact⟨h1,λq hq he=>by simp only[gN,ij hji,if_false];exact h2 q hq he⟩
     ·have hji:p.1≠i:=λhe=>by
       subst he;have:=hW.h6 p hp;rw[hi]at this;cases this
      rw[getD_set_ne true hji];exact hW.h3 i hi
     ·by_cases hji:p.1=i
      ·subst hji;exact FL hju
      ·rw[getD_set_ne false hji];refine hW.h4 i hi λq hq he hsq=>hall q hq he ?_;simp only[gN,ij hji,if_false];exact hsq
     ·have hji:p.1≠q.1:=λhe=>by rw[<-he]at hsq;simp[gN]at hsq
      rw[getD_set_ne true hji];refine hW.h5 q hq ?_;simpa only[gN,ij hji,if_false]using hsq
    ·rw[<-qh hperm];refine⟨by rw[CM];exact hs.1,λt x hx=>?_⟩;have htd:t≠p.2.1:=λhe=>by rw[he,hA.sl p hp]at hx;cases hx
     obtain⟨h1,h2⟩:=hs.2 t x hx;refine⟨h1,?_⟩;rw[ou λd hd' he=>htd (by rw[he];rw[hd]at hd';cases hd';rfl)];exact h2.keep hkeep
    ·intro q hq b hb;by_cases hqp:q.1=p.1
     ·have:=OT hA.nd hq hp hqp;subst this;simp only[gN,if_true,aC]at hb;subst hb;rw[hd];exact B0 (by rw[hs.1];exact hlt)
     ·simp only[gN,hqp,if_false]at hb;have hdq:o.dst≠some q.2.1:=hA.dst q hq p.1 o ho (ij hqp);rw[ou λd hd' he=>hdq (by rw[hd',he])];exact hptr q hq b hb
    ·refine bG.perm hperm ?_;refine hh.push (by simp) (λb hb=>jE w _ b hb) (by simp[aq.ids]) (by simp[aq.ids]) ?_;exact⟨e,vs,km w _,hv.keep hkeep⟩
end
def mT (T:bZ) (ops:Array Oper) (N:Nat):List Nat->Option bN
 |[]=>some []
 |i::r=>match ops[i]?,mT T ops N r with
  |some ⟨some d,.alloc t,_,_,after,none⟩,some A=>match aZ T t with
   |some ⟨_,_,_,z⟩=>match Nat.blt d N&&after.toList.all λe=>!Region.binds .any e with
    |true=>some ((i,(d,z.map .v))::A)
    |false=>none
   |none=>none
  |_,_=>none
def rH (ops:Array Oper):List Nat->List (Nat×Nat)
 |[]=>[]
 |i::r=>match ops[i]? with
  |some o=>match o.dst with
   |some d=>(i,d)::rH ops r
   |none=>rH ops r
  |none=>rH ops r
theorem QM {E:Env} {ops:Array Oper} {N:Nat}:∀{al:List Nat} {A:bN},mT E.T ops N al=some A->(∀p∈A,UH E.toCx N ops p)/\A.map (·.1)=al/\rH ops al=A.map λp=>(p.1,p.2.1)
 |[],A,h=>by simp only[mT,aC]at h;subst h;simp[rH]
 |i::r,A,h=>by
  simp only[mT]at h;split at h
  ·rename_i d t ty pos after A' ho hr;split at h
   ·rename_i td sz by' z ht;split at h
    ·rename_i hB;simp only[aC]at h;subst h;simp only[bJ,lx,fR,jC]at hB;obtain⟨g1,g2,g3⟩:=QM hr;refine⟨λp hp=>?_,by simp[g2],by simp[rH,ho,g3]⟩;rcases b6.1 hp with rfl|hp
     ·refine⟨_,ho,rfl,rfl,hB.1,λe he=>?_,λs O=>fD.alloc rfl ht⟩;exact hB.2 e (by simpa using he)
     ·exact g1 p hp
    ·cases h
   ·cases h
  ·cases h
def oY (ops:Array Oper) (pre:List Nat) (tl:List (Nat×TK)) (al:List Nat):Bool:=
 Region.noSelect ops&&Eg ops pre (Array.replicate ops.size false)&&mP ops (jJ ops tl) (kq al (kq pre (Array.replicate ops.size false))) [] (rH ops al)&&Nat.beq (pre.length+((jJ ops tl).length+al.length)) ops.size&&
  fe al&&(al.all λi=>!pre.contains i&&(List.range ops.size).all λj=>Nat.beq j i||match ops[i]?,ops[j]? with
   |some oi,some oj=>(match oi.dst with
    |some d=>D8 oj.dst d
    |none=>true)
   |_,_=>true)
def rj (A:bN) (s:Sl):Sl:=λt=>match(A.map (·.2.1)).contains t with
 |true=>none
 |false=>s t
theorem aaD {A:bN} {s:Sl} {t:Nat} {x:AV} (h:rj A s t=some x):s t=some x:=by
 unfold rj at h;split at h
 ·cases h
 ·exact h
theorem ng:∀(l:List Nat) (q:Array Bool) (i:Nat) (d:Bool),(kq l q).getD i d=if i∈l/\i<q.size then true else q.getD i d
 |[],q,i,d=>by simp[kq]
 |j::l,q,i,d=>by
  have ih:=ng l (q.setIfInBounds j true) i d;simp only[kq,MQ]at ih⊢;rw[ih];simp only[Array.size_setIfInBounds,b6];by_cases hj:j=i
  ·subst hj;by_cases hlt:j<q.size
   ·simp[hlt]
   ·simp[hlt,rP (Nat.le_of_not_lt hlt)]
  ·have hij:i≠j:=ij hj;rw[getD_set_ne d hj];simp only[hij,false_or]
theorem Nt:∀A:bN,dm (λ_=>none) A=[]/\eW (λ_=>none) A=A.length
 |[]=>⟨rfl,rfl⟩
 |p::A=>by
  obtain⟨h1,h2⟩:=Nt A;simp only[dm,eW,h1,h2,ji,kI];exact⟨trivial,by omega⟩
theorem bH.ade {E:Env} {N:Nat} {ops:Array Oper} {O:List aq} {Q:AQ} {Z:Sg} {id:Nat} (pre:List Nat) (tl:List (Nat×TK)) (al:List Nat) (A:bN) (hm:E.P.follows .mixedOrders=true) (hA:mT E.T ops N al=some A) (hB:oY ops pre tl al=true) (hl:(fV ops pre).length=pre.length)
  (h:ri E.toCx N O ops (λst=>∃Z',(∀t x,look Z' t=some x->st.1 t=some x)/\iE st.2 λzs=>jy E.toCx N ops (λs O'=>∃Z1,(∀t x,look Z1 t=some x->s t=some x)/\Q .norm Z1 O') (λx O'=>Q (.aO x) [] O') (jJ ops tl) A [] (rj A (look (fY O.length zs++Z'))) (O++cX zs)) (fV ops pre) (look Z,[])):
  bH E.toCx N (.region id ops true) Q Z O:=λF w0 O0 a w hs hx=>by
 simp only[oY,bJ]at hB;obtain⟨⟨⟨⟨⟨_,hlex⟩,htl⟩,hsz⟩,hnd⟩,hal⟩:=hB;have hsz:=bI hsz;obtain⟨a1,a2,a3⟩:=QM hA;rw[a3]at htl;have hrep:∀(n:Nat) (i:Nat) (d:Bool),(Array.replicate n false).getD i d=if i<n then false else d:=λn i d=>by
  by_cases hi:i<n<;>simp[hi]
 have hmem:∀p∈A,p.1∈al/\p.1∉pre/\p.1<ops.size:=λp hp=>by
  have h1:p.1∈al:=by rw[<-a2];exact dE.2 ⟨p,hp,rfl⟩
  simp only[fR,bJ,jC]at hal;obtain⟨o,ho,_⟩:=a1 p hp;exact⟨h1,by simpa using(hal p.1 h1).1,(fS.1 ho).1⟩
 have halm:∀i∈al,∃p∈A,p.1=i:=λi hi=>by rw[<-a2]at hi;obtain⟨p,hp,he⟩:=dE.1 hi;exact⟨p,hp,he⟩
 refine wp_mono (Q:=CQ E.G N F w O Q) ?_ (λe a w' ⟨e0,Z2,O2,g1,g2,g3,g4⟩=>⟨e0,Z2,O2,g1,g2,g3,hx.trans g4⟩);refine wp_region_any hm ?_;have hcut:ri E.toCx N O ops (λst=>Cut E.toCx N ops O (λF w1=>CQ E.G N F w1 O Q) ((jJ ops tl).length+al.length) (kq pre (Array.replicate ops.size false)) st) (fV ops pre) (look Z,[]):=by
  refine Gt (λst ⟨Z',h1,h2⟩=>?_) h;intro F w1 w a zs hd;have hb:=Cs h2 zs hd.eq;have hT:=xl _ _ _ _ [] _ _ (λp hp=>Gj hp) (λp hp=>by cases hp) htl hb;obtain⟨e1,e2⟩:=Nt A;have hlen:A.length=al.length:=by rw[<-a2];simp
  have hsl:eS w (Al F ((O++cX zs)++dm (λ_=>none) A)) N a (rj A (look (fY O.length zs++Z'))):=by
   rw[e1,ji];refine⟨hd.size,λt x hx=>?_⟩;rcases sB (aaD hx)with⟨z,hz,k,rfl,rfl⟩|hx
   ·obtain⟨g1,g2⟩:=hd.nu z hz;exact⟨g1,by simp only[Rel];exact g2⟩
   ·exact hd.sl t x (h1 t x hx)
  refine aaC (Q:=Q) (λ_ _ h=>h) (λ_ _ h=>h) _ _ A _ (kq pre (Array.replicate ops.size false)) _ _ _ (λ_=>none) (by rw[e2,hlen]) hT ⟨a1,by rw[a2];exact F3 hnd,λp hp j oj hoj hne=>?_,λp hp=>?_⟩ ?_ F w1 O a w hsl (λp hp b hb=>by cases hb) (by rw[e1,ji];exact hd.hp) hd.df ⟨hd.cls.1.1,hd.cls.2.1,hd.cls.2.2.1,hd.cls.2.2.2.1,λb hb _=>hd.cls.2.2.2.2 b hb,λb hb=>?_,hd.cls.1.2⟩
  ·obtain⟨oi,hoi,_,hdi,_⟩:=a1 p hp;simp only[fR,bJ]at hal;have:=(hal p.1 (hmem p hp).1).2 j (BJ.2 (fS.1 hoj).1);simp only[hoi,hoj,hdi,rS]at this;rcases this with h|h
   ·exact absurd (bI h) hne
   ·exact N8 h
  ·have:(A.map (·.2.1)).contains p.2.1=true:=by rw[rR];exact dE.2 ⟨p,hp,rfl⟩
   simp only[rj,this]
  ·have hsize:(kq pre (Array.replicate ops.size false)).size=ops.size:=by
    have:∀(l:List Nat) (q:Array Bool),(kq l q).size=q.size:=by
     intro l
     induction l with
     |nil=>intro q;rfl
     |cons j l ih=>intro q;simp only[kq,MQ]at ih⊢;rw[ih];simp
    rw[this];simp
   refine⟨λi hi=>?_,λi hi=>?_,λi hi=>?_,λi hi hall=>?_,λp hp _=>?_,λp hp=>?_,λp hp=>?_⟩
   ·by_cases hia:i∈al
    ·exact .inr ((halm i hia).imp λp hp=>⟨hp.1,hp.2,rfl⟩)
    ·left;rw[ng,aN (λh=>hia h.1)];exact hi
   ·refine⟨by rw[ng,hi];simp,λp hp he=>?_⟩;exfalso;rw[ng]at hi;split at hi
    ·rename_i h;exact(hmem p hp).2.1 (by rw[he];exact h.1)
    ·rw[hrep]at hi;split at hi<;>cases hi
   ·rw[ng]at hi;split at hi
    ·cases hi
    ·exact hi
   ·rw[ng]at hi;split at hi
    ·rename_i h;obtain⟨p,hp,he⟩:=halm i h.1;exact absurd rfl (hall p hp he)
    ·exact hi
   ·rw[ng,aN (λh=>(hmem p hp).2.1 h.1),hrep,bq (hmem p hp).2.2]
   ·rw[ng,bq ⟨(hmem p hp).1,by rw[hsize];exact(hmem p hp).2.2⟩]
   ·rw[ng,bq ⟨(hmem p hp).1,by rw[hsize];exact(hmem p hp).2.2⟩]
  ·rw[e1,ji,cd,bO]at hb;rcases hb with hb|hb
   ·exact .inl hb
   ·obtain⟨x,hx,hb⟩:=il.1 hb;obtain⟨z,hz,rfl⟩:=dE.1 hx;simp only[aq.ids,gS]at hb;subst hb;exact .inr (hd.new z hz)
 have hany:=OH _ _ _ (Pw pre _ _ adi hlex hl hcut);rw[hsz]at hany;have hc:gZ w {w with drawn:=w.drawn+1}:=⟨⟨rfl,FE _⟩,rfl,rfl,bS _,λ_ _=>rfl⟩;have hd:mc E.G N F O w {w with drawn:=w.drawn+1} a (look Z,[]) []:=
  ⟨hs.sg.1,hs.df,rfl,by simpa[cX]using hs.hp.later hc.2.2.2,λt x hx=>by
   obtain⟨h1,h2⟩:=hs.sg.2 t x hx;refine⟨h1,?_⟩;simp only[cX,kK,ji];exact h2.keep (hc.ext (O:=O)).keeps,by simp,hc,by simp⟩
 exact hany F w _ a [] hd
def ae0 (W:aJ) (R:DR->Hp->Prop):AR->List aq->Prop:=λr ηB=>∃W' d O,W.le W'/\DR.inst W' d r/\HS W' O ηB/\R d O
def bK (E:Env) (N:Nat) (o:Oper) (Z:TS) (O:Hp) (R:DR->Hp->Prop):Prop:=∀W s ηB,SS W Z s->HS W O ηB->dc E.toCx N o s ηB (ae0 W R)
section
variable {E:Env} {N K:Nat} {Q:DQ} {Z:TS} {O:Hp} {o:Oper} {x:CV} {all rest:List Oper} {R:DR->Hp->Prop}
theorem bK.mono {R':DR->Hp->Prop} (h:bK E N o Z O R) (hr:∀r O',R r O'->R' r O'):bK E N o Z O R':=λW s ηB hs hh=>(h W s ηB hs hh).mono λ_ _ ⟨W',d,O',h1,h2,h3,h4⟩=>⟨W',d,O',h1,h2,h3,hr _ _ h4⟩
theorem bK.val (h:bd E N o Z O x):bK E N o Z O (λr O'=>r= .ret x/\O'=O):=λW s ηB hs hh=>by
 obtain⟨y,h1,h2⟩:=h W s ηB hs hh;refine(dc.nX h2).mono ?_;rintro r O' ⟨rfl,rfl⟩;exact⟨W,.ret x,O,.refl W,⟨y,rfl,h1⟩,hh,rfl,rfl⟩
theorem bK.new {cells:List CV} {d:Nat} (hd:o.dst=some d) (h:∀W s ηB,SS W Z s->HS W O ηB->∃cs,aQ W cells cs/\fD E.toCx N o s ηB cs):bK E N o Z O (λr O'=>r= .ret (.own O.n 0)/\O'=O.push (.box cells)):=λW s ηB hs hh=>by
 obtain⟨cs,h1,h2⟩:=h W s ηB hs hh;refine(dc.vJ hd h2).mono ?_;rintro r O' ⟨b,rfl,rfl⟩;have hdom:=hh.gQ O.n (bS _);have hl:W.le (W.fM O.n b):=aJ.C4 hdom.1;have hbn:(W.fM O.n b).b O.n=some b:=by simp[aJ.fM]
 exact⟨_,.ret (.own O.n 0),O.push (.box cells),hl,⟨_,rfl,by simp only[aG];exact⟨b,_,hbn,rfl⟩⟩,hh.push hl (λ_ _=>rfl) (λi hi=>by simp[aJ.fM,hi]) ⟨b,cs,hbn,rfl,h1.mono hl⟩,rfl,rfl⟩
theorem nw {W:aJ} {s:Sl} {p:Operand} (h:p∈o.op.operands.toList) {y:AV} (hy:ev s p=some y):ev (look (dG s (tmpsOf o))) p=some y:=by rw[fc h];exact hy
theorem bK.store {t:TypeId} {p v:Operand} {i off:Nat} {cs cs':List CV} {ti:TI} (ho:o.op= .store t p v) (hp:aW Z p=some (.own i off)) (hv:aW Z v=some x) (hi:O.e.get i=some (.box cs)) (ht:aZ E.T t=some ti)
  (hk:Nat.beq (dP x).length ti.size=true) (h1:lU (dP x)=true) (hl:lH cs off (dP x)=some cs'):bK E N o Z O (λr O'=>r= .ret (.d (.v undef))/\O'=O.set i (.box cs')):=λW s ηB hs hh=>by
 obtain⟨y,h2,h3⟩:=bY hs hp;simp only[aG]at h3;obtain⟨b,t',h3,rfl⟩:=h3;obtain⟨z,h4,h5⟩:=bY hs hv;obtain⟨q,h6,h7⟩:=hh.en i _ hi;obtain⟨b',us,h8,rfl,h9⟩:=h7;rw[h3]at h8;cases h8;have hc:=B9 h5;obtain⟨us',h10,h11⟩:=B1 hl h9 hc;refine(dc.Xi (Gv ho (nw (W:=W) (by simp[ho,Op.operands]) h2) (nw (W:=W) (by simp[ho,Op.operands]) h4) h6 ht (by rw[hc.length];exact hk) (Gc h1 hc) h10)).mono ?_;rintro r O' ⟨rfl,rfl⟩;exact⟨W,.ret (.d (.v undef)),O.set i (.box cs'),.refl W,⟨_,rfl,rfl⟩,hh.set (.refl W) (λ_ _=>rfl) (λ_ _=>rfl) (hh.lt hi) ⟨b,us',h3,rfl,h11⟩,rfl,rfl⟩
theorem bK.kp {t:TypeId} {p v:Operand} {i n m e kk:Nat} {rows:List (List AV)} {r r':List AV} {y:AV} {ti:TI} (j off:Nat) (ho:o.op= .store t p v) (hp:aW Z p=some (.oe i n m)) (hv:aW Z v=some (.d y)) (hi:O.e.get i=some (.row e kk rows)) (hn:n=rows.length)
  (hm:m=j*kk+off) (hr:rows[j]? =some r) (ht:aZ E.T t=some ti) (hk:Nat.beq (cg y).length ti.size=true) (h1:eg (cg y)=true) (hl:eE r off (cg y)=some r'):bK E N o Z O (λr1 O'=>r1= .ret (.d (.v undef))/\O'=O.set i (.row e kk (rows.set j r'))):=λW s ηB hs hh=>by
 obtain⟨z,h2,h3⟩:=bY hs hp;simp only[aG]at h3;obtain⟨a,c,t',h3,rfl⟩:=h3;obtain⟨z,h4,h5⟩:=bY hs hv;simp only[aG]at h5;subst h5;obtain⟨q,h6,h7⟩:=hh.en i _ hi;obtain⟨⟨a',c',h8,rfl⟩,h9⟩:=h7;subst hn;rw[h3]at h8;cases h8;refine(dc.Xi (M8 ho j off (nw (W:=W) (by simp[ho,Op.operands]) h2) hm (nw (W:=W) (by simp[ho,Op.operands]) h4) h6 hr ht hk h1 hl)).mono ?_;rintro r1 O' ⟨rfl,rfl⟩;exact⟨W,.ret (.d (.v undef)),O.set i (.row e kk (rows.set j r')),.refl W,⟨_,rfl,rfl⟩,hh.set (.refl W) (λ_ _=>rfl) (λ_ _=>rfl) (hh.lt hi) ⟨⟨a,c,by simpa using h3,by simp⟩,by simpa using h9⟩,rfl,rfl⟩
theorem bK.lit {n:Nat} {t:TypeId} {parts:Array (Nat×Operand)} {e k sz by' sz' by'':Nat} {z z':List Value} {td':TD} {cells:List AV} (ho:o.op= .buildSlice t n parts)
  (ht:aZ E.T t=some ⟨.slice e k,sz,by',z⟩) (hte:aZ E.T e=some ⟨td',sz',by'',z'⟩) (hf:eJ k (dj Z) (gP n (z'.map .v)) parts.toList=some cells) (hb:Nat.ble (n*k) 16777216=true) (hk:Nat.ble 1 k=true):
  bK E N o Z O (λr O'=>r= .ret (.os O.n n)/\O'=O.push (.row e k (chunk n k cells))):=λW s ηB hs hh=>by
 have hR:mX E.toCx N o (dG s (tmpsOf o)) ηB (λx O'=>∃b,x= .os ηB.length (some ⟨b,0,none⟩) n n/\O'=ηB++[.row (.slice (some ⟨b,0,none⟩) n n) e k (chunk n k cells)]):=λF a w hst=>by
  have hf':eJ k (look (dG s (tmpsOf o))) (gP n (z'.map .v)) parts.toList=some cells:=by
   rw[F1 λp hp=>fc (by rw[ho];simp only[Op.operands,dE];exact⟨p,hp,rfl⟩)];have key:∀(l:List (Nat×Operand)) (cs r:List AV),eJ k (dj Z) cs l=some r->eJ k s cs l=some r:=by
    intro l
    induction l with
    |nil=>intro cs r h;exact h
    |cons p l ih=>
     intro cs r h;obtain⟨i,p⟩:=p;simp only[eJ]at h⊢;split at h
     ·rename_i y hy;have hy':ev s p=some y:=by
       cases p with
       |tmp u=>exact kv hs hy
       |const v=>exact hy
       |global g=>exact hy
       |func f=>exact hy
      simp only[hy'];split at h
      ·exact ih _ _ h
      ·cases h
     ·cases h
   exact key _ _ _ hf
  obtain⟨us,h1,h2,h3⟩:=GU (d:=o.dst) (ty:=o.type) (pos:=o.pos) (after:=o.after) (gd:=o.guard) ht hte hf' hb hk hst;have hb:=dL hb;have hk:=dL hk;have ho':o=⟨o.dst,.buildSlice t n parts,o.type,o.pos,o.after,o.guard⟩:=by rw[<-ho]
  rw[<-ho']at h1;have hext:=lF w (.cells us e) ηB (.row (.slice (some ⟨w.heap.size,0,none⟩) n n) e k (chunk n k cells)) (by simp[aq.ids,Value.ownBlock]);refine⟨.slice (some ⟨w.heap.size,0,none⟩) n n,w.alloc (.cells us e),_,_,⟨w.heap.size,rfl,rfl⟩,h1,by simp only[Rel],?_,hext⟩;refine hst.hp.push (by simp) (λb hb=>jE w _ b hb) (by simp[aq.ids,Value.ownBlock]) (by simp[aq.ids,Value.ownBlock]) ?_;refine⟨us.toList,h2.keep hext.keeps,?_,.inr ⟨w.heap.size,n,us,by rw[gH],mg _,km w _,by rw[gH];exact bS _,?_,h3,?_⟩⟩
  ·rw[gH];simpa using h3
  ·have:n<=n*k:=FA n hk;simp only[maxLen];omega
  ·rw[gH,<-h3,<-vV,eQ]
 refine(dc.EX hR).mono ?_;rintro r O' ⟨y,rfl,b,rfl,rfl⟩;have hdom:=hh.gQ O.n (bS _);have hl:W.le (W.bj O.n n (some ⟨b,0,none⟩,n)):=aJ.kP λy hy=>by rw[hdom.2]at hy;cases hy
 have hbn:(W.bj O.n n (some ⟨b,0,none⟩,n)).s O.n n=some (some ⟨b,0,none⟩,n):=by simp[aJ.bj]
 refine⟨_,.ret (.os O.n n),O.push (.row e k (chunk n k cells)),hl,⟨_,rfl,by simp only[aG];exact⟨_,_,_,hbn,rfl⟩⟩,hh.push hl (λi hi=>by funext m;simp[aJ.bj,hi]) (λ_ _=>rfl) ⟨⟨some ⟨b,0,none⟩,n,by rw[gH];exact hbn,by rw[gH]⟩,λm hm=>?_⟩,rfl,rfl⟩;rw[gH]at hm;have:m≠n:=by omega
 simp only[aJ.bj,this,and_false,if_false];exact hdom.2 m
theorem jR.Xc {W:aJ} {s:Sl} {ηB:List aq} (hs:SS W Z s) (hh:HS W O ηB) {k:Nat} {p:Operand} {rows:List (List AV)} (h:jR E Z O k p rows) (hp:p∈o.op.operands.toList):∀F a w,St E.G N w F a (dG s (tmpsOf o)) ηB->iT w (Al F ηB) k (a.eval p) rows:=λF a w hst=>by
 have key:∀{x:CV},aW Z p=some x->∃y,ev (look (dG s (tmpsOf o))) p=some y/\aG W x y:=λh=>by
  obtain⟨y,h1,h2⟩:=bY hs h;exact⟨y,nw (W:=W) hp h1,h2⟩
 cases h with
 |sl h=>
  obtain⟨y,h1,h2⟩:=key h;simp only[aG]at h2;subst h2;exact iT.sl (bz hst.sg h1)
 |EZ h hI=>
  obtain⟨y,h1,h2⟩:=key h;simp only[aG]at h2;subst h2;exact iT.sl (hI _ _ _ (bz hst.sg h1))
 |nil h=>
  obtain⟨y,h1,h2⟩:=key h;simp only[aG]at h2;subst h2;have:=bz hst.sg h1;simp only[Rel]at this;rw[this];exact⟨none,0,0,[],rfl,rfl,by simp[bo],λ_=>rfl,λ_ h=>by cases h⟩
 |row h h3 hn=>
  obtain⟨y,h1,h2⟩:=key h;simp only[aG]at h2;obtain⟨a',c,t',h4,rfl⟩:=h2;obtain⟨q,h5,h6⟩:=hh.en _ _ h3;obtain⟨⟨a2,c2,h7,rfl⟩,_⟩:=h6;subst hn;rw[h4]at h7;cases h7;have:=bz hst.sg h1;simp only[Rel]at this;rw[this];exact iT.row (iP hst.hp h5)
 |fz h h3 hn=>
  obtain⟨y,h1,h2⟩:=key h;simp only[aG]at h2;obtain⟨a',c,t',h4,rfl⟩:=h2;obtain⟨q,h5,h6⟩:=hh.en _ _ h3;obtain⟨a2,c2,h7,rfl⟩:=h6;subst hn;rw[h4]at h7;cases h7;have:=bz hst.sg h1;simp only[Rel]at this;rw[this];exact iT.sl (qg hst.hp h5)
theorem bK.append {i n:Nat} {s' p:Operand} {t:TypeId} {e k sz by' sz' by'':Nat} {z z':List Value} {td':TD} {rows rows2:List (List AV)} (ho:o.op= .call {callee:= .builtin .append,args:= #[s',p],argTypes:= #[t,t]})
  (hb:(rows++rows2).length*by''<=140737488355328) (hs':aW Z s'=some (.os i n)) (hi:O.e.get i=some (.row e k rows)) (hn:n=rows.length) (hx:jR E Z O k p rows2) (ht:aZ E.T t=some ⟨.slice e k,sz,by',z⟩) (hte:aZ E.T e=some ⟨td',sz',by'',z'⟩) (h1:fb rows2=true)
  (hk:Nat.ble 1 k=true) (hby:Nat.ble 1 by''=true):bK E N o Z O (λr O'=>r= .ret (.os i (rows++rows2).length)/\O'=O.set i (.row e k (rows++rows2))):=λW s ηB hs hh=>by
 obtain⟨y,h2,h3⟩:=bY hs hs';simp only[aG]at h3;obtain⟨a,c,t',h3,rfl⟩:=h3;obtain⟨q,h6,h7⟩:=hh.en i _ hi;obtain⟨⟨a',c',h8,rfl⟩,h9⟩:=h7;subst hn;rw[h3]at h8;cases h8;refine(dc.EX (NX ho ht hte (nw (W:=W) (by simp[ho,Op.operands,Call.operands]) h2) h6 (hx.Xc hs hh (by simp[ho,Op.operands,Call.operands])) h1 hk hby hb)).mono ?_;rintro r O' ⟨y,rfl,a',c',h0,rfl,rfl⟩;have hl:W.le (W.bj i (rows++rows2).length (a',c')):=aJ.kP λy hy=>by
  by_cases hz:rows2=[]
  ·subst hz;simp only[ji]at hy;rw[h3]at hy;cases hy;obtain⟨rfl,rfl⟩:=h0 rfl;rfl
  ·have:rows.length<(rows++rows2).length:=by
    have:=MO.2 hz;simp;omega
   rw[h9 _ this]at hy;cases hy
 have hbn:(W.bj i (rows++rows2).length (a',c')).s i (rows++rows2).length=some (a',c'):=by simp[aJ.bj]
 refine⟨_,.ret (.os i (rows++rows2).length),O.set i (.row e k (rows++rows2)),hl,⟨_,rfl,by simp only[aG];exact⟨_,_,_,hbn,rfl⟩⟩,hh.set hl (λj hj=>by funext m;simp[aJ.bj,hj]) (λ_ _=>rfl) (hh.lt hi) ⟨⟨a',c',hbn,rfl⟩,λm hm=>?_⟩,rfl,rfl⟩;have hne:m≠(rows++rows2).length:=by omega
 simp only[aJ.bj,hne,and_false,if_false];exact h9 m (by simp at hm;omega)
theorem bK.Hz {i n:Nat} {s' p:Operand} {t u:TypeId} {e k sz by' sz' by'' szu byu:Nat} {z z' zu:List Value} {td':TD} {rows:List (List AV)} {b:ByteArray} (ho:o.op= .call {callee:= .builtin .append,args:= #[s',p],argTypes:= #[t,u]})
  (hb:(rows++dA b).length*by''<=140737488355328) (hs':aW Z s'=some (.os i n)) (hi:O.e.get i=some (.row e k rows)) (hn:n=rows.length) (hx:aW Z p=some (.d (.v (.string b)))) (ht:aZ E.T t=some ⟨.slice e k,sz,by',z⟩) (hu:aZ E.T u=some ⟨.str,szu,byu,zu⟩) (hte:aZ E.T e=some ⟨td',sz',by'',z'⟩)
  (hk:Nat.beq k 1=true) (hby:Nat.beq by'' 1=true):bK E N o Z O (λr O'=>r= .ret (.os i (rows++dA b).length)/\O'=O.set i (.row e k (rows++dA b))):=λW s ηB hs hh=>by
 obtain⟨y,h2,h3⟩:=bY hs hs';simp only[aG]at h3;obtain⟨a,c,t',h3,rfl⟩:=h3;obtain⟨y2,g2,g3⟩:=bY hs hx;simp only[aG]at g3;subst g3;obtain⟨q,h6,h7⟩:=hh.en i _ hi;obtain⟨⟨a',c',h8,rfl⟩,h9⟩:=h7;subst hn;rw[h3]at h8;cases h8;refine(dc.EX (No ho ht hu hte (nw (W:=W) (by simp[ho,Op.operands,Call.operands]) h2) h6 (nw (W:=W) (by simp[ho,Op.operands,Call.operands]) g2) hk hby hb)).mono ?_;rintro r O' ⟨y,rfl,a',c',h0,rfl,rfl⟩;have hl:W.le (W.bj i (rows++dA b).length (a',c')):=aJ.kP λy hy=>by
  by_cases hz:dA b=[]
  ·rw[hz]at hy;simp only[ji]at hy;rw[h3]at hy;cases hy;obtain⟨rfl,rfl⟩:=h0 hz;rfl
  ·have:rows.length<(rows++dA b).length:=by
    have:=MO.2 hz;simp;omega
   rw[h9 _ this]at hy;cases hy
 have hbn:(W.bj i (rows++dA b).length (a',c')).s i (rows++dA b).length=some (a',c'):=by simp[aJ.bj]
 refine⟨_,.ret (.os i (rows++dA b).length),O.set i (.row e k (rows++dA b)),hl,⟨_,rfl,by simp only[aG];exact⟨_,_,_,hbn,rfl⟩⟩,hh.set hl (λj hj=>by funext m;simp[aJ.bj,hj]) (λ_ _=>rfl) (hh.lt hi) ⟨⟨a',c',hbn,rfl⟩,λm hm=>?_⟩,rfl,rfl⟩;have hne:m≠(rows++dA b).length:=by omega
 simp only[aJ.bj,hne,and_false,if_false];exact h9 m (by simp at hm;omega)
theorem bK.call {f:Operand} {args:List Operand} {g:FuncId} {cs:List CV} {Q':DR->Hp->Prop} {tys:Array TypeId} (ho:o.op= .call {callee:= .value f,args:=args.toArray,argTypes:=tys})
  (h:eH E g cs O Q') (hc:dz Z f args=some (g,cs)):bK E N o Z O Q':=λW s ηB hs hh=>by
 obtain⟨ys,h1,h2⟩:=nh hs hc;have h3:=h W ys ηB h2 hh;refine(dc.S7 ho h1 h3.1 λF w vs hH hr=>h3.2 F w vs hH hr).mono ?_;rintro r O' ⟨W',d,O1,g1,g2,g3,g4⟩;exact⟨W',d,O1,hh.fQ g1,g2,g3,g4⟩
theorem bK.pure {f:Operand} {args:List Operand} {g:FuncId} {cs:List CV} {xs' xs:List AV} {ns:List (Nat×Nat)} {ms:List (Nat×br)} {res:AR} {tys:Array TypeId} (fl:Nat) (ho:o.op= .call {callee:= .value f,args:=args.toArray,argTypes:=tys})
  (h:Pure E.toCx g xs res) (hc:dz Z f args=some (g,cs)) (hf:cr O.e fl cs=some (xs',ns,ms)) (hn:eqs ns) (hi:b8 xs' xs) (hl:ms=[]\/(match res with| .ret x=>cZ x| .aO x=>cZ x)=true):
  bK E N o Z O (λr O'=>(match res with| .ret x=>r= .ret (.d x)| .aO x=>r= .aO (.d x))/\O'=O):=λW s ηB hs hh=>by
 obtain⟨ys,h1,h2⟩:=nh hs hc;refine dc.S7 ho h1 h.1 λF w vs hH hr=>(Gw fl h hf hn hi hl hh hH h2 hr).mono ?_;rintro e w' ⟨hv,hcls⟩;refine⟨res,ηB,?_,hv,hH.later hcls.2.2.2,hcls.ext⟩;cases res with
 |ret x=>exact⟨W,.ret (.d x),O,.refl W,⟨x,rfl,rfl⟩,hh,rfl,rfl⟩
 |aO x=>exact⟨W,.aO (.d x),O,.refl W,⟨x,rfl,rfl⟩,hh,rfl,rfl⟩
theorem bK.panic {p:Operand} (ho:o.op= .panic p) {t:TypeId} {y:CV} (hp:aW Z p=some (.bC t y)):bK E N o Z O (λr O'=>r= .aO (.bC t y)/\O'=O):=λW s ηB hs hh=>by
 obtain⟨z,h1,h2⟩:=bY hs hp;have h3:=h2;simp only[aG]at h3;obtain⟨u,rfl,_⟩:=h3;refine(dc.panic ho h1).mono ?_;rintro r O' ⟨rfl,rfl⟩;exact⟨W,.aO (.bC t y),O,.refl W,⟨_,rfl,h2⟩,hh,rfl,rfl⟩
theorem bK.HZ {p:Operand} (ho:o.op= .panic p) {t:TypeId} {y:AV} (hp:aW Z p=some (.d (.bC t y))):bK E N o Z O (λr O'=>r= .aO (.d (.bC t y))/\O'=O):=λW s ηB hs hh=>by
 obtain⟨z,h1,h2⟩:=bY hs hp;simp only[aG]at h2;subst h2;refine(dc.panic ho h1).mono ?_;rintro r O' ⟨rfl,rfl⟩;exact⟨W,.aO (.d (.bC t y)),O,.refl W,⟨_,rfl,rfl⟩,hh,rfl,rfl⟩
theorem dc.iW {C:Cx} {s s1:Sl} {ηB OB1:List aq} {R:AR->List aq->Prop} (hw:∀F w a,bG C.G w F ηB->kY w (Al F ηB) N a o s->bG C.G w F OB1/\kY w (Al F OB1) N a o s1/\∀b∈ids OB1,b∈ids ηB) (h:dc C N o s1 OB1 R):dc C N o s ηB R:=
 λF w a hN hd hH hs K Q k1 k2=>by
  obtain⟨h1,h2,h3⟩:=hw F w a hH hs;have hx:Ext ηB w OB1 w:=⟨rfl,rfl,rfl,bS _,λ_ _ _=>rfl,λb hb=> .inl (h3 b hb),bS _⟩;exact h F w a hN hd h1 h2 K Q (λv w' x O' hR hv hH' hext=>k1 v w' x O' hR hv hH' (hx.trans hext)) (λv w' x O' hR hv hH' hext=>k2 v w' x O' hR hv hH' (hx.trans hext))
theorem bK.iR (t e k:Nat) (ht:Z.get t=some (.d (.v (.slice none 0 0)))) (h:bK E N o (Tr.put 24 Z t (some (.os O.n 0))) (O.push (.row e k [])) R):bK E N o Z O R:=λW s ηB hs hh=>by
 obtain⟨y,h1,h2⟩:=hs t _ ht;simp only[aG]at h2;subst h2;have hdom:=hh.gQ O.n (bS _);have hl:W.le (W.bj O.n 0 (none,0)):=aJ.kP λy hy=>by rw[hdom.2]at hy;cases hy
 have hbn:(W.bj O.n 0 (none,0)).s O.n 0=some (none,0):=by simp[aJ.bj]
 have hs1:SS (W.bj O.n 0 (none,0)) (Tr.put 24 Z t (some (.os O.n 0))) (fw s t (.os ηB.length none 0 0)):=λu z hz=>by
  rcases Tr.eB 24 Z t u _ z hz with⟨rfl,h3⟩|⟨hne,h3⟩
  ·cases h3;exact⟨.os ηB.length none 0 0,by simp[fw],by simp only[aG];exact⟨_,_,ηB.length,hbn,rfl⟩⟩
  ·obtain⟨q,h4,h5⟩:=hs u z h3;exact⟨q,by simp[fw,hne,h4],h5.mono hl⟩
 have hh1:HS (W.bj O.n 0 (none,0)) (O.push (.row e k [])) (ηB++[.row (.slice none 0 0) e k []]):=by
  refine hh.push hl (λi hi=>by funext m;simp[aJ.bj,hi]) (λ_ _=>rfl) ⟨⟨none,0,by simpa using hbn,by simp⟩,λm hm=>?_⟩;have:m≠0:=by simp at hm;omega
  simp only[aJ.bj,this,and_false,if_false];exact hdom.2 m
 refine dc.iW (λF w a hH hopd=>?_) ((h _ _ _ hs1 hh1).mono ?_)
 ·have hkeep:cS w (Al F ηB) w (Al F (ηB++[aq.row (.slice none 0 0) e k []])):=⟨bS _,λb _ ha=>⟨by simpa[Al,cd,cv,aq.ids,Value.ownBlock,ids]using ha,rfl⟩⟩;refine⟨hH.push (bS _) (λ_ _=>rfl) (by simp[aq.ids,Value.ownBlock]) (by simp[aq.ids,Value.ownBlock]) ⟨[],by simp[bo],by simp,.inl ⟨rfl,rfl⟩⟩,λu hu q hq=>?_,λb hb=>by simpa[cd,cv,aq.ids,Value.ownBlock,ids]using hb⟩;unfold fw at hq;split at hq
  ·rename_i hut;subst hut;simp only[aC]at hq;subst hq;obtain⟨g1,g2⟩:=hopd u hu _ h1;simp only[Rel]at g2⊢;exact⟨g1,g2⟩
  ·obtain⟨g1,g2⟩:=hopd u hu q hq;exact⟨g1,g2.keep hkeep⟩
 ·rintro r O' ⟨W',d,O1,g1,g2,g3,g4⟩;exact⟨W',d,O1,hl.trans g1,g2,g3,g4⟩
theorem bK.cC {t:Nat} {z:AV} {ns:List (Nat×Nat)} {ms:List (Nat×br)} (f:Nat) (hx:Z.get t=some x) (hf:cr O.e f [x]=some ([z],ns,ms)) (hn:eqs ns) (ht:t∈tmpsOf o) (h:bK E N o (Tr.put 24 Z t (some (.d z))) (iw ms O) R):bK E N o Z O R:=λW s ηB hs hh=>by
 obtain⟨y,h1,h2⟩:=hs t x hx;have hs1:SS W (Tr.put 24 Z t (some (.d z))) (fw s t z):=λu q hq=>by
  rcases Tr.eB 24 Z t u _ q hq with⟨rfl,h3⟩|⟨hne,h3⟩
  ·cases h3;exact⟨z,by simp[fw],rfl⟩
  ·obtain⟨q',h4,h5⟩:=hs u q h3;exact⟨q',by simp[fw,hne,h4],h5⟩
 by_cases hcan:∃F w v,bG E.G w F ηB/\Rel w (Al F ηB) y v
 ·obtain⟨F0,w0,v0,hH0,hv0⟩:=hcan;obtain⟨_,h40⟩:=jt hh hH0 (ms.map (·.1)) f hf hn (λp hp=>dE.2 ⟨p,hp,rfl⟩) (aQ.one h2) (aH.one hv0);have hHS:HS W (iw ms O) (eL W ms ηB):=Cn (w:=w0) (F:=fP F0 ηB (ms.map (·.1))) hh λp hp=>⟨(h40 p hp).lt hh,h40 p hp⟩;refine dc.iW (λF w a hH hopd=>?_) (h W _ _ hs1 hHS);have hv:=(hopd t ht y h1).2;obtain⟨h3,h4⟩:=jt hh hH (ms.map (·.1)) f hf hn (λp hp=>dE.2 ⟨p,hp,rfl⟩) (aQ.one h2) (aH.one hv);have hsub:∀b∈ids (eL W ms ηB),b∈ids ηB:=λb hb=>(wJ ms ηB).subset hb;refine⟨CJ hH h4,λu hu q hq=>?_,hsub⟩;unfold fw at hq;split at hq
  ·rename_i hut;subst hut;simp only[aC]at hq;subst hq;exact⟨(hopd u hu y h1).1,h3.D6.keep si⟩
  ·obtain⟨g1,g2⟩:=hopd u hu q hq;exact⟨g1,g2.keep (cS.sub hsub)⟩
 ·intro F w a hN hd hH hopd;exact absurd ⟨F,w,_,hH,(hopd t ht y h1).2⟩ hcan
mutual
theorem aG.same {W:aJ} {w:World} {A:Nat->Prop}:∀{x:CV} {y y':AV} {v:Value},aG W x y->aG W x y'->Rel w A y v->Rel w A y' v
 | .d x,_,_,_,h,g,hr=>by simp only[aG]at h g;subst h;subst g;exact hr
 | .agg xs,_,_,_,h,g,hr=>by
  simp only[aG]at h g;obtain⟨ys,rfl,h⟩:=h;obtain⟨zs,rfl,g⟩:=g;simp only[Rel]at hr⊢;obtain⟨vs,rfl,hr⟩:=hr;exact⟨vs,rfl,aQ.same h g hr⟩
 | .bX xs,_,_,_,h,g,hr=>by
  simp only[aG]at h g;obtain⟨ys,rfl,h⟩:=h;obtain⟨zs,rfl,g⟩:=g;simp only[Rel]at hr⊢;obtain⟨vs,rfl,hr⟩:=hr;exact⟨vs,rfl,aQ.same h g hr⟩
 | .own t o,_,_,_,h,g,hr=>by
  simp only[aG]at h g;obtain⟨b,t1,h,rfl⟩:=h;obtain⟨b',t2,g,rfl⟩:=g;rw[h]at g;cases g;simp only[Rel]at hr⊢;exact hr
 | .os t n,_,_,_,h,g,hr=>by
  simp only[aG]at h g;obtain⟨a,c,t1,h,rfl⟩:=h;obtain⟨a',c',t2,g,rfl⟩:=g;rw[h]at g;cases g;simp only[Rel]at hr⊢;exact hr
 | .oe t n o,_,_,_,h,g,hr=>by
  simp only[aG]at h g;obtain⟨a,c,t1,h,rfl⟩:=h;obtain⟨a',c',t2,g,rfl⟩:=g;rw[h]at g;cases g;simp only[Rel]at hr⊢;exact hr
 | .om t,_,_,_,h,g,hr=>by
  simp only[aG]at h g;obtain⟨b,t1,h,rfl⟩:=h;obtain⟨b',t2,g,rfl⟩:=g;rw[h]at g;cases g;simp only[Rel]at hr⊢;exact hr
 | .fn f fs cs,_,_,_,h,g,hr=>by
  simp only[aG]at h g;obtain⟨us,vs,rfl,h1,h2⟩:=h;obtain⟨us',vs',rfl,g1,g2⟩:=g;simp only[Rel]at hr⊢;obtain⟨ps,qs,e,hr1,hr2⟩:=hr;exact⟨ps,qs,e,aQ.same h1 g1 hr1,aQ.same h2 g2 hr2⟩
 | .bC t x,_,_,_,h,g,hr=>by
  simp only[aG]at h g;obtain⟨u,rfl,h⟩:=h;obtain⟨u',rfl,g⟩:=g;simp only[Rel]at hr⊢;obtain⟨q,e,hr⟩:=hr;exact⟨q,e,aG.same h g hr⟩
theorem aQ.same {W:aJ} {w:World} {A:Nat->Prop}:∀{x:List CV} {y y':List AV} {v:List Value},aQ W x y->aQ W x y'->aH w A y v->aH w A y' v
 |[],_,_,_,h,g,hr=>by simp only[aQ]at h g;subst h;subst g;exact hr
 |_::_,_,_,_,h,g,hr=>by
  simp only[aQ]at h g;obtain⟨y,r,rfl,h1,h2⟩:=h;obtain⟨y',r',rfl,g1,g2⟩:=g;simp only[aH]at hr⊢;obtain⟨v,q,e,hr1,hr2⟩:=hr;exact⟨v,q,e,aG.same h1 g1 hr1,aQ.same h2 g2 hr2⟩
end
theorem bP.same {W:aJ} {C:Cx} {s:Sl} {ηB:List aq} {y y':AV} (h:aG W x y) (g:aG W x y') (hp:bP C N o s ηB y):bP C N o s ηB y':=λF w a h1 h2 h3 h4 K Q k=>hp F w a h1 h2 h3 h4 K Q λv w' hv hc=>k v w' (aG.same h g hv) hc
