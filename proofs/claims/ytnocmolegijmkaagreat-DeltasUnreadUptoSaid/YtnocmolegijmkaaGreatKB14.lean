/- What the orders of a tail say of worlds; the rule for regions whose order is open. -/
import Derived.Test.YtnocmolegijmkaaGreatKB12
import Derived.Test.YtnocmolegijmkaaGreatKD3
set_option linter.all false
noncomputable section
namespace Go.Bw
open Go
def XR (C:Cx) (N:Nat) (ops:Array Oper) (p:Nat×(Nat×List AV)):Prop:=∃o,ops[p.1]? =some o/\o.guard=none/\o.dst=some p.2.1/\p.2.1<N/\(∀e∈o.after,Region.binds .any e=false)/\∀s L,gl C N o s L p.2.2
def dG (st:Nat->Option Nat):bS->List aw
 |[]=>[]
 |p::A=>(match st p.1 with
  |some b=>[.box b p.2.2]
  |none=>[])++dG st A
def fG (st:Nat->Option Nat):bS->Nat
 |[]=>0
 |p::A=>(match st p.1 with
  |some _=>0
  |none=>1)+fG st A
def iF (st:Nat->Option Nat) (i b:Nat):Nat->Option Nat:=λk=>if k=i then some b else st k
def mK (st:Nat->Option Nat) (A:bS):List ((Nat×List AV)×Nat):=A.map λp=>(p.2,(st p.1).getD 0)
section
variable {C:Cx} {N:Nat} {ops:Array Oper} {st:Nat->Option Nat}
theorem Qg (j:Nat):∀A:bS,(dG st A).Perm (dG st (cw ops j A)++dG st (cJ ops j A))
 |[]=>List.Perm.refl _
 |p::A=>by
  have ih:=Qg j A;simp only[cw,cJ,qD]at ih⊢;cases hb:eY ops p.1 j with
  |true=>
   simp only[fA,if_true,dG,ki,if_false,lD];exact ih.append_left _
  |false=>
   simp only[Dt,if_true,dG,ki,if_false];refine(ih.append_left _).trans ?_;rw[<-lD,<-lD];exact List.perm_append_comm.append_right _
theorem RJ (j:Nat):∀A:bS,fG st A=fG st (cw ops j A)+fG st (cJ ops j A)
 |[]=>rfl
 |p::A=>by
  have ih:=RJ j A;simp only[cw,cJ,qD]at ih⊢;cases hb:eY ops p.1 j with
  |true=>simp only[fA,if_true,fG,ki,if_false];omega
  |false=>simp only[Dt,if_true,fG,ki,if_false];omega
theorem SH:∀{A:bS},(∀p∈A,st p.1≠none)->fG st A=0
 |[],_=>rfl
 |p::A,h=>by
  simp only[fG];rw[SH (A:=A) λq hq=>h q (by simp[hq])];have:=h p (by simp);cases hs:st p.1 with
  |none=>exact absurd hs this
  |some b=>rfl
theorem TW:∀{A:bS} {p:Nat×(Nat×List AV)},p∈A->st p.1=none->0<fG st A
 |q::A,p,hp,hs=>by
  simp only[fG];rcases ck.1 hp with rfl|hp
  ·rw[hs];simp only;omega
  ·have:=TW hp hs;omega
theorem SI:∀{A:bS},(∀p∈A,st p.1≠none)->dt (mK st A)=dG st A
 |[],_=>rfl
 |p::A,h=>by
  have ih:=SI (A:=A) λq hq=>h q (by simp[hq]);have:=h p (by simp);cases hs:st p.1 with
  |none=>exact absurd hs this
  |some b=>
   simp only[dt,mK]at ih;simp only[dG,hs,dt,mK,dj,aam,anG,ih]
theorem ady (A:bS):(mK st A).map (·.1)=mO A:=by simp[mK,mO]
theorem RL {i b:Nat}:∀{A:bS},(∀p∈A,p.1≠i)->dG (iF st i b) A=dG st A/\fG (iF st i b) A=fG st A
 |[],_=>⟨rfl,rfl⟩
 |p::A,h=>by
  obtain⟨h1,h2⟩:=RL (b:=b) (A:=A) λq hq=>h q (by simp[hq]);have hne:=h p (by simp);simp only[dG,fG,h1,h2,iF,hne,if_false,and_self]
theorem SJ {b:Nat}:∀{A:bS} {p:Nat×(Nat×List AV)},p∈A->(A.map (·.1)).Nodup->st p.1=none->(dG (iF st p.1 b) A).Perm (dG st A++[.box b p.2.2])/\fG (iF st p.1 b) A+1=fG st A
 |q::A,p,hp,hnd,hs=>by
  simp only[dj,PU,dy,not_exists,not_and]at hnd;rcases ck.1 hp with rfl|hp
  ·obtain⟨h1,h2⟩:=RL (st:=st) (b:=b) (A:=A) (i:=p.1) λq hq he=>hnd.1 q hq he;simp only[dG,fG,h1,h2,hs];refine⟨?_,by simp[iF];omega⟩;simp only[iF,if_true,oW];exact Hc
  ·have hne:q.1≠p.1:=λhe=>hnd.1 p hp he.symm;obtain⟨h1,h2⟩:=SJ (b:=b) hp hnd.2 hs;simp only[dG,fG];have e:iF st p.1 b q.1=st q.1:=by simp[iF,hne]
   rw[e];refine⟨?_,by omega⟩;rw[lD];exact h1.append_left _
theorem bG.back {G:Gl} {w w':World} {F:Nat->Prop} {Ls Ls' Lr:List aw} (hH1:bG G w F (Ls++Lr)) (hh:bG G w' (λb=>F b\/b∈ids Lr) Ls') (hext:Ext Ls w Ls' w'):bG G w' F (Ls'++Lr)/\Ext (Ls++Lr) w (Ls'++Lr) w':=by
 have hlt:=hH1.lt;have hnd:=hH1.nodup;rw[cu,kQ]at hnd;have hA:Al (λb=>F b\/b∈ids Lr) Ls'=Al F (Ls'++Lr):=oo;have hmem:∀b,b∈ids (Ls++Lr)↔b∈ids Ls\/b∈ids Lr:=λb=>by rw[cu,bU]
 have hnew:∀b∈ids Ls',b∈ids Ls\/w.heap.size<=b:=hext.new;have hr:∀b∈ids Lr,b<w.heap.size/\b∉ids Ls:=λb hb=>⟨hlt b (by simp[cu,hb]),λhm=>hnd.2.2 b hm b hb rfl⟩;have hE:Ext (Ls++Lr) w (Ls'++Lr) w':=by
  refine⟨hext.os,hext.tape,hext.output,hext.size,λb hb hn=>hext.block b hb λhm=>hn ((hmem b).2 (.inl hm)),λb hb=>?_,hext.drawn⟩;rw[cu,bU]at hb;rcases hb with hb|hb
  ·exact(hnew b hb).imp (λhm=>(hmem b).2 (.inl hm)) id
  ·exact .inl ((hmem b).2 (.inr hb))
 have hk:dC w (Al F (Ls++Lr)) w' (Al F (Ls'++Lr)):=hE.keeps;refine⟨⟨λx hx=>?_,?_,λb hb=>?_,λb hb=>hh.bound b (.inl hb),hH1.cm.keep hk⟩,hE⟩
 ·rcases bU.1 hx with hx|hx
  ·rw[<-hA];exact hh.eo x hx
  ·have hx0:=hH1.eo x (by simp[hx]);refine hx0.keep hk λb hb=>?_;have hbm:b∈ids Lr:=gF.2 ⟨x,hx,hb⟩;exact hext.block b (hr b hbm).1 (hr b hbm).2
 ·rw[cu,kQ];refine⟨hh.nodup,hnd.2.1,λa ha b hb hab=>?_⟩;subst hab;rcases hnew a ha with h1|h1
  ·exact(hr a hb).2 h1
  ·have:=(hr a hb).1;omega
 ·rw[cu,bU]at hb;rcases hb with hb|hb
  ·exactλhF=>hh.free b hb (.inl hF)
  ·exact hH1.free b ((hmem b).2 (.inr hb))
theorem bG.drop {G:Gl} {w:World} {F:Nat->Prop} {L W:List aw} (h:bG G w F (L++W)):bG G w F L:=by
 have hsub:∀b∈ids L,b∈ids (L++W):=λb hb=>by rw[cu];exact mg _ hb
 have hk:=dC.sub (w:=w) (F:=F) hsub;have hnd:=h.nodup;rw[cu,kQ]at hnd;exact⟨λx hx=>(h.eo x (by simp[hx])).keep hk (λ_ _=>rfl),hnd.1,λb hb=>h.free b (hsub b hb),h.bound,h.cm.keep hk⟩
theorem Ext.perm {L L' L'':List aw} {w w':World} (h:Ext L w L' w') (hp:L'.Perm L''):Ext L w L'' w':=⟨h.os,h.tape,h.output,h.size,h.block,λb hb=>h.new b ((Er hp).mem_iff.2 hb),h.drawn⟩
theorem Ext.drop {L L' W:List aw} {w w':World} (h:Ext L w (L'++W) w'):Ext L w L' w':=⟨h.os,h.tape,h.output,h.size,h.block,λb hb=>h.new b (by rw[cu];exact mg _ hb),h.drawn⟩
structure Xm (C:Cx) (N:Nat) (ops:Array Oper) (A:bS) (s:Sl):Prop where
 ok:∀p∈A,XR C N ops p
 nd:(A.map (·.1)).Nodup
 dst:∀p∈A,∀j oj,ops[j]? =some oj->j≠p.1->oj.dst≠some p.2.1
 sl:∀p∈A,s p.2.1=none
structure XS (A:bS) (listed wl:Array Bool) (st:Nat->Option Nat):Prop where
 h1:∀i,wl.getD i true=false->listed.getD i true=false\/∃p∈A,p.1=i/\st i=none
 h2:∀i,wl.getD i false=true->listed.getD i false=true/\∀p∈A,p.1=i->st i≠none
 h3:∀i,listed.getD i true=false->wl.getD i true=false
 h4:∀i,listed.getD i false=true->(∀p∈A,p.1=i->st i≠none)->wl.getD i false=true
 h5:∀p∈A,st p.1=none->wl.getD p.1 true=false
 h6:∀p∈A,listed.getD p.1 true=true
 h7:∀p∈A,listed.getD p.1 false=true
theorem P6 (l:Array Bool) (i:Nat):(l.setIfInBounds i true).getD i true=true:=by
 rcases mV i l.size with h|h
 ·simp[h]
 ·simp[sN,h]
theorem Hu {l:Array Bool} {i:Nat} (h:l.getD i true=false):(l.setIfInBounds i true).getD i false=true:=by
 rcases mV i l.size with h'|h'
 ·simp[h']
 ·simp[sN,h']at h
theorem RM:∀{A:bS} {p q:Nat×(Nat×List AV)},(A.map (·.1)).Nodup->p∈A->q∈A->p.1=q.1->p=q
 |x::A,p,q,hnd,hp,hq,he=>by
  simp only[dj,PU,dy,not_exists,not_and]at hnd;rcases ck.1 hp with h1|h1<;>rcases ck.1 hq with h2|h2
  ·rw[h1,h2]
  ·exact absurd (by rw[<-he,h1]) (hnd.1 q h2)
  ·exact absurd (by rw[he,h2]) (hnd.1 p h1)
  ·exact RM hnd.2 h1 h2 he
theorem aaV {i j:Nat} {o:Oper} (ho:ops[j]? =some o) (h:eY ops i j=true):∃e∈o.after,Region.binds .any e=true/\e.on=i:=by
 unfold eY at h;rw[ho]at h;simp only[Hq,bN,beq_iff_eq]at h;obtain⟨q,hq,h1,h2⟩:=h;exact⟨q,by simpa using hq,h1,h2⟩
variable {Qn:Sl->List aw->Prop} {Qp:AV->List aw->Prop} {Q:AQ}
theorem acv (hQn:∀s L,Qn s L->∃O',(∀t x,look O' t=some x->s t=some x)/\Q .norm O' L) (hQp:∀x L,Qp x L->Q (.aS x) [] L):
  ∀(m n:Nat) (A:bS) (listed wl:Array Bool) (pend:gM) (s:Sl) (L:List aw) (st:Nat->Option Nat),m=n+fG st A->iU C N ops Qn Qp n A listed pend s L->Xm C N ops A s->XS A listed wl st->
   ∀F w0 L0 a w,gz w (Al F (L++dG st A)) N a s->(∀p∈A,∀b,st p.1=some b->a.tmps.getD p.2.1 undef= .pointer (some ⟨b,0,none⟩))->bG C.G w F (L++dG st A)->a.defers=[]->Ext L0 w0 (L++dG st A) w->
    wpAny C.P .any ops (CQ C.G N F w0 L0 Q) m wl a w:=by
 intro m
 induction m with
 |zero=>
  intro n A listed wl pend s L st hm h hA hW F w0 L0 a w hs hptr hh hdf hx;have hn:n=0:=by omega
  subst hn;have hall:∀p∈A,st p.1≠none:=λp hp hs=>by have:=TW hp hs;omega
  refine⟨?_,?_⟩
  ·refine anS.2 λj hj=>?_;obtain⟨hju,o,ho,hd⟩:=mem_ready.1 hj;rcases hW.h1 j hju with h1|⟨p,hp,rfl,h2⟩
   ·have:j∈Region.ready .any ops listed:=mem_ready.2 ⟨h1,o,ho,λe he hb=>(hW.h2 _ (hd e he hb)).1⟩;rw[h.2.1]at this;cases this
   ·exact hall p hp h2
  ·obtain⟨O',h1,h2⟩:=hQn s L h.2.2;refine CQ.intro .norm rfl h2 ⟨?_,hh.drop,hdf⟩ hx.drop;have hk:=dC.sub (w:=w) (F:=F) (L:=L++dG st A) (L':=L) λb hb=>by rw[cu];exact mg _ hb
   exact⟨hs.1,λt x hx=>⟨(hs.2 t x (h1 t x hx)).1,(hs.2 t x (h1 t x hx)).2.keep hk⟩⟩
 |succ m ih=>
  intro n A listed wl pend s L st hm h hA hW F w0 L0 a w hs hptr hh hdf hx;refine⟨λh0=>?_,λj hj=>?_⟩
  ·have hall:∀p∈A,st p.1≠none:=λp hp hsn=>by
    obtain⟨o,ho,_,_,_,hna,_⟩:=hA.ok p hp;have:p.1∈Region.ready .any ops wl:=mem_ready.2 ⟨hW.h5 p hp hsn,o,ho,λe he hb=>by rw[hna e he]at hb;cases hb⟩;rw[h0]at this;cases this
   have hr0:Region.ready .any ops listed=[]:=by
    refine anS.2 λj hj=>?_;obtain⟨hju,o,ho,hd⟩:=mem_ready.1 hj;have:j∈Region.ready .any ops wl:=mem_ready.2 ⟨hW.h3 j hju,o,ho,λe he hb=>hW.h4 _ (hd e he hb) λp hp he'=>by rw[<-he'];exact hall p hp⟩;rw[h0]at this;cases this
   have hq:Qn s L:=by
    cases n with
    |zero=>exact h.2.2
    |succ n=>exact h.2.1 hr0
   obtain⟨O',h1,h2⟩:=hQn s L hq;refine CQ.intro .norm rfl h2 ⟨?_,hh.drop,hdf⟩ hx.drop;have hk:=dC.sub (w:=w) (F:=F) (L:=L++dG st A) (L':=L) λb hb=>by rw[cu];exact mg _ hb
   exact⟨hs.1,λt x hx=>⟨(hs.2 t x (h1 t x hx)).1,(hs.2 t x (h1 t x hx)).2.keep hk⟩⟩
  ·obtain⟨hju,o,ho,hdep⟩:=mem_ready.1 hj;unfold wpOp;simp only[ho];rcases hW.h1 j hju with hjl|⟨p,hp,hpj,hsn⟩
   ·--an operation of the tail
    have hjr:j∈Region.ready .any ops listed:=mem_ready.2 ⟨hjl,o,ho,λe he hb=>(hW.h2 _ (hdep e he hb)).1⟩;cases n with
    |zero=>rw[h.2.1]at hjr;cases hjr
    |succ n=>
     obtain⟨o',ho',hst⟩:=h.2.2 j hjr;rw[ho]at ho';cases ho';have hex:∀p∈cw ops j A,st p.1≠none:=λp hp=>by
      simp only[cw,iw]at hp;obtain⟨e,he,hb,heq⟩:=aaV ho hp.2;exact(hW.h2 p.1 (by rw[<-heq];exact hdep e he hb)).2 p hp.1 rfl
     have hstp:=D' hst (mK st (cw ops j A)) (ady _);have hents:dt (mK st (cw ops j A))=dG st (cw ops j A):=SI hex;have hperm:(L++dG st A).Perm ((L++dt (mK st (cw ops j A)))++dG st (cJ ops j A)):=by
      rw[hents,lD];exact(Qg j A).append_left _
     have hH1:=hh.perm hperm;have hx1:=hx.perm hperm;have hzs:∀z∈mK st (cw ops j A),∃p∈A,eY ops p.1 j=true/\z.1=p.2/\st p.1=some z.2:=λz hz=>by
      simp only[mK,dy]at hz;obtain⟨p,hp,rfl⟩:=hz;have:=hex p hp;simp only[cw,iw]at hp;refine⟨p,hp.1,hp.2,rfl,?_⟩;cases hs:st p.1 with
      |none=>exact absurd hs this
      |some b=>rfl
     generalize mK st (cw ops j A)=zs at hstp hperm hH1 hx1 hzs hents;have hcnt:m=n+fG st (cJ ops j A):=by
      have h1:=RJ (ops:=ops) (st:=st) j A;rw[SH hex]at h1;omega
     have hs1:gz w (Al F ((L++dt zs)++dG st (cJ ops j A))) N a (gW L.length zs s):=by
      rw[<-yZ hperm];refine⟨hs.1,λt x ht=>?_⟩;simp only[gW]at ht;split at ht
      ·rename_i y hl;cases ht;have:look (gL L.length zs++[]) t=some x:=by simpa using hl
       rcases tu this with⟨z,hz,k,rfl,rfl⟩|h
       ·obtain⟨p,hp,_,he,hsp⟩:=hzs z hz;obtain⟨_,_,_,_,hlt,_⟩:=hA.ok p hp;rw[he];exact⟨hlt,by simp only[Rel];exact hptr p hp _ hsp⟩
       ·simp[look]at h
      ·exact hs.2 t x ht
     have hne:∀p∈A,j≠p.1:=λp hp he=>by
      have:=hW.h6 p hp;rw[<-he,hjl]at this;cases this
     have hsub:∀p∈cJ ops j A,p∈A:=λp hp=>(iw.1 hp).1;have hW':XS (cJ ops j A) (listed.setIfInBounds j true) (wl.setIfInBounds j true) st:=by
      have hjne:∀{i:Nat} {l:Array Bool},(l.setIfInBounds j true).getD i true=false->j≠i:=λhi he=>by subst he;rw[P6]at hi;cases hi
      refine⟨λi hi=>?_,λi hi=>?_,λi hi=>?_,λi hi hall=>?_,λp hp hsn=>?_,λp hp=>?_,λp hp=>?_⟩
      ·have hji:=hjne hi;rw[getD_set_ne true hji]at hi⊢;rcases hW.h1 i hi with h1|⟨p,hp,rfl,h2⟩
       ·exact .inl h1
       ·refine .inr ⟨p,?_,rfl,h2⟩;simp only[cJ,iw,kn];refine⟨hp,?_⟩;cases hb:eY ops p.1 j with
        |false=>rfl
        |true=>exact absurd h2 (hex p (by simp only[cw,iw];exact⟨hp,hb⟩))
      ·by_cases hji:j=i
       ·subst hji;exact⟨Hu hjl,λp hp he=>absurd he.symm (hne p (hsub p hp))⟩
       ·rw[getD_set_ne false hji]at hi⊢;obtain⟨h1,h2⟩:=hW.h2 i hi;exact⟨h1,λp hp he=>h2 p (hsub p hp) he⟩
      ·have hji:=hjne hi;rw[getD_set_ne true hji]at hi⊢;exact hW.h3 i hi
      ·by_cases hji:j=i
       ·subst hji;exact Hu hju
       ·rw[getD_set_ne false hji]at hi⊢;refine hW.h4 i hi λp hp he hsn=>?_;cases hb:eY ops p.1 j with
        |false=>exact hall p (by simp only[cJ,iw,kn];exact⟨hp,hb⟩) he hsn
        |true=>exact hex p (by simp only[cw,iw];exact⟨hp,hb⟩) (by rw[he];exact hsn)
      ·rw[getD_set_ne true (hne p (hsub p hp))];exact hW.h5 p (hsub p hp) hsn
      ·rw[getD_set_ne true (hne p (hsub p hp))];exact hW.h6 p (hsub p hp)
      ·rw[getD_set_ne false (hne p (hsub p hp))];exact hW.h7 p (hsub p hp)
     have hA':∀x:AV,Xm C N ops (cJ ops j A) (bj (gW L.length zs s) o.dst (some x)):=λx=>by
      refine⟨λp hp=>hA.ok p (hsub p hp),(List.filter_sublist.map _).nodup hA.nd,λp hp=>hA.dst p (hsub p hp),λp hp=>?_⟩;have hd:o.dst≠some p.2.1:=hA.dst p (hsub p hp) j o ho (hne p (hsub p hp));rw[mZ λd hd' he=>hd (by rw[hd',he])];simp only[gW];cases hl:look (gL L.length zs) p.2.1 with
      |none=>exact hA.sl p (hsub p hp)
      |some y=>
       exfalso;have:look (gL L.length zs++[]) p.2.1=some y:=by simpa using hl
       rcases tu this with⟨z,hz,k,h1,_⟩|h
       ·obtain⟨q,hq,hb,he,_⟩:=hzs z hz;obtain⟨oq,hoq,_,hdq,_⟩:=hA.ok q hq;have hqp:q.1≠p.1:=λe=>by
         have:=(iw.1 hp).2;rw[<-e,hb]at this;cases this
        exact hA.dst p (hsub p hp) q.1 oq hoq hqp (by rw[hdq,<-he,h1])
       ·simp[look]at h
     have hptr':∀{v:Value},∀p∈cJ ops j A,∀b,st p.1=some b->(a.put o.dst v).tmps.getD p.2.1 undef= .pointer (some ⟨b,0,none⟩):=λ{v} p hp b hb=>by
      have hd:o.dst≠some p.2.1:=hA.dst p (hsub p hp) j o ho (hne p (hsub p hp));rw[o6 λd hd' he=>hd (by rw[hd',he])];exact hptr p (hsub p hp) b hb
     obtain⟨hdst,hst2⟩:=hstp;have put:∀{x:AV} {v:Value} {w':World} {L':List aw},Rel w' (Al F (L'++dG st (cJ ops j A))) x v->Ext ((L++dt zs)++dG st (cJ ops j A)) w (L'++dG st (cJ ops j A)) w'->gz w' (Al F (L'++dG st (cJ ops j A))) N (a.put o.dst v) (bj (gW L.length zs s) o.dst (some x)):=by
      intro x v w' L' hv hext;refine⟨by rw[Es];exact hs1.1,λt y hy=>?_⟩;by_cases htd:o.dst=some t
      ·have htN:=D9 hdst t htd;rw[htd]at hy⊢;simp only[bj,if_true,aD]at hy;subst hy;exact⟨htN,by rw[DD (by rw[hs1.1];exact htN)];exact hv⟩
      ·have hne:∀d,o.dst=some d->t≠d:=λd hd' he=>htd (by rw[hd',he]);rw[mZ hne]at hy;obtain⟨h1,h2⟩:=hs1.2 t y hy;exact⟨h1,by rw[o6 hne];exact h2.keep hext.keeps⟩
     rcases hst2 with⟨hw,R,hE,h1,h2⟩|⟨hw,h1⟩
     ·rw[bf (DG hs1 hw)];refine .inl (hE (λb=>F b\/b∈ids (dG st (cJ ops j A))) w a hs1.1 hdf hH1.front (λt _ y hy=>by rw[oo];exact hs1.2 t y hy) _ _ ?_ ?_)
      ·intro v w' x L' hR hv hH' hext;obtain⟨g1,g2⟩:=bG.back hH1 hH' hext;rw[oo]at hv;exact ih n (cJ ops j A) _ _ _ _ L' st hcnt (h1 x L' hR) (hA' x) hW' F w0 L0 _ w' (put hv g2) hptr' g1 (by rw[zU];exact hdf) (hx1.trans g2)
      ·intro v w' x L' hR hv hH' hext;obtain⟨g1,g2⟩:=bG.back hH1 hH' hext;rw[oo]at hv;have hk:=dC.sub (w:=w') (F:=F) (L:=L'++dG st (cJ ops j A)) (L':=L') λb hb=>by rw[cu];exact mg _ hb
       exact⟨.aS x,[],L',hQp x L' (h2 x L' hR),⟨v,rfl,hv.keep hk⟩,⟨⟨hs1.1,λt x hx=>by simp[AE.sl,look]at hx⟩,g1.drop,hdf⟩,(hx1.trans g2).drop⟩
     ·rw[aM (by rw[DG hs1 hw];simp)];exact ih n (cJ ops j A) _ _ _ _ (L++dt zs) st hcnt h1 (hA' _) hW' F w0 L0 _ w (put (x:= .v undef) (v:=undef) (by simp only[Rel]) (Ext.refl _ w)) hptr' hH1 (by rw[zU];exact hdf) hx1
   ·--a fresh box
    subst hpj;obtain⟨o',ho',hg,hd,hlt,hna,hN⟩:=hA.ok p hp;rw[ho]at ho';cases ho';rw[bf (by simp[Region.wanted,hg])];refine .inl (hN (λ_=>none) (L++dG st A) F w a hs.1 hdf hh (λt _ y hy=>by cases hy) _ _ λvs e hv=>?_);obtain⟨hp1,hp2⟩:=SJ (b:=w.heap.size) hp hA.nd hsn;have hperm:((L++dG st A)++[aw.box w.heap.size p.2.2]).Perm (L++dG (iF st p.1 w.heap.size) A):=by
     rw[lD];exact(hp1.symm).append_left _
    have hext:=nb w (.cells vs.toArray e) (L++dG st A) (.box w.heap.size p.2.2) (by simp[aw.ids]);have hkeep:=hext.keeps (F:=F);refine ih n A listed (wl.setIfInBounds p.1 true) pend s L (iF st p.1 w.heap.size) (by omega) h hA ?_ F w0 L0 _ _ ?_ ?_ ?_ (by rw[zU];exact hdf) ((hx.trans hext).perm hperm)
    ·refine⟨λi hi=>?_,λi hi=>?_,λi hi=>?_,λi hi hall=>?_,λq hq hsq=>?_,hW.h6,hW.h7⟩
     ·have hji:p.1≠i:=λhe=>by subst he;rw[P6]at hi;cases hi
      rw[getD_set_ne true hji]at hi;rcases hW.h1 i hi with h1|⟨q,hq,rfl,h2⟩
      ·exact .inl h1
      ·exact .inr ⟨q,hq,rfl,by simp only[iF,iW hji,if_false];exact h2⟩
     ·by_cases hji:p.1=i
      ·subst hji;exact⟨hW.h7 p hp,λq hq he=>by simp[iF]⟩
      ·rw[getD_set_ne false hji]at hi;obtain⟨h1,h2⟩:=hW.h2 i hi;exact⟨h1,λq hq he=>by simp only[iF,iW hji,if_false];exact h2 q hq he⟩
     ·have hji:p.1≠i:=λhe=>by
       subst he;have:=hW.h6 p hp;rw[hi]at this;cases this
      rw[getD_set_ne true hji];exact hW.h3 i hi
     ·by_cases hji:p.1=i
      ·subst hji;exact Hu hju
      ·rw[getD_set_ne false hji];refine hW.h4 i hi λq hq he hsq=>hall q hq he ?_;simp only[iF,iW hji,if_false];exact hsq
     ·have hji:p.1≠q.1:=λhe=>by rw[<-he]at hsq;simp[iF]at hsq
      rw[getD_set_ne true hji];refine hW.h5 q hq ?_;simpa only[iF,iW hji,if_false]using hsq
    ·rw[<-yZ hperm];refine⟨by rw[Es];exact hs.1,λt x hx=>?_⟩;have htd:t≠p.2.1:=λhe=>by rw[he,hA.sl p hp]at hx;cases hx
     obtain⟨h1,h2⟩:=hs.2 t x hx;refine⟨h1,?_⟩;rw[o6 λd hd' he=>htd (by rw[he];rw[hd]at hd';cases hd';rfl)];exact h2.keep hkeep
    ·intro q hq b hb;by_cases hqp:q.1=p.1
     ·have:=RM hA.nd hq hp hqp;subst this;simp only[iF,if_true,aD]at hb;subst hb;rw[hd];exact DD (by rw[hs.1];exact hlt)
     ·simp only[iF,hqp,if_false]at hb;have hdq:o.dst≠some q.2.1:=hA.dst q hq p.1 o ho (iW hqp);rw[o6 λd hd' he=>hdq (by rw[hd',he])];exact hptr q hq b hb
    ·refine bG.perm hperm ?_;refine hh.push (by simp) (λb hb=>kS w _ b hb) (by simp[aw.ids]) (by simp[aw.ids]) ?_;exact⟨e,vs,lI w _,hv.keep hkeep⟩
end
def nN (T:b8) (ops:Array Oper) (N:Nat):List Nat->Option bS
 |[]=>some []
 |i::r=>match ops[i]?,nN T ops N r with
  |some ⟨some d,.alloc t,_,_,after,none⟩,some A=>match bc T t with
   |some ⟨_,_,_,z⟩=>match Nat.blt d N&&after.toList.all λe=>!Region.binds .any e with
    |true=>some ((i,(d,z.map .v))::A)
    |false=>none
   |none=>none
  |_,_=>none
def sJ (ops:Array Oper):List Nat->List (Nat×Nat)
 |[]=>[]
 |i::r=>match ops[i]? with
  |some o=>match o.dst with
   |some d=>(i,d)::sJ ops r
   |none=>sJ ops r
  |none=>sJ ops r
theorem TX {E:Env} {ops:Array Oper} {N:Nat}:∀{al:List Nat} {A:bS},nN E.T ops N al=some A->(∀p∈A,XR E.toCx N ops p)/\A.map (·.1)=al/\sJ ops al=A.map λp=>(p.1,p.2.1)
 |[],A,h=>by simp only[nN,aD]at h;subst h;simp[sJ]
 |i::r,A,h=>by
  simp only[nN]at h;split at h
  ·rename_i d t ty pos after A' ho hr;split at h
   ·rename_i td sz by' z ht;split at h
    ·rename_i hB;simp only[aD]at h;subst h;simp only[bN,mf,fS,kn]at hB;obtain⟨g1,g2,g3⟩:=TX hr;refine⟨λp hp=>?_,by simp[g2],by simp[sJ,ho,g3]⟩;rcases ck.1 hp with rfl|hp
     ·refine⟨_,ho,rfl,rfl,hB.1,λe he=>?_,λs L=>gl.alloc rfl ht⟩;exact hB.2 e (by simpa using he)
     ·exact g1 p hp
    ·cases h
   ·cases h
  ·cases h
def pO (ops:Array Oper) (pre:List Nat) (tl:List (Nat×TK)) (al:List Nat):Bool:=
 Region.noSelect ops&&FY ops pre (Array.replicate ops.size false)&&nI ops (kz ops tl) (kV al (kV pre (Array.replicate ops.size false))) [] (sJ ops al)&&Nat.beq (pre.length+((kz ops tl).length+al.length)) ops.size&&
  fL al&&(al.all λi=>!pre.contains i&&(List.range ops.size).all λj=>Nat.beq j i||match ops[i]?,ops[j]? with
   |some oi,some oj=>(match oi.dst with
    |some d=>FL oj.dst d
    |none=>true)
   |_,_=>true)
def se (A:bS) (s:Sl):Sl:=λt=>match(A.map (·.2.1)).contains t with
 |true=>none
 |false=>s t
theorem acw {A:bS} {s:Sl} {t:Nat} {x:AV} (h:se A s t=some x):s t=some x:=by
 unfold se at h;split at h
 ·cases h
 ·exact h
theorem nX:∀(l:List Nat) (q:Array Bool) (i:Nat) (d:Bool),(kV l q).getD i d=if i∈l/\i<q.size then true else q.getD i d
 |[],q,i,d=>by simp[kV]
 |j::l,q,i,d=>by
  have ih:=nX l (q.setIfInBounds j true) i d;simp only[kV,PT]at ih⊢;rw[ih];simp only[Array.size_setIfInBounds,ck];by_cases hj:j=i
  ·subst hj;by_cases hlt:j<q.size
   ·simp[hlt]
   ·simp[hlt,sN (Nat.le_of_not_lt hlt)]
  ·have hij:i≠j:=iW hj;rw[getD_set_ne d hj];simp only[hij,false_or]
theorem Qx:∀A:bS,dG (λ_=>none) A=[]/\fG (λ_=>none) A=A.length
 |[]=>⟨rfl,rfl⟩
 |p::A=>by
  obtain⟨h1,h2⟩:=Qx A;simp only[dG,fG,h1,h2,jx,gD];exact⟨trivial,by omega⟩
theorem b7.ae4 {E:Env} {N:Nat} {ops:Array Oper} {L:List aw} {Q:AQ} {O:Sg} {id:Nat} (pre:List Nat) (tl:List (Nat×TK)) (al:List Nat) (A:bS) (hm:E.P.follows .mixedOrders=true) (hA:nN E.T ops N al=some A) (hB:pO ops pre tl al=true) (hl:(gI ops pre).length=pre.length)
  (h:sd E.toCx N L ops (λst=>∃O',(∀t x,look O' t=some x->st.1 t=some x)/\jj st.2 λzs=>kb E.toCx N ops (λs L'=>∃O1,(∀t x,look O1 t=some x->s t=some x)/\Q .norm O1 L') (λx L'=>Q (.aS x) [] L') (kz ops tl) A [] (se A (look (gL L.length zs++O'))) (L++dt zs)) (gI ops pre) (look O,[])):
  b7 E.toCx N (.region id ops true) Q O L:=λF w0 L0 a w hs hx=>by
 simp only[pO,bN]at hB;obtain⟨⟨⟨⟨⟨_,hlex⟩,htl⟩,hsz⟩,hnd⟩,hal⟩:=hB;have hsz:=bK hsz;obtain⟨a1,a2,a3⟩:=TX hA;rw[a3]at htl;have hrep:∀(n:Nat) (i:Nat) (d:Bool),(Array.replicate n false).getD i d=if i<n then false else d:=λn i d=>by
  by_cases hi:i<n<;>simp[hi]
 have hmem:∀p∈A,p.1∈al/\p.1∉pre/\p.1<ops.size:=λp hp=>by
  have h1:p.1∈al:=by rw[<-a2];exact dy.2 ⟨p,hp,rfl⟩
  simp only[fS,bN,kn]at hal;obtain⟨o,ho,_⟩:=a1 p hp;exact⟨h1,by simpa using(hal p.1 h1).1,(gE.1 ho).1⟩
 have halm:∀i∈al,∃p∈A,p.1=i:=λi hi=>by rw[<-a2]at hi;obtain⟨p,hp,he⟩:=dy.1 hi;exact⟨p,hp,he⟩
 refine wp_mono (Q:=CQ E.G N F w L Q) ?_ (λe a w' ⟨e0,O2,L2,g1,g2,g3,g4⟩=>⟨e0,O2,L2,g1,g2,g3,hx.trans g4⟩);refine wp_region_any hm ?_;have hcut:sd E.toCx N L ops (λst=>Cut E.toCx N ops L (λF w1=>CQ E.G N F w1 L Q) ((kz ops tl).length+al.length) (kV pre (Array.replicate ops.size false)) st) (gI ops pre) (look O,[]):=by
  refine H9 (λst ⟨O',h1,h2⟩=>?_) h;intro F w1 w a zs hd;have hb:=D' h2 zs hd.eq;have hT:=za _ _ _ _ [] _ _ (λp hp=>H2 hp) (λp hp=>by cases hp) htl hb;obtain⟨e1,e2⟩:=Qx A;have hlen:A.length=al.length:=by rw[<-a2];simp
  have hsl:gz w (Al F ((L++dt zs)++dG (λ_=>none) A)) N a (se A (look (gL L.length zs++O'))):=by
   rw[e1,jx];refine⟨hd.size,λt x hx=>?_⟩;rcases tu (acw hx)with⟨z,hz,k,rfl,rfl⟩|hx
   ·obtain⟨g1,g2⟩:=hd.nu z hz;exact⟨g1,by simp only[Rel];exact g2⟩
   ·exact hd.sl t x (h1 t x hx)
  refine acv (Q:=Q) (λ_ _ h=>h) (λ_ _ h=>h) _ _ A _ (kV pre (Array.replicate ops.size false)) _ _ _ (λ_=>none) (by rw[e2,hlen]) hT ⟨a1,by rw[a2];exact HK hnd,λp hp j oj hoj hne=>?_,λp hp=>?_⟩ ?_ F w1 L a w hsl (λp hp b hb=>by cases hb) (by rw[e1,jx];exact hd.hp) hd.df ⟨hd.cls.1.1,hd.cls.2.1,hd.cls.2.2.1,hd.cls.2.2.2.1,λb hb _=>hd.cls.2.2.2.2 b hb,λb hb=>?_,hd.cls.1.2⟩
  ·obtain⟨oi,hoi,_,hdi,_⟩:=a1 p hp;simp only[fS,bN]at hal;have:=(hal p.1 (hmem p hp).1).2 j (Dj.2 (gE.1 hoj).1);simp only[hoi,hoj,hdi,sQ]at this;rcases this with h|h
   ·exact absurd (bK h) hne
   ·exact Q9 h
  ·have:(A.map (·.2.1)).contains p.2.1=true:=by rw[sP];exact dy.2 ⟨p,hp,rfl⟩
   simp only[se,this]
  ·have hsize:(kV pre (Array.replicate ops.size false)).size=ops.size:=by
    have:∀(l:List Nat) (q:Array Bool),(kV l q).size=q.size:=by
     intro l
     induction l with
     |nil=>intro q;rfl
     |cons j l ih=>intro q;simp only[kV,PT]at ih⊢;rw[ih];simp
    rw[this];simp
   refine⟨λi hi=>?_,λi hi=>?_,λi hi=>?_,λi hi hall=>?_,λp hp _=>?_,λp hp=>?_,λp hp=>?_⟩
   ·by_cases hia:i∈al
    ·exact .inr ((halm i hia).imp λp hp=>⟨hp.1,hp.2,rfl⟩)
    ·left;rw[nX,aM (λh=>hia h.1)];exact hi
   ·refine⟨by rw[nX,hi];simp,λp hp he=>?_⟩;exfalso;rw[nX]at hi;split at hi
    ·rename_i h;exact(hmem p hp).2.1 (by rw[he];exact h.1)
    ·rw[hrep]at hi;split at hi<;>cases hi
   ·rw[nX]at hi;split at hi
    ·cases hi
    ·exact hi
   ·rw[nX]at hi;split at hi
    ·rename_i h;obtain⟨p,hp,he⟩:=halm i h.1;exact absurd rfl (hall p hp he)
    ·exact hi
   ·rw[nX,aM (λh=>(hmem p hp).2.1 h.1),hrep,bf (hmem p hp).2.2]
   ·rw[nX,bf ⟨(hmem p hp).1,by rw[hsize];exact(hmem p hp).2.2⟩]
   ·rw[nX,bf ⟨(hmem p hp).1,by rw[hsize];exact(hmem p hp).2.2⟩]
  ·rw[e1,jx,cu,bU]at hb;rcases hb with hb|hb
   ·exact .inl hb
   ·obtain⟨x,hx,hb⟩:=gF.1 hb;obtain⟨z,hz,rfl⟩:=dy.1 hx;simp only[aw.ids,iL]at hb;subst hb;exact .inr (hd.new z hz)
 have hany:=RA _ _ _ (Sz pre _ _ ae9 hlex hl hcut);rw[hsz]at hany;have hc:iT w {w with drawn:=w.drawn+1}:=⟨⟨rfl,.of (Ho _)⟩,rfl,rfl,bW _,λ_ _=>rfl⟩;have hd:mQ E.G N F L w {w with drawn:=w.drawn+1} a (look O,[]) []:=
  ⟨hs.sg.1,hs.df,rfl,by simpa[dt]using hs.hp.later hc.2.2.2,λt x hx=>by
   obtain⟨h1,h2⟩:=hs.sg.2 t x hx;refine⟨h1,?_⟩;simp only[dt,lE,jx];exact h2.keep (hc.ext (L:=L)).keeps,by simp,hc,by simp⟩
 exact hany F w _ a [] hd
def ag1 (Z:aN) (R:DR->Hp->Prop):AR->List aw->Prop:=λr LB=>∃Z' d L,Z.le Z'/\DR.inst Z' d r/\HS Z' L LB/\R d L
def bR (E:Env) (N:Nat) (o:Oper) (O:TS) (L:Hp) (R:DR->Hp->Prop):Prop:=∀Z s LB,SS Z O s->HS Z L LB->dD E.toCx N o s LB (ag1 Z R)
section
variable {E:Env} {N K:Nat} {Q:DQ} {O:TS} {L:Hp} {o:Oper} {x:CV} {all rest:List Oper} {R:DR->Hp->Prop}
theorem bR.mono {R':DR->Hp->Prop} (h:bR E N o O L R) (hr:∀r L',R r L'->R' r L'):bR E N o O L R':=λZ s LB hs hh=>(h Z s LB hs hh).mono λ_ _ ⟨Z',d,L',h1,h2,h3,h4⟩=>⟨Z',d,L',h1,h2,h3,hr _ _ h4⟩
theorem bR.val (h:bh E N o O L x):bR E N o O L (λr L'=>r= .ret x/\L'=L):=λZ s LB hs hh=>by
 obtain⟨y,h1,h2⟩:=h Z s LB hs hh;refine(dD.qy h2).mono ?_;rintro r L' ⟨rfl,rfl⟩;exact⟨Z,.ret x,L,.refl Z,⟨y,rfl,h1⟩,hh,rfl,rfl⟩
theorem bR.new {cells:List CV} {d:Nat} (hd:o.dst=some d) (h:∀Z s LB,SS Z O s->HS Z L LB->∃cs,aR Z cells cs/\gl E.toCx N o s LB cs):bR E N o O L (λr L'=>r= .ret (.own L.n 0)/\L'=L.push (.box cells)):=λZ s LB hs hh=>by
 obtain⟨cs,h1,h2⟩:=h Z s LB hs hh;refine(dD.xd hd h2).mono ?_;rintro r L' ⟨b,rfl,rfl⟩;have hdom:=hh.iJ L.n (bW _);have hl:Z.le (Z.gy L.n b):=aN.EL hdom.1;have hbn:(Z.gy L.n b).b L.n=some b:=by simp[aN.gy]
 exact⟨_,.ret (.own L.n 0),L.push (.box cells),hl,⟨_,rfl,by simp only[aK];exact⟨b,_,hbn,rfl⟩⟩,hh.push hl (λ_ _=>rfl) (λi hi=>by simp[aN.gy,hi]) ⟨b,cs,hbn,rfl,h1.mono hl⟩,rfl,rfl⟩
theorem ou {Z:aN} {s:Sl} {p:Operand} (h:p∈o.op.operands.toList) {y:AV} (hy:ev s p=some y):ev (look (dV s (tmpsOf o))) p=some y:=by rw[fK h];exact hy
theorem bR.store {t:TypeId} {p v:Operand} {i off:Nat} {cs cs':List CV} {ti:TI} (ho:o.op= .store t p v) (hp:aX O p=some (.own i off)) (hv:aX O v=some x) (hi:L.e.get i=some (.box cs)) (ht:bc E.T t=some ti)
  (hk:Nat.beq (eh x).length ti.size=true) (h1:mG (eh x)=true) (hl:mm cs off (eh x)=some cs'):bR E N o O L (λr L'=>r= .ret (.d (.v undef))/\L'=L.set i (.box cs')):=λZ s LB hs hh=>by
 obtain⟨y,h2,h3⟩:=cg hs hp;simp only[aK]at h3;obtain⟨b,t',h3,rfl⟩:=h3;obtain⟨z,h4,h5⟩:=cg hs hv;obtain⟨q,h6,h7⟩:=hh.en i _ hi;obtain⟨b',us,h8,rfl,h9⟩:=h7;rw[h3]at h8;cases h8;have hc:=DJ h5;obtain⟨us',h10,h11⟩:=DF hl h9 hc;refine(dD.Z4 (Ru ho (ou (Z:=Z) (by simp[ho,Op.operands]) h2) (ou (Z:=Z) (by simp[ho,Op.operands]) h4) h6 ht (by rw[hc.length];exact hk) (HV h1 hc) h10)).mono ?_;rintro r L' ⟨rfl,rfl⟩;exact⟨Z,.ret (.d (.v undef)),L.set i (.box cs'),.refl Z,⟨_,rfl,rfl⟩,hh.set (.refl Z) (λ_ _=>rfl) (λ_ _=>rfl) (hh.lt hi) ⟨b,us',h3,rfl,h11⟩,rfl,rfl⟩
theorem bR.lL {t:TypeId} {p v:Operand} {i n m e kk:Nat} {rows:List (List AV)} {r r':List AV} {y:AV} {ti:TI} (j off:Nat) (ho:o.op= .store t p v) (hp:aX O p=some (.oe i n m)) (hv:aX O v=some (.d y)) (hi:L.e.get i=some (.row e kk rows)) (hn:n=rows.length)
  (hm:m=j*kk+off) (hr:rows[j]? =some r) (ht:bc E.T t=some ti) (hk:Nat.beq (cA y).length ti.size=true) (h1:eT (cA y)=true) (hl:fC r off (cA y)=some r'):bR E N o O L (λr1 L'=>r1= .ret (.d (.v undef))/\L'=L.set i (.row e kk (rows.set j r'))):=λZ s LB hs hh=>by
 obtain⟨z,h2,h3⟩:=cg hs hp;simp only[aK]at h3;obtain⟨a,c,t',h3,rfl⟩:=h3;obtain⟨z,h4,h5⟩:=cg hs hv;simp only[aK]at h5;subst h5;obtain⟨q,h6,h7⟩:=hh.en i _ hi;obtain⟨⟨a',c',h8,rfl⟩,h9⟩:=h7;subst hn;rw[h3]at h8;cases h8;refine(dD.Z4 (Qb ho j off (ou (Z:=Z) (by simp[ho,Op.operands]) h2) hm (ou (Z:=Z) (by simp[ho,Op.operands]) h4) h6 hr ht hk h1 hl)).mono ?_;rintro r1 L' ⟨rfl,rfl⟩;exact⟨Z,.ret (.d (.v undef)),L.set i (.row e kk (rows.set j r')),.refl Z,⟨_,rfl,rfl⟩,hh.set (.refl Z) (λ_ _=>rfl) (λ_ _=>rfl) (hh.lt hi) ⟨⟨a,c,by simpa using h3,by simp⟩,by simpa using h9⟩,rfl,rfl⟩
theorem bR.lit {n:Nat} {t:TypeId} {parts:Array (Nat×Operand)} {e k sz by' sz' by'':Nat} {z z':List Value} {td':TD} {cells:List AV} (ho:o.op= .buildSlice t n parts)
  (ht:bc E.T t=some ⟨.slice e k,sz,by',z⟩) (hte:bc E.T e=some ⟨td',sz',by'',z'⟩) (hf:fp k (dK O) (iH n (z'.map .v)) parts.toList=some cells) (hb:Nat.ble (n*k) 16777216=true) (hk:Nat.ble 1 k=true):
  bR E N o O L (λr L'=>r= .ret (.os L.n n)/\L'=L.push (.row e k (chunk n k cells))):=λZ s LB hs hh=>by
 have hR:oQ E.toCx N o (dV s (tmpsOf o)) LB (λx L'=>∃b,x= .os LB.length (some ⟨b,0,none⟩) n n/\L'=LB++[.row (.slice (some ⟨b,0,none⟩) n n) e k (chunk n k cells)]):=λF a w hst=>by
  have hf':fp k (look (dV s (tmpsOf o))) (iH n (z'.map .v)) parts.toList=some cells:=by
   rw[HI λp hp=>fK (by rw[ho];simp only[Op.operands,dy];exact⟨p,hp,rfl⟩)];have key:∀(l:List (Nat×Operand)) (cs r:List AV),fp k (dK O) cs l=some r->fp k s cs l=some r:=by
    intro l
    induction l with
    |nil=>intro cs r h;exact h
    |cons p l ih=>
     intro cs r h;obtain⟨i,p⟩:=p;simp only[fp]at h⊢;split at h
     ·rename_i y hy;have hy':ev s p=some y:=by
       cases p with
       |tmp u=>exact lb hs hy
       |const v=>exact hy
       |global g=>exact hy
       |func f=>exact hy
      simp only[hy'];split at h
      ·exact ih _ _ h
      ·cases h
     ·cases h
   exact key _ _ _ hf
  obtain⟨us,h1,h2,h3⟩:=Iy (d:=o.dst) (ty:=o.type) (pos:=o.pos) (after:=o.after) (gd:=o.guard) ht hte hf' hb hk hst;have hb:=ep hb;have hk:=ep hk;have ho':o=⟨o.dst,.buildSlice t n parts,o.type,o.pos,o.after,o.guard⟩:=by rw[<-ho]
  rw[<-ho']at h1;have hext:=nb w (.cells us e) LB (.row (.slice (some ⟨w.heap.size,0,none⟩) n n) e k (chunk n k cells)) (by simp[aw.ids,Value.ownBlock]);refine⟨.slice (some ⟨w.heap.size,0,none⟩) n n,w.alloc (.cells us e),_,_,⟨w.heap.size,rfl,rfl⟩,h1,by simp only[Rel],?_,hext⟩;refine hst.hp.push (by simp) (λb hb=>kS w _ b hb) (by simp[aw.ids,Value.ownBlock]) (by simp[aw.ids,Value.ownBlock]) ?_;refine⟨us.toList,h2.keep hext.keeps,?_,.inr ⟨w.heap.size,n,us,by rw[iA],mT _,lI w _,by rw[iA];exact bW _,?_,h3,?_⟩⟩
  ·rw[iA];simpa using h3
  ·have:n<=n*k:=Hk n hk;simp only[maxLen];omega
  ·rw[iA,<-h3,<-xp,eN]
 refine(dD.GB hR).mono ?_;rintro r L' ⟨y,rfl,b,rfl,rfl⟩;have hdom:=hh.iJ L.n (bW _);have hl:Z.le (Z.bj L.n n (some ⟨b,0,none⟩,n)):=aN.lO λy hy=>by rw[hdom.2]at hy;cases hy
 have hbn:(Z.bj L.n n (some ⟨b,0,none⟩,n)).s L.n n=some (some ⟨b,0,none⟩,n):=by simp[aN.bj]
 refine⟨_,.ret (.os L.n n),L.push (.row e k (chunk n k cells)),hl,⟨_,rfl,by simp only[aK];exact⟨_,_,_,hbn,rfl⟩⟩,hh.push hl (λi hi=>by funext m;simp[aN.bj,hi]) (λ_ _=>rfl) ⟨⟨some ⟨b,0,none⟩,n,by rw[iA];exact hbn,by rw[iA]⟩,λm hm=>?_⟩,rfl,rfl⟩;rw[iA]at hm;have:m≠n:=by omega
 simp only[aN.bj,this,and_false,if_false];exact hdom.2 m
theorem kE.ZZ {Z:aN} {s:Sl} {LB:List aw} (hs:SS Z O s) (hh:HS Z L LB) {k:Nat} {p:Operand} {rows:List (List AV)} (h:kE E O L k p rows) (hp:p∈o.op.operands.toList):∀F a w,St E.G N w F a (dV s (tmpsOf o)) LB->jG w (Al F LB) k (a.eval p) rows:=λF a w hst=>by
 have key:∀{x:CV},aX O p=some x->∃y,ev (look (dV s (tmpsOf o))) p=some y/\aK Z x y:=λh=>by
  obtain⟨y,h1,h2⟩:=cg hs h;exact⟨y,ou (Z:=Z) hp h1,h2⟩
 cases h with
 |sl h=>
  obtain⟨y,h1,h2⟩:=key h;simp only[aK]at h2;subst h2;exact jG.sl (bC hst.sg h1)
 |GC h hI=>
  obtain⟨y,h1,h2⟩:=key h;simp only[aK]at h2;subst h2;exact jG.sl (hI _ _ _ (bC hst.sg h1))
 |nil h=>
  obtain⟨y,h1,h2⟩:=key h;simp only[aK]at h2;subst h2;have:=bC hst.sg h1;simp only[Rel]at this;rw[this];exact⟨none,0,0,[],rfl,rfl,by simp[bl],λ_=>rfl,λ_ h=>by cases h⟩
 |row h h3 hn=>
  obtain⟨y,h1,h2⟩:=key h;simp only[aK]at h2;obtain⟨a',c,t',h4,rfl⟩:=h2;obtain⟨q,h5,h6⟩:=hh.en _ _ h3;obtain⟨⟨a2,c2,h7,rfl⟩,_⟩:=h6;subst hn;rw[h4]at h7;cases h7;have:=bC hst.sg h1;simp only[Rel]at this;rw[this];exact jG.row (ja hst.hp h5)
 |fz h h3 hn=>
  obtain⟨y,h1,h2⟩:=key h;simp only[aK]at h2;obtain⟨a',c,t',h4,rfl⟩:=h2;obtain⟨q,h5,h6⟩:=hh.en _ _ h3;obtain⟨a2,c2,h7,rfl⟩:=h6;subst hn;rw[h4]at h7;cases h7;have:=bC hst.sg h1;simp only[Rel]at this;rw[this];exact jG.sl (qX hst.hp h5)
theorem bR.append {i n:Nat} {s' p:Operand} {t:TypeId} {e k sz by' sz' by'':Nat} {z z':List Value} {td':TD} {rows rows2:List (List AV)} (ho:o.op= .call {callee:= .builtin .append,args:= #[s',p],argTypes:= #[t,t]})
  (hb:(rows++rows2).length*by''<=140737488355328) (hs':aX O s'=some (.os i n)) (hi:L.e.get i=some (.row e k rows)) (hn:n=rows.length) (hx:kE E O L k p rows2) (ht:bc E.T t=some ⟨.slice e k,sz,by',z⟩) (hte:bc E.T e=some ⟨td',sz',by'',z'⟩) (h1:fJ rows2=true)
  (hk:Nat.ble 1 k=true) (hby:Nat.ble 1 by''=true):bR E N o O L (λr L'=>r= .ret (.os i (rows++rows2).length)/\L'=L.set i (.row e k (rows++rows2))):=λZ s LB hs hh=>by
 obtain⟨y,h2,h3⟩:=cg hs hs';simp only[aK]at h3;obtain⟨a,c,t',h3,rfl⟩:=h3;obtain⟨q,h6,h7⟩:=hh.en i _ hi;obtain⟨⟨a',c',h8,rfl⟩,h9⟩:=h7;subst hn;rw[h3]at h8;cases h8;refine(dD.GB (Q0 ho ht hte (ou (Z:=Z) (by simp[ho,Op.operands,Call.operands]) h2) h6 (hx.ZZ hs hh (by simp[ho,Op.operands,Call.operands])) h1 hk hby hb)).mono ?_;rintro r L' ⟨y,rfl,a',c',h0,rfl,rfl⟩;have hl:Z.le (Z.bj i (rows++rows2).length (a',c')):=aN.lO λy hy=>by
  by_cases hz:rows2=[]
  ·subst hz;simp only[jx]at hy;rw[h3]at hy;cases hy;obtain⟨rfl,rfl⟩:=h0 rfl;rfl
  ·have:rows.length<(rows++rows2).length:=by
    have:=PR.2 hz;simp;omega
   rw[h9 _ this]at hy;cases hy
 have hbn:(Z.bj i (rows++rows2).length (a',c')).s i (rows++rows2).length=some (a',c'):=by simp[aN.bj]
 refine⟨_,.ret (.os i (rows++rows2).length),L.set i (.row e k (rows++rows2)),hl,⟨_,rfl,by simp only[aK];exact⟨_,_,_,hbn,rfl⟩⟩,hh.set hl (λj hj=>by funext m;simp[aN.bj,hj]) (λ_ _=>rfl) (hh.lt hi) ⟨⟨a',c',hbn,rfl⟩,λm hm=>?_⟩,rfl,rfl⟩;have hne:m≠(rows++rows2).length:=by omega
 simp only[aN.bj,hne,and_false,if_false];exact h9 m (by simp at hm;omega)
theorem bR.Jg {i n:Nat} {s' p:Operand} {t u:TypeId} {e k sz by' sz' by'' szu byu:Nat} {z z' zu:List Value} {td':TD} {rows:List (List AV)} {b:ByteArray} (ho:o.op= .call {callee:= .builtin .append,args:= #[s',p],argTypes:= #[t,u]})
  (hb:(rows++dR b).length*by''<=140737488355328) (hs':aX O s'=some (.os i n)) (hi:L.e.get i=some (.row e k rows)) (hn:n=rows.length) (hx:aX O p=some (.d (.v (.string b)))) (ht:bc E.T t=some ⟨.slice e k,sz,by',z⟩) (hu:bc E.T u=some ⟨.str,szu,byu,zu⟩) (hte:bc E.T e=some ⟨td',sz',by'',z'⟩)
  (hk:Nat.beq k 1=true) (hby:Nat.beq by'' 1=true):bR E N o O L (λr L'=>r= .ret (.os i (rows++dR b).length)/\L'=L.set i (.row e k (rows++dR b))):=λZ s LB hs hh=>by
 obtain⟨y,h2,h3⟩:=cg hs hs';simp only[aK]at h3;obtain⟨a,c,t',h3,rfl⟩:=h3;obtain⟨y2,g2,g3⟩:=cg hs hx;simp only[aK]at g3;subst g3;obtain⟨q,h6,h7⟩:=hh.en i _ hi;obtain⟨⟨a',c',h8,rfl⟩,h9⟩:=h7;subst hn;rw[h3]at h8;cases h8;refine(dD.GB (Qr ho ht hu hte (ou (Z:=Z) (by simp[ho,Op.operands,Call.operands]) h2) h6 (ou (Z:=Z) (by simp[ho,Op.operands,Call.operands]) g2) hk hby hb)).mono ?_;rintro r L' ⟨y,rfl,a',c',h0,rfl,rfl⟩;have hl:Z.le (Z.bj i (rows++dR b).length (a',c')):=aN.lO λy hy=>by
  by_cases hz:dR b=[]
  ·rw[hz]at hy;simp only[jx]at hy;rw[h3]at hy;cases hy;obtain⟨rfl,rfl⟩:=h0 hz;rfl
  ·have:rows.length<(rows++dR b).length:=by
    have:=PR.2 hz;simp;omega
   rw[h9 _ this]at hy;cases hy
 have hbn:(Z.bj i (rows++dR b).length (a',c')).s i (rows++dR b).length=some (a',c'):=by simp[aN.bj]
 refine⟨_,.ret (.os i (rows++dR b).length),L.set i (.row e k (rows++dR b)),hl,⟨_,rfl,by simp only[aK];exact⟨_,_,_,hbn,rfl⟩⟩,hh.set hl (λj hj=>by funext m;simp[aN.bj,hj]) (λ_ _=>rfl) (hh.lt hi) ⟨⟨a',c',hbn,rfl⟩,λm hm=>?_⟩,rfl,rfl⟩;have hne:m≠(rows++dR b).length:=by omega
 simp only[aN.bj,hne,and_false,if_false];exact h9 m (by simp at hm;omega)
theorem bR.call {f:Operand} {args:List Operand} {g:FuncId} {cs:List CV} {Q':DR->Hp->Prop} {tys:Array TypeId} (ho:o.op= .call {callee:= .value f,args:=args.toArray,argTypes:=tys})
  (h:fY E g cs L Q') (hc:ew O f args=some (g,cs)):bR E N o O L Q':=λZ s LB hs hh=>by
 obtain⟨ys,h1,h2⟩:=qG hs hc;have h3:=h Z ys LB h2 hh;refine(dD.VY ho h1 h3.1 λF w vs hH hr=>h3.2 F w vs hH hr).mono ?_;rintro r L' ⟨Z',d,L1,g1,g2,g3,g4⟩;exact⟨Z',d,L1,hh.iS g1,g2,g3,g4⟩
theorem bR.pure {f:Operand} {args:List Operand} {g:FuncId} {cs:List CV} {xs' xs:List AV} {ns:List (Nat×Nat)} {ms:List (Nat×bz)} {res:AR} {tys:Array TypeId} (fl:Nat) (ho:o.op= .call {callee:= .value f,args:=args.toArray,argTypes:=tys})
  (h:Pure E.toCx g xs res) (hc:ew O f args=some (g,cs)) (hf:cz L.e fl cs=some (xs',ns,ms)) (hn:eqs ns) (hi:cH xs' xs) (hl:ms=[]\/(match res with| .ret x=>dz x| .aS x=>dz x)=true):
  bR E N o O L (λr L'=>(match res with| .ret x=>r= .ret (.d x)| .aS x=>r= .aS (.d x))/\L'=L):=λZ s LB hs hh=>by
 obtain⟨ys,h1,h2⟩:=qG hs hc;refine dD.VY ho h1 h.1 λF w vs hH hr=>(H' fl h hf hn hi hl hh hH h2 hr).mono ?_;rintro e w' ⟨hv,hcls⟩;refine⟨res,LB,?_,hv,hH.later hcls.2.2.2,hcls.ext⟩;cases res with
 |ret x=>exact⟨Z,.ret (.d x),L,.refl Z,⟨x,rfl,rfl⟩,hh,rfl,rfl⟩
 |aS x=>exact⟨Z,.aS (.d x),L,.refl Z,⟨x,rfl,rfl⟩,hh,rfl,rfl⟩
theorem bR.panic {p:Operand} (ho:o.op= .panic p) {t:TypeId} {y:CV} (hp:aX O p=some (.bJ t y)):bR E N o O L (λr L'=>r= .aS (.bJ t y)/\L'=L):=λZ s LB hs hh=>by
 obtain⟨z,h1,h2⟩:=cg hs hp;have h3:=h2;simp only[aK]at h3;obtain⟨u,rfl,_⟩:=h3;refine(dD.panic ho h1).mono ?_;rintro r L' ⟨rfl,rfl⟩;exact⟨Z,.aS (.bJ t y),L,.refl Z,⟨_,rfl,h2⟩,hh,rfl,rfl⟩
theorem bR.JE {p:Operand} (ho:o.op= .panic p) {t:TypeId} {y:AV} (hp:aX O p=some (.d (.bJ t y))):bR E N o O L (λr L'=>r= .aS (.d (.bJ t y))/\L'=L):=λZ s LB hs hh=>by
 obtain⟨z,h1,h2⟩:=cg hs hp;simp only[aK]at h2;subst h2;refine(dD.panic ho h1).mono ?_;rintro r L' ⟨rfl,rfl⟩;exact⟨Z,.aS (.d (.bJ t y)),L,.refl Z,⟨_,rfl,rfl⟩,hh,rfl,rfl⟩
theorem dD.ln {C:Cx} {s s1:Sl} {LB LB1:List aw} {R:AR->List aw->Prop} (hw:∀F w a,bG C.G w F LB->lS w (Al F LB) N a o s->bG C.G w F LB1/\lS w (Al F LB1) N a o s1/\∀b∈ids LB1,b∈ids LB) (h:dD C N o s1 LB1 R):dD C N o s LB R:=
 λF w a hN hd hH hs K Q k1 k2=>by
  obtain⟨h1,h2,h3⟩:=hw F w a hH hs;have hx:Ext LB w LB1 w:=⟨rfl,rfl,rfl,bW _,λ_ _ _=>rfl,λb hb=> .inl (h3 b hb),.of (bW _)⟩;exact h F w a hN hd h1 h2 K Q (λv w' x L' hR hv hH' hext=>k1 v w' x L' hR hv hH' (hx.trans hext)) (λv w' x L' hR hv hH' hext=>k2 v w' x L' hR hv hH' (hx.trans hext))
theorem bR.jF (t e k:Nat) (ht:O.get t=some (.d (.v (.slice none 0 0)))) (h:bR E N o (Tr.put 24 O t (some (.os L.n 0))) (L.push (.row e k [])) R):bR E N o O L R:=λZ s LB hs hh=>by
 obtain⟨y,h1,h2⟩:=hs t _ ht;simp only[aK]at h2;subst h2;have hdom:=hh.iJ L.n (bW _);have hl:Z.le (Z.bj L.n 0 (none,0)):=aN.lO λy hy=>by rw[hdom.2]at hy;cases hy
 have hbn:(Z.bj L.n 0 (none,0)).s L.n 0=some (none,0):=by simp[aN.bj]
 have hs1:SS (Z.bj L.n 0 (none,0)) (Tr.put 24 O t (some (.os L.n 0))) (fZ s t (.os LB.length none 0 0)):=λu z hz=>by
  rcases Tr.fi 24 O t u _ z hz with⟨rfl,h3⟩|⟨hne,h3⟩
  ·cases h3;exact⟨.os LB.length none 0 0,by simp[fZ],by simp only[aK];exact⟨_,_,LB.length,hbn,rfl⟩⟩
  ·obtain⟨q,h4,h5⟩:=hs u z h3;exact⟨q,by simp[fZ,hne,h4],h5.mono hl⟩
 have hh1:HS (Z.bj L.n 0 (none,0)) (L.push (.row e k [])) (LB++[.row (.slice none 0 0) e k []]):=by
  refine hh.push hl (λi hi=>by funext m;simp[aN.bj,hi]) (λ_ _=>rfl) ⟨⟨none,0,by simpa using hbn,by simp⟩,λm hm=>?_⟩;have:m≠0:=by simp at hm;omega
  simp only[aN.bj,this,and_false,if_false];exact hdom.2 m
 refine dD.ln (λF w a hH hopd=>?_) ((h _ _ _ hs1 hh1).mono ?_)
 ·have hkeep:dC w (Al F LB) w (Al F (LB++[aw.row (.slice none 0 0) e k []])):=⟨bW _,λb _ ha=>⟨by simpa[Al,cu,cC,aw.ids,Value.ownBlock,ids]using ha,rfl⟩⟩;refine⟨hH.push (bW _) (λ_ _=>rfl) (by simp[aw.ids,Value.ownBlock]) (by simp[aw.ids,Value.ownBlock]) ⟨[],by simp[bl],by simp,.inl ⟨rfl,rfl⟩⟩,λu hu q hq=>?_,λb hb=>by simpa[cu,cC,aw.ids,Value.ownBlock,ids]using hb⟩;unfold fZ at hq;split at hq
  ·rename_i hut;subst hut;simp only[aD]at hq;subst hq;obtain⟨g1,g2⟩:=hopd u hu _ h1;simp only[Rel]at g2⊢;exact⟨g1,g2⟩
  ·obtain⟨g1,g2⟩:=hopd u hu q hq;exact⟨g1,g2.keep hkeep⟩
 ·rintro r L' ⟨Z',d,L1,g1,g2,g3,g4⟩;exact⟨Z',d,L1,hl.trans g1,g2,g3,g4⟩
theorem bR.cO {t:Nat} {z:AV} {ns:List (Nat×Nat)} {ms:List (Nat×bz)} (f:Nat) (hx:O.get t=some x) (hf:cz L.e f [x]=some ([z],ns,ms)) (hn:eqs ns) (ht:t∈tmpsOf o) (h:bR E N o (Tr.put 24 O t (some (.d z))) (je ms L) R):bR E N o O L R:=λZ s LB hs hh=>by
 obtain⟨y,h1,h2⟩:=hs t x hx;have hs1:SS Z (Tr.put 24 O t (some (.d z))) (fZ s t z):=λu q hq=>by
  rcases Tr.fi 24 O t u _ q hq with⟨rfl,h3⟩|⟨hne,h3⟩
  ·cases h3;exact⟨z,by simp[fZ],rfl⟩
  ·obtain⟨q',h4,h5⟩:=hs u q h3;exact⟨q',by simp[fZ,hne,h4],h5⟩
 by_cases hcan:∃F w v,bG E.G w F LB/\Rel w (Al F LB) y v
 ·obtain⟨F0,w0,v0,hH0,hv0⟩:=hcan;obtain⟨_,h40⟩:=jE hh hH0 (ms.map (·.1)) f hf hn (λp hp=>dy.2 ⟨p,hp,rfl⟩) (aR.one h2) (aL.one hv0);have hHS:HS Z (je ms L) (fu Z ms LB):=D5 (w:=w0) (F:=gh F0 LB (ms.map (·.1))) hh λp hp=>⟨(h40 p hp).lt hh,h40 p hp⟩;refine dD.ln (λF w a hH hopd=>?_) (h Z _ _ hs1 hHS);have hv:=(hopd t ht y h1).2;obtain⟨h3,h4⟩:=jE hh hH (ms.map (·.1)) f hf hn (λp hp=>dy.2 ⟨p,hp,rfl⟩) (aR.one h2) (aL.one hv);have hsub:∀b∈ids (fu Z ms LB),b∈ids LB:=λb hb=>(xQ ms LB).subset hb;refine⟨En hH h4,λu hu q hq=>?_,hsub⟩;unfold fZ at hq;split at hq
  ·rename_i hut;subst hut;simp only[aD]at hq;subst hq;exact⟨(hopd u hu y h1).1,h3.FJ.keep tm⟩
  ·obtain⟨g1,g2⟩:=hopd u hu q hq;exact⟨g1,g2.keep (dC.sub hsub)⟩
 ·intro F w a hN hd hH hopd;exact absurd ⟨F,w,_,hH,(hopd t ht y h1).2⟩ hcan
mutual
theorem aK.same {Z:aN} {w:World} {A:Nat->Prop}:∀{x:CV} {y y':AV} {v:Value},aK Z x y->aK Z x y'->Rel w A y v->Rel w A y' v
 | .d x,_,_,_,h,g,hr=>by simp only[aK]at h g;subst h;subst g;exact hr
 | .agg xs,_,_,_,h,g,hr=>by
  simp only[aK]at h g;obtain⟨ys,rfl,h⟩:=h;obtain⟨zs,rfl,g⟩:=g;simp only[Rel]at hr⊢;obtain⟨vs,rfl,hr⟩:=hr;exact⟨vs,rfl,aR.same h g hr⟩
 | .bQ xs,_,_,_,h,g,hr=>by
  simp only[aK]at h g;obtain⟨ys,rfl,h⟩:=h;obtain⟨zs,rfl,g⟩:=g;simp only[Rel]at hr⊢;obtain⟨vs,rfl,hr⟩:=hr;exact⟨vs,rfl,aR.same h g hr⟩
 | .own t o,_,_,_,h,g,hr=>by
  simp only[aK]at h g;obtain⟨b,t1,h,rfl⟩:=h;obtain⟨b',t2,g,rfl⟩:=g;rw[h]at g;cases g;simp only[Rel]at hr⊢;exact hr
 | .os t n,_,_,_,h,g,hr=>by
  simp only[aK]at h g;obtain⟨a,c,t1,h,rfl⟩:=h;obtain⟨a',c',t2,g,rfl⟩:=g;rw[h]at g;cases g;simp only[Rel]at hr⊢;exact hr
 | .oe t n o,_,_,_,h,g,hr=>by
  simp only[aK]at h g;obtain⟨a,c,t1,h,rfl⟩:=h;obtain⟨a',c',t2,g,rfl⟩:=g;rw[h]at g;cases g;simp only[Rel]at hr⊢;exact hr
 | .om t,_,_,_,h,g,hr=>by
  simp only[aK]at h g;obtain⟨b,t1,h,rfl⟩:=h;obtain⟨b',t2,g,rfl⟩:=g;rw[h]at g;cases g;simp only[Rel]at hr⊢;exact hr
 | .fn f fs cs,_,_,_,h,g,hr=>by
  simp only[aK]at h g;obtain⟨us,vs,rfl,h1,h2⟩:=h;obtain⟨us',vs',rfl,g1,g2⟩:=g;simp only[Rel]at hr⊢;obtain⟨ps,qs,e,hr1,hr2⟩:=hr;exact⟨ps,qs,e,aR.same h1 g1 hr1,aR.same h2 g2 hr2⟩
 | .bJ t x,_,_,_,h,g,hr=>by
  simp only[aK]at h g;obtain⟨u,rfl,h⟩:=h;obtain⟨u',rfl,g⟩:=g;simp only[Rel]at hr⊢;obtain⟨q,e,hr⟩:=hr;exact⟨q,e,aK.same h g hr⟩
theorem aR.same {Z:aN} {w:World} {A:Nat->Prop}:∀{x:List CV} {y y':List AV} {v:List Value},aR Z x y->aR Z x y'->aL w A y v->aL w A y' v
 |[],_,_,_,h,g,hr=>by simp only[aR]at h g;subst h;subst g;exact hr
 |_::_,_,_,_,h,g,hr=>by
  simp only[aR]at h g;obtain⟨y,r,rfl,h1,h2⟩:=h;obtain⟨y',r',rfl,g1,g2⟩:=g;simp only[aL]at hr⊢;obtain⟨v,q,e,hr1,hr2⟩:=hr;exact⟨v,q,e,aK.same h1 g1 hr1,aR.same h2 g2 hr2⟩
end
theorem bZ.same {Z:aN} {C:Cx} {s:Sl} {LB:List aw} {y y':AV} (h:aK Z x y) (g:aK Z x y') (hp:bZ C N o s LB y):bZ C N o s LB y':=λF w a h1 h2 h3 h4 K Q k=>hp F w a h1 h2 h3 h4 K Q λv w' hv hc=>k v w' (aK.same h g hv) hc
