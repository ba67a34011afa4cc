/- What the orders of a tail say of worlds; the rule for regions whose order is open. -/
import Derived.Test.YtnocmolegijmkaaGreatKB12
import Derived.Test.YtnocmolegijmkaaGreatKD3
set_option linter.all false
noncomputable section
namespace Go.Bw
open Go
def WA (C:Cx) (N:Nat) (ops:Array Oper) (p:Nat×(Nat×List AV)):Prop:=∃o,ops[p.1]? =some o/\o.guard=none/\o.dst=some p.2.1/\p.2.1<N/\(∀e∈o.after,Region.binds .any e=false)/\∀s L,gA C N o s L p.2.2
def dL (st:Nat->Option Nat):b6->List aq
 |[]=>[]
 |p::A=>(match st p.1 with
  |some b=>[.box b p.2.2]
  |none=>[])++dL st A
def fS (st:Nat->Option Nat):b6->Nat
 |[]=>0
 |p::A=>(match st p.1 with
  |some _=>0
  |none=>1)+fS st A
def iS (st:Nat->Option Nat) (i b:Nat):Nat->Option Nat:=λk=>if k=i then some b else st k
def ng (st:Nat->Option Nat) (A:b6):List ((Nat×List AV)×Nat):=A.map λp=>(p.2,(st p.1).getD 0)
section
variable {C:Cx} {N:Nat} {ops:Array Oper} {st:Nat->Option Nat}
theorem O4 (j:Nat):∀A:b6,(dL st A).Perm (dL st (cD ops j A)++dL st (cO ops j A))
 |[]=>List.Perm.refl _
 |p::A=>by
  have ih:=O4 j A;simp only[cD,cO,q9]at ih⊢;cases hb:fj ops p.1 j with
  |true=>
   simp only[fL,if_true,dL,kI,if_false,lX];exact ih.append_left _
  |false=>
   simp only[DH,if_true,dL,kI,if_false];refine(ih.append_left _).trans ?_;rw[<-lX,<-lX];exact List.perm_append_comm.append_right _
theorem QC (j:Nat):∀A:b6,fS st A=fS st (cD ops j A)+fS st (cO ops j A)
 |[]=>rfl
 |p::A=>by
  have ih:=QC j A;simp only[cD,cO,q9]at ih⊢;cases hb:fj ops p.1 j with
  |true=>simp only[fL,if_true,fS,kI,if_false];omega
  |false=>simp only[DH,if_true,fS,kI,if_false];omega
theorem Rq:∀{A:b6},(∀p∈A,st p.1≠none)->fS st A=0
 |[],_=>rfl
 |p::A,h=>by
  simp only[fS];rw[Rq (A:=A) λq hq=>h q (by simp[hq])];have:=h p (by simp);cases hs:st p.1 with
  |none=>exact absurd hs this
  |some b=>rfl
theorem SG:∀{A:b6} {p:Nat×(Nat×List AV)},p∈A->st p.1=none->0<fS st A
 |q::A,p,hp,hs=>by
  simp only[fS];rcases cq.1 hp with rfl|hp
  ·rw[hs];simp only;omega
  ·have:=SG hp hs;omega
theorem Rr:∀{A:b6},(∀p∈A,st p.1≠none)->dw (ng st A)=dL st A
 |[],_=>rfl
 |p::A,h=>by
  have ih:=Rr (A:=A) λq hq=>h q (by simp[hq]);have:=h p (by simp);cases hs:st p.1 with
  |none=>exact absurd hs this
  |some b=>
   simp only[dw,ng]at ih;simp only[dL,hs,dw,ng,dp,aam,anL,ih]
theorem adt (A:b6):(ng st A).map (·.1)=nk A:=by simp[ng,nk]
theorem QD {i b:Nat}:∀{A:b6},(∀p∈A,p.1≠i)->dL (iS st i b) A=dL st A/\fS (iS st i b) A=fS st A
 |[],_=>⟨rfl,rfl⟩
 |p::A,h=>by
  obtain⟨h1,h2⟩:=QD (b:=b) (A:=A) λq hq=>h q (by simp[hq]);have hne:=h p (by simp);simp only[dL,fS,h1,h2,iS,hne,if_false,and_self]
theorem Rs {b:Nat}:∀{A:b6} {p:Nat×(Nat×List AV)},p∈A->(A.map (·.1)).Nodup->st p.1=none->(dL (iS st p.1 b) A).Perm (dL st A++[.box b p.2.2])/\fS (iS st p.1 b) A+1=fS st A
 |q::A,p,hp,hnd,hs=>by
  simp only[dp,OJ,dP,not_exists,not_and]at hnd;rcases cq.1 hp with rfl|hp
  ·obtain⟨h1,h2⟩:=QD (st:=st) (b:=b) (A:=A) (i:=p.1) λq hq he=>hnd.1 q hq he;simp only[dL,fS,h1,h2,hs];refine⟨?_,by simp[iS];omega⟩;simp only[iS,if_true,pA];exact Hy
  ·have hne:q.1≠p.1:=λhe=>hnd.1 p hp he.symm;obtain⟨h1,h2⟩:=Rs (b:=b) hp hnd.2 hs;simp only[dL,fS];have e:iS st p.1 b q.1=st q.1:=by simp[iS,hne]
   rw[e];refine⟨?_,by omega⟩;rw[lX];exact h1.append_left _
theorem bM.back {G:Gl} {w w':World} {F:Nat->Prop} {Ls Ls' Lr:List aq} (hH1:bM G w F (Ls++Lr)) (hh:bM G w' (λb=>F b\/b∈ids Lr) Ls') (hext:Ext Ls w Ls' w'):bM G w' F (Ls'++Lr)/\Ext (Ls++Lr) w (Ls'++Lr) w':=by
 have hlt:=hH1.lt;have hnd:=hH1.nodup;rw[cB,ly]at hnd;have hA:Al (λb=>F b\/b∈ids Lr) Ls'=Al F (Ls'++Lr):=oO;have hmem:∀b,b∈ids (Ls++Lr)↔b∈ids Ls\/b∈ids Lr:=λb=>by rw[cB,b7]
 have hnew:∀b∈ids Ls',b∈ids Ls\/w.heap.size<=b:=hext.new;have hr:∀b∈ids Lr,b<w.heap.size/\b∉ids Ls:=λb hb=>⟨hlt b (by simp[cB,hb]),λhm=>hnd.2.2 b hm b hb rfl⟩;have hE:Ext (Ls++Lr) w (Ls'++Lr) w':=by
  refine⟨hext.os,hext.tape,hext.output,hext.size,λb hb hn=>hext.block b hb λhm=>hn ((hmem b).2 (.inl hm)),λb hb=>?_,hext.drawn⟩;rw[cB,b7]at hb;rcases hb with hb|hb
  ·exact(hnew b hb).imp (λhm=>(hmem b).2 (.inl hm)) id
  ·exact .inl ((hmem b).2 (.inr hb))
 have hk:dF w (Al F (Ls++Lr)) w' (Al F (Ls'++Lr)):=hE.keeps;refine⟨⟨λx hx=>?_,?_,λb hb=>?_,λb hb=>hh.bound b (.inl hb),hH1.gK.keep hk⟩,hE⟩
 ·rcases b7.1 hx with hx|hx
  ·rw[<-hA];exact hh.eG x hx
  ·have hx0:=hH1.eG x (by simp[hx]);refine hx0.keep hk λb hb=>?_;have hbm:b∈ids Lr:=gB.2 ⟨x,hx,hb⟩;exact hext.block b (hr b hbm).1 (hr b hbm).2
 ·rw[cB,ly];refine⟨hh.nodup,hnd.2.1,λa ha b hb hab=>?_⟩;subst hab;rcases hnew a ha with h1|h1
  ·exact(hr a hb).2 h1
  ·have:=(hr a hb).1;omega
 ·rw[cB,b7]at hb;rcases hb with hb|hb
  ·exactλhF=>hh.free b hb (.inl hF)
  ·exact hH1.free b ((hmem b).2 (.inr hb))
theorem bM.drop {G:Gl} {w:World} {F:Nat->Prop} {L W:List aq} (h:bM G w F (L++W)):bM G w F L:=by
 have hsub:∀b∈ids L,b∈ids (L++W):=λb hb=>by rw[cB];exact mE _ hb
 have hk:=dF.sub (w:=w) (F:=F) hsub;have hnd:=h.nodup;rw[cB,ly]at hnd;exact⟨λx hx=>(h.eG x (by simp[hx])).keep hk (λ_ _=>rfl),hnd.1,λb hb=>h.free b (hsub b hb),h.bound,h.gK.keep hk⟩
theorem Ext.perm {L L' L'':List aq} {w w':World} (h:Ext L w L' w') (hp:L'.Perm L''):Ext L w L'' w':=⟨h.os,h.tape,h.output,h.size,h.block,λb hb=>h.new b ((Ey hp).mem_iff.2 hb),h.drawn⟩
theorem Ext.drop {L L' W:List aq} {w w':World} (h:Ext L w (L'++W) w'):Ext L w L' w':=⟨h.os,h.tape,h.output,h.size,h.block,λb hb=>h.new b (by rw[cB];exact mE _ hb),h.drawn⟩
structure Wc (C:Cx) (N:Nat) (ops:Array Oper) (A:b6) (s:Sl):Prop where
 ok:∀p∈A,WA C N ops p
 nd:(A.map (·.1)).Nodup
 dst:∀p∈A,∀j oj,ops[j]? =some oj->j≠p.1->oj.dst≠some p.2.1
 sl:∀p∈A,s p.2.1=none
structure WB (A:b6) (listed wl:Array Bool) (st:Nat->Option Nat):Prop where
 h1:∀i,wl.getD i true=false->listed.getD i true=false\/∃p∈A,p.1=i/\st i=none
 h2:∀i,wl.getD i false=true->listed.getD i false=true/\∀p∈A,p.1=i->st i≠none
 h3:∀i,listed.getD i true=false->wl.getD i true=false
 h4:∀i,listed.getD i false=true->(∀p∈A,p.1=i->st i≠none)->wl.getD i false=true
 h5:∀p∈A,st p.1=none->wl.getD p.1 true=false
 h6:∀p∈A,listed.getD p.1 true=true
 h7:∀p∈A,listed.getD p.1 false=true
theorem OX (l:Array Bool) (i:Nat):(l.setIfInBounds i true).getD i true=true:=by
 rcases nE i l.size with h|h
 ·simp[h]
 ·simp[tq,h]
theorem HO {l:Array Bool} {i:Nat} (h:l.getD i true=false):(l.setIfInBounds i true).getD i false=true:=by
 rcases nE i l.size with h'|h'
 ·simp[h']
 ·simp[tq,h']at h
theorem QE:∀{A:b6} {p q:Nat×(Nat×List AV)},(A.map (·.1)).Nodup->p∈A->q∈A->p.1=q.1->p=q
 |x::A,p,q,hnd,hp,hq,he=>by
  simp only[dp,OJ,dP,not_exists,not_and]at hnd;rcases cq.1 hp with h1|h1<;>rcases cq.1 hq with h2|h2
  ·rw[h1,h2]
  ·exact absurd (by rw[<-he,h1]) (hnd.1 q h2)
  ·exact absurd (by rw[he,h2]) (hnd.1 p h1)
  ·exact QE hnd.2 h1 h2 he
theorem aaU {i j:Nat} {o:Oper} (ho:ops[j]? =some o) (h:fj ops i j=true):∃e∈o.after,Region.binds .any e=true/\e.on=i:=by
 unfold fj at h;rw[ho]at h;simp only[HK,bS,beq_iff_eq]at h;obtain⟨q,hq,h1,h2⟩:=h;exact⟨q,by simpa using hq,h1,h2⟩
variable {Qn:Sl->List aq->Prop} {Qp:AV->List aq->Prop} {Q:AQ}
theorem acu (hQn:∀s L,Qn s L->∃O',(∀t x,look O' t=some x->s t=some x)/\Q .norm O' L) (hQp:∀x L,Qp x L->Q (.aT x) [] L):
  ∀(m n:Nat) (A:b6) (listed wl:Array Bool) (pend:gY) (s:Sl) (L:List aq) (st:Nat->Option Nat),m=n+fS st A->jj C N ops Qn Qp n A listed pend s L->Wc C N ops A s->WB A listed wl st->
   ∀F w0 L0 a w,gM w (Al F (L++dL st A)) N a s->(∀p∈A,∀b,st p.1=some b->a.tmps.getD p.2.1 undef= .pointer (some ⟨b,0,none⟩))->bM C.G w F (L++dL st A)->a.defers=[]->Ext L0 w0 (L++dL st A) w->
    wpAny C.P .any ops (CQ C.G N F w0 L0 Q) m wl a w:=by
 intro m
 induction m with
 |zero=>
  intro n A listed wl pend s L st hm h hA hW F w0 L0 a w hs hptr hh hdf hx;have hn:n=0:=by omega
  subst hn;have hall:∀p∈A,st p.1≠none:=λp hp hs=>by have:=SG hp hs;omega
  refine⟨?_,?_⟩
  ·refine anX.2 λj hj=>?_;obtain⟨hju,o,ho,hd⟩:=mem_ready.1 hj;rcases hW.h1 j hju with h1|⟨p,hp,rfl,h2⟩
   ·have:j∈Region.ready .any ops listed:=mem_ready.2 ⟨h1,o,ho,λe he hb=>(hW.h2 _ (hd e he hb)).1⟩;rw[h.2.1]at this;cases this
   ·exact hall p hp h2
  ·obtain⟨O',h1,h2⟩:=hQn s L h.2.2;refine CQ.intro .norm rfl h2 ⟨?_,hh.drop,hdf⟩ hx.drop;have hk:=dF.sub (w:=w) (F:=F) (L:=L++dL st A) (L':=L) λb hb=>by rw[cB];exact mE _ hb
   exact⟨hs.1,λt x hx=>⟨(hs.2 t x (h1 t x hx)).1,(hs.2 t x (h1 t x hx)).2.keep hk⟩⟩
 |succ m ih=>
  intro n A listed wl pend s L st hm h hA hW F w0 L0 a w hs hptr hh hdf hx;refine⟨λh0=>?_,λj hj=>?_⟩
  ·have hall:∀p∈A,st p.1≠none:=λp hp hsn=>by
    obtain⟨o,ho,_,_,_,hna,_⟩:=hA.ok p hp;have:p.1∈Region.ready .any ops wl:=mem_ready.2 ⟨hW.h5 p hp hsn,o,ho,λe he hb=>by rw[hna e he]at hb;cases hb⟩;rw[h0]at this;cases this
   have hr0:Region.ready .any ops listed=[]:=by
    refine anX.2 λj hj=>?_;obtain⟨hju,o,ho,hd⟩:=mem_ready.1 hj;have:j∈Region.ready .any ops wl:=mem_ready.2 ⟨hW.h3 j hju,o,ho,λe he hb=>hW.h4 _ (hd e he hb) λp hp he'=>by rw[<-he'];exact hall p hp⟩;rw[h0]at this;cases this
   have hq:Qn s L:=by
    cases n with
    |zero=>exact h.2.2
    |succ n=>exact h.2.1 hr0
   obtain⟨O',h1,h2⟩:=hQn s L hq;refine CQ.intro .norm rfl h2 ⟨?_,hh.drop,hdf⟩ hx.drop;have hk:=dF.sub (w:=w) (F:=F) (L:=L++dL st A) (L':=L) λb hb=>by rw[cB];exact mE _ hb
   exact⟨hs.1,λt x hx=>⟨(hs.2 t x (h1 t x hx)).1,(hs.2 t x (h1 t x hx)).2.keep hk⟩⟩
  ·obtain⟨hju,o,ho,hdep⟩:=mem_ready.1 hj;unfold wpOp;simp only[ho];rcases hW.h1 j hju with hjl|⟨p,hp,hpj,hsn⟩
   ·--an operation of the tail
    have hjr:j∈Region.ready .any ops listed:=mem_ready.2 ⟨hjl,o,ho,λe he hb=>(hW.h2 _ (hdep e he hb)).1⟩;cases n with
    |zero=>rw[h.2.1]at hjr;cases hjr
    |succ n=>
     obtain⟨o',ho',hst⟩:=h.2.2 j hjr;rw[ho]at ho';cases ho';have hex:∀p∈cD ops j A,st p.1≠none:=λp hp=>by
      simp only[cD,iN]at hp;obtain⟨e,he,hb,heq⟩:=aaU ho hp.2;exact(hW.h2 p.1 (by rw[<-heq];exact hdep e he hb)).2 p hp.1 rfl
     have hstp:=Ei hst (ng st (cD ops j A)) (adt _);have hents:dw (ng st (cD ops j A))=dL st (cD ops j A):=Rr hex;have hperm:(L++dL st A).Perm ((L++dw (ng st (cD ops j A)))++dL st (cO ops j A)):=by
      rw[hents,lX];exact(O4 j A).append_left _
     have hH1:=hh.perm hperm;have hx1:=hx.perm hperm;have hzs:∀z∈ng st (cD ops j A),∃p∈A,fj ops p.1 j=true/\z.1=p.2/\st p.1=some z.2:=λz hz=>by
      simp only[ng,dP]at hz;obtain⟨p,hp,rfl⟩:=hz;have:=hex p hp;simp only[cD,iN]at hp;refine⟨p,hp.1,hp.2,rfl,?_⟩;cases hs:st p.1 with
      |none=>exact absurd hs this
      |some b=>rfl
     generalize ng st (cD ops j A)=zs at hstp hperm hH1 hx1 hzs hents;have hcnt:m=n+fS st (cO ops j A):=by
      have h1:=QC (ops:=ops) (st:=st) j A;rw[Rq hex]at h1;omega
     have hs1:gM w (Al F ((L++dw zs)++dL st (cO ops j A))) N a (ir L.length zs s):=by
      rw[<-zK hperm];refine⟨hs.1,λt x ht=>?_⟩;simp only[ir]at ht;split at ht
      ·rename_i y hl;cases ht;have:look (gX L.length zs++[]) t=some x:=by simpa using hl
       rcases tY this with⟨z,hz,k,rfl,rfl⟩|h
       ·obtain⟨p,hp,_,he,hsp⟩:=hzs z hz;obtain⟨_,_,_,_,hlt,_⟩:=hA.ok p hp;rw[he];exact⟨hlt,by simp only[Rel];exact hptr p hp _ hsp⟩
       ·simp[look]at h
      ·exact hs.2 t x ht
     have hne:∀p∈A,j≠p.1:=λp hp he=>by
      have:=hW.h6 p hp;rw[<-he,hjl]at this;cases this
     have hsub:∀p∈cO ops j A,p∈A:=λp hp=>(iN.1 hp).1;have hW':WB (cO ops j A) (listed.setIfInBounds j true) (wl.setIfInBounds j true) st:=by
      have hjne:∀{i:Nat} {l:Array Bool},(l.setIfInBounds j true).getD i true=false->j≠i:=λhi he=>by subst he;rw[OX]at hi;cases hi
      refine⟨λi hi=>?_,λi hi=>?_,λi hi=>?_,λi hi hall=>?_,λp hp hsn=>?_,λp hp=>?_,λp hp=>?_⟩
      ·have hji:=hjne hi;rw[getD_set_ne true hji]at hi⊢;rcases hW.h1 i hi with h1|⟨p,hp,rfl,h2⟩
       ·exact .inl h1
       ·refine .inr ⟨p,?_,rfl,h2⟩;simp only[cO,iN,kL];refine⟨hp,?_⟩;cases hb:fj ops p.1 j with
        |false=>rfl
        |true=>exact absurd h2 (hex p (by simp only[cD,iN];exact⟨hp,hb⟩))
      ·by_cases hji:j=i
       ·subst hji;exact⟨HO hjl,λp hp he=>absurd he.symm (hne p (hsub p hp))⟩
       ·rw[getD_set_ne false hji]at hi⊢;obtain⟨h1,h2⟩:=hW.h2 i hi;exact⟨h1,λp hp he=>h2 p (hsub p hp) he⟩
      ·have hji:=hjne hi;rw[getD_set_ne true hji]at hi⊢;exact hW.h3 i hi
      ·by_cases hji:j=i
       ·subst hji;exact HO hju
       ·rw[getD_set_ne false hji]at hi⊢;refine hW.h4 i hi λp hp he hsn=>?_;cases hb:fj ops p.1 j with
        |false=>exact hall p (by simp only[cO,iN,kL];exact⟨hp,hb⟩) he hsn
        |true=>exact hex p (by simp only[cD,iN];exact⟨hp,hb⟩) (by rw[he];exact hsn)
      ·rw[getD_set_ne true (hne p (hsub p hp))];exact hW.h5 p (hsub p hp) hsn
      ·rw[getD_set_ne true (hne p (hsub p hp))];exact hW.h6 p (hsub p hp)
      ·rw[getD_set_ne false (hne p (hsub p hp))];exact hW.h7 p (hsub p hp)
     have hA':∀x:AV,Wc C N ops (cO ops j A) (bm (ir L.length zs s) o.dst (some x)):=λx=>by
      refine⟨λp hp=>hA.ok p (hsub p hp),(List.filter_sublist.map _).nodup hA.nd,λp hp=>hA.dst p (hsub p hp),λp hp=>?_⟩;have hd:o.dst≠some p.2.1:=hA.dst p (hsub p hp) j o ho (hne p (hsub p hp));rw[nI λd hd' he=>hd (by rw[hd',he])];simp only[ir];cases hl:look (gX L.length zs) p.2.1 with
      |none=>exact hA.sl p (hsub p hp)
      |some y=>
       exfalso;have:look (gX L.length zs++[]) p.2.1=some y:=by simpa using hl
       rcases tY this with⟨z,hz,k,h1,_⟩|h
       ·obtain⟨q,hq,hb,he,_⟩:=hzs z hz;obtain⟨oq,hoq,_,hdq,_⟩:=hA.ok q hq;have hqp:q.1≠p.1:=λe=>by
         have:=(iN.1 hp).2;rw[<-e,hb]at this;cases this
        exact hA.dst p (hsub p hp) q.1 oq hoq hqp (by rw[hdq,<-he,h1])
       ·simp[look]at h
     have hptr':∀{v:Value},∀p∈cO ops j A,∀b,st p.1=some b->(a.put o.dst v).tmps.getD p.2.1 undef= .pointer (some ⟨b,0,none⟩):=λ{v} p hp b hb=>by
      have hd:o.dst≠some p.2.1:=hA.dst p (hsub p hp) j o ho (hne p (hsub p hp));rw[pE λd hd' he=>hd (by rw[hd',he])];exact hptr p (hsub p hp) b hb
     obtain⟨hdst,hst2⟩:=hstp;have put:∀{x:AV} {v:Value} {w':World} {L':List aq},Rel w' (Al F (L'++dL st (cO ops j A))) x v->Ext ((L++dw zs)++dL st (cO ops j A)) w (L'++dL st (cO ops j A)) w'->gM w' (Al F (L'++dL st (cO ops j A))) N (a.put o.dst v) (bm (ir L.length zs s) o.dst (some x)):=by
      intro x v w' L' hv hext;refine⟨by rw[Ez];exact hs1.1,λt y hy=>?_⟩;by_cases htd:o.dst=some t
      ·have htN:=Eh hdst t htd;rw[htd]at hy⊢;simp only[bm,if_true,aE]at hy;subst hy;exact⟨htN,by rw[DP (by rw[hs1.1];exact htN)];exact hv⟩
      ·have hne:∀d,o.dst=some d->t≠d:=λd hd' he=>htd (by rw[hd',he]);rw[nI hne]at hy;obtain⟨h1,h2⟩:=hs1.2 t y hy;exact⟨h1,by rw[pE hne];exact h2.keep hext.keeps⟩
     rcases hst2 with⟨hw,R,hE,h1,h2⟩|⟨hw,h1⟩
     ·rw[bg (DT hs1 hw)];refine .inl (hE (λb=>F b\/b∈ids (dL st (cO ops j A))) w a hs1.1 hdf hH1.front (λt _ y hy=>by rw[oO];exact hs1.2 t y hy) _ _ ?_ ?_)
      ·intro v w' x L' hR hv hH' hext;obtain⟨g1,g2⟩:=bM.back hH1 hH' hext;rw[oO]at hv;exact ih n (cO ops j A) _ _ _ _ L' st hcnt (h1 x L' hR) (hA' x) hW' F w0 L0 _ w' (put hv g2) hptr' g1 (by rw[Ao];exact hdf) (hx1.trans g2)
      ·intro v w' x L' hR hv hH' hext;obtain⟨g1,g2⟩:=bM.back hH1 hH' hext;rw[oO]at hv;have hk:=dF.sub (w:=w') (F:=F) (L:=L'++dL st (cO ops j A)) (L':=L') λb hb=>by rw[cB];exact mE _ hb
       exact⟨.aT x,[],L',hQp x L' (h2 x L' hR),⟨v,rfl,hv.keep hk⟩,⟨⟨hs1.1,λt x hx=>by simp[AE.sl,look]at hx⟩,g1.drop,hdf⟩,(hx1.trans g2).drop⟩
     ·rw[aM (by rw[DT hs1 hw];simp)];exact ih n (cO ops j A) _ _ _ _ (L++dw zs) st hcnt h1 (hA' _) hW' F w0 L0 _ w (put (x:= .v undef) (v:=undef) (by simp only[Rel]) (Ext.refl _ w)) hptr' hH1 (by rw[Ao];exact hdf) hx1
   ·--a fresh box
    subst hpj;obtain⟨o',ho',hg,hd,hlt,hna,hN⟩:=hA.ok p hp;rw[ho]at ho';cases ho';rw[bg (by simp[Region.wanted,hg])];refine .inl (hN (λ_=>none) (L++dL st A) F w a hs.1 hdf hh (λt _ y hy=>by cases hy) _ _ λvs e hv=>?_);obtain⟨hp1,hp2⟩:=Rs (b:=w.heap.size) hp hA.nd hsn;have hperm:((L++dL st A)++[aq.box w.heap.size p.2.2]).Perm (L++dL (iS st p.1 w.heap.size) A):=by
     rw[lX];exact(hp1.symm).append_left _
    have hext:=nK w (.cells vs.toArray e) (L++dL st A) (.box w.heap.size p.2.2) (by simp[aq.ids]);have hkeep:=hext.keeps (F:=F);refine ih n A listed (wl.setIfInBounds p.1 true) pend s L (iS st p.1 w.heap.size) (by omega) h hA ?_ F w0 L0 _ _ ?_ ?_ ?_ (by rw[Ao];exact hdf) ((hx.trans hext).perm hperm)
    ·refine⟨λi hi=>?_,λi hi=>?_,λi hi=>?_,λi hi hall=>?_,λq hq hsq=>?_,hW.h6,hW.h7⟩
     ·have hji:p.1≠i:=λhe=>by subst he;rw[OX]at hi;cases hi
      rw[getD_set_ne true hji]at hi;rcases hW.h1 i hi with h1|⟨q,hq,rfl,h2⟩
      ·exact .inl h1
      ·exact .inr ⟨q,hq,rfl,by simp only[iS,jm hji,if_false];exact h2⟩
     ·by_cases hji:p.1=i
      ·subst hji;exact⟨hW.h7 p hp,λq hq he=>by simp[iS]⟩
      ·rw[getD_set_ne false hji]at hi;obtain⟨h1,h2⟩:=hW.h2 i hi;exact⟨h1,λq hq he=>by simp only[iS,jm hji,if_false];exact h2 q hq he⟩
     ·have hji:p.1≠i:=λhe=>by
       subst he;have:=hW.h6 p hp;rw[hi]at this;cases this
      rw[getD_set_ne true hji];exact hW.h3 i hi
     ·by_cases hji:p.1=i
      ·subst hji;exact HO hju
      ·rw[getD_set_ne false hji];refine hW.h4 i hi λq hq he hsq=>hall q hq he ?_;simp only[iS,jm hji,if_false];exact hsq
     ·have hji:p.1≠q.1:=λhe=>by rw[<-he]at hsq;simp[iS]at hsq
      rw[getD_set_ne true hji];refine hW.h5 q hq ?_;simpa only[iS,jm hji,if_false]using hsq
    ·rw[<-zK hperm];refine⟨by rw[Ez];exact hs.1,λt x hx=>?_⟩;have htd:t≠p.2.1:=λhe=>by rw[he,hA.sl p hp]at hx;cases hx
     obtain⟨h1,h2⟩:=hs.2 t x hx;refine⟨h1,?_⟩;rw[pE λd hd' he=>htd (by rw[he];rw[hd]at hd';cases hd';rfl)];exact h2.keep hkeep
    ·intro q hq b hb;by_cases hqp:q.1=p.1
     ·have:=QE hA.nd hq hp hqp;subst this;simp only[iS,if_true,aE]at hb;subst hb;rw[hd];exact DP (by rw[hs.1];exact hlt)
     ·simp only[iS,hqp,if_false]at hb;have hdq:o.dst≠some q.2.1:=hA.dst q hq p.1 o ho (jm hqp);rw[pE λd hd' he=>hdq (by rw[hd',he])];exact hptr q hq b hb
    ·refine bM.perm hperm ?_;refine hh.push (by simp) (λb hb=>lA w _ b hb) (by simp[aq.ids]) (by simp[aq.ids]) ?_;exact⟨e,vs,l6 w _,hv.keep hkeep⟩
end
def oy (T:cn) (ops:Array Oper) (N:Nat):List Nat->Option b6
 |[]=>some []
 |i::r=>match ops[i]?,oy T ops N r with
  |some ⟨some d,.alloc t,_,_,after,none⟩,some A=>match bc T t with
   |some ⟨_,_,_,z⟩=>match Nat.blt d N&&after.toList.all λe=>!Region.binds .any e with
    |true=>some ((i,(d,z.map .v))::A)
    |false=>none
   |none=>none
  |_,_=>none
def tm (ops:Array Oper):List Nat->List (Nat×Nat)
 |[]=>[]
 |i::r=>match ops[i]? with
  |some o=>match o.dst with
   |some d=>(i,d)::tm ops r
   |none=>tm ops r
  |none=>tm ops r
theorem SH {E:Env} {ops:Array Oper} {N:Nat}:∀{al:List Nat} {A:b6},oy E.T ops N al=some A->(∀p∈A,WA E.toCx N ops p)/\A.map (·.1)=al/\tm ops al=A.map λp=>(p.1,p.2.1)
 |[],A,h=>by simp only[oy,aE]at h;subst h;simp[tm]
 |i::r,A,h=>by
  simp only[oy]at h;split at h
  ·rename_i d t ty pos after A' ho hr;split at h
   ·rename_i td sz by' z ht;split at h
    ·rename_i hB;simp only[aE]at h;subst h;simp only[bS,mD,gf,kL]at hB;obtain⟨g1,g2,g3⟩:=SH hr;refine⟨λp hp=>?_,by simp[g2],by simp[tm,ho,g3]⟩;rcases cq.1 hp with rfl|hp
     ·refine⟨_,ho,rfl,rfl,hB.1,λe he=>?_,λs L=>gA.alloc rfl ht⟩;exact hB.2 e (by simpa using he)
     ·exact g1 p hp
    ·cases h
   ·cases h
  ·cases h
def qd (ops:Array Oper) (pre:List Nat) (tl:List (Nat×TK)) (al:List Nat):Bool:=
 Region.noSelect ops&&Gb ops pre (Array.replicate ops.size false)&&ou ops (kU ops tl) (lE al (lE pre (Array.replicate ops.size false))) [] (tm ops al)&&Nat.beq (pre.length+((kU ops tl).length+al.length)) ops.size&&
  fW al&&(al.all λi=>!pre.contains i&&(List.range ops.size).all λj=>Nat.beq j i||match ops[i]?,ops[j]? with
   |some oi,some oj=>(match oi.dst with
    |some d=>FX oj.dst d
    |none=>true)
   |_,_=>true)
def sM (A:b6) (s:Sl):Sl:=λt=>match(A.map (·.2.1)).contains t with
 |true=>none
 |false=>s t
theorem acv {A:b6} {s:Sl} {t:Nat} {x:AV} (h:sM A s t=some x):s t=some x:=by
 unfold sM at h;split at h
 ·cases h
 ·exact h
theorem oH:∀(l:List Nat) (q:Array Bool) (i:Nat) (d:Bool),(lE l q).getD i d=if i∈l/\i<q.size then true else q.getD i d
 |[],q,i,d=>by simp[lE]
 |j::l,q,i,d=>by
  have ih:=oH l (q.setIfInBounds j true) i d;simp only[lE,OI]at ih⊢;rw[ih];simp only[Array.size_setIfInBounds,cq];by_cases hj:j=i
  ·subst hj;by_cases hlt:j<q.size
   ·simp[hlt]
   ·simp[hlt,tq (Nat.le_of_not_lt hlt)]
  ·have hij:i≠j:=jm hj;rw[getD_set_ne d hj];simp only[hij,false_or]
theorem Pj:∀A:b6,dL (λ_=>none) A=[]/\fS (λ_=>none) A=A.length
 |[]=>⟨rfl,rfl⟩
 |p::A=>by
  obtain⟨h1,h2⟩:=Pj A;simp only[dL,fS,h1,h2,jO,gP];exact⟨trivial,by omega⟩
theorem cm.aeW {E:Env} {N:Nat} {ops:Array Oper} {L:List aq} {Q:AQ} {O:Sg} {id:Nat} (pre:List Nat) (tl:List (Nat×TK)) (al:List Nat) (A:b6) (hm:E.P.follows .mixedOrders=true) (hA:oy E.T ops N al=some A) (hB:qd ops pre tl al=true) (hl:(gT ops pre).length=pre.length)
  (h:sL E.toCx N L ops (λst=>∃O',(∀t x,look O' t=some x->st.1 t=some x)/\jD st.2 λzs=>kC E.toCx N ops (λs L'=>∃O1,(∀t x,look O1 t=some x->s t=some x)/\Q .norm O1 L') (λx L'=>Q (.aT x) [] L') (kU ops tl) A [] (sM A (look (gX L.length zs++O'))) (L++dw zs)) (gT ops pre) (look O,[])):
  cm E.toCx N (.region id ops true) Q O L:=λF w0 L0 a w hs hx=>by
 simp only[qd,bS]at hB;obtain⟨⟨⟨⟨⟨_,hlex⟩,htl⟩,hsz⟩,hnd⟩,hal⟩:=hB;have hsz:=bQ hsz;obtain⟨a1,a2,a3⟩:=SH hA;rw[a3]at htl;have hrep:∀(n:Nat) (i:Nat) (d:Bool),(Array.replicate n false).getD i d=if i<n then false else d:=λn i d=>by
  by_cases hi:i<n<;>simp[hi]
 have hmem:∀p∈A,p.1∈al/\p.1∉pre/\p.1<ops.size:=λp hp=>by
  have h1:p.1∈al:=by rw[<-a2];exact dP.2 ⟨p,hp,rfl⟩
  simp only[gf,bS,kL]at hal;obtain⟨o,ho,_⟩:=a1 p hp;exact⟨h1,by simpa using(hal p.1 h1).1,(gQ.1 ho).1⟩
 have halm:∀i∈al,∃p∈A,p.1=i:=λi hi=>by rw[<-a2]at hi;obtain⟨p,hp,he⟩:=dP.1 hi;exact⟨p,hp,he⟩
 refine wp_mono (Q:=CQ E.G N F w L Q) ?_ (λe a w' ⟨e0,O2,L2,g1,g2,g3,g4⟩=>⟨e0,O2,L2,g1,g2,g3,hx.trans g4⟩);refine wp_region_any hm ?_;have hcut:sL E.toCx N L ops (λst=>Cut E.toCx N ops L (λF w1=>CQ E.G N F w1 L Q) ((kU ops tl).length+al.length) (lE pre (Array.replicate ops.size false)) st) (gT ops pre) (look O,[]):=by
  refine Iw (λst ⟨O',h1,h2⟩=>?_) h;intro F w1 w a zs hd;have hb:=Ei h2 zs hd.eq;have hT:=zO _ _ _ _ [] _ _ (λp hp=>Io hp) (λp hp=>by cases hp) htl hb;obtain⟨e1,e2⟩:=Pj A;have hlen:A.length=al.length:=by rw[<-a2];simp
  have hsl:gM w (Al F ((L++dw zs)++dL (λ_=>none) A)) N a (sM A (look (gX L.length zs++O'))):=by
   rw[e1,jO];refine⟨hd.size,λt x hx=>?_⟩;rcases tY (acv hx)with⟨z,hz,k,rfl,rfl⟩|hx
   ·obtain⟨g1,g2⟩:=hd.nu z hz;exact⟨g1,by simp only[Rel];exact g2⟩
   ·exact hd.sl t x (h1 t x hx)
  refine acu (Q:=Q) (λ_ _ h=>h) (λ_ _ h=>h) _ _ A _ (lE pre (Array.replicate ops.size false)) _ _ _ (λ_=>none) (by rw[e2,hlen]) hT ⟨a1,by rw[a2];exact H6 hnd,λp hp j oj hoj hne=>?_,λp hp=>?_⟩ ?_ F w1 L a w hsl (λp hp b hb=>by cases hb) (by rw[e1,jO];exact hd.hp) hd.df ⟨hd.cls.1.1,hd.cls.2.1,hd.cls.2.2.1,hd.cls.2.2.2.1,λb hb _=>hd.cls.2.2.2.2 b hb,λb hb=>?_,hd.cls.1.2⟩
  ·obtain⟨oi,hoi,_,hdi,_⟩:=a1 p hp;simp only[gf,bS]at hal;have:=(hal p.1 (hmem p hp).1).2 j (Dw.2 (gQ.1 hoj).1);simp only[hoi,hoj,hdi,tz]at this;rcases this with h|h
   ·exact absurd (bQ h) hne
   ·exact PZ h
  ·have:(A.map (·.2.1)).contains p.2.1=true:=by rw[tu];exact dP.2 ⟨p,hp,rfl⟩
   simp only[sM,this]
  ·have hsize:(lE pre (Array.replicate ops.size false)).size=ops.size:=by
    have:∀(l:List Nat) (q:Array Bool),(lE l q).size=q.size:=by
     intro l
     induction l with
     |nil=>intro q;rfl
     |cons j l ih=>intro q;simp only[lE,OI]at ih⊢;rw[ih];simp
    rw[this];simp
   refine⟨λi hi=>?_,λi hi=>?_,λi hi=>?_,λi hi hall=>?_,λp hp _=>?_,λp hp=>?_,λp hp=>?_⟩
   ·by_cases hia:i∈al
    ·exact .inr ((halm i hia).imp λp hp=>⟨hp.1,hp.2,rfl⟩)
    ·left;rw[oH,aM (λh=>hia h.1)];exact hi
   ·refine⟨by rw[oH,hi];simp,λp hp he=>?_⟩;exfalso;rw[oH]at hi;split at hi
    ·rename_i h;exact(hmem p hp).2.1 (by rw[he];exact h.1)
    ·rw[hrep]at hi;split at hi<;>cases hi
   ·rw[oH]at hi;split at hi
    ·cases hi
    ·exact hi
   ·rw[oH]at hi;split at hi
    ·rename_i h;obtain⟨p,hp,he⟩:=halm i h.1;exact absurd rfl (hall p hp he)
    ·exact hi
   ·rw[oH,aM (λh=>(hmem p hp).2.1 h.1),hrep,bg (hmem p hp).2.2]
   ·rw[oH,bg ⟨(hmem p hp).1,by rw[hsize];exact(hmem p hp).2.2⟩]
   ·rw[oH,bg ⟨(hmem p hp).1,by rw[hsize];exact(hmem p hp).2.2⟩]
  ·rw[e1,jO,cB,b7]at hb;rcases hb with hb|hb
   ·exact .inl hb
   ·obtain⟨x,hx,hb⟩:=gB.1 hb;obtain⟨z,hz,rfl⟩:=dP.1 hx;simp only[aq.ids,iZ]at hb;subst hb;exact .inr (hd.new z hz)
 have hany:=Qt _ _ _ (Ri pre _ _ ae1 hlex hl hcut);rw[hsz]at hany;have hc:ji w {w with drawn:=w.drawn+1}:=⟨⟨rfl,.of (HJ _)⟩,rfl,rfl,bX _,λ_ _=>rfl⟩;have hd:nw E.G N F L w {w with drawn:=w.drawn+1} a (look O,[]) []:=
  ⟨hs.sg.1,hs.df,rfl,by simpa[dw]using hs.hp.later hc.2.2.2,λt x hx=>by
   obtain⟨h1,h2⟩:=hs.sg.2 t x hx;refine⟨h1,?_⟩;simp only[dw,lY,jO];exact h2.keep (hc.ext (L:=L)).keeps,by simp,hc,by simp⟩
 exact hany F w _ a [] hd
def agO (Z:aN) (R:DR->Hp->Prop):AR->List aq->Prop:=λr LB=>∃Z' d L,Z.le Z'/\DR.inst Z' d r/\HS Z' L LB/\R d L
def b5 (E:Env) (N:Nat) (o:Oper) (O:TS) (L:Hp) (R:DR->Hp->Prop):Prop:=∀Z s LB,SS Z O s->HS Z L LB->dG E.toCx N o s LB (agO Z R)
section
variable {E:Env} {N K:Nat} {Q:DQ} {O:TS} {L:Hp} {o:Oper} {x:CV} {all rest:List Oper} {R:DR->Hp->Prop}
theorem b5.mono {R':DR->Hp->Prop} (h:b5 E N o O L R) (hr:∀r L',R r L'->R' r L'):b5 E N o O L R':=λZ s LB hs hh=>(h Z s LB hs hh).mono λ_ _ ⟨Z',d,L',h1,h2,h3,h4⟩=>⟨Z',d,L',h1,h2,h3,hr _ _ h4⟩
theorem b5.val (h:bl E N o O L x):b5 E N o O L (λr L'=>r= .ret x/\L'=L):=λZ s LB hs hh=>by
 obtain⟨y,h1,h2⟩:=h Z s LB hs hh;refine(dG.qW h2).mono ?_;rintro r L' ⟨rfl,rfl⟩;exact⟨Z,.ret x,L,.refl Z,⟨y,rfl,h1⟩,hh,rfl,rfl⟩
theorem b5.new {cells:List CV} {d:Nat} (hd:o.dst=some d) (h:∀Z s LB,SS Z O s->HS Z L LB->∃cs,aS Z cells cs/\gA E.toCx N o s LB cs):b5 E N o O L (λr L'=>r= .ret (.own L.n 0)/\L'=L.push (.box cells)):=λZ s LB hs hh=>by
 obtain⟨cs,h1,h2⟩:=h Z s LB hs hh;refine(dG.xy hd h2).mono ?_;rintro r L' ⟨b,rfl,rfl⟩;have hdom:=hh.iX L.n (bX _);have hl:Z.le (Z.gL L.n b):=aN.EW hdom.1;have hbn:(Z.gL L.n b).b L.n=some b:=by simp[aN.gL]
 exact⟨_,.ret (.own L.n 0),L.push (.box cells),hl,⟨_,rfl,by simp only[aK];exact⟨b,_,hbn,rfl⟩⟩,hh.push hl (λ_ _=>rfl) (λi hi=>by simp[aN.gL,hi]) ⟨b,cs,hbn,rfl,h1.mono hl⟩,rfl,rfl⟩
theorem oP {Z:aN} {s:Sl} {p:Operand} (h:p∈o.op.operands.toList) {y:AV} (hy:ev s p=some y):ev (look (ee s (tmpsOf o))) p=some y:=by rw[fV h];exact hy
theorem b5.store {t:TypeId} {p v:Operand} {i off:Nat} {cs cs':List CV} {ti:TI} (ho:o.op= .store t p v) (hp:aY O p=some (.own i off)) (hv:aY O v=some x) (hi:L.e.get i=some (.box cs)) (ht:bc E.T t=some ti)
  (hk:Nat.beq (eC x).length ti.size=true) (h1:nb (eC x)=true) (hl:mK cs off (eC x)=some cs'):b5 E N o O L (λr L'=>r= .ret (.d (.v undef))/\L'=L.set i (.box cs')):=λZ s LB hs hh=>by
 obtain⟨y,h2,h3⟩:=cu hs hp;simp only[aK]at h3;obtain⟨b,t',h3,rfl⟩:=h3;obtain⟨z,h4,h5⟩:=cu hs hv;obtain⟨q,h6,h7⟩:=hh.en i _ hi;obtain⟨b',us,h8,rfl,h9⟩:=h7;rw[h3]at h8;cases h8;have hc:=DX h5;obtain⟨us',h10,h11⟩:=DS hl h9 hc;refine(dG.YZ (Ql ho (oP (Z:=Z) (by simp[ho,Op.operands]) h2) (oP (Z:=Z) (by simp[ho,Op.operands]) h4) h6 ht (by rw[hc.length];exact hk) (Ih h1 hc) h10)).mono ?_;rintro r L' ⟨rfl,rfl⟩;exact⟨Z,.ret (.d (.v undef)),L.set i (.box cs'),.refl Z,⟨_,rfl,rfl⟩,hh.set (.refl Z) (λ_ _=>rfl) (λ_ _=>rfl) (hh.lt hi) ⟨b,us',h3,rfl,h11⟩,rfl,rfl⟩
theorem b5.l9 {t:TypeId} {p v:Operand} {i n m e kk:Nat} {rows:List (List AV)} {r r':List AV} {y:AV} {ti:TI} (j off:Nat) (ho:o.op= .store t p v) (hp:aY O p=some (.oe i n m)) (hv:aY O v=some (.d y)) (hi:L.e.get i=some (.row e kk rows)) (hn:n=rows.length)
  (hm:m=j*kk+off) (hr:rows[j]? =some r) (ht:bc E.T t=some ti) (hk:Nat.beq (cH y).length ti.size=true) (h1:fc (cH y)=true) (hl:fN r off (cH y)=some r'):b5 E N o O L (λr1 L'=>r1= .ret (.d (.v undef))/\L'=L.set i (.row e kk (rows.set j r'))):=λZ s LB hs hh=>by
 obtain⟨z,h2,h3⟩:=cu hs hp;simp only[aK]at h3;obtain⟨a,c,t',h3,rfl⟩:=h3;obtain⟨z,h4,h5⟩:=cu hs hv;simp only[aK]at h5;subst h5;obtain⟨q,h6,h7⟩:=hh.en i _ hi;obtain⟨⟨a',c',h8,rfl⟩,h9⟩:=h7;subst hn;rw[h3]at h8;cases h8;refine(dG.YZ (O1 ho j off (oP (Z:=Z) (by simp[ho,Op.operands]) h2) hm (oP (Z:=Z) (by simp[ho,Op.operands]) h4) h6 hr ht hk h1 hl)).mono ?_;rintro r1 L' ⟨rfl,rfl⟩;exact⟨Z,.ret (.d (.v undef)),L.set i (.row e kk (rows.set j r')),.refl Z,⟨_,rfl,rfl⟩,hh.set (.refl Z) (λ_ _=>rfl) (λ_ _=>rfl) (hh.lt hi) ⟨⟨a,c,by simpa using h3,by simp⟩,by simpa using h9⟩,rfl,rfl⟩
theorem b5.lit {n:Nat} {t:TypeId} {parts:Array (Nat×Operand)} {e k sz by' sz' by'':Nat} {z z':List Value} {td':TD} {cells:List AV} (ho:o.op= .buildSlice t n parts)
  (ht:bc E.T t=some ⟨.slice e k,sz,by',z⟩) (hte:bc E.T e=some ⟨td',sz',by'',z'⟩) (hf:fD k (dS O) (iU n (z'.map .v)) parts.toList=some cells) (hb:Nat.ble (n*k) 16777216=true) (hk:Nat.ble 1 k=true):
  b5 E N o O L (λr L'=>r= .ret (.os L.n n)/\L'=L.push (.row e k (chunk n k cells))):=λZ s LB hs hh=>by
 have hR:pr E.toCx N o (ee s (tmpsOf o)) LB (λx L'=>∃b,x= .os LB.length (some ⟨b,0,none⟩) n n/\L'=LB++[.row (.slice (some ⟨b,0,none⟩) n n) e k (chunk n k cells)]):=λF a w hst=>by
  have hf':fD k (look (ee s (tmpsOf o))) (iU n (z'.map .v)) parts.toList=some cells:=by
   rw[H4 λp hp=>fV (by rw[ho];simp only[Op.operands,dP];exact⟨p,hp,rfl⟩)];have key:∀(l:List (Nat×Operand)) (cs r:List AV),fD k (dS O) cs l=some r->fD k s cs l=some r:=by
    intro l
    induction l with
    |nil=>intro cs r h;exact h
    |cons p l ih=>
     intro cs r h;obtain⟨i,p⟩:=p;simp only[fD]at h⊢;split at h
     ·rename_i y hy;have hy':ev s p=some y:=by
       cases p with
       |tmp u=>exact lL hs hy
       |const v=>exact hy
       |global g=>exact hy
       |func f=>exact hy
      simp only[hy'];split at h
      ·exact ih _ _ h
      ·cases h
     ·cases h
   exact key _ _ _ hf
  obtain⟨us,h1,h2,h3⟩:=IV (d:=o.dst) (ty:=o.type) (pos:=o.pos) (after:=o.after) (gd:=o.guard) ht hte hf' hb hk hst;have hb:=eH hb;have hk:=eH hk;have ho':o=⟨o.dst,.buildSlice t n parts,o.type,o.pos,o.after,o.guard⟩:=by rw[<-ho]
  rw[<-ho']at h1;have hext:=nK w (.cells us e) LB (.row (.slice (some ⟨w.heap.size,0,none⟩) n n) e k (chunk n k cells)) (by simp[aq.ids,Value.ownBlock]);refine⟨.slice (some ⟨w.heap.size,0,none⟩) n n,w.alloc (.cells us e),_,_,⟨w.heap.size,rfl,rfl⟩,h1,by simp only[Rel],?_,hext⟩;refine hst.hp.push (by simp) (λb hb=>lA w _ b hb) (by simp[aq.ids,Value.ownBlock]) (by simp[aq.ids,Value.ownBlock]) ?_;refine⟨us.toList,h2.keep hext.keeps,?_,.inr ⟨w.heap.size,n,us,by rw[iO],mG _,l6 w _,by rw[iO];exact bX _,?_,h3,?_⟩⟩
  ·rw[iO];simpa using h3
  ·have:n<=n*k:=HE n hk;simp only[maxLen];omega
  ·rw[iO,<-h3,<-xL,eV]
 refine(dG.GO hR).mono ?_;rintro r L' ⟨y,rfl,b,rfl,rfl⟩;have hdom:=hh.iX L.n (bX _);have hl:Z.le (Z.bm L.n n (some ⟨b,0,none⟩,n)):=aN.mb λy hy=>by rw[hdom.2]at hy;cases hy
 have hbn:(Z.bm L.n n (some ⟨b,0,none⟩,n)).s L.n n=some (some ⟨b,0,none⟩,n):=by simp[aN.bm]
 refine⟨_,.ret (.os L.n n),L.push (.row e k (chunk n k cells)),hl,⟨_,rfl,by simp only[aK];exact⟨_,_,_,hbn,rfl⟩⟩,hh.push hl (λi hi=>by funext m;simp[aN.bm,hi]) (λ_ _=>rfl) ⟨⟨some ⟨b,0,none⟩,n,by rw[iO];exact hbn,by rw[iO]⟩,λm hm=>?_⟩,rfl,rfl⟩;rw[iO]at hm;have:m≠n:=by omega
 simp only[aN.bm,this,and_false,if_false];exact hdom.2 m
theorem la.YU {Z:aN} {s:Sl} {LB:List aq} (hs:SS Z O s) (hh:HS Z L LB) {k:Nat} {p:Operand} {rows:List (List AV)} (h:la E O L k p rows) (hp:p∈o.op.operands.toList):∀F a w,St E.G N w F a (ee s (tmpsOf o)) LB->jX w (Al F LB) k (a.eval p) rows:=λF a w hst=>by
 have key:∀{x:CV},aY O p=some x->∃y,ev (look (ee s (tmpsOf o))) p=some y/\aK Z x y:=λh=>by
  obtain⟨y,h1,h2⟩:=cu hs h;exact⟨y,oP (Z:=Z) hp h1,h2⟩
 cases h with
 |sl h=>
  obtain⟨y,h1,h2⟩:=key h;simp only[aK]at h2;subst h2;exact jX.sl (bH hst.sg h1)
 |GP h hI=>
  obtain⟨y,h1,h2⟩:=key h;simp only[aK]at h2;subst h2;exact jX.sl (hI _ _ _ (bH hst.sg h1))
 |nil h=>
  obtain⟨y,h1,h2⟩:=key h;simp only[aK]at h2;subst h2;have:=bH hst.sg h1;simp only[Rel]at this;rw[this];exact⟨none,0,0,[],rfl,rfl,by simp[bq],λ_=>rfl,λ_ h=>by cases h⟩
 |row h h3 hn=>
  obtain⟨y,h1,h2⟩:=key h;simp only[aK]at h2;obtain⟨a',c,t',h4,rfl⟩:=h2;obtain⟨q,h5,h6⟩:=hh.en _ _ h3;obtain⟨⟨a2,c2,h7,rfl⟩,_⟩:=h6;subst hn;rw[h4]at h7;cases h7;have:=bH hst.sg h1;simp only[Rel]at this;rw[this];exact jX.row (ju hst.hp h5)
 |fz h h3 hn=>
  obtain⟨y,h1,h2⟩:=key h;simp only[aK]at h2;obtain⟨a',c,t',h4,rfl⟩:=h2;obtain⟨q,h5,h6⟩:=hh.en _ _ h3;obtain⟨a2,c2,h7,rfl⟩:=h6;subst hn;rw[h4]at h7;cases h7;have:=bH hst.sg h1;simp only[Rel]at this;rw[this];exact jX.sl (rA hst.hp h5)
theorem b5.append {i n:Nat} {s' p:Operand} {t:TypeId} {e k sz by' sz' by'':Nat} {z z':List Value} {td':TD} {rows rows2:List (List AV)} (ho:o.op= .call {callee:= .builtin .append,args:= #[s',p],argTypes:= #[t,t]})
  (hb:(rows++rows2).length*by''<=140737488355328) (hs':aY O s'=some (.os i n)) (hi:L.e.get i=some (.row e k rows)) (hn:n=rows.length) (hx:la E O L k p rows2) (ht:bc E.T t=some ⟨.slice e k,sz,by',z⟩) (hte:bc E.T e=some ⟨td',sz',by'',z'⟩) (h1:fU rows2=true)
  (hk:Nat.ble 1 k=true) (hby:Nat.ble 1 by''=true):b5 E N o O L (λr L'=>r= .ret (.os i (rows++rows2).length)/\L'=L.set i (.row e k (rows++rows2))):=λZ s LB hs hh=>by
 obtain⟨y,h2,h3⟩:=cu hs hs';simp only[aK]at h3;obtain⟨a,c,t',h3,rfl⟩:=h3;obtain⟨q,h6,h7⟩:=hh.en i _ hi;obtain⟨⟨a',c',h8,rfl⟩,h9⟩:=h7;subst hn;rw[h3]at h8;cases h8;refine(dG.GO (PO ho ht hte (oP (Z:=Z) (by simp[ho,Op.operands,Call.operands]) h2) h6 (hx.YU hs hh (by simp[ho,Op.operands,Call.operands])) h1 hk hby hb)).mono ?_;rintro r L' ⟨y,rfl,a',c',h0,rfl,rfl⟩;have hl:Z.le (Z.bm i (rows++rows2).length (a',c')):=aN.mb λy hy=>by
  by_cases hz:rows2=[]
  ·subst hz;simp only[jO]at hy;rw[h3]at hy;cases hy;obtain⟨rfl,rfl⟩:=h0 rfl;rfl
  ·have:rows.length<(rows++rows2).length:=by
    have:=OG.2 hz;simp;omega
   rw[h9 _ this]at hy;cases hy
 have hbn:(Z.bm i (rows++rows2).length (a',c')).s i (rows++rows2).length=some (a',c'):=by simp[aN.bm]
 refine⟨_,.ret (.os i (rows++rows2).length),L.set i (.row e k (rows++rows2)),hl,⟨_,rfl,by simp only[aK];exact⟨_,_,_,hbn,rfl⟩⟩,hh.set hl (λj hj=>by funext m;simp[aN.bm,hj]) (λ_ _=>rfl) (hh.lt hi) ⟨⟨a',c',hbn,rfl⟩,λm hm=>?_⟩,rfl,rfl⟩;have hne:m≠(rows++rows2).length:=by omega
 simp only[aN.bm,hne,and_false,if_false];exact h9 m (by simp at hm;omega)
theorem b5.JE {i n:Nat} {s' p:Operand} {t u:TypeId} {e k sz by' sz' by'' szu byu:Nat} {z z' zu:List Value} {td':TD} {rows:List (List AV)} {b:ByteArray} (ho:o.op= .call {callee:= .builtin .append,args:= #[s',p],argTypes:= #[t,u]})
  (hb:(rows++dW b).length*by''<=140737488355328) (hs':aY O s'=some (.os i n)) (hi:L.e.get i=some (.row e k rows)) (hn:n=rows.length) (hx:aY O p=some (.d (.v (.string b)))) (ht:bc E.T t=some ⟨.slice e k,sz,by',z⟩) (hu:bc E.T u=some ⟨.str,szu,byu,zu⟩) (hte:bc E.T e=some ⟨td',sz',by'',z'⟩)
  (hk:Nat.beq k 1=true) (hby:Nat.beq by'' 1=true):b5 E N o O L (λr L'=>r= .ret (.os i (rows++dW b).length)/\L'=L.set i (.row e k (rows++dW b))):=λZ s LB hs hh=>by
 obtain⟨y,h2,h3⟩:=cu hs hs';simp only[aK]at h3;obtain⟨a,c,t',h3,rfl⟩:=h3;obtain⟨y2,g2,g3⟩:=cu hs hx;simp only[aK]at g3;subst g3;obtain⟨q,h6,h7⟩:=hh.en i _ hi;obtain⟨⟨a',c',h8,rfl⟩,h9⟩:=h7;subst hn;rw[h3]at h8;cases h8;refine(dG.GO (Pc ho ht hu hte (oP (Z:=Z) (by simp[ho,Op.operands,Call.operands]) h2) h6 (oP (Z:=Z) (by simp[ho,Op.operands,Call.operands]) g2) hk hby hb)).mono ?_;rintro r L' ⟨y,rfl,a',c',h0,rfl,rfl⟩;have hl:Z.le (Z.bm i (rows++dW b).length (a',c')):=aN.mb λy hy=>by
  by_cases hz:dW b=[]
  ·rw[hz]at hy;simp only[jO]at hy;rw[h3]at hy;cases hy;obtain⟨rfl,rfl⟩:=h0 hz;rfl
  ·have:rows.length<(rows++dW b).length:=by
    have:=OG.2 hz;simp;omega
   rw[h9 _ this]at hy;cases hy
 have hbn:(Z.bm i (rows++dW b).length (a',c')).s i (rows++dW b).length=some (a',c'):=by simp[aN.bm]
 refine⟨_,.ret (.os i (rows++dW b).length),L.set i (.row e k (rows++dW b)),hl,⟨_,rfl,by simp only[aK];exact⟨_,_,_,hbn,rfl⟩⟩,hh.set hl (λj hj=>by funext m;simp[aN.bm,hj]) (λ_ _=>rfl) (hh.lt hi) ⟨⟨a',c',hbn,rfl⟩,λm hm=>?_⟩,rfl,rfl⟩;have hne:m≠(rows++dW b).length:=by omega
 simp only[aN.bm,hne,and_false,if_false];exact h9 m (by simp at hm;omega)
theorem b5.call {f:Operand} {args:List Operand} {g:FuncId} {cs:List CV} {Q':DR->Hp->Prop} {tys:Array TypeId} (ho:o.op= .call {callee:= .value f,args:=args.toArray,argTypes:=tys})
  (h:gm E g cs L Q') (hc:eI O f args=some (g,cs)):b5 E N o O L Q':=λZ s LB hs hh=>by
 obtain⟨ys,h1,h2⟩:=rb hs hc;have h3:=h Z ys LB h2 hh;refine(dG.UT ho h1 h3.1 λF w vs hH hr=>h3.2 F w vs hH hr).mono ?_;rintro r L' ⟨Z',d,L1,g1,g2,g3,g4⟩;exact⟨Z',d,L1,hh.jh g1,g2,g3,g4⟩
theorem b5.pure {f:Operand} {args:List Operand} {g:FuncId} {cs:List CV} {xs' xs:List AV} {ns:List (Nat×Nat)} {ms:List (Nat×bC)} {res:AR} {tys:Array TypeId} (fl:Nat) (ho:o.op= .call {callee:= .value f,args:=args.toArray,argTypes:=tys})
  (h:Pure E.toCx g xs res) (hc:eI O f args=some (g,cs)) (hf:cF L.e fl cs=some (xs',ns,ms)) (hn:eqs ns) (hi:cN xs' xs) (hl:ms=[]\/(match res with| .ret x=>dD x| .aT x=>dD x)=true):
  b5 E N o O L (λr L'=>(match res with| .ret x=>r= .ret (.d x)| .aT x=>r= .aT (.d x))/\L'=L):=λZ s LB hs hh=>by
 obtain⟨ys,h1,h2⟩:=rb hs hc;refine dG.UT ho h1 h.1 λF w vs hH hr=>(Ix fl h hf hn hi hl hh hH h2 hr).mono ?_;rintro e w' ⟨hv,hcls⟩;refine⟨res,LB,?_,hv,hH.later hcls.2.2.2,hcls.ext⟩;cases res with
 |ret x=>exact⟨Z,.ret (.d x),L,.refl Z,⟨x,rfl,rfl⟩,hh,rfl,rfl⟩
 |aT x=>exact⟨Z,.aT (.d x),L,.refl Z,⟨x,rfl,rfl⟩,hh,rfl,rfl⟩
theorem b5.panic {p:Operand} (ho:o.op= .panic p) {t:TypeId} {y:CV} (hp:aY O p=some (.bP t y)):b5 E N o O L (λr L'=>r= .aT (.bP t y)/\L'=L):=λZ s LB hs hh=>by
 obtain⟨z,h1,h2⟩:=cu hs hp;have h3:=h2;simp only[aK]at h3;obtain⟨u,rfl,_⟩:=h3;refine(dG.panic ho h1).mono ?_;rintro r L' ⟨rfl,rfl⟩;exact⟨Z,.aT (.bP t y),L,.refl Z,⟨_,rfl,h2⟩,hh,rfl,rfl⟩
theorem b5.J3 {p:Operand} (ho:o.op= .panic p) {t:TypeId} {y:AV} (hp:aY O p=some (.d (.bP t y))):b5 E N o O L (λr L'=>r= .aT (.d (.bP t y))/\L'=L):=λZ s LB hs hh=>by
 obtain⟨z,h1,h2⟩:=cu hs hp;simp only[aK]at h2;subst h2;refine(dG.panic ho h1).mono ?_;rintro r L' ⟨rfl,rfl⟩;exact⟨Z,.aT (.d (.bP t y)),L,.refl Z,⟨_,rfl,rfl⟩,hh,rfl,rfl⟩
theorem dG.lQ {C:Cx} {s s1:Sl} {LB LB1:List aq} {R:AR->List aq->Prop} (hw:∀F w a,bM C.G w F LB->mg w (Al F LB) N a o s->bM C.G w F LB1/\mg w (Al F LB1) N a o s1/\∀b∈ids LB1,b∈ids LB) (h:dG C N o s1 LB1 R):dG C N o s LB R:=
 λF w a hN hd hH hs K Q k1 k2=>by
  obtain⟨h1,h2,h3⟩:=hw F w a hH hs;have hx:Ext LB w LB1 w:=⟨rfl,rfl,rfl,bX _,λ_ _ _=>rfl,λb hb=> .inl (h3 b hb),.of (bX _)⟩;exact h F w a hN hd h1 h2 K Q (λv w' x L' hR hv hH' hext=>k1 v w' x L' hR hv hH' (hx.trans hext)) (λv w' x L' hR hv hH' hext=>k2 v w' x L' hR hv hH' (hx.trans hext))
theorem b5.jW (t e k:Nat) (ht:O.get t=some (.d (.v (.slice none 0 0)))) (h:b5 E N o (Tr.put 24 O t (some (.os L.n 0))) (L.push (.row e k [])) R):b5 E N o O L R:=λZ s LB hs hh=>by
 obtain⟨y,h1,h2⟩:=hs t _ ht;simp only[aK]at h2;subst h2;have hdom:=hh.iX L.n (bX _);have hl:Z.le (Z.bm L.n 0 (none,0)):=aN.mb λy hy=>by rw[hdom.2]at hy;cases hy
 have hbn:(Z.bm L.n 0 (none,0)).s L.n 0=some (none,0):=by simp[aN.bm]
 have hs1:SS (Z.bm L.n 0 (none,0)) (Tr.put 24 O t (some (.os L.n 0))) (gq s t (.os LB.length none 0 0)):=λu z hz=>by
  rcases Tr.fy 24 O t u _ z hz with⟨rfl,h3⟩|⟨hne,h3⟩
  ·cases h3;exact⟨.os LB.length none 0 0,by simp[gq],by simp only[aK];exact⟨_,_,LB.length,hbn,rfl⟩⟩
  ·obtain⟨q,h4,h5⟩:=hs u z h3;exact⟨q,by simp[gq,hne,h4],h5.mono hl⟩
 have hh1:HS (Z.bm L.n 0 (none,0)) (L.push (.row e k [])) (LB++[.row (.slice none 0 0) e k []]):=by
  refine hh.push hl (λi hi=>by funext m;simp[aN.bm,hi]) (λ_ _=>rfl) ⟨⟨none,0,by simpa using hbn,by simp⟩,λm hm=>?_⟩;have:m≠0:=by simp at hm;omega
  simp only[aN.bm,this,and_false,if_false];exact hdom.2 m
 refine dG.lQ (λF w a hH hopd=>?_) ((h _ _ _ hs1 hh1).mono ?_)
 ·have hkeep:dF w (Al F LB) w (Al F (LB++[aq.row (.slice none 0 0) e k []])):=⟨bX _,λb _ ha=>⟨by simpa[Al,cB,cJ,aq.ids,Value.ownBlock,ids]using ha,rfl⟩⟩;refine⟨hH.push (bX _) (λ_ _=>rfl) (by simp[aq.ids,Value.ownBlock]) (by simp[aq.ids,Value.ownBlock]) ⟨[],by simp[bq],by simp,.inl ⟨rfl,rfl⟩⟩,λu hu q hq=>?_,λb hb=>by simpa[cB,cJ,aq.ids,Value.ownBlock,ids]using hb⟩;unfold gq at hq;split at hq
  ·rename_i hut;subst hut;simp only[aE]at hq;subst hq;obtain⟨g1,g2⟩:=hopd u hu _ h1;simp only[Rel]at g2⊢;exact⟨g1,g2⟩
  ·obtain⟨g1,g2⟩:=hopd u hu q hq;exact⟨g1,g2.keep hkeep⟩
 ·rintro r L' ⟨Z',d,L1,g1,g2,g3,g4⟩;exact⟨Z',d,L1,hl.trans g1,g2,g3,g4⟩
theorem b5.cT {t:Nat} {z:AV} {ns:List (Nat×Nat)} {ms:List (Nat×bC)} (f:Nat) (hx:O.get t=some x) (hf:cF L.e f [x]=some ([z],ns,ms)) (hn:eqs ns) (ht:t∈tmpsOf o) (h:b5 E N o (Tr.put 24 O t (some (.d z))) (jz ms L) R):b5 E N o O L R:=λZ s LB hs hh=>by
 obtain⟨y,h1,h2⟩:=hs t x hx;have hs1:SS Z (Tr.put 24 O t (some (.d z))) (gq s t z):=λu q hq=>by
  rcases Tr.fy 24 O t u _ q hq with⟨rfl,h3⟩|⟨hne,h3⟩
  ·cases h3;exact⟨z,by simp[gq],rfl⟩
  ·obtain⟨q',h4,h5⟩:=hs u q h3;exact⟨q',by simp[gq,hne,h4],h5⟩
 by_cases hcan:∃F w v,bM E.G w F LB/\Rel w (Al F LB) y v
 ·obtain⟨F0,w0,v0,hH0,hv0⟩:=hcan;obtain⟨_,h40⟩:=jU hh hH0 (ms.map (·.1)) f hf hn (λp hp=>dP.2 ⟨p,hp,rfl⟩) (aS.one h2) (aL.one hv0);have hHS:HS Z (jz ms L) (fF Z ms LB):=Ed (w:=w0) (F:=gy F0 LB (ms.map (·.1))) hh λp hp=>⟨(h40 p hp).lt hh,h40 p hp⟩;refine dG.lQ (λF w a hH hopd=>?_) (h Z _ _ hs1 hHS);have hv:=(hopd t ht y h1).2;obtain⟨h3,h4⟩:=jU hh hH (ms.map (·.1)) f hf hn (λp hp=>dP.2 ⟨p,hp,rfl⟩) (aS.one h2) (aL.one hv);have hsub:∀b∈ids (fF Z ms LB),b∈ids LB:=λb hb=>(yG ms LB).subset hb;refine⟨Ev hH h4,λu hu q hq=>?_,hsub⟩;unfold gq at hq;split at hq
  ·rename_i hut;subst hut;simp only[aE]at hq;subst hq;exact⟨(hopd u hu y h1).1,h3.FV.keep tT⟩
  ·obtain⟨g1,g2⟩:=hopd u hu q hq;exact⟨g1,g2.keep (dF.sub hsub)⟩
 ·intro F w a hN hd hH hopd;exact absurd ⟨F,w,_,hH,(hopd t ht y h1).2⟩ hcan
mutual
theorem aK.same {Z:aN} {w:World} {A:Nat->Prop}:∀{x:CV} {y y':AV} {v:Value},aK Z x y->aK Z x y'->Rel w A y v->Rel w A y' v
 | .d x,_,_,_,h,g,hr=>by simp only[aK]at h g;subst h;subst g;exact hr
 | .agg xs,_,_,_,h,g,hr=>by
  simp only[aK]at h g;obtain⟨ys,rfl,h⟩:=h;obtain⟨zs,rfl,g⟩:=g;simp only[Rel]at hr⊢;obtain⟨vs,rfl,hr⟩:=hr;exact⟨vs,rfl,aS.same h g hr⟩
 | .bY xs,_,_,_,h,g,hr=>by
  simp only[aK]at h g;obtain⟨ys,rfl,h⟩:=h;obtain⟨zs,rfl,g⟩:=g;simp only[Rel]at hr⊢;obtain⟨vs,rfl,hr⟩:=hr;exact⟨vs,rfl,aS.same h g hr⟩
 | .own t o,_,_,_,h,g,hr=>by
  simp only[aK]at h g;obtain⟨b,t1,h,rfl⟩:=h;obtain⟨b',t2,g,rfl⟩:=g;rw[h]at g;cases g;simp only[Rel]at hr⊢;exact hr
 | .os t n,_,_,_,h,g,hr=>by
  simp only[aK]at h g;obtain⟨a,c,t1,h,rfl⟩:=h;obtain⟨a',c',t2,g,rfl⟩:=g;rw[h]at g;cases g;simp only[Rel]at hr⊢;exact hr
 | .oe t n o,_,_,_,h,g,hr=>by
  simp only[aK]at h g;obtain⟨a,c,t1,h,rfl⟩:=h;obtain⟨a',c',t2,g,rfl⟩:=g;rw[h]at g;cases g;simp only[Rel]at hr⊢;exact hr
 | .om t,_,_,_,h,g,hr=>by
  simp only[aK]at h g;obtain⟨b,t1,h,rfl⟩:=h;obtain⟨b',t2,g,rfl⟩:=g;rw[h]at g;cases g;simp only[Rel]at hr⊢;exact hr
 | .fn f fs cs,_,_,_,h,g,hr=>by
  simp only[aK]at h g;obtain⟨us,vs,rfl,h1,h2⟩:=h;obtain⟨us',vs',rfl,g1,g2⟩:=g;simp only[Rel]at hr⊢;obtain⟨ps,qs,e,hr1,hr2⟩:=hr;exact⟨ps,qs,e,aS.same h1 g1 hr1,aS.same h2 g2 hr2⟩
 | .bP t x,_,_,_,h,g,hr=>by
  simp only[aK]at h g;obtain⟨u,rfl,h⟩:=h;obtain⟨u',rfl,g⟩:=g;simp only[Rel]at hr⊢;obtain⟨q,e,hr⟩:=hr;exact⟨q,e,aK.same h g hr⟩
theorem aS.same {Z:aN} {w:World} {A:Nat->Prop}:∀{x:List CV} {y y':List AV} {v:List Value},aS Z x y->aS Z x y'->aL w A y v->aL w A y' v
 |[],_,_,_,h,g,hr=>by simp only[aS]at h g;subst h;subst g;exact hr
 |_::_,_,_,_,h,g,hr=>by
  simp only[aS]at h g;obtain⟨y,r,rfl,h1,h2⟩:=h;obtain⟨y',r',rfl,g1,g2⟩:=g;simp only[aL]at hr⊢;obtain⟨v,q,e,hr1,hr2⟩:=hr;exact⟨v,q,e,aK.same h1 g1 hr1,aS.same h2 g2 hr2⟩
end
theorem ck.same {Z:aN} {C:Cx} {s:Sl} {LB:List aq} {y y':AV} (h:aK Z x y) (g:aK Z x y') (hp:ck C N o s LB y):ck C N o s LB y':=λF w a h1 h2 h3 h4 K Q k=>hp F w a h1 h2 h3 h4 K Q λv w' hv hc=>k v w' (aK.same h g hv) hc
