/- What the orders of a tail say of worlds; the rule for regions whose order is open. -/
import Derived.Test.YtnocmolegijmkaaGreatKB12
import Derived.Test.YtnocmolegijmkaaGreatKD3
set_option linter.all false
noncomputable section
namespace Go.Bw
open Go
def KR (C:Cx) (N:Nat) (ops:Array Oper) (p:Nat×(Nat×List AV)):Prop:=∃o,ops[p.1]? =some o/\o.guard=none/\o.dst=some p.2.1/\p.2.1<N/\(∀e∈o.after,Region.binds .any e=false)/\∀s L,eR C N o s L p.2.2
def cJ (st:Nat->Option Nat):bp->List aj
 |[]=>[]
 |p::A=>(match st p.1 with
  |some b=>[.box b p.2.2]
  |none=>[])++cJ st A
def er (st:Nat->Option Nat):bp->Nat
 |[]=>0
 |p::A=>(match st p.1 with
  |some _=>0
  |none=>1)+er st A
def fL (st:Nat->Option Nat) (i b:Nat):Nat->Option Nat:=λk=>if k=i then some b else st k
def k5 (st:Nat->Option Nat) (A:bp):List ((Nat×List AV)×Nat):=A.map λp=>(p.2,(st p.1).getD 0)
section
variable {C:Cx} {N:Nat} {ops:Array Oper} {st:Nat->Option Nat}
theorem FV (j:Nat):∀A:bp,(cJ st A).Perm (cJ st (bQ ops j A)++cJ st (b4 ops j A))
 |[]=>List.Perm.refl _
 |p::A=>by
  have ih:=FV j A;simp only[bQ,b4,MX]at ih⊢;cases hb:dP ops p.1 j with
  |true=>
   simp only[pY,if_true,cJ,iN,if_false,jX];exact ih.append_left _
  |false=>
   simp only[vx,if_true,cJ,iN,if_false];refine(ih.append_left _).trans ?_;rw[<-jX,<-jX];exact List.perm_append_comm.append_right _
theorem G3 (j:Nat):∀A:bp,er st A=er st (bQ ops j A)+er st (b4 ops j A)
 |[]=>rfl
 |p::A=>by
  have ih:=G3 j A;simp only[bQ,b4,MX]at ih⊢;cases hb:dP ops p.1 j with
  |true=>simp only[pY,if_true,er,iN,if_false];omega
  |false=>simp only[vx,if_true,er,iN,if_false];omega
theorem HI:∀{A:bp},(∀p∈A,st p.1≠none)->er st A=0
 |[],_=>rfl
 |p::A,h=>by
  simp only[er];rw[HI (A:=A) λq hq=>h q (by simp[hq])];have:=h p (by simp);cases hs:st p.1 with
  |none=>exact absurd hs this
  |some b=>rfl
theorem Iq:∀{A:bp} {p:Nat×(Nat×List AV)},p∈A->st p.1=none->0<er st A
 |q::A,p,hp,hs=>by
  simp only[er];rcases cu.1 hp with rfl|hp
  ·rw[hs];simp only;omega
  ·have:=Iq hp hs;omega
theorem HJ:∀{A:bp},(∀p∈A,st p.1≠none)->cA (k5 st A)=cJ st A
 |[],_=>rfl
 |p::A,h=>by
  have ih:=HJ (A:=A) λq hq=>h q (by simp[hq]);have:=h p (by simp);cases hs:st p.1 with
  |none=>exact absurd hs this
  |some b=>
   simp only[cA,k5]at ih;simp only[cJ,hs,cA,k5,dA,MY,List.singleton_append,ih]
theorem PI (A:bp):(k5 st A).map (·.1)=lb A:=by simp[k5,lb]
theorem G4 {i b:Nat}:∀{A:bp},(∀p∈A,p.1≠i)->cJ (fL st i b) A=cJ st A/\er (fL st i b) A=er st A
 |[],_=>⟨rfl,rfl⟩
 |p::A,h=>by
  obtain⟨h1,h2⟩:=G4 (b:=b) (A:=A) λq hq=>h q (by simp[hq]);have hne:=h p (by simp);simp only[cJ,er,h1,h2,fL,hne,if_false,and_self]
theorem HK {b:Nat}:∀{A:bp} {p:Nat×(Nat×List AV)},p∈A->(A.map (·.1)).Nodup->st p.1=none->(cJ (fL st p.1 b) A).Perm (cJ st A++[.box b p.2.2])/\er (fL st p.1 b) A+1=er st A
 |q::A,p,hp,hnd,hs=>by
  simp only[dA,M6,dk,not_exists,not_and]at hnd;rcases cu.1 hp with rfl|hp
  ·obtain⟨h1,h2⟩:=G4 (st:=st) (b:=b) (A:=A) (i:=p.1) λq hq he=>hnd.1 q hq he;simp only[cJ,er,h1,h2,hs];refine⟨?_,by simp[fL];omega⟩;simp only[fL,if_true,vz];exact zW
  ·have hne:q.1≠p.1:=λhe=>hnd.1 p hp he.symm;obtain⟨h1,h2⟩:=HK (b:=b) hp hnd.2 hs;simp only[cJ,er];have e:fL st p.1 b q.1=st q.1:=by simp[fL,hne]
   rw[e];refine⟨?_,by omega⟩;rw[jX];exact h1.append_left _
theorem bh.back {G:Gl} {w w':World} {F:Nat->Prop} {Ls Ls' Lr:List aj} (hH1:bh G w F (Ls++Lr)) (hh:bh G w' (λb=>F b\/b∈ids Lr) Ls') (hext:Ext Ls w Ls' w'):bh G w' F (Ls'++Lr)/\Ext (Ls++Lr) w (Ls'++Lr) w':=by
 have hlt:=hH1.lt;have hnd:=hH1.nodup;rw[b5,me]at hnd;have hA:Al (λb=>F b\/b∈ids Lr) Ls'=Al F (Ls'++Lr):=ml;have hmem:∀b,b∈ids (Ls++Lr)↔b∈ids Ls\/b∈ids Lr:=λb=>by rw[b5,cD]
 have hnew:∀b∈ids Ls',b∈ids Ls\/w.heap.size<=b:=hext.new;have hr:∀b∈ids Lr,b<w.heap.size/\b∉ids Ls:=λb hb=>⟨hlt b (by simp[b5,hb]),λhm=>hnd.2.2 b hm b hb rfl⟩;have hE:Ext (Ls++Lr) w (Ls'++Lr) w':=by
  refine⟨hext.os,hext.tape,hext.output,hext.size,λb hb hn=>hext.block b hb λhm=>hn ((hmem b).2 (.inl hm)),λb hb=>?_,hext.drawn⟩;rw[b5,cD]at hb;rcases hb with hb|hb
  ·exact(hnew b hb).imp (λhm=>(hmem b).2 (.inl hm)) id
  ·exact .inl ((hmem b).2 (.inr hb))
 have hk:cR w (Al F (Ls++Lr)) w' (Al F (Ls'++Lr)):=hE.keeps;refine⟨⟨λx hx=>?_,?_,λb hb=>?_,λb hb=>hh.bound b (.inl hb),hH1.b0.aX hk⟩,hE⟩
 ·rcases cD.1 hx with hx|hx
  ·rw[<-hA];exact hh.ec x hx
  ·have hx0:=hH1.ec x (by simp[hx]);refine hx0.aX hk λb hb=>?_;have hbm:b∈ids Lr:=eU.2 ⟨x,hx,hb⟩;exact hext.block b (hr b hbm).1 (hr b hbm).2
 ·rw[b5,me];refine⟨hh.nodup,hnd.2.1,λa ha b hb hab=>?_⟩;subst hab;rcases hnew a ha with h1|h1
  ·exact(hr a hb).2 h1
  ·have:=(hr a hb).1;omega
 ·rw[b5,cD]at hb;rcases hb with hb|hb
  ·exactλhF=>hh.free b hb (.inl hF)
  ·exact hH1.free b ((hmem b).2 (.inr hb))
theorem bh.drop {G:Gl} {w:World} {F:Nat->Prop} {L W:List aj} (h:bh G w F (L++W)):bh G w F L:=by
 have hsub:∀b∈ids L,b∈ids (L++W):=λb hb=>by rw[b5];exact oh _ hb
 have hk:=cR.sub (w:=w) (F:=F) hsub;have hnd:=h.nodup;rw[b5,me]at hnd;exact⟨λx hx=>(h.ec x (by simp[hx])).aX hk (λ_ _=>rfl),hnd.1,λb hb=>h.free b (hsub b hb),h.bound,h.b0.aX hk⟩
theorem Ext.perm {L L' L'':List aj} {w w':World} (h:Ext L w L' w') (hp:L'.Perm L''):Ext L w L'' w':=⟨h.os,h.tape,h.output,h.size,h.block,λb hb=>h.new b ((wC hp).mem_iff.2 hb),h.drawn⟩
theorem Ext.drop {L L' W:List aj} {w w':World} (h:Ext L w (L'++W) w'):Ext L w L' w':=⟨h.os,h.tape,h.output,h.size,h.block,λb hb=>h.new b (by rw[b5];exact oh _ hb),h.drawn⟩
structure Kx (C:Cx) (N:Nat) (ops:Array Oper) (A:bp) (s:Sl):Prop where
 ok:∀p∈A,KR C N ops p
 nd:(A.map (·.1)).Nodup
 dst:∀p∈A,∀j oj,ops[j]? =some oj->j≠p.1->oj.dst≠some p.2.1
 sl:∀p∈A,s p.2.1=none
structure KS (A:bp) (listed wl:Array Bool) (st:Nat->Option Nat):Prop where
 h1:∀i,wl.getD i true=false->listed.getD i true=false\/∃p∈A,p.1=i/\st i=none
 h2:∀i,wl.getD i false=true->listed.getD i false=true/\∀p∈A,p.1=i->st i≠none
 h3:∀i,listed.getD i true=false->wl.getD i true=false
 h4:∀i,listed.getD i false=true->(∀p∈A,p.1=i->st i≠none)->wl.getD i false=true
 h5:∀p∈A,st p.1=none->wl.getD p.1 true=false
 h6:∀p∈A,listed.getD p.1 true=true
 h7:∀p∈A,listed.getD p.1 false=true
theorem FO (l:Array Bool) (i:Nat):(l.setIfInBounds i true).getD i true=true:=by
 rcases lr i l.size with h|h
 ·simp[h]
 ·simp[sv,h]
theorem Aj {l:Array Bool} {i:Nat} (h:l.getD i true=false):(l.setIfInBounds i true).getD i false=true:=by
 rcases lr i l.size with h'|h'
 ·simp[h']
 ·simp[sv,h']at h
theorem G5:∀{A:bp} {p q:Nat×(Nat×List AV)},(A.map (·.1)).Nodup->p∈A->q∈A->p.1=q.1->p=q
 |x::A,p,q,hnd,hp,hq,he=>by
  simp only[dA,M6,dk,not_exists,not_and]at hnd;rcases cu.1 hp with h1|h1<;>rcases cu.1 hq with h2|h2
  ·rw[h1,h2]
  ·exact absurd (by rw[<-he,h1]) (hnd.1 q h2)
  ·exact absurd (by rw[he,h2]) (hnd.1 p h1)
  ·exact G5 hnd.2 h1 h2 he
theorem NC {i j:Nat} {o:Oper} (ho:ops[j]? =some o) (h:dP ops i j=true):∃e∈o.after,Region.binds .any e=true/\e.on=i:=by
 unfold dP at h;rw[ho]at h;simp only[vD,bj,beq_iff_eq]at h;obtain⟨q,hq,h1,h2⟩:=h;exact⟨q,by simpa using hq,h1,h2⟩
variable {Qn:Sl->List aj->Prop} {Qp:AV->List aj->Prop} {Q:AQ}
theorem OX (hQn:∀s L,Qn s L->∃O',(∀t x,look O' t=some x->s t=some x)/\Q .norm O' L) (hQp:∀x L,Qp x L->Q (.aJ x) [] L):
  ∀(m n:Nat) (A:bp) (listed wl:Array Bool) (pend:fq) (s:Sl) (L:List aj) (st:Nat->Option Nat),m=n+er st A->gh C N ops Qn Qp n A listed pend s L->Kx C N ops A s->KS A listed wl st->
   ∀F w0 η0 a w,eZ w (Al F (L++cJ st A)) N a s->(∀p∈A,∀b,st p.1=some b->a.tmps.getD p.2.1 undef= .pointer (some ⟨b,0,none⟩))->bh C.G w F (L++cJ st A)->a.defers=[]->Ext η0 w0 (L++cJ st A) w->
    wpAny C.P .any ops (CQ C.G N F w0 η0 Q) m wl a w:=by
 intro m
 induction m with
 |zero=>
  intro n A listed wl pend s L st hm h hA hW F w0 η0 a w hs hptr hh hdf hx;have hn:n=0:=by omega
  subst hn;have hall:∀p∈A,st p.1≠none:=λp hp hs=>by have:=Iq hp hs;omega
  refine⟨?_,?_⟩
  ·refine X9.2 λj hj=>?_;obtain⟨hju,o,ho,hd⟩:=mem_ready.1 hj;rcases hW.h1 j hju with h1|⟨p,hp,rfl,h2⟩
   ·have:j∈Region.ready .any ops listed:=mem_ready.2 ⟨h1,o,ho,λe he hb=>(hW.h2 _ (hd e he hb)).1⟩;rw[h.2.1]at this;cases this
   ·exact hall p hp h2
  ·obtain⟨O',h1,h2⟩:=hQn s L h.2.2;refine CQ.intro .norm rfl h2 ⟨?_,hh.drop,hdf⟩ hx.drop;have hk:=cR.sub (w:=w) (F:=F) (L:=L++cJ st A) (L':=L) λb hb=>by rw[b5];exact oh _ hb
   exact⟨hs.1,λt x hx=>⟨(hs.2 t x (h1 t x hx)).1,(hs.2 t x (h1 t x hx)).2.aX hk⟩⟩
 |succ m ih=>
  intro n A listed wl pend s L st hm h hA hW F w0 η0 a w hs hptr hh hdf hx;refine⟨λh0=>?_,λj hj=>?_⟩
  ·have hall:∀p∈A,st p.1≠none:=λp hp hsn=>by
    obtain⟨o,ho,_,_,_,hna,_⟩:=hA.ok p hp;have:p.1∈Region.ready .any ops wl:=mem_ready.2 ⟨hW.h5 p hp hsn,o,ho,λe he hb=>by rw[hna e he]at hb;cases hb⟩;rw[h0]at this;cases this
   have hr0:Region.ready .any ops listed=[]:=by
    refine X9.2 λj hj=>?_;obtain⟨hju,o,ho,hd⟩:=mem_ready.1 hj;have:j∈Region.ready .any ops wl:=mem_ready.2 ⟨hW.h3 j hju,o,ho,λe he hb=>hW.h4 _ (hd e he hb) λp hp he'=>by rw[<-he'];exact hall p hp⟩;rw[h0]at this;cases this
   have hq:Qn s L:=by
    cases n with
    |zero=>exact h.2.2
    |succ n=>exact h.2.1 hr0
   obtain⟨O',h1,h2⟩:=hQn s L hq;refine CQ.intro .norm rfl h2 ⟨?_,hh.drop,hdf⟩ hx.drop;have hk:=cR.sub (w:=w) (F:=F) (L:=L++cJ st A) (L':=L) λb hb=>by rw[b5];exact oh _ hb
   exact⟨hs.1,λt x hx=>⟨(hs.2 t x (h1 t x hx)).1,(hs.2 t x (h1 t x hx)).2.aX hk⟩⟩
  ·obtain⟨hju,o,ho,hdep⟩:=mem_ready.1 hj;unfold wpOp;simp only[ho];rcases hW.h1 j hju with hjl|⟨p,hp,hpj,hsn⟩
   ·--an operation of the tail
    have hjr:j∈Region.ready .any ops listed:=mem_ready.2 ⟨hjl,o,ho,λe he hb=>(hW.h2 _ (hdep e he hb)).1⟩;cases n with
    |zero=>rw[h.2.1]at hjr;cases hjr
    |succ n=>
     obtain⟨o',ho',hst⟩:=h.2.2 j hjr;rw[ho]at ho';cases ho';have hex:∀p∈bQ ops j A,st p.1≠none:=λp hp=>by
      simp only[bQ,ib]at hp;obtain⟨e,he,hb,heq⟩:=NC ho hp.2;exact(hW.h2 p.1 (by rw[<-heq];exact hdep e he hb)).2 p hp.1 rfl
     have hstp:=v8 hst (k5 st (bQ ops j A)) (PI _);have hents:cA (k5 st (bQ ops j A))=cJ st (bQ ops j A):=HJ hex;have hperm:(L++cJ st A).Perm ((L++cA (k5 st (bQ ops j A)))++cJ st (b4 ops j A)):=by
      rw[hents,jX];exact(FV j A).append_left _
     have hH1:=hh.perm hperm;have hx1:=hx.perm hperm;have hzs:∀z∈k5 st (bQ ops j A),∃p∈A,dP ops p.1 j=true/\z.1=p.2/\st p.1=some z.2:=λz hz=>by
      simp only[k5,dk]at hz;obtain⟨p,hp,rfl⟩:=hz;have:=hex p hp;simp only[bQ,ib]at hp;refine⟨p,hp.1,hp.2,rfl,?_⟩;cases hs:st p.1 with
      |none=>exact absurd hs this
      |some b=>rfl
     generalize k5 st (bQ ops j A)=zs at hstp hperm hH1 hx1 hzs hents;have hcnt:m=n+er st (b4 ops j A):=by
      have h1:=G3 (ops:=ops) (st:=st) j A;rw[HI hex]at h1;omega
     have hs1:eZ w (Al F ((L++cA zs)++cJ st (b4 ops j A))) N a (fw L.length zs s):=by
      rw[<-sZ hperm];refine⟨hs.1,λt x ht=>?_⟩;simp only[fw]at ht;split at ht
      ·rename_i y hl;cases ht;have:look (fp L.length zs++[]) t=some x:=by simpa using hl
       rcases ql this with⟨z,hz,k,rfl,rfl⟩|h
       ·obtain⟨p,hp,_,he,hsp⟩:=hzs z hz;obtain⟨_,_,_,_,hlt,_⟩:=hA.ok p hp;rw[he];exact⟨hlt,by simp only[Rel];exact hptr p hp _ hsp⟩
       ·simp[look]at h
      ·exact hs.2 t x ht
     have hne:∀p∈A,j≠p.1:=λp hp he=>by
      have:=hW.h6 p hp;rw[<-he,hjl]at this;cases this
     have hsub:∀p∈b4 ops j A,p∈A:=λp hp=>(ib.1 hp).1;have hW':KS (b4 ops j A) (listed.setIfInBounds j true) (wl.setIfInBounds j true) st:=by
      have hjne:∀{i:Nat} {l:Array Bool},(l.setIfInBounds j true).getD i true=false->j≠i:=λhi he=>by subst he;rw[FO]at hi;cases hi
      refine⟨λi hi=>?_,λi hi=>?_,λi hi=>?_,λi hi hall=>?_,λp hp hsn=>?_,λp hp=>?_,λp hp=>?_⟩
      ·have hji:=hjne hi;rw[getD_set_ne true hji]at hi⊢;rcases hW.h1 i hi with h1|⟨p,hp,rfl,h2⟩
       ·exact .inl h1
       ·refine .inr ⟨p,?_,rfl,h2⟩;simp only[b4,ib,lu];refine⟨hp,?_⟩;cases hb:dP ops p.1 j with
        |false=>rfl
        |true=>exact absurd h2 (hex p (by simp only[bQ,ib];exact⟨hp,hb⟩))
      ·by_cases hji:j=i
       ·subst hji;exact⟨Aj hjl,λp hp he=>absurd he.symm (hne p (hsub p hp))⟩
       ·rw[getD_set_ne false hji]at hi⊢;obtain⟨h1,h2⟩:=hW.h2 i hi;exact⟨h1,λp hp he=>h2 p (hsub p hp) he⟩
      ·have hji:=hjne hi;rw[getD_set_ne true hji]at hi⊢;exact hW.h3 i hi
      ·by_cases hji:j=i
       ·subst hji;exact Aj hju
       ·rw[getD_set_ne false hji]at hi⊢;refine hW.h4 i hi λp hp he hsn=>?_;cases hb:dP ops p.1 j with
        |false=>exact hall p (by simp only[b4,ib,lu];exact⟨hp,hb⟩) he hsn
        |true=>exact hex p (by simp only[bQ,ib];exact⟨hp,hb⟩) (by rw[he];exact hsn)
      ·rw[getD_set_ne true (hne p (hsub p hp))];exact hW.h5 p (hsub p hp) hsn
      ·rw[getD_set_ne true (hne p (hsub p hp))];exact hW.h6 p (hsub p hp)
      ·rw[getD_set_ne false (hne p (hsub p hp))];exact hW.h7 p (hsub p hp)
     have hA':∀x:AV,Kx C N ops (b4 ops j A) (aQ (fw L.length zs s) o.dst (some x)):=λx=>by
      refine⟨λp hp=>hA.ok p (hsub p hp),(List.filter_sublist.map _).nodup hA.nd,λp hp=>hA.dst p (hsub p hp),λp hp=>?_⟩;have hd:o.dst≠some p.2.1:=hA.dst p (hsub p hp) j o ho (hne p (hsub p hp));rw[lB λd hd' he=>hd (by rw[hd',he])];simp only[fw];cases hl:look (fp L.length zs) p.2.1 with
      |none=>exact hA.sl p (hsub p hp)
      |some y=>
       exfalso;have:look (fp L.length zs++[]) p.2.1=some y:=by simpa using hl
       rcases ql this with⟨z,hz,k,h1,_⟩|h
       ·obtain⟨q,hq,hb,he,_⟩:=hzs z hz;obtain⟨oq,hoq,_,hdq,_⟩:=hA.ok q hq;have hqp:q.1≠p.1:=λe=>by
         have:=(ib.1 hp).2;rw[<-e,hb]at this;cases this
        exact hA.dst p (hsub p hp) q.1 oq hoq hqp (by rw[hdq,<-he,h1])
       ·simp[look]at h
     have hptr':∀{v:Value},∀p∈b4 ops j A,∀b,st p.1=some b->(a.put o.dst v).tmps.getD p.2.1 undef= .pointer (some ⟨b,0,none⟩):=λ{v} p hp b hb=>by
      have hd:o.dst≠some p.2.1:=hA.dst p (hsub p hp) j o ho (hne p (hsub p hp));rw[mT λd hd' he=>hd (by rw[hd',he])];exact hptr p (hsub p hp) b hb
     obtain⟨hdst,hst2⟩:=hstp;have put:∀{x:AV} {v:Value} {w':World} {L':List aj},Rel w' (Al F (L'++cJ st (b4 ops j A))) x v->Ext ((L++cA zs)++cJ st (b4 ops j A)) w (L'++cJ st (b4 ops j A)) w'->eZ w' (Al F (L'++cJ st (b4 ops j A))) N (a.put o.dst v) (aQ (fw L.length zs s) o.dst (some x)):=by
      intro x v w' L' hv hext;refine⟨by rw[wD];exact hs1.1,λt y hy=>?_⟩;by_cases htd:o.dst=some t
      ·have htN:=v7 hdst t htd;rw[htd]at hy⊢;simp only[aQ,if_true,ax]at hy;subst hy;exact⟨htN,by rw[vF (by rw[hs1.1];exact htN)];exact hv⟩
      ·have hne:∀d,o.dst=some d->t≠d:=λd hd' he=>htd (by rw[hd',he]);rw[lB hne]at hy;obtain⟨h1,h2⟩:=hs1.2 t y hy;exact⟨h1,by rw[mT hne];exact h2.aX hext.keeps⟩
     rcases hst2 with⟨hw,R,hE,h1,h2⟩|⟨hw,h1⟩
     ·rw[ck (vH hs1 hw)];refine .inl (hE (λb=>F b\/b∈ids (cJ st (b4 ops j A))) w a hs1.1 hdf hH1.front (λt _ y hy=>by rw[ml];exact hs1.2 t y hy) _ _ ?_ ?_)
      ·intro v w' x L' hR hv hH' hext;obtain⟨g1,g2⟩:=bh.back hH1 hH' hext;rw[ml]at hv;exact ih n (b4 ops j A) _ _ _ _ L' st hcnt (h1 x L' hR) (hA' x) hW' F w0 η0 _ w' (put hv g2) hptr' g1 (by rw[tH];exact hdf) (hx1.trans g2)
      ·intro v w' x L' hR hv hH' hext;obtain⟨g1,g2⟩:=bh.back hH1 hH' hext;rw[ml]at hv;have hk:=cR.sub (w:=w') (F:=F) (L:=L'++cJ st (b4 ops j A)) (L':=L') λb hb=>by rw[b5];exact oh _ hb
       exact⟨.aJ x,[],L',hQp x L' (h2 x L' hR),⟨v,rfl,hv.aX hk⟩,⟨⟨hs1.1,λt x hx=>by simp[AE.sl,look]at hx⟩,g1.drop,hdf⟩,(hx1.trans g2).drop⟩
     ·rw[bI (by rw[vH hs1 hw];simp)];exact ih n (b4 ops j A) _ _ _ _ (L++cA zs) st hcnt h1 (hA' _) hW' F w0 η0 _ w (put (x:= .v undef) (v:=undef) (by simp only[Rel]) (Ext.refl _ w)) hptr' hH1 (by rw[tH];exact hdf) hx1
   ·--a fresh box
    subst hpj;obtain⟨o',ho',hg,hd,hlt,hna,hN⟩:=hA.ok p hp;rw[ho]at ho';cases ho';rw[ck (by simp[Region.wanted,hg])];refine .inl (hN (λ_=>none) (L++cJ st A) F w a hs.1 hdf hh (λt _ y hy=>by cases hy) _ _ λvs e hv=>?_);obtain⟨hp1,hp2⟩:=HK (b:=w.heap.size) hp hA.nd hsn;have hperm:((L++cJ st A)++[aj.box w.heap.size p.2.2]).Perm (L++cJ (fL st p.1 w.heap.size) A):=by
     rw[jX];exact(hp1.symm).append_left _
    have hext:=mi w (.cells vs.toArray e) (L++cJ st A) (.box w.heap.size p.2.2) (by simp[aj.ids]);have hkeep:=hext.keeps (F:=F);refine ih n A listed (wl.setIfInBounds p.1 true) pend s L (fL st p.1 w.heap.size) (by omega) h hA ?_ F w0 η0 _ _ ?_ ?_ ?_ (by rw[tH];exact hdf) ((hx.trans hext).perm hperm)
    ·refine⟨λi hi=>?_,λi hi=>?_,λi hi=>?_,λi hi hall=>?_,λq hq hsq=>?_,hW.h6,hW.h7⟩
     ·have hji:p.1≠i:=λhe=>by subst he;rw[FO]at hi;cases hi
      rw[getD_set_ne true hji]at hi;rcases hW.h1 i hi with h1|⟨q,hq,rfl,h2⟩
      ·exact .inl h1
      ·exact .inr ⟨q,hq,rfl,by simp only[fL,iP hji,if_false];exact h2⟩
     ·by_cases hji:p.1=i
      ·subst hji;exact⟨hW.h7 p hp,λq hq he=>by simp[fL]⟩
      ·rw[getD_set_ne false hji]at hi;obtain⟨h1,h2⟩:=hW.h2 i hi;exact⟨h1,λq hq he=>by simp only[fL,iP hji,if_false];exact h2 q hq he⟩
     ·have hji:p.1≠i:=λhe=>by
       subst he;have:=hW.h6 p hp;rw[hi]at this;cases this
      rw[getD_set_ne true hji];exact hW.h3 i hi
     ·by_cases hji:p.1=i
      ·subst hji;exact Aj hju
      ·rw[getD_set_ne false hji];refine hW.h4 i hi λq hq he hsq=>hall q hq he ?_;simp only[fL,iP hji,if_false];exact hsq
     ·have hji:p.1≠q.1:=λhe=>by rw[<-he]at hsq;simp[fL]at hsq
      rw[getD_set_ne true hji];refine hW.h5 q hq ?_;simpa only[fL,iP hji,if_false]using hsq
    ·rw[<-sZ hperm];refine⟨by rw[wD];exact hs.1,λt x hx=>?_⟩;have htd:t≠p.2.1:=λhe=>by rw[he,hA.sl p hp]at hx;cases hx
     obtain⟨h1,h2⟩:=hs.2 t x hx;refine⟨h1,?_⟩;rw[mT λd hd' he=>htd (by rw[he];rw[hd]at hd';cases hd';rfl)];exact h2.aX hkeep
    ·intro q hq b hb;by_cases hqp:q.1=p.1
     ·have:=G5 hA.nd hq hp hqp;subst this;simp only[fL,if_true,ax]at hb;subst hb;rw[hd];exact vF (by rw[hs.1];exact hlt)
     ·simp only[fL,hqp,if_false]at hb;have hdq:o.dst≠some q.2.1:=hA.dst q hq p.1 o ho (iP hqp);rw[mT λd hd' he=>hdq (by rw[hd',he])];exact hptr q hq b hb
    ·refine bh.perm hperm ?_;refine hh.push (by simp) (λb hb=>jZ w _ b hb) (by simp[aj.ids]) (by simp[aj.ids]) ?_;exact⟨e,vs,kJ w _,hv.aX hkeep⟩
end
def lY (T:bD) (ops:Array Oper) (N:Nat):List Nat->Option bp
 |[]=>some []
 |i::r=>match ops[i]?,lY T ops N r with
  |some ⟨some d,.alloc t,_,_,after,none⟩,some A=>match aP T t with
   |some ⟨_,_,_,z⟩=>match Nat.blt d N&&after.toList.all λe=>!Region.binds .any e with
    |true=>some ((i,(d,z.map .v))::A)
    |false=>none
   |none=>none
  |_,_=>none
def pL (ops:Array Oper):List Nat->List (Nat×Nat)
 |[]=>[]
 |i::r=>match ops[i]? with
  |some o=>match o.dst with
   |some d=>(i,d)::pL ops r
   |none=>pL ops r
  |none=>pL ops r
theorem Ir {E:Env} {ops:Array Oper} {N:Nat}:∀{al:List Nat} {A:bp},lY E.T ops N al=some A->(∀p∈A,KR E.toCx N ops p)/\A.map (·.1)=al/\pL ops al=A.map λp=>(p.1,p.2.1)
 |[],A,h=>by simp only[lY,ax]at h;subst h;simp[pL]
 |i::r,A,h=>by
  simp only[lY]at h;split at h
  ·rename_i d t ty pos after A' ho hr;split at h
   ·rename_i td sz by' z ht;split at h
    ·rename_i hB;simp only[ax]at h;subst h;simp only[bj,kG,ju,lu]at hB;obtain⟨g1,g2,g3⟩:=Ir hr;refine⟨λp hp=>?_,by simp[g2],by simp[pL,ho,g3]⟩;rcases cu.1 hp with rfl|hp
     ·refine⟨_,ho,rfl,rfl,hB.1,λe he=>?_,λs L=>eR.alloc rfl ht⟩;exact hB.2 e (by simpa using he)
     ·exact g1 p hp
    ·cases h
   ·cases h
  ·cases h
def nw (ops:Array Oper) (pre:List Nat) (tl:List (Nat×TK)) (al:List Nat):Bool:=
 Region.noSelect ops&&yb ops pre (Array.replicate ops.size false)&&lU ops (iW ops tl) (jA al (jA pre (Array.replicate ops.size false))) [] (pL ops al)&&Nat.beq (pre.length+((iW ops tl).length+al.length)) ops.size&&
  eH al&&(al.all λi=>!pre.contains i&&(List.range ops.size).all λj=>Nat.beq j i||match ops[i]?,ops[j]? with
   |some oi,some oj=>(match oi.dst with
    |some d=>xR oj.dst d
    |none=>true)
   |_,_=>true)
def pk (A:bp) (s:Sl):Sl:=λt=>match(A.map (·.2.1)).contains t with
 |true=>none
 |false=>s t
theorem OY {A:bp} {s:Sl} {t:Nat} {x:AV} (h:pk A s t=some x):s t=some x:=by
 unfold pk at h;split at h
 ·cases h
 ·exact h
theorem mg:∀(l:List Nat) (q:Array Bool) (i:Nat) (d:Bool),(jA l q).getD i d=if i∈l/\i<q.size then true else q.getD i d
 |[],q,i,d=>by simp[jA]
 |j::l,q,i,d=>by
  have ih:=mg l (q.setIfInBounds j true) i d;simp only[jA,Fz]at ih⊢;rw[ih];simp only[Array.size_setIfInBounds,cu];by_cases hj:j=i
  ·subst hj;by_cases hlt:j<q.size
   ·simp[hlt]
   ·simp[hlt,sv (Nat.le_of_not_lt hlt)]
  ·have hij:i≠j:=iP hj;rw[getD_set_ne d hj];simp only[hij,false_or]
theorem F8:∀A:bp,cJ (λ_=>none) A=[]/\er (λ_=>none) A=A.length
 |[]=>⟨rfl,rfl⟩
 |p::A=>by
  obtain⟨h1,h2⟩:=F8 A;simp only[cJ,er,h1,h2,iM,eG];exact⟨trivial,by omega⟩
theorem bH.Qv {E:Env} {N:Nat} {ops:Array Oper} {L:List aj} {Q:AQ} {O:Sg} {id:Nat} (pre:List Nat) (tl:List (Nat×TK)) (al:List Nat) (A:bp) (hm:E.P.follows .mixedOrders=true) (hA:lY E.T ops N al=some A) (hB:nw ops pre tl al=true) (hl:(fi ops pre).length=pre.length)
  (h:pj E.toCx N L ops (λst=>∃O',(∀t x,look O' t=some x->st.1 t=some x)/\gB st.2 λzs=>iE E.toCx N ops (λs L'=>∃O1,(∀t x,look O1 t=some x->s t=some x)/\Q .norm O1 L') (λx L'=>Q (.aJ x) [] L') (iW ops tl) A [] (pk A (look (fp L.length zs++O'))) (L++cA zs)) (fi ops pre) (look O,[])):
  bH E.toCx N (.region id ops true) Q O L:=λF w0 η0 a w hs hx=>by
 simp only[nw,bj]at hB;obtain⟨⟨⟨⟨⟨_,hlex⟩,htl⟩,hsz⟩,hnd⟩,hal⟩:=hB;have hsz:=bg hsz;obtain⟨a1,a2,a3⟩:=Ir hA;rw[a3]at htl;have hrep:∀(n:Nat) (i:Nat) (d:Bool),(Array.replicate n false).getD i d=if i<n then false else d:=λn i d=>by
  by_cases hi:i<n<;>simp[hi]
 have hmem:∀p∈A,p.1∈al/\p.1∉pre/\p.1<ops.size:=λp hp=>by
  have h1:p.1∈al:=by rw[<-a2];exact dk.2 ⟨p,hp,rfl⟩
  simp only[ju,bj,lu]at hal;obtain⟨o,ho,_⟩:=a1 p hp;exact⟨h1,by simpa using(hal p.1 h1).1,(kF.1 ho).1⟩
 have halm:∀i∈al,∃p∈A,p.1=i:=λi hi=>by rw[<-a2]at hi;obtain⟨p,hp,he⟩:=dk.1 hi;exact⟨p,hp,he⟩
 refine wp_mono (Q:=CQ E.G N F w L Q) ?_ (λe a w' ⟨e0,O2,L2,g1,g2,g3,g4⟩=>⟨e0,O2,L2,g1,g2,g3,hx.trans g4⟩);refine wp_region_any hm ?_;have hcut:pj E.toCx N L ops (λst=>Cut E.toCx N ops L (λF w1=>CQ E.G N F w1 L Q) ((iW ops tl).length+al.length) (jA pre (Array.replicate ops.size false)) st) (fi ops pre) (look O,[]):=by
  refine AK (λst ⟨O',h1,h2⟩=>?_) h;intro F w1 w a zs hd;have hb:=v8 h2 zs hd.eq;have hT:=ta _ _ _ _ [] _ _ (λp hp=>AG hp) (λp hp=>by cases hp) htl hb;obtain⟨e1,e2⟩:=F8 A;have hlen:A.length=al.length:=by rw[<-a2];simp
  have hsl:eZ w (Al F ((L++cA zs)++cJ (λ_=>none) A)) N a (pk A (look (fp L.length zs++O'))):=by
   rw[e1,iM];refine⟨hd.size,λt x hx=>?_⟩;rcases ql (OY hx)with⟨z,hz,k,rfl,rfl⟩|hx
   ·obtain⟨g1,g2⟩:=hd.nu z hz;exact⟨g1,by simp only[Rel];exact g2⟩
   ·exact hd.sl t x (h1 t x hx)
  refine OX (Q:=Q) (λ_ _ h=>h) (λ_ _ h=>h) _ _ A _ (jA pre (Array.replicate ops.size false)) _ _ _ (λ_=>none) (by rw[e2,hlen]) hT ⟨a1,by rw[a2];exact Au hnd,λp hp j oj hoj hne=>?_,λp hp=>?_⟩ ?_ F w1 L a w hsl (λp hp b hb=>by cases hb) (by rw[e1,iM];exact hd.hp) hd.df ⟨hd.cls.1.1,hd.cls.2.1,hd.cls.2.2.1,hd.cls.2.2.2.1,λb hb _=>hd.cls.2.2.2.2 b hb,λb hb=>?_,hd.cls.1.2⟩
  ·obtain⟨oi,hoi,_,hdi,_⟩:=a1 p hp;simp only[ju,bj]at hal;have:=(hal p.1 (hmem p hp).1).2 j (FB.2 (kF.1 hoj).1);simp only[hoi,hoj,hdi,Ac]at this;rcases this with h|h
   ·exact absurd (bg h) hne
   ·exact Gv h
  ·have:(A.map (·.2.1)).contains p.2.1=true:=by rw[Fx];exact dk.2 ⟨p,hp,rfl⟩
   simp only[pk,this]
  ·have hsize:(jA pre (Array.replicate ops.size false)).size=ops.size:=by
    have:∀(l:List Nat) (q:Array Bool),(jA l q).size=q.size:=by
     intro l
     induction l with
     |nil=>intro q;rfl
     |cons j l ih=>intro q;simp only[jA,Fz]at ih⊢;rw[ih];simp
    rw[this];simp
   refine⟨λi hi=>?_,λi hi=>?_,λi hi=>?_,λi hi hall=>?_,λp hp _=>?_,λp hp=>?_,λp hp=>?_⟩
   ·by_cases hia:i∈al
    ·exact .inr ((halm i hia).imp λp hp=>⟨hp.1,hp.2,rfl⟩)
    ·left;rw[mg,bI (λh=>hia h.1)];exact hi
   ·refine⟨by rw[mg,hi];simp,λp hp he=>?_⟩;exfalso;rw[mg]at hi;split at hi
    ·rename_i h;exact(hmem p hp).2.1 (by rw[he];exact h.1)
    ·rw[hrep]at hi;split at hi<;>cases hi
   ·rw[mg]at hi;split at hi
    ·cases hi
    ·exact hi
   ·rw[mg]at hi;split at hi
    ·rename_i h;obtain⟨p,hp,he⟩:=halm i h.1;exact absurd rfl (hall p hp he)
    ·exact hi
   ·rw[mg,bI (λh=>(hmem p hp).2.1 h.1),hrep,ck (hmem p hp).2.2]
   ·rw[mg,ck ⟨(hmem p hp).1,by rw[hsize];exact(hmem p hp).2.2⟩]
   ·rw[mg,ck ⟨(hmem p hp).1,by rw[hsize];exact(hmem p hp).2.2⟩]
  ·rw[e1,iM,b5,cD]at hb;rcases hb with hb|hb
   ·exact .inl hb
   ·obtain⟨x,hx,hb⟩:=eU.1 hb;obtain⟨z,hz,rfl⟩:=dk.1 hx;simp only[aj.ids,mN]at hb;subst hb;exact .inr (hd.new z hz)
 have hany:=GU _ _ _ (HA pre _ _ QA hlex hl hcut);rw[hsz]at hany;have hc:gg w {w with drawn:=w.drawn+1}:=⟨⟨rfl,.of (Ae _)⟩,rfl,rfl,bC _,λ_ _=>rfl⟩;have hd:lg E.G N F L w {w with drawn:=w.drawn+1} a (look O,[]) []:=
  ⟨hs.sg.1,hs.df,rfl,by simpa[cA]using hs.hp.later hc.2.2.2,λt x hx=>by
   obtain⟨h1,h2⟩:=hs.sg.2 t x hx;refine⟨h1,?_⟩;simp only[cA,sw,iM];exact h2.aX (hc.ext (L:=L)).keeps,by simp,hc,by simp⟩
 exact hany F w _ a [] hd
def TL (Z:aD) (R:DR->Hp->Prop):AR->List aj->Prop:=λr LB=>∃Z' d L,Z.le Z'/\DR.inst Z' d r/\HS Z' L LB/\R d L
def bo (E:Env) (N:Nat) (o:Oper) (O:TS) (L:Hp) (R:DR->Hp->Prop):Prop:=∀Z s LB,SS Z O s->HS Z L LB->cL E.toCx N o s LB (TL Z R)
section
variable {E:Env} {N K:Nat} {Q:DQ} {O:TS} {L:Hp} {o:Oper} {x:CV} {all rest:List Oper} {R:DR->Hp->Prop}
theorem bo.mono {R':DR->Hp->Prop} (h:bo E N o O L R) (hr:∀r L',R r L'->R' r L'):bo E N o O L R':=λZ s LB hs hh=>(h Z s LB hs hh).mono λ_ _ ⟨Z',d,L',h1,h2,h3,h4⟩=>⟨Z',d,L',h1,h2,h3,hr _ _ h4⟩
theorem bo.val (h:aR E N o O L x):bo E N o O L (λr L'=>r= .ret x/\L'=L):=λZ s LB hs hh=>by
 obtain⟨y,h1,h2⟩:=h Z s LB hs hh;refine(cL.nY h2).mono ?_;rintro r L' ⟨rfl,rfl⟩;exact⟨Z,.ret x,L,.refl Z,⟨y,rfl,h1⟩,hh,rfl,rfl⟩
theorem bo.new {cells:List CV} {d:Nat} (hd:o.dst=some d) (h:∀Z s LB,SS Z O s->HS Z L LB->∃cs,aI Z cells cs/\eR E.toCx N o s LB cs):bo E N o O L (λr L'=>r= .ret (.own L.n 0)/\L'=L.push (.box cells)):=λZ s LB hs hh=>by
 obtain⟨cs,h1,h2⟩:=h Z s LB hs hh;refine(cL.rW hd h2).mono ?_;rintro r L' ⟨b,rfl,rfl⟩;have hdom:=hh.gb L.n (bC _);have hl:Z.le (Z.gC L.n b):=aD.Bs hdom.1;have hbn:(Z.gC L.n b).b L.n=some b:=by simp[aD.gC]
 exact⟨_,.ret (.own L.n 0),L.push (.box cells),hl,⟨_,rfl,by simp only[aC];exact⟨b,_,hbn,rfl⟩⟩,hh.push hl (λ_ _=>rfl) (λi hi=>by simp[aD.gC,hi]) ⟨b,cs,hbn,rfl,h1.mono hl⟩,rfl,rfl⟩
theorem mY {Z:aD} {s:Sl} {p:Operand} (h:p∈o.op.operands.toList) {y:AV} (hy:ev s p=some y):ev (look (cV s (tmpsOf o))) p=some y:=by rw[eV h];exact hy
theorem bo.store {t:TypeId} {p v:Operand} {i off:Nat} {cs cs':List CV} {ti:TI} (ho:o.op= .store t p v) (hp:aO O p=some (.own i off)) (hv:aO O v=some x) (hi:L.e.get i=some (.box cs)) (ht:aP E.T t=some ti)
  (hk:Nat.beq (de x).length ti.size=true) (h1:kU (de x)=true) (hl:kL cs off (de x)=some cs'):bo E N o O L (λr L'=>r= .ret (.d (.v undef))/\L'=L.set i (.box cs')):=λZ s LB hs hh=>by
 obtain⟨y,h2,h3⟩:=bR hs hp;simp only[aC]at h3;obtain⟨b,t',h3,rfl⟩:=h3;obtain⟨z,h4,h5⟩:=bR hs hv;obtain⟨q,h6,h7⟩:=hh.en i _ hi;obtain⟨b',us,h8,rfl,h9⟩:=h7;rw[h3]at h8;cases h8;have hc:=vK h5;obtain⟨us',h10,h11⟩:=vG hl h9 hc;refine(cL.L1 (GN ho (mY (Z:=Z) (by simp[ho,Op.operands]) h2) (mY (Z:=Z) (by simp[ho,Op.operands]) h4) h6 ht (by rw[hc.length];exact hk) (Ay h1 hc) h10)).mono ?_;rintro r L' ⟨rfl,rfl⟩;exact⟨Z,.ret (.d (.v undef)),L.set i (.box cs'),.refl Z,⟨_,rfl,rfl⟩,hh.set (.refl Z) (λ_ _=>rfl) (λ_ _=>rfl) (hh.lt hi) ⟨b,us',h3,rfl,h11⟩,rfl,rfl⟩
theorem bo.oC {t:TypeId} {p v:Operand} {i n m e kk:Nat} {rows:List (List AV)} {r r':List AV} {y:AV} {ti:TI} (j off:Nat) (ho:o.op= .store t p v) (hp:aO O p=some (.oe i n m)) (hv:aO O v=some (.d y)) (hi:L.e.get i=some (.row e kk rows)) (hn:n=rows.length)
  (hm:m=j*kk+off) (hr:rows[j]? =some r) (ht:aP E.T t=some ti) (hk:Nat.beq (bW y).length ti.size=true) (h1:ek (bW y)=true) (hl:ew r off (bW y)=some r'):bo E N o O L (λr1 L'=>r1= .ret (.d (.v undef))/\L'=L.set i (.row e kk (rows.set j r'))):=λZ s LB hs hh=>by
 obtain⟨z,h2,h3⟩:=bR hs hp;simp only[aC]at h3;obtain⟨a,c,t',h3,rfl⟩:=h3;obtain⟨z,h4,h5⟩:=bR hs hv;simp only[aC]at h5;subst h5;obtain⟨q,h6,h7⟩:=hh.en i _ hi;obtain⟨⟨a',c',h8,rfl⟩,h9⟩:=h7;subst hn;rw[h3]at h8;cases h8;refine(cL.L1 (FQ ho j off (mY (Z:=Z) (by simp[ho,Op.operands]) h2) hm (mY (Z:=Z) (by simp[ho,Op.operands]) h4) h6 hr ht hk h1 hl)).mono ?_;rintro r1 L' ⟨rfl,rfl⟩;exact⟨Z,.ret (.d (.v undef)),L.set i (.row e kk (rows.set j r')),.refl Z,⟨_,rfl,rfl⟩,hh.set (.refl Z) (λ_ _=>rfl) (λ_ _=>rfl) (hh.lt hi) ⟨⟨a,c,by simpa using h3,by simp⟩,by simpa using h9⟩,rfl,rfl⟩
theorem bo.lit {n:Nat} {t:TypeId} {parts:Array (Nat×Operand)} {e k sz by' sz' by'':Nat} {z z':List Value} {td':TD} {cells:List AV} (ho:o.op= .buildSlice t n parts)
  (ht:aP E.T t=some ⟨.slice e k,sz,by',z⟩) (hte:aP E.T e=some ⟨td',sz',by'',z'⟩) (hf:dY k (dE O) (fN n (z'.map .v)) parts.toList=some cells) (hb:Nat.ble (n*k) 16777216=true) (hk:Nat.ble 1 k=true):
  bo E N o O L (λr L'=>r= .ret (.os L.n n)/\L'=L.push (.row e k (chunk n k cells))):=λZ s LB hs hh=>by
 have hR:u1 E.toCx N o (cV s (tmpsOf o)) LB (λx L'=>∃b,x= .os LB.length (some ⟨b,0,none⟩) n n/\L'=LB++[.row (.slice (some ⟨b,0,none⟩) n n) e k (chunk n k cells)]):=λF a w hst=>by
  have hf':dY k (look (cV s (tmpsOf o))) (fN n (z'.map .v)) parts.toList=some cells:=by
   rw[Ar λp hp=>eV (by rw[ho];simp only[Op.operands,dk];exact⟨p,hp,rfl⟩)];have key:∀(l:List (Nat×Operand)) (cs r:List AV),dY k (dE O) cs l=some r->dY k s cs l=some r:=by
    intro l
    induction l with
    |nil=>intro cs r h;exact h
    |cons p l ih=>
     intro cs r h;obtain⟨i,p⟩:=p;simp only[dY]at h⊢;split at h
     ·rename_i y hy;have hy':ev s p=some y:=by
       cases p with
       |tmp u=>exact jF hs hy
       |const v=>exact hy
       |global g=>exact hy
       |func f=>exact hy
      simp only[hy'];split at h
      ·exact ih _ _ h
      ·cases h
     ·cases h
   exact key _ _ _ hf
  obtain⟨us,h1,h2,h3⟩:=A3 (d:=o.dst) (ty:=o.type) (pos:=o.pos) (after:=o.after) (gd:=o.guard) ht hte hf' hb hk hst;have hb:=dj hb;have hk:=dj hk;have ho':o=⟨o.dst,.buildSlice t n parts,o.type,o.pos,o.after,o.guard⟩:=by rw[<-ho]
  rw[<-ho']at h1;have hext:=mi w (.cells us e) LB (.row (.slice (some ⟨w.heap.size,0,none⟩) n n) e k (chunk n k cells)) (by simp[aj.ids,Value.ownBlock]);refine⟨.slice (some ⟨w.heap.size,0,none⟩) n n,w.alloc (.cells us e),_,_,⟨w.heap.size,rfl,rfl⟩,h1,by simp only[Rel],?_,hext⟩;refine hst.hp.push (by simp) (λb hb=>jZ w _ b hb) (by simp[aj.ids,Value.ownBlock]) (by simp[aj.ids,Value.ownBlock]) ?_;refine⟨us.toList,h2.aX hext.keeps,?_,.inr ⟨w.heap.size,n,us,by rw[fH],mP _,kJ w _,by rw[fH];exact bC _,?_,h3,?_⟩⟩
  ·rw[fH];simpa using h3
  ·have:n<=n*k:=z7 n hk;simp only[maxLen];omega
  ·rw[fH,<-h3,<-vy,kH]
 refine(cL.EJ hR).mono ?_;rintro r L' ⟨y,rfl,b,rfl,rfl⟩;have hdom:=hh.gb L.n (bC _);have hl:Z.le (Z.aQ L.n n (some ⟨b,0,none⟩,n)):=aD.ka λy hy=>by rw[hdom.2]at hy;cases hy
 have hbn:(Z.aQ L.n n (some ⟨b,0,none⟩,n)).s L.n n=some (some ⟨b,0,none⟩,n):=by simp[aD.aQ]
 refine⟨_,.ret (.os L.n n),L.push (.row e k (chunk n k cells)),hl,⟨_,rfl,by simp only[aC];exact⟨_,_,_,hbn,rfl⟩⟩,hh.push hl (λi hi=>by funext m;simp[aD.aQ,hi]) (λ_ _=>rfl) ⟨⟨some ⟨b,0,none⟩,n,by rw[fH];exact hbn,by rw[fH]⟩,λm hm=>?_⟩,rfl,rfl⟩;rw[fH]at hm;have:m≠n:=by omega
 simp only[aD.aQ,this,and_false,if_false];exact hdom.2 m
theorem ko.Wq {Z:aD} {s:Sl} {LB:List aj} (hs:SS Z O s) (hh:HS Z L LB) {k:Nat} {p:Operand} {rows:List (List AV)} (h:ko E O L k p rows) (hp:p∈o.op.operands.toList):∀F a w,St E.G N w F a (cV s (tmpsOf o)) LB->iB w (Al F LB) k (a.eval p) rows:=λF a w hst=>by
 have key:∀{x:CV},aO O p=some x->∃y,ev (look (cV s (tmpsOf o))) p=some y/\aC Z x y:=λh=>by
  obtain⟨y,h1,h2⟩:=bR hs h;exact⟨y,mY (Z:=Z) hp h1,h2⟩
 cases h with
 |sl h=>
  obtain⟨y,h1,h2⟩:=key h;simp only[aC]at h2;subst h2;exact iB.sl (a8 hst.sg h1)
 |yW h hI=>
  obtain⟨y,h1,h2⟩:=key h;simp only[aC]at h2;subst h2;exact iB.sl (hI _ _ _ (a8 hst.sg h1))
 |nil h=>
  obtain⟨y,h1,h2⟩:=key h;simp only[aC]at h2;subst h2;have:=a8 hst.sg h1;simp only[Rel]at this;rw[this];exact⟨none,0,0,[],rfl,rfl,by simp[bc],λ_=>rfl,λ_ h=>by cases h⟩
 |row h h3 hn=>
  obtain⟨y,h1,h2⟩:=key h;simp only[aC]at h2;obtain⟨a',c,t',h4,rfl⟩:=h2;obtain⟨q,h5,h6⟩:=hh.en _ _ h3;obtain⟨⟨a2,c2,h7,rfl⟩,_⟩:=h6;subst hn;rw[h4]at h7;cases h7;have:=a8 hst.sg h1;simp only[Rel]at this;rw[this];exact iB.row (ie hst.hp h5)
 |fz h h3 hn=>
  obtain⟨y,h1,h2⟩:=key h;simp only[aC]at h2;obtain⟨a',c,t',h4,rfl⟩:=h2;obtain⟨q,h5,h6⟩:=hh.en _ _ h3;obtain⟨a2,c2,h7,rfl⟩:=h6;subst hn;rw[h4]at h7;cases h7;have:=a8 hst.sg h1;simp only[Rel]at this;rw[this];exact iB.sl (oG hst.hp h5)
theorem bo.append {i n:Nat} {s' p:Operand} {t:TypeId} {e k sz by' sz' by'':Nat} {z z':List Value} {td':TD} {rows rows2:List (List AV)} (ho:o.op= .call {callee:= .builtin .append,args:= #[s',p],argTypes:= #[t,t]})
  (hb:(rows++rows2).length*by''<=140737488355328) (hs':aO O s'=some (.os i n)) (hi:L.e.get i=some (.row e k rows)) (hn:n=rows.length) (hx:ko E O L k p rows2) (ht:aP E.T t=some ⟨.slice e k,sz,by',z⟩) (hte:aP E.T e=some ⟨td',sz',by'',z'⟩) (h1:fI rows2=true)
  (hk:Nat.ble 1 k=true) (hby:Nat.ble 1 by''=true):bo E N o O L (λr L'=>r= .ret (.os i (rows++rows2).length)/\L'=L.set i (.row e k (rows++rows2))):=λZ s LB hs hh=>by
 obtain⟨y,h2,h3⟩:=bR hs hs';simp only[aC]at h3;obtain⟨a,c,t',h3,rfl⟩:=h3;obtain⟨q,h6,h7⟩:=hh.en i _ hi;obtain⟨⟨a',c',h8,rfl⟩,h9⟩:=h7;subst hn;rw[h3]at h8;cases h8;refine(cL.EJ (Gi ho ht hte (mY (Z:=Z) (by simp[ho,Op.operands,Call.operands]) h2) h6 (hx.Wq hs hh (by simp[ho,Op.operands,Call.operands])) h1 hk hby hb)).mono ?_;rintro r L' ⟨y,rfl,a',c',h0,rfl,rfl⟩;have hl:Z.le (Z.aQ i (rows++rows2).length (a',c')):=aD.ka λy hy=>by
  by_cases hz:rows2=[]
  ·subst hz;simp only[iM]at hy;rw[h3]at hy;cases hy;obtain⟨rfl,rfl⟩:=h0 rfl;rfl
  ·have:rows.length<(rows++rows2).length:=by
    have:=z8.2 hz;simp;omega
   rw[h9 _ this]at hy;cases hy
 have hbn:(Z.aQ i (rows++rows2).length (a',c')).s i (rows++rows2).length=some (a',c'):=by simp[aD.aQ]
 refine⟨_,.ret (.os i (rows++rows2).length),L.set i (.row e k (rows++rows2)),hl,⟨_,rfl,by simp only[aC];exact⟨_,_,_,hbn,rfl⟩⟩,hh.set hl (λj hj=>by funext m;simp[aD.aQ,hj]) (λ_ _=>rfl) (hh.lt hi) ⟨⟨a',c',hbn,rfl⟩,λm hm=>?_⟩,rfl,rfl⟩;have hne:m≠(rows++rows2).length:=by omega
 simp only[aD.aQ,hne,and_false,if_false];exact h9 m (by simp at hm;omega)
theorem bo.Bp {i n:Nat} {s' p:Operand} {t u:TypeId} {e k sz by' sz' by'' szu byu:Nat} {z z' zu:List Value} {td':TD} {rows:List (List AV)} {b:ByteArray} (ho:o.op= .call {callee:= .builtin .append,args:= #[s',p],argTypes:= #[t,u]})
  (hb:(rows++cQ b).length*by''<=140737488355328) (hs':aO O s'=some (.os i n)) (hi:L.e.get i=some (.row e k rows)) (hn:n=rows.length) (hx:aO O p=some (.d (.v (.string b)))) (ht:aP E.T t=some ⟨.slice e k,sz,by',z⟩) (hu:aP E.T u=some ⟨.str,szu,byu,zu⟩) (hte:aP E.T e=some ⟨td',sz',by'',z'⟩)
  (hk:Nat.beq k 1=true) (hby:Nat.beq by'' 1=true):bo E N o O L (λr L'=>r= .ret (.os i (rows++cQ b).length)/\L'=L.set i (.row e k (rows++cQ b))):=λZ s LB hs hh=>by
 obtain⟨y,h2,h3⟩:=bR hs hs';simp only[aC]at h3;obtain⟨a,c,t',h3,rfl⟩:=h3;obtain⟨y2,g2,g3⟩:=bR hs hx;simp only[aC]at g3;subst g3;obtain⟨q,h6,h7⟩:=hh.en i _ hi;obtain⟨⟨a',c',h8,rfl⟩,h9⟩:=h7;subst hn;rw[h3]at h8;cases h8;refine(cL.EJ (F3 ho ht hu hte (mY (Z:=Z) (by simp[ho,Op.operands,Call.operands]) h2) h6 (mY (Z:=Z) (by simp[ho,Op.operands,Call.operands]) g2) hk hby hb)).mono ?_;rintro r L' ⟨y,rfl,a',c',h0,rfl,rfl⟩;have hl:Z.le (Z.aQ i (rows++cQ b).length (a',c')):=aD.ka λy hy=>by
  by_cases hz:cQ b=[]
  ·rw[hz]at hy;simp only[iM]at hy;rw[h3]at hy;cases hy;obtain⟨rfl,rfl⟩:=h0 hz;rfl
  ·have:rows.length<(rows++cQ b).length:=by
    have:=z8.2 hz;simp;omega
   rw[h9 _ this]at hy;cases hy
 have hbn:(Z.aQ i (rows++cQ b).length (a',c')).s i (rows++cQ b).length=some (a',c'):=by simp[aD.aQ]
 refine⟨_,.ret (.os i (rows++cQ b).length),L.set i (.row e k (rows++cQ b)),hl,⟨_,rfl,by simp only[aC];exact⟨_,_,_,hbn,rfl⟩⟩,hh.set hl (λj hj=>by funext m;simp[aD.aQ,hj]) (λ_ _=>rfl) (hh.lt hi) ⟨⟨a',c',hbn,rfl⟩,λm hm=>?_⟩,rfl,rfl⟩;have hne:m≠(rows++cQ b).length:=by omega
 simp only[aD.aQ,hne,and_false,if_false];exact h9 m (by simp at hm;omega)
theorem bo.call {f:Operand} {args:List Operand} {g:FuncId} {cs:List CV} {Q':DR->Hp->Prop} {tys:Array TypeId} (ho:o.op= .call {callee:= .value f,args:=args.toArray,argTypes:=tys})
  (h:eK E g cs L Q') (hc:dm O f args=some (g,cs)):bo E N o O L Q':=λZ s LB hs hh=>by
 obtain⟨ys,h1,h2⟩:=ou hs hc;have h3:=h Z ys LB h2 hh;refine(cL.Jj ho h1 h3.1 λF w vs hH hr=>h3.2 F w vs hH hr).mono ?_;rintro r L' ⟨Z',d,η1,g1,g2,g3,g4⟩;exact⟨Z',d,η1,hh.gf g1,g2,g3,g4⟩
theorem bo.pure {f:Operand} {args:List Operand} {g:FuncId} {cs:List CV} {xs' xs:List AV} {ns:List (Nat×Nat)} {ms:List (Nat×aT)} {res:AR} {tys:Array TypeId} (fl:Nat) (ho:o.op= .call {callee:= .value f,args:=args.toArray,argTypes:=tys})
  (h:Pure E.toCx g xs res) (hc:dm O f args=some (g,cs)) (hf:bU L.e fl cs=some (xs',ns,ms)) (hn:eqs ns) (hi:bS xs' xs) (hl:ms=[]\/(match res with| .ret x=>cE x| .aJ x=>cE x)=true):
  bo E N o O L (λr L'=>(match res with| .ret x=>r= .ret (.d x)| .aJ x=>r= .aJ (.d x))/\L'=L):=λZ s LB hs hh=>by
 obtain⟨ys,h1,h2⟩:=ou hs hc;refine cL.Jj ho h1 h.1 λF w vs hH hr=>(AL fl h hf hn hi hl hh hH h2 hr).mono ?_;rintro e w' ⟨hv,hcls⟩;refine⟨res,LB,?_,hv,hH.later hcls.2.2.2,hcls.ext⟩;cases res with
 |ret x=>exact⟨Z,.ret (.d x),L,.refl Z,⟨x,rfl,rfl⟩,hh,rfl,rfl⟩
 |aJ x=>exact⟨Z,.aJ (.d x),L,.refl Z,⟨x,rfl,rfl⟩,hh,rfl,rfl⟩
theorem bo.panic {p:Operand} (ho:o.op= .panic p) {t:TypeId} {y:CV} (hp:aO O p=some (.bd t y)):bo E N o O L (λr L'=>r= .aJ (.bd t y)/\L'=L):=λZ s LB hs hh=>by
 obtain⟨z,h1,h2⟩:=bR hs hp;have h3:=h2;simp only[aC]at h3;obtain⟨u,rfl,_⟩:=h3;refine(cL.panic ho h1).mono ?_;rintro r L' ⟨rfl,rfl⟩;exact⟨Z,.aJ (.bd t y),L,.refl Z,⟨_,rfl,h2⟩,hh,rfl,rfl⟩
theorem bo.BN {p:Operand} (ho:o.op= .panic p) {t:TypeId} {y:AV} (hp:aO O p=some (.d (.bd t y))):bo E N o O L (λr L'=>r= .aJ (.d (.bd t y))/\L'=L):=λZ s LB hs hh=>by
 obtain⟨z,h1,h2⟩:=bR hs hp;simp only[aC]at h2;subst h2;refine(cL.panic ho h1).mono ?_;rintro r L' ⟨rfl,rfl⟩;exact⟨Z,.aJ (.d (.bd t y)),L,.refl Z,⟨_,rfl,rfl⟩,hh,rfl,rfl⟩
theorem cL.lW {C:Cx} {s s1:Sl} {LB LB1:List aj} {R:AR->List aj->Prop} (hw:∀F w a,bh C.G w F LB->kg w (Al F LB) N a o s->bh C.G w F LB1/\kg w (Al F LB1) N a o s1/\∀b∈ids LB1,b∈ids LB) (h:cL C N o s1 LB1 R):cL C N o s LB R:=
 λF w a hN hd hH hs K Q k1 k2=>by
  obtain⟨h1,h2,h3⟩:=hw F w a hH hs;have hx:Ext LB w LB1 w:=⟨rfl,rfl,rfl,bC _,λ_ _ _=>rfl,λb hb=> .inl (h3 b hb),.of (bC _)⟩;exact h F w a hN hd h1 h2 K Q (λv w' x L' hR hv hH' hext=>k1 v w' x L' hR hv hH' (hx.trans hext)) (λv w' x L' hR hv hH' hext=>k2 v w' x L' hR hv hH' (hx.trans hext))
theorem bo.gR (t e k:Nat) (ht:O.get t=some (.d (.v (.slice none 0 0)))) (h:bo E N o (Tr.put 24 O t (some (.os L.n 0))) (L.push (.row e k [])) R):bo E N o O L R:=λZ s LB hs hh=>by
 obtain⟨y,h1,h2⟩:=hs t _ ht;simp only[aC]at h2;subst h2;have hdom:=hh.gb L.n (bC _);have hl:Z.le (Z.aQ L.n 0 (none,0)):=aD.ka λy hy=>by rw[hdom.2]at hy;cases hy
 have hbn:(Z.aQ L.n 0 (none,0)).s L.n 0=some (none,0):=by simp[aD.aQ]
 have hs1:SS (Z.aQ L.n 0 (none,0)) (Tr.put 24 O t (some (.os L.n 0))) (fK s t (.os LB.length none 0 0)):=λu z hz=>by
  rcases Tr.eu 24 O t u _ z hz with⟨rfl,h3⟩|⟨hne,h3⟩
  ·cases h3;exact⟨.os LB.length none 0 0,by simp[fK],by simp only[aC];exact⟨_,_,LB.length,hbn,rfl⟩⟩
  ·obtain⟨q,h4,h5⟩:=hs u z h3;exact⟨q,by simp[fK,hne,h4],h5.mono hl⟩
 have hh1:HS (Z.aQ L.n 0 (none,0)) (L.push (.row e k [])) (LB++[.row (.slice none 0 0) e k []]):=by
  refine hh.push hl (λi hi=>by funext m;simp[aD.aQ,hi]) (λ_ _=>rfl) ⟨⟨none,0,by simpa using hbn,by simp⟩,λm hm=>?_⟩;have:m≠0:=by simp at hm;omega
  simp only[aD.aQ,this,and_false,if_false];exact hdom.2 m
 refine cL.lW (λF w a hH hopd=>?_) ((h _ _ _ hs1 hh1).mono ?_)
 ·have hkeep:cR w (Al F LB) w (Al F (LB++[aj.row (.slice none 0 0) e k []])):=⟨bC _,λb _ ha=>⟨by simpa[Al,b5,cy,aj.ids,Value.ownBlock,ids]using ha,rfl⟩⟩;refine⟨hH.push (bC _) (λ_ _=>rfl) (by simp[aj.ids,Value.ownBlock]) (by simp[aj.ids,Value.ownBlock]) ⟨[],by simp[bc],by simp,.inl ⟨rfl,rfl⟩⟩,λu hu q hq=>?_,λb hb=>by simpa[b5,cy,aj.ids,Value.ownBlock,ids]using hb⟩;unfold fK at hq;split at hq
  ·rename_i hut;subst hut;simp only[ax]at hq;subst hq;obtain⟨g1,g2⟩:=hopd u hu _ h1;simp only[Rel]at g2⊢;exact⟨g1,g2⟩
  ·obtain⟨g1,g2⟩:=hopd u hu q hq;exact⟨g1,g2.aX hkeep⟩
 ·rintro r L' ⟨Z',d,η1,g1,g2,g3,g4⟩;exact⟨Z',d,η1,hl.trans g1,g2,g3,g4⟩
theorem bo.cZ {t:Nat} {z:AV} {ns:List (Nat×Nat)} {ms:List (Nat×aT)} (f:Nat) (hx:O.get t=some x) (hf:bU L.e f [x]=some ([z],ns,ms)) (hn:eqs ns) (ht:t∈tmpsOf o) (h:bo E N o (Tr.put 24 O t (some (.d z))) (gQ ms L) R):bo E N o O L R:=λZ s LB hs hh=>by
 obtain⟨y,h1,h2⟩:=hs t x hx;have hs1:SS Z (Tr.put 24 O t (some (.d z))) (fK s t z):=λu q hq=>by
  rcases Tr.eu 24 O t u _ q hq with⟨rfl,h3⟩|⟨hne,h3⟩
  ·cases h3;exact⟨z,by simp[fK],rfl⟩
  ·obtain⟨q',h4,h5⟩:=hs u q h3;exact⟨q',by simp[fK,hne,h4],h5⟩
 by_cases hcan:∃F w v,bh E.G w F LB/\Rel w (Al F LB) y v
 ·obtain⟨F0,w0,v0,hH0,hv0⟩:=hcan;obtain⟨_,h40⟩:=gM hh hH0 (ms.map (·.1)) f hf hn (λp hp=>dk.2 ⟨p,hp,rfl⟩) (aI.one h2) (aG.one hv0);have hHS:HS Z (gQ ms L) (ea Z ms LB):=vW (w:=w0) (F:=eQ F0 LB (ms.map (·.1))) hh λp hp=>⟨(h40 p hp).lt hh,h40 p hp⟩;refine cL.lW (λF w a hH hopd=>?_) (h Z _ _ hs1 hHS);have hv:=(hopd t ht y h1).2;obtain⟨h3,h4⟩:=gM hh hH (ms.map (·.1)) f hf hn (λp hp=>dk.2 ⟨p,hp,rfl⟩) (aI.one h2) (aG.one hv);have hsub:∀b∈ids (ea Z ms LB),b∈ids LB:=λb hb=>(sL ms LB).subset hb;refine⟨wu hH h4,λu hu q hq=>?_,hsub⟩;unfold fK at hq;split at hq
  ·rename_i hut;subst hut;simp only[ax]at hq;subst hq;exact⟨(hopd u hu y h1).1,h3.xP.aX qf⟩
  ·obtain⟨g1,g2⟩:=hopd u hu q hq;exact⟨g1,g2.aX (cR.sub hsub)⟩
 ·intro F w a hN hd hH hopd;exact absurd ⟨F,w,_,hH,(hopd t ht y h1).2⟩ hcan
mutual
theorem aC.same {Z:aD} {w:World} {A:Nat->Prop}:∀{x:CV} {y y':AV} {v:Value},aC Z x y->aC Z x y'->Rel w A y v->Rel w A y' v
 | .d x,_,_,_,h,g,hr=>by simp only[aC]at h g;subst h;subst g;exact hr
 | .agg xs,_,_,_,h,g,hr=>by
  simp only[aC]at h g;obtain⟨ys,rfl,h⟩:=h;obtain⟨zs,rfl,g⟩:=g;simp only[Rel]at hr⊢;obtain⟨vs,rfl,hr⟩:=hr;exact⟨vs,rfl,aI.same h g hr⟩
 | .bX xs,_,_,_,h,g,hr=>by
  simp only[aC]at h g;obtain⟨ys,rfl,h⟩:=h;obtain⟨zs,rfl,g⟩:=g;simp only[Rel]at hr⊢;obtain⟨vs,rfl,hr⟩:=hr;exact⟨vs,rfl,aI.same h g hr⟩
 | .own t o,_,_,_,h,g,hr=>by
  simp only[aC]at h g;obtain⟨b,t1,h,rfl⟩:=h;obtain⟨b',t2,g,rfl⟩:=g;rw[h]at g;cases g;simp only[Rel]at hr⊢;exact hr
 | .os t n,_,_,_,h,g,hr=>by
  simp only[aC]at h g;obtain⟨a,c,t1,h,rfl⟩:=h;obtain⟨a',c',t2,g,rfl⟩:=g;rw[h]at g;cases g;simp only[Rel]at hr⊢;exact hr
 | .oe t n o,_,_,_,h,g,hr=>by
  simp only[aC]at h g;obtain⟨a,c,t1,h,rfl⟩:=h;obtain⟨a',c',t2,g,rfl⟩:=g;rw[h]at g;cases g;simp only[Rel]at hr⊢;exact hr
 | .om t,_,_,_,h,g,hr=>by
  simp only[aC]at h g;obtain⟨b,t1,h,rfl⟩:=h;obtain⟨b',t2,g,rfl⟩:=g;rw[h]at g;cases g;simp only[Rel]at hr⊢;exact hr
 | .fn f fs cs,_,_,_,h,g,hr=>by
  simp only[aC]at h g;obtain⟨us,vs,rfl,h1,h2⟩:=h;obtain⟨us',vs',rfl,g1,g2⟩:=g;simp only[Rel]at hr⊢;obtain⟨ps,qs,e,hr1,hr2⟩:=hr;exact⟨ps,qs,e,aI.same h1 g1 hr1,aI.same h2 g2 hr2⟩
 | .bd t x,_,_,_,h,g,hr=>by
  simp only[aC]at h g;obtain⟨u,rfl,h⟩:=h;obtain⟨u',rfl,g⟩:=g;simp only[Rel]at hr⊢;obtain⟨q,e,hr⟩:=hr;exact⟨q,e,aC.same h g hr⟩
theorem aI.same {Z:aD} {w:World} {A:Nat->Prop}:∀{x:List CV} {y y':List AV} {v:List Value},aI Z x y->aI Z x y'->aG w A y v->aG w A y' v
 |[],_,_,_,h,g,hr=>by simp only[aI]at h g;subst h;subst g;exact hr
 |_::_,_,_,_,h,g,hr=>by
  simp only[aI]at h g;obtain⟨y,r,rfl,h1,h2⟩:=h;obtain⟨y',r',rfl,g1,g2⟩:=g;simp only[aG]at hr⊢;obtain⟨v,q,e,hr1,hr2⟩:=hr;exact⟨v,q,e,aC.same h1 g1 hr1,aI.same h2 g2 hr2⟩
end
theorem bB.same {Z:aD} {C:Cx} {s:Sl} {LB:List aj} {y y':AV} (h:aC Z x y) (g:aC Z x y') (hp:bB C N o s LB y):bB C N o s LB y':=λF w a h1 h2 h3 h4 K Q k=>hp F w a h1 h2 h3 h4 K Q λv w' hv hc=>k v w' (aC.same h g hv) hc
