/- What the orders of a tail say of worlds; the rule for regions whose order is open. -/
import Derived.Test.YtnocmolegijmkaaGreatKB12
import Derived.Test.YtnocmolegijmkaaGreatKD3
set_option linter.all false
noncomputable section
namespace Go.Bw
open Go
def P0 (C:Cx) (N:Nat) (ops:Array Oper) (p:Nat×(Nat×List AV)):Prop:=∃o,ops[p.1]? =some o/\o.guard=none/\o.dst=some p.2.1/\p.2.1<N/\(∀e∈o.after,Region.binds .any e=false)/\∀s L,fF C N o s L p.2.2
def cX (st:Nat->Option Nat):bM->List au
 |[]=>[]
 |p::A=>(match st p.1 with
  |some b=>[.box b p.2.2]
  |none=>[])++cX st A
def eP (st:Nat->Option Nat):bM->Nat
 |[]=>0
 |p::A=>(match st p.1 with
  |some _=>0
  |none=>1)+eP st A
def gI (st:Nat->Option Nat) (i b:Nat):Nat->Option Nat:=λk=>if k=i then some b else st k
def my (st:Nat->Option Nat) (A:bM):List ((Nat×List AV)×Nat):=A.map λp=>(p.2,(st p.1).getD 0)
section
variable {C:Cx} {N:Nat} {ops:Array Oper} {st:Nat->Option Nat}
theorem Kk (j:Nat):∀A:bM,(cX st A).Perm (cX st (b8 ops j A)++cX st (cn ops j A))
 |[]=>List.Perm.refl _
 |p::A=>by
  have ih:=Kk j A;simp only[b8,cn,S1]at ih⊢;cases hb:eA ops p.1 j with
  |true=>
   simp only[qx,if_true,cX,jH,if_false,kB];exact ih.append_left _
  |false=>
   simp only[vJ,if_true,cX,jH,if_false];refine(ih.append_left _).trans ?_;rw[<-kB,<-kB];exact List.perm_append_comm.append_right _
theorem Lr (j:Nat):∀A:bM,eP st A=eP st (b8 ops j A)+eP st (cn ops j A)
 |[]=>rfl
 |p::A=>by
  have ih:=Lr j A;simp only[b8,cn,S1]at ih⊢;cases hb:eA ops p.1 j with
  |true=>simp only[qx,if_true,eP,jH,if_false];omega
  |false=>simp only[vJ,if_true,eP,jH,if_false];omega
theorem Mc:∀{A:bM},(∀p∈A,st p.1≠none)->eP st A=0
 |[],_=>rfl
 |p::A,h=>by
  simp only[eP];rw[Mc (A:=A) λq hq=>h q (by simp[hq])];have:=h p (by simp);cases hs:st p.1 with
  |none=>exact absurd hs this
  |some b=>rfl
theorem MP:∀{A:bM} {p:Nat×(Nat×List AV)},p∈A->st p.1=none->0<eP st A
 |q::A,p,hp,hs=>by
  simp only[eP];rcases cu.1 hp with rfl|hp
  ·rw[hs];simp only;omega
  ·have:=MP hp hs;omega
theorem Md:∀{A:bM},(∀p∈A,st p.1≠none)->cO (my st A)=cX st A
 |[],_=>rfl
 |p::A,h=>by
  have ih:=Md (A:=A) λq hq=>h q (by simp[hq]);have:=h p (by simp);cases hs:st p.1 with
  |none=>exact absurd hs this
  |some b=>
   simp only[cO,my]at ih;simp only[cX,hs,cO,my,dY,S2,List.singleton_append,ih]
theorem VQ (A:bM):(my st A).map (·.1)=mG A:=by simp[my,mG]
theorem Ls {i b:Nat}:∀{A:bM},(∀p∈A,p.1≠i)->cX (gI st i b) A=cX st A/\eP (gI st i b) A=eP st A
 |[],_=>⟨rfl,rfl⟩
 |p::A,h=>by
  obtain⟨h1,h2⟩:=Ls (b:=b) (A:=A) λq hq=>h q (by simp[hq]);have hne:=h p (by simp);simp only[cX,eP,h1,h2,gI,hne,if_false,and_self]
theorem Me {b:Nat}:∀{A:bM} {p:Nat×(Nat×List AV)},p∈A->(A.map (·.1)).Nodup->st p.1=none->(cX (gI st p.1 b) A).Perm (cX st A++[.box b p.2.2])/\eP (gI st p.1 b) A+1=eP st A
 |q::A,p,hp,hnd,hs=>by
  simp only[dY,S8,dB,not_exists,not_and]at hnd;rcases cu.1 hp with rfl|hp
  ·obtain⟨h1,h2⟩:=Ls (st:=st) (b:=b) (A:=A) (i:=p.1) λq hq he=>hnd.1 q hq he;simp only[cX,eP,h1,h2,hs];refine⟨?_,by simp[gI];omega⟩;simp only[gI,if_true,Am];exact DF
  ·have hne:q.1≠p.1:=λhe=>hnd.1 p hp he.symm;obtain⟨h1,h2⟩:=Me (b:=b) hp hnd.2 hs;simp only[cX,eP];have e:gI st p.1 b q.1=st q.1:=by simp[gI,hne]
   rw[e];refine⟨?_,by omega⟩;rw[kB];exact h1.append_left _
theorem bI.back {G:Gl} {w w':World} {F:Nat->Prop} {ηs Ls' ηr:List au} (hH1:bI G w F (ηs++ηr)) (hh:bI G w' (λb=>F b\/b∈ids ηr) Ls') (hext:Ext ηs w Ls' w'):bI G w' F (Ls'++ηr)/\Ext (ηs++ηr) w (Ls'++ηr) w':=by
 have hlt:=hH1.lt;have hnd:=hH1.nodup;rw[cp,nV]at hnd;have hA:Al (λb=>F b\/b∈ids ηr) Ls'=Al F (Ls'++ηr):=od;have hmem:∀b,b∈ids (ηs++ηr)↔b∈ids ηs\/b∈ids ηr:=λb=>by rw[cp,cL]
 have hnew:∀b∈ids Ls',b∈ids ηs\/w.heap.size<=b:=hext.new;have hr:∀b∈ids ηr,b<w.heap.size/\b∉ids ηs:=λb hb=>⟨hlt b (by simp[cp,hb]),λhm=>hnd.2.2 b hm b hb rfl⟩;have hE:Ext (ηs++ηr) w (Ls'++ηr) w':=by
  refine⟨hext.os,hext.tape,hext.output,hext.size,λb hb hn=>hext.block b hb λhm=>hn ((hmem b).2 (.inl hm)),λb hb=>?_,hext.drawn⟩;rw[cp,cL]at hb;rcases hb with hb|hb
  ·exact(hnew b hb).imp (λhm=>(hmem b).2 (.inl hm)) id
  ·exact .inl ((hmem b).2 (.inr hb))
 have hk:dm w (Al F (ηs++ηr)) w' (Al F (Ls'++ηr)):=hE.keeps;refine⟨⟨λx hx=>?_,?_,λb hb=>?_,λb hb=>hh.bound b (.inl hb),hH1.cm.bo hk⟩,hE⟩
 ·rcases cL.1 hx with hx|hx
  ·rw[<-hA];exact hh.eN x hx
  ·have hx0:=hH1.eN x (by simp[hx]);refine hx0.bo hk λb hb=>?_;have hbm:b∈ids ηr:=eH.2 ⟨x,hx,hb⟩;exact hext.block b (hr b hbm).1 (hr b hbm).2
 ·rw[cp,nV];refine⟨hh.nodup,hnd.2.1,λa ha b hb hab=>?_⟩;subst hab;rcases hnew a ha with h1|h1
  ·exact(hr a hb).2 h1
  ·have:=(hr a hb).1;omega
 ·rw[cp,cL]at hb;rcases hb with hb|hb
  ·exactλhF=>hh.free b hb (.inl hF)
  ·exact hH1.free b ((hmem b).2 (.inr hb))
theorem bI.drop {G:Gl} {w:World} {F:Nat->Prop} {L W:List au} (h:bI G w F (L++W)):bI G w F L:=by
 have hsub:∀b∈ids L,b∈ids (L++W):=λb hb=>by rw[cp];exact qv _ hb
 have hk:=dm.sub (w:=w) (F:=F) hsub;have hnd:=h.nodup;rw[cp,nV]at hnd;exact⟨λx hx=>(h.eN x (by simp[hx])).bo hk (λ_ _=>rfl),hnd.1,λb hb=>h.free b (hsub b hb),h.bound,h.cm.bo hk⟩
theorem Ext.perm {L L' L'':List au} {w w':World} (h:Ext L w L' w') (hp:L'.Perm L''):Ext L w L'' w':=⟨h.os,h.tape,h.output,h.size,h.block,λb hb=>h.new b ((A8 hp).mem_iff.2 hb),h.drawn⟩
theorem Ext.drop {L L' W:List au} {w w':World} (h:Ext L w (L'++W) w'):Ext L w L' w':=⟨h.os,h.tape,h.output,h.size,h.block,λb hb=>h.new b (by rw[cp];exact qv _ hb),h.drawn⟩
structure PE (C:Cx) (N:Nat) (ops:Array Oper) (A:bM) (s:Sl):Prop where
 ok:∀p∈A,P0 C N ops p
 nd:(A.map (·.1)).Nodup
 dst:∀p∈A,∀j oj,ops[j]? =some oj->j≠p.1->oj.dst≠some p.2.1
 sl:∀p∈A,s p.2.1=none
structure P1 (A:bM) (listed wl:Array Bool) (st:Nat->Option Nat):Prop where
 h1:∀i,wl.getD i true=false->listed.getD i true=false\/∃p∈A,p.1=i/\st i=none
 h2:∀i,wl.getD i false=true->listed.getD i false=true/\∀p∈A,p.1=i->st i≠none
 h3:∀i,listed.getD i true=false->wl.getD i true=false
 h4:∀i,listed.getD i false=true->(∀p∈A,p.1=i->st i≠none)->wl.getD i false=true
 h5:∀p∈A,st p.1=none->wl.getD p.1 true=false
 h6:∀p∈A,listed.getD p.1 true=true
 h7:∀p∈A,listed.getD p.1 false=true
theorem Kc (l:Array Bool) (i:Nat):(l.setIfInBounds i true).getD i true=true:=by
 rcases mN i l.size with h|h
 ·simp[h]
 ·simp[vL,h]
theorem DX {l:Array Bool} {i:Nat} (h:l.getD i true=false):(l.setIfInBounds i true).getD i false=true:=by
 rcases mN i l.size with h'|h'
 ·simp[h']
 ·simp[vL,h']at h
theorem Lt:∀{A:bM} {p q:Nat×(Nat×List AV)},(A.map (·.1)).Nodup->p∈A->q∈A->p.1=q.1->p=q
 |x::A,p,q,hnd,hp,hq,he=>by
  simp only[dY,S8,dB,not_exists,not_and]at hnd;rcases cu.1 hp with h1|h1<;>rcases cu.1 hq with h2|h2
  ·rw[h1,h2]
  ·exact absurd (by rw[<-he,h1]) (hnd.1 q h2)
  ·exact absurd (by rw[he,h2]) (hnd.1 p h1)
  ·exact Lt hnd.2 h1 h2 he
theorem Tv {i j:Nat} {o:Oper} (ho:ops[j]? =some o) (h:eA ops i j=true):∃e∈o.after,Region.binds .any e=true/\e.on=i:=by
 unfold eA at h;rw[ho]at h;simp only[ln,bG,beq_iff_eq]at h;obtain⟨q,hq,h1,h2⟩:=h;exact⟨q,by simpa using hq,h1,h2⟩
variable {Qn:Sl->List au->Prop} {Qp:AV->List au->Prop} {Q:AQ}
theorem U5 (hQn:∀s L,Qn s L->∃O',(∀t x,look O' t=some x->s t=some x)/\Q .norm O' L) (hQp:∀x L,Qp x L->Q (.aM x) [] L):
  ∀(m n:Nat) (A:bM) (listed wl:Array Bool) (pend:fX) (s:Sl) (L:List au) (st:Nat->Option Nat),m=n+eP st A->gY C N ops Qn Qp n A listed pend s L->PE C N ops A s->P1 A listed wl st->
   ∀F w0 η0 a w,fN w (Al F (L++cX st A)) N a s->(∀p∈A,∀b,st p.1=some b->a.tmps.getD p.2.1 undef= .pointer (some ⟨b,0,none⟩))->bI C.G w F (L++cX st A)->a.defers=[]->Ext η0 w0 (L++cX st A) w->
    wpAny C.P .any ops (CQ C.G N F w0 η0 Q) m wl a w:=by
 intro m
 induction m with
 |zero=>
  intro n A listed wl pend s L st hm h hA hW F w0 η0 a w hs hptr hh hdf hx;have hn:n=0:=by omega
  subst hn;have hall:∀p∈A,st p.1≠none:=λp hp hs=>by have:=MP hp hs;omega
  refine⟨?_,?_⟩
  ·refine acp.2 λj hj=>?_;obtain⟨hju,o,ho,hd⟩:=mem_ready.1 hj;rcases hW.h1 j hju with h1|⟨p,hp,rfl,h2⟩
   ·have:j∈Region.ready .any ops listed:=mem_ready.2 ⟨h1,o,ho,λe he hb=>(hW.h2 _ (hd e he hb)).1⟩;rw[h.2.1]at this;cases this
   ·exact hall p hp h2
  ·obtain⟨O',h1,h2⟩:=hQn s L h.2.2;refine CQ.intro .norm rfl h2 ⟨?_,hh.drop,hdf⟩ hx.drop;have hk:=dm.sub (w:=w) (F:=F) (L:=L++cX st A) (L':=L) λb hb=>by rw[cp];exact qv _ hb
   exact⟨hs.1,λt x hx=>⟨(hs.2 t x (h1 t x hx)).1,(hs.2 t x (h1 t x hx)).2.bo hk⟩⟩
 |succ m ih=>
  intro n A listed wl pend s L st hm h hA hW F w0 η0 a w hs hptr hh hdf hx;refine⟨λh0=>?_,λj hj=>?_⟩
  ·have hall:∀p∈A,st p.1≠none:=λp hp hsn=>by
    obtain⟨o,ho,_,_,_,hna,_⟩:=hA.ok p hp;have:p.1∈Region.ready .any ops wl:=mem_ready.2 ⟨hW.h5 p hp hsn,o,ho,λe he hb=>by rw[hna e he]at hb;cases hb⟩;rw[h0]at this;cases this
   have hr0:Region.ready .any ops listed=[]:=by
    refine acp.2 λj hj=>?_;obtain⟨hju,o,ho,hd⟩:=mem_ready.1 hj;have:j∈Region.ready .any ops wl:=mem_ready.2 ⟨hW.h3 j hju,o,ho,λe he hb=>hW.h4 _ (hd e he hb) λp hp he'=>by rw[<-he'];exact hall p hp⟩;rw[h0]at this;cases this
   have hq:Qn s L:=by
    cases n with
    |zero=>exact h.2.2
    |succ n=>exact h.2.1 hr0
   obtain⟨O',h1,h2⟩:=hQn s L hq;refine CQ.intro .norm rfl h2 ⟨?_,hh.drop,hdf⟩ hx.drop;have hk:=dm.sub (w:=w) (F:=F) (L:=L++cX st A) (L':=L) λb hb=>by rw[cp];exact qv _ hb
   exact⟨hs.1,λt x hx=>⟨(hs.2 t x (h1 t x hx)).1,(hs.2 t x (h1 t x hx)).2.bo hk⟩⟩
  ·obtain⟨hju,o,ho,hdep⟩:=mem_ready.1 hj;unfold wpOp;simp only[ho];rcases hW.h1 j hju with hjl|⟨p,hp,hpj,hsn⟩
   ·--an operation of the tail
    have hjr:j∈Region.ready .any ops listed:=mem_ready.2 ⟨hjl,o,ho,λe he hb=>(hW.h2 _ (hdep e he hb)).1⟩;cases n with
    |zero=>rw[h.2.1]at hjr;cases hjr
    |succ n=>
     obtain⟨o',ho',hst⟩:=h.2.2 j hjr;rw[ho]at ho';cases ho';have hex:∀p∈b8 ops j A,st p.1≠none:=λp hp=>by
      simp only[b8,jh]at hp;obtain⟨e,he,hb,heq⟩:=Tv ho hp.2;exact(hW.h2 p.1 (by rw[<-heq];exact hdep e he hb)).2 p hp.1 rfl
     have hstp:=AX hst (my st (b8 ops j A)) (VQ _);have hents:cO (my st (b8 ops j A))=cX st (b8 ops j A):=Md hex;have hperm:(L++cX st A).Perm ((L++cO (my st (b8 ops j A)))++cX st (cn ops j A)):=by
      rw[hents,kB];exact(Kk j A).append_left _
     have hH1:=hh.perm hperm;have hx1:=hx.perm hperm;have hzs:∀z∈my st (b8 ops j A),∃p∈A,eA ops p.1 j=true/\z.1=p.2/\st p.1=some z.2:=λz hz=>by
      simp only[my,dB]at hz;obtain⟨p,hp,rfl⟩:=hz;have:=hex p hp;simp only[b8,jh]at hp;refine⟨p,hp.1,hp.2,rfl,?_⟩;cases hs:st p.1 with
      |none=>exact absurd hs this
      |some b=>rfl
     generalize my st (b8 ops j A)=zs at hstp hperm hH1 hx1 hzs hents;have hcnt:m=n+eP st (cn ops j A):=by
      have h1:=Lr (ops:=ops) (st:=st) j A;rw[Mc hex]at h1;omega
     have hs1:fN w (Al F ((L++cO zs)++cX st (cn ops j A))) N a (ga L.length zs s):=by
      rw[<-wI hperm];refine⟨hs.1,λt x ht=>?_⟩;simp only[ga]at ht;split at ht
      ·rename_i y hl;cases ht;have:look (fW L.length zs++[]) t=some x:=by simpa using hl
       rcases sV this with⟨z,hz,k,rfl,rfl⟩|h
       ·obtain⟨p,hp,_,he,hsp⟩:=hzs z hz;obtain⟨_,_,_,_,hlt,_⟩:=hA.ok p hp;rw[he];exact⟨hlt,by simp only[Rel];exact hptr p hp _ hsp⟩
       ·simp[look]at h
      ·exact hs.2 t x ht
     have hne:∀p∈A,j≠p.1:=λp hp he=>by
      have:=hW.h6 p hp;rw[<-he,hjl]at this;cases this
     have hsub:∀p∈cn ops j A,p∈A:=λp hp=>(jh.1 hp).1;have hW':P1 (cn ops j A) (listed.setIfInBounds j true) (wl.setIfInBounds j true) st:=by
      have hjne:∀{i:Nat} {l:Array Bool},(l.setIfInBounds j true).getD i true=false->j≠i:=λhi he=>by subst he;rw[Kc]at hi;cases hi
      refine⟨λi hi=>?_,λi hi=>?_,λi hi=>?_,λi hi hall=>?_,λp hp hsn=>?_,λp hp=>?_,λp hp=>?_⟩
      ·have hji:=hjne hi;rw[getD_set_ne true hji]at hi⊢;rcases hW.h1 i hi with h1|⟨p,hp,rfl,h2⟩
       ·exact .inl h1
       ·refine .inr ⟨p,?_,rfl,h2⟩;simp only[cn,jh,lU];refine⟨hp,?_⟩;cases hb:eA ops p.1 j with
        |false=>rfl
        |true=>exact absurd h2 (hex p (by simp only[b8,jh];exact⟨hp,hb⟩))
      ·by_cases hji:j=i
       ·subst hji;exact⟨DX hjl,λp hp he=>absurd he.symm (hne p (hsub p hp))⟩
       ·rw[getD_set_ne false hji]at hi⊢;obtain⟨h1,h2⟩:=hW.h2 i hi;exact⟨h1,λp hp he=>h2 p (hsub p hp) he⟩
      ·have hji:=hjne hi;rw[getD_set_ne true hji]at hi⊢;exact hW.h3 i hi
      ·by_cases hji:j=i
       ·subst hji;exact DX hju
       ·rw[getD_set_ne false hji]at hi⊢;refine hW.h4 i hi λp hp he hsn=>?_;cases hb:eA ops p.1 j with
        |false=>exact hall p (by simp only[cn,jh,lU];exact⟨hp,hb⟩) he hsn
        |true=>exact hex p (by simp only[b8,jh];exact⟨hp,hb⟩) (by rw[he];exact hsn)
      ·rw[getD_set_ne true (hne p (hsub p hp))];exact hW.h5 p (hsub p hp) hsn
      ·rw[getD_set_ne true (hne p (hsub p hp))];exact hW.h6 p (hsub p hp)
      ·rw[getD_set_ne false (hne p (hsub p hp))];exact hW.h7 p (hsub p hp)
     have hA':∀x:AV,PE C N ops (cn ops j A) (a8 (ga L.length zs s) o.dst (some x)):=λx=>by
      refine⟨λp hp=>hA.ok p (hsub p hp),(List.filter_sublist.map _).nodup hA.nd,λp hp=>hA.dst p (hsub p hp),λp hp=>?_⟩;have hd:o.dst≠some p.2.1:=hA.dst p (hsub p hp) j o ho (hne p (hsub p hp));rw[mT λd hd' he=>hd (by rw[hd',he])];simp only[ga];cases hl:look (fW L.length zs) p.2.1 with
      |none=>exact hA.sl p (hsub p hp)
      |some y=>
       exfalso;have:look (fW L.length zs++[]) p.2.1=some y:=by simpa using hl
       rcases sV this with⟨z,hz,k,h1,_⟩|h
       ·obtain⟨q,hq,hb,he,_⟩:=hzs z hz;obtain⟨oq,hoq,_,hdq,_⟩:=hA.ok q hq;have hqp:q.1≠p.1:=λe=>by
         have:=(jh.1 hp).2;rw[<-e,hb]at this;cases this
        exact hA.dst p (hsub p hp) q.1 oq hoq hqp (by rw[hdq,<-he,h1])
       ·simp[look]at h
     have hptr':∀{v:Value},∀p∈cn ops j A,∀b,st p.1=some b->(a.put o.dst v).tmps.getD p.2.1 undef= .pointer (some ⟨b,0,none⟩):=λ{v} p hp b hb=>by
      have hd:o.dst≠some p.2.1:=hA.dst p (hsub p hp) j o ho (hne p (hsub p hp));rw[pe λd hd' he=>hd (by rw[hd',he])];exact hptr p (hsub p hp) b hb
     obtain⟨hdst,hst2⟩:=hstp;have put:∀{x:AV} {v:Value} {w':World} {L':List au},Rel w' (Al F (L'++cX st (cn ops j A))) x v->Ext ((L++cO zs)++cX st (cn ops j A)) w (L'++cX st (cn ops j A)) w'->fN w' (Al F (L'++cX st (cn ops j A))) N (a.put o.dst v) (a8 (ga L.length zs s) o.dst (some x)):=by
      intro x v w' L' hv hext;refine⟨by rw[A9];exact hs1.1,λt y hy=>?_⟩;by_cases htd:o.dst=some t
      ·have htN:=AW hdst t htd;rw[htd]at hy⊢;simp only[a8,if_true,aE]at hy;subst hy;exact⟨htN,by rw[As (by rw[hs1.1];exact htN)];exact hv⟩
      ·have hne:∀d,o.dst=some d->t≠d:=λd hd' he=>htd (by rw[hd',he]);rw[mT hne]at hy;obtain⟨h1,h2⟩:=hs1.2 t y hy;exact⟨h1,by rw[pe hne];exact h2.bo hext.keeps⟩
     rcases hst2 with⟨hw,R,hE,h1,h2⟩|⟨hw,h1⟩
     ·rw[cj (Av hs1 hw)];refine .inl (hE (λb=>F b\/b∈ids (cX st (cn ops j A))) w a hs1.1 hdf hH1.front (λt _ y hy=>by rw[od];exact hs1.2 t y hy) _ _ ?_ ?_)
      ·intro v w' x L' hR hv hH' hext;obtain⟨g1,g2⟩:=bI.back hH1 hH' hext;rw[od]at hv;exact ih n (cn ops j A) _ _ _ _ L' st hcnt (h1 x L' hR) (hA' x) hW' F w0 η0 _ w' (put hv g2) hptr' g1 (by rw[w7];exact hdf) (hx1.trans g2)
      ·intro v w' x L' hR hv hH' hext;obtain⟨g1,g2⟩:=bI.back hH1 hH' hext;rw[od]at hv;have hk:=dm.sub (w:=w') (F:=F) (L:=L'++cX st (cn ops j A)) (L':=L') λb hb=>by rw[cp];exact qv _ hb
       exact⟨.aM x,[],L',hQp x L' (h2 x L' hR),⟨v,rfl,hv.bo hk⟩,⟨⟨hs1.1,λt x hx=>by simp[AE.sl,look]at hx⟩,g1.drop,hdf⟩,(hx1.trans g2).drop⟩
     ·rw[bK (by rw[Av hs1 hw];simp)];exact ih n (cn ops j A) _ _ _ _ (L++cO zs) st hcnt h1 (hA' _) hW' F w0 η0 _ w (put (x:= .v undef) (v:=undef) (by simp only[Rel]) (Ext.refl _ w)) hptr' hH1 (by rw[w7];exact hdf) hx1
   ·--a fresh box
    subst hpj;obtain⟨o',ho',hg,hd,hlt,hna,hN⟩:=hA.ok p hp;rw[ho]at ho';cases ho';rw[cj (by simp[Region.wanted,hg])];refine .inl (hN (λ_=>none) (L++cX st A) F w a hs.1 hdf hh (λt _ y hy=>by cases hy) _ _ λvs e hv=>?_);obtain⟨hp1,hp2⟩:=Me (b:=w.heap.size) hp hA.nd hsn;have hperm:((L++cX st A)++[au.box w.heap.size p.2.2]).Perm (L++cX (gI st p.1 w.heap.size) A):=by
     rw[kB];exact(hp1.symm).append_left _
    have hext:=n9 w (.cells vs.toArray e) (L++cX st A) (.box w.heap.size p.2.2) (by simp[au.ids]);have hkeep:=hext.keeps (F:=F);refine ih n A listed (wl.setIfInBounds p.1 true) pend s L (gI st p.1 w.heap.size) (by omega) h hA ?_ F w0 η0 _ _ ?_ ?_ ?_ (by rw[w7];exact hdf) ((hx.trans hext).perm hperm)
    ·refine⟨λi hi=>?_,λi hi=>?_,λi hi=>?_,λi hi hall=>?_,λq hq hsq=>?_,hW.h6,hW.h7⟩
     ·have hji:p.1≠i:=λhe=>by subst he;rw[Kc]at hi;cases hi
      rw[getD_set_ne true hji]at hi;rcases hW.h1 i hi with h1|⟨q,hq,rfl,h2⟩
      ·exact .inl h1
      ·exact .inr ⟨q,hq,rfl,by simp only[gI,jK hji,if_false];exact h2⟩
     ·by_cases hji:p.1=i
      ·subst hji;exact⟨hW.h7 p hp,λq hq he=>by simp[gI]⟩
      ·rw[getD_set_ne false hji]at hi;obtain⟨h1,h2⟩:=hW.h2 i hi;exact⟨h1,λq hq he=>by simp only[gI,jK hji,if_false];exact h2 q hq he⟩
     ·have hji:p.1≠i:=λhe=>by
       subst he;have:=hW.h6 p hp;rw[hi]at this;cases this
      rw[getD_set_ne true hji];exact hW.h3 i hi
     ·by_cases hji:p.1=i
      ·subst hji;exact DX hju
      ·rw[getD_set_ne false hji];refine hW.h4 i hi λq hq he hsq=>hall q hq he ?_;simp only[gI,jK hji,if_false];exact hsq
     ·have hji:p.1≠q.1:=λhe=>by rw[<-he]at hsq;simp[gI]at hsq
      rw[getD_set_ne true hji];refine hW.h5 q hq ?_;simpa only[gI,jK hji,if_false]using hsq
    ·rw[<-wI hperm];refine⟨by rw[A9];exact hs.1,λt x hx=>?_⟩;have htd:t≠p.2.1:=λhe=>by rw[he,hA.sl p hp]at hx;cases hx
     obtain⟨h1,h2⟩:=hs.2 t x hx;refine⟨h1,?_⟩;rw[pe λd hd' he=>htd (by rw[he];rw[hd]at hd';cases hd';rfl)];exact h2.bo hkeep
    ·intro q hq b hb;by_cases hqp:q.1=p.1
     ·have:=Lt hA.nd hq hp hqp;subst this;simp only[gI,if_true,aE]at hb;subst hb;rw[hd];exact As (by rw[hs.1];exact hlt)
     ·simp only[gI,hqp,if_false]at hb;have hdq:o.dst≠some q.2.1:=hA.dst q hq p.1 o ho (jK hqp);rw[pe λd hd' he=>hdq (by rw[hd',he])];exact hptr q hq b hb
    ·refine bI.perm hperm ?_;refine hh.push (by simp) (λb hb=>lq w _ b hb) (by simp[au.ids]) (by simp[au.ids]) ?_;exact⟨e,vs,lX w _,hv.bo hkeep⟩
end
def nK (T:bQ) (ops:Array Oper) (N:Nat):List Nat->Option bM
 |[]=>some []
 |i::r=>match ops[i]?,nK T ops N r with
  |some ⟨some d,.alloc t,_,_,after,none⟩,some A=>match aY T t with
   |some ⟨_,_,_,z⟩=>match Nat.blt d N&&after.toList.all λe=>!Region.binds .any e with
    |true=>some ((i,(d,z.map .v))::A)
    |false=>none
   |none=>none
  |_,_=>none
def ss (ops:Array Oper):List Nat->List (Nat×Nat)
 |[]=>[]
 |i::r=>match ops[i]? with
  |some o=>match o.dst with
   |some d=>(i,d)::ss ops r
   |none=>ss ops r
  |none=>ss ops r
theorem MQ {E:Env} {ops:Array Oper} {N:Nat}:∀{al:List Nat} {A:bM},nK E.T ops N al=some A->(∀p∈A,P0 E.toCx N ops p)/\A.map (·.1)=al/\ss ops al=A.map λp=>(p.1,p.2.1)
 |[],A,h=>by simp only[nK,aE]at h;subst h;simp[ss]
 |i::r,A,h=>by
  simp only[nK]at h;split at h
  ·rename_i d t ty pos after A' ho hr;split at h
   ·rename_i td sz by' z ht;split at h
    ·rename_i hB;simp only[aE]at h;subst h;simp only[bG,lT,je,lU]at hB;obtain⟨g1,g2,g3⟩:=MQ hr;refine⟨λp hp=>?_,by simp[g2],by simp[ss,ho,g3]⟩;rcases cu.1 hp with rfl|hp
     ·refine⟨_,ho,rfl,rfl,hB.1,λe he=>?_,λs L=>fF.alloc rfl ht⟩;exact hB.2 e (by simpa using he)
     ·exact g1 p hp
    ·cases h
   ·cases h
  ·cases h
def pH (ops:Array Oper) (pre:List Nat) (tl:List (Nat×TK)) (al:List Nat):Bool:=
 Region.noSelect ops&&Cy ops pre (Array.replicate ops.size false)&&nG ops (jQ ops tl) (kG al (kG pre (Array.replicate ops.size false))) [] (ss ops al)&&Nat.beq (pre.length+((jQ ops tl).length+al.length)) ops.size&&
  fw al&&(al.all λi=>!pre.contains i&&(List.range ops.size).all λj=>Nat.beq j i||match ops[i]?,ops[j]? with
   |some oi,some oj=>(match oi.dst with
    |some d=>Cl oj.dst d
    |none=>true)
   |_,_=>true)
def rM (A:bM) (s:Sl):Sl:=λt=>match(A.map (·.2.1)).contains t with
 |true=>none
 |false=>s t
theorem U6 {A:bM} {s:Sl} {t:Nat} {x:AV} (h:rM A s t=some x):s t=some x:=by
 unfold rM at h;split at h
 ·cases h
 ·exact h
theorem nY:∀(l:List Nat) (q:Array Bool) (i:Nat) (d:Bool),(kG l q).getD i d=if i∈l/\i<q.size then true else q.getD i d
 |[],q,i,d=>by simp[kG]
 |j::l,q,i,d=>by
  have ih:=nY l (q.setIfInBounds j true) i d;simp only[kG,JY]at ih⊢;rw[ih];simp only[Array.size_setIfInBounds,cu];by_cases hj:j=i
  ·subst hj;by_cases hlt:j<q.size
   ·simp[hlt]
   ·simp[hlt,vL (Nat.le_of_not_lt hlt)]
  ·have hij:i≠j:=jK hj;rw[getD_set_ne d hj];simp only[hij,false_or]
theorem Kw:∀A:bM,cX (λ_=>none) A=[]/\eP (λ_=>none) A=A.length
 |[]=>⟨rfl,rfl⟩
 |p::A=>by
  obtain⟨h1,h2⟩:=Kw A;simp only[cX,eP,h1,h2,jd,fu];exact⟨trivial,by omega⟩
theorem bV.WH {E:Env} {N:Nat} {ops:Array Oper} {L:List au} {Q:AQ} {O:Sg} {id:Nat} (pre:List Nat) (tl:List (Nat×TK)) (al:List Nat) (A:bM) (hm:E.P.follows .mixedOrders=true) (hA:nK E.T ops N al=some A) (hB:pH ops pre tl al=true) (hl:(fS ops pre).length=pre.length)
  (h:rL E.toCx N L ops (λst=>∃O',(∀t x,look O' t=some x->st.1 t=some x)/\iF st.2 λzs=>jx E.toCx N ops (λs L'=>∃O1,(∀t x,look O1 t=some x->s t=some x)/\Q .norm O1 L') (λx L'=>Q (.aM x) [] L') (jQ ops tl) A [] (rM A (look (fW L.length zs++O'))) (L++cO zs)) (fS ops pre) (look O,[])):
  bV E.toCx N (.region id ops true) Q O L:=λF w0 η0 a w hs hx=>by
 simp only[pH,bG]at hB;obtain⟨⟨⟨⟨⟨_,hlex⟩,htl⟩,hsz⟩,hnd⟩,hal⟩:=hB;have hsz:=bC hsz;obtain⟨a1,a2,a3⟩:=MQ hA;rw[a3]at htl;have hrep:∀(n:Nat) (i:Nat) (d:Bool),(Array.replicate n false).getD i d=if i<n then false else d:=λn i d=>by
  by_cases hi:i<n<;>simp[hi]
 have hmem:∀p∈A,p.1∈al/\p.1∉pre/\p.1<ops.size:=λp hp=>by
  have h1:p.1∈al:=by rw[<-a2];exact dB.2 ⟨p,hp,rfl⟩
  simp only[je,bG,lU]at hal;obtain⟨o,ho,_⟩:=a1 p hp;exact⟨h1,by simpa using(hal p.1 h1).1,(lS.1 ho).1⟩
 have halm:∀i∈al,∃p∈A,p.1=i:=λi hi=>by rw[<-a2]at hi;obtain⟨p,hp,he⟩:=dB.1 hi;exact⟨p,hp,he⟩
 refine wp_mono (Q:=CQ E.G N F w L Q) ?_ (λe a w' ⟨e0,O2,L2,g1,g2,g3,g4⟩=>⟨e0,O2,L2,g1,g2,g3,hx.trans g4⟩);refine wp_region_any hm ?_;have hcut:rL E.toCx N L ops (λst=>Cut E.toCx N ops L (λF w1=>CQ E.G N F w1 L Q) ((jQ ops tl).length+al.length) (kG pre (Array.replicate ops.size false)) st) (fS ops pre) (look O,[]):=by
  refine En (λst ⟨O',h1,h2⟩=>?_) h;intro F w1 w a zs hd;have hb:=AX h2 zs hd.eq;have hT:=wK _ _ _ _ [] _ _ (λp hp=>Eh hp) (λp hp=>by cases hp) htl hb;obtain⟨e1,e2⟩:=Kw A;have hlen:A.length=al.length:=by rw[<-a2];simp
  have hsl:fN w (Al F ((L++cO zs)++cX (λ_=>none) A)) N a (rM A (look (fW L.length zs++O'))):=by
   rw[e1,jd];refine⟨hd.size,λt x hx=>?_⟩;rcases sV (U6 hx)with⟨z,hz,k,rfl,rfl⟩|hx
   ·obtain⟨g1,g2⟩:=hd.nu z hz;exact⟨g1,by simp only[Rel];exact g2⟩
   ·exact hd.sl t x (h1 t x hx)
  refine U5 (Q:=Q) (λ_ _ h=>h) (λ_ _ h=>h) _ _ A _ (kG pre (Array.replicate ops.size false)) _ _ _ (λ_=>none) (by rw[e2,hlen]) hT ⟨a1,by rw[a2];exact D8 hnd,λp hp j oj hoj hne=>?_,λp hp=>?_⟩ ?_ F w1 L a w hsl (λp hp b hb=>by cases hb) (by rw[e1,jd];exact hd.hp) hd.df ⟨hd.cls.1.1,hd.cls.2.1,hd.cls.2.2.1,hd.cls.2.2.2.1,λb hb _=>hd.cls.2.2.2.2 b hb,λb hb=>?_,hd.cls.1.2⟩
  ·obtain⟨oi,hoi,_,hdi,_⟩:=a1 p hp;simp only[je,bG]at hal;have:=(hal p.1 (hmem p hp).1).2 j (J1.2 (lS.1 hoj).1);simp only[hoi,hoj,hdi,DL]at this;rcases this with h|h
   ·exact absurd (bC h) hne
   ·exact KS h
  ·have:(A.map (·.2.1)).contains p.2.1=true:=by rw[JW];exact dB.2 ⟨p,hp,rfl⟩
   simp only[rM,this]
  ·have hsize:(kG pre (Array.replicate ops.size false)).size=ops.size:=by
    have:∀(l:List Nat) (q:Array Bool),(kG l q).size=q.size:=by
     intro l
     induction l with
     |nil=>intro q;rfl
     |cons j l ih=>intro q;simp only[kG,JY]at ih⊢;rw[ih];simp
    rw[this];simp
   refine⟨λi hi=>?_,λi hi=>?_,λi hi=>?_,λi hi hall=>?_,λp hp _=>?_,λp hp=>?_,λp hp=>?_⟩
   ·by_cases hia:i∈al
    ·exact .inr ((halm i hia).imp λp hp=>⟨hp.1,hp.2,rfl⟩)
    ·left;rw[nY,bK (λh=>hia h.1)];exact hi
   ·refine⟨by rw[nY,hi];simp,λp hp he=>?_⟩;exfalso;rw[nY]at hi;split at hi
    ·rename_i h;exact(hmem p hp).2.1 (by rw[he];exact h.1)
    ·rw[hrep]at hi;split at hi<;>cases hi
   ·rw[nY]at hi;split at hi
    ·cases hi
    ·exact hi
   ·rw[nY]at hi;split at hi
    ·rename_i h;obtain⟨p,hp,he⟩:=halm i h.1;exact absurd rfl (hall p hp he)
    ·exact hi
   ·rw[nY,bK (λh=>(hmem p hp).2.1 h.1),hrep,cj (hmem p hp).2.2]
   ·rw[nY,cj ⟨(hmem p hp).1,by rw[hsize];exact(hmem p hp).2.2⟩]
   ·rw[nY,cj ⟨(hmem p hp).1,by rw[hsize];exact(hmem p hp).2.2⟩]
  ·rw[e1,jd,cp,cL]at hb;rcases hb with hb|hb
   ·exact .inl hb
   ·obtain⟨x,hx,hb⟩:=eH.1 hb;obtain⟨z,hz,rfl⟩:=dB.1 hx;simp only[au.ids,oX]at hb;subst hb;exact .inr (hd.new z hz)
 have hany:=Lh _ _ _ (L5 pre _ _ WM hlex hl hcut);rw[hsz]at hany;have hc:gX w {w with drawn:=w.drawn+1}:=⟨⟨rfl,.of (DP _)⟩,rfl,rfl,bU _,λ_ _=>rfl⟩;have hd:mH E.G N F L w {w with drawn:=w.drawn+1} a (look O,[]) []:=
  ⟨hs.sg.1,hs.df,rfl,by simpa[cO]using hs.hp.later hc.2.2.2,λt x hx=>by
   obtain⟨h1,h2⟩:=hs.sg.2 t x hx;refine⟨h1,?_⟩;simp only[cO,vM,jd];exact h2.bo (hc.ext (L:=L)).keeps,by simp,hc,by simp⟩
 exact hany F w _ a [] hd
def ZD (Z:aH) (R:DR->Hp->Prop):AR->List au->Prop:=λr LB=>∃Z' d L,Z.le Z'/\DR.inst Z' d r/\HS Z' L LB/\R d L
def bL (E:Env) (N:Nat) (o:Oper) (O:TS) (L:Hp) (R:DR->Hp->Prop):Prop:=∀Z s LB,SS Z O s->HS Z L LB->cZ E.toCx N o s LB (ZD Z R)
section
variable {E:Env} {N K:Nat} {Q:DQ} {O:TS} {L:Hp} {o:Oper} {x:CV} {all rest:List Oper} {R:DR->Hp->Prop}
theorem bL.mono {R':DR->Hp->Prop} (h:bL E N o O L R) (hr:∀r L',R r L'->R' r L'):bL E N o O L R':=λZ s LB hs hh=>(h Z s LB hs hh).mono λ_ _ ⟨Z',d,L',h1,h2,h3,h4⟩=>⟨Z',d,L',h1,h2,h3,hr _ _ h4⟩
theorem bL.val (h:ba E N o O L x):bL E N o O L (λr L'=>r= .ret x/\L'=L):=λZ s LB hs hh=>by
 obtain⟨y,h1,h2⟩:=h Z s LB hs hh;refine(cZ.qm h2).mono ?_;rintro r L' ⟨rfl,rfl⟩;exact⟨Z,.ret x,L,.refl Z,⟨y,rfl,h1⟩,hh,rfl,rfl⟩
theorem bL.new {cells:List CV} {d:Nat} (hd:o.dst=some d) (h:∀Z s LB,SS Z O s->HS Z L LB->∃cs,aN Z cells cs/\fF E.toCx N o s LB cs):bL E N o O L (λr L'=>r= .ret (.own L.n 0)/\L'=L.push (.box cells)):=λZ s LB hs hh=>by
 obtain⟨cs,h1,h2⟩:=h Z s LB hs hh;refine(cZ.vh hd h2).mono ?_;rintro r L' ⟨b,rfl,rfl⟩;have hdom:=hh.gV L.n (bU _);have hl:Z.le (Z.iG L.n b):=aH.E2 hdom.1;have hbn:(Z.iG L.n b).b L.n=some b:=by simp[aH.iG]
 exact⟨_,.ret (.own L.n 0),L.push (.box cells),hl,⟨_,rfl,by simp only[aG];exact⟨b,_,hbn,rfl⟩⟩,hh.push hl (λ_ _=>rfl) (λi hi=>by simp[aH.iG,hi]) ⟨b,cs,hbn,rfl,h1.mono hl⟩,rfl,rfl⟩
theorem pn {Z:aH} {s:Sl} {p:Operand} (h:p∈o.op.operands.toList) {y:AV} (hy:ev s p=some y):ev (look (dv s (tmpsOf o))) p=some y:=by rw[fH h];exact hy
theorem bL.store {t:TypeId} {p v:Operand} {i off:Nat} {cs cs':List CV} {ti:TI} (ho:o.op= .store t p v) (hp:aV O p=some (.own i off)) (hv:aV O v=some x) (hi:L.e.get i=some (.box cs)) (ht:aY E.T t=some ti)
  (hk:Nat.beq (dG x).length ti.size=true) (h1:mq (dG x)=true) (hl:l5 cs off (dG x)=some cs'):bL E N o O L (λr L'=>r= .ret (.d (.v undef))/\L'=L.set i (.box cs')):=λZ s LB hs hh=>by
 obtain⟨y,h2,h3⟩:=b9 hs hp;simp only[aG]at h3;obtain⟨b,t',h3,rfl⟩:=h3;obtain⟨z,h4,h5⟩:=b9 hs hv;obtain⟨q,h6,h7⟩:=hh.en i _ hi;obtain⟨b',us,h8,rfl,h9⟩:=h7;rw[h3]at h8;cases h8;have hc:=Ay h5;obtain⟨us',h10,h11⟩:=Au hl h9 hc;refine(cZ.Ry (La ho (pn (Z:=Z) (by simp[ho,Op.operands]) h2) (pn (Z:=Z) (by simp[ho,Op.operands]) h4) h6 ht (by rw[hc.length];exact hk) (Eb h1 hc) h10)).mono ?_;rintro r L' ⟨rfl,rfl⟩;exact⟨Z,.ret (.d (.v undef)),L.set i (.box cs'),.refl Z,⟨_,rfl,rfl⟩,hh.set (.refl Z) (λ_ _=>rfl) (λ_ _=>rfl) (hh.lt hi) ⟨b,us',h3,rfl,h11⟩,rfl,rfl⟩
theorem bL.qJ {t:TypeId} {p v:Operand} {i n m e kk:Nat} {rows:List (List AV)} {r r':List AV} {y:AV} {ti:TI} (j off:Nat) (ho:o.op= .store t p v) (hp:aV O p=some (.oe i n m)) (hv:aV O v=some (.d y)) (hi:L.e.get i=some (.row e kk rows)) (hn:n=rows.length)
  (hm:m=j*kk+off) (hr:rows[j]? =some r) (ht:aY E.T t=some ti) (hk:Nat.beq (cg y).length ti.size=true) (h1:eV (cg y)=true) (hl:fc r off (cg y)=some r'):bL E N o O L (λr1 L'=>r1= .ret (.d (.v undef))/\L'=L.set i (.row e kk (rows.set j r'))):=λZ s LB hs hh=>by
 obtain⟨z,h2,h3⟩:=b9 hs hp;simp only[aG]at h3;obtain⟨a,c,t',h3,rfl⟩:=h3;obtain⟨z,h4,h5⟩:=b9 hs hv;simp only[aG]at h5;subst h5;obtain⟨q,h6,h7⟩:=hh.en i _ hi;obtain⟨⟨a',c',h8,rfl⟩,h9⟩:=h7;subst hn;rw[h3]at h8;cases h8;refine(cZ.Ry (Kg ho j off (pn (Z:=Z) (by simp[ho,Op.operands]) h2) hm (pn (Z:=Z) (by simp[ho,Op.operands]) h4) h6 hr ht hk h1 hl)).mono ?_;rintro r1 L' ⟨rfl,rfl⟩;exact⟨Z,.ret (.d (.v undef)),L.set i (.row e kk (rows.set j r')),.refl Z,⟨_,rfl,rfl⟩,hh.set (.refl Z) (λ_ _=>rfl) (λ_ _=>rfl) (hh.lt hi) ⟨⟨a,c,by simpa using h3,by simp⟩,by simpa using h9⟩,rfl,rfl⟩
theorem bL.lit {n:Nat} {t:TypeId} {parts:Array (Nat×Operand)} {e k sz by' sz' by'':Nat} {z z':List Value} {td':TD} {cells:List AV} (ho:o.op= .buildSlice t n parts)
  (ht:aY E.T t=some ⟨.slice e k,sz,by',z⟩) (hte:aY E.T e=some ⟨td',sz',by'',z'⟩) (hf:eK k (ee O) (gK n (z'.map .v)) parts.toList=some cells) (hb:Nat.ble (n*k) 16777216=true) (hk:Nat.ble 1 k=true):
  bL E N o O L (λr L'=>r= .ret (.os L.n n)/\L'=L.push (.row e k (chunk n k cells))):=λZ s LB hs hh=>by
 have hR:zd E.toCx N o (dv s (tmpsOf o)) LB (λx L'=>∃b,x= .os LB.length (some ⟨b,0,none⟩) n n/\L'=LB++[.row (.slice (some ⟨b,0,none⟩) n n) e k (chunk n k cells)]):=λF a w hst=>by
  have hf':eK k (look (dv s (tmpsOf o))) (gK n (z'.map .v)) parts.toList=some cells:=by
   rw[D6 λp hp=>fH (by rw[ho];simp only[Op.operands,dB];exact⟨p,hp,rfl⟩)];have key:∀(l:List (Nat×Operand)) (cs r:List AV),eK k (ee O) cs l=some r->eK k s cs l=some r:=by
    intro l
    induction l with
    |nil=>intro cs r h;exact h
    |cons p l ih=>
     intro cs r h;obtain⟨i,p⟩:=p;simp only[eK]at h⊢;split at h
     ·rename_i y hy;have hy':ev s p=some y:=by
       cases p with
       |tmp u=>exact kL hs hy
       |const v=>exact hy
       |global g=>exact hy
       |func f=>exact hy
      simp only[hy'];split at h
      ·exact ih _ _ h
      ·cases h
     ·cases h
   exact key _ _ _ hf
  obtain⟨us,h1,h2,h3⟩:=EB (d:=o.dst) (ty:=o.type) (pos:=o.pos) (after:=o.after) (gd:=o.guard) ht hte hf' hb hk hst;have hb:=dJ hb;have hk:=dJ hk;have ho':o=⟨o.dst,.buildSlice t n parts,o.type,o.pos,o.after,o.guard⟩:=by rw[<-ho]
  rw[<-ho']at h1;have hext:=n9 w (.cells us e) LB (.row (.slice (some ⟨w.heap.size,0,none⟩) n n) e k (chunk n k cells)) (by simp[au.ids,Value.ownBlock]);refine⟨.slice (some ⟨w.heap.size,0,none⟩) n n,w.alloc (.cells us e),_,_,⟨w.heap.size,rfl,rfl⟩,h1,by simp only[Rel],?_,hext⟩;refine hst.hp.push (by simp) (λb hb=>lq w _ b hb) (by simp[au.ids,Value.ownBlock]) (by simp[au.ids,Value.ownBlock]) ?_;refine⟨us.toList,h2.bo hext.keeps,?_,.inr ⟨w.heap.size,n,us,by rw[gA],o8 _,lX w _,by rw[gA];exact bU _,?_,h3,?_⟩⟩
  ·rw[gA];simpa using h3
  ·have:n<=n*k:=DI n hk;simp only[maxLen];omega
  ·rw[gA,<-h3,<-Aj,jg]
 refine(cZ.IT hR).mono ?_;rintro r L' ⟨y,rfl,b,rfl,rfl⟩;have hdom:=hh.gV L.n (bU _);have hl:Z.le (Z.a8 L.n n (some ⟨b,0,none⟩,n)):=aH.lr λy hy=>by rw[hdom.2]at hy;cases hy
 have hbn:(Z.a8 L.n n (some ⟨b,0,none⟩,n)).s L.n n=some (some ⟨b,0,none⟩,n):=by simp[aH.a8]
 refine⟨_,.ret (.os L.n n),L.push (.row e k (chunk n k cells)),hl,⟨_,rfl,by simp only[aG];exact⟨_,_,_,hbn,rfl⟩⟩,hh.push hl (λi hi=>by funext m;simp[aH.a8,hi]) (λ_ _=>rfl) ⟨⟨some ⟨b,0,none⟩,n,by rw[gA];exact hbn,by rw[gA]⟩,λm hm=>?_⟩,rfl,rfl⟩;rw[gA]at hm;have:m≠n:=by omega
 simp only[aH.a8,this,and_false,if_false];exact hdom.2 m
theorem lF.okR {Z:aH} {s:Sl} {LB:List au} (hs:SS Z O s) (hh:HS Z L LB) {k:Nat} {p:Operand} {rows:List (List AV)} (h:lF E O L k p rows) (hp:p∈o.op.operands.toList):∀F a w,St E.G N w F a (dv s (tmpsOf o)) LB->jq w (Al F LB) k (a.eval p) rows:=λF a w hst=>by
 have key:∀{x:CV},aV O p=some x->∃y,ev (look (dv s (tmpsOf o))) p=some y/\aG Z x y:=λh=>by
  obtain⟨y,h1,h2⟩:=b9 hs h;exact⟨y,pn (Z:=Z) hp h1,h2⟩
 cases h with
 |sl h=>
  obtain⟨y,h1,h2⟩:=key h;simp only[aG]at h2;subst h2;exact jq.sl (bq hst.sg h1)
 |CP h hI=>
  obtain⟨y,h1,h2⟩:=key h;simp only[aG]at h2;subst h2;exact jq.sl (hI _ _ _ (bq hst.sg h1))
 |nil h=>
  obtain⟨y,h1,h2⟩:=key h;simp only[aG]at h2;subst h2;have:=bq hst.sg h1;simp only[Rel]at this;rw[this];exact⟨none,0,0,[],rfl,rfl,by simp[bz],λ_=>rfl,λ_ h=>by cases h⟩
 |row h h3 hn=>
  obtain⟨y,h1,h2⟩:=key h;simp only[aG]at h2;obtain⟨a',c,t',h4,rfl⟩:=h2;obtain⟨q,h5,h6⟩:=hh.en _ _ h3;obtain⟨⟨a2,c2,h7,rfl⟩,_⟩:=h6;subst hn;rw[h4]at h7;cases h7;have:=bq hst.sg h1;simp only[Rel]at this;rw[this];exact jq.row (ji hst.hp h5)
 |fz h h3 hn=>
  obtain⟨y,h1,h2⟩:=key h;simp only[aG]at h2;obtain⟨a',c,t',h4,rfl⟩:=h2;obtain⟨q,h5,h6⟩:=hh.en _ _ h3;obtain⟨a2,c2,h7,rfl⟩:=h6;subst hn;rw[h4]at h7;cases h7;have:=bq hst.sg h1;simp only[Rel]at this;rw[this];exact jq.sl (qP hst.hp h5)
theorem bL.append {i n:Nat} {s' p:Operand} {t:TypeId} {e k sz by' sz' by'':Nat} {z z':List Value} {td':TD} {rows rows2:List (List AV)} (ho:o.op= .call {callee:= .builtin .append,args:= #[s',p],argTypes:= #[t,t]})
  (hb:(rows++rows2).length*by''<=140737488355328) (hs':aV O s'=some (.os i n)) (hi:L.e.get i=some (.row e k rows)) (hn:n=rows.length) (hx:lF E O L k p rows2) (ht:aY E.T t=some ⟨.slice e k,sz,by',z⟩) (hte:aY E.T e=some ⟨td',sz',by'',z'⟩) (h1:gC rows2=true)
  (hk:Nat.ble 1 k=true) (hby:Nat.ble 1 by''=true):bL E N o O L (λr L'=>r= .ret (.os i (rows++rows2).length)/\L'=L.set i (.row e k (rows++rows2))):=λZ s LB hs hh=>by
 obtain⟨y,h2,h3⟩:=b9 hs hs';simp only[aG]at h3;obtain⟨a,c,t',h3,rfl⟩:=h3;obtain⟨q,h6,h7⟩:=hh.en i _ hi;obtain⟨⟨a',c',h8,rfl⟩,h9⟩:=h7;subst hn;rw[h3]at h8;cases h8;refine(cZ.IT (KI ho ht hte (pn (Z:=Z) (by simp[ho,Op.operands,Call.operands]) h2) h6 (hx.okR hs hh (by simp[ho,Op.operands,Call.operands])) h1 hk hby hb)).mono ?_;rintro r L' ⟨y,rfl,a',c',h0,rfl,rfl⟩;have hl:Z.le (Z.a8 i (rows++rows2).length (a',c')):=aH.lr λy hy=>by
  by_cases hz:rows2=[]
  ·subst hz;simp only[jd]at hy;rw[h3]at hy;cases hy;obtain⟨rfl,rfl⟩:=h0 rfl;rfl
  ·have:rows.length<(rows++rows2).length:=by
    have:=Ak.2 hz;simp;omega
   rw[h9 _ this]at hy;cases hy
 have hbn:(Z.a8 i (rows++rows2).length (a',c')).s i (rows++rows2).length=some (a',c'):=by simp[aH.a8]
 refine⟨_,.ret (.os i (rows++rows2).length),L.set i (.row e k (rows++rows2)),hl,⟨_,rfl,by simp only[aG];exact⟨_,_,_,hbn,rfl⟩⟩,hh.set hl (λj hj=>by funext m;simp[aH.a8,hj]) (λ_ _=>rfl) (hh.lt hi) ⟨⟨a',c',hbn,rfl⟩,λm hm=>?_⟩,rfl,rfl⟩;have hne:m≠(rows++rows2).length:=by omega
 simp only[aH.a8,hne,and_false,if_false];exact h9 m (by simp at hm;omega)
theorem bL.E0 {i n:Nat} {s' p:Operand} {t u:TypeId} {e k sz by' sz' by'' szu byu:Nat} {z z' zu:List Value} {td':TD} {rows:List (List AV)} {b:ByteArray} (ho:o.op= .call {callee:= .builtin .append,args:= #[s',p],argTypes:= #[t,u]})
  (hb:(rows++dk b).length*by''<=140737488355328) (hs':aV O s'=some (.os i n)) (hi:L.e.get i=some (.row e k rows)) (hn:n=rows.length) (hx:aV O p=some (.d (.v (.string b)))) (ht:aY E.T t=some ⟨.slice e k,sz,by',z⟩) (hu:aY E.T u=some ⟨.str,szu,byu,zu⟩) (hte:aY E.T e=some ⟨td',sz',by'',z'⟩)
  (hk:Nat.beq k 1=true) (hby:Nat.beq by'' 1=true):bL E N o O L (λr L'=>r= .ret (.os i (rows++dk b).length)/\L'=L.set i (.row e k (rows++dk b))):=λZ s LB hs hh=>by
 obtain⟨y,h2,h3⟩:=b9 hs hs';simp only[aG]at h3;obtain⟨a,c,t',h3,rfl⟩:=h3;obtain⟨y2,g2,g3⟩:=b9 hs hx;simp only[aG]at g3;subst g3;obtain⟨q,h6,h7⟩:=hh.en i _ hi;obtain⟨⟨a',c',h8,rfl⟩,h9⟩:=h7;subst hn;rw[h3]at h8;cases h8;refine(cZ.IT (Kq ho ht hu hte (pn (Z:=Z) (by simp[ho,Op.operands,Call.operands]) h2) h6 (pn (Z:=Z) (by simp[ho,Op.operands,Call.operands]) g2) hk hby hb)).mono ?_;rintro r L' ⟨y,rfl,a',c',h0,rfl,rfl⟩;have hl:Z.le (Z.a8 i (rows++dk b).length (a',c')):=aH.lr λy hy=>by
  by_cases hz:dk b=[]
  ·rw[hz]at hy;simp only[jd]at hy;rw[h3]at hy;cases hy;obtain⟨rfl,rfl⟩:=h0 hz;rfl
  ·have:rows.length<(rows++dk b).length:=by
    have:=Ak.2 hz;simp;omega
   rw[h9 _ this]at hy;cases hy
 have hbn:(Z.a8 i (rows++dk b).length (a',c')).s i (rows++dk b).length=some (a',c'):=by simp[aH.a8]
 refine⟨_,.ret (.os i (rows++dk b).length),L.set i (.row e k (rows++dk b)),hl,⟨_,rfl,by simp only[aG];exact⟨_,_,_,hbn,rfl⟩⟩,hh.set hl (λj hj=>by funext m;simp[aH.a8,hj]) (λ_ _=>rfl) (hh.lt hi) ⟨⟨a',c',hbn,rfl⟩,λm hm=>?_⟩,rfl,rfl⟩;have hne:m≠(rows++dk b).length:=by omega
 simp only[aH.a8,hne,and_false,if_false];exact h9 m (by simp at hm;omega)
theorem bL.call {f:Operand} {args:List Operand} {g:FuncId} {cs:List CV} {Q':DR->Hp->Prop} {tys:Array TypeId} (ho:o.op= .call {callee:= .value f,args:=args.toArray,argTypes:=tys})
  (h:fA E g cs L Q') (hc:dE O f args=some (g,cs)):bL E N o O L Q':=λZ s LB hs hh=>by
 obtain⟨ys,h1,h2⟩:=qy hs hc;have h3:=h Z ys LB h2 hh;refine(cZ.Ob ho h1 h3.1 λF w vs hH hr=>h3.2 F w vs hH hr).mono ?_;rintro r L' ⟨Z',d,η1,g1,g2,g3,g4⟩;exact⟨Z',d,η1,hh.gW g1,g2,g3,g4⟩
theorem bL.pure {f:Operand} {args:List Operand} {g:FuncId} {cs:List CV} {xs' xs:List AV} {ns:List (Nat×Nat)} {ms:List (Nat×bl)} {res:AR} {tys:Array TypeId} (fl:Nat) (ho:o.op= .call {callee:= .value f,args:=args.toArray,argTypes:=tys})
  (h:Pure E.toCx g xs res) (hc:dE O f args=some (g,cs)) (hf:cd L.e fl cs=some (xs',ns,ms)) (hn:eqs ns) (hi:b7 xs' xs) (hl:ms=[]\/(match res with| .ret x=>cR x| .aM x=>cR x)=true):
  bL E N o O L (λr L'=>(match res with| .ret x=>r= .ret (.d x)| .aM x=>r= .aM (.d x))/\L'=L):=λZ s LB hs hh=>by
 obtain⟨ys,h1,h2⟩:=qy hs hc;refine cZ.Ob ho h1 h.1 λF w vs hH hr=>(Eo fl h hf hn hi hl hh hH h2 hr).mono ?_;rintro e w' ⟨hv,hcls⟩;refine⟨res,LB,?_,hv,hH.later hcls.2.2.2,hcls.ext⟩;cases res with
 |ret x=>exact⟨Z,.ret (.d x),L,.refl Z,⟨x,rfl,rfl⟩,hh,rfl,rfl⟩
 |aM x=>exact⟨Z,.aM (.d x),L,.refl Z,⟨x,rfl,rfl⟩,hh,rfl,rfl⟩
theorem bL.panic {p:Operand} (ho:o.op= .panic p) {t:TypeId} {y:CV} (hp:aV O p=some (.bA t y)):bL E N o O L (λr L'=>r= .aM (.bA t y)/\L'=L):=λZ s LB hs hh=>by
 obtain⟨z,h1,h2⟩:=b9 hs hp;have h3:=h2;simp only[aG]at h3;obtain⟨u,rfl,_⟩:=h3;refine(cZ.panic ho h1).mono ?_;rintro r L' ⟨rfl,rfl⟩;exact⟨Z,.aM (.bA t y),L,.refl Z,⟨_,rfl,h2⟩,hh,rfl,rfl⟩
theorem bL.Fm {p:Operand} (ho:o.op= .panic p) {t:TypeId} {y:AV} (hp:aV O p=some (.d (.bA t y))):bL E N o O L (λr L'=>r= .aM (.d (.bA t y))/\L'=L):=λZ s LB hs hh=>by
 obtain⟨z,h1,h2⟩:=b9 hs hp;simp only[aG]at h2;subst h2;refine(cZ.panic ho h1).mono ?_;rintro r L' ⟨rfl,rfl⟩;exact⟨Z,.aM (.d (.bA t y)),L,.refl Z,⟨_,rfl,rfl⟩,hh,rfl,rfl⟩
theorem cZ.nI {C:Cx} {s s1:Sl} {LB LB1:List au} {R:AR->List au->Prop} (hw:∀F w a,bI C.G w F LB->lB w (Al F LB) N a o s->bI C.G w F LB1/\lB w (Al F LB1) N a o s1/\∀b∈ids LB1,b∈ids LB) (h:cZ C N o s1 LB1 R):cZ C N o s LB R:=
 λF w a hN hd hH hs K Q k1 k2=>by
  obtain⟨h1,h2,h3⟩:=hw F w a hH hs;have hx:Ext LB w LB1 w:=⟨rfl,rfl,rfl,bU _,λ_ _ _=>rfl,λb hb=> .inl (h3 b hb),.of (bU _)⟩;exact h F w a hN hd h1 h2 K Q (λv w' x L' hR hv hH' hext=>k1 v w' x L' hR hv hH' (hx.trans hext)) (λv w' x L' hR hv hH' hext=>k2 v w' x L' hR hv hH' (hx.trans hext))
theorem bL.iS (t e k:Nat) (ht:O.get t=some (.d (.v (.slice none 0 0)))) (h:bL E N o (Tr.put 24 O t (some (.os L.n 0))) (L.push (.row e k [])) R):bL E N o O L R:=λZ s LB hs hh=>by
 obtain⟨y,h1,h2⟩:=hs t _ ht;simp only[aG]at h2;subst h2;have hdom:=hh.gV L.n (bU _);have hl:Z.le (Z.a8 L.n 0 (none,0)):=aH.lr λy hy=>by rw[hdom.2]at hy;cases hy
 have hbn:(Z.a8 L.n 0 (none,0)).s L.n 0=some (none,0):=by simp[aH.a8]
 have hs1:SS (Z.a8 L.n 0 (none,0)) (Tr.put 24 O t (some (.os L.n 0))) (gH s t (.os LB.length none 0 0)):=λu z hz=>by
  rcases Tr.fb 24 O t u _ z hz with⟨rfl,h3⟩|⟨hne,h3⟩
  ·cases h3;exact⟨.os LB.length none 0 0,by simp[gH],by simp only[aG];exact⟨_,_,LB.length,hbn,rfl⟩⟩
  ·obtain⟨q,h4,h5⟩:=hs u z h3;exact⟨q,by simp[gH,hne,h4],h5.mono hl⟩
 have hh1:HS (Z.a8 L.n 0 (none,0)) (L.push (.row e k [])) (LB++[.row (.slice none 0 0) e k []]):=by
  refine hh.push hl (λi hi=>by funext m;simp[aH.a8,hi]) (λ_ _=>rfl) ⟨⟨none,0,by simpa using hbn,by simp⟩,λm hm=>?_⟩;have:m≠0:=by simp at hm;omega
  simp only[aH.a8,this,and_false,if_false];exact hdom.2 m
 refine cZ.nI (λF w a hH hopd=>?_) ((h _ _ _ hs1 hh1).mono ?_)
 ·have hkeep:dm w (Al F LB) w (Al F (LB++[au.row (.slice none 0 0) e k []])):=⟨bU _,λb _ ha=>⟨by simpa[Al,cp,cJ,au.ids,Value.ownBlock,ids]using ha,rfl⟩⟩;refine⟨hH.push (bU _) (λ_ _=>rfl) (by simp[au.ids,Value.ownBlock]) (by simp[au.ids,Value.ownBlock]) ⟨[],by simp[bz],by simp,.inl ⟨rfl,rfl⟩⟩,λu hu q hq=>?_,λb hb=>by simpa[cp,cJ,au.ids,Value.ownBlock,ids]using hb⟩;unfold gH at hq;split at hq
  ·rename_i hut;subst hut;simp only[aE]at hq;subst hq;obtain⟨g1,g2⟩:=hopd u hu _ h1;simp only[Rel]at g2⊢;exact⟨g1,g2⟩
  ·obtain⟨g1,g2⟩:=hopd u hu q hq;exact⟨g1,g2.bo hkeep⟩
 ·rintro r L' ⟨Z',d,η1,g1,g2,g3,g4⟩;exact⟨Z',d,η1,hl.trans g1,g2,g3,g4⟩
theorem bL.cH {t:Nat} {z:AV} {ns:List (Nat×Nat)} {ms:List (Nat×bl)} (f:Nat) (hx:O.get t=some x) (hf:cd L.e f [x]=some ([z],ns,ms)) (hn:eqs ns) (ht:t∈tmpsOf o) (h:bL E N o (Tr.put 24 O t (some (.d z))) (iR ms L) R):bL E N o O L R:=λZ s LB hs hh=>by
 obtain⟨y,h1,h2⟩:=hs t x hx;have hs1:SS Z (Tr.put 24 O t (some (.d z))) (gH s t z):=λu q hq=>by
  rcases Tr.fb 24 O t u _ q hq with⟨rfl,h3⟩|⟨hne,h3⟩
  ·cases h3;exact⟨z,by simp[gH],rfl⟩
  ·obtain⟨q',h4,h5⟩:=hs u q h3;exact⟨q',by simp[gH,hne,h4],h5⟩
 by_cases hcan:∃F w v,bI E.G w F LB/\Rel w (Al F LB) y v
 ·obtain⟨F0,w0,v0,hH0,hv0⟩:=hcan;obtain⟨_,h40⟩:=iQ hh hH0 (ms.map (·.1)) f hf hn (λp hp=>dB.2 ⟨p,hp,rfl⟩) (aN.one h2) (aJ.one hv0);have hHS:HS Z (iR ms L) (eM Z ms LB):=AO (w:=w0) (F:=fE F0 LB (ms.map (·.1))) hh λp hp=>⟨(h40 p hp).lt hh,h40 p hp⟩;refine cZ.nI (λF w a hH hopd=>?_) (h Z _ _ hs1 hHS);have hv:=(hopd t ht y h1).2;obtain⟨h3,h4⟩:=iQ hh hH (ms.map (·.1)) f hf hn (λp hp=>dB.2 ⟨p,hp,rfl⟩) (aN.one h2) (aJ.one hv);have hsub:∀b∈ids (eM Z ms LB),b∈ids LB:=λb hb=>(v7 ms LB).subset hb;refine⟨A5 hH h4,λu hu q hq=>?_,hsub⟩;unfold gH at hq;split at hq
  ·rename_i hut;subst hut;simp only[aE]at hq;subst hq;exact⟨(hopd u hu y h1).1,h3.Cj.bo sQ⟩
  ·obtain⟨g1,g2⟩:=hopd u hu q hq;exact⟨g1,g2.bo (dm.sub hsub)⟩
 ·intro F w a hN hd hH hopd;exact absurd ⟨F,w,_,hH,(hopd t ht y h1).2⟩ hcan
mutual
theorem aG.same {Z:aH} {w:World} {A:Nat->Prop}:∀{x:CV} {y y':AV} {v:Value},aG Z x y->aG Z x y'->Rel w A y v->Rel w A y' v
 | .d x,_,_,_,h,g,hr=>by simp only[aG]at h g;subst h;subst g;exact hr
 | .agg xs,_,_,_,h,g,hr=>by
  simp only[aG]at h g;obtain⟨ys,rfl,h⟩:=h;obtain⟨zs,rfl,g⟩:=g;simp only[Rel]at hr⊢;obtain⟨vs,rfl,hr⟩:=hr;exact⟨vs,rfl,aN.same h g hr⟩
 | .bZ xs,_,_,_,h,g,hr=>by
  simp only[aG]at h g;obtain⟨ys,rfl,h⟩:=h;obtain⟨zs,rfl,g⟩:=g;simp only[Rel]at hr⊢;obtain⟨vs,rfl,hr⟩:=hr;exact⟨vs,rfl,aN.same h g hr⟩
 | .own t o,_,_,_,h,g,hr=>by
  simp only[aG]at h g;obtain⟨b,t1,h,rfl⟩:=h;obtain⟨b',t2,g,rfl⟩:=g;rw[h]at g;cases g;simp only[Rel]at hr⊢;exact hr
 | .os t n,_,_,_,h,g,hr=>by
  simp only[aG]at h g;obtain⟨a,c,t1,h,rfl⟩:=h;obtain⟨a',c',t2,g,rfl⟩:=g;rw[h]at g;cases g;simp only[Rel]at hr⊢;exact hr
 | .oe t n o,_,_,_,h,g,hr=>by
  simp only[aG]at h g;obtain⟨a,c,t1,h,rfl⟩:=h;obtain⟨a',c',t2,g,rfl⟩:=g;rw[h]at g;cases g;simp only[Rel]at hr⊢;exact hr
 | .om t,_,_,_,h,g,hr=>by
  simp only[aG]at h g;obtain⟨b,t1,h,rfl⟩:=h;obtain⟨b',t2,g,rfl⟩:=g;rw[h]at g;cases g;simp only[Rel]at hr⊢;exact hr
 | .fn f fs cs,_,_,_,h,g,hr=>by
  simp only[aG]at h g;obtain⟨us,vs,rfl,h1,h2⟩:=h;obtain⟨us',vs',rfl,g1,g2⟩:=g;simp only[Rel]at hr⊢;obtain⟨ps,qs,e,hr1,hr2⟩:=hr;exact⟨ps,qs,e,aN.same h1 g1 hr1,aN.same h2 g2 hr2⟩
 | .bA t x,_,_,_,h,g,hr=>by
  simp only[aG]at h g;obtain⟨u,rfl,h⟩:=h;obtain⟨u',rfl,g⟩:=g;simp only[Rel]at hr⊢;obtain⟨q,e,hr⟩:=hr;exact⟨q,e,aG.same h g hr⟩
theorem aN.same {Z:aH} {w:World} {A:Nat->Prop}:∀{x:List CV} {y y':List AV} {v:List Value},aN Z x y->aN Z x y'->aJ w A y v->aJ w A y' v
 |[],_,_,_,h,g,hr=>by simp only[aN]at h g;subst h;subst g;exact hr
 |_::_,_,_,_,h,g,hr=>by
  simp only[aN]at h g;obtain⟨y,r,rfl,h1,h2⟩:=h;obtain⟨y',r',rfl,g1,g2⟩:=g;simp only[aJ]at hr⊢;obtain⟨v,q,e,hr1,hr2⟩:=hr;exact⟨v,q,e,aG.same h1 g1 hr1,aN.same h2 g2 hr2⟩
end
theorem bP.same {Z:aH} {C:Cx} {s:Sl} {LB:List au} {y y':AV} (h:aG Z x y) (g:aG Z x y') (hp:bP C N o s LB y):bP C N o s LB y':=λF w a h1 h2 h3 h4 K Q k=>hp F w a h1 h2 h3 h4 K Q λv w' hv hc=>k v w' (aG.same h g hv) hc
