/- What the orders of a tail say of worlds; the rule for regions whose order is open. -/
import Derived.Test.YtfgnmgbiijpkiaaGreatKB12
import Derived.Test.YtfgnmgbiijpkiaaGreatKD3
set_option linter.all false
noncomputable section
namespace Go.Bw
open Go
def RJ (C:Cx) (N:Nat) (ops:Array Oper) (p:Nat×(Nat×List AV)):Prop:=∃o,ops[p.1]? =some o/\o.guard=none/\o.dst=some p.2.1/\p.2.1<N/\(∀e∈o.after,Region.binds .any e=false)/\∀s O,fA C N o s O p.2.2
def c7 (st:Nat->Option Nat):bR->List aq
 |[]=>[]
 |p::A=>(match st p.1 with
  |some b=>[.box b p.2.2]
  |none=>[])++c7 st A
def eT (st:Nat->Option Nat):bR->Nat
 |[]=>0
 |p::A=>(match st p.1 with
  |some _=>0
  |none=>1)+eT st A
def gB (st:Nat->Option Nat) (i b:Nat):Nat->Option Nat:=λk=>if k=i then some b else st k
def mi (st:Nat->Option Nat) (A:bR):List ((Nat×List AV)×Nat):=A.map λp=>(p.2,(st p.1).getD 0)
section
variable {C:Cx} {N:Nat} {ops:Array Oper} {st:Nat->Option Nat}
theorem J0 (j:Nat):∀A:bR,(c7 st A).Perm (c7 st (cd ops j A)++c7 st (cv ops j A))
 |[]=>List.Perm.refl _
 |p::A=>by
  have ih:=J0 j A;simp only[cd,cv,Uo]at ih⊢;cases hb:eC ops p.1 j with
  |true=>
   simp only[xQ,if_true,c7,ju,if_false,jZ];exact ih.append_left _
  |false=>
   simp only[u5,if_true,c7,ju,if_false];refine(ih.append_left _).trans ?_;rw[<-jZ,<-jZ];exact List.perm_append_comm.append_right _
theorem Lh (j:Nat):∀A:bR,eT st A=eT st (cd ops j A)+eT st (cv ops j A)
 |[]=>rfl
 |p::A=>by
  have ih:=Lh j A;simp only[cd,cv,Uo]at ih⊢;cases hb:eC ops p.1 j with
  |true=>simp only[xQ,if_true,eT,ju,if_false];omega
  |false=>simp only[u5,if_true,eT,ju,if_false];omega
theorem L3:∀{A:bR},(∀p∈A,st p.1≠none)->eT st A=0
 |[],_=>rfl
 |p::A,h=>by
  simp only[eT];rw[L3 (A:=A) λq hq=>h q (by simp[hq])];have:=h p (by simp);cases hs:st p.1 with
  |none=>exact absurd hs this
  |some b=>rfl
theorem Nl:∀{A:bR} {p:Nat×(Nat×List AV)},p∈A->st p.1=none->0<eT st A
 |q::A,p,hp,hs=>by
  simp only[eT];rcases cm.1 hp with rfl|hp
  ·rw[hs];simp only;omega
  ·have:=Nl hp hs;omega
theorem L4:∀{A:bR},(∀p∈A,st p.1≠none)->cS (mi st A)=c7 st A
 |[],_=>rfl
 |p::A,h=>by
  have ih:=L4 (A:=A) λq hq=>h q (by simp[hq]);have:=h p (by simp);cases hs:st p.1 with
  |none=>exact absurd hs this
  |some b=>
   simp only[cS,mi]at ih;simp only[c7,hs,cS,mi,dP,Uq,List.singleton_append,ih]
theorem Xl (A:bR):(mi st A).map (·.1)=mr A:=by simp[mi,mr]
theorem Li {i b:Nat}:∀{A:bR},(∀p∈A,p.1≠i)->c7 (gB st i b) A=c7 st A/\eT (gB st i b) A=eT st A
 |[],_=>⟨rfl,rfl⟩
 |p::A,h=>by
  obtain⟨h1,h2⟩:=Li (b:=b) (A:=A) λq hq=>h q (by simp[hq]);have hne:=h p (by simp);simp only[c7,eT,h1,h2,gB,hne,if_false,and_self]
theorem L5 {b:Nat}:∀{A:bR} {p:Nat×(Nat×List AV)},p∈A->(A.map (·.1)).Nodup->st p.1=none->(c7 (gB st p.1 b) A).Perm (c7 st A++[.box b p.2.2])/\eT (gB st p.1 b) A+1=eT st A
 |q::A,p,hp,hnd,hs=>by
  simp only[dP,Ce,cP,not_exists,not_and]at hnd;rcases cm.1 hp with rfl|hp
  ·obtain⟨h1,h2⟩:=Li (st:=st) (b:=b) (A:=A) (i:=p.1) λq hq he=>hnd.1 q hq he;simp only[c7,eT,h1,h2,hs];refine⟨?_,by simp[gB];omega⟩;simp only[gB,if_true,xM];exact B7
  ·have hne:q.1≠p.1:=λhe=>hnd.1 p hp he.symm;obtain⟨h1,h2⟩:=L5 (b:=b) hp hnd.2 hs;simp only[c7,eT];have e:gB st p.1 b q.1=st q.1:=by simp[gB,hne]
   rw[e];refine⟨?_,by omega⟩;rw[jZ];exact h1.append_left _
theorem bD.back {G:Gl} {w w':World} {F:Nat->Prop} {Os Os' Or:List aq} (hH1:bD G w F (Os++Or)) (hh:bD G w' (λb=>F b\/b∈ids Or) Os') (hext:Ext Os w Os' w'):bD G w' F (Os'++Or)/\Ext (Os++Or) w (Os'++Or) w':=by
 have hlt:=hH1.lt;have hnd:=hH1.nodup;rw[cn,iO]at hnd;have hA:Al (λb=>F b\/b∈ids Or) Os'=Al F (Os'++Or):=mI;have hmem:∀b,b∈ids (Os++Or)↔b∈ids Os\/b∈ids Or:=λb=>by rw[cn,cJ]
 have hnew:∀b∈ids Os',b∈ids Os\/w.heap.size<=b:=hext.new;have hr:∀b∈ids Or,b<w.heap.size/\b∉ids Os:=λb hb=>⟨hlt b (by simp[cn,hb]),λhm=>hnd.2.2 b hm b hb rfl⟩;have hE:Ext (Os++Or) w (Os'++Or) w':=by
  refine⟨hext.os,hext.tape,hext.output,hext.size,λb hb hn=>hext.block b hb λhm=>hn ((hmem b).2 (.inl hm)),λb hb=>?_,hext.drawn⟩;rw[cn,cJ]at hb;rcases hb with hb|hb
  ·exact(hnew b hb).imp (λhm=>(hmem b).2 (.inl hm)) id
  ·exact .inl ((hmem b).2 (.inr hb))
 have hk:cL w (Al F (Os++Or)) w' (Al F (Os'++Or)):=hE.keeps;refine⟨⟨λx hx=>?_,?_,λb hb=>?_,λb hb=>hh.bound b (.inl hb),hH1.dZ.keep hk⟩,hE⟩
 ·rcases cJ.1 hx with hx|hx
  ·rw[<-hA];exact hh.eD x hx
  ·have hx0:=hH1.eD x (by simp[hx]);refine hx0.keep hk λb hb=>?_;have hbm:b∈ids Or:=ef.2 ⟨x,hx,hb⟩;exact hext.block b (hr b hbm).1 (hr b hbm).2
 ·rw[cn,iO];refine⟨hh.nodup,hnd.2.1,λa ha b hb hab=>?_⟩;subst hab;rcases hnew a ha with h1|h1
  ·exact(hr a hb).2 h1
  ·have:=(hr a hb).1;omega
 ·rw[cn,cJ]at hb;rcases hb with hb|hb
  ·exactλhF=>hh.free b hb (.inl hF)
  ·exact hH1.free b ((hmem b).2 (.inr hb))
theorem bD.drop {G:Gl} {w:World} {F:Nat->Prop} {O W:List aq} (h:bD G w F (O++W)):bD G w F O:=by
 have hsub:∀b∈ids O,b∈ids (O++W):=λb hb=>by rw[cn];exact oR _ hb
 have hk:=cL.sub (w:=w) (F:=F) hsub;have hnd:=h.nodup;rw[cn,iO]at hnd;exact⟨λx hx=>(h.eD x (by simp[hx])).keep hk (λ_ _=>rfl),hnd.1,λb hb=>h.free b (hsub b hb),h.bound,h.dZ.keep hk⟩
theorem Ext.perm {O O' O'':List aq} {w w':World} (h:Ext O w O' w') (hp:O'.Perm O''):Ext O w O'' w':=⟨h.os,h.tape,h.output,h.size,h.block,λb hb=>h.new b ((oY hp).mem_iff.2 hb),h.drawn⟩
theorem Ext.drop {O O' W:List aq} {w w':World} (h:Ext O w (O'++W) w'):Ext O w O' w':=⟨h.os,h.tape,h.output,h.size,h.block,λb hb=>h.new b (by rw[cn];exact oR _ hb),h.drawn⟩
structure P4 (C:Cx) (N:Nat) (ops:Array Oper) (A:bR) (s:Sl):Prop where
 ok:∀p∈A,RJ C N ops p
 nd:(A.map (·.1)).Nodup
 dst:∀p∈A,∀j oj,ops[j]? =some oj->j≠p.1->oj.dst≠some p.2.1
 sl:∀p∈A,s p.2.1=none
structure RK (A:bR) (listed wl:Array Bool) (st:Nat->Option Nat):Prop where
 h1:∀i,wl.getD i true=false->listed.getD i true=false\/∃p∈A,p.1=i/\st i=none
 h2:∀i,wl.getD i false=true->listed.getD i false=true/\∀p∈A,p.1=i->st i≠none
 h3:∀i,listed.getD i true=false->wl.getD i true=false
 h4:∀i,listed.getD i false=true->(∀p∈A,p.1=i->st i≠none)->wl.getD i false=true
 h5:∀p∈A,st p.1=none->wl.getD p.1 true=false
 h6:∀p∈A,listed.getD p.1 true=true
 h7:∀p∈A,listed.getD p.1 false=true
theorem JP (l:Array Bool) (i:Nat):(l.setIfInBounds i true).getD i true=true:=by
 rcases mz i l.size with h|h
 ·simp[h]
 ·simp[u7,h]
theorem Cn {l:Array Bool} {i:Nat} (h:l.getD i true=false):(l.setIfInBounds i true).getD i false=true:=by
 rcases mz i l.size with h'|h'
 ·simp[h']
 ·simp[u7,h']at h
theorem Lj:∀{A:bR} {p q:Nat×(Nat×List AV)},(A.map (·.1)).Nodup->p∈A->q∈A->p.1=q.1->p=q
 |x::A,p,q,hnd,hp,hq,he=>by
  simp only[dP,Ce,cP,not_exists,not_and]at hnd;rcases cm.1 hp with h1|h1<;>rcases cm.1 hq with h2|h2
  ·rw[h1,h2]
  ·exact absurd (by rw[<-he,h1]) (hnd.1 q h2)
  ·exact absurd (by rw[he,h2]) (hnd.1 p h1)
  ·exact Lj hnd.2 h1 h2 he
theorem UZ {i j:Nat} {o:Oper} (ho:ops[j]? =some o) (h:eC ops i j=true):∃e∈o.after,Region.binds .any e=true/\e.on=i:=by
 unfold eC at h;rw[ho]at h;simp only[ka,bL,beq_iff_eq]at h;obtain⟨q,hq,h1,h2⟩:=h;exact⟨q,by simpa using hq,h1,h2⟩
theorem eY.perm {w:World} {F:Nat->Prop} {O O':List aq} {a:Act} {s:Sl} (h:eY w (Al F O) N a s) (hp:O.Perm O'):eY w (Al F O') N a s:=by rw[<-pq hp];exact h
variable {Qn:Sl->List aq->Prop} {Qp:AV->List aq->Prop} {Q:AQ}
theorem Ws (hQn:∀s O,Qn s O->∃σ',(∀t x,look σ' t=some x->s t=some x)/\Q .norm σ' O) (hQp:∀x O,Qp x O->Q (.aO x) [] O):
  ∀(m n:Nat) (A:bR) (listed wl:Array Bool) (pend:fT) (s:Sl) (O:List aq) (st:Nat->Option Nat),m=n+eT st A->gQ C N ops Qn Qp n A listed pend s O->P4 C N ops A s->RK A listed wl st->
   ∀F w0 η0 a w,eY w (Al F (O++c7 st A)) N a s->(∀p∈A,∀b,st p.1=some b->a.tmps.getD p.2.1 undef= .pointer (some ⟨b,0,none⟩))->bD C.G w F (O++c7 st A)->a.defers=[]->Ext η0 w0 (O++c7 st A) w->
    wpAny C.P .any ops (CQ C.G N F w0 η0 Q) m wl a w:=by
 intro m
 induction m with
 |zero=>
  intro n A listed wl pend s O st hm h hA hW F w0 η0 a w hs hptr hh hdf hx;have hn:n=0:=by omega
  subst hn;have hall:∀p∈A,st p.1≠none:=λp hp hs=>by have:=Nl hp hs;omega
  refine⟨?_,?_⟩
  ·refine Uy.2 λj hj=>?_;obtain⟨hju,o,ho,hd⟩:=mem_ready.1 hj;rcases hW.h1 j hju with h1|⟨p,hp,rfl,h2⟩
   ·have:j∈Region.ready .any ops listed:=mem_ready.2 ⟨h1,o,ho,λe he hb=>(hW.h2 _ (hd e he hb)).1⟩;rw[h.2.1]at this;cases this
   ·exact hall p hp h2
  ·obtain⟨σ',h1,h2⟩:=hQn s O h.2.2;refine CQ.intro .norm rfl h2 ⟨?_,hh.drop,hdf⟩ hx.drop;have hk:=cL.sub (w:=w) (F:=F) (O:=O++c7 st A) (O':=O) λb hb=>by rw[cn];exact oR _ hb
   exact⟨hs.1,λt x hx=>⟨(hs.2 t x (h1 t x hx)).1,(hs.2 t x (h1 t x hx)).2.keep hk⟩⟩
 |succ m ih=>
  intro n A listed wl pend s O st hm h hA hW F w0 η0 a w hs hptr hh hdf hx;refine⟨λh0=>?_,λj hj=>?_⟩
  ·have hall:∀p∈A,st p.1≠none:=λp hp hsn=>by
    obtain⟨o,ho,_,_,_,hna,_⟩:=hA.ok p hp;have:p.1∈Region.ready .any ops wl:=mem_ready.2 ⟨hW.h5 p hp hsn,o,ho,λe he hb=>by rw[hna e he]at hb;cases hb⟩;rw[h0]at this;cases this
   have hr0:Region.ready .any ops listed=[]:=by
    refine Uy.2 λj hj=>?_;obtain⟨hju,o,ho,hd⟩:=mem_ready.1 hj;have:j∈Region.ready .any ops wl:=mem_ready.2 ⟨hW.h3 j hju,o,ho,λe he hb=>hW.h4 _ (hd e he hb) λp hp he'=>by rw[<-he'];exact hall p hp⟩;rw[h0]at this;cases this
   have hq:Qn s O:=by
    cases n with
    |zero=>exact h.2.2
    |succ n=>exact h.2.1 hr0
   obtain⟨σ',h1,h2⟩:=hQn s O hq;refine CQ.intro .norm rfl h2 ⟨?_,hh.drop,hdf⟩ hx.drop;have hk:=cL.sub (w:=w) (F:=F) (O:=O++c7 st A) (O':=O) λb hb=>by rw[cn];exact oR _ hb
   exact⟨hs.1,λt x hx=>⟨(hs.2 t x (h1 t x hx)).1,(hs.2 t x (h1 t x hx)).2.keep hk⟩⟩
  ·obtain⟨hju,o,ho,hdep⟩:=mem_ready.1 hj;unfold wpOp;simp only[ho];rcases hW.h1 j hju with hjl|⟨p,hp,hpj,hsn⟩
   ·--an operation of the tail
    have hjr:j∈Region.ready .any ops listed:=mem_ready.2 ⟨hjl,o,ho,λe he hb=>(hW.h2 _ (hdep e he hb)).1⟩;cases n with
    |zero=>rw[h.2.1]at hjr;cases hjr
    |succ n=>
     obtain⟨o',ho',hst⟩:=h.2.2 j hjr;rw[ho]at ho';cases ho';have hex:∀p∈cd ops j A,st p.1≠none:=λp hp=>by
      simp only[cd,iB]at hp;obtain⟨e,he,hb,heq⟩:=UZ ho hp.2;exact(hW.h2 p.1 (by rw[<-heq];exact hdep e he hb)).2 p hp.1 rfl
     have hstp:=zd hst (mi st (cd ops j A)) (Xl _);have hents:cS (mi st (cd ops j A))=c7 st (cd ops j A):=L4 hex;have hperm:(O++c7 st A).Perm ((O++cS (mi st (cd ops j A)))++c7 st (cv ops j A)):=by
      rw[hents,jZ];exact(J0 j A).append_left _
     have hH1:=hh.perm hperm;have hx1:=hx.perm hperm;have hzs:∀z∈mi st (cd ops j A),∃p∈A,eC ops p.1 j=true/\z.1=p.2/\st p.1=some z.2:=λz hz=>by
      simp only[mi,cP]at hz;obtain⟨p,hp,rfl⟩:=hz;have:=hex p hp;simp only[cd,iB]at hp;refine⟨p,hp.1,hp.2,rfl,?_⟩;cases hs:st p.1 with
      |none=>exact absurd hs this
      |some b=>rfl
     generalize mi st (cd ops j A)=zs at hstp hperm hH1 hx1 hzs hents;have hcnt:m=n+eT st (cv ops j A):=by
      have h1:=Lh (ops:=ops) (st:=st) j A;rw[L3 hex]at h1;omega
     have hs1:eY w (Al F ((O++cS zs)++c7 st (cv ops j A))) N a (gk O.length zs s):=by
      rw[<-pq hperm];refine⟨hs.1,λt x ht=>?_⟩;simp only[gk]at ht;split at ht
      ·rename_i y hl;cases ht;have:look (fS O.length zs++[]) t=some x:=by simpa using hl
       rcases sD this with⟨z,hz,k,rfl,rfl⟩|h
       ·obtain⟨p,hp,_,he,hsp⟩:=hzs z hz;obtain⟨_,_,_,_,hlt,_⟩:=hA.ok p hp;rw[he];exact⟨hlt,by simp only[Rel];exact hptr p hp _ hsp⟩
       ·simp[look]at h
      ·exact hs.2 t x ht
     have hne:∀p∈A,j≠p.1:=λp hp he=>by
      have:=hW.h6 p hp;rw[<-he,hjl]at this;cases this
     have hsub:∀p∈cv ops j A,p∈A:=λp hp=>(iB.1 hp).1;have hW':RK (cv ops j A) (listed.setIfInBounds j true) (wl.setIfInBounds j true) st:=by
      have hjne:∀{i:Nat} {l:Array Bool},(l.setIfInBounds j true).getD i true=false->j≠i:=λhi he=>by subst he;rw[JP]at hi;cases hi
      refine⟨λi hi=>?_,λi hi=>?_,λi hi=>?_,λi hi hall=>?_,λp hp hsn=>?_,λp hp=>?_,λp hp=>?_⟩
      ·have hji:=hjne hi;rw[getD_set_ne true hji]at hi⊢;rcases hW.h1 i hi with h1|⟨p,hp,rfl,h2⟩
       ·exact .inl h1
       ·refine .inr ⟨p,?_,rfl,h2⟩;simp only[cv,iB,kQ];refine⟨hp,?_⟩;cases hb:eC ops p.1 j with
        |false=>rfl
        |true=>exact absurd h2 (hex p (by simp only[cd,iB];exact⟨hp,hb⟩))
      ·by_cases hji:j=i
       ·subst hji;exact⟨Cn hjl,λp hp he=>absurd he.symm (hne p (hsub p hp))⟩
       ·rw[getD_set_ne false hji]at hi⊢;obtain⟨h1,h2⟩:=hW.h2 i hi;exact⟨h1,λp hp he=>h2 p (hsub p hp) he⟩
      ·have hji:=hjne hi;rw[getD_set_ne true hji]at hi⊢;exact hW.h3 i hi
      ·by_cases hji:j=i
       ·subst hji;exact Cn hju
       ·rw[getD_set_ne false hji]at hi⊢;refine hW.h4 i hi λp hp he hsn=>?_;cases hb:eC ops p.1 j with
        |false=>exact hall p (by simp only[cv,iB,kQ];exact⟨hp,hb⟩) he hsn
        |true=>exact hex p (by simp only[cd,iB];exact⟨hp,hb⟩) (by rw[he];exact hsn)
      ·rw[getD_set_ne true (hne p (hsub p hp))];exact hW.h5 p (hsub p hp) hsn
      ·rw[getD_set_ne true (hne p (hsub p hp))];exact hW.h6 p (hsub p hp)
      ·rw[getD_set_ne false (hne p (hsub p hp))];exact hW.h7 p (hsub p hp)
     have hA':∀x:AV,P4 C N ops (cv ops j A) (ba (gk O.length zs s) o.dst (some x)):=λx=>by
      refine⟨λp hp=>hA.ok p (hsub p hp),(List.filter_sublist.map _).nodup hA.nd,λp hp=>hA.dst p (hsub p hp),λp hp=>?_⟩;have hd:o.dst≠some p.2.1:=hA.dst p (hsub p hp) j o ho (hne p (hsub p hp));rw[mE λd hd' he=>hd (by rw[hd',he])];simp only[gk];cases hl:look (fS O.length zs) p.2.1 with
      |none=>exact hA.sl p (hsub p hp)
      |some y=>
       exfalso;have:look (fS O.length zs++[]) p.2.1=some y:=by simpa using hl
       rcases sD this with⟨z,hz,k,h1,_⟩|h
       ·obtain⟨q,hq,hb,he,_⟩:=hzs z hz;obtain⟨oq,hoq,_,hdq,_⟩:=hA.ok q hq;have hqp:q.1≠p.1:=λe=>by
         have:=(iB.1 hp).2;rw[<-e,hb]at this;cases this
        exact hA.dst p (hsub p hp) q.1 oq hoq hqp (by rw[hdq,<-he,h1])
       ·simp[look]at h
     have hptr':∀{v:Value},∀p∈cv ops j A,∀b,st p.1=some b->(a.put o.dst v).tmps.getD p.2.1 undef= .pointer (some ⟨b,0,none⟩):=λ{v} p hp b hb=>by
      have hd:o.dst≠some p.2.1:=hA.dst p (hsub p hp) j o ho (hne p (hsub p hp));rw[oU λd hd' he=>hd (by rw[hd',he])];exact hptr p (hsub p hp) b hb
     obtain⟨hdst,hst2⟩:=hstp;have put:∀{x:AV} {v:Value} {w':World} {O':List aq},Rel w' (Al F (O'++c7 st (cv ops j A))) x v->Ext ((O++cS zs)++c7 st (cv ops j A)) w (O'++c7 st (cv ops j A)) w'->eY w' (Al F (O'++c7 st (cv ops j A))) N (a.put o.dst v) (ba (gk O.length zs s) o.dst (some x)):=by
      intro x v w' O' hv hext;refine⟨by rw[zD];exact hs1.1,λt y hy=>?_⟩;by_cases htd:o.dst=some t
      ·have htN:=zc hdst t htd;rw[htd]at hy⊢;simp only[ba,if_true,aE]at hy;subst hy;exact⟨htN,by rw[xS (by rw[hs1.1];exact htN)];exact hv⟩
      ·have hne:∀d,o.dst=some d->t≠d:=λd hd' he=>htd (by rw[hd',he]);rw[mE hne]at hy;obtain⟨h1,h2⟩:=hs1.2 t y hy;exact⟨h1,by rw[oU hne];exact h2.keep hext.keeps⟩
     rcases hst2 with⟨hw,R,hE,h1,h2⟩|⟨hw,h1⟩
     ·rw[dj (xW hs1 hw)];refine .inl (hE (λb=>F b\/b∈ids (c7 st (cv ops j A))) w a hs1.1 hdf hH1.front (λt _ y hy=>by rw[mI];exact hs1.2 t y hy) _ _ ?_ ?_)
      ·intro v w' x O' hR hv hH' hext;obtain⟨g1,g2⟩:=bD.back hH1 hH' hext;rw[mI]at hv;exact ih n (cv ops j A) _ _ _ _ O' st hcnt (h1 x O' hR) (hA' x) hW' F w0 η0 _ w' (put hv g2) hptr' g1 (by rw[wi];exact hdf) (hx1.trans g2)
      ·intro v w' x O' hR hv hH' hext;obtain⟨g1,g2⟩:=bD.back hH1 hH' hext;rw[mI]at hv;have hk:=cL.sub (w:=w') (F:=F) (O:=O'++c7 st (cv ops j A)) (O':=O') λb hb=>by rw[cn];exact oR _ hb
       exact⟨.aO x,[],O',hQp x O' (h2 x O' hR),⟨v,rfl,hv.keep hk⟩,⟨⟨hs1.1,λt x hx=>by simp[AE.sl,look]at hx⟩,g1.drop,hdf⟩,(hx1.trans g2).drop⟩
     ·rw[cM (by rw[xW hs1 hw];simp)];exact ih n (cv ops j A) _ _ _ _ (O++cS zs) st hcnt h1 (hA' _) hW' F w0 η0 _ w (put (x:= .v undef) (v:=undef) (by simp only[Rel]) (Ext.refl _ w)) hptr' hH1 (by rw[wi];exact hdf) hx1
   ·--a fresh box
    subst hpj;obtain⟨o',ho',hg,hd,hlt,hna,hN⟩:=hA.ok p hp;rw[ho]at ho';cases ho';rw[dj (by simp[Region.wanted,hg])];refine .inl (hN (λ_=>none) (O++c7 st A) F w a hs.1 hdf hh (λt _ y hy=>by cases hy) _ _ λvs e hv=>?_);obtain⟨hp1,hp2⟩:=L5 (b:=w.heap.size) hp hA.nd hsn;have hperm:((O++c7 st A)++[aq.box w.heap.size p.2.2]).Perm (O++c7 (gB st p.1 w.heap.size) A):=by
     rw[jZ];exact(hp1.symm).append_left _
    have hext:=lH w (.cells vs.toArray e) (O++c7 st A) (.box w.heap.size p.2.2) (by simp[aq.ids]);have hkeep:=hext.keeps (F:=F);refine ih n A listed (wl.setIfInBounds p.1 true) pend s O (gB st p.1 w.heap.size) (by omega) h hA ?_ F w0 η0 _ _ ?_ ?_ ?_ (by rw[wi];exact hdf) ((hx.trans hext).perm hperm)
    ·refine⟨λi hi=>?_,λi hi=>?_,λi hi=>?_,λi hi hall=>?_,λq hq hsq=>?_,hW.h6,hW.h7⟩
     ·have hji:p.1≠i:=λhe=>by subst he;rw[JP]at hi;cases hi
      rw[getD_set_ne true hji]at hi;rcases hW.h1 i hi with h1|⟨q,hq,rfl,h2⟩
      ·exact .inl h1
      ·exact .inr ⟨q,hq,rfl,by simp only[gB,jv hji,if_false];exact h2⟩
     ·by_cases hji:p.1=i
      ·subst hji;exact⟨hW.h7 p hp,λq hq he=>by simp[gB]⟩
      ·rw[getD_set_ne false hji]at hi;obtain⟨h1,h2⟩:=hW.h2 i hi;exact⟨h1,λq hq he=>by simp only[gB,jv hji,if_false];exact h2 q hq he⟩
     ·have hji:p.1≠i:=λhe=>by
       subst he;have:=hW.h6 p hp;rw[hi]at this;cases this
      rw[getD_set_ne true hji];exact hW.h3 i hi
     ·by_cases hji:p.1=i
      ·subst hji;exact Cn hju
      ·rw[getD_set_ne false hji];refine hW.h4 i hi λq hq he hsq=>hall q hq he ?_;simp only[gB,jv hji,if_false];exact hsq
     ·have hji:p.1≠q.1:=λhe=>by rw[<-he]at hsq;simp[gB]at hsq
      rw[getD_set_ne true hji];refine hW.h5 q hq ?_;simpa only[gB,jv hji,if_false]using hsq
    ·rw[<-pq hperm];refine⟨by rw[zD];exact hs.1,λt x hx=>?_⟩;have htd:t≠p.2.1:=λhe=>by rw[he,hA.sl p hp]at hx;cases hx
     obtain⟨h1,h2⟩:=hs.2 t x hx;refine⟨h1,?_⟩;rw[oU λd hd' he=>htd (by rw[he];rw[hd]at hd';cases hd';rfl)];exact h2.keep hkeep
    ·intro q hq b hb;by_cases hqp:q.1=p.1
     ·have:=Lj hA.nd hq hp hqp;subst this;simp only[gB,if_true,aE]at hb;subst hb;rw[hd];exact xS (by rw[hs.1];exact hlt)
     ·simp only[gB,hqp,if_false]at hb;have hdq:o.dst≠some q.2.1:=hA.dst q hq p.1 o ho (jv hqp);rw[oU λd hd' he=>hdq (by rw[hd',he])];exact hptr q hq b hb
    ·refine bD.perm hperm ?_;refine hh.push (by simp) (λb hb=>jw w _ b hb) (by simp[aq.ids]) (by simp[aq.ids]) ?_;exact⟨e,vs,kh w _,hv.keep hkeep⟩
end
def ny (T:bX) (ops:Array Oper) (N:Nat):List Nat->Option bR
 |[]=>some []
 |i::r=>match ops[i]?,ny T ops N r with
  |some ⟨some d,.alloc t,_,_,after,none⟩,some A=>match a7 T t with
   |some ⟨_,_,_,z⟩=>match Nat.blt d N&&after.toList.all λe=>!Region.binds .any e with
    |true=>some ((i,(d,z.map .v))::A)
    |false=>none
   |none=>none
  |_,_=>none
def rX (ops:Array Oper):List Nat->List (Nat×Nat)
 |[]=>[]
 |i::r=>match ops[i]? with
  |some o=>match o.dst with
   |some d=>(i,d)::rX ops r
   |none=>rX ops r
  |none=>rX ops r
theorem Nn {E:Env} {ops:Array Oper} {N:Nat}:∀{al:List Nat} {A:bR},ny E.T ops N al=some A->(∀p∈A,RJ E.toCx N ops p)/\A.map (·.1)=al/\rX ops al=A.map λp=>(p.1,p.2.1)
 |[],A,h=>by simp only[ny,aE]at h;subst h;simp[rX]
 |i::r,A,h=>by
  simp only[ny]at h;split at h
  ·rename_i d t ty pos after A' ho hr;split at h
   ·rename_i td sz by' z ht;split at h
    ·rename_i hB;simp only[aE]at h;subst h;simp only[bL,lF,iA,kQ]at hB;obtain⟨g1,g2,g3⟩:=Nn hr;refine⟨λp hp=>?_,by simp[g2],by simp[rX,ho,g3]⟩;rcases cm.1 hp with rfl|hp
     ·refine⟨_,ho,rfl,rfl,hB.1,λe he=>?_,λs O=>fA.alloc rfl ht⟩;exact hB.2 e (by simpa using he)
     ·exact g1 p hp
    ·cases h
   ·cases h
  ·cases h
def pG (ops:Array Oper) (pre:List Nat) (tl:List (Nat×TK)) (al:List Nat):Bool:=
 Region.noSelect ops&&Bl ops pre (Array.replicate ops.size false)&&nh ops (jC ops tl) (ki al (ki pre (Array.replicate ops.size false))) [] (rX ops al)&&Nat.beq (pre.length+((jC ops tl).length+al.length)) ops.size&&
  e9 al&&(al.all λi=>!pre.contains i&&(List.range ops.size).all λj=>Nat.beq j i||match ops[i]?,ops[j]? with
   |some oi,some oj=>(match oi.dst with
    |some d=>A3 oj.dst d
    |none=>true)
   |_,_=>true)
def rI (A:bR) (s:Sl):Sl:=λt=>match(A.map (·.2.1)).contains t with
 |true=>none
 |false=>s t
theorem Wt {A:bR} {s:Sl} {t:Nat} {x:AV} (h:rI A s t=some x):s t=some x:=by
 unfold rI at h;split at h
 ·cases h
 ·exact h
theorem nO:∀(l:List Nat) (q:Array Bool) (i:Nat) (d:Bool),(ki l q).getD i d=if i∈l/\i<q.size then true else q.getD i d
 |[],q,i,d=>by simp[ki]
 |j::l,q,i,d=>by
  have ih:=nO l (q.setIfInBounds j true) i d;simp only[ki,JF]at ih⊢;rw[ih];simp only[Array.size_setIfInBounds,cm];by_cases hj:j=i
  ·subst hj;by_cases hlt:j<q.size
   ·simp[hlt]
   ·simp[hlt,u7 (Nat.le_of_not_lt hlt)]
  ·have hij:i≠j:=jv hj;rw[getD_set_ne d hj];simp only[hij,false_or]
theorem Kh:∀A:bR,c7 (λ_=>none) A=[]/\eT (λ_=>none) A=A.length
 |[]=>⟨rfl,rfl⟩
 |p::A=>by
  obtain⟨h1,h2⟩:=Kh A;simp only[c7,eT,h1,h2,iz,iN];exact⟨trivial,by omega⟩
theorem bK.Yg {E:Env} {N:Nat} {ops:Array Oper} {O:List aq} {Q:AQ} {Z:Sg} {id:Nat} (pre:List Nat) (tl:List (Nat×TK)) (al:List Nat) (A:bR) (hm:E.P.follows .mixedOrders=true) (hA:ny E.T ops N al=some A) (hB:pG ops pre tl al=true) (hl:(fQ ops pre).length=pre.length)
  (h:rH E.toCx N O ops (λst=>∃σ',(∀t x,look σ' t=some x->st.1 t=some x)/\ig st.2 λzs=>jg E.toCx N ops (λs O'=>∃σ1,(∀t x,look σ1 t=some x->s t=some x)/\Q .norm σ1 O') (λx O'=>Q (.aO x) [] O') (jC ops tl) A [] (rI A (look (fS O.length zs++σ'))) (O++cS zs)) (fQ ops pre) (look Z,[])):
  bK E.toCx N (.region id ops true) Q Z O:=λF w0 η0 a w hs hx=>by
 simp only[pG,bL]at hB;obtain⟨⟨⟨⟨⟨_,hlex⟩,htl⟩,hsz⟩,hnd⟩,hal⟩:=hB;have hsz:=bE hsz;obtain⟨a1,a2,a3⟩:=Nn hA;rw[a3]at htl;have hrep:∀(n:Nat) (i:Nat) (d:Bool),(Array.replicate n false).getD i d=if i<n then false else d:=λn i d=>by
  by_cases hi:i<n<;>simp[hi]
 have hmem:∀p∈A,p.1∈al/\p.1∉pre/\p.1<ops.size:=λp hp=>by
  have h1:p.1∈al:=by rw[<-a2];exact cP.2 ⟨p,hp,rfl⟩
  simp only[iA,bL,kQ]at hal;obtain⟨o,ho,_⟩:=a1 p hp;exact⟨h1,by simpa using(hal p.1 h1).1,(jo.1 ho).1⟩
 have halm:∀i∈al,∃p∈A,p.1=i:=λi hi=>by rw[<-a2]at hi;obtain⟨p,hp,he⟩:=cP.1 hi;exact⟨p,hp,he⟩
 refine wp_mono (Q:=CQ E.G N F w O Q) ?_ (λe a w' ⟨e0,Z2,η2,g1,g2,g3,g4⟩=>⟨e0,Z2,η2,g1,g2,g3,hx.trans g4⟩);refine wp_region_any hm ?_;have hcut:rH E.toCx N O ops (λst=>Cut E.toCx N ops O (λF w1=>CQ E.G N F w1 O Q) ((jC ops tl).length+al.length) (ki pre (Array.replicate ops.size false)) st) (fQ ops pre) (look Z,[]):=by
  refine CY (λst ⟨σ',h1,h2⟩=>?_) h;intro F w1 w a zs hd;have hb:=zd h2 zs hd.eq;have hT:=vP _ _ _ _ [] _ _ (λp hp=>CJ hp) (λp hp=>by cases hp) htl hb;obtain⟨e1,e2⟩:=Kh A;have hlen:A.length=al.length:=by rw[<-a2];simp
  have hsl:eY w (Al F ((O++cS zs)++c7 (λ_=>none) A)) N a (rI A (look (fS O.length zs++σ'))):=by
   rw[e1,iz];refine⟨hd.size,λt x hx=>?_⟩;rcases sD (Wt hx)with⟨z,hz,k,rfl,rfl⟩|hx
   ·obtain⟨g1,g2⟩:=hd.nu z hz;exact⟨g1,by simp only[Rel];exact g2⟩
   ·exact hd.sl t x (h1 t x hx)
  refine Ws (Q:=Q) (λ_ _ h=>h) (λ_ _ h=>h) _ _ A _ (ki pre (Array.replicate ops.size false)) _ _ _ (λ_=>none) (by rw[e2,hlen]) hT ⟨a1,by rw[a2];exact CA hnd,λp hp j oj hoj hne=>?_,λp hp=>?_⟩ ?_ F w1 O a w hsl (λp hp b hb=>by cases hb) (by rw[e1,iz];exact hd.hp) hd.df ⟨hd.cls.1.1,hd.cls.2.1,hd.cls.2.2.1,hd.cls.2.2.2.1,λb hb _=>hd.cls.2.2.2.2 b hb,λb hb=>?_,hd.cls.1.2⟩
  ·obtain⟨oi,hoi,_,hdi,_⟩:=a1 p hp;simp only[iA,bL]at hal;have:=(hal p.1 (hmem p hp).1).2 j (xP.2 (jo.1 hoj).1);simp only[hoi,hoj,hdi,xD]at this;rcases this with h|h
   ·exact absurd (bE h) hne
   ·exact KF h
  ·have:(A.map (·.2.1)).contains p.2.1=true:=by rw[JD];exact cP.2 ⟨p,hp,rfl⟩
   simp only[rI,this]
  ·have hsize:(ki pre (Array.replicate ops.size false)).size=ops.size:=by
    have:∀(l:List Nat) (q:Array Bool),(ki l q).size=q.size:=by
     intro l
     induction l with
     |nil=>intro q;rfl
     |cons j l ih=>intro q;simp only[ki,JF]at ih⊢;rw[ih];simp
    rw[this];simp
   refine⟨λi hi=>?_,λi hi=>?_,λi hi=>?_,λi hi hall=>?_,λp hp _=>?_,λp hp=>?_,λp hp=>?_⟩
   ·by_cases hia:i∈al
    ·exact .inr ((halm i hia).imp λp hp=>⟨hp.1,hp.2,rfl⟩)
    ·left;rw[nO,cM (λh=>hia h.1)];exact hi
   ·refine⟨by rw[nO,hi];simp,λp hp he=>?_⟩;exfalso;rw[nO]at hi;split at hi
    ·rename_i h;exact(hmem p hp).2.1 (by rw[he];exact h.1)
    ·rw[hrep]at hi;split at hi<;>cases hi
   ·rw[nO]at hi;split at hi
    ·cases hi
    ·exact hi
   ·rw[nO]at hi;split at hi
    ·rename_i h;obtain⟨p,hp,he⟩:=halm i h.1;exact absurd rfl (hall p hp he)
    ·exact hi
   ·rw[nO,cM (λh=>(hmem p hp).2.1 h.1),hrep,dj (hmem p hp).2.2]
   ·rw[nO,dj ⟨(hmem p hp).1,by rw[hsize];exact(hmem p hp).2.2⟩]
   ·rw[nO,dj ⟨(hmem p hp).1,by rw[hsize];exact(hmem p hp).2.2⟩]
  ·rw[e1,iz,cn,cJ]at hb;rcases hb with hb|hb
   ·exact .inl hb
   ·obtain⟨x,hx,hb⟩:=ef.1 hb;obtain⟨z,hz,rfl⟩:=cP.1 hx;simp only[aq.ids,nN]at hb;subst hb;exact .inr (hd.new z hz)
 have hany:=K7 _ _ _ (LV pre _ _ Yk hlex hl hcut);rw[hsz]at hany;have hc:gP w {w with drawn:=w.drawn+1}:=⟨⟨rfl,.of (Cg _)⟩,rfl,rfl,bQ _,λ_ _=>rfl⟩;have hd:mu E.G N F O w {w with drawn:=w.drawn+1} a (look Z,[]) []:=
  ⟨hs.sg.1,hs.df,rfl,by simpa[cS]using hs.hp.later hc.2.2.2,λt x hx=>by
   obtain⟨h1,h2⟩:=hs.sg.2 t x hx;refine⟨h1,?_⟩;simp only[cS,xE,iz];exact h2.keep (hc.ext (O:=O)).keeps,by simp,hc,by simp⟩
 exact hany F w _ a [] hd
def aaf (L:aH) (R:DR->Hp->Prop):AR->List aq->Prop:=λr OB=>∃L' d O,L.le L'/\DR.inst L' d r/\HS L' O OB/\R d O
def bM (E:Env) (N:Nat) (o:Oper) (Z:TS) (O:Hp) (R:DR->Hp->Prop):Prop:=∀L s OB,SS L Z s->HS L O OB->cZ E.toCx N o s OB (aaf L R)
section
variable {E:Env} {N K:Nat} {Q:DQ} {Z:TS} {O:Hp} {o:Oper} {x:CV} {all rest:List Oper} {R:DR->Hp->Prop}
theorem bM.mono {R':DR->Hp->Prop} (h:bM E N o Z O R) (hr:∀r O',R r O'->R' r O'):bM E N o Z O R':=λL s OB hs hh=>(h L s OB hs hh).mono λ_ _ ⟨L',d,O',h1,h2,h3,h4⟩=>⟨L',d,O',h1,h2,h3,hr _ _ h4⟩
theorem bM.val (h:bg E N o Z O x):bM E N o Z O (λr O'=>r= .ret x/\O'=O):=λL s OB hs hh=>by
 obtain⟨y,h1,h2⟩:=h L s OB hs hh;refine(cZ.oH h2).mono ?_;rintro r O' ⟨rfl,rfl⟩;exact⟨L,.ret x,O,.refl L,⟨y,rfl,h1⟩,hh,rfl,rfl⟩
theorem bM.new {cells:List CV} {d:Nat} (hd:o.dst=some d) (h:∀L s OB,SS L Z s->HS L O OB->∃cs,aS L cells cs/\fA E.toCx N o s OB cs):bM E N o Z O (λr O'=>r= .ret (.own O.n 0)/\O'=O.push (.box cells)):=λL s OB hs hh=>by
 obtain⟨cs,h1,h2⟩:=h L s OB hs hh;refine(cZ.u1 hd h2).mono ?_;rintro r O' ⟨b,rfl,rfl⟩;have hdom:=hh.fJ O.n (bQ _);have hl:L.le (L.fI O.n b):=aH.Aj hdom.1;have hbn:(L.fI O.n b).b O.n=some b:=by simp[aH.fI]
 exact⟨_,.ret (.own O.n 0),O.push (.box cells),hl,⟨_,rfl,by simp only[aI];exact⟨b,_,hbn,rfl⟩⟩,hh.push hl (λ_ _=>rfl) (λi hi=>by simp[aH.fI,hi]) ⟨b,cs,hbn,rfl,h1.mono hl⟩,rfl,rfl⟩
theorem o8 {L:aH} {s:Sl} {p:Operand} (h:p∈o.op.operands.toList) {y:AV} (hy:ev s p=some y):ev (look (dA s (tmpsOf o))) p=some y:=by rw[fB h];exact hy
theorem bM.store {t:TypeId} {p v:Operand} {i off:Nat} {cs cs':List CV} {ti:TI} (ho:o.op= .store t p v) (hp:a6 Z p=some (.own i off)) (hv:a6 Z v=some x) (hi:O.e.get i=some (.box cs)) (ht:a7 E.T t=some ti)
  (hk:Nat.beq (dF x).length ti.size=true) (h1:l7 (dF x)=true) (hl:lU cs off (dF x)=some cs'):bM E N o Z O (λr O'=>r= .ret (.d (.v undef))/\O'=O.set i (.box cs')):=λL s OB hs hh=>by
 obtain⟨y,h2,h3⟩:=cg hs hp;simp only[aI]at h3;obtain⟨b,t',h3,rfl⟩:=h3;obtain⟨z,h4,h5⟩:=cg hs hv;obtain⟨q,h6,h7⟩:=hh.en i _ hi;obtain⟨b',us,h8,rfl,h9⟩:=h7;rw[h3]at h8;cases h8;have hc:=xZ h5;obtain⟨us',h10,h11⟩:=xV hl h9 hc;refine(cZ.T1 (CZ ho (o8 (L:=L) (by simp[ho,Op.operands]) h2) (o8 (L:=L) (by simp[ho,Op.operands]) h4) h6 ht (by rw[hc.length];exact hk) (CC h1 hc) h10)).mono ?_;rintro r O' ⟨rfl,rfl⟩;exact⟨L,.ret (.d (.v undef)),O.set i (.box cs'),.refl L,⟨_,rfl,rfl⟩,hh.set (.refl L) (λ_ _=>rfl) (λ_ _=>rfl) (hh.lt hi) ⟨b,us',h3,rfl,h11⟩,rfl,rfl⟩
theorem bM.qq {t:TypeId} {p v:Operand} {i n m e kk:Nat} {rows:List (List AV)} {r r':List AV} {y:AV} {ti:TI} (j off:Nat) (ho:o.op= .store t p v) (hp:a6 Z p=some (.oe i n m)) (hv:a6 Z v=some (.d y)) (hi:O.e.get i=some (.row e kk rows)) (hn:n=rows.length)
  (hm:m=j*kk+off) (hr:rows[j]? =some r) (ht:a7 E.T t=some ti) (hk:Nat.beq (cf y).length ti.size=true) (h1:eK (cf y)=true) (hl:eU r off (cf y)=some r'):bM E N o Z O (λr1 O'=>r1= .ret (.d (.v undef))/\O'=O.set i (.row e kk (rows.set j r'))):=λL s OB hs hh=>by
 obtain⟨z,h2,h3⟩:=cg hs hp;simp only[aI]at h3;obtain⟨a,c,t',h3,rfl⟩:=h3;obtain⟨z,h4,h5⟩:=cg hs hv;simp only[aI]at h5;subst h5;obtain⟨q,h6,h7⟩:=hh.en i _ hi;obtain⟨⟨a',c',h8,rfl⟩,h9⟩:=h7;subst hn;rw[h3]at h8;cases h8;refine(cZ.T1 (JW ho j off (o8 (L:=L) (by simp[ho,Op.operands]) h2) hm (o8 (L:=L) (by simp[ho,Op.operands]) h4) h6 hr ht hk h1 hl)).mono ?_;rintro r1 O' ⟨rfl,rfl⟩;exact⟨L,.ret (.d (.v undef)),O.set i (.row e kk (rows.set j r')),.refl L,⟨_,rfl,rfl⟩,hh.set (.refl L) (λ_ _=>rfl) (λ_ _=>rfl) (hh.lt hi) ⟨⟨a,c,by simpa using h3,by simp⟩,by simpa using h9⟩,rfl,rfl⟩
theorem bM.lit {n:Nat} {t:TypeId} {parts:Array (Nat×Operand)} {e k sz by' sz' by'':Nat} {z z':List Value} {td':TD} {cells:List AV} (ho:o.op= .buildSlice t n parts)
  (ht:a7 E.T t=some ⟨.slice e k,sz,by',z⟩) (hte:a7 E.T e=some ⟨td',sz',by'',z'⟩) (hf:eM k (ee Z) (gD n (z'.map .v)) parts.toList=some cells) (hb:Nat.ble (n*k) 16777216=true) (hk:Nat.ble 1 k=true):
  bM E N o Z O (λr O'=>r= .ret (.os O.n n)/\O'=O.push (.row e k (chunk n k cells))):=λL s OB hs hh=>by
 have hR:rT E.toCx N o (dA s (tmpsOf o)) OB (λx O'=>∃b,x= .os OB.length (some ⟨b,0,none⟩) n n/\O'=OB++[.row (.slice (some ⟨b,0,none⟩) n n) e k (chunk n k cells)]):=λF a w hst=>by
  have hf':eM k (look (dA s (tmpsOf o))) (gD n (z'.map .v)) parts.toList=some cells:=by
   rw[Cy λp hp=>fB (by rw[ho];simp only[Op.operands,cP];exact⟨p,hp,rfl⟩)];have key:∀(l:List (Nat×Operand)) (cs r:List AV),eM k (ee Z) cs l=some r->eM k s cs l=some r:=by
    intro l
    induction l with
    |nil=>intro cs r h;exact h
    |cons p l ih=>
     intro cs r h;obtain⟨i,p⟩:=p;simp only[eM]at h⊢;split at h
     ·rename_i y hy;have hy':ev s p=some y:=by
       cases p with
       |tmp u=>exact kt hs hy
       |const v=>exact hy
       |global g=>exact hy
       |func f=>exact hy
      simp only[hy'];split at h
      ·exact ih _ _ h
      ·cases h
     ·cases h
   exact key _ _ _ hf
  obtain⟨us,h1,h2,h3⟩:=Di (d:=o.dst) (ty:=o.type) (pos:=o.pos) (after:=o.after) (gd:=o.guard) ht hte hf' hb hk hst;have hb:=dD hb;have hk:=dD hk;have ho':o=⟨o.dst,.buildSlice t n parts,o.type,o.pos,o.after,o.guard⟩:=by rw[<-ho]
  rw[<-ho']at h1;have hext:=lH w (.cells us e) OB (.row (.slice (some ⟨w.heap.size,0,none⟩) n n) e k (chunk n k cells)) (by simp[aq.ids,Value.ownBlock]);refine⟨.slice (some ⟨w.heap.size,0,none⟩) n n,w.alloc (.cells us e),_,_,⟨w.heap.size,rfl,rfl⟩,h1,by simp only[Rel],?_,hext⟩;refine hst.hp.push (by simp) (λb hb=>jw w _ b hb) (by simp[aq.ids,Value.ownBlock]) (by simp[aq.ids,Value.ownBlock]) ?_;refine⟨us.toList,h2.keep hext.keeps,?_,.inr ⟨w.heap.size,n,us,by rw[gw],qf _,kh w _,by rw[gw];exact bQ _,?_,h3,?_⟩⟩
  ·rw[gw];simpa using h3
  ·have:n<=n*k:=Ca n hk;simp only[maxLen];omega
  ·rw[gw,<-h3,<-xK,jW]
 refine(cZ.I8 hR).mono ?_;rintro r O' ⟨y,rfl,b,rfl,rfl⟩;have hdom:=hh.fJ O.n (bQ _);have hl:L.le (L.ba O.n n (some ⟨b,0,none⟩,n)):=aH.ko λy hy=>by rw[hdom.2]at hy;cases hy
 have hbn:(L.ba O.n n (some ⟨b,0,none⟩,n)).s O.n n=some (some ⟨b,0,none⟩,n):=by simp[aH.ba]
 refine⟨_,.ret (.os O.n n),O.push (.row e k (chunk n k cells)),hl,⟨_,rfl,by simp only[aI];exact⟨_,_,_,hbn,rfl⟩⟩,hh.push hl (λi hi=>by funext m;simp[aH.ba,hi]) (λ_ _=>rfl) ⟨⟨some ⟨b,0,none⟩,n,by rw[gw];exact hbn,by rw[gw]⟩,λm hm=>?_⟩,rfl,rfl⟩;rw[gw]at hm;have:m≠n:=by omega
 simp only[aH.ba,this,and_false,if_false];exact hdom.2 m
theorem lj.okR {L:aH} {s:Sl} {OB:List aq} (hs:SS L Z s) (hh:HS L O OB) {k:Nat} {p:Operand} {rows:List (List AV)} (h:lj E Z O k p rows) (hp:p∈o.op.operands.toList):∀F a w,St E.G N w F a (dA s (tmpsOf o)) OB->iY w (Al F OB) k (a.eval p) rows:=λF a w hst=>by
 have key:∀{x:CV},a6 Z p=some x->∃y,ev (look (dA s (tmpsOf o))) p=some y/\aI L x y:=λh=>by
  obtain⟨y,h1,h2⟩:=cg hs h;exact⟨y,o8 (L:=L) hp h1,h2⟩
 cases h with
 |sl h=>
  obtain⟨y,h1,h2⟩:=key h;simp only[aI]at h2;subst h2;exact iY.sl (bA hst.sg h1)
 |BU h hI=>
  obtain⟨y,h1,h2⟩:=key h;simp only[aI]at h2;subst h2;exact iY.sl (hI _ _ _ (bA hst.sg h1))
 |nil h=>
  obtain⟨y,h1,h2⟩:=key h;simp only[aI]at h2;subst h2;have:=bA hst.sg h1;simp only[Rel]at this;rw[this];exact⟨none,0,0,[],rfl,rfl,by simp[bu],λ_=>rfl,λ_ h=>by cases h⟩
 |row h h3 hn=>
  obtain⟨y,h1,h2⟩:=key h;simp only[aI]at h2;obtain⟨a',c,t',h4,rfl⟩:=h2;obtain⟨q,h5,h6⟩:=hh.en _ _ h3;obtain⟨⟨a2,c2,h7,rfl⟩,_⟩:=h6;subst hn;rw[h4]at h7;cases h7;have:=bA hst.sg h1;simp only[Rel]at this;rw[this];exact iY.row (gG hst.hp h5)
 |fz h h3 hn=>
  obtain⟨y,h1,h2⟩:=key h;simp only[aI]at h2;obtain⟨a',c,t',h4,rfl⟩:=h2;obtain⟨q,h5,h6⟩:=hh.en _ _ h3;obtain⟨a2,c2,h7,rfl⟩:=h6;subst hn;rw[h4]at h7;cases h7;have:=bA hst.sg h1;simp only[Rel]at this;rw[this];exact iY.sl (qI hst.hp h5)
theorem bM.append {i n:Nat} {s' p:Operand} {t:TypeId} {e k sz by' sz' by'':Nat} {z z':List Value} {td':TD} {rows rows2:List (List AV)} (ho:o.op= .call {callee:= .builtin .append,args:= #[s',p],argTypes:= #[t,t]})
  (hb:(rows++rows2).length*by''<=140737488355328) (hs':a6 Z s'=some (.os i n)) (hi:O.e.get i=some (.row e k rows)) (hn:n=rows.length) (hx:lj E Z O k p rows2) (ht:a7 E.T t=some ⟨.slice e k,sz,by',z⟩) (hte:a7 E.T e=some ⟨td',sz',by'',z'⟩) (h1:gy rows2=true)
  (hk:Nat.ble 1 k=true) (hby:Nat.ble 1 by''=true):bM E N o Z O (λr O'=>r= .ret (.os i (rows++rows2).length)/\O'=O.set i (.row e k (rows++rows2))):=λL s OB hs hh=>by
 obtain⟨y,h2,h3⟩:=cg hs hs';simp only[aI]at h3;obtain⟨a,c,t',h3,rfl⟩:=h3;obtain⟨q,h6,h7⟩:=hh.en i _ hi;obtain⟨⟨a',c',h8,rfl⟩,h9⟩:=h7;subst hn;rw[h3]at h8;cases h8;refine(cZ.I8 (Ks ho ht hte (o8 (L:=L) (by simp[ho,Op.operands,Call.operands]) h2) h6 (hx.okR hs hh (by simp[ho,Op.operands,Call.operands])) h1 hk hby hb)).mono ?_;rintro r O' ⟨y,rfl,a',c',h0,rfl,rfl⟩;have hl:L.le (L.ba i (rows++rows2).length (a',c')):=aH.ko λy hy=>by
  by_cases hz:rows2=[]
  ·subst hz;simp only[iz]at hy;rw[h3]at hy;cases hy;obtain⟨rfl,rfl⟩:=h0 rfl;rfl
  ·have:rows.length<(rows++rows2).length:=by
    have:=xL.2 hz;simp;omega
   rw[h9 _ this]at hy;cases hy
 have hbn:(L.ba i (rows++rows2).length (a',c')).s i (rows++rows2).length=some (a',c'):=by simp[aH.ba]
 refine⟨_,.ret (.os i (rows++rows2).length),O.set i (.row e k (rows++rows2)),hl,⟨_,rfl,by simp only[aI];exact⟨_,_,_,hbn,rfl⟩⟩,hh.set hl (λj hj=>by funext m;simp[aH.ba,hj]) (λ_ _=>rfl) (hh.lt hi) ⟨⟨a',c',hbn,rfl⟩,λm hm=>?_⟩,rfl,rfl⟩;have hne:m≠(rows++rows2).length:=by omega
 simp only[aH.ba,hne,and_false,if_false];exact h9 m (by simp at hm;omega)
theorem bM.DT {i n:Nat} {s' p:Operand} {t u:TypeId} {e k sz by' sz' by'' szu byu:Nat} {z z' zu:List Value} {td':TD} {rows:List (List AV)} {b:ByteArray} (ho:o.op= .call {callee:= .builtin .append,args:= #[s',p],argTypes:= #[t,u]})
  (hb:(rows++dt b).length*by''<=140737488355328) (hs':a6 Z s'=some (.os i n)) (hi:O.e.get i=some (.row e k rows)) (hn:n=rows.length) (hx:a6 Z p=some (.d (.v (.string b)))) (ht:a7 E.T t=some ⟨.slice e k,sz,by',z⟩) (hu:a7 E.T u=some ⟨.str,szu,byu,zu⟩) (hte:a7 E.T e=some ⟨td',sz',by'',z'⟩)
  (hk:Nat.beq k 1=true) (hby:Nat.beq by'' 1=true):bM E N o Z O (λr O'=>r= .ret (.os i (rows++dt b).length)/\O'=O.set i (.row e k (rows++dt b))):=λL s OB hs hh=>by
 obtain⟨y,h2,h3⟩:=cg hs hs';simp only[aI]at h3;obtain⟨a,c,t',h3,rfl⟩:=h3;obtain⟨y2,g2,g3⟩:=cg hs hx;simp only[aI]at g3;subst g3;obtain⟨q,h6,h7⟩:=hh.en i _ hi;obtain⟨⟨a',c',h8,rfl⟩,h9⟩:=h7;subst hn;rw[h3]at h8;cases h8;refine(cZ.I8 (Kb ho ht hu hte (o8 (L:=L) (by simp[ho,Op.operands,Call.operands]) h2) h6 (o8 (L:=L) (by simp[ho,Op.operands,Call.operands]) g2) hk hby hb)).mono ?_;rintro r O' ⟨y,rfl,a',c',h0,rfl,rfl⟩;have hl:L.le (L.ba i (rows++dt b).length (a',c')):=aH.ko λy hy=>by
  by_cases hz:dt b=[]
  ·rw[hz]at hy;simp only[iz]at hy;rw[h3]at hy;cases hy;obtain⟨rfl,rfl⟩:=h0 hz;rfl
  ·have:rows.length<(rows++dt b).length:=by
    have:=xL.2 hz;simp;omega
   rw[h9 _ this]at hy;cases hy
 have hbn:(L.ba i (rows++dt b).length (a',c')).s i (rows++dt b).length=some (a',c'):=by simp[aH.ba]
 refine⟨_,.ret (.os i (rows++dt b).length),O.set i (.row e k (rows++dt b)),hl,⟨_,rfl,by simp only[aI];exact⟨_,_,_,hbn,rfl⟩⟩,hh.set hl (λj hj=>by funext m;simp[aH.ba,hj]) (λ_ _=>rfl) (hh.lt hi) ⟨⟨a',c',hbn,rfl⟩,λm hm=>?_⟩,rfl,rfl⟩;have hne:m≠(rows++dt b).length:=by omega
 simp only[aH.ba,hne,and_false,if_false];exact h9 m (by simp at hm;omega)
theorem bM.call {f:Operand} {args:List Operand} {g:FuncId} {cs:List CV} {Q':DR->Hp->Prop} {tys:Array TypeId} (ho:o.op= .call {callee:= .value f,args:=args.toArray,argTypes:=tys})
  (h:eh E g cs O Q') (hc:cT Z f args=some (g,cs)):bM E N o Z O Q':=λL s OB hs hh=>by
 obtain⟨ys,h1,h2⟩:=nP hs hc;have h3:=h L ys OB h2 hh;refine(cZ.O4 ho h1 h3.1 λF w vs hH hr=>h3.2 F w vs hH hr).mono ?_;rintro r O' ⟨L',d,η1,g1,g2,g3,g4⟩;exact⟨L',d,η1,hh.fK g1,g2,g3,g4⟩
theorem bM.pure {f:Operand} {args:List Operand} {g:FuncId} {cs:List CV} {xs' xs:List AV} {ns:List (Nat×Nat)} {ms:List (Nat×bm)} {res:AR} {tys:Array TypeId} (fl:Nat) (ho:o.op= .call {callee:= .value f,args:=args.toArray,argTypes:=tys})
  (h:Pure E.toCx g xs res) (hc:cT Z f args=some (g,cs)) (hf:b5 O.e fl cs=some (xs',ns,ms)) (hn:eqs ns) (hi:bZ xs' xs) (hl:ms=[]\/(match res with| .ret x=>cU x| .aO x=>cU x)=true):
  bM E N o Z O (λr O'=>(match res with| .ret x=>r= .ret (.d x)| .aO x=>r= .aO (.d x))/\O'=O):=λL s OB hs hh=>by
 obtain⟨ys,h1,h2⟩:=nP hs hc;refine cZ.O4 ho h1 h.1 λF w vs hH hr=>(C0 fl h hf hn hi hl hh hH h2 hr).mono ?_;rintro e w' ⟨hv,hcls⟩;refine⟨res,OB,?_,hv,hH.later hcls.2.2.2,hcls.ext⟩;cases res with
 |ret x=>exact⟨L,.ret (.d x),O,.refl L,⟨x,rfl,rfl⟩,hh,rfl,rfl⟩
 |aO x=>exact⟨L,.aO (.d x),O,.refl L,⟨x,rfl,rfl⟩,hh,rfl,rfl⟩
theorem bM.panic {p:Operand} (ho:o.op= .panic p) {t:TypeId} {y:CV} (hp:a6 Z p=some (.bB t y)):bM E N o Z O (λr O'=>r= .aO (.bB t y)/\O'=O):=λL s OB hs hh=>by
 obtain⟨z,h1,h2⟩:=cg hs hp;have h3:=h2;simp only[aI]at h3;obtain⟨u,rfl,_⟩:=h3;refine(cZ.panic ho h1).mono ?_;rintro r O' ⟨rfl,rfl⟩;exact⟨L,.aO (.bB t y),O,.refl L,⟨_,rfl,h2⟩,hh,rfl,rfl⟩
theorem bM.Ey {p:Operand} (ho:o.op= .panic p) {t:TypeId} {y:AV} (hp:a6 Z p=some (.d (.bB t y))):bM E N o Z O (λr O'=>r= .aO (.d (.bB t y))/\O'=O):=λL s OB hs hh=>by
 obtain⟨z,h1,h2⟩:=cg hs hp;simp only[aI]at h2;subst h2;refine(cZ.panic ho h1).mono ?_;rintro r O' ⟨rfl,rfl⟩;exact⟨L,.aO (.d (.bB t y)),O,.refl L,⟨_,rfl,rfl⟩,hh,rfl,rfl⟩
theorem cZ.kE {C:Cx} {s s1:Sl} {OB OB1:List aq} {R:AR->List aq->Prop} (hw:∀F w a,bD C.G w F OB->la w (Al F OB) N a o s->bD C.G w F OB1/\la w (Al F OB1) N a o s1/\∀b∈ids OB1,b∈ids OB) (h:cZ C N o s1 OB1 R):cZ C N o s OB R:=
 λF w a hN hd hH hs K Q k1 k2=>by
  obtain⟨h1,h2,h3⟩:=hw F w a hH hs;have hx:Ext OB w OB1 w:=⟨rfl,rfl,rfl,bQ _,λ_ _ _=>rfl,λb hb=> .inl (h3 b hb),.of (bQ _)⟩;exact h F w a hN hd h1 h2 K Q (λv w' x O' hR hv hH' hext=>k1 v w' x O' hR hv hH' (hx.trans hext)) (λv w' x O' hR hv hH' hext=>k2 v w' x O' hR hv hH' (hx.trans hext))
theorem bM.iF (t e k:Nat) (ht:Z.get t=some (.d (.v (.slice none 0 0)))) (h:bM E N o (Tr.put 24 Z t (some (.os O.n 0))) (O.push (.row e k [])) R):bM E N o Z O R:=λL s OB hs hh=>by
 obtain⟨y,h1,h2⟩:=hs t _ ht;simp only[aI]at h2;subst h2;have hdom:=hh.fJ O.n (bQ _);have hl:L.le (L.ba O.n 0 (none,0)):=aH.ko λy hy=>by rw[hdom.2]at hy;cases hy
 have hbn:(L.ba O.n 0 (none,0)).s O.n 0=some (none,0):=by simp[aH.ba]
 have hs1:SS (L.ba O.n 0 (none,0)) (Tr.put 24 Z t (some (.os O.n 0))) (fF s t (.os OB.length none 0 0)):=λu z hz=>by
  rcases Tr.ep 24 Z t u _ z hz with⟨rfl,h3⟩|⟨hne,h3⟩
  ·cases h3;exact⟨.os OB.length none 0 0,by simp[fF],by simp only[aI];exact⟨_,_,OB.length,hbn,rfl⟩⟩
  ·obtain⟨q,h4,h5⟩:=hs u z h3;exact⟨q,by simp[fF,hne,h4],h5.mono hl⟩
 have hh1:HS (L.ba O.n 0 (none,0)) (O.push (.row e k [])) (OB++[.row (.slice none 0 0) e k []]):=by
  refine hh.push hl (λi hi=>by funext m;simp[aH.ba,hi]) (λ_ _=>rfl) ⟨⟨none,0,by simpa using hbn,by simp⟩,λm hm=>?_⟩;have:m≠0:=by simp at hm;omega
  simp only[aH.ba,this,and_false,if_false];exact hdom.2 m
 refine cZ.kE (λF w a hH hopd=>?_) ((h _ _ _ hs1 hh1).mono ?_)
 ·have hkeep:cL w (Al F OB) w (Al F (OB++[aq.row (.slice none 0 0) e k []])):=⟨bQ _,λb _ ha=>⟨by simpa[Al,cn,cF,aq.ids,Value.ownBlock,ids]using ha,rfl⟩⟩;refine⟨hH.push (bQ _) (λ_ _=>rfl) (by simp[aq.ids,Value.ownBlock]) (by simp[aq.ids,Value.ownBlock]) ⟨[],by simp[bu],by simp,.inl ⟨rfl,rfl⟩⟩,λu hu q hq=>?_,λb hb=>by simpa[cn,cF,aq.ids,Value.ownBlock,ids]using hb⟩;unfold fF at hq;split at hq
  ·rename_i hut;subst hut;simp only[aE]at hq;subst hq;obtain⟨g1,g2⟩:=hopd u hu _ h1;simp only[Rel]at g2⊢;exact⟨g1,g2⟩
  ·obtain⟨g1,g2⟩:=hopd u hu q hq;exact⟨g1,g2.keep hkeep⟩
 ·rintro r O' ⟨L',d,η1,g1,g2,g3,g4⟩;exact⟨L',d,η1,hl.trans g1,g2,g3,g4⟩
theorem bM.cH {t:Nat} {z:AV} {ns:List (Nat×Nat)} {ms:List (Nat×bm)} (f:Nat) (hx:Z.get t=some x) (hf:b5 O.e f [x]=some ([z],ns,ms)) (hn:eqs ns) (ht:t∈tmpsOf o) (h:bM E N o (Tr.put 24 Z t (some (.d z))) (iE ms O) R):bM E N o Z O R:=λL s OB hs hh=>by
 obtain⟨y,h1,h2⟩:=hs t x hx;have hs1:SS L (Tr.put 24 Z t (some (.d z))) (fF s t z):=λu q hq=>by
  rcases Tr.ep 24 Z t u _ q hq with⟨rfl,h3⟩|⟨hne,h3⟩
  ·cases h3;exact⟨z,by simp[fF],rfl⟩
  ·obtain⟨q',h4,h5⟩:=hs u q h3;exact⟨q',by simp[fF,hne,h4],h5⟩
 by_cases hcan:∃F w v,bD E.G w F OB/\Rel w (Al F OB) y v
 ·obtain⟨F0,w0,v0,hH0,hv0⟩:=hcan;obtain⟨_,h40⟩:=gV hh hH0 (ms.map (·.1)) f hf hn (λp hp=>cP.2 ⟨p,hp,rfl⟩) (aS.one h2) (aJ.one hv0);have hHS:HS L (iE ms O) (eO L ms OB):=yV (w:=w0) (F:=eR F0 OB (ms.map (·.1))) hh λp hp=>⟨(h40 p hp).lt hh,h40 p hp⟩;refine cZ.kE (λF w a hH hopd=>?_) (h L _ _ hs1 hHS);have hv:=(hopd t ht y h1).2;obtain⟨h3,h4⟩:=gV hh hH (ms.map (·.1)) f hf hn (λp hp=>cP.2 ⟨p,hp,rfl⟩) (aS.one h2) (aJ.one hv);have hsub:∀b∈ids (eO L ms OB),b∈ids OB:=λb hb=>(vl ms OB).subset hb;refine⟨zy hH h4,λu hu q hq=>?_,hsub⟩;unfold fF at hq;split at hq
  ·rename_i hut;subst hut;simp only[aE]at hq;subst hq;exact⟨(hopd u hu y h1).1,h3.A1.keep sq⟩
  ·obtain⟨g1,g2⟩:=hopd u hu q hq;exact⟨g1,g2.keep (cL.sub hsub)⟩
 ·intro F w a hN hd hH hopd;exact absurd ⟨F,w,_,hH,(hopd t ht y h1).2⟩ hcan
mutual
theorem aI.same {L:aH} {w:World} {A:Nat->Prop}:∀{x:CV} {y y':AV} {v:Value},aI L x y->aI L x y'->Rel w A y v->Rel w A y' v
 | .d x,_,_,_,h,g,hr=>by simp only[aI]at h g;subst h;subst g;exact hr
 | .agg xs,_,_,_,h,g,hr=>by
  simp only[aI]at h g;obtain⟨ys,rfl,h⟩:=h;obtain⟨zs,rfl,g⟩:=g;simp only[Rel]at hr⊢;obtain⟨vs,rfl,hr⟩:=hr;exact⟨vs,rfl,aS.same h g hr⟩
 | .bN xs,_,_,_,h,g,hr=>by
  simp only[aI]at h g;obtain⟨ys,rfl,h⟩:=h;obtain⟨zs,rfl,g⟩:=g;simp only[Rel]at hr⊢;obtain⟨vs,rfl,hr⟩:=hr;exact⟨vs,rfl,aS.same h g hr⟩
 | .own t o,_,_,_,h,g,hr=>by
  simp only[aI]at h g;obtain⟨b,t1,h,rfl⟩:=h;obtain⟨b',t2,g,rfl⟩:=g;rw[h]at g;cases g;simp only[Rel]at hr⊢;exact hr
 | .os t n,_,_,_,h,g,hr=>by
  simp only[aI]at h g;obtain⟨a,c,t1,h,rfl⟩:=h;obtain⟨a',c',t2,g,rfl⟩:=g;rw[h]at g;cases g;simp only[Rel]at hr⊢;exact hr
 | .oe t n o,_,_,_,h,g,hr=>by
  simp only[aI]at h g;obtain⟨a,c,t1,h,rfl⟩:=h;obtain⟨a',c',t2,g,rfl⟩:=g;rw[h]at g;cases g;simp only[Rel]at hr⊢;exact hr
 | .om t,_,_,_,h,g,hr=>by
  simp only[aI]at h g;obtain⟨b,t1,h,rfl⟩:=h;obtain⟨b',t2,g,rfl⟩:=g;rw[h]at g;cases g;simp only[Rel]at hr⊢;exact hr
 | .fn f fs cs,_,_,_,h,g,hr=>by
  simp only[aI]at h g;obtain⟨us,vs,rfl,h1,h2⟩:=h;obtain⟨us',vs',rfl,g1,g2⟩:=g;simp only[Rel]at hr⊢;obtain⟨ps,qs,e,hr1,hr2⟩:=hr;exact⟨ps,qs,e,aS.same h1 g1 hr1,aS.same h2 g2 hr2⟩
 | .bB t x,_,_,_,h,g,hr=>by
  simp only[aI]at h g;obtain⟨u,rfl,h⟩:=h;obtain⟨u',rfl,g⟩:=g;simp only[Rel]at hr⊢;obtain⟨q,e,hr⟩:=hr;exact⟨q,e,aI.same h g hr⟩
theorem aS.same {L:aH} {w:World} {A:Nat->Prop}:∀{x:List CV} {y y':List AV} {v:List Value},aS L x y->aS L x y'->aJ w A y v->aJ w A y' v
 |[],_,_,_,h,g,hr=>by simp only[aS]at h g;subst h;subst g;exact hr
 |_::_,_,_,_,h,g,hr=>by
  simp only[aS]at h g;obtain⟨y,r,rfl,h1,h2⟩:=h;obtain⟨y',r',rfl,g1,g2⟩:=g;simp only[aJ]at hr⊢;obtain⟨v,q,e,hr1,hr2⟩:=hr;exact⟨v,q,e,aI.same h1 g1 hr1,aS.same h2 g2 hr2⟩
end
theorem bV.same {L:aH} {C:Cx} {s:Sl} {OB:List aq} {y y':AV} (h:aI L x y) (g:aI L x y') (hp:bV C N o s OB y):bV C N o s OB y':=λF w a h1 h2 h3 h4 K Q k=>hp F w a h1 h2 h3 h4 K Q λv w' hv hc=>k v w' (aI.same h g hv) hc
