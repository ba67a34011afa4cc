/- What the orders of a tail say of worlds; the rule for regions whose order is open. -/
import Derived.Test.YthlcjaanmbjcaaaGreatKB12
import Derived.Test.YthlcjaanmbjcaaaGreatKD3
set_option linter.all false
noncomputable section
namespace Go.Bw
open Go
def Hd (C:Cx) (N:Nat) (ops:Array Oper) (p:Nat×(Nat×List AV)):Prop:=∃o,ops[p.1]? =some o/\o.guard=none/\o.dst=some p.2.1/\p.2.1<N/\(∀e∈o.after,Region.binds .any e=false)/\∀s O,dZ C N o s O p.2.2
def cv (st:Nat->Option Nat):bo->List ag
 |[]=>[]
 |p::A=>(match st p.1 with
  |some b=>[.box b p.2.2]
  |none=>[])++cv st A
def dL (st:Nat->Option Nat):bo->Nat
 |[]=>0
 |p::A=>(match st p.1 with
  |some _=>0
  |none=>1)+dL st A
def eQ (st:Nat->Option Nat) (i b:Nat):Nat->Option Nat:=λk=>if k=i then some b else st k
def iV (st:Nat->Option Nat) (A:bo):List ((Nat×List AV)×Nat):=A.map λp=>(p.2,(st p.1).getD 0)
section
variable {C:Cx} {N:Nat} {ops:Array Oper} {st:Nat->Option Nat}
theorem Cg (j:Nat):∀A:bo,(cv st A).Perm (cv st (bC ops j A)++cv st (bJ ops j A))
 |[]=>List.Perm.refl _
 |p::A=>by
  have ih:=Cg j A;simp only[bC,bJ,JP]at ih⊢;cases hb:du ops p.1 j with
  |true=>
   simp only[u1,if_true,cv,fY,if_false,gU];exact ih.append_left _
  |false=>
   simp only[BM,if_true,cv,fY,if_false];refine(ih.append_left _).trans ?_;rw[<-gU,<-gU];exact List.perm_append_comm.append_right _
theorem Dv (j:Nat):∀A:bo,dL st A=dL st (bC ops j A)+dL st (bJ ops j A)
 |[]=>rfl
 |p::A=>by
  have ih:=Dv j A;simp only[bC,bJ,JP]at ih⊢;cases hb:du ops p.1 j with
  |true=>simp only[u1,if_true,dL,fY,if_false];omega
  |false=>simp only[BM,if_true,dL,fY,if_false];omega
theorem Ef:∀{A:bo},(∀p∈A,st p.1≠none)->dL st A=0
 |[],_=>rfl
 |p::A,h=>by
  simp only[dL];rw[Ef (A:=A) λq hq=>h q (by simp[hq])];have:=h p (by simp);cases hs:st p.1 with
  |none=>exact absurd hs this
  |some b=>rfl
theorem EL:∀{A:bo} {p:Nat×(Nat×List AV)},p∈A->st p.1=none->0<dL st A
 |q::A,p,hp,hs=>by
  simp only[dL];rcases cL.1 hp with rfl|hp
  ·rw[hs];simp only;omega
  ·have:=EL hp hs;omega
theorem Eg:∀{A:bo},(∀p∈A,st p.1≠none)->cm (iV st A)=cv st A
 |[],_=>rfl
 |p::A,h=>by
  have ih:=Eg (A:=A) λq hq=>h q (by simp[hq]);have:=h p (by simp);cases hs:st p.1 with
  |none=>exact absurd hs this
  |some b=>
   simp only[cm,iV]at ih;simp only[cv,hs,cm,iV,cA,JR,List.singleton_append,ih]
theorem LV (A:bo):(iV st A).map (·.1)=i' A:=by simp[iV,i']
theorem Dw {i b:Nat}:∀{A:bo},(∀p∈A,p.1≠i)->cv (eQ st i b) A=cv st A/\dL (eQ st i b) A=dL st A
 |[],_=>⟨rfl,rfl⟩
 |p::A,h=>by
  obtain⟨h1,h2⟩:=Dw (b:=b) (A:=A) λq hq=>h q (by simp[hq]);have hne:=h p (by simp);simp only[cv,dL,h1,h2,eQ,hne,if_false,and_self]
theorem Eh {b:Nat}:∀{A:bo} {p:Nat×(Nat×List AV)},p∈A->(A.map (·.1)).Nodup->st p.1=none->(cv (eQ st p.1 b) A).Perm (cv st A++[.box b p.2.2])/\dL (eQ st p.1 b) A+1=dL st A
 |q::A,p,hp,hnd,hs=>by
  simp only[cA,JW,cB,not_exists,not_and]at hnd;rcases cL.1 hp with rfl|hp
  ·obtain⟨h1,h2⟩:=Dw (st:=st) (b:=b) (A:=A) (i:=p.1) λq hq he=>hnd.1 q hq he;simp only[cv,dL,h1,h2,hs];refine⟨?_,by simp[eQ];omega⟩;simp only[eQ,if_true,rK];exact uP
  ·have hne:q.1≠p.1:=λhe=>hnd.1 p hp he.symm;obtain⟨h1,h2⟩:=Eh (b:=b) hp hnd.2 hs;simp only[cv,dL];have e:eQ st p.1 b q.1=st q.1:=by simp[eQ,hne]
   rw[e];refine⟨?_,by omega⟩;rw[gU];exact h1.append_left _
theorem bh.back {G:Gl} {w w':World} {F:Nat->Prop} {Os Os' Or:List ag} (hH1:bh G w F (Os++Or)) (hh:bh G w' (λb=>F b\/b∈ids Or) Os') (hext:Ext Os w Os' w'):bh G w' F (Os'++Or)/\Ext (Os++Or) w (Os'++Or) w':=by
 have hlt:=hH1.lt;have hnd:=hH1.nodup;rw[bI,jd]at hnd;have hA:Al (λb=>F b\/b∈ids Or) Os'=Al F (Os'++Or):=jN;have hmem:∀b,b∈ids (Os++Or)↔b∈ids Os\/b∈ids Or:=λb=>by rw[bI,ck]
 have hnew:∀b∈ids Os',b∈ids Os\/w.heap.size<=b:=hext.new;have hr:∀b∈ids Or,b<w.heap.size/\b∉ids Os:=λb hb=>⟨hlt b (by simp[bI,hb]),λhm=>hnd.2.2 b hm b hb rfl⟩;have hE:Ext (Os++Or) w (Os'++Or) w':=by
  refine⟨hext.os,hext.tape,hext.output,hext.size,λb hb hn=>hext.block b hb λhm=>hn ((hmem b).2 (.inl hm)),λb hb=>?_,hext.drawn⟩;rw[bI,ck]at hb;rcases hb with hb|hb
  ·exact(hnew b hb).imp (λhm=>(hmem b).2 (.inl hm)) id
  ·exact .inl ((hmem b).2 (.inr hb))
 have hk:b9 w (Al F (Os++Or)) w' (Al F (Os'++Or)):=hE.keeps;refine⟨⟨λx hx=>?_,?_,λb hb=>?_,λb hb=>hh.bound b (.inl hb),hH1.eX.aU hk⟩,hE⟩
 ·rcases ck.1 hx with hx|hx
  ·rw[<-hA];exact hh.dw x hx
  ·have hx0:=hH1.dw x (by simp[hx]);refine hx0.aU hk λb hb=>?_;have hbm:b∈ids Or:=fe.2 ⟨x,hx,hb⟩;exact hext.block b (hr b hbm).1 (hr b hbm).2
 ·rw[bI,jd];refine⟨hh.nodup,hnd.2.1,λa ha b hb hab=>?_⟩;subst hab;rcases hnew a ha with h1|h1
  ·exact(hr a hb).2 h1
  ·have:=(hr a hb).1;omega
 ·rw[bI,ck]at hb;rcases hb with hb|hb
  ·exactλhF=>hh.free b hb (.inl hF)
  ·exact hH1.free b ((hmem b).2 (.inr hb))
theorem bh.drop {G:Gl} {w:World} {F:Nat->Prop} {O W:List ag} (h:bh G w F (O++W)):bh G w F O:=by
 have hsub:∀b∈ids O,b∈ids (O++W):=λb hb=>by rw[bI];exact lv _ hb
 have hk:=b9.sub (w:=w) (F:=F) hsub;have hnd:=h.nodup;rw[bI,jd]at hnd;exact⟨λx hx=>(h.dw x (by simp[hx])).aU hk (λ_ _=>rfl),hnd.1,λb hb=>h.free b (hsub b hb),h.bound,h.eX.aU hk⟩
theorem Ext.perm {O O' O'':List ag} {w w':World} (h:Ext O w O' w') (hp:O'.Perm O''):Ext O w O'' w':=⟨h.os,h.tape,h.output,h.size,h.block,λb hb=>h.new b ((px hp).mem_iff.2 hb),h.drawn⟩
theorem Ext.drop {O O' W:List ag} {w w':World} (h:Ext O w (O'++W) w'):Ext O w O' w':=⟨h.os,h.tape,h.output,h.size,h.block,λb hb=>h.new b (by rw[bI];exact lv _ hb),h.drawn⟩
structure GR (C:Cx) (N:Nat) (ops:Array Oper) (A:bo) (s:Sl):Prop where
 ok:∀p∈A,Hd C N ops p
 nd:(A.map (·.1)).Nodup
 dst:∀p∈A,∀j oj,ops[j]? =some oj->j≠p.1->oj.dst≠some p.2.1
 sl:∀p∈A,s p.2.1=none
structure He (A:bo) (listed wl:Array Bool) (st:Nat->Option Nat):Prop where
 h1:∀i,wl.getD i true=false->listed.getD i true=false\/∃p∈A,p.1=i/\st i=none
 h2:∀i,wl.getD i false=true->listed.getD i false=true/\∀p∈A,p.1=i->st i≠none
 h3:∀i,listed.getD i true=false->wl.getD i true=false
 h4:∀i,listed.getD i false=true->(∀p∈A,p.1=i->st i≠none)->wl.getD i false=true
 h5:∀p∈A,st p.1=none->wl.getD p.1 true=false
 h6:∀p∈A,listed.getD p.1 true=true
 h7:∀p∈A,listed.getD p.1 false=true
theorem B1 (l:Array Bool) (i:Nat):(l.setIfInBounds i true).getD i true=true:=by
 rcases je i l.size with h|h
 ·simp[h]
 ·simp[o9,h]
theorem u5 {l:Array Bool} {i:Nat} (h:l.getD i true=false):(l.setIfInBounds i true).getD i false=true:=by
 rcases je i l.size with h'|h'
 ·simp[h']
 ·simp[o9,h']at h
theorem Dx:∀{A:bo} {p q:Nat×(Nat×List AV)},(A.map (·.1)).Nodup->p∈A->q∈A->p.1=q.1->p=q
 |x::A,p,q,hnd,hp,hq,he=>by
  simp only[cA,JW,cB,not_exists,not_and]at hnd;rcases cL.1 hp with h1|h1<;>rcases cL.1 hq with h2|h2
  ·rw[h1,h2]
  ·exact absurd (by rw[<-he,h1]) (hnd.1 q h2)
  ·exact absurd (by rw[he,h2]) (hnd.1 p h1)
  ·exact Dx hnd.2 h1 h2 he
theorem Kj {i j:Nat} {o:Oper} (ho:ops[j]? =some o) (h:du ops i j=true):∃e∈o.after,Region.binds .any e=true/\e.on=i:=by
 unfold du at h;rw[ho]at h;simp only[BU,bn,beq_iff_eq]at h;obtain⟨q,hq,h1,h2⟩:=h;exact⟨q,by simpa using hq,h1,h2⟩
theorem dN.perm {w:World} {F:Nat->Prop} {O O':List ag} {a:Act} {s:Sl} (h:dN w (Al F O) N a s) (hp:O.Perm O'):dN w (Al F O') N a s:=by rw[<-lP hp];exact h
variable {Qn:Sl->List ag->Prop} {Qp:AV->List ag->Prop} {Q:AQ}
theorem Lt (hQn:∀s O,Qn s O->∃Z',(∀t x,look Z' t=some x->s t=some x)/\Q .norm Z' O) (hQp:∀x O,Qp x O->Q (.aD x) [] O):
  ∀(m n:Nat) (A:bo) (listed wl:Array Bool) (pend:ew) (s:Sl) (O:List ag) (st:Nat->Option Nat),m=n+dL st A->fc C N ops Qn Qp n A listed pend s O->GR C N ops A s->He A listed wl st->
   ∀F w0 O0 a w,dN w (Al F (O++cv st A)) N a s->(∀p∈A,∀b,st p.1=some b->a.tmps.getD p.2.1 undef= .pointer (some ⟨b,0,none⟩))->bh C.G w F (O++cv st A)->a.defers=[]->Ext O0 w0 (O++cv st A) w->
    wpAny C.P .any ops (CQ C.G N F w0 O0 Q) m wl a w:=by
 intro m
 induction m with
 |zero=>
  intro n A listed wl pend s O st hm h hA hW F w0 O0 a w hs hptr hh hdf hx;have hn:n=0:=by omega
  subst hn;have hall:∀p∈A,st p.1≠none:=λp hp hs=>by have:=EL hp hs;omega
  refine⟨?_,?_⟩
  ·refine Su.2 λj hj=>?_;obtain⟨hju,o,ho,hd⟩:=mem_ready.1 hj;rcases hW.h1 j hju with h1|⟨p,hp,rfl,h2⟩
   ·have:j∈Region.ready .any ops listed:=mem_ready.2 ⟨h1,o,ho,λe he hb=>(hW.h2 _ (hd e he hb)).1⟩;rw[h.2.1]at this;cases this
   ·exact hall p hp h2
  ·obtain⟨Z',h1,h2⟩:=hQn s O h.2.2;refine CQ.intro .norm rfl h2 ⟨?_,hh.drop,hdf⟩ hx.drop;have hk:=b9.sub (w:=w) (F:=F) (O:=O++cv st A) (O':=O) λb hb=>by rw[bI];exact lv _ hb
   exact⟨hs.1,λt x hx=>⟨(hs.2 t x (h1 t x hx)).1,(hs.2 t x (h1 t x hx)).2.aU hk⟩⟩
 |succ m ih=>
  intro n A listed wl pend s O st hm h hA hW F w0 O0 a w hs hptr hh hdf hx;refine⟨λh0=>?_,λj hj=>?_⟩
  ·have hall:∀p∈A,st p.1≠none:=λp hp hsn=>by
    obtain⟨o,ho,_,_,_,hna,_⟩:=hA.ok p hp;have:p.1∈Region.ready .any ops wl:=mem_ready.2 ⟨hW.h5 p hp hsn,o,ho,λe he hb=>by rw[hna e he]at hb;cases hb⟩;rw[h0]at this;cases this
   have hr0:Region.ready .any ops listed=[]:=by
    refine Su.2 λj hj=>?_;obtain⟨hju,o,ho,hd⟩:=mem_ready.1 hj;have:j∈Region.ready .any ops wl:=mem_ready.2 ⟨hW.h3 j hju,o,ho,λe he hb=>hW.h4 _ (hd e he hb) λp hp he'=>by rw[<-he'];exact hall p hp⟩;rw[h0]at this;cases this
   have hq:Qn s O:=by
    cases n with
    |zero=>exact h.2.2
    |succ n=>exact h.2.1 hr0
   obtain⟨Z',h1,h2⟩:=hQn s O hq;refine CQ.intro .norm rfl h2 ⟨?_,hh.drop,hdf⟩ hx.drop;have hk:=b9.sub (w:=w) (F:=F) (O:=O++cv st A) (O':=O) λb hb=>by rw[bI];exact lv _ hb
   exact⟨hs.1,λt x hx=>⟨(hs.2 t x (h1 t x hx)).1,(hs.2 t x (h1 t x hx)).2.aU hk⟩⟩
  ·obtain⟨hju,o,ho,hdep⟩:=mem_ready.1 hj;unfold wpOp;simp only[ho];rcases hW.h1 j hju with hjl|⟨p,hp,hpj,hsn⟩
   ·--an operation of the tail
    have hjr:j∈Region.ready .any ops listed:=mem_ready.2 ⟨hjl,o,ho,λe he hb=>(hW.h2 _ (hdep e he hb)).1⟩;cases n with
    |zero=>rw[h.2.1]at hjr;cases hjr
    |succ n=>
     obtain⟨o',ho',hst⟩:=h.2.2 j hjr;rw[ho]at ho';cases ho';have hex:∀p∈bC ops j A,st p.1≠none:=λp hp=>by
      simp only[bC,fJ]at hp;obtain⟨e,he,hb,heq⟩:=Kj ho hp.2;exact(hW.h2 p.1 (by rw[<-heq];exact hdep e he hb)).2 p hp.1 rfl
     have hstp:=sq hst (iV st (bC ops j A)) (LV _);have hents:cm (iV st (bC ops j A))=cv st (bC ops j A):=Eg hex;have hperm:(O++cv st A).Perm ((O++cm (iV st (bC ops j A)))++cv st (bJ ops j A)):=by
      rw[hents,gU];exact(Cg j A).append_left _
     have hH1:=hh.perm hperm;have hx1:=hx.perm hperm;have hzs:∀z∈iV st (bC ops j A),∃p∈A,du ops p.1 j=true/\z.1=p.2/\st p.1=some z.2:=λz hz=>by
      simp only[iV,cB]at hz;obtain⟨p,hp,rfl⟩:=hz;have:=hex p hp;simp only[bC,fJ]at hp;refine⟨p,hp.1,hp.2,rfl,?_⟩;cases hs:st p.1 with
      |none=>exact absurd hs this
      |some b=>rfl
     generalize iV st (bC ops j A)=zs at hstp hperm hH1 hx1 hzs hents;have hcnt:m=n+dL st (bJ ops j A):=by
      have h1:=Dv (ops:=ops) (st:=st) j A;rw[Ef hex]at h1;omega
     have hs1:dN w (Al F ((O++cm zs)++cv st (bJ ops j A))) N a (eD O.length zs s):=by
      rw[<-lP hperm];refine⟨hs.1,λt x ht=>?_⟩;simp only[eD]at ht;split at ht
      ·rename_i y hl;cases ht;have:look (eu O.length zs++[]) t=some x:=by simpa using hl
       rcases m5 this with⟨z,hz,k,rfl,rfl⟩|h
       ·obtain⟨p,hp,_,he,hsp⟩:=hzs z hz;obtain⟨_,_,_,_,hlt,_⟩:=hA.ok p hp;rw[he];exact⟨hlt,by simp only[Rel];exact hptr p hp _ hsp⟩
       ·simp[look]at h
      ·exact hs.2 t x ht
     have hne:∀p∈A,j≠p.1:=λp hp he=>by
      have:=hW.h6 p hp;rw[<-he,hjl]at this;cases this
     have hsub:∀p∈bJ ops j A,p∈A:=λp hp=>(fJ.1 hp).1;have hW':He (bJ ops j A) (listed.setIfInBounds j true) (wl.setIfInBounds j true) st:=by
      have hjne:∀{i:Nat} {l:Array Bool},(l.setIfInBounds j true).getD i true=false->j≠i:=λhi he=>by subst he;rw[B1]at hi;cases hi
      refine⟨λi hi=>?_,λi hi=>?_,λi hi=>?_,λi hi hall=>?_,λp hp hsn=>?_,λp hp=>?_,λp hp=>?_⟩
      ·have hji:=hjne hi;rw[getD_set_ne true hji]at hi⊢;rcases hW.h1 i hi with h1|⟨p,hp,rfl,h2⟩
       ·exact .inl h1
       ·refine .inr ⟨p,?_,rfl,h2⟩;simp only[bJ,fJ,iA];refine⟨hp,?_⟩;cases hb:du ops p.1 j with
        |false=>rfl
        |true=>exact absurd h2 (hex p (by simp only[bC,fJ];exact⟨hp,hb⟩))
      ·by_cases hji:j=i
       ·subst hji;exact⟨u5 hjl,λp hp he=>absurd he.symm (hne p (hsub p hp))⟩
       ·rw[getD_set_ne false hji]at hi⊢;obtain⟨h1,h2⟩:=hW.h2 i hi;exact⟨h1,λp hp he=>h2 p (hsub p hp) he⟩
      ·have hji:=hjne hi;rw[getD_set_ne true hji]at hi⊢;exact hW.h3 i hi
      ·by_cases hji:j=i
       ·subst hji;exact u5 hju
       ·rw[getD_set_ne false hji]at hi⊢;refine hW.h4 i hi λp hp he hsn=>?_;cases hb:du ops p.1 j with
        |false=>exact hall p (by simp only[bJ,fJ,iA];exact⟨hp,hb⟩) he hsn
        |true=>exact hex p (by simp only[bC,fJ];exact⟨hp,hb⟩) (by rw[he];exact hsn)
      ·rw[getD_set_ne true (hne p (hsub p hp))];exact hW.h5 p (hsub p hp) hsn
      ·rw[getD_set_ne true (hne p (hsub p hp))];exact hW.h6 p (hsub p hp)
      ·rw[getD_set_ne false (hne p (hsub p hp))];exact hW.h7 p (hsub p hp)
     have hA':∀x:AV,GR C N ops (bJ ops j A) (aO (eD O.length zs s) o.dst (some x)):=λx=>by
      refine⟨λp hp=>hA.ok p (hsub p hp),(List.filter_sublist.map _).nodup hA.nd,λp hp=>hA.dst p (hsub p hp),λp hp=>?_⟩;have hd:o.dst≠some p.2.1:=hA.dst p (hsub p hp) j o ho (hne p (hsub p hp));rw[jj λd hd' he=>hd (by rw[hd',he])];simp only[eD];cases hl:look (eu O.length zs) p.2.1 with
      |none=>exact hA.sl p (hsub p hp)
      |some y=>
       exfalso;have:look (eu O.length zs++[]) p.2.1=some y:=by simpa using hl
       rcases m5 this with⟨z,hz,k,h1,_⟩|h
       ·obtain⟨q,hq,hb,he,_⟩:=hzs z hz;obtain⟨oq,hoq,_,hdq,_⟩:=hA.ok q hq;have hqp:q.1≠p.1:=λe=>by
         have:=(fJ.1 hp).2;rw[<-e,hb]at this;cases this
        exact hA.dst p (hsub p hp) q.1 oq hoq hqp (by rw[hdq,<-he,h1])
       ·simp[look]at h
     have hptr':∀{v:Value},∀p∈bJ ops j A,∀b,st p.1=some b->(a.put o.dst v).tmps.getD p.2.1 undef= .pointer (some ⟨b,0,none⟩):=λ{v} p hp b hb=>by
      have hd:o.dst≠some p.2.1:=hA.dst p (hsub p hp) j o ho (hne p (hsub p hp));rw[kG λd hd' he=>hd (by rw[hd',he])];exact hptr p (hsub p hp) b hb
     obtain⟨hdst,hst2⟩:=hstp;have put:∀{x:AV} {v:Value} {w':World} {O':List ag},Rel w' (Al F (O'++cv st (bJ ops j A))) x v->Ext ((O++cm zs)++cv st (bJ ops j A)) w (O'++cv st (bJ ops j A)) w'->dN w' (Al F (O'++cv st (bJ ops j A))) N (a.put o.dst v) (aO (eD O.length zs s) o.dst (some x)):=by
      intro x v w' O' hv hext;refine⟨by rw[sC];exact hs1.1,λt y hy=>?_⟩;by_cases htd:o.dst=some t
      ·have htN:=so hdst t htd;rw[htd]at hy⊢;simp only[aO,if_true,ao]at hy;subst hy;exact⟨htN,by rw[rV (by rw[hs1.1];exact htN)];exact hv⟩
      ·have hne:∀d,o.dst=some d->t≠d:=λd hd' he=>htd (by rw[hd',he]);rw[jj hne]at hy;obtain⟨h1,h2⟩:=hs1.2 t y hy;exact⟨h1,by rw[kG hne];exact h2.aU hext.keeps⟩
     rcases hst2 with⟨hw,R,hE,h1,h2⟩|⟨hw,h1⟩
     ·rw[cV (rX hs1 hw)];refine .inl (hE (λb=>F b\/b∈ids (cv st (bJ ops j A))) w a hs1.1 hdf hH1.front (λt _ y hy=>by rw[jN];exact hs1.2 t y hy) _ _ ?_ ?_)
      ·intro v w' x O' hR hv hH' hext;obtain⟨g1,g2⟩:=bh.back hH1 hH' hext;rw[jN]at hv;exact ih n (bJ ops j A) _ _ _ _ O' st hcnt (h1 x O' hR) (hA' x) hW' F w0 O0 _ w' (put hv g2) hptr' g1 (by rw[pV];exact hdf) (hx1.trans g2)
      ·intro v w' x O' hR hv hH' hext;obtain⟨g1,g2⟩:=bh.back hH1 hH' hext;rw[jN]at hv;have hk:=b9.sub (w:=w') (F:=F) (O:=O'++cv st (bJ ops j A)) (O':=O') λb hb=>by rw[bI];exact lv _ hb
       exact⟨.aD x,[],O',hQp x O' (h2 x O' hR),⟨v,rfl,hv.aU hk⟩,⟨⟨hs1.1,λt x hx=>by simp[AE.sl,look]at hx⟩,g1.drop,hdf⟩,(hx1.trans g2).drop⟩
     ·rw[cW (by rw[rX hs1 hw];simp)];exact ih n (bJ ops j A) _ _ _ _ (O++cm zs) st hcnt h1 (hA' _) hW' F w0 O0 _ w (put (x:= .v undef) (v:=undef) (by simp only[Rel]) (Ext.refl _ w)) hptr' hH1 (by rw[pV];exact hdf) hx1
   ·--a fresh box
    subst hpj;obtain⟨o',ho',hg,hd,hlt,hna,hN⟩:=hA.ok p hp;rw[ho]at ho';cases ho';rw[cV (by simp[Region.wanted,hg])];refine .inl (hN (λ_=>none) (O++cv st A) F w a hs.1 hdf hh (λt _ y hy=>by cases hy) _ _ λvs e hv=>?_);obtain⟨hp1,hp2⟩:=Eh (b:=w.heap.size) hp hA.nd hsn;have hperm:((O++cv st A)++[ag.box w.heap.size p.2.2]).Perm (O++cv (eQ st p.1 w.heap.size) A):=by
     rw[gU];exact(hp1.symm).append_left _
    have hext:=iB w (.cells vs.toArray e) (O++cv st A) (.box w.heap.size p.2.2) (by simp[ag.ids]);have hkeep:=hext.keeps (F:=F);refine ih n A listed (wl.setIfInBounds p.1 true) pend s O (eQ st p.1 w.heap.size) (by omega) h hA ?_ F w0 O0 _ _ ?_ ?_ ?_ (by rw[pV];exact hdf) ((hx.trans hext).perm hperm)
    ·refine⟨λi hi=>?_,λi hi=>?_,λi hi=>?_,λi hi hall=>?_,λq hq hsq=>?_,hW.h6,hW.h7⟩
     ·have hji:p.1≠i:=λhe=>by subst he;rw[B1]at hi;cases hi
      rw[getD_set_ne true hji]at hi;rcases hW.h1 i hi with h1|⟨q,hq,rfl,h2⟩
      ·exact .inl h1
      ·exact .inr ⟨q,hq,rfl,by simp only[eQ,ga hji,if_false];exact h2⟩
     ·by_cases hji:p.1=i
      ·subst hji;exact⟨hW.h7 p hp,λq hq he=>by simp[eQ]⟩
      ·rw[getD_set_ne false hji]at hi;obtain⟨h1,h2⟩:=hW.h2 i hi;exact⟨h1,λq hq he=>by simp only[eQ,ga hji,if_false];exact h2 q hq he⟩
     ·have hji:p.1≠i:=λhe=>by
       subst he;have:=hW.h6 p hp;rw[hi]at this;cases this
      rw[getD_set_ne true hji];exact hW.h3 i hi
     ·by_cases hji:p.1=i
      ·subst hji;exact u5 hju
      ·rw[getD_set_ne false hji];refine hW.h4 i hi λq hq he hsq=>hall q hq he ?_;simp only[eQ,ga hji,if_false];exact hsq
     ·have hji:p.1≠q.1:=λhe=>by rw[<-he]at hsq;simp[eQ]at hsq
      rw[getD_set_ne true hji];refine hW.h5 q hq ?_;simpa only[eQ,ga hji,if_false]using hsq
    ·rw[<-lP hperm];refine⟨by rw[sC];exact hs.1,λt x hx=>?_⟩;have htd:t≠p.2.1:=λhe=>by rw[he,hA.sl p hp]at hx;cases hx
     obtain⟨h1,h2⟩:=hs.2 t x hx;refine⟨h1,?_⟩;rw[kG λd hd' he=>htd (by rw[he];rw[hd]at hd';cases hd';rfl)];exact h2.aU hkeep
    ·intro q hq b hb;by_cases hqp:q.1=p.1
     ·have:=Dx hA.nd hq hp hqp;subst this;simp only[eQ,if_true,ao]at hb;subst hb;rw[hd];exact rV (by rw[hs.1];exact hlt)
     ·simp only[eQ,hqp,if_false]at hb;have hdq:o.dst≠some q.2.1:=hA.dst q hq p.1 o ho (ga hqp);rw[kG λd hd' he=>hdq (by rw[hd',he])];exact hptr q hq b hb
    ·refine bh.perm hperm ?_;refine hh.push (by simp) (λb hb=>gb w _ b hb) (by simp[ag.ids]) (by simp[ag.ids]) ?_;exact⟨e,vs,gE w _,hv.aU hkeep⟩
end
def jC (T:bt) (ops:Array Oper) (N:Nat):List Nat->Option bo
 |[]=>some []
 |i::r=>match ops[i]?,jC T ops N r with
  |some ⟨some d,.alloc t,_,_,after,none⟩,some A=>match aM T t with
   |some ⟨_,_,_,z⟩=>match Nat.blt d N&&after.toList.all λe=>!Region.binds .any e with
    |true=>some ((i,(d,z.map .v))::A)
    |false=>none
   |none=>none
  |_,_=>none
def mA (ops:Array Oper):List Nat->List (Nat×Nat)
 |[]=>[]
 |i::r=>match ops[i]? with
  |some o=>match o.dst with
   |some d=>(i,d)::mA ops r
   |none=>mA ops r
  |none=>mA ops r
theorem EM {E:Env} {ops:Array Oper} {N:Nat}:∀{al:List Nat} {A:bo},jC E.T ops N al=some A->(∀p∈A,Hd E.toCx N ops p)/\A.map (·.1)=al/\mA ops al=A.map λp=>(p.1,p.2.1)
 |[],A,h=>by simp only[jC,ao]at h;subst h;simp[mA]
 |i::r,A,h=>by
  simp only[jC]at h;split at h
  ·rename_i d t ty pos after A' ho hr;split at h
   ·rename_i td sz by' z ht;split at h
    ·rename_i hB;simp only[ao]at h;subst h;simp only[bn,iy,fH,iA]at hB;obtain⟨g1,g2,g3⟩:=EM hr;refine⟨λp hp=>?_,by simp[g2],by simp[mA,ho,g3]⟩;rcases cL.1 hp with rfl|hp
     ·refine⟨_,ho,rfl,rfl,hB.1,λe he=>?_,λs O=>dZ.alloc rfl ht⟩;exact hB.2 e (by simpa using he)
     ·exact g1 p hp
    ·cases h
   ·cases h
  ·cases h
def kT (ops:Array Oper) (pre:List Nat) (tl:List (Nat×TK)) (al:List Nat):Bool:=
 Region.noSelect ops&&ua ops pre (Array.replicate ops.size false)&&jA ops (gg ops tl) (gF al (gF pre (Array.replicate ops.size false))) [] (mA ops al)&&Nat.beq (pre.length+((gg ops tl).length+al.length)) ops.size&&
  dP al&&(al.all λi=>!pre.contains i&&(List.range ops.size).all λj=>Nat.beq j i||match ops[i]?,ops[j]? with
   |some oi,some oj=>(match oi.dst with
    |some d=>tM oj.dst d
    |none=>true)
   |_,_=>true)
def mn (A:bo) (s:Sl):Sl:=λt=>match(A.map (·.2.1)).contains t with
 |true=>none
 |false=>s t
theorem Lu {A:bo} {s:Sl} {t:Nat} {x:AV} (h:mn A s t=some x):s t=some x:=by
 unfold mn at h;split at h
 ·cases h
 ·exact h
theorem jL:∀(l:List Nat) (q:Array Bool) (i:Nat) (d:Bool),(gF l q).getD i d=if i∈l/\i<q.size then true else q.getD i d
 |[],q,i,d=>by simp[gF]
 |j::l,q,i,d=>by
  have ih:=jL l (q.setIfInBounds j true) i d;simp only[gF,BR]at ih⊢;rw[ih];simp only[Array.size_setIfInBounds,cL];by_cases hj:j=i
  ·subst hj;by_cases hlt:j<q.size
   ·simp[hlt]
   ·simp[hlt,o9 (Nat.le_of_not_lt hlt)]
  ·have hij:i≠j:=ga hj;rw[getD_set_ne d hj];simp only[hij,false_or]
theorem Cq:∀A:bo,cv (λ_=>none) A=[]/\dL (λ_=>none) A=A.length
 |[]=>⟨rfl,rfl⟩
 |p::A=>by
  obtain⟨h1,h2⟩:=Cq A;simp only[cv,dL,h1,h2,gz,iz];exact⟨trivial,by omega⟩
theorem bg.Mu {E:Env} {N:Nat} {ops:Array Oper} {O:List ag} {Q:AQ} {Z:Sg} {id:Nat} (pre:List Nat) (tl:List (Nat×TK)) (al:List Nat) (A:bo) (hm:E.P.follows .mixedOrders=true) (hA:jC E.T ops N al=some A) (hB:kT ops pre tl al=true) (hl:(ep ops pre).length=pre.length)
  (h:mm E.toCx N O ops (λst=>∃Z',(∀t x,look Z' t=some x->st.1 t=some x)/\fu st.2 λzs=>fV E.toCx N ops (λs O'=>∃Z1,(∀t x,look Z1 t=some x->s t=some x)/\Q .norm Z1 O') (λx O'=>Q (.aD x) [] O') (gg ops tl) A [] (mn A (look (eu O.length zs++Z'))) (O++cm zs)) (ep ops pre) (look Z,[])):
  bg E.toCx N (.region id ops true) Q Z O:=λF w0 O0 a w hs hx=>by
 simp only[kT,bn]at hB;obtain⟨⟨⟨⟨⟨_,hlex⟩,htl⟩,hsz⟩,hnd⟩,hal⟩:=hB;have hsz:=bf hsz;obtain⟨a1,a2,a3⟩:=EM hA;rw[a3]at htl;have hrep:∀(n:Nat) (i:Nat) (d:Bool),(Array.replicate n false).getD i d=if i<n then false else d:=λn i d=>by
  by_cases hi:i<n<;>simp[hi]
 have hmem:∀p∈A,p.1∈al/\p.1∉pre/\p.1<ops.size:=λp hp=>by
  have h1:p.1∈al:=by rw[<-a2];exact cB.2 ⟨p,hp,rfl⟩
  simp only[fH,bn,iA]at hal;obtain⟨o,ho,_⟩:=a1 p hp;exact⟨h1,by simpa using(hal p.1 h1).1,(fZ.1 ho).1⟩
 have halm:∀i∈al,∃p∈A,p.1=i:=λi hi=>by rw[<-a2]at hi;obtain⟨p,hp,he⟩:=cB.1 hi;exact⟨p,hp,he⟩
 refine wp_mono (Q:=CQ E.G N F w O Q) ?_ (λe a w' ⟨e0,Z2,O2,g1,g2,g3,g4⟩=>⟨e0,Z2,O2,g1,g2,g3,hx.trans g4⟩);refine wp_region_any hm ?_;have hcut:mm E.toCx N O ops (λst=>Cut E.toCx N ops O (λF w1=>CQ E.G N F w1 O Q) ((gg ops tl).length+al.length) (gF pre (Array.replicate ops.size false)) st) (ep ops pre) (look Z,[]):=by
  refine vI (λst ⟨Z',h1,h2⟩=>?_) h;intro F w1 w a zs hd;have hb:=sq h2 zs hd.eq;have hT:=pG _ _ _ _ [] _ _ (λp hp=>vA hp) (λp hp=>by cases hp) htl hb;obtain⟨e1,e2⟩:=Cq A;have hlen:A.length=al.length:=by rw[<-a2];simp
  have hsl:dN w (Al F ((O++cm zs)++cv (λ_=>none) A)) N a (mn A (look (eu O.length zs++Z'))):=by
   rw[e1,gz];refine⟨hd.size,λt x hx=>?_⟩;rcases m5 (Lu hx)with⟨z,hz,k,rfl,rfl⟩|hx
   ·obtain⟨g1,g2⟩:=hd.nu z hz;exact⟨g1,by simp only[Rel];exact g2⟩
   ·exact hd.sl t x (h1 t x hx)
  refine Lt (Q:=Q) (λ_ _ h=>h) (λ_ _ h=>h) _ _ A _ (gF pre (Array.replicate ops.size false)) _ _ _ (λ_=>none) (by rw[e2,hlen]) hT ⟨a1,by rw[a2];exact vk hnd,λp hp j oj hoj hne=>?_,λp hp=>?_⟩ ?_ F w1 O a w hsl (λp hp b hb=>by cases hb) (by rw[e1,gz];exact hd.hp) hd.df ⟨hd.cls.1.1,hd.cls.2.1,hd.cls.2.2.1,hd.cls.2.2.2.1,λb hb _=>hd.cls.2.2.2.2 b hb,λb hb=>?_,hd.cls.1.2⟩
  ·obtain⟨oi,hoi,_,hdi,_⟩:=a1 p hp;simp only[fH,bn]at hal;have:=(hal p.1 (hmem p hp).1).2 j (BC.2 (fZ.1 hoj).1);simp only[hoi,hoj,hdi,rN]at this;rcases this with h|h
   ·exact absurd (bf h) hne
   ·exact CR h
  ·have:(A.map (·.2.1)).contains p.2.1=true:=by rw[BL];exact cB.2 ⟨p,hp,rfl⟩
   simp only[mn,this]
  ·have hsize:(gF pre (Array.replicate ops.size false)).size=ops.size:=by
    have:∀(l:List Nat) (q:Array Bool),(gF l q).size=q.size:=by
     intro l
     induction l with
     |nil=>intro q;rfl
     |cons j l ih=>intro q;simp only[gF,BR]at ih⊢;rw[ih];simp
    rw[this];simp
   refine⟨λi hi=>?_,λi hi=>?_,λi hi=>?_,λi hi hall=>?_,λp hp _=>?_,λp hp=>?_,λp hp=>?_⟩
   ·by_cases hia:i∈al
    ·exact .inr ((halm i hia).imp λp hp=>⟨hp.1,hp.2,rfl⟩)
    ·left;rw[jL,cW (λh=>hia h.1)];exact hi
   ·refine⟨by rw[jL,hi];simp,λp hp he=>?_⟩;exfalso;rw[jL]at hi;split at hi
    ·rename_i h;exact(hmem p hp).2.1 (by rw[he];exact h.1)
    ·rw[hrep]at hi;split at hi<;>cases hi
   ·rw[jL]at hi;split at hi
    ·cases hi
    ·exact hi
   ·rw[jL]at hi;split at hi
    ·rename_i h;obtain⟨p,hp,he⟩:=halm i h.1;exact absurd rfl (hall p hp he)
    ·exact hi
   ·rw[jL,cW (λh=>(hmem p hp).2.1 h.1),hrep,cV (hmem p hp).2.2]
   ·rw[jL,cV ⟨(hmem p hp).1,by rw[hsize];exact(hmem p hp).2.2⟩]
   ·rw[jL,cV ⟨(hmem p hp).1,by rw[hsize];exact(hmem p hp).2.2⟩]
  ·rw[e1,gz,bI,ck]at hb;rcases hb with hb|hb
   ·exact .inl hb
   ·obtain⟨x,hx,hb⟩:=fe.1 hb;obtain⟨z,hz,rfl⟩:=cB.1 hx;simp only[ag.ids,kC]at hb;subst hb;exact .inr (hd.new z hz)
 have hany:=Dl _ _ _ (D8 pre _ _ My hlex hl hcut);rw[hsz]at hany;have hc:fb w {w with drawn:=w.drawn+1}:=⟨⟨rfl,.of (u0 _)⟩,rfl,rfl,bq _,λ_ _=>rfl⟩;have hd:ja E.G N F O w {w with drawn:=w.drawn+1} a (look Z,[]) []:=
  ⟨hs.sg.1,hs.df,rfl,by simpa[cm]using hs.hp.later hc.2.2.2,λt x hx=>by
   obtain⟨h1,h2⟩:=hs.sg.2 t x hx;refine⟨h1,?_⟩;simp only[cm,jJ,gz];exact h2.aU (hc.ext (O:=O)).keeps,by simp,hc,by simp⟩
 exact hany F w _ a [] hd
def Oc (L:au) (R:DR->Hp->Prop):AR->List ag->Prop:=λr ηB=>∃L' d O,L.le L'/\DR.inst L' d r/\HS L' O ηB/\R d O
def bm (E:Env) (N:Nat) (o:Oper) (Z:TS) (O:Hp) (R:DR->Hp->Prop):Prop:=∀L s ηB,SS L Z s->HS L O ηB->cr E.toCx N o s ηB (Oc L R)
section
variable {E:Env} {N K:Nat} {Q:DQ} {Z:TS} {O:Hp} {o:Oper} {x:CV} {all rest:List Oper} {R:DR->Hp->Prop}
theorem bm.mono {R':DR->Hp->Prop} (h:bm E N o Z O R) (hr:∀r O',R r O'->R' r O'):bm E N o Z O R':=λL s ηB hs hh=>(h L s ηB hs hh).mono λ_ _ ⟨L',d,O',h1,h2,h3,h4⟩=>⟨L',d,O',h1,h2,h3,hr _ _ h4⟩
theorem bm.val (h:aN E N o Z O x):bm E N o Z O (λr O'=>r= .ret x/\O'=O):=λL s ηB hs hh=>by
 obtain⟨y,h1,h2⟩:=h L s ηB hs hh;refine(cr.ko h2).mono ?_;rintro r O' ⟨rfl,rfl⟩;exact⟨L,.ret x,O,.refl L,⟨y,rfl,h1⟩,hh,rfl,rfl⟩
theorem bm.new {cells:List CV} {d:Nat} (hd:o.dst=some d) (h:∀L s ηB,SS L Z s->HS L O ηB->∃cs,aC L cells cs/\dZ E.toCx N o s ηB cs):bm E N o Z O (λr O'=>r= .ret (.own O.n 0)/\O'=O.push (.box cells)):=λL s ηB hs hh=>by
 obtain⟨cs,h1,h2⟩:=h L s ηB hs hh;refine(cr.oJ hd h2).mono ?_;rintro r O' ⟨b,rfl,rfl⟩;have hdom:=hh.eC O.n (bq _);have hl:L.le (L.dK O.n b):=au.pD hdom.1;have hbn:(L.dK O.n b).b O.n=some b:=by simp[au.dK]
 exact⟨_,.ret (.own O.n 0),O.push (.box cells),hl,⟨_,rfl,by simp only[aw];exact⟨b,_,hbn,rfl⟩⟩,hh.push hl (λ_ _=>rfl) (λi hi=>by simp[au.dK,hi]) ⟨b,cs,hbn,rfl,h1.mono hl⟩,rfl,rfl⟩
theorem kL {L:au} {s:Sl} {p:Operand} (h:p∈o.op.operands.toList) {y:AV} (hy:ev s p=some y):ev (look (cD s (tmpsOf o))) p=some y:=by rw[ea h];exact hy
theorem bm.store {t:TypeId} {p v:Operand} {i off:Nat} {cs cs':List CV} {ti:TI} (ho:o.op= .store t p v) (hp:aL Z p=some (.own i off)) (hv:aL Z v=some x) (hi:O.e.get i=some (.box cs)) (ht:aM E.T t=some ti)
  (hk:Nat.beq (cO x).length ti.size=true) (h1:iR (cO x)=true) (hl:iD cs off (cO x)=some cs'):bm E N o Z O (λr O'=>r= .ret (.d (.v undef))/\O'=O.set i (.box cs')):=λL s ηB hs hh=>by
 obtain⟨y,h2,h3⟩:=bz hs hp;simp only[aw]at h3;obtain⟨b,t',h3,rfl⟩:=h3;obtain⟨z,h4,h5⟩:=bz hs hv;obtain⟨q,h6,h7⟩:=hh.en i _ hi;obtain⟨b',us,h8,rfl,h9⟩:=h7;rw[h3]at h8;cases h8;have hc:=rZ h5;obtain⟨us',h10,h11⟩:=rW hl h9 hc;refine(cr.H' (vJ ho (kL (L:=L) (by simp[ho,Op.operands]) h2) (kL (L:=L) (by simp[ho,Op.operands]) h4) h6 ht (by rw[hc.length];exact hk) (vu h1 hc) h10)).mono ?_;rintro r O' ⟨rfl,rfl⟩;exact⟨L,.ret (.d (.v undef)),O.set i (.box cs'),.refl L,⟨_,rfl,rfl⟩,hh.set (.refl L) (λ_ _=>rfl) (λ_ _=>rfl) (hh.lt hi) ⟨b,us',h3,rfl,h11⟩,rfl,rfl⟩
theorem bm.lL {t:TypeId} {p v:Operand} {i n m e kk:Nat} {rows:List (List AV)} {r r':List AV} {y:AV} {ti:TI} (j off:Nat) (ho:o.op= .store t p v) (hp:aL Z p=some (.oe i n m)) (hv:aL Z v=some (.d y)) (hi:O.e.get i=some (.row e kk rows)) (hn:n=rows.length)
  (hm:m=j*kk+off) (hr:rows[j]? =some r) (ht:aM E.T t=some ti) (hk:Nat.beq (bD y).length ti.size=true) (h1:dE (bD y)=true) (hl:dM r off (bD y)=some r'):bm E N o Z O (λr1 O'=>r1= .ret (.d (.v undef))/\O'=O.set i (.row e kk (rows.set j r'))):=λL s ηB hs hh=>by
 obtain⟨z,h2,h3⟩:=bz hs hp;simp only[aw]at h3;obtain⟨a,c,t',h3,rfl⟩:=h3;obtain⟨z,h4,h5⟩:=bz hs hv;simp only[aw]at h5;subst h5;obtain⟨q,h6,h7⟩:=hh.en i _ hi;obtain⟨⟨a',c',h8,rfl⟩,h9⟩:=h7;subst hn;rw[h3]at h8;cases h8;refine(cr.H' (Cc ho j off (kL (L:=L) (by simp[ho,Op.operands]) h2) hm (kL (L:=L) (by simp[ho,Op.operands]) h4) h6 hr ht hk h1 hl)).mono ?_;rintro r1 O' ⟨rfl,rfl⟩;exact⟨L,.ret (.d (.v undef)),O.set i (.row e kk (rows.set j r')),.refl L,⟨_,rfl,rfl⟩,hh.set (.refl L) (λ_ _=>rfl) (λ_ _=>rfl) (hh.lt hi) ⟨⟨a,c,by simpa using h3,by simp⟩,by simpa using h9⟩,rfl,rfl⟩
theorem bm.lit {n:Nat} {t:TypeId} {parts:Array (Nat×Operand)} {e k sz by' sz' by'':Nat} {z z':List Value} {td':TD} {cells:List AV} (ho:o.op= .buildSlice t n parts)
  (ht:aM E.T t=some ⟨.slice e k,sz,by',z⟩) (hte:aM E.T e=some ⟨td',sz',by'',z'⟩) (hf:dG k (cZ Z) (eR n (z'.map .v)) parts.toList=some cells) (hb:Nat.ble (n*k) 16777216=true) (hk:Nat.ble 1 k=true):
  bm E N o Z O (λr O'=>r= .ret (.os O.n n)/\O'=O.push (.row e k (chunk n k cells))):=λL s ηB hs hh=>by
 have hR:mw E.toCx N o (cD s (tmpsOf o)) ηB (λx O'=>∃b,x= .os ηB.length (some ⟨b,0,none⟩) n n/\O'=ηB++[.row (.slice (some ⟨b,0,none⟩) n n) e k (chunk n k cells)]):=λF a w hst=>by
  have hf':dG k (look (cD s (tmpsOf o))) (eR n (z'.map .v)) parts.toList=some cells:=by
   rw[vi λp hp=>ea (by rw[ho];simp only[Op.operands,cB];exact⟨p,hp,rfl⟩)];have key:∀(l:List (Nat×Operand)) (cs r:List AV),dG k (cZ Z) cs l=some r->dG k s cs l=some r:=by
    intro l
    induction l with
    |nil=>intro cs r h;exact h
    |cons p l ih=>
     intro cs r h;obtain⟨i,p⟩:=p;simp only[dG]at h⊢;split at h
     ·rename_i y hy;have hy':ev s p=some y:=by
       cases p with
       |tmp u=>exact gI hs hy
       |const v=>exact hy
       |global g=>exact hy
       |func f=>exact hy
      simp only[hy'];split at h
      ·exact ih _ _ h
      ·cases h
     ·cases h
   exact key _ _ _ hf
  obtain⟨us,h1,h2,h3⟩:=vW (d:=o.dst) (ty:=o.type) (pos:=o.pos) (after:=o.after) (gd:=o.guard) ht hte hf' hb hk hst;have hb:=cM hb;have hk:=cM hk;have ho':o=⟨o.dst,.buildSlice t n parts,o.type,o.pos,o.after,o.guard⟩:=by rw[<-ho]
  rw[<-ho']at h1;have hext:=iB w (.cells us e) ηB (.row (.slice (some ⟨w.heap.size,0,none⟩) n n) e k (chunk n k cells)) (by simp[ag.ids,Value.ownBlock]);refine⟨.slice (some ⟨w.heap.size,0,none⟩) n n,w.alloc (.cells us e),_,_,⟨w.heap.size,rfl,rfl⟩,h1,by simp only[Rel],?_,hext⟩;refine hst.hp.push (by simp) (λb hb=>gb w _ b hb) (by simp[ag.ids,Value.ownBlock]) (by simp[ag.ids,Value.ownBlock]) ?_;refine⟨us.toList,h2.aU hext.keeps,?_,.inr ⟨w.heap.size,n,us,by rw[eN],lB _,gE w _,by rw[eN];exact bq _,?_,h3,?_⟩⟩
  ·rw[eN];simpa using h3
  ·have:n<=n*k:=uS n hk;simp only[maxLen];omega
  ·rw[eN,<-h3,<-rM,uT]
 refine(cr.zW hR).mono ?_;rintro r O' ⟨y,rfl,b,rfl,rfl⟩;have hdom:=hh.eC O.n (bq _);have hl:L.le (L.aO O.n n (some ⟨b,0,none⟩,n)):=au.gX λy hy=>by rw[hdom.2]at hy;cases hy
 have hbn:(L.aO O.n n (some ⟨b,0,none⟩,n)).s O.n n=some (some ⟨b,0,none⟩,n):=by simp[au.aO]
 refine⟨_,.ret (.os O.n n),O.push (.row e k (chunk n k cells)),hl,⟨_,rfl,by simp only[aw];exact⟨_,_,_,hbn,rfl⟩⟩,hh.push hl (λi hi=>by funext m;simp[au.aO,hi]) (λ_ _=>rfl) ⟨⟨some ⟨b,0,none⟩,n,by rw[eN];exact hbn,by rw[eN]⟩,λm hm=>?_⟩,rfl,rfl⟩;rw[eN]at hm;have:m≠n:=by omega
 simp only[au.aO,this,and_false,if_false];exact hdom.2 m
theorem ij.PN {L:au} {s:Sl} {ηB:List ag} (hs:SS L Z s) (hh:HS L O ηB) {k:Nat} {p:Operand} {rows:List (List AV)} (h:ij E Z O k p rows) (hp:p∈o.op.operands.toList):∀F a w,St E.G N w F a (cD s (tmpsOf o)) ηB->fR w (Al F ηB) k (a.eval p) rows:=λF a w hst=>by
 have key:∀{x:CV},aL Z p=some x->∃y,ev (look (cD s (tmpsOf o))) p=some y/\aw L x y:=λh=>by
  obtain⟨y,h1,h2⟩:=bz hs h;exact⟨y,kL (L:=L) hp h1,h2⟩
 cases h with
 |sl h=>
  obtain⟨y,h1,h2⟩:=key h;simp only[aw]at h2;subst h2;exact fR.sl (aY hst.sg h1)
 |uf h hI=>
  obtain⟨y,h1,h2⟩:=key h;simp only[aw]at h2;subst h2;exact fR.sl (hI _ _ _ (aY hst.sg h1))
 |nil h=>
  obtain⟨y,h1,h2⟩:=key h;simp only[aw]at h2;subst h2;have:=aY hst.sg h1;simp only[Rel]at this;rw[this];exact⟨none,0,0,[],rfl,rfl,by simp[aX],λ_=>rfl,λ_ h=>by cases h⟩
 |row h h3 hn=>
  obtain⟨y,h1,h2⟩:=key h;simp only[aw]at h2;obtain⟨a',c,t',h4,rfl⟩:=h2;obtain⟨q,h5,h6⟩:=hh.en _ _ h3;obtain⟨⟨a2,c2,h7,rfl⟩,_⟩:=h6;subst hn;rw[h4]at h7;cases h7;have:=aY hst.sg h1;simp only[Rel]at this;rw[this];exact fR.row (fg hst.hp h5)
 |fz h h3 hn=>
  obtain⟨y,h1,h2⟩:=key h;simp only[aw]at h2;obtain⟨a',c,t',h4,rfl⟩:=h2;obtain⟨q,h5,h6⟩:=hh.en _ _ h3;obtain⟨a2,c2,h7,rfl⟩:=h6;subst hn;rw[h4]at h7;cases h7;have:=aY hst.sg h1;simp only[Rel]at this;rw[this];exact fR.sl (lO hst.hp h5)
theorem bm.append {i n:Nat} {s' p:Operand} {t:TypeId} {e k sz by' sz' by'':Nat} {z z':List Value} {td':TD} {rows rows2:List (List AV)} (ho:o.op= .call {callee:= .builtin .append,args:= #[s',p],argTypes:= #[t,t]})
  (hb:(rows++rows2).length*by''<=140737488355328) (hs':aL Z s'=some (.os i n)) (hi:O.e.get i=some (.row e k rows)) (hn:n=rows.length) (hx:ij E Z O k p rows2) (ht:aM E.T t=some ⟨.slice e k,sz,by',z⟩) (hte:aM E.T e=some ⟨td',sz',by'',z'⟩) (h1:eo rows2=true)
  (hk:Nat.ble 1 k=true) (hby:Nat.ble 1 by''=true):bm E N o Z O (λr O'=>r= .ret (.os i (rows++rows2).length)/\O'=O.set i (.row e k (rows++rows2))):=λL s ηB hs hh=>by
 obtain⟨y,h2,h3⟩:=bz hs hs';simp only[aw]at h3;obtain⟨a,c,t',h3,rfl⟩:=h3;obtain⟨q,h6,h7⟩:=hh.en i _ hi;obtain⟨⟨a',c',h8,rfl⟩,h9⟩:=h7;subst hn;rw[h3]at h8;cases h8;refine(cr.zW (CG ho ht hte (kL (L:=L) (by simp[ho,Op.operands,Call.operands]) h2) h6 (hx.PN hs hh (by simp[ho,Op.operands,Call.operands])) h1 hk hby hb)).mono ?_;rintro r O' ⟨y,rfl,a',c',h0,rfl,rfl⟩;have hl:L.le (L.aO i (rows++rows2).length (a',c')):=au.gX λy hy=>by
  by_cases hz:rows2=[]
  ·subst hz;simp only[gz]at hy;rw[h3]at hy;cases hy;obtain⟨rfl,rfl⟩:=h0 rfl;rfl
  ·have:rows.length<(rows++rows2).length:=by
    have:=BN.2 hz;simp;omega
   rw[h9 _ this]at hy;cases hy
 have hbn:(L.aO i (rows++rows2).length (a',c')).s i (rows++rows2).length=some (a',c'):=by simp[au.aO]
 refine⟨_,.ret (.os i (rows++rows2).length),O.set i (.row e k (rows++rows2)),hl,⟨_,rfl,by simp only[aw];exact⟨_,_,_,hbn,rfl⟩⟩,hh.set hl (λj hj=>by funext m;simp[au.aO,hj]) (λ_ _=>rfl) (hh.lt hi) ⟨⟨a',c',hbn,rfl⟩,λm hm=>?_⟩,rfl,rfl⟩;have hne:m≠(rows++rows2).length:=by omega
 simp only[au.aO,hne,and_false,if_false];exact h9 m (by simp at hm;omega)
theorem bm.wJ {i n:Nat} {s' p:Operand} {t u:TypeId} {e k sz by' sz' by'' szu byu:Nat} {z z' zu:List Value} {td':TD} {rows:List (List AV)} {b:ByteArray} (ho:o.op= .call {callee:= .builtin .append,args:= #[s',p],argTypes:= #[t,u]})
  (hb:(rows++cy b).length*by''<=140737488355328) (hs':aL Z s'=some (.os i n)) (hi:O.e.get i=some (.row e k rows)) (hn:n=rows.length) (hx:aL Z p=some (.d (.v (.string b)))) (ht:aM E.T t=some ⟨.slice e k,sz,by',z⟩) (hu:aM E.T u=some ⟨.str,szu,byu,zu⟩) (hte:aM E.T e=some ⟨td',sz',by'',z'⟩)
  (hk:Nat.beq k 1=true) (hby:Nat.beq by'' 1=true):bm E N o Z O (λr O'=>r= .ret (.os i (rows++cy b).length)/\O'=O.set i (.row e k (rows++cy b))):=λL s ηB hs hh=>by
 obtain⟨y,h2,h3⟩:=bz hs hs';simp only[aw]at h3;obtain⟨a,c,t',h3,rfl⟩:=h3;obtain⟨y2,g2,g3⟩:=bz hs hx;simp only[aw]at g3;subst g3;obtain⟨q,h6,h7⟩:=hh.en i _ hi;obtain⟨⟨a',c',h8,rfl⟩,h9⟩:=h7;subst hn;rw[h3]at h8;cases h8;refine(cr.zW (Cl ho ht hu hte (kL (L:=L) (by simp[ho,Op.operands,Call.operands]) h2) h6 (kL (L:=L) (by simp[ho,Op.operands,Call.operands]) g2) hk hby hb)).mono ?_;rintro r O' ⟨y,rfl,a',c',h0,rfl,rfl⟩;have hl:L.le (L.aO i (rows++cy b).length (a',c')):=au.gX λy hy=>by
  by_cases hz:cy b=[]
  ·rw[hz]at hy;simp only[gz]at hy;rw[h3]at hy;cases hy;obtain⟨rfl,rfl⟩:=h0 hz;rfl
  ·have:rows.length<(rows++cy b).length:=by
    have:=BN.2 hz;simp;omega
   rw[h9 _ this]at hy;cases hy
 have hbn:(L.aO i (rows++cy b).length (a',c')).s i (rows++cy b).length=some (a',c'):=by simp[au.aO]
 refine⟨_,.ret (.os i (rows++cy b).length),O.set i (.row e k (rows++cy b)),hl,⟨_,rfl,by simp only[aw];exact⟨_,_,_,hbn,rfl⟩⟩,hh.set hl (λj hj=>by funext m;simp[au.aO,hj]) (λ_ _=>rfl) (hh.lt hi) ⟨⟨a',c',hbn,rfl⟩,λm hm=>?_⟩,rfl,rfl⟩;have hne:m≠(rows++cy b).length:=by omega
 simp only[au.aO,hne,and_false,if_false];exact h9 m (by simp at hm;omega)
theorem bm.call {f:Operand} {args:List Operand} {g:FuncId} {cs:List CV} {Q':DR->Hp->Prop} {tys:Array TypeId} (ho:o.op= .call {callee:= .value f,args:=args.toArray,argTypes:=tys})
  (h:de E g cs O Q') (hc:cu Z f args=some (g,cs)):bm E N o Z O Q':=λL s ηB hs hh=>by
 obtain⟨ys,h1,h2⟩:=jM hs hc;have h3:=h L ys ηB h2 hh;refine(cr.FE ho h1 h3.1 λF w vs hH hr=>h3.2 F w vs hH hr).mono ?_;rintro r O' ⟨L',d,O1,g1,g2,g3,g4⟩;exact⟨L',d,O1,hh.ei g1,g2,g3,g4⟩
theorem bm.pure {f:Operand} {args:List Operand} {g:FuncId} {cs:List CV} {xs' xs:List AV} {ns:List (Nat×Nat)} {ms:List (Nat×aR)} {res:AR} {tys:Array TypeId} (fl:Nat) (ho:o.op= .call {callee:= .value f,args:=args.toArray,argTypes:=tys})
  (h:Pure E.toCx g xs res) (hc:cu Z f args=some (g,cs)) (hf:bA O.e fl cs=some (xs',ns,ms)) (hn:eqs ns) (hi:bx xs' xs) (hl:ms=[]\/(match res with| .ret x=>cn x| .aD x=>cn x)=true):
  bm E N o Z O (λr O'=>(match res with| .ret x=>r= .ret (.d x)| .aD x=>r= .aD (.d x))/\O'=O):=λL s ηB hs hh=>by
 obtain⟨ys,h1,h2⟩:=jM hs hc;refine cr.FE ho h1 h.1 λF w vs hH hr=>(vK fl h hf hn hi hl hh hH h2 hr).mono ?_;rintro e w' ⟨hv,hcls⟩;refine⟨res,ηB,?_,hv,hH.later hcls.2.2.2,hcls.ext⟩;cases res with
 |ret x=>exact⟨L,.ret (.d x),O,.refl L,⟨x,rfl,rfl⟩,hh,rfl,rfl⟩
 |aD x=>exact⟨L,.aD (.d x),O,.refl L,⟨x,rfl,rfl⟩,hh,rfl,rfl⟩
theorem bm.panic {p:Operand} (ho:o.op= .panic p) {t:TypeId} {y:CV} (hp:aL Z p=some (.ba t y)):bm E N o Z O (λr O'=>r= .aD (.ba t y)/\O'=O):=λL s ηB hs hh=>by
 obtain⟨z,h1,h2⟩:=bz hs hp;have h3:=h2;simp only[aw]at h3;obtain⟨u,rfl,_⟩:=h3;refine(cr.panic ho h1).mono ?_;rintro r O' ⟨rfl,rfl⟩;exact⟨L,.aD (.ba t y),O,.refl L,⟨_,rfl,h2⟩,hh,rfl,rfl⟩
theorem bm.xe {p:Operand} (ho:o.op= .panic p) {t:TypeId} {y:AV} (hp:aL Z p=some (.d (.ba t y))):bm E N o Z O (λr O'=>r= .aD (.d (.ba t y))/\O'=O):=λL s ηB hs hh=>by
 obtain⟨z,h1,h2⟩:=bz hs hp;simp only[aw]at h2;subst h2;refine(cr.panic ho h1).mono ?_;rintro r O' ⟨rfl,rfl⟩;exact⟨L,.aD (.d (.ba t y)),O,.refl L,⟨_,rfl,rfl⟩,hh,rfl,rfl⟩
theorem cr.gM {C:Cx} {s s1:Sl} {ηB OB1:List ag} {R:AR->List ag->Prop} (hw:∀F w a,bh C.G w F ηB->g8 w (Al F ηB) N a o s->bh C.G w F OB1/\g8 w (Al F OB1) N a o s1/\∀b∈ids OB1,b∈ids ηB) (h:cr C N o s1 OB1 R):cr C N o s ηB R:=
 λF w a hN hd hH hs K Q k1 k2=>by
  obtain⟨h1,h2,h3⟩:=hw F w a hH hs;have hx:Ext ηB w OB1 w:=⟨rfl,rfl,rfl,bq _,λ_ _ _=>rfl,λb hb=> .inl (h3 b hb),.of (bq _)⟩;exact h F w a hN hd h1 h2 K Q (λv w' x O' hR hv hH' hext=>k1 v w' x O' hR hv hH' (hx.trans hext)) (λv w' x O' hR hv hH' hext=>k2 v w' x O' hR hv hH' (hx.trans hext))
theorem bm.fB (t e k:Nat) (ht:Z.get t=some (.d (.v (.slice none 0 0)))) (h:bm E N o (Tr.put 24 Z t (some (.os O.n 0))) (O.push (.row e k [])) R):bm E N o Z O R:=λL s ηB hs hh=>by
 obtain⟨y,h1,h2⟩:=hs t _ ht;simp only[aw]at h2;subst h2;have hdom:=hh.eC O.n (bq _);have hl:L.le (L.aO O.n 0 (none,0)):=au.gX λy hy=>by rw[hdom.2]at hy;cases hy
 have hbn:(L.aO O.n 0 (none,0)).s O.n 0=some (none,0):=by simp[au.aO]
 have hs1:SS (L.aO O.n 0 (none,0)) (Tr.put 24 Z t (some (.os O.n 0))) (ee s t (.os ηB.length none 0 0)):=λu z hz=>by
  rcases Tr.dA 24 Z t u _ z hz with⟨rfl,h3⟩|⟨hne,h3⟩
  ·cases h3;exact⟨.os ηB.length none 0 0,by simp[ee],by simp only[aw];exact⟨_,_,ηB.length,hbn,rfl⟩⟩
  ·obtain⟨q,h4,h5⟩:=hs u z h3;exact⟨q,by simp[ee,hne,h4],h5.mono hl⟩
 have hh1:HS (L.aO O.n 0 (none,0)) (O.push (.row e k [])) (ηB++[.row (.slice none 0 0) e k []]):=by
  refine hh.push hl (λi hi=>by funext m;simp[au.aO,hi]) (λ_ _=>rfl) ⟨⟨none,0,by simpa using hbn,by simp⟩,λm hm=>?_⟩;have:m≠0:=by simp at hm;omega
  simp only[au.aO,this,and_false,if_false];exact hdom.2 m
 refine cr.gM (λF w a hH hopd=>?_) ((h _ _ _ hs1 hh1).mono ?_)
 ·have hkeep:b9 w (Al F ηB) w (Al F (ηB++[ag.row (.slice none 0 0) e k []])):=⟨bq _,λb _ ha=>⟨by simpa[Al,bI,b4,ag.ids,Value.ownBlock,ids]using ha,rfl⟩⟩;refine⟨hH.push (bq _) (λ_ _=>rfl) (by simp[ag.ids,Value.ownBlock]) (by simp[ag.ids,Value.ownBlock]) ⟨[],by simp[aX],by simp,.inl ⟨rfl,rfl⟩⟩,λu hu q hq=>?_,λb hb=>by simpa[bI,b4,ag.ids,Value.ownBlock,ids]using hb⟩;unfold ee at hq;split at hq
  ·rename_i hut;subst hut;simp only[ao]at hq;subst hq;obtain⟨g1,g2⟩:=hopd u hu _ h1;simp only[Rel]at g2⊢;exact⟨g1,g2⟩
  ·obtain⟨g1,g2⟩:=hopd u hu q hq;exact⟨g1,g2.aU hkeep⟩
 ·rintro r O' ⟨L',d,O1,g1,g2,g3,g4⟩;exact⟨L',d,O1,hl.trans g1,g2,g3,g4⟩
theorem bm.cz {t:Nat} {z:AV} {ns:List (Nat×Nat)} {ms:List (Nat×aR)} (f:Nat) (hx:Z.get t=some x) (hf:bA O.e f [x]=some ([z],ns,ms)) (hn:eqs ns) (ht:t∈tmpsOf o) (h:bm E N o (Tr.put 24 Z t (some (.d z))) (fA ms O) R):bm E N o Z O R:=λL s ηB hs hh=>by
 obtain⟨y,h1,h2⟩:=hs t x hx;have hs1:SS L (Tr.put 24 Z t (some (.d z))) (ee s t z):=λu q hq=>by
  rcases Tr.dA 24 Z t u _ q hq with⟨rfl,h3⟩|⟨hne,h3⟩
  ·cases h3;exact⟨z,by simp[ee],rfl⟩
  ·obtain⟨q',h4,h5⟩:=hs u q h3;exact⟨q',by simp[ee,hne,h4],h5⟩
 by_cases hcan:∃F w v,bh E.G w F ηB/\Rel w (Al F ηB) y v
 ·obtain⟨F0,w0,v0,hH0,hv0⟩:=hcan;obtain⟨_,h40⟩:=fy hh hH0 (ms.map (·.1)) f hf hn (λp hp=>cB.2 ⟨p,hp,rfl⟩) (aC.one h2) (ax.one hv0);have hHS:HS L (fA ms O) (dI L ms ηB):=sj (w:=w0) (F:=dY F0 ηB (ms.map (·.1))) hh λp hp=>⟨(h40 p hp).lt hh,h40 p hp⟩;refine cr.gM (λF w a hH hopd=>?_) (h L _ _ hs1 hHS);have hv:=(hopd t ht y h1).2;obtain⟨h3,h4⟩:=fy hh hH (ms.map (·.1)) f hf hn (λp hp=>cB.2 ⟨p,hp,rfl⟩) (aC.one h2) (ax.one hv);have hsub:∀b∈ids (dI L ms ηB),b∈ids ηB:=λb hb=>(pn ms ηB).subset hb;refine⟨sy hH h4,λu hu q hq=>?_,hsub⟩;unfold ee at hq;split at hq
  ·rename_i hut;subst hut;simp only[ao]at hq;subst hq;exact⟨(hopd u hu y h1).1,h3.tJ.aU mR⟩
  ·obtain⟨g1,g2⟩:=hopd u hu q hq;exact⟨g1,g2.aU (b9.sub hsub)⟩
 ·intro F w a hN hd hH hopd;exact absurd ⟨F,w,_,hH,(hopd t ht y h1).2⟩ hcan
mutual
theorem aw.same {L:au} {w:World} {A:Nat->Prop}:∀{x:CV} {y y':AV} {v:Value},aw L x y->aw L x y'->Rel w A y v->Rel w A y' v
 | .d x,_,_,_,h,g,hr=>by simp only[aw]at h g;subst h;subst g;exact hr
 | .agg xs,_,_,_,h,g,hr=>by
  simp only[aw]at h g;obtain⟨ys,rfl,h⟩:=h;obtain⟨zs,rfl,g⟩:=g;simp only[Rel]at hr⊢;obtain⟨vs,rfl,hr⟩:=hr;exact⟨vs,rfl,aC.same h g hr⟩
 | .bK xs,_,_,_,h,g,hr=>by
  simp only[aw]at h g;obtain⟨ys,rfl,h⟩:=h;obtain⟨zs,rfl,g⟩:=g;simp only[Rel]at hr⊢;obtain⟨vs,rfl,hr⟩:=hr;exact⟨vs,rfl,aC.same h g hr⟩
 | .own t o,_,_,_,h,g,hr=>by
  simp only[aw]at h g;obtain⟨b,t1,h,rfl⟩:=h;obtain⟨b',t2,g,rfl⟩:=g;rw[h]at g;cases g;simp only[Rel]at hr⊢;exact hr
 | .os t n,_,_,_,h,g,hr=>by
  simp only[aw]at h g;obtain⟨a,c,t1,h,rfl⟩:=h;obtain⟨a',c',t2,g,rfl⟩:=g;rw[h]at g;cases g;simp only[Rel]at hr⊢;exact hr
 | .oe t n o,_,_,_,h,g,hr=>by
  simp only[aw]at h g;obtain⟨a,c,t1,h,rfl⟩:=h;obtain⟨a',c',t2,g,rfl⟩:=g;rw[h]at g;cases g;simp only[Rel]at hr⊢;exact hr
 | .om t,_,_,_,h,g,hr=>by
  simp only[aw]at h g;obtain⟨b,t1,h,rfl⟩:=h;obtain⟨b',t2,g,rfl⟩:=g;rw[h]at g;cases g;simp only[Rel]at hr⊢;exact hr
 | .fn f fs cs,_,_,_,h,g,hr=>by
  simp only[aw]at h g;obtain⟨us,vs,rfl,h1,h2⟩:=h;obtain⟨us',vs',rfl,g1,g2⟩:=g;simp only[Rel]at hr⊢;obtain⟨ps,qs,e,hr1,hr2⟩:=hr;exact⟨ps,qs,e,aC.same h1 g1 hr1,aC.same h2 g2 hr2⟩
 | .ba t x,_,_,_,h,g,hr=>by
  simp only[aw]at h g;obtain⟨u,rfl,h⟩:=h;obtain⟨u',rfl,g⟩:=g;simp only[Rel]at hr⊢;obtain⟨q,e,hr⟩:=hr;exact⟨q,e,aw.same h g hr⟩
theorem aC.same {L:au} {w:World} {A:Nat->Prop}:∀{x:List CV} {y y':List AV} {v:List Value},aC L x y->aC L x y'->ax w A y v->ax w A y' v
 |[],_,_,_,h,g,hr=>by simp only[aC]at h g;subst h;subst g;exact hr
 |_::_,_,_,_,h,g,hr=>by
  simp only[aC]at h g;obtain⟨y,r,rfl,h1,h2⟩:=h;obtain⟨y',r',rfl,g1,g2⟩:=g;simp only[ax]at hr⊢;obtain⟨v,q,e,hr1,hr2⟩:=hr;exact⟨v,q,e,aw.same h1 g1 hr1,aC.same h2 g2 hr2⟩
end
theorem bp.same {L:au} {C:Cx} {s:Sl} {ηB:List ag} {y y':AV} (h:aw L x y) (g:aw L x y') (hp:bp C N o s ηB y):bp C N o s ηB y':=λF w a h1 h2 h3 h4 K Q k=>hp F w a h1 h2 h3 h4 K Q λv w' hv hc=>k v w' (aw.same h g hv) hc
