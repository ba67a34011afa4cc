/- What the orders of a tail say of worlds; the rule for regions whose order is open. -/
import Derived.Test.YtfgnmgbiijpkiaaGreatKB12
import Derived.Test.YtfgnmgbiijpkiaaGreatKD3
set_option linter.all false
noncomputable section
namespace Go.Bw
open Go
def KD (C:Cx) (N:Nat) (ops:Array Oper) (p:Nat×(Nat×List AV)):Prop:=∃o,ops[p.1]? =some o/\o.guard=none/\o.dst=some p.2.1/\p.2.1<N/\(∀e∈o.after,Region.binds .any e=false)/\∀s O,eK C N o s O p.2.2
def cW (st:Nat->Option Nat):bJ->List ah
 |[]=>[]
 |p::A=>(match st p.1 with
  |some b=>[.box b p.2.2]
  |none=>[])++cW st A
def eB (st:Nat->Option Nat):bJ->Nat
 |[]=>0
 |p::A=>(match st p.1 with
  |some _=>0
  |none=>1)+eB st A
def fH (st:Nat->Option Nat) (i b:Nat):Nat->Option Nat:=λk=>if k=i then some b else st k
def kq (st:Nat->Option Nat) (A:bJ):List ((Nat×List AV)×Nat):=A.map λp=>(p.2,(st p.1).getD 0)
section
variable {C:Cx} {N:Nat} {ops:Array Oper} {st:Nat->Option Nat}
theorem Es (j:Nat):∀A:bJ,(cW st A).Perm (cW st (b8 ops j A)++cW st (cm ops j A))
 |[]=>List.Perm.refl _
 |p::A=>by
  have ih:=Es j A;simp only[b8,cm,Mp]at ih⊢;cases hb:dZ ops p.1 j with
  |true=>
   simp only[Ec,if_true,cW,gW,if_false,iI];exact ih.append_left _
  |false=>
   simp only[D5,if_true,cW,gW,if_false];refine(ih.append_left _).trans ?_;rw[<-iI,<-iI];exact List.perm_append_comm.append_right _
theorem Ft (j:Nat):∀A:bJ,eB st A=eB st (b8 ops j A)+eB st (cm ops j A)
 |[]=>rfl
 |p::A=>by
  have ih:=Ft j A;simp only[b8,cm,Mp]at ih⊢;cases hb:dZ ops p.1 j with
  |true=>simp only[Ec,if_true,eB,gW,if_false];omega
  |false=>simp only[D5,if_true,eB,gW,if_false];omega
theorem F8:∀{A:bJ},(∀p∈A,st p.1≠none)->eB st A=0
 |[],_=>rfl
 |p::A,h=>by
  simp only[eB];rw[F8 (A:=A) λq hq=>h q (by simp[hq])];have:=h p (by simp);cases hs:st p.1 with
  |none=>exact absurd hs this
  |some b=>rfl
theorem Hg:∀{A:bJ} {p:Nat×(Nat×List AV)},p∈A->st p.1=none->0<eB st A
 |q::A,p,hp,hs=>by
  simp only[eB];rcases dc.1 hp with rfl|hp
  ·rw[hs];simp only;omega
  ·have:=Hg hp hs;omega
theorem F9:∀{A:bJ},(∀p∈A,st p.1≠none)->cQ (kq st A)=cW st A
 |[],_=>rfl
 |p::A,h=>by
  have ih:=F9 (A:=A) λq hq=>h q (by simp[hq]);have:=h p (by simp);cases hs:st p.1 with
  |none=>exact absurd hs this
  |some b=>
   simp only[cQ,kq]at ih;simp only[cW,hs,cQ,kq,dW,Mq,List.singleton_append,ih]
theorem OJ (A:bJ):(kq st A).map (·.1)=ku A:=by simp[kq,ku]
theorem Fu {i b:Nat}:∀{A:bJ},(∀p∈A,p.1≠i)->cW (fH st i b) A=cW st A/\eB (fH st i b) A=eB st A
 |[],_=>⟨rfl,rfl⟩
 |p::A,h=>by
  obtain⟨h1,h2⟩:=Fu (b:=b) (A:=A) λq hq=>h q (by simp[hq]);have hne:=h p (by simp);simp only[cW,eB,h1,h2,fH,hne,if_false,and_self]
theorem F' {b:Nat}:∀{A:bJ} {p:Nat×(Nat×List AV)},p∈A->(A.map (·.1)).Nodup->st p.1=none->(cW (fH st p.1 b) A).Perm (cW st A++[.box b p.2.2])/\eB (fH st p.1 b) A+1=eB st A
 |q::A,p,hp,hnd,hs=>by
  simp only[dW,Mu,dt,not_exists,not_and]at hnd;rcases dc.1 hp with rfl|hp
  ·obtain⟨h1,h2⟩:=Fu (st:=st) (b:=b) (A:=A) (i:=p.1) λq hq he=>hnd.1 q hq he;simp only[cW,eB,h1,h2,hs];refine⟨?_,by simp[fH];omega⟩;simp only[fH,if_true,xn];exact xj
  ·have hne:q.1≠p.1:=λhe=>hnd.1 p hp he.symm;obtain⟨h1,h2⟩:=F' (b:=b) hp hnd.2 hs;simp only[cW,eB];have e:fH st p.1 b q.1=st q.1:=by simp[fH,hne]
   rw[e];refine⟨?_,by omega⟩;rw[iI];exact h1.append_left _
theorem bz.back {G:Gl} {w w':World} {F:Nat->Prop} {Os Os' Or:List ah} (hH1:bz G w F (Os++Or)) (hh:bz G w' (λb=>F b\/b∈ids Or) Os') (hext:Ext Os w Os' w'):bz G w' F (Os'++Or)/\Ext (Os++Or) w (Os'++Or) w':=by
 have hlt:=hH1.lt;have hnd:=hH1.nodup;rw[cg,jP]at hnd;have hA:Al (λb=>F b\/b∈ids Or) Os'=Al F (Os'++Or):=kG;have hmem:∀b,b∈ids (Os++Or)↔b∈ids Os\/b∈ids Or:=λb=>by rw[cg,cN]
 have hnew:∀b∈ids Os',b∈ids Os\/w.heap.size<=b:=hext.new;have hr:∀b∈ids Or,b<w.heap.size/\b∉ids Os:=λb hb=>⟨hlt b (by simp[cg,hb]),λhm=>hnd.2.2 b hm b hb rfl⟩;have hE:Ext (Os++Or) w (Os'++Or) w':=by
  refine⟨hext.os,hext.tape,hext.output,hext.size,λb hb hn=>hext.block b hb λhm=>hn ((hmem b).2 (.inl hm)),λb hb=>?_,hext.drawn⟩;rw[cg,cN]at hb;rcases hb with hb|hb
  ·exact(hnew b hb).imp (λhm=>(hmem b).2 (.inl hm)) id
  ·exact .inl ((hmem b).2 (.inr hb))
 have hk:cK w (Al F (Os++Or)) w' (Al F (Os'++Or)):=hE.keeps;refine⟨⟨λx hx=>?_,?_,λb hb=>?_,λb hb=>hh.bound b (.inl hb),hH1.dS.bm hk⟩,hE⟩
 ·rcases cN.1 hx with hx|hx
  ·rw[<-hA];exact hh.ea x hx
  ·have hx0:=hH1.ea x (by simp[hx]);refine hx0.bm hk λb hb=>?_;have hbm:b∈ids Or:=ec.2 ⟨x,hx,hb⟩;exact hext.block b (hr b hbm).1 (hr b hbm).2
 ·rw[cg,jP];refine⟨hh.nodup,hnd.2.1,λa ha b hb hab=>?_⟩;subst hab;rcases hnew a ha with h1|h1
  ·exact(hr a hb).2 h1
  ·have:=(hr a hb).1;omega
 ·rw[cg,cN]at hb;rcases hb with hb|hb
  ·exactλhF=>hh.free b hb (.inl hF)
  ·exact hH1.free b ((hmem b).2 (.inr hb))
theorem bz.drop {G:Gl} {w:World} {F:Nat->Prop} {O W:List ah} (h:bz G w F (O++W)):bz G w F O:=by
 have hsub:∀b∈ids O,b∈ids (O++W):=λb hb=>by rw[cg];exact lX _ hb
 have hk:=cK.sub (w:=w) (F:=F) hsub;have hnd:=h.nodup;rw[cg,jP]at hnd;exact⟨λx hx=>(h.ea x (by simp[hx])).bm hk (λ_ _=>rfl),hnd.1,λb hb=>h.free b (hsub b hb),h.bound,h.dS.bm hk⟩
theorem Ext.perm {O η' O'':List ah} {w w':World} (h:Ext O w η' w') (hp:η'.Perm O''):Ext O w O'' w':=⟨h.os,h.tape,h.output,h.size,h.block,λb hb=>h.new b ((l7 hp).mem_iff.2 hb),h.drawn⟩
theorem Ext.drop {O η' W:List ah} {w w':World} (h:Ext O w (η'++W) w'):Ext O w η' w':=⟨h.os,h.tape,h.output,h.size,h.block,λb hb=>h.new b (by rw[cg];exact lX _ hb),h.drawn⟩
structure Jq (C:Cx) (N:Nat) (ops:Array Oper) (A:bJ) (s:Sl):Prop where
 ok:∀p∈A,KD C N ops p
 nd:(A.map (·.1)).Nodup
 dst:∀p∈A,∀j oj,ops[j]? =some oj->j≠p.1->oj.dst≠some p.2.1
 sl:∀p∈A,s p.2.1=none
structure KE (A:bJ) (listed wl:Array Bool) (st:Nat->Option Nat):Prop where
 h1:∀i,wl.getD i true=false->listed.getD i true=false\/∃p∈A,p.1=i/\st i=none
 h2:∀i,wl.getD i false=true->listed.getD i false=true/\∀p∈A,p.1=i->st i≠none
 h3:∀i,listed.getD i true=false->wl.getD i true=false
 h4:∀i,listed.getD i false=true->(∀p∈A,p.1=i->st i≠none)->wl.getD i false=true
 h5:∀p∈A,st p.1=none->wl.getD p.1 true=false
 h6:∀p∈A,listed.getD p.1 true=true
 h7:∀p∈A,listed.getD p.1 false=true
theorem Ej (l:Array Bool) (i:Nat):(l.setIfInBounds i true).getD i true=true:=by
 rcases jO i l.size with h|h
 ·simp[h]
 ·simp[rn,h]
theorem xC {l:Array Bool} {i:Nat} (h:l.getD i true=false):(l.setIfInBounds i true).getD i false=true:=by
 rcases jO i l.size with h'|h'
 ·simp[h']
 ·simp[rn,h']at h
theorem Fv:∀{A:bJ} {p q:Nat×(Nat×List AV)},(A.map (·.1)).Nodup->p∈A->q∈A->p.1=q.1->p=q
 |x::A,p,q,hnd,hp,hq,he=>by
  simp only[dW,Mu,dt,not_exists,not_and]at hnd;rcases dc.1 hp with h1|h1<;>rcases dc.1 hq with h2|h2
  ·rw[h1,h2]
  ·exact absurd (by rw[<-he,h1]) (hnd.1 q h2)
  ·exact absurd (by rw[he,h2]) (hnd.1 p h1)
  ·exact Fv hnd.2 h1 h2 he
theorem MS {i j:Nat} {o:Oper} (ho:ops[j]? =some o) (h:dZ ops i j=true):∃e∈o.after,Region.binds .any e=true/\e.on=i:=by
 unfold dZ at h;rw[ho]at h;simp only[l3,bI,beq_iff_eq]at h;obtain⟨q,hq,h1,h2⟩:=h;exact⟨q,by simpa using hq,h1,h2⟩
theorem ep.perm {w:World} {F:Nat->Prop} {O η':List ah} {a:Act} {s:Sl} (h:ep w (Al F O) N a s) (hp:O.Perm η'):ep w (Al F η') N a s:=by rw[<-mj hp];exact h
variable {Qn:Sl->List ah->Prop} {Qp:AV->List ah->Prop} {Q:AQ}
theorem N5 (hQn:∀s O,Qn s O->∃Z',(∀t x,look Z' t=some x->s t=some x)/\Q .norm Z' O) (hQp:∀x O,Qp x O->Q (.aO x) [] O):
  ∀(m n:Nat) (A:bJ) (listed wl:Array Bool) (pend:fh) (s:Sl) (O:List ah) (st:Nat->Option Nat),m=n+eB st A->fU C N ops Qn Qp n A listed pend s O->Jq C N ops A s->KE A listed wl st->
   ∀F w0 O0 a w,ep w (Al F (O++cW st A)) N a s->(∀p∈A,∀b,st p.1=some b->a.tmps.getD p.2.1 undef= .pointer (some ⟨b,0,none⟩))->bz C.G w F (O++cW st A)->a.defers=[]->Ext O0 w0 (O++cW st A) w->
    wpAny C.P .any ops (CQ C.G N F w0 O0 Q) m wl a w:=by
 intro m
 induction m with
 |zero=>
  intro n A listed wl pend s O st hm h hA hW F w0 O0 a w hs hptr hh hdf hx;have hn:n=0:=by omega
  subst hn;have hall:∀p∈A,st p.1≠none:=λp hp hs=>by have:=Hg hp hs;omega
  refine⟨?_,?_⟩
  ·refine Wy.2 λj hj=>?_;obtain⟨hju,o,ho,hd⟩:=mem_ready.1 hj;rcases hW.h1 j hju with h1|⟨p,hp,rfl,h2⟩
   ·have:j∈Region.ready .any ops listed:=mem_ready.2 ⟨h1,o,ho,λe he hb=>(hW.h2 _ (hd e he hb)).1⟩;rw[h.2.1]at this;cases this
   ·exact hall p hp h2
  ·obtain⟨Z',h1,h2⟩:=hQn s O h.2.2;refine CQ.intro .norm rfl h2 ⟨?_,hh.drop,hdf⟩ hx.drop;have hk:=cK.sub (w:=w) (F:=F) (O:=O++cW st A) (η':=O) λb hb=>by rw[cg];exact lX _ hb
   exact⟨hs.1,λt x hx=>⟨(hs.2 t x (h1 t x hx)).1,(hs.2 t x (h1 t x hx)).2.bm hk⟩⟩
 |succ m ih=>
  intro n A listed wl pend s O st hm h hA hW F w0 O0 a w hs hptr hh hdf hx;refine⟨λh0=>?_,λj hj=>?_⟩
  ·have hall:∀p∈A,st p.1≠none:=λp hp hsn=>by
    obtain⟨o,ho,_,_,_,hna,_⟩:=hA.ok p hp;have:p.1∈Region.ready .any ops wl:=mem_ready.2 ⟨hW.h5 p hp hsn,o,ho,λe he hb=>by rw[hna e he]at hb;cases hb⟩;rw[h0]at this;cases this
   have hr0:Region.ready .any ops listed=[]:=by
    refine Wy.2 λj hj=>?_;obtain⟨hju,o,ho,hd⟩:=mem_ready.1 hj;have:j∈Region.ready .any ops wl:=mem_ready.2 ⟨hW.h3 j hju,o,ho,λe he hb=>hW.h4 _ (hd e he hb) λp hp he'=>by rw[<-he'];exact hall p hp⟩;rw[h0]at this;cases this
   have hq:Qn s O:=by
    cases n with
    |zero=>exact h.2.2
    |succ n=>exact h.2.1 hr0
   obtain⟨Z',h1,h2⟩:=hQn s O hq;refine CQ.intro .norm rfl h2 ⟨?_,hh.drop,hdf⟩ hx.drop;have hk:=cK.sub (w:=w) (F:=F) (O:=O++cW st A) (η':=O) λb hb=>by rw[cg];exact lX _ hb
   exact⟨hs.1,λt x hx=>⟨(hs.2 t x (h1 t x hx)).1,(hs.2 t x (h1 t x hx)).2.bm hk⟩⟩
  ·obtain⟨hju,o,ho,hdep⟩:=mem_ready.1 hj;unfold wpOp;simp only[ho];rcases hW.h1 j hju with hjl|⟨p,hp,hpj,hsn⟩
   ·--an operation of the tail
    have hjr:j∈Region.ready .any ops listed:=mem_ready.2 ⟨hjl,o,ho,λe he hb=>(hW.h2 _ (hdep e he hb)).1⟩;cases n with
    |zero=>rw[h.2.1]at hjr;cases hjr
    |succ n=>
     obtain⟨o',ho',hst⟩:=h.2.2 j hjr;rw[ho]at ho';cases ho';have hex:∀p∈b8 ops j A,st p.1≠none:=λp hp=>by
      simp only[b8,gJ]at hp;obtain⟨e,he,hb,heq⟩:=MS ho hp.2;exact(hW.h2 p.1 (by rw[<-heq];exact hdep e he hb)).2 p hp.1 rfl
     have hstp:=uW hst (kq st (b8 ops j A)) (OJ _);have hents:cQ (kq st (b8 ops j A))=cW st (b8 ops j A):=F9 hex;have hperm:(O++cW st A).Perm ((O++cQ (kq st (b8 ops j A)))++cW st (cm ops j A)):=by
      rw[hents,iI];exact(Es j A).append_left _
     have hH1:=hh.perm hperm;have hx1:=hx.perm hperm;have hzs:∀z∈kq st (b8 ops j A),∃p∈A,dZ ops p.1 j=true/\z.1=p.2/\st p.1=some z.2:=λz hz=>by
      simp only[kq,dt]at hz;obtain⟨p,hp,rfl⟩:=hz;have:=hex p hp;simp only[b8,gJ]at hp;refine⟨p,hp.1,hp.2,rfl,?_⟩;cases hs:st p.1 with
      |none=>exact absurd hs this
      |some b=>rfl
     generalize kq st (b8 ops j A)=zs at hstp hperm hH1 hx1 hzs hents;have hcnt:m=n+eB st (cm ops j A):=by
      have h1:=Ft (ops:=ops) (st:=st) j A;rw[F8 hex]at h1;omega
     have hs1:ep w (Al F ((O++cQ zs)++cW st (cm ops j A))) N a (fx O.length zs s):=by
      rw[<-mj hperm];refine⟨hs.1,λt x ht=>?_⟩;simp only[fx]at ht;split at ht
      ·rename_i y hl;cases ht;have:look (fg O.length zs++[]) t=some x:=by simpa using hl
       rcases ph this with⟨z,hz,k,rfl,rfl⟩|h
       ·obtain⟨p,hp,_,he,hsp⟩:=hzs z hz;obtain⟨_,_,_,_,hlt,_⟩:=hA.ok p hp;rw[he];exact⟨hlt,by simp only[Rel];exact hptr p hp _ hsp⟩
       ·simp[look]at h
      ·exact hs.2 t x ht
     have hne:∀p∈A,j≠p.1:=λp hp he=>by
      have:=hW.h6 p hp;rw[<-he,hjl]at this;cases this
     have hsub:∀p∈cm ops j A,p∈A:=λp hp=>(gJ.1 hp).1;have hW':KE (cm ops j A) (listed.setIfInBounds j true) (wl.setIfInBounds j true) st:=by
      have hjne:∀{i:Nat} {l:Array Bool},(l.setIfInBounds j true).getD i true=false->j≠i:=λhi he=>by subst he;rw[Ej]at hi;cases hi
      refine⟨λi hi=>?_,λi hi=>?_,λi hi=>?_,λi hi hall=>?_,λp hp hsn=>?_,λp hp=>?_,λp hp=>?_⟩
      ·have hji:=hjne hi;rw[getD_set_ne true hji]at hi⊢;rcases hW.h1 i hi with h1|⟨p,hp,rfl,h2⟩
       ·exact .inl h1
       ·refine .inr ⟨p,?_,rfl,h2⟩;simp only[cm,gJ,je];refine⟨hp,?_⟩;cases hb:dZ ops p.1 j with
        |false=>rfl
        |true=>exact absurd h2 (hex p (by simp only[b8,gJ];exact⟨hp,hb⟩))
      ·by_cases hji:j=i
       ·subst hji;exact⟨xC hjl,λp hp he=>absurd he.symm (hne p (hsub p hp))⟩
       ·rw[getD_set_ne false hji]at hi⊢;obtain⟨h1,h2⟩:=hW.h2 i hi;exact⟨h1,λp hp he=>h2 p (hsub p hp) he⟩
      ·have hji:=hjne hi;rw[getD_set_ne true hji]at hi⊢;exact hW.h3 i hi
      ·by_cases hji:j=i
       ·subst hji;exact xC hju
       ·rw[getD_set_ne false hji]at hi⊢;refine hW.h4 i hi λp hp he hsn=>?_;cases hb:dZ ops p.1 j with
        |false=>exact hall p (by simp only[cm,gJ,je];exact⟨hp,hb⟩) he hsn
        |true=>exact hex p (by simp only[b8,gJ];exact⟨hp,hb⟩) (by rw[he];exact hsn)
      ·rw[getD_set_ne true (hne p (hsub p hp))];exact hW.h5 p (hsub p hp) hsn
      ·rw[getD_set_ne true (hne p (hsub p hp))];exact hW.h6 p (hsub p hp)
      ·rw[getD_set_ne false (hne p (hsub p hp))];exact hW.h7 p (hsub p hp)
     have hA':∀x:AV,Jq C N ops (cm ops j A) (aY (fx O.length zs s) o.dst (some x)):=λx=>by
      refine⟨λp hp=>hA.ok p (hsub p hp),(List.filter_sublist.map _).nodup hA.nd,λp hp=>hA.dst p (hsub p hp),λp hp=>?_⟩;have hd:o.dst≠some p.2.1:=hA.dst p (hsub p hp) j o ho (hne p (hsub p hp));rw[kC λd hd' he=>hd (by rw[hd',he])];simp only[fx];cases hl:look (fg O.length zs) p.2.1 with
      |none=>exact hA.sl p (hsub p hp)
      |some y=>
       exfalso;have:look (fg O.length zs++[]) p.2.1=some y:=by simpa using hl
       rcases ph this with⟨z,hz,k,h1,_⟩|h
       ·obtain⟨q,hq,hb,he,_⟩:=hzs z hz;obtain⟨oq,hoq,_,hdq,_⟩:=hA.ok q hq;have hqp:q.1≠p.1:=λe=>by
         have:=(gJ.1 hp).2;rw[<-e,hb]at this;cases this
        exact hA.dst p (hsub p hp) q.1 oq hoq hqp (by rw[hdq,<-he,h1])
       ·simp[look]at h
     have hptr':∀{v:Value},∀p∈cm ops j A,∀b,st p.1=some b->(a.put o.dst v).tmps.getD p.2.1 undef= .pointer (some ⟨b,0,none⟩):=λ{v} p hp b hb=>by
      have hd:o.dst≠some p.2.1:=hA.dst p (hsub p hp) j o ho (hne p (hsub p hp));rw[l5 λd hd' he=>hd (by rw[hd',he])];exact hptr p (hsub p hp) b hb
     obtain⟨hdst,hst2⟩:=hstp;have put:∀{x:AV} {v:Value} {w':World} {η':List ah},Rel w' (Al F (η'++cW st (cm ops j A))) x v->Ext ((O++cQ zs)++cW st (cm ops j A)) w (η'++cW st (cm ops j A)) w'->ep w' (Al F (η'++cW st (cm ops j A))) N (a.put o.dst v) (aY (fx O.length zs s) o.dst (some x)):=by
      intro x v w' η' hv hext;refine⟨by rw[u9];exact hs1.1,λt y hy=>?_⟩;by_cases htd:o.dst=some t
      ·have htN:=uV hdst t htd;rw[htd]at hy⊢;simp only[aY,if_true,aA]at hy;subst hy;exact⟨htN,by rw[uC (by rw[hs1.1];exact htN)];exact hv⟩
      ·have hne:∀d,o.dst=some d->t≠d:=λd hd' he=>htd (by rw[hd',he]);rw[kC hne]at hy;obtain⟨h1,h2⟩:=hs1.2 t y hy;exact⟨h1,by rw[l5 hne];exact h2.bm hext.keeps⟩
     rcases hst2 with⟨hw,R,hE,h1,h2⟩|⟨hw,h1⟩
     ·rw[cZ (uF hs1 hw)];refine .inl (hE (λb=>F b\/b∈ids (cW st (cm ops j A))) w a hs1.1 hdf hH1.front (λt _ y hy=>by rw[kG];exact hs1.2 t y hy) _ _ ?_ ?_)
      ·intro v w' x η' hR hv hH' hext;obtain⟨g1,g2⟩:=bz.back hH1 hH' hext;rw[kG]at hv;exact ih n (cm ops j A) _ _ _ _ η' st hcnt (h1 x η' hR) (hA' x) hW' F w0 O0 _ w' (put hv g2) hptr' g1 (by rw[su];exact hdf) (hx1.trans g2)
      ·intro v w' x η' hR hv hH' hext;obtain⟨g1,g2⟩:=bz.back hH1 hH' hext;rw[kG]at hv;have hk:=cK.sub (w:=w') (F:=F) (O:=η'++cW st (cm ops j A)) (η':=η') λb hb=>by rw[cg];exact lX _ hb
       exact⟨.aO x,[],η',hQp x η' (h2 x η' hR),⟨v,rfl,hv.bm hk⟩,⟨⟨hs1.1,λt x hx=>by simp[AE.sl,look]at hx⟩,g1.drop,hdf⟩,(hx1.trans g2).drop⟩
     ·rw[cM (by rw[uF hs1 hw];simp)];exact ih n (cm ops j A) _ _ _ _ (O++cQ zs) st hcnt h1 (hA' _) hW' F w0 O0 _ w (put (x:= .v undef) (v:=undef) (by simp only[Rel]) (Ext.refl _ w)) hptr' hH1 (by rw[su];exact hdf) hx1
   ·--a fresh box
    subst hpj;obtain⟨o',ho',hg,hd,hlt,hna,hN⟩:=hA.ok p hp;rw[ho]at ho';cases ho';rw[cZ (by simp[Region.wanted,hg])];refine .inl (hN (λ_=>none) (O++cW st A) F w a hs.1 hdf hh (λt _ y hy=>by cases hy) _ _ λvs e hv=>?_);obtain⟨hp1,hp2⟩:=F' (b:=w.heap.size) hp hA.nd hsn;have hperm:((O++cW st A)++[ah.box w.heap.size p.2.2]).Perm (O++cW (fH st p.1 w.heap.size) A):=by
     rw[iI];exact(hp1.symm).append_left _
    have hext:=jS w (.cells vs.toArray e) (O++cW st A) (.box w.heap.size p.2.2) (by simp[ah.ids]);have hkeep:=hext.keeps (F:=F);refine ih n A listed (wl.setIfInBounds p.1 true) pend s O (fH st p.1 w.heap.size) (by omega) h hA ?_ F w0 O0 _ _ ?_ ?_ ?_ (by rw[su];exact hdf) ((hx.trans hext).perm hperm)
    ·refine⟨λi hi=>?_,λi hi=>?_,λi hi=>?_,λi hi hall=>?_,λq hq hsq=>?_,hW.h6,hW.h7⟩
     ·have hji:p.1≠i:=λhe=>by subst he;rw[Ej]at hi;cases hi
      rw[getD_set_ne true hji]at hi;rcases hW.h1 i hi with h1|⟨q,hq,rfl,h2⟩
      ·exact .inl h1
      ·exact .inr ⟨q,hq,rfl,by simp only[fH,gX hji,if_false];exact h2⟩
     ·by_cases hji:p.1=i
      ·subst hji;exact⟨hW.h7 p hp,λq hq he=>by simp[fH]⟩
      ·rw[getD_set_ne false hji]at hi;obtain⟨h1,h2⟩:=hW.h2 i hi;exact⟨h1,λq hq he=>by simp only[fH,gX hji,if_false];exact h2 q hq he⟩
     ·have hji:p.1≠i:=λhe=>by
       subst he;have:=hW.h6 p hp;rw[hi]at this;cases this
      rw[getD_set_ne true hji];exact hW.h3 i hi
     ·by_cases hji:p.1=i
      ·subst hji;exact xC hju
      ·rw[getD_set_ne false hji];refine hW.h4 i hi λq hq he hsq=>hall q hq he ?_;simp only[fH,gX hji,if_false];exact hsq
     ·have hji:p.1≠q.1:=λhe=>by rw[<-he]at hsq;simp[fH]at hsq
      rw[getD_set_ne true hji];refine hW.h5 q hq ?_;simpa only[fH,gX hji,if_false]using hsq
    ·rw[<-mj hperm];refine⟨by rw[u9];exact hs.1,λt x hx=>?_⟩;have htd:t≠p.2.1:=λhe=>by rw[he,hA.sl p hp]at hx;cases hx
     obtain⟨h1,h2⟩:=hs.2 t x hx;refine⟨h1,?_⟩;rw[l5 λd hd' he=>htd (by rw[he];rw[hd]at hd';cases hd';rfl)];exact h2.bm hkeep
    ·intro q hq b hb;by_cases hqp:q.1=p.1
     ·have:=Fv hA.nd hq hp hqp;subst this;simp only[fH,if_true,aA]at hb;subst hb;rw[hd];exact uC (by rw[hs.1];exact hlt)
     ·simp only[fH,hqp,if_false]at hb;have hdq:o.dst≠some q.2.1:=hA.dst q hq p.1 o ho (gX hqp);rw[l5 λd hd' he=>hdq (by rw[hd',he])];exact hptr q hq b hb
    ·refine bz.perm hperm ?_;refine hh.push (by simp) (λb hb=>gY w _ b hb) (by simp[ah.ids]) (by simp[ah.ids]) ?_;exact⟨e,vs,iN w _,hv.bm hkeep⟩
end
def k4 (T:bO) (ops:Array Oper) (N:Nat):List Nat->Option bJ
 |[]=>some []
 |i::r=>match ops[i]?,k4 T ops N r with
  |some ⟨some d,.alloc t,_,_,after,none⟩,some A=>match aX T t with
   |some ⟨_,_,_,z⟩=>match Nat.blt d N&&after.toList.all λe=>!Region.binds .any e with
    |true=>some ((i,(d,z.map .v))::A)
    |false=>none
   |none=>none
  |_,_=>none
def oK (ops:Array Oper):List Nat->List (Nat×Nat)
 |[]=>[]
 |i::r=>match ops[i]? with
  |some o=>match o.dst with
   |some d=>(i,d)::oK ops r
   |none=>oK ops r
  |none=>oK ops r
theorem Hh {E:Env} {ops:Array Oper} {N:Nat}:∀{al:List Nat} {A:bJ},k4 E.T ops N al=some A->(∀p∈A,KD E.toCx N ops p)/\A.map (·.1)=al/\oK ops al=A.map λp=>(p.1,p.2.1)
 |[],A,h=>by simp only[k4,aA]at h;subst h;simp[oK]
 |i::r,A,h=>by
  simp only[k4]at h;split at h
  ·rename_i d t ty pos after A' ho hr;split at h
   ·rename_i td sz by' z ht;split at h
    ·rename_i hB;simp only[aA]at h;subst h;simp only[bI,jQ,gH,je]at hB;obtain⟨g1,g2,g3⟩:=Hh hr;refine⟨λp hp=>?_,by simp[g2],by simp[oK,ho,g3]⟩;rcases dc.1 hp with rfl|hp
     ·refine⟨_,ho,rfl,rfl,hB.1,λe he=>?_,λs O=>eK.alloc rfl ht⟩;exact hB.2 e (by simpa using he)
     ·exact g1 p hp
    ·cases h
   ·cases h
  ·cases h
def mr (ops:Array Oper) (pre:List Nat) (tl:List (Nat×TK)) (al:List Nat):Bool:=
 Region.noSelect ops&&wj ops pre (Array.replicate ops.size false)&&kV ops (ic ops tl) (iO al (iO pre (Array.replicate ops.size false))) [] (oK ops al)&&Nat.beq (pre.length+((ic ops tl).length+al.length)) ops.size&&
  ez al&&(al.all λi=>!pre.contains i&&(List.range ops.size).all λj=>Nat.beq j i||match ops[i]?,ops[j]? with
   |some oi,some oj=>(match oi.dst with
    |some d=>vR oj.dst d
    |none=>true)
   |_,_=>true)
def og (A:bJ) (s:Sl):Sl:=λt=>match(A.map (·.2.1)).contains t with
 |true=>none
 |false=>s t
theorem N6 {A:bJ} {s:Sl} {t:Nat} {x:AV} (h:og A s t=some x):s t=some x:=by
 unfold og at h;split at h
 ·cases h
 ·exact h
theorem ly:∀(l:List Nat) (q:Array Bool) (i:Nat) (d:Bool),(iO l q).getD i d=if i∈l/\i<q.size then true else q.getD i d
 |[],q,i,d=>by simp[iO]
 |j::l,q,i,d=>by
  have ih:=ly l (q.setIfInBounds j true) i d;simp only[iO,D9]at ih⊢;rw[ih];simp only[Array.size_setIfInBounds,dc];by_cases hj:j=i
  ·subst hj;by_cases hlt:j<q.size
   ·simp[hlt]
   ·simp[hlt,rn (Nat.le_of_not_lt hlt)]
  ·have hij:i≠j:=gX hj;rw[getD_set_ne d hj];simp only[hij,false_or]
theorem EG:∀A:bJ,cW (λ_=>none) A=[]/\eB (λ_=>none) A=A.length
 |[]=>⟨rfl,rfl⟩
 |p::A=>by
  obtain⟨h1,h2⟩:=EG A;simp only[cW,eB,h1,h2,gw,jM];exact⟨trivial,by omega⟩
theorem bD.Pl {E:Env} {N:Nat} {ops:Array Oper} {O:List ah} {Q:AQ} {Z:Sg} {id:Nat} (pre:List Nat) (tl:List (Nat×TK)) (al:List Nat) (A:bJ) (hm:E.P.follows .mixedOrders=true) (hA:k4 E.T ops N al=some A) (hB:mr ops pre tl al=true) (hl:(ff ops pre).length=pre.length)
  (h:od E.toCx N O ops (λst=>∃Z',(∀t x,look Z' t=some x->st.1 t=some x)/\gh st.2 λzs=>gS E.toCx N ops (λs η'=>∃Z1,(∀t x,look Z1 t=some x->s t=some x)/\Q .norm Z1 η') (λx η'=>Q (.aO x) [] η') (ic ops tl) A [] (og A (look (fg O.length zs++Z'))) (O++cQ zs)) (ff ops pre) (look Z,[])):
  bD E.toCx N (.region id ops true) Q Z O:=λF w0 O0 a w hs hx=>by
 simp only[mr,bI]at hB;obtain⟨⟨⟨⟨⟨_,hlex⟩,htl⟩,hsz⟩,hnd⟩,hal⟩:=hB;have hsz:=bB hsz;obtain⟨a1,a2,a3⟩:=Hh hA;rw[a3]at htl;have hrep:∀(n:Nat) (i:Nat) (d:Bool),(Array.replicate n false).getD i d=if i<n then false else d:=λn i d=>by
  by_cases hi:i<n<;>simp[hi]
 have hmem:∀p∈A,p.1∈al/\p.1∉pre/\p.1<ops.size:=λp hp=>by
  have h1:p.1∈al:=by rw[<-a2];exact dt.2 ⟨p,hp,rfl⟩
  simp only[gH,bI,je]at hal;obtain⟨o,ho,_⟩:=a1 p hp;exact⟨h1,by simpa using(hal p.1 h1).1,(jN.1 ho).1⟩
 have halm:∀i∈al,∃p∈A,p.1=i:=λi hi=>by rw[<-a2]at hi;obtain⟨p,hp,he⟩:=dt.1 hi;exact⟨p,hp,he⟩
 refine wp_mono (Q:=CQ E.G N F w O Q) ?_ (λe a w' ⟨e0,Z2,O2,g1,g2,g3,g4⟩=>⟨e0,Z2,O2,g1,g2,g3,hx.trans g4⟩);refine wp_region_any hm ?_;have hcut:od E.toCx N O ops (λst=>Cut E.toCx N ops O (λF w1=>CQ E.G N F w1 O Q) ((ic ops tl).length+al.length) (iO pre (Array.replicate ops.size false)) st) (ff ops pre) (look Z,[]):=by
  refine yb (λst ⟨Z',h1,h2⟩=>?_) h;intro F w1 w a zs hd;have hb:=uW h2 zs hd.eq;have hT:=rU _ _ _ _ [] _ _ (λp hp=>xT hp) (λp hp=>by cases hp) htl hb;obtain⟨e1,e2⟩:=EG A;have hlen:A.length=al.length:=by rw[<-a2];simp
  have hsl:ep w (Al F ((O++cQ zs)++cW (λ_=>none) A)) N a (og A (look (fg O.length zs++Z'))):=by
   rw[e1,gw];refine⟨hd.size,λt x hx=>?_⟩;rcases ph (N6 hx)with⟨z,hz,k,rfl,rfl⟩|hx
   ·obtain⟨g1,g2⟩:=hd.nu z hz;exact⟨g1,by simp only[Rel];exact g2⟩
   ·exact hd.sl t x (h1 t x hx)
  refine N5 (Q:=Q) (λ_ _ h=>h) (λ_ _ h=>h) _ _ A _ (iO pre (Array.replicate ops.size false)) _ _ _ (λ_=>none) (by rw[e2,hlen]) hT ⟨a1,by rw[a2];exact xL hnd,λp hp j oj hoj hne=>?_,λp hp=>?_⟩ ?_ F w1 O a w hsl (λp hp b hb=>by cases hb) (by rw[e1,gw];exact hd.hp) hd.df ⟨hd.cls.1.1,hd.cls.2.1,hd.cls.2.2.1,hd.cls.2.2.2.1,λb hb _=>hd.cls.2.2.2.2 b hb,λb hb=>?_,hd.cls.1.2⟩
  ·obtain⟨oi,hoi,_,hdi,_⟩:=a1 p hp;simp only[gH,bI]at hal;have:=(hal p.1 (hmem p hp).1).2 j (Ea.2 (jN.1 hoj).1);simp only[hoi,hoj,hdi,xr]at this;rcases this with h|h
   ·exact absurd (bB h) hne
   ·exact EZ h
  ·have:(A.map (·.2.1)).contains p.2.1=true:=by rw[D4];exact dt.2 ⟨p,hp,rfl⟩
   simp only[og,this]
  ·have hsize:(iO pre (Array.replicate ops.size false)).size=ops.size:=by
    have:∀(l:List Nat) (q:Array Bool),(iO l q).size=q.size:=by
     intro l
     induction l with
     |nil=>intro q;rfl
     |cons j l ih=>intro q;simp only[iO,D9]at ih⊢;rw[ih];simp
    rw[this];simp
   refine⟨λi hi=>?_,λi hi=>?_,λi hi=>?_,λi hi hall=>?_,λp hp _=>?_,λp hp=>?_,λp hp=>?_⟩
   ·by_cases hia:i∈al
    ·exact .inr ((halm i hia).imp λp hp=>⟨hp.1,hp.2,rfl⟩)
    ·left;rw[ly,cM (λh=>hia h.1)];exact hi
   ·refine⟨by rw[ly,hi];simp,λp hp he=>?_⟩;exfalso;rw[ly]at hi;split at hi
    ·rename_i h;exact(hmem p hp).2.1 (by rw[he];exact h.1)
    ·rw[hrep]at hi;split at hi<;>cases hi
   ·rw[ly]at hi;split at hi
    ·cases hi
    ·exact hi
   ·rw[ly]at hi;split at hi
    ·rename_i h;obtain⟨p,hp,he⟩:=halm i h.1;exact absurd rfl (hall p hp he)
    ·exact hi
   ·rw[ly,cM (λh=>(hmem p hp).2.1 h.1),hrep,cZ (hmem p hp).2.2]
   ·rw[ly,cZ ⟨(hmem p hp).1,by rw[hsize];exact(hmem p hp).2.2⟩]
   ·rw[ly,cZ ⟨(hmem p hp).1,by rw[hsize];exact(hmem p hp).2.2⟩]
  ·rw[e1,gw,cg,cN]at hb;rcases hb with hb|hb
   ·exact .inl hb
   ·obtain⟨x,hx,hb⟩:=ec.1 hb;obtain⟨z,hz,rfl⟩:=dt.1 hx;simp only[ah.ids,lv]at hb;subst hb;exact .inr (hd.new z hz)
 have hany:=Fh _ _ _ (FX pre _ _ Pp hlex hl hcut);rw[hsz]at hany;have hc:fT w {w with drawn:=w.drawn+1}:=⟨⟨rfl,.of (xw _)⟩,rfl,rfl,bA _,λ_ _=>rfl⟩;have hd:kv E.G N F O w {w with drawn:=w.drawn+1} a (look Z,[]) []:=
  ⟨hs.sg.1,hs.df,rfl,by simpa[cQ]using hs.hp.later hc.2.2.2,λt x hx=>by
   obtain⟨h1,h2⟩:=hs.sg.2 t x hx;refine⟨h1,?_⟩;simp only[cQ,uk,gw];exact h2.bm (hc.ext (O:=O)).keeps,by simp,hc,by simp⟩
 exact hany F w _ a [] hd
def Rg (L:aC) (R:DR->Hp->Prop):AR->List ah->Prop:=λr ηB=>∃L' d O,L.le L'/\DR.inst L' d r/\HS L' O ηB/\R d O
def bH (E:Env) (N:Nat) (o:Oper) (Z:TS) (O:Hp) (R:DR->Hp->Prop):Prop:=∀L s ηB,SS L Z s->HS L O ηB->cV E.toCx N o s ηB (Rg L R)
section
variable {E:Env} {N K:Nat} {Q:DQ} {Z:TS} {O:Hp} {o:Oper} {x:CV} {all rest:List Oper} {R:DR->Hp->Prop}
theorem bH.mono {R':DR->Hp->Prop} (h:bH E N o Z O R) (hr:∀r η',R r η'->R' r η'):bH E N o Z O R':=λL s ηB hs hh=>(h L s ηB hs hh).mono λ_ _ ⟨L',d,η',h1,h2,h3,h4⟩=>⟨L',d,η',h1,h2,h3,hr _ _ h4⟩
theorem bH.val (h:a8 E N o Z O x):bH E N o Z O (λr η'=>r= .ret x/\η'=O):=λL s ηB hs hh=>by
 obtain⟨y,h1,h2⟩:=h L s ηB hs hh;refine(cV.lQ h2).mono ?_;rintro r η' ⟨rfl,rfl⟩;exact⟨L,.ret x,O,.refl L,⟨y,rfl,h1⟩,hh,rfl,rfl⟩
theorem bH.new {cells:List CV} {d:Nat} (hd:o.dst=some d) (h:∀L s ηB,SS L Z s->HS L O ηB->∃cs,aQ L cells cs/\eK E.toCx N o s ηB cs):bH E N o Z O (λr η'=>r= .ret (.own O.n 0)/\η'=O.push (.box cells)):=λL s ηB hs hh=>by
 obtain⟨cs,h1,h2⟩:=h L s ηB hs hh;refine(cV.rb hd h2).mono ?_;rintro r η' ⟨b,rfl,rfl⟩;have hdom:=hh.eY O.n (bA _);have hl:L.le (L.eV O.n b):=aC.vm hdom.1;have hbn:(L.eV O.n b).b O.n=some b:=by simp[aC.eV]
 exact⟨_,.ret (.own O.n 0),O.push (.box cells),hl,⟨_,rfl,by simp only[aE];exact⟨b,_,hbn,rfl⟩⟩,hh.push hl (λ_ _=>rfl) (λi hi=>by simp[aC.eV,hi]) ⟨b,cs,hbn,rfl,h1.mono hl⟩,rfl,rfl⟩
theorem l9 {L:aC} {s:Sl} {p:Operand} (h:p∈o.op.operands.toList) {y:AV} (hy:ev s p=some y):ev (look (dn s (tmpsOf o))) p=some y:=by rw[eN h];exact hy
theorem bH.store {t:TypeId} {p v:Operand} {i off:Nat} {cs cs':List CV} {ti:TI} (ho:o.op= .store t p v) (hp:aW Z p=some (.own i off)) (hv:aW Z v=some x) (hi:O.e.get i=some (.box cs)) (ht:aX E.T t=some ti)
  (hk:Nat.beq (dA x).length ti.size=true) (h1:kj (dA x)=true) (hl:jY cs off (dA x)=some cs'):bH E N o Z O (λr η'=>r= .ret (.d (.v undef))/\η'=O.set i (.box cs')):=λL s ηB hs hh=>by
 obtain⟨y,h2,h3⟩:=cf hs hp;simp only[aE]at h3;obtain⟨b,t',h3,rfl⟩:=h3;obtain⟨z,h4,h5⟩:=cf hs hv;obtain⟨q,h6,h7⟩:=hh.en i _ hi;obtain⟨b',us,h8,rfl,h9⟩:=h7;rw[h3]at h8;cases h8;have hc:=uH h5;obtain⟨us',h10,h11⟩:=uE hl h9 hc;refine(cV.L6 (yh ho (l9 (L:=L) (by simp[ho,Op.operands]) h2) (l9 (L:=L) (by simp[ho,Op.operands]) h4) h6 ht (by rw[hc.length];exact hk) (xN h1 hc) h10)).mono ?_;rintro r η' ⟨rfl,rfl⟩;exact⟨L,.ret (.d (.v undef)),O.set i (.box cs'),.refl L,⟨_,rfl,rfl⟩,hh.set (.refl L) (λ_ _=>rfl) (λ_ _=>rfl) (hh.lt hi) ⟨b,us',h3,rfl,h11⟩,rfl,rfl⟩
theorem bH.nf {t:TypeId} {p v:Operand} {i n m e kk:Nat} {rows:List (List AV)} {r r':List AV} {y:AV} {ti:TI} (j off:Nat) (ho:o.op= .store t p v) (hp:aW Z p=some (.oe i n m)) (hv:aW Z v=some (.d y)) (hi:O.e.get i=some (.row e kk rows)) (hn:n=rows.length)
  (hm:m=j*kk+off) (hr:rows[j]? =some r) (ht:aX E.T t=some ti) (hk:Nat.beq (b9 y).length ti.size=true) (h1:ef (b9 y)=true) (hl:eo r off (b9 y)=some r'):bH E N o Z O (λr1 η'=>r1= .ret (.d (.v undef))/\η'=O.set i (.row e kk (rows.set j r'))):=λL s ηB hs hh=>by
 obtain⟨z,h2,h3⟩:=cf hs hp;simp only[aE]at h3;obtain⟨a,c,t',h3,rfl⟩:=h3;obtain⟨z,h4,h5⟩:=cf hs hv;simp only[aE]at h5;subst h5;obtain⟨q,h6,h7⟩:=hh.en i _ hi;obtain⟨⟨a',c',h8,rfl⟩,h9⟩:=h7;subst hn;rw[h3]at h8;cases h8;refine(cV.L6 (En ho j off (l9 (L:=L) (by simp[ho,Op.operands]) h2) hm (l9 (L:=L) (by simp[ho,Op.operands]) h4) h6 hr ht hk h1 hl)).mono ?_;rintro r1 η' ⟨rfl,rfl⟩;exact⟨L,.ret (.d (.v undef)),O.set i (.row e kk (rows.set j r')),.refl L,⟨_,rfl,rfl⟩,hh.set (.refl L) (λ_ _=>rfl) (λ_ _=>rfl) (hh.lt hi) ⟨⟨a,c,by simpa using h3,by simp⟩,by simpa using h9⟩,rfl,rfl⟩
theorem bH.lit {n:Nat} {t:TypeId} {parts:Array (Nat×Operand)} {e k sz by' sz' by'':Nat} {z z':List Value} {td':TD} {cells:List AV} (ho:o.op= .buildSlice t n parts)
  (ht:aX E.T t=some ⟨.slice e k,sz,by',z⟩) (hte:aX E.T e=some ⟨td',sz',by'',z'⟩) (hf:eh k (dN Z) (fI n (z'.map .v)) parts.toList=some cells) (hb:Nat.ble (n*k) 16777216=true) (hk:Nat.ble 1 k=true):
  bH E N o Z O (λr η'=>r= .ret (.os O.n n)/\η'=O.push (.row e k (chunk n k cells))):=λL s ηB hs hh=>by
 have hR:oG E.toCx N o (dn s (tmpsOf o)) ηB (λx η'=>∃b,x= .os ηB.length (some ⟨b,0,none⟩) n n/\η'=ηB++[.row (.slice (some ⟨b,0,none⟩) n n) e k (chunk n k cells)]):=λF a w hst=>by
  have hf':eh k (look (dn s (tmpsOf o))) (fI n (z'.map .v)) parts.toList=some cells:=by
   rw[xJ λp hp=>eN (by rw[ho];simp only[Op.operands,dt];exact⟨p,hp,rfl⟩)];have key:∀(l:List (Nat×Operand)) (cs r:List AV),eh k (dN Z) cs l=some r->eh k s cs l=some r:=by
    intro l
    induction l with
    |nil=>intro cs r h;exact h
    |cons p l ih=>
     intro cs r h;obtain⟨i,p⟩:=p;simp only[eh]at h⊢;split at h
     ·rename_i y hy;have hy':ev s p=some y:=by
       cases p with
       |tmp u=>exact iS hs hy
       |const v=>exact hy
       |global g=>exact hy
       |func f=>exact hy
      simp only[hy'];split at h
      ·exact ih _ _ h
      ·cases h
     ·cases h
   exact key _ _ _ hf
  obtain⟨us,h1,h2,h3⟩:=yV (d:=o.dst) (ty:=o.type) (pos:=o.pos) (after:=o.after) (gd:=o.guard) ht hte hf' hb hk hst;have hb:=dw hb;have hk:=dw hk;have ho':o=⟨o.dst,.buildSlice t n parts,o.type,o.pos,o.after,o.guard⟩:=by rw[<-ho]
  rw[<-ho']at h1;have hext:=jS w (.cells us e) ηB (.row (.slice (some ⟨w.heap.size,0,none⟩) n n) e k (chunk n k cells)) (by simp[ah.ids,Value.ownBlock]);refine⟨.slice (some ⟨w.heap.size,0,none⟩) n n,w.alloc (.cells us e),_,_,⟨w.heap.size,rfl,rfl⟩,h1,by simp only[Rel],?_,hext⟩;refine hst.hp.push (by simp) (λb hb=>gY w _ b hb) (by simp[ah.ids,Value.ownBlock]) (by simp[ah.ids,Value.ownBlock]) ?_;refine⟨us.toList,h2.bm hext.keeps,?_,.inr ⟨w.heap.size,n,us,by rw[fD],mU _,iN w _,by rw[fD];exact bA _,?_,h3,?_⟩⟩
  ·rw[fD];simpa using h3
  ·have:n<=n*k:=xm n hk;simp only[maxLen];omega
  ·rw[fD,<-h3,<-ux,D6]
 refine(cV.Dy hR).mono ?_;rintro r η' ⟨y,rfl,b,rfl,rfl⟩;have hdom:=hh.eY O.n (bA _);have hl:L.le (L.aY O.n n (some ⟨b,0,none⟩,n)):=aC.iQ λy hy=>by rw[hdom.2]at hy;cases hy
 have hbn:(L.aY O.n n (some ⟨b,0,none⟩,n)).s O.n n=some (some ⟨b,0,none⟩,n):=by simp[aC.aY]
 refine⟨_,.ret (.os O.n n),O.push (.row e k (chunk n k cells)),hl,⟨_,rfl,by simp only[aE];exact⟨_,_,_,hbn,rfl⟩⟩,hh.push hl (λi hi=>by funext m;simp[aC.aY,hi]) (λ_ _=>rfl) ⟨⟨some ⟨b,0,none⟩,n,by rw[fD];exact hbn,by rw[fD]⟩,λm hm=>?_⟩,rfl,rfl⟩;rw[fD]at hm;have:m≠n:=by omega
 simp only[aC.aY,this,and_false,if_false];exact hdom.2 m
theorem jA.VK {L:aC} {s:Sl} {ηB:List ah} (hs:SS L Z s) (hh:HS L O ηB) {k:Nat} {p:Operand} {rows:List (List AV)} (h:jA E Z O k p rows) (hp:p∈o.op.operands.toList):∀F a w,St E.G N w F a (dn s (tmpsOf o)) ηB->gO w (Al F ηB) k (a.eval p) rows:=λF a w hst=>by
 have key:∀{x:CV},aW Z p=some x->∃y,ev (look (dn s (tmpsOf o))) p=some y/\aE L x y:=λh=>by
  obtain⟨y,h1,h2⟩:=cf hs h;exact⟨y,l9 (L:=L) hp h1,h2⟩
 cases h with
 |sl h=>
  obtain⟨y,h1,h2⟩:=key h;simp only[aE]at h2;subst h2;exact gO.sl (bt hst.sg h1)
 |wZ h hI=>
  obtain⟨y,h1,h2⟩:=key h;simp only[aE]at h2;subst h2;exact gO.sl (hI _ _ _ (bt hst.sg h1))
 |nil h=>
  obtain⟨y,h1,h2⟩:=key h;simp only[aE]at h2;subst h2;have:=bt hst.sg h1;simp only[Rel]at this;rw[this];exact⟨none,0,0,[],rfl,rfl,by simp[br],λ_=>rfl,λ_ h=>by cases h⟩
 |row h h3 hn=>
  obtain⟨y,h1,h2⟩:=key h;simp only[aE]at h2;obtain⟨a',c,t',h4,rfl⟩:=h2;obtain⟨q,h5,h6⟩:=hh.en _ _ h3;obtain⟨⟨a2,c2,h7,rfl⟩,_⟩:=h6;subst hn;rw[h4]at h7;cases h7;have:=bt hst.sg h1;simp only[Rel]at this;rw[this];exact gO.row (fV hst.hp h5)
 |fz h h3 hn=>
  obtain⟨y,h1,h2⟩:=key h;simp only[aE]at h2;obtain⟨a',c,t',h4,rfl⟩:=h2;obtain⟨q,h5,h6⟩:=hh.en _ _ h3;obtain⟨a2,c2,h7,rfl⟩:=h6;subst hn;rw[h4]at h7;cases h7;have:=bt hst.sg h1;simp only[Rel]at this;rw[this];exact gO.sl (nA hst.hp h5)
theorem bH.append {i n:Nat} {s' p:Operand} {t:TypeId} {e k sz by' sz' by'':Nat} {z z':List Value} {td':TD} {rows rows2:List (List AV)} (ho:o.op= .call {callee:= .builtin .append,args:= #[s',p],argTypes:= #[t,t]})
  (hb:(rows++rows2).length*by''<=140737488355328) (hs':aW Z s'=some (.os i n)) (hi:O.e.get i=some (.row e k rows)) (hn:n=rows.length) (hx:jA E Z O k p rows2) (ht:aX E.T t=some ⟨.slice e k,sz,by',z⟩) (hte:aX E.T e=some ⟨td',sz',by'',z'⟩) (h1:fF rows2=true)
  (hk:Nat.ble 1 k=true) (hby:Nat.ble 1 by''=true):bH E N o Z O (λr η'=>r= .ret (.os i (rows++rows2).length)/\η'=O.set i (.row e k (rows++rows2))):=λL s ηB hs hh=>by
 obtain⟨y,h2,h3⟩:=cf hs hs';simp only[aE]at h3;obtain⟨a,c,t',h3,rfl⟩:=h3;obtain⟨q,h6,h7⟩:=hh.en i _ hi;obtain⟨⟨a',c',h8,rfl⟩,h9⟩:=h7;subst hn;rw[h3]at h8;cases h8;refine(cV.Dy (EM ho ht hte (l9 (L:=L) (by simp[ho,Op.operands,Call.operands]) h2) h6 (hx.VK hs hh (by simp[ho,Op.operands,Call.operands])) h1 hk hby hb)).mono ?_;rintro r η' ⟨y,rfl,a',c',h0,rfl,rfl⟩;have hl:L.le (L.aY i (rows++rows2).length (a',c')):=aC.iQ λy hy=>by
  by_cases hz:rows2=[]
  ·subst hz;simp only[gw]at hy;rw[h3]at hy;cases hy;obtain⟨rfl,rfl⟩:=h0 rfl;rfl
  ·have:rows.length<(rows++rows2).length:=by
    have:=D7.2 hz;simp;omega
   rw[h9 _ this]at hy;cases hy
 have hbn:(L.aY i (rows++rows2).length (a',c')).s i (rows++rows2).length=some (a',c'):=by simp[aC.aY]
 refine⟨_,.ret (.os i (rows++rows2).length),O.set i (.row e k (rows++rows2)),hl,⟨_,rfl,by simp only[aE];exact⟨_,_,_,hbn,rfl⟩⟩,hh.set hl (λj hj=>by funext m;simp[aC.aY,hj]) (λ_ _=>rfl) (hh.lt hi) ⟨⟨a',c',hbn,rfl⟩,λm hm=>?_⟩,rfl,rfl⟩;have hne:m≠(rows++rows2).length:=by omega
 simp only[aC.aY,hne,and_false,if_false];exact h9 m (by simp at hm;omega)
theorem bH.zO {i n:Nat} {s' p:Operand} {t u:TypeId} {e k sz by' sz' by'' szu byu:Nat} {z z' zu:List Value} {td':TD} {rows:List (List AV)} {b:ByteArray} (ho:o.op= .call {callee:= .builtin .append,args:= #[s',p],argTypes:= #[t,u]})
  (hb:(rows++dj b).length*by''<=140737488355328) (hs':aW Z s'=some (.os i n)) (hi:O.e.get i=some (.row e k rows)) (hn:n=rows.length) (hx:aW Z p=some (.d (.v (.string b)))) (ht:aX E.T t=some ⟨.slice e k,sz,by',z⟩) (hu:aX E.T u=some ⟨.str,szu,byu,zu⟩) (hte:aX E.T e=some ⟨td',sz',by'',z'⟩)
  (hk:Nat.beq k 1=true) (hby:Nat.beq by'' 1=true):bH E N o Z O (λr η'=>r= .ret (.os i (rows++dj b).length)/\η'=O.set i (.row e k (rows++dj b))):=λL s ηB hs hh=>by
 obtain⟨y,h2,h3⟩:=cf hs hs';simp only[aE]at h3;obtain⟨a,c,t',h3,rfl⟩:=h3;obtain⟨y2,g2,g3⟩:=cf hs hx;simp only[aE]at g3;subst g3;obtain⟨q,h6,h7⟩:=hh.en i _ hi;obtain⟨⟨a',c',h8,rfl⟩,h9⟩:=h7;subst hn;rw[h3]at h8;cases h8;refine(cV.Dy (EA ho ht hu hte (l9 (L:=L) (by simp[ho,Op.operands,Call.operands]) h2) h6 (l9 (L:=L) (by simp[ho,Op.operands,Call.operands]) g2) hk hby hb)).mono ?_;rintro r η' ⟨y,rfl,a',c',h0,rfl,rfl⟩;have hl:L.le (L.aY i (rows++dj b).length (a',c')):=aC.iQ λy hy=>by
  by_cases hz:dj b=[]
  ·rw[hz]at hy;simp only[gw]at hy;rw[h3]at hy;cases hy;obtain⟨rfl,rfl⟩:=h0 hz;rfl
  ·have:rows.length<(rows++dj b).length:=by
    have:=D7.2 hz;simp;omega
   rw[h9 _ this]at hy;cases hy
 have hbn:(L.aY i (rows++dj b).length (a',c')).s i (rows++dj b).length=some (a',c'):=by simp[aC.aY]
 refine⟨_,.ret (.os i (rows++dj b).length),O.set i (.row e k (rows++dj b)),hl,⟨_,rfl,by simp only[aE];exact⟨_,_,_,hbn,rfl⟩⟩,hh.set hl (λj hj=>by funext m;simp[aC.aY,hj]) (λ_ _=>rfl) (hh.lt hi) ⟨⟨a',c',hbn,rfl⟩,λm hm=>?_⟩,rfl,rfl⟩;have hne:m≠(rows++dj b).length:=by omega
 simp only[aC.aY,hne,and_false,if_false];exact h9 m (by simp at hm;omega)
theorem bH.call {f:Operand} {args:List Operand} {g:FuncId} {cs:List CV} {Q':DR->Hp->Prop} {tys:Array TypeId} (ho:o.op= .call {callee:= .value f,args:=args.toArray,argTypes:=tys})
  (h:dR E g cs O Q') (hc:cT Z f args=some (g,cs)):bH E N o Z O Q':=λL s ηB hs hh=>by
 obtain⟨ys,h1,h2⟩:=lz hs hc;have h3:=h L ys ηB h2 hh;refine(cV.Ix ho h1 h3.1 λF w vs hH hr=>h3.2 F w vs hH hr).mono ?_;rintro r η' ⟨L',d,O1,g1,g2,g3,g4⟩;exact⟨L',d,O1,hh.e7 g1,g2,g3,g4⟩
theorem bH.pure {f:Operand} {args:List Operand} {g:FuncId} {cs:List CV} {xs' xs:List AV} {ns:List (Nat×Nat)} {ms:List (Nat×bg)} {res:AR} {tys:Array TypeId} (fl:Nat) (ho:o.op= .call {callee:= .value f,args:=args.toArray,argTypes:=tys})
  (h:Pure E.toCx g xs res) (hc:cT Z f args=some (g,cs)) (hf:bY O.e fl cs=some (xs',ns,ms)) (hn:eqs ns) (hi:bP xs' xs) (hl:ms=[]\/(match res with| .ret x=>cR x| .aO x=>cR x)=true):
  bH E N o Z O (λr η'=>(match res with| .ret x=>r= .ret (.d x)| .aO x=>r= .aO (.d x))/\η'=O):=λL s ηB hs hh=>by
 obtain⟨ys,h1,h2⟩:=lz hs hc;refine cV.Ix ho h1 h.1 λF w vs hH hr=>(yn fl h hf hn hi hl hh hH h2 hr).mono ?_;rintro e w' ⟨hv,hcls⟩;refine⟨res,ηB,?_,hv,hH.later hcls.2.2.2,hcls.ext⟩;cases res with
 |ret x=>exact⟨L,.ret (.d x),O,.refl L,⟨x,rfl,rfl⟩,hh,rfl,rfl⟩
 |aO x=>exact⟨L,.aO (.d x),O,.refl L,⟨x,rfl,rfl⟩,hh,rfl,rfl⟩
theorem bH.panic {p:Operand} (ho:o.op= .panic p) {t:TypeId} {y:CV} (hp:aW Z p=some (.bu t y)):bH E N o Z O (λr η'=>r= .aO (.bu t y)/\η'=O):=λL s ηB hs hh=>by
 obtain⟨z,h1,h2⟩:=cf hs hp;have h3:=h2;simp only[aE]at h3;obtain⟨u,rfl,_⟩:=h3;refine(cV.panic ho h1).mono ?_;rintro r η' ⟨rfl,rfl⟩;exact⟨L,.aO (.bu t y),O,.refl L,⟨_,rfl,h2⟩,hh,rfl,rfl⟩
theorem bH.Ai {p:Operand} (ho:o.op= .panic p) {t:TypeId} {y:AV} (hp:aW Z p=some (.d (.bu t y))):bH E N o Z O (λr η'=>r= .aO (.d (.bu t y))/\η'=O):=λL s ηB hs hh=>by
 obtain⟨z,h1,h2⟩:=cf hs hp;simp only[aE]at h2;subst h2;refine(cV.panic ho h1).mono ?_;rintro r η' ⟨rfl,rfl⟩;exact⟨L,.aO (.d (.bu t y)),O,.refl L,⟨_,rfl,rfl⟩,hh,rfl,rfl⟩
theorem cV.i' {C:Cx} {s s1:Sl} {ηB OB1:List ah} {R:AR->List ah->Prop} (hw:∀F w a,bz C.G w F ηB->jw w (Al F ηB) N a o s->bz C.G w F OB1/\jw w (Al F OB1) N a o s1/\∀b∈ids OB1,b∈ids ηB) (h:cV C N o s1 OB1 R):cV C N o s ηB R:=
 λF w a hN hd hH hs K Q k1 k2=>by
  obtain⟨h1,h2,h3⟩:=hw F w a hH hs;have hx:Ext ηB w OB1 w:=⟨rfl,rfl,rfl,bA _,λ_ _ _=>rfl,λb hb=> .inl (h3 b hb),.of (bA _)⟩;exact h F w a hN hd h1 h2 K Q (λv w' x η' hR hv hH' hext=>k1 v w' x η' hR hv hH' (hx.trans hext)) (λv w' x η' hR hv hH' hext=>k2 v w' x η' hR hv hH' (hx.trans hext))
theorem bH.gA (t e k:Nat) (ht:Z.get t=some (.d (.v (.slice none 0 0)))) (h:bH E N o (Tr.put 24 Z t (some (.os O.n 0))) (O.push (.row e k [])) R):bH E N o Z O R:=λL s ηB hs hh=>by
 obtain⟨y,h1,h2⟩:=hs t _ ht;simp only[aE]at h2;subst h2;have hdom:=hh.eY O.n (bA _);have hl:L.le (L.aY O.n 0 (none,0)):=aC.iQ λy hy=>by rw[hdom.2]at hy;cases hy
 have hbn:(L.aY O.n 0 (none,0)).s O.n 0=some (none,0):=by simp[aC.aY]
 have hs1:SS (L.aY O.n 0 (none,0)) (Tr.put 24 Z t (some (.os O.n 0))) (eR s t (.os ηB.length none 0 0)):=λu z hz=>by
  rcases Tr.dU 24 Z t u _ z hz with⟨rfl,h3⟩|⟨hne,h3⟩
  ·cases h3;exact⟨.os ηB.length none 0 0,by simp[eR],by simp only[aE];exact⟨_,_,ηB.length,hbn,rfl⟩⟩
  ·obtain⟨q,h4,h5⟩:=hs u z h3;exact⟨q,by simp[eR,hne,h4],h5.mono hl⟩
 have hh1:HS (L.aY O.n 0 (none,0)) (O.push (.row e k [])) (ηB++[.row (.slice none 0 0) e k []]):=by
  refine hh.push hl (λi hi=>by funext m;simp[aC.aY,hi]) (λ_ _=>rfl) ⟨⟨none,0,by simpa using hbn,by simp⟩,λm hm=>?_⟩;have:m≠0:=by simp at hm;omega
  simp only[aC.aY,this,and_false,if_false];exact hdom.2 m
 refine cV.i' (λF w a hH hopd=>?_) ((h _ _ _ hs1 hh1).mono ?_)
 ·have hkeep:cK w (Al F ηB) w (Al F (ηB++[ah.row (.slice none 0 0) e k []])):=⟨bA _,λb _ ha=>⟨by simpa[Al,cg,cE,ah.ids,Value.ownBlock,ids]using ha,rfl⟩⟩;refine⟨hH.push (bA _) (λ_ _=>rfl) (by simp[ah.ids,Value.ownBlock]) (by simp[ah.ids,Value.ownBlock]) ⟨[],by simp[br],by simp,.inl ⟨rfl,rfl⟩⟩,λu hu q hq=>?_,λb hb=>by simpa[cg,cE,ah.ids,Value.ownBlock,ids]using hb⟩;unfold eR at hq;split at hq
  ·rename_i hut;subst hut;simp only[aA]at hq;subst hq;obtain⟨g1,g2⟩:=hopd u hu _ h1;simp only[Rel]at g2⊢;exact⟨g1,g2⟩
  ·obtain⟨g1,g2⟩:=hopd u hu q hq;exact⟨g1,g2.bm hkeep⟩
 ·rintro r η' ⟨L',d,O1,g1,g2,g3,g4⟩;exact⟨L',d,O1,hl.trans g1,g2,g3,g4⟩
theorem bH.cH {t:Nat} {z:AV} {ns:List (Nat×Nat)} {ms:List (Nat×bg)} (f:Nat) (hx:Z.get t=some x) (hf:bY O.e f [x]=some ([z],ns,ms)) (hn:eqs ns) (ht:t∈tmpsOf o) (h:bH E N o (Tr.put 24 Z t (some (.d z))) (gz ms O) R):bH E N o Z O R:=λL s ηB hs hh=>by
 obtain⟨y,h1,h2⟩:=hs t x hx;have hs1:SS L (Tr.put 24 Z t (some (.d z))) (eR s t z):=λu q hq=>by
  rcases Tr.dU 24 Z t u _ q hq with⟨rfl,h3⟩|⟨hne,h3⟩
  ·cases h3;exact⟨z,by simp[eR],rfl⟩
  ·obtain⟨q',h4,h5⟩:=hs u q h3;exact⟨q',by simp[eR,hne,h4],h5⟩
 by_cases hcan:∃F w v,bz E.G w F ηB/\Rel w (Al F ηB) y v
 ·obtain⟨F0,w0,v0,hH0,hv0⟩:=hcan;obtain⟨_,h40⟩:=fX hh hH0 (ms.map (·.1)) f hf hn (λp hp=>dt.2 ⟨p,hp,rfl⟩) (aQ.one h2) (aF.one hv0);have hHS:HS L (gz ms O) (ej L ms ηB):=uR (w:=w0) (F:=ek F0 ηB (ms.map (·.1))) hh λp hp=>⟨(h40 p hp).lt hh,h40 p hp⟩;refine cV.i' (λF w a hH hopd=>?_) (h L _ _ hs1 hHS);have hv:=(hopd t ht y h1).2;obtain⟨h3,h4⟩:=fX hh hH (ms.map (·.1)) f hf hn (λp hp=>dt.2 ⟨p,hp,rfl⟩) (aQ.one h2) (aF.one hv);have hsub:∀b∈ids (ej L ms ηB),b∈ids ηB:=λb hb=>(rE ms ηB).subset hb;refine⟨u5 hH h4,λu hu q hq=>?_,hsub⟩;unfold eR at hq;split at hq
  ·rename_i hut;subst hut;simp only[aA]at hq;subst hq;exact⟨(hopd u hu y h1).1,h3.vP.bm o6⟩
  ·obtain⟨g1,g2⟩:=hopd u hu q hq;exact⟨g1,g2.bm (cK.sub hsub)⟩
 ·intro F w a hN hd hH hopd;exact absurd ⟨F,w,_,hH,(hopd t ht y h1).2⟩ hcan
mutual
theorem aE.same {L:aC} {w:World} {A:Nat->Prop}:∀{x:CV} {y y':AV} {v:Value},aE L x y->aE L x y'->Rel w A y v->Rel w A y' v
 | .d x,_,_,_,h,g,hr=>by simp only[aE]at h g;subst h;subst g;exact hr
 | .agg xs,_,_,_,h,g,hr=>by
  simp only[aE]at h g;obtain⟨ys,rfl,h⟩:=h;obtain⟨zs,rfl,g⟩:=g;simp only[Rel]at hr⊢;obtain⟨vs,rfl,hr⟩:=hr;exact⟨vs,rfl,aQ.same h g hr⟩
 | .bK xs,_,_,_,h,g,hr=>by
  simp only[aE]at h g;obtain⟨ys,rfl,h⟩:=h;obtain⟨zs,rfl,g⟩:=g;simp only[Rel]at hr⊢;obtain⟨vs,rfl,hr⟩:=hr;exact⟨vs,rfl,aQ.same h g hr⟩
 | .own t o,_,_,_,h,g,hr=>by
  simp only[aE]at h g;obtain⟨b,t1,h,rfl⟩:=h;obtain⟨b',t2,g,rfl⟩:=g;rw[h]at g;cases g;simp only[Rel]at hr⊢;exact hr
 | .os t n,_,_,_,h,g,hr=>by
  simp only[aE]at h g;obtain⟨a,c,t1,h,rfl⟩:=h;obtain⟨a',c',t2,g,rfl⟩:=g;rw[h]at g;cases g;simp only[Rel]at hr⊢;exact hr
 | .oe t n o,_,_,_,h,g,hr=>by
  simp only[aE]at h g;obtain⟨a,c,t1,h,rfl⟩:=h;obtain⟨a',c',t2,g,rfl⟩:=g;rw[h]at g;cases g;simp only[Rel]at hr⊢;exact hr
 | .om t,_,_,_,h,g,hr=>by
  simp only[aE]at h g;obtain⟨b,t1,h,rfl⟩:=h;obtain⟨b',t2,g,rfl⟩:=g;rw[h]at g;cases g;simp only[Rel]at hr⊢;exact hr
 | .fn f fs cs,_,_,_,h,g,hr=>by
  simp only[aE]at h g;obtain⟨us,vs,rfl,h1,h2⟩:=h;obtain⟨us',vs',rfl,g1,g2⟩:=g;simp only[Rel]at hr⊢;obtain⟨ps,qs,e,hr1,hr2⟩:=hr;exact⟨ps,qs,e,aQ.same h1 g1 hr1,aQ.same h2 g2 hr2⟩
 | .bu t x,_,_,_,h,g,hr=>by
  simp only[aE]at h g;obtain⟨u,rfl,h⟩:=h;obtain⟨u',rfl,g⟩:=g;simp only[Rel]at hr⊢;obtain⟨q,e,hr⟩:=hr;exact⟨q,e,aE.same h g hr⟩
theorem aQ.same {L:aC} {w:World} {A:Nat->Prop}:∀{x:List CV} {y y':List AV} {v:List Value},aQ L x y->aQ L x y'->aF w A y v->aF w A y' v
 |[],_,_,_,h,g,hr=>by simp only[aQ]at h g;subst h;subst g;exact hr
 |_::_,_,_,_,h,g,hr=>by
  simp only[aQ]at h g;obtain⟨y,r,rfl,h1,h2⟩:=h;obtain⟨y',r',rfl,g1,g2⟩:=g;simp only[aF]at hr⊢;obtain⟨v,q,e,hr1,hr2⟩:=hr;exact⟨v,q,e,aE.same h1 g1 hr1,aQ.same h2 g2 hr2⟩
end
theorem bM.same {L:aC} {C:Cx} {s:Sl} {ηB:List ah} {y y':AV} (h:aE L x y) (g:aE L x y') (hp:bM C N o s ηB y):bM C N o s ηB y':=λF w a h1 h2 h3 h4 K Q k=>hp F w a h1 h2 h3 h4 K Q λv w' hv hc=>k v w' (aE.same h g hv) hc
