/- The program logic, twelfth part: the tail of an open region once more: operations that act come in a fixed order; values may float about them, if they are the same behind them. -/
import Derived.Test.YtnocmolegijmkaaGreatKB10
set_option linter.all false
noncomputable section
namespace Go.Bw
open Go
def cL (C:Cx) (N:Nat) (o:Oper) (s:Sl) (L:List aj) (R:AR->List aj->Prop):Prop:=
 ∀F w (a:Act),a.tmps.size=N->a.defers=[]->bh C.G w F L->kg w (Al F L) N a o s->∀(K:Act->World->Prop) (Q:Exit->Act->World->Prop),
  (∀v w' x L',R (.ret x) L'->Rel w' (Al F L') x v->bh C.G w' F L'->Ext L w L' w'->K (a.put o.dst v) w')->
  (∀v w' x L',R (.aJ x) L'->Rel w' (Al F L') x v->bh C.G w' F L'->Ext L w L' w'->Q (.panic [{v,recovered:=false}]) a w')->o.wp C.P a w K Q
section
variable {C:Cx} {N:Nat} {o:Oper} {s s':Sl} {L:List aj} {x:AV} {R R':AR->List aj->Prop}
theorem cL.congr (h:cL C N o s L R) (he:∀t∈tmpsOf o,s' t=s t):cL C N o s' L R:=λF w a h1 h2 h3 h4=>h F w a h1 h2 h3 (h4.congr he)
theorem cL.mono (h:cL C N o s L R) (hr:∀r L',R r L'->R' r L'):cL C N o s L R':=λF w a h1 h2 h3 h4 K Q k1 k2=>
 h F w a h1 h2 h3 h4 K Q (λv w' x L' hR=>k1 v w' x L' (hr _ _ hR)) (λv w' x L' hR=>k2 v w' x L' (hr _ _ hR))
theorem cL.nY (h:bB C N o s L x):cL C N o s L (λr L'=>r= .ret x/\L'=L):=λF w a h1 h2 h3 h4 K Q k1 _=>
 h F w a h1 h2 h3 h4 K Q λv w' hv hc=>k1 v w' x L ⟨rfl,rfl⟩ hv (h3.later hc.2.2.2) hc.ext
theorem cL.rW {cells:List AV} {d:Nat} (hd:o.dst=some d) (h:eR C N o s L cells):cL C N o s L (λr L'=>∃b,r= .ret (.own L.length b 0)/\L'=L++[.box b cells]):=λF w a h1 h2 h3 h4 K Q k1 _=>
 h F w a h1 h2 h3 h4 K Q λvs e hv=>by
  have hext:=mi w (.cells vs.toArray e) L (.box w.heap.size cells) (by simp[aj.ids]);have hh:bh C.G (w.alloc (.cells vs.toArray e)) F (L++[.box w.heap.size cells]):=by
   refine h3.push (by simp) (λb hb=>jZ w _ b hb) (by simp[aj.ids]) (by simp[aj.ids]) ?_;exact⟨e,vs,kJ w _,hv.aX hext.keeps⟩
  exact k1 _ _ _ _ ⟨_,rfl,rfl⟩ (by simp only[Rel]) hh hext
theorem cL.EJ {R0:AV->List aj->Prop} (h:u1 C N o (cV s (tmpsOf o)) L R0):cL C N o s L (λr L'=>∃y,r= .ret y/\R0 y L'):=λF w a hN hd hh hs K Q k1 _=>by
 have hst:St C.G N w F a (cV s (tmpsOf o)) L:=⟨⟨hN,λt y hy=>by obtain⟨h1,h2⟩:=jz hy;exact hs t h1 y h2⟩,hh,hd⟩;obtain⟨v,w',y,L',hR,h1,h2,h3,h4⟩:=h F a w hst;unfold Oper.wp;rw[h1,Oper.upon_value];exact k1 v w' y L' ⟨y,rfl,hR⟩ h2 h3 h4
theorem cL.L1 {L':List aj} (h:zc C N o (cV s (tmpsOf o)) L L'):cL C N o s L (λr η1=>r= .ret (.v undef)/\η1=L'):=λF w a hN hd hh hs K Q k1 _=>by
 have hst:St C.G N w F a (cV s (tmpsOf o)) L:=⟨⟨hN,λt y hy=>by obtain⟨h1,h2⟩:=jz hy;exact hs t h1 y h2⟩,hh,hd⟩;obtain⟨w',h1,h2,h3⟩:=h F a w hst;unfold Oper.wp;rw[h1,Oper.upon_skip];exact k1 undef w' _ _ ⟨rfl,rfl⟩ (by simp only[Rel]) h2 h3
theorem cL.Jj {f:Operand} {args:List Operand} {g:FuncId} {ys:List AV} {tys:Array TypeId} (ho:o.op= .call {callee:= .value f,args:=args.toArray,argTypes:=tys}) (hc:callee s f args=some (g,ys)) (hb:A7 C.P g)
  (h:∀F w vs,bh C.G w F L->aG w (Al F L) ys vs->Calls C.P g vs.toArray w λe w'=>∃r L',R r L'/\AR.rel w' (Al F L') r e/\bh C.G w' F L'/\Ext L w L' w'):cL C N o s L R:=λF w a hN _ hh hs K Q k1 k2=>by
 have hmem:∀p,p=f\/p∈args->p∈o.op.operands.toList:=by
  rintro p hp;rw[ho];rcases hp with rfl|hp
  ·simp[Op.operands,Call.operands]
  ·simp[Op.operands,Call.operands,hp]
 have hc':callee (look (cV s (tmpsOf o))) f args=some (g,ys):=by
  unfold callee at hc⊢;rw[eV (hmem f (.inl rfl)),qk λp hp=>eV (hmem p (.inr hp))];exact hc
 have hsl:eZ w (Al F L) N a (look (cV s (tmpsOf o))):=⟨hN,λt y hy=>by obtain⟨h1,h2⟩:=jz hy;exact hs t h1 y h2⟩;obtain⟨vs,h1,h2⟩:=sG (P:=C.P) hsl hc' (tys:=tys) (dst:=o.dst) (ty:=o.type) (pos:=o.pos) (after:=o.after) (gd:=o.guard) hb;have ho':o=⟨o.dst,.call {callee:= .value f,args:=args.toArray,argTypes:=tys},o.type,o.pos,o.after,o.guard⟩:=by rw[<-ho]
 rw[<-ho']at h2;unfold Oper.wp;rw[h2 w,Oper.upon_enter];refine(h F w vs hh h1).mono ?_;rintro e w' ⟨r,L',hR,hv,hH,hx⟩;cases r with
 |ret x=>obtain⟨v,rfl,hv⟩:=hv;exact k1 v w' x L' hR hv hH hx
 |aJ x=>obtain⟨v,rfl,hv⟩:=hv;exact k2 v w' x L' hR hv hH hx
theorem cL.panic {p:Operand} {t:TypeId} {y:AV} (ho:o.op= .panic p) (hp:ev s p=some (.bd t y)):cL C N o s L (λr L'=>r= .aJ (.bd t y)/\L'=L):=λF w a hN _ hh hs K Q _ k2=>by
 have h1:=L3 hN hs (by simp[ho,Op.operands]) hp;have h0:=h1;simp only[Rel]at h0;obtain⟨u,h0,_⟩:=h0;have hrun:(execOp a.eval o).run C.P w= .halt (.panic (.iface t u)) w:=by simp[execOp,ho,Instr.panic,h0]
 unfold Oper.wp;rw[hrun];rw[h0]at h1;exact k2 _ _ _ _ ⟨rfl,rfl⟩ h1 hh (Ext.refl L w)
end
def dP (ops:Array Oper) (i j:Nat):Bool:=match ops[j]? with
 |some o=>o.after.toList.any λe=>Region.binds .any e&&e.on==i
 |none=>false
def jk (C:Cx) (N:Nat) (ops:Array Oper) (o:Oper) (s:Sl) (L:List aj) (y:AV):Prop:=(jB ops o s=some true/\bB C N o s L y)\/(jB ops o s=some false/\y= .v undef)
abbrev fq:=List (Nat×Oper×AV)
def cz (ops:Array Oper) (j:Nat) (pend:fq):fq:=pend.filter λp=>!dP ops p.1 j
def kf (C:Cx) (N:Nat) (ops:Array Oper) (pend:fq) (s:Sl) (L:List aj):Prop:=∀p∈pend,jk C N ops p.2.1 s L p.2.2
abbrev bp:=List (Nat×(Nat×List AV))
def bQ (ops:Array Oper) (j:Nat) (A:bp):bp:=A.filter λp=>dP ops p.1 j
def b4 (ops:Array Oper) (j:Nat) (A:bp):bp:=A.filter λp=>!dP ops p.1 j
def lb (A:bp):Nu:=A.map (·.2)
def fw (n:Nat) (zs:List ((Nat×List AV)×Nat)) (s:Sl):Sl:=λt=>match look (fp n zs) t with
 |some x=>some x
 |none=>s t
def fu (C:Cx) (N:Nat) (ops:Array Oper) (o:Oper) (s:Sl) (L:List aj) (nx:Sl->List aj->Prop) (Qp:AV->List aj->Prop):Prop:=
 b8 N o.dst=true/\((jB ops o s=some true/\∃R,cL C N o s L R/\(∀x L',R (.ret x) L'->nx (aQ s o.dst (some x)) L')/\∀x L',R (.aJ x) L'->Qp x L')\/
  (jB ops o s=some false/\nx (aQ s o.dst (some (.v undef))) L))
def gh (C:Cx) (N:Nat) (ops:Array Oper) (Qn:Sl->List aj->Prop) (Qp:AV->List aj->Prop):Nat->bp->Array Bool->fq->Sl->List aj->Prop
 |0,_,listed,pend,s,L=>kf C N ops pend s L/\Region.ready .any ops listed=[]/\Qn s L
 |n+1,A,listed,pend,s,L=>kf C N ops pend s L/\(Region.ready .any ops listed=[]->Qn s L)/\∀j∈Region.ready .any ops listed,∃o,ops[j]? =some o/\
   gB (lb (bQ ops j A)) λzs=>fu C N ops o (fw L.length zs s) (L++cA zs) (gh C N ops Qn Qp n (b4 ops j A) (listed.setIfInBounds j true) (cz ops j pend)) Qp
section
variable {C:Cx} {N:Nat} {ops:Array Oper} {Qn:Sl->List aj->Prop} {Qp:AV->List aj->Prop}
theorem jk.congr {o:Oper} {s s':Sl} {L:List aj} {y:AV} (h:jk C N ops o s L y) (he:∀t∈o.looksAt ops,s' t=s t):jk C N ops o s' L y:=
 h.imp (λ⟨h1,h2⟩=>⟨by rw[sy he];exact h1,h2.congr λt ht=>he t (Ao ht)⟩) λ⟨h1,h2⟩=>⟨by rw[sy he];exact h1,h2⟩
theorem fu.mono {o:Oper} {s:Sl} {L:List aj} {nx nx':Sl->List aj->Prop} (h:fu C N ops o s L nx Qp) (hn:∀s L,nx s L->nx' s L):fu C N ops o s L nx' Qp:=
 ⟨h.1,h.2.imp (λ⟨h1,R,h2,h3,h4⟩=>⟨h1,R,h2,λx L' hR=>hn _ _ (h3 x L' hR),h4⟩) λ⟨h1,h2⟩=>⟨h1,hn _ _ h2⟩⟩
theorem sF:∀{W:Nu} {P:List ((Nat×List AV)×Nat)->Prop},(∀zs,zs.map (·.1)=W->P zs)->gB W P
 |[],_,h=>h [] rfl
 |p::W,P,h=>λb=>sF λzs hz=>h ((p,b)::zs) (by simp[hz])
theorem wo {W:Nu} {P P':List ((Nat×List AV)×Nat)->Prop} (h:gB W P) (hi:∀zs,zs.map (·.1)=W->P zs->P' zs):gB W P':=sF λzs hz=>hi zs hz (v8 h zs hz)
theorem QD (n:Nat) (s:Sl):fw n [] s=s:=rfl
theorem Oi:cA []=[]:=rfl
theorem sO {A:bp} {i:Nat} (hm:bQ ops i A=[]) {n:Nat} {s:Sl} {L:List aj} {P:Sl->List aj->Prop} (h:P s L):gB (lb (bQ ops i A)) λzs=>P (fw n zs s) (L++cA zs):=by
 rw[hm];show P (fw n [] s) (L++cA []);rw[QD,Oi,iM];exact h
theorem sS {A:bp} {i:Nat} (hm:bQ ops i A=[]):b4 ops i A=A:=by
 simp only[bQ,Na,Nb]at hm;simp only[b4,List.filter_eq_self];intro p hp;rw[hm p hp];rfl
theorem QE {A:bp} {i j:Nat} (hm:bQ ops i A=[]):bQ ops i (b4 ops j A)=[]:=by
 simp only[bQ,b4,Na]at hm⊢;intro p hp;exact hm p (ib.1 hp).1
theorem Is:∀{n:Nat} {A:bp} {listed:Array Bool} {pend pend':fq} {s:Sl} {L:List aj},(∀p∈pend',p∈pend)->gh C N ops Qn Qp n A listed pend s L->gh C N ops Qn Qp n A listed pend' s L
 |0,_,_,_,_,_,_,hs,h=>⟨λp hp=>h.1 p (hs p hp),h.2⟩
 |n+1,_,_,_,_,_,_,hs,h=>⟨λp hp=>h.1 p (hs p hp),h.2.1,λj hj=>by
  obtain⟨o,ho,hst⟩:=h.2.2 j hj;refine⟨o,ho,wo hst λzs _ hst=>hst.mono λs L=>Is λp hp=>?_⟩;simp only[cz,ib]at hp⊢;exact⟨hs p hp.1,hp.2⟩⟩
theorem PJ {n:Nat} {A:bp} {listed:Array Bool} {pend:fq} {s:Sl} {L:List aj} (h:gh C N ops Qn Qp n A listed pend s L):kf C N ops pend s L:=by
 cases n with
 |zero=>exact h.1
 |succ n=>exact h.1
theorem jk.step {o:Oper} {s:Sl} {L:List aj} {y:AV} (hd:b8 N o.dst=true) (h:jk C N ops o s L y) {nx:Sl->List aj->Prop} (k:nx (aQ s o.dst (some y)) L):fu C N ops o s L nx Qp:=by
 refine⟨hd,h.imp (λ⟨h1,h2⟩=>⟨h1,_,cL.nY h2,?_,λx L' h=>by cases h.1⟩) λ⟨h1,h2⟩=>⟨h1,by subst h2;exact k⟩⟩;rintro x L' ⟨h1,rfl⟩;cases h1;exact k
theorem QF {n:Nat} {zs:List ((Nat×List AV)×Nat)} {s:Sl} {dst:Option Nat} {y:Option AV} (hd:∀z∈zs,dst≠some z.1.1):fw n zs (aQ s dst y)=aQ (fw n zs s) dst y:=by
 funext t;cases dst with
 |none=>rfl
 |some d=>
  simp only[fw,aQ];by_cases ht:t=d
  ·subst ht;simp only[if_true];cases hl:look (fp n zs) t with
   |none=>rfl
   |some x=>
    have:look (fp n zs++[]) t=some x:=by simpa using hl
    rcases ql this with⟨z,hz,k,h1,_⟩|h
    ·exact absurd (by rw[h1]) (hd z hz)
    ·simp[look]at h
  ·simp only[ht,if_false]
def o9 (stable:Bool) (p:Nat×Oper×AV) (pend:fq):fq:=match stable with
 |true=>pend
 |false=>p::pend
theorem G6 {i:Nat} {oi:Oper} {y:AV} (stable:Bool) (hi:ops[i]? =some oi) (hown:∀d,oi.dst=some d->d∉oi.looksAt ops) (hdi:b8 N oi.dst=true):
  ∀(n:Nat) (A:bp) (listed:Array Bool) (pend:fq) (s:Sl) (L:List aj),
   (∀j oj,ops[j]? =some oj->j≠i->listed.getD j true=false->(∀e∈oj.after,Region.binds .any e=true->e.on≠i)->oi.apart ops oj=true)->
   (∀p∈pend,∀d,oi.dst=some d->d∉p.2.1.looksAt ops)->kf C N ops pend s L->bQ ops i A=[]->(∀p∈A,oi.dst≠some p.2.1/\p.2.1∉oi.looksAt ops)->
   i∈Region.ready .any ops listed->jk C N ops oi s L y->(stable=true->∀L',jk C N ops oi s L' y)->
   gh C N ops Qn Qp n A (listed.setIfInBounds i true) (o9 stable (i,oi,y) pend) (aQ s oi.dst (some y)) L->gh C N ops Qn Qp (n+1) A listed pend s L:=by
 intro n;have same:∀(n:Nat) (A:bp) (listed:Array Bool) (pend:fq) (s:Sl) (L:List aj),bQ ops i A=[]->jk C N ops oi s L y->gh C N ops Qn Qp n A (listed.setIfInBounds i true) (o9 stable (i,oi,y) pend) (aQ s oi.dst (some y)) L->
   gB (lb (bQ ops i A)) λzs=>fu C N ops oi (fw L.length zs s) (L++cA zs) (gh C N ops Qn Qp n (b4 ops i A) (listed.setIfInBounds i true) (cz ops i pend)) Qp:=by
  intro n A listed pend s L hm hv H;refine sO (P:=λs L=>fu C N ops oi s L (gh C N ops Qn Qp n (b4 ops i A) (listed.setIfInBounds i true) (cz ops i pend)) Qp) hm ?_;rw[sS hm];refine hv.step hdi (Is (λp hp=>?_) H);simp only[cz,ib]at hp;cases stable with
  |true=>exact hp.1
  |false=>exact vC _ hp.1
 induction n with
 |zero=>
  intro A listed pend s L hfree hpd hpo hm hAd hr hv hstb H;refine⟨hpo,λh=>(by rw[h]at hr;cases hr),λj hj=>?_⟩;by_cases hji:j=i
  ·subst hji;exact⟨oi,hi,same 0 A listed pend s L hm hv H⟩
  ·exfalso;have:=ready_mono hj hji;rw[H.2.1]at this;cases this
 |succ n ih=>
  intro A listed pend s L hfree hpd hpo hm hAd hr hv hstb H;refine⟨hpo,λh=>(by rw[h]at hr;cases hr),λj hj=>?_⟩;by_cases hji:j=i
  ·subst hji;exact⟨oi,hi,same (n+1) A listed pend s L hm hv H⟩
  ·obtain⟨oj,hoj,hst⟩:=H.2.2 j (ready_mono hj hji);obtain⟨hjun,oj',hoj',hall⟩:=mem_ready.1 hj;rw[hoj]at hoj';cases hoj';have hnot:∀e∈oj.after,Region.binds .any e=true->e.on≠i:=λe he hb heq=>by
    have h1:=hall e he hb;have h0:=(mem_ready.1 hr).1;rw[heq]at h1;rcases lr i listed.size with h'|h'
    ·simp[h']at h0 h1;rw[h0]at h1;cases h1
    ·simp[sv h']at h1
   have hb1:dP ops i j=false:=by
    unfold dP;rw[hoj];simp only[Ag,Nb,Bool.and_eq_false_iff];intro q hq;cases hb:Region.binds .any q with
    |false=>exact .inl rfl
    |true=>exact .inr (by simpa using hnot _ (by simpa using hq) hb)
   obtain⟨a1,a2,a3⟩:=Oper.apart_spec (hfree j oj hoj hji hjun hnot);refine⟨oj,hoj,wo hst λzs hz hst=>?_⟩;have hzA:∀z∈zs,∃p∈A,p.2.1=z.1.1:=λz hzm=>by
    have:z.1∈lb (bQ ops j A):=by rw[<-hz];exact dk.2 ⟨z,hzm,rfl⟩
    simp only[lb,bQ,dk,ib]at this;obtain⟨p,hp,he⟩:=this;exact⟨p,hp.1,by rw[he]⟩
   have hzd:∀z∈zs,oi.dst≠some z.1.1:=λz hzm=>by
    obtain⟨p,hp,he⟩:=hzA z hzm;rw[<-he];exact(hAd p hp).1
   rw[QF hzd]at hst;have hui:∀t∈oi.looksAt ops,fw L.length zs s t=s t:=λt ht=>by
    simp only[fw];cases hl:look (fp L.length zs) t with
    |none=>rfl
    |some x=>
     have:look (fp L.length zs++[]) t=some x:=by simpa using hl
     rcases ql this with⟨z,hzm,k,h1,_⟩|h
     ·obtain⟨p,hp,he⟩:=hzA z hzm;exact absurd (by rw[he,<-h1];exact ht) (hAd p hp).2
     ·simp[look]at h
   have hvst:stable=true->∀L',jk C N ops oi (fw L.length zs s) L' y:=λhs L'=>(hstb hs L').congr hui;generalize fw L.length zs s=s1 at hst hvst⊢;generalize L++cA zs=η1 at hst⊢;have hs1:∀t∈oj.looksAt ops,s1 t=aQ s1 oi.dst (some y) t:=λt ht=>(lB λd hd he=>a1 d hd (he▸ht)).symm;have hnext:∀x L',gh C N ops Qn Qp n (b4 ops j A) ((listed.setIfInBounds i true).setIfInBounds j true) (cz ops j (o9 stable (i,oi,y) pend)) (aQ (aQ s1 oi.dst (some y)) oj.dst (some x)) L'->
     gh C N ops Qn Qp (n+1) (b4 ops j A) (listed.setIfInBounds j true) (cz ops j pend) (aQ s1 oj.dst (some x)) L':=by
    intro x L' hk;have hkp:cz ops j (o9 stable (i,oi,y) pend)=o9 stable (i,oi,y) (cz ops j pend):=by
     cases stable with
     |true=>rfl
     |false=>simp[cz,o9,hb1]
    rw[hkp]at hk;have hpo':=PJ hk;have hcongr:∀(o:Oper),(∀d,oi.dst=some d->d∉o.looksAt ops)->∀t∈o.looksAt ops,aQ s1 oj.dst (some x) t=aQ (aQ s1 oi.dst (some y)) oj.dst (some x) t:=by
     intro o ho t ht;cases hdj:oj.dst with
     |none=>exact(lB λd hd he=>ho d hd (he▸ht)).symm
     |some e=>
      simp only[aQ];split
      ·rfl
      ·exact(lB λd hd he=>ho d hd (he▸ht)).symm
    have hstab2:stable=true->∀L',jk C N ops oi (aQ s1 oj.dst (some x)) L' y:=λhs L'=>(hvst hs L').congr λt ht=>lB λd hd he=>a3 d hd (he▸ht);refine ih _ _ _ _ _ ?_ (λp hp=>hpd p (by simp only[cz,ib]at hp;exact hp.1)) (λp hp=>?_) (QE hm) (λp hp=>hAd p (ib.1 hp).1) (ready_mono hr (iP hji)) ?_ hstab2 ?_
    ·intro k ok hk' hki hun hno;refine hfree k ok hk' hki ?_ hno;by_cases hjk:j=k
     ·subst hjk;exact hjun
     ·rw[getD_set_ne true hjk]at hun;exact hun
    ·refine(hpo' p ?_).congr (hcongr p.2.1 (hpd p (by simp only[cz,ib]at hp;exact hp.1)));cases stable with
     |true=>exact hp
     |false=>exact vC _ hp
    ·cases hsb:stable with
     |true=>exact hstab2 hsb L'
     |false=>
      subst hsb;exact(hpo' (i,oi,y) (by simp[o9])).congr (hcongr oi hown)
    ·rw[M5 _ _ hji,<-GR s1 (some y) (some x) a2];exact hk
   refine⟨hst.1,?_⟩;rcases hst.2 with⟨h1,R,h2,h3,h4⟩|⟨h1,h2⟩
   ·refine .inl ⟨by rw[sy hs1];exact h1,R,h2.congr λt ht=>hs1 t (Ao ht),λx L' hR=>hnext x L' (h3 x L' hR),h4⟩
   ·exact .inr ⟨by rw[sy hs1];exact h1,hnext _ _ h2⟩
inductive TK where
 |one
 |fl
 |two
def iE (C:Cx) (N:Nat) (ops:Array Oper) (Qn:Sl->List aj->Prop) (Qp:AV->List aj->Prop):List (Nat×Oper×TK)->bp->fq->Sl->List aj->Prop
 |[],_,pend,s,L=>kf C N ops pend s L/\Qn s L
 |(i,o,.fl)::r,A,pend,s,L=>kf C N ops pend s L/\b8 N o.dst=true/\∃y,(jk C N ops o s L y/\iE C N ops Qn Qp r A ((i,o,y)::pend) (aQ s o.dst (some y)) L)\/((∀L',jk C N ops o s L' y)/\iE C N ops Qn Qp r A pend (aQ s o.dst (some y)) L)
 |(i,o,.one)::r,A,pend,s,L=>kf C N ops pend s L/\gB (lb (bQ ops i A)) λzs=>fu C N ops o (fw L.length zs s) (L++cA zs) (iE C N ops Qn Qp r (b4 ops i A) (cz ops i pend)) Qp
 |[(_,_,.two)],_,_,_,_=>False
 |(i,o,.two)::(j,o',_)::r,A,pend,s,L=>kf C N ops pend s L/\fu C N ops o s L (λs1 η1=>kf C N ops (cz ops i pend) s1 η1/\fu C N ops o' s1 η1 (iE C N ops Qn Qp r A (cz ops j (cz ops i pend))) Qp) Qp/\
   fu C N ops o' s L (λs1 η1=>kf C N ops (cz ops j pend) s1 η1/\fu C N ops o s1 η1 (iE C N ops Qn Qp r A (cz ops j (cz ops i pend))) Qp) Qp
def xS (ops:Array Oper) (dst:Option Nat) (o:Oper):Bool:=match dst with
 |none=>true
 |some d=>!(o.looksAt ops).contains d
def xR (dst:Option Nat) (d:Nat):Bool:=match dst with
 |none=>true
 |some e=>!Nat.beq e d
def lU (ops:Array Oper):List (Nat×Oper×TK)->Array Bool->List (Nat×Oper)->List (Nat×Nat)->Bool
 |[],listed,_,_=>(Region.ready .any ops listed).isEmpty
 |(i,o,.fl)::r,listed,pi,al=>(match ops[i]? with
   |some _=>true
   |none=>false)&&(Region.ready .any ops listed).contains i&&Region.free .any ops listed i&&xS ops o.dst o&&(pi.all λp=>xS ops o.dst p.2)&&(al.all λa=>!dP ops a.1 i&&xR o.dst a.2&& !(o.looksAt ops).contains a.2)&&lU ops r (listed.setIfInBounds i true) ((i,o)::pi) al
 |(i,_,.one)::r,listed,pi,al=>decide (Region.ready .any ops listed=[i])&&lU ops r (listed.setIfInBounds i true) (pi.filter λp=>!dP ops p.1 i) (al.filter λa=>!dP ops a.1 i)
 |[(_,_,.two)],_,_,_=>false
 |(i,_,.two)::(j,_,_)::r,listed,pi,al=>decide (i≠j)&&(Region.ready .any ops listed).all (λk=>Nat.beq k i||Nat.beq k j)&&(Region.ready .any ops listed).contains i&&decide (Region.ready .any ops (listed.setIfInBounds i true)=[j])&&decide (Region.ready .any ops (listed.setIfInBounds j true)=[i])&&
   (al.all λa=>!dP ops a.1 i&& !dP ops a.1 j)&&lU ops r ((listed.setIfInBounds i true).setIfInBounds j true) ((pi.filter λp=>!dP ops p.1 i).filter λp=>!dP ops p.1 j) al
def iW (ops:Array Oper):List (Nat×TK)->List (Nat×Oper×TK)
 |[]=>[]
 |(i,b)::r=>match ops[i]? with
  |some o=>(i,o,b)::iW ops r
  |none=>iW ops r
theorem AG:∀{l:List (Nat×TK)} {p:Nat×Oper×TK},p∈iW ops l->ops[p.1]? =some p.2.1
 |[],_,h=>by simp[iW]at h
 |(i,b)::r,p,h=>by
  simp only[iW]at h;split at h
  ·rename_i o ho;rcases cu.1 h with rfl|h
   ·exact ho
   ·exact AG h
  ·exact AG h
theorem Gv {dst:Option Nat} {d:Nat} (h:xR dst d=true):dst≠some d:=by
 intro e;subst e;simp[xR]at h
theorem Ba {A:bp} {i:Nat} (h:∀p∈A,dP ops p.1 i=false):bQ ops i A=[]:=by
 simp only[bQ,Na];intro p hp;rw[h p hp];simp
theorem ta:∀(l:List (Nat×Oper×TK)) (A:bp) (listed:Array Bool) (pend:fq) (pi:List (Nat×Oper)) (s:Sl) (L:List aj),(∀p∈l,ops[p.1]? =some p.2.1)->(∀p∈pend,(p.1,p.2.1)∈pi)->lU ops l listed pi (A.map λp=>(p.1,p.2.1))=true->
  iE C N ops Qn Qp l A pend s L->gh C N ops Qn Qp l.length A listed pend s L
 |[],A,listed,pend,pi,s,L,_,_,hB,h=>⟨h.1,by simpa[lU]using hB,h.2⟩
 |(i,o,.fl)::r,A,listed,pend,pi,s,L,hg,hpi,hB,h=>by
  simp only[lU,bj]at hB;obtain⟨⟨⟨⟨⟨⟨_,h1⟩,h2⟩,h3⟩,h4⟩,h6⟩,h5⟩:=hB;have hi:=hg (i,o,.fl) (by simp);simp only at hi;obtain⟨hpo,hd,y,hk⟩:=h;have hdis:∀(o':Oper),xS ops o.dst o'=true->∀d,o.dst=some d->d∉o'.looksAt ops:=by
   intro o' ho' d hd;simp only[xS,hd]at ho';simpa using ho'
  simp only[ju,dk,bj,lu]at h6;have hm:bQ ops i A=[]:=Ba λp hp=>(h6 (p.1,p.2.1) ⟨p,hp,rfl⟩).1.1;have hAd:∀p∈A,o.dst≠some p.2.1/\p.2.1∉o.looksAt ops:=λp hp=>by
   have:=h6 (p.1,p.2.1) ⟨p,hp,rfl⟩;exact⟨Gv this.1.2,by simpa using this.2⟩
  have hpd:∀p∈pend,∀d,o.dst=some d->d∉p.2.1.looksAt ops:=λp hp=>by
   refine hdis p.2.1 ?_;simp only[ju]at h4;exact h4 (p.1,p.2.1) (hpi p hp)
  have hfr:∀j oj,ops[j]? =some oj->j≠i->listed.getD j true=false->(∀e∈oj.after,Region.binds .any e=true->e.on≠i)->o.apart ops oj=true:=λj oj hj hne hun hno=>Region.free_spec hi h2 j oj hj hne hun hno;rcases hk with⟨hv,hk⟩|⟨hv,hk⟩
  ·refine G6 false hi (hdis o h3) hd r.length A listed pend s L hfr hpd hpo hm hAd (by simpa using h1) hv (λe=>by cases e) ?_;refine ta r A _ _ ((i,o)::pi) _ _ (λp hp=>hg p (by simp[hp])) (λp hp=>?_) h5 hk;rcases cu.1 hp with rfl|hp
   ·simp
   ·exact vC _ (hpi p hp)
  ·refine G6 true hi (hdis o h3) hd r.length A listed pend s L hfr hpd hpo hm hAd (by simpa using h1) (hv L) (λ_=>hv) ?_;exact ta r A _ _ ((i,o)::pi) _ _ (λp hp=>hg p (by simp[hp])) (λp hp=>vC _ (hpi p hp)) h5 hk
 |(i,o,.one)::r,A,listed,pend,pi,s,L,hg,hpi,hB,h=>by
  simp only[lU,bj,og]at hB;refine⟨h.1,λh0=>(by rw[h0]at hB;cases hB.1),λj hj=>?_⟩;rw[hB.1,mN]at hj;subst hj;have hi:=hg (j,o,.one) (by simp);refine⟨o,hi,wo h.2 λzs _ hst=>hst.mono λs' L' hk=>?_⟩;refine ta r _ _ _ (pi.filter λp=>!dP ops p.1 j) _ _ (λp hp=>hg p (by simp[hp])) (λp hp=>?_) ?_ hk
  ·simp only[cz,ib]at hp⊢;exact⟨hpi p hp.1,hp.2⟩
  ·have:(b4 ops j A).map (λp=>(p.1,p.2.1))=(A.map λp=>(p.1,p.2.1)).filter λp=>!dP ops p.1 j:=by
    simp[b4,List.filter_map,Function.comp_def]
   rw[this];exact hB.2
 |[(_,_,.two)],_,_,_,_,_,_,_,_,hB,_=>by simp[lU]at hB
 |(i,o,.two)::(j,o',x)::r,A,listed,pend,pi,s,L,hg,hpi,hB,h=>by
  simp only[lU,bj,og]at hB;obtain⟨⟨⟨⟨⟨⟨hne,hall⟩,hin⟩,hj⟩,hi⟩,hal⟩,hr⟩:=hB;have gi:=hg (i,o,.two) (by simp);have gj:=hg (j,o',x) (by simp);simp only at gi gj;simp only[ju,dk,bj,lu]at hal;have hmi:bQ ops i A=[]:=Ba λp hp=>(hal (p.1,p.2.1) ⟨p,hp,rfl⟩).1;have hmj:bQ ops j A=[]:=Ba λp hp=>(hal (p.1,p.2.1) ⟨p,hp,rfl⟩).2;obtain⟨hpo,h1,h2⟩:=h;have fin:∀s' L',iE C N ops Qn Qp r A (cz ops j (cz ops i pend)) s' L'->gh C N ops Qn Qp r.length A ((listed.setIfInBounds i true).setIfInBounds j true) (cz ops j (cz ops i pend)) s' L':=λs' L' hk=>by
   refine ta r A _ _ ((pi.filter λp=>!dP ops p.1 i).filter λp=>!dP ops p.1 j) _ _ (λp hp=>hg p (by simp[hp])) (λp hp=>?_) hr hk;simp only[cz,ib]at hp⊢;exact⟨⟨hpi p hp.1.1,hp.1.2⟩,hp.2⟩
  have hcomm:cz ops i (cz ops j pend)=cz ops j (cz ops i pend):=by
   simp only[cz,List.filter_filter,Bool.and_comm]
  refine⟨hpo,λh0=>(by rw[h0]at hin;simp at hin),λk hk=>?_⟩;simp only[ju,Ac]at hall;rcases hall k hk with hk'|hk'
  ·have hk':=bg hk';subst hk';refine⟨o,gi,sO (P:=λs L=>fu C N ops o s L (gh C N ops Qn Qp (r.length+1) (b4 ops k A) (listed.setIfInBounds k true) (cz ops k pend)) Qp) hmi ?_⟩;rw[sS hmi];refine h1.mono λs1 η1 hs1=>⟨hs1.1,λh0=>(by rw[h0]at hj;cases hj),λq hq=>?_⟩;rw[hj,mN]at hq;subst hq;refine⟨o',gj,sO (P:=λs L=>fu C N ops o' s L (gh C N ops Qn Qp r.length (b4 ops q A) ((listed.setIfInBounds k true).setIfInBounds q true) (cz ops q (cz ops k pend))) Qp) hmj ?_⟩;rw[sS hmj];exact hs1.2.mono fin
  ·have hk':=bg hk';subst hk';refine⟨o',gj,sO (P:=λs L=>fu C N ops o' s L (gh C N ops Qn Qp (r.length+1) (b4 ops k A) (listed.setIfInBounds k true) (cz ops k pend)) Qp) hmj ?_⟩;rw[sS hmj];refine h2.mono λs1 η1 hs1=>⟨hs1.1,λh0=>(by rw[h0]at hi;cases hi),λq hq=>?_⟩;rw[hi,mN]at hq;subst hq;refine⟨o,gi,sO (P:=λs L=>fu C N ops o s L (gh C N ops Qn Qp r.length (b4 ops q A) ((listed.setIfInBounds k true).setIfInBounds q true) (cz ops q (cz ops k pend))) Qp) hmi ?_⟩;rw[sS hmi];refine hs1.2.mono λs' L' hk'=>?_;rw[hcomm,M5 _ _ (iP hne)];exact fin s' L' hk'
