/- The program logic, twelfth part: the tail of an open region once more: operations that act come in a fixed order; values may float about them, if they are the same behind them. -/
import Derived.Test.YtnocmolegijmkaaGreatKB10
set_option linter.all false
noncomputable section
namespace Go.Bw
open Go
def cZ (C:Cx) (N:Nat) (o:Oper) (s:Sl) (L:List au) (R:AR->List au->Prop):Prop:=
 ∀F w (a:Act),a.tmps.size=N->a.defers=[]->bI C.G w F L->lB w (Al F L) N a o s->∀(K:Act->World->Prop) (Q:Exit->Act->World->Prop),
  (∀v w' x L',R (.ret x) L'->Rel w' (Al F L') x v->bI C.G w' F L'->Ext L w L' w'->K (a.put o.dst v) w')->
  (∀v w' x L',R (.aM x) L'->Rel w' (Al F L') x v->bI C.G w' F L'->Ext L w L' w'->Q (.panic [{v,recovered:=false}]) a w')->o.wp C.P a w K Q
section
variable {C:Cx} {N:Nat} {o:Oper} {s s':Sl} {L:List au} {x:AV} {R R':AR->List au->Prop}
theorem cZ.congr (h:cZ C N o s L R) (he:∀t∈tmpsOf o,s' t=s t):cZ C N o s' L R:=λF w a h1 h2 h3 h4=>h F w a h1 h2 h3 (h4.congr he)
theorem cZ.mono (h:cZ C N o s L R) (hr:∀r L',R r L'->R' r L'):cZ C N o s L R':=λF w a h1 h2 h3 h4 K Q k1 k2=>
 h F w a h1 h2 h3 h4 K Q (λv w' x L' hR=>k1 v w' x L' (hr _ _ hR)) (λv w' x L' hR=>k2 v w' x L' (hr _ _ hR))
theorem cZ.qm (h:bP C N o s L x):cZ C N o s L (λr L'=>r= .ret x/\L'=L):=λF w a h1 h2 h3 h4 K Q k1 _=>
 h F w a h1 h2 h3 h4 K Q λv w' hv hc=>k1 v w' x L ⟨rfl,rfl⟩ hv (h3.later hc.2.2.2) hc.ext
theorem cZ.vh {cells:List AV} {d:Nat} (hd:o.dst=some d) (h:fF C N o s L cells):cZ C N o s L (λr L'=>∃b,r= .ret (.own L.length b 0)/\L'=L++[.box b cells]):=λF w a h1 h2 h3 h4 K Q k1 _=>
 h F w a h1 h2 h3 h4 K Q λvs e hv=>by
  have hext:=n9 w (.cells vs.toArray e) L (.box w.heap.size cells) (by simp[au.ids]);have hh:bI C.G (w.alloc (.cells vs.toArray e)) F (L++[.box w.heap.size cells]):=by
   refine h3.push (by simp) (λb hb=>lq w _ b hb) (by simp[au.ids]) (by simp[au.ids]) ?_;exact⟨e,vs,lX w _,hv.bo hext.keeps⟩
  exact k1 _ _ _ _ ⟨_,rfl,rfl⟩ (by simp only[Rel]) hh hext
theorem cZ.IT {R0:AV->List au->Prop} (h:zd C N o (dv s (tmpsOf o)) L R0):cZ C N o s L (λr L'=>∃y,r= .ret y/\R0 y L'):=λF w a hN hd hh hs K Q k1 _=>by
 have hst:St C.G N w F a (dv s (tmpsOf o)) L:=⟨⟨hN,λt y hy=>by obtain⟨h1,h2⟩:=kE hy;exact hs t h1 y h2⟩,hh,hd⟩;obtain⟨v,w',y,L',hR,h1,h2,h3,h4⟩:=h F a w hst;unfold Oper.wp;rw[h1,Oper.upon_value];exact k1 v w' y L' ⟨y,rfl,hR⟩ h2 h3 h4
theorem cZ.Ry {L':List au} (h:CU C N o (dv s (tmpsOf o)) L L'):cZ C N o s L (λr η1=>r= .ret (.v undef)/\η1=L'):=λF w a hN hd hh hs K Q k1 _=>by
 have hst:St C.G N w F a (dv s (tmpsOf o)) L:=⟨⟨hN,λt y hy=>by obtain⟨h1,h2⟩:=kE hy;exact hs t h1 y h2⟩,hh,hd⟩;obtain⟨w',h1,h2,h3⟩:=h F a w hst;unfold Oper.wp;rw[h1,Oper.upon_skip];exact k1 undef w' _ _ ⟨rfl,rfl⟩ (by simp only[Rel]) h2 h3
theorem cZ.Ob {f:Operand} {args:List Operand} {g:FuncId} {ys:List AV} {tys:Array TypeId} (ho:o.op= .call {callee:= .value f,args:=args.toArray,argTypes:=tys}) (hc:callee s f args=some (g,ys)) (hb:EG C.P g)
  (h:∀F w vs,bI C.G w F L->aJ w (Al F L) ys vs->Calls C.P g vs.toArray w λe w'=>∃r L',R r L'/\AR.rel w' (Al F L') r e/\bI C.G w' F L'/\Ext L w L' w'):cZ C N o s L R:=λF w a hN _ hh hs K Q k1 k2=>by
 have hmem:∀p,p=f\/p∈args->p∈o.op.operands.toList:=by
  rintro p hp;rw[ho];rcases hp with rfl|hp
  ·simp[Op.operands,Call.operands]
  ·simp[Op.operands,Call.operands,hp]
 have hc':callee (look (dv s (tmpsOf o))) f args=some (g,ys):=by
  unfold callee at hc⊢;rw[fH (hmem f (.inl rfl)),sU λp hp=>fH (hmem p (.inr hp))];exact hc
 have hsl:fN w (Al F L) N a (look (dv s (tmpsOf o))):=⟨hN,λt y hy=>by obtain⟨h1,h2⟩:=kE hy;exact hs t h1 y h2⟩;obtain⟨vs,h1,h2⟩:=vW (P:=C.P) hsl hc' (tys:=tys) (dst:=o.dst) (ty:=o.type) (pos:=o.pos) (after:=o.after) (gd:=o.guard) hb;have ho':o=⟨o.dst,.call {callee:= .value f,args:=args.toArray,argTypes:=tys},o.type,o.pos,o.after,o.guard⟩:=by rw[<-ho]
 rw[<-ho']at h2;unfold Oper.wp;rw[h2 w,Oper.upon_enter];refine(h F w vs hh h1).mono ?_;rintro e w' ⟨r,L',hR,hv,hH,hx⟩;cases r with
 |ret x=>obtain⟨v,rfl,hv⟩:=hv;exact k1 v w' x L' hR hv hH hx
 |aM x=>obtain⟨v,rfl,hv⟩:=hv;exact k2 v w' x L' hR hv hH hx
theorem cZ.panic {p:Operand} {t:TypeId} {y:AV} (ho:o.op= .panic p) (hp:ev s p=some (.bA t y)):cZ C N o s L (λr L'=>r= .aM (.bA t y)/\L'=L):=λF w a hN _ hh hs K Q _ k2=>by
 have h1:=RB hN hs (by simp[ho,Op.operands]) hp;have h0:=h1;simp only[Rel]at h0;obtain⟨u,h0,_⟩:=h0;have hrun:(execOp a.eval o).run C.P w= .halt (.panic (.iface t u)) w:=by simp[execOp,ho,Instr.panic,h0]
 unfold Oper.wp;rw[hrun];rw[h0]at h1;exact k2 _ _ _ _ ⟨rfl,rfl⟩ h1 hh (Ext.refl L w)
end
def eA (ops:Array Oper) (i j:Nat):Bool:=match ops[j]? with
 |some o=>o.after.toList.any λe=>Region.binds .any e&&e.on==i
 |none=>false
def kj (C:Cx) (N:Nat) (ops:Array Oper) (o:Oper) (s:Sl) (L:List au) (y:AV):Prop:=(kH ops o s=some true/\bP C N o s L y)\/(kH ops o s=some false/\y= .v undef)
abbrev fX:=List (Nat×Oper×AV)
def cN (ops:Array Oper) (j:Nat) (pend:fX):fX:=pend.filter λp=>!eA ops p.1 j
def lA (C:Cx) (N:Nat) (ops:Array Oper) (pend:fX) (s:Sl) (L:List au):Prop:=∀p∈pend,kj C N ops p.2.1 s L p.2.2
abbrev bM:=List (Nat×(Nat×List AV))
def b8 (ops:Array Oper) (j:Nat) (A:bM):bM:=A.filter λp=>eA ops p.1 j
def cn (ops:Array Oper) (j:Nat) (A:bM):bM:=A.filter λp=>!eA ops p.1 j
def mG (A:bM):Nu:=A.map (·.2)
def ga (n:Nat) (zs:List ((Nat×List AV)×Nat)) (s:Sl):Sl:=λt=>match look (fW n zs) t with
 |some x=>some x
 |none=>s t
def fY (C:Cx) (N:Nat) (ops:Array Oper) (o:Oper) (s:Sl) (L:List au) (nx:Sl->List au->Prop) (Qp:AV->List au->Prop):Prop:=
 cx N o.dst=true/\((kH ops o s=some true/\∃R,cZ C N o s L R/\(∀x L',R (.ret x) L'->nx (a8 s o.dst (some x)) L')/\∀x L',R (.aM x) L'->Qp x L')\/
  (kH ops o s=some false/\nx (a8 s o.dst (some (.v undef))) L))
def gY (C:Cx) (N:Nat) (ops:Array Oper) (Qn:Sl->List au->Prop) (Qp:AV->List au->Prop):Nat->bM->Array Bool->fX->Sl->List au->Prop
 |0,_,listed,pend,s,L=>lA C N ops pend s L/\Region.ready .any ops listed=[]/\Qn s L
 |n+1,A,listed,pend,s,L=>lA C N ops pend s L/\(Region.ready .any ops listed=[]->Qn s L)/\∀j∈Region.ready .any ops listed,∃o,ops[j]? =some o/\
   iF (mG (b8 ops j A)) λzs=>fY C N ops o (ga L.length zs s) (L++cO zs) (gY C N ops Qn Qp n (cn ops j A) (listed.setIfInBounds j true) (cN ops j pend)) Qp
section
variable {C:Cx} {N:Nat} {ops:Array Oper} {Qn:Sl->List au->Prop} {Qp:AV->List au->Prop}
theorem kj.congr {o:Oper} {s s':Sl} {L:List au} {y:AV} (h:kj C N ops o s L y) (he:∀t∈o.looksAt ops,s' t=s t):kj C N ops o s' L y:=
 h.imp (λ⟨h1,h2⟩=>⟨by rw[vP he];exact h1,h2.congr λt ht=>he t (D1 ht)⟩) λ⟨h1,h2⟩=>⟨by rw[vP he];exact h1,h2⟩
theorem fY.mono {o:Oper} {s:Sl} {L:List au} {nx nx':Sl->List au->Prop} (h:fY C N ops o s L nx Qp) (hn:∀s L,nx s L->nx' s L):fY C N ops o s L nx' Qp:=
 ⟨h.1,h.2.imp (λ⟨h1,R,h2,h3,h4⟩=>⟨h1,R,h2,λx L' hR=>hn _ _ (h3 x L' hR),h4⟩) λ⟨h1,h2⟩=>⟨h1,hn _ _ h2⟩⟩
theorem vV:∀{W:Nu} {P:List ((Nat×List AV)×Nat)->Prop},(∀zs,zs.map (·.1)=W->P zs)->iF W P
 |[],_,h=>h [] rfl
 |p::W,P,h=>λb=>vV λzs hz=>h ((p,b)::zs) (by simp[hz])
theorem A4 {W:Nu} {P P':List ((Nat×List AV)×Nat)->Prop} (h:iF W P) (hi:∀zs,zs.map (·.1)=W->P zs->P' zs):iF W P':=vV λzs hz=>hi zs hz (AX h zs hz)
theorem WR (n:Nat) (s:Sl):ga n [] s=s:=rfl
theorem Ul:cO []=[]:=rfl
theorem wg {A:bM} {i:Nat} (hm:b8 ops i A=[]) {n:Nat} {s:Sl} {L:List au} {P:Sl->List au->Prop} (h:P s L):iF (mG (b8 ops i A)) λzs=>P (ga n zs s) (L++cO zs):=by
 rw[hm];show P (ga n [] s) (L++cO []);rw[WR,Ul,jd];exact h
theorem wu {A:bM} {i:Nat} (hm:b8 ops i A=[]):cn ops i A=A:=by
 simp only[b8,Tc,J4]at hm;simp only[cn,List.filter_eq_self];intro p hp;rw[hm p hp];rfl
theorem WS {A:bM} {i j:Nat} (hm:b8 ops i A=[]):b8 ops i (cn ops j A)=[]:=by
 simp only[b8,cn,Tc]at hm⊢;intro p hp;exact hm p (jh.1 hp).1
theorem MR:∀{n:Nat} {A:bM} {listed:Array Bool} {pend pend':fX} {s:Sl} {L:List au},(∀p∈pend',p∈pend)->gY C N ops Qn Qp n A listed pend s L->gY C N ops Qn Qp n A listed pend' s L
 |0,_,_,_,_,_,_,hs,h=>⟨λp hp=>h.1 p (hs p hp),h.2⟩
 |n+1,_,_,_,_,_,_,hs,h=>⟨λp hp=>h.1 p (hs p hp),h.2.1,λj hj=>by
  obtain⟨o,ho,hst⟩:=h.2.2 j hj;refine⟨o,ho,A4 hst λzs _ hst=>hst.mono λs L=>MR λp hp=>?_⟩;simp only[cN,jh]at hp⊢;exact⟨hs p hp.1,hp.2⟩⟩
theorem VR {n:Nat} {A:bM} {listed:Array Bool} {pend:fX} {s:Sl} {L:List au} (h:gY C N ops Qn Qp n A listed pend s L):lA C N ops pend s L:=by
 cases n with
 |zero=>exact h.1
 |succ n=>exact h.1
theorem kj.step {o:Oper} {s:Sl} {L:List au} {y:AV} (hd:cx N o.dst=true) (h:kj C N ops o s L y) {nx:Sl->List au->Prop} (k:nx (a8 s o.dst (some y)) L):fY C N ops o s L nx Qp:=by
 refine⟨hd,h.imp (λ⟨h1,h2⟩=>⟨h1,_,cZ.qm h2,?_,λx L' h=>by cases h.1⟩) λ⟨h1,h2⟩=>⟨h1,by subst h2;exact k⟩⟩;rintro x L' ⟨h1,rfl⟩;cases h1;exact k
theorem WT {n:Nat} {zs:List ((Nat×List AV)×Nat)} {s:Sl} {dst:Option Nat} {y:Option AV} (hd:∀z∈zs,dst≠some z.1.1):ga n zs (a8 s dst y)=a8 (ga n zs s) dst y:=by
 funext t;cases dst with
 |none=>rfl
 |some d=>
  simp only[ga,a8];by_cases ht:t=d
  ·subst ht;simp only[if_true];cases hl:look (fW n zs) t with
   |none=>rfl
   |some x=>
    have:look (fW n zs++[]) t=some x:=by simpa using hl
    rcases sV this with⟨z,hz,k,h1,_⟩|h
    ·exact absurd (by rw[h1]) (hd z hz)
    ·simp[look]at h
  ·simp only[ht,if_false]
def rE (stable:Bool) (p:Nat×Oper×AV) (pend:fX):fX:=match stable with
 |true=>pend
 |false=>p::pend
theorem Lu {i:Nat} {oi:Oper} {y:AV} (stable:Bool) (hi:ops[i]? =some oi) (hown:∀d,oi.dst=some d->d∉oi.looksAt ops) (hdi:cx N oi.dst=true):
  ∀(n:Nat) (A:bM) (listed:Array Bool) (pend:fX) (s:Sl) (L:List au),
   (∀j oj,ops[j]? =some oj->j≠i->listed.getD j true=false->(∀e∈oj.after,Region.binds .any e=true->e.on≠i)->oi.apart ops oj=true)->
   (∀p∈pend,∀d,oi.dst=some d->d∉p.2.1.looksAt ops)->lA C N ops pend s L->b8 ops i A=[]->(∀p∈A,oi.dst≠some p.2.1/\p.2.1∉oi.looksAt ops)->
   i∈Region.ready .any ops listed->kj C N ops oi s L y->(stable=true->∀L',kj C N ops oi s L' y)->
   gY C N ops Qn Qp n A (listed.setIfInBounds i true) (rE stable (i,oi,y) pend) (a8 s oi.dst (some y)) L->gY C N ops Qn Qp (n+1) A listed pend s L:=by
 intro n;have same:∀(n:Nat) (A:bM) (listed:Array Bool) (pend:fX) (s:Sl) (L:List au),b8 ops i A=[]->kj C N ops oi s L y->gY C N ops Qn Qp n A (listed.setIfInBounds i true) (rE stable (i,oi,y) pend) (a8 s oi.dst (some y)) L->
   iF (mG (b8 ops i A)) λzs=>fY C N ops oi (ga L.length zs s) (L++cO zs) (gY C N ops Qn Qp n (cn ops i A) (listed.setIfInBounds i true) (cN ops i pend)) Qp:=by
  intro n A listed pend s L hm hv H;refine wg (P:=λs L=>fY C N ops oi s L (gY C N ops Qn Qp n (cn ops i A) (listed.setIfInBounds i true) (cN ops i pend)) Qp) hm ?_;rw[wu hm];refine hv.step hdi (MR (λp hp=>?_) H);simp only[cN,jh]at hp;cases stable with
  |true=>exact hp.1
  |false=>exact Ap _ hp.1
 induction n with
 |zero=>
  intro A listed pend s L hfree hpd hpo hm hAd hr hv hstb H;refine⟨hpo,λh=>(by rw[h]at hr;cases hr),λj hj=>?_⟩;by_cases hji:j=i
  ·subst hji;exact⟨oi,hi,same 0 A listed pend s L hm hv H⟩
  ·exfalso;have:=ready_mono hj hji;rw[H.2.1]at this;cases this
 |succ n ih=>
  intro A listed pend s L hfree hpd hpo hm hAd hr hv hstb H;refine⟨hpo,λh=>(by rw[h]at hr;cases hr),λj hj=>?_⟩;by_cases hji:j=i
  ·subst hji;exact⟨oi,hi,same (n+1) A listed pend s L hm hv H⟩
  ·obtain⟨oj,hoj,hst⟩:=H.2.2 j (ready_mono hj hji);obtain⟨hjun,oj',hoj',hall⟩:=mem_ready.1 hj;rw[hoj]at hoj';cases hoj';have hnot:∀e∈oj.after,Region.binds .any e=true->e.on≠i:=λe he hb heq=>by
    have h1:=hall e he hb;have h0:=(mem_ready.1 hr).1;rw[heq]at h1;rcases mN i listed.size with h'|h'
    ·simp[h']at h0 h1;rw[h0]at h1;cases h1
    ·simp[vL h']at h1
   have hb1:eA ops i j=false:=by
    unfold eA;rw[hoj];simp only[vO,J4,Bool.and_eq_false_iff];intro q hq;cases hb:Region.binds .any q with
    |false=>exact .inl rfl
    |true=>exact .inr (by simpa using hnot _ (by simpa using hq) hb)
   obtain⟨a1,a2,a3⟩:=Oper.apart_spec (hfree j oj hoj hji hjun hnot);refine⟨oj,hoj,A4 hst λzs hz hst=>?_⟩;have hzA:∀z∈zs,∃p∈A,p.2.1=z.1.1:=λz hzm=>by
    have:z.1∈mG (b8 ops j A):=by rw[<-hz];exact dB.2 ⟨z,hzm,rfl⟩
    simp only[mG,b8,dB,jh]at this;obtain⟨p,hp,he⟩:=this;exact⟨p,hp.1,by rw[he]⟩
   have hzd:∀z∈zs,oi.dst≠some z.1.1:=λz hzm=>by
    obtain⟨p,hp,he⟩:=hzA z hzm;rw[<-he];exact(hAd p hp).1
   rw[WT hzd]at hst;have hui:∀t∈oi.looksAt ops,ga L.length zs s t=s t:=λt ht=>by
    simp only[ga];cases hl:look (fW L.length zs) t with
    |none=>rfl
    |some x=>
     have:look (fW L.length zs++[]) t=some x:=by simpa using hl
     rcases sV this with⟨z,hzm,k,h1,_⟩|h
     ·obtain⟨p,hp,he⟩:=hzA z hzm;exact absurd (by rw[he,<-h1];exact ht) (hAd p hp).2
     ·simp[look]at h
   have hvst:stable=true->∀L',kj C N ops oi (ga L.length zs s) L' y:=λhs L'=>(hstb hs L').congr hui;generalize ga L.length zs s=s1 at hst hvst⊢;generalize L++cO zs=η1 at hst⊢;have hs1:∀t∈oj.looksAt ops,s1 t=a8 s1 oi.dst (some y) t:=λt ht=>(mT λd hd he=>a1 d hd (he▸ht)).symm;have hnext:∀x L',gY C N ops Qn Qp n (cn ops j A) ((listed.setIfInBounds i true).setIfInBounds j true) (cN ops j (rE stable (i,oi,y) pend)) (a8 (a8 s1 oi.dst (some y)) oj.dst (some x)) L'->
     gY C N ops Qn Qp (n+1) (cn ops j A) (listed.setIfInBounds j true) (cN ops j pend) (a8 s1 oj.dst (some x)) L':=by
    intro x L' hk;have hkp:cN ops j (rE stable (i,oi,y) pend)=rE stable (i,oi,y) (cN ops j pend):=by
     cases stable with
     |true=>rfl
     |false=>simp[cN,rE,hb1]
    rw[hkp]at hk;have hpo':=VR hk;have hcongr:∀(o:Oper),(∀d,oi.dst=some d->d∉o.looksAt ops)->∀t∈o.looksAt ops,a8 s1 oj.dst (some x) t=a8 (a8 s1 oi.dst (some y)) oj.dst (some x) t:=by
     intro o ho t ht;cases hdj:oj.dst with
     |none=>exact(mT λd hd he=>ho d hd (he▸ht)).symm
     |some e=>
      simp only[a8];split
      ·rfl
      ·exact(mT λd hd he=>ho d hd (he▸ht)).symm
    have hstab2:stable=true->∀L',kj C N ops oi (a8 s1 oj.dst (some x)) L' y:=λhs L'=>(hvst hs L').congr λt ht=>mT λd hd he=>a3 d hd (he▸ht);refine ih _ _ _ _ _ ?_ (λp hp=>hpd p (by simp only[cN,jh]at hp;exact hp.1)) (λp hp=>?_) (WS hm) (λp hp=>hAd p (jh.1 hp).1) (ready_mono hr (jK hji)) ?_ hstab2 ?_
    ·intro k ok hk' hki hun hno;refine hfree k ok hk' hki ?_ hno;by_cases hjk:j=k
     ·subst hjk;exact hjun
     ·rw[getD_set_ne true hjk]at hun;exact hun
    ·refine(hpo' p ?_).congr (hcongr p.2.1 (hpd p (by simp only[cN,jh]at hp;exact hp.1)));cases stable with
     |true=>exact hp
     |false=>exact Ap _ hp
    ·cases hsb:stable with
     |true=>exact hstab2 hsb L'
     |false=>
      subst hsb;exact(hpo' (i,oi,y) (by simp[rE])).congr (hcongr oi hown)
    ·rw[S7 _ _ hji,<-Lf s1 (some y) (some x) a2];exact hk
   refine⟨hst.1,?_⟩;rcases hst.2 with⟨h1,R,h2,h3,h4⟩|⟨h1,h2⟩
   ·refine .inl ⟨by rw[vP hs1];exact h1,R,h2.congr λt ht=>hs1 t (D1 ht),λx L' hR=>hnext x L' (h3 x L' hR),h4⟩
   ·exact .inr ⟨by rw[vP hs1];exact h1,hnext _ _ h2⟩
inductive TK where
 |one
 |fl
 |two
def jx (C:Cx) (N:Nat) (ops:Array Oper) (Qn:Sl->List au->Prop) (Qp:AV->List au->Prop):List (Nat×Oper×TK)->bM->fX->Sl->List au->Prop
 |[],_,pend,s,L=>lA C N ops pend s L/\Qn s L
 |(i,o,.fl)::r,A,pend,s,L=>lA C N ops pend s L/\cx N o.dst=true/\∃y,(kj C N ops o s L y/\jx C N ops Qn Qp r A ((i,o,y)::pend) (a8 s o.dst (some y)) L)\/((∀L',kj C N ops o s L' y)/\jx C N ops Qn Qp r A pend (a8 s o.dst (some y)) L)
 |(i,o,.one)::r,A,pend,s,L=>lA C N ops pend s L/\iF (mG (b8 ops i A)) λzs=>fY C N ops o (ga L.length zs s) (L++cO zs) (jx C N ops Qn Qp r (cn ops i A) (cN ops i pend)) Qp
 |[(_,_,.two)],_,_,_,_=>False
 |(i,o,.two)::(j,o',_)::r,A,pend,s,L=>lA C N ops pend s L/\fY C N ops o s L (λs1 η1=>lA C N ops (cN ops i pend) s1 η1/\fY C N ops o' s1 η1 (jx C N ops Qn Qp r A (cN ops j (cN ops i pend))) Qp) Qp/\
   fY C N ops o' s L (λs1 η1=>lA C N ops (cN ops j pend) s1 η1/\fY C N ops o s1 η1 (jx C N ops Qn Qp r A (cN ops j (cN ops i pend))) Qp) Qp
def Cm (ops:Array Oper) (dst:Option Nat) (o:Oper):Bool:=match dst with
 |none=>true
 |some d=>!(o.looksAt ops).contains d
def Cl (dst:Option Nat) (d:Nat):Bool:=match dst with
 |none=>true
 |some e=>!Nat.beq e d
def nG (ops:Array Oper):List (Nat×Oper×TK)->Array Bool->List (Nat×Oper)->List (Nat×Nat)->Bool
 |[],listed,_,_=>(Region.ready .any ops listed).isEmpty
 |(i,o,.fl)::r,listed,pi,al=>(match ops[i]? with
   |some _=>true
   |none=>false)&&(Region.ready .any ops listed).contains i&&Region.free .any ops listed i&&Cm ops o.dst o&&(pi.all λp=>Cm ops o.dst p.2)&&(al.all λa=>!eA ops a.1 i&&Cl o.dst a.2&& !(o.looksAt ops).contains a.2)&&nG ops r (listed.setIfInBounds i true) ((i,o)::pi) al
 |(i,_,.one)::r,listed,pi,al=>decide (Region.ready .any ops listed=[i])&&nG ops r (listed.setIfInBounds i true) (pi.filter λp=>!eA ops p.1 i) (al.filter λa=>!eA ops a.1 i)
 |[(_,_,.two)],_,_,_=>false
 |(i,_,.two)::(j,_,_)::r,listed,pi,al=>decide (i≠j)&&(Region.ready .any ops listed).all (λk=>Nat.beq k i||Nat.beq k j)&&(Region.ready .any ops listed).contains i&&decide (Region.ready .any ops (listed.setIfInBounds i true)=[j])&&decide (Region.ready .any ops (listed.setIfInBounds j true)=[i])&&
   (al.all λa=>!eA ops a.1 i&& !eA ops a.1 j)&&nG ops r ((listed.setIfInBounds i true).setIfInBounds j true) ((pi.filter λp=>!eA ops p.1 i).filter λp=>!eA ops p.1 j) al
def jQ (ops:Array Oper):List (Nat×TK)->List (Nat×Oper×TK)
 |[]=>[]
 |(i,b)::r=>match ops[i]? with
  |some o=>(i,o,b)::jQ ops r
  |none=>jQ ops r
theorem Eh:∀{l:List (Nat×TK)} {p:Nat×Oper×TK},p∈jQ ops l->ops[p.1]? =some p.2.1
 |[],_,h=>by simp[jQ]at h
 |(i,b)::r,p,h=>by
  simp only[jQ]at h;split at h
  ·rename_i o ho;rcases cu.1 h with rfl|h
   ·exact ho
   ·exact Eh h
  ·exact Eh h
theorem KS {dst:Option Nat} {d:Nat} (h:Cl dst d=true):dst≠some d:=by
 intro e;subst e;simp[Cl]at h
theorem EJ {A:bM} {i:Nat} (h:∀p∈A,eA ops p.1 i=false):b8 ops i A=[]:=by
 simp only[b8,Tc];intro p hp;rw[h p hp];simp
theorem wK:∀(l:List (Nat×Oper×TK)) (A:bM) (listed:Array Bool) (pend:fX) (pi:List (Nat×Oper)) (s:Sl) (L:List au),(∀p∈l,ops[p.1]? =some p.2.1)->(∀p∈pend,(p.1,p.2.1)∈pi)->nG ops l listed pi (A.map λp=>(p.1,p.2.1))=true->
  jx C N ops Qn Qp l A pend s L->gY C N ops Qn Qp l.length A listed pend s L
 |[],A,listed,pend,pi,s,L,_,_,hB,h=>⟨h.1,by simpa[nG]using hB,h.2⟩
 |(i,o,.fl)::r,A,listed,pend,pi,s,L,hg,hpi,hB,h=>by
  simp only[nG,bG]at hB;obtain⟨⟨⟨⟨⟨⟨_,h1⟩,h2⟩,h3⟩,h4⟩,h6⟩,h5⟩:=hB;have hi:=hg (i,o,.fl) (by simp);simp only at hi;obtain⟨hpo,hd,y,hk⟩:=h;have hdis:∀(o':Oper),Cm ops o.dst o'=true->∀d,o.dst=some d->d∉o'.looksAt ops:=by
   intro o' ho' d hd;simp only[Cm,hd]at ho';simpa using ho'
  simp only[je,dB,bG,lU]at h6;have hm:b8 ops i A=[]:=EJ λp hp=>(h6 (p.1,p.2.1) ⟨p,hp,rfl⟩).1.1;have hAd:∀p∈A,o.dst≠some p.2.1/\p.2.1∉o.looksAt ops:=λp hp=>by
   have:=h6 (p.1,p.2.1) ⟨p,hp,rfl⟩;exact⟨KS this.1.2,by simpa using this.2⟩
  have hpd:∀p∈pend,∀d,o.dst=some d->d∉p.2.1.looksAt ops:=λp hp=>by
   refine hdis p.2.1 ?_;simp only[je]at h4;exact h4 (p.1,p.2.1) (hpi p hp)
  have hfr:∀j oj,ops[j]? =some oj->j≠i->listed.getD j true=false->(∀e∈oj.after,Region.binds .any e=true->e.on≠i)->o.apart ops oj=true:=λj oj hj hne hun hno=>Region.free_spec hi h2 j oj hj hne hun hno;rcases hk with⟨hv,hk⟩|⟨hv,hk⟩
  ·refine Lu false hi (hdis o h3) hd r.length A listed pend s L hfr hpd hpo hm hAd (by simpa using h1) hv (λe=>by cases e) ?_;refine wK r A _ _ ((i,o)::pi) _ _ (λp hp=>hg p (by simp[hp])) (λp hp=>?_) h5 hk;rcases cu.1 hp with rfl|hp
   ·simp
   ·exact Ap _ (hpi p hp)
  ·refine Lu true hi (hdis o h3) hd r.length A listed pend s L hfr hpd hpo hm hAd (by simpa using h1) (hv L) (λ_=>hv) ?_;exact wK r A _ _ ((i,o)::pi) _ _ (λp hp=>hg p (by simp[hp])) (λp hp=>Ap _ (hpi p hp)) h5 hk
 |(i,o,.one)::r,A,listed,pend,pi,s,L,hg,hpi,hB,h=>by
  simp only[nG,bG,pd]at hB;refine⟨h.1,λh0=>(by rw[h0]at hB;cases hB.1),λj hj=>?_⟩;rw[hB.1,oX]at hj;subst hj;have hi:=hg (j,o,.one) (by simp);refine⟨o,hi,A4 h.2 λzs _ hst=>hst.mono λs' L' hk=>?_⟩;refine wK r _ _ _ (pi.filter λp=>!eA ops p.1 j) _ _ (λp hp=>hg p (by simp[hp])) (λp hp=>?_) ?_ hk
  ·simp only[cN,jh]at hp⊢;exact⟨hpi p hp.1,hp.2⟩
  ·have:(cn ops j A).map (λp=>(p.1,p.2.1))=(A.map λp=>(p.1,p.2.1)).filter λp=>!eA ops p.1 j:=by
    simp[cn,List.filter_map,Function.comp_def]
   rw[this];exact hB.2
 |[(_,_,.two)],_,_,_,_,_,_,_,_,hB,_=>by simp[nG]at hB
 |(i,o,.two)::(j,o',x)::r,A,listed,pend,pi,s,L,hg,hpi,hB,h=>by
  simp only[nG,bG,pd]at hB;obtain⟨⟨⟨⟨⟨⟨hne,hall⟩,hin⟩,hj⟩,hi⟩,hal⟩,hr⟩:=hB;have gi:=hg (i,o,.two) (by simp);have gj:=hg (j,o',x) (by simp);simp only at gi gj;simp only[je,dB,bG,lU]at hal;have hmi:b8 ops i A=[]:=EJ λp hp=>(hal (p.1,p.2.1) ⟨p,hp,rfl⟩).1;have hmj:b8 ops j A=[]:=EJ λp hp=>(hal (p.1,p.2.1) ⟨p,hp,rfl⟩).2;obtain⟨hpo,h1,h2⟩:=h;have fin:∀s' L',jx C N ops Qn Qp r A (cN ops j (cN ops i pend)) s' L'->gY C N ops Qn Qp r.length A ((listed.setIfInBounds i true).setIfInBounds j true) (cN ops j (cN ops i pend)) s' L':=λs' L' hk=>by
   refine wK r A _ _ ((pi.filter λp=>!eA ops p.1 i).filter λp=>!eA ops p.1 j) _ _ (λp hp=>hg p (by simp[hp])) (λp hp=>?_) hr hk;simp only[cN,jh]at hp⊢;exact⟨⟨hpi p hp.1.1,hp.1.2⟩,hp.2⟩
  have hcomm:cN ops i (cN ops j pend)=cN ops j (cN ops i pend):=by
   simp only[cN,List.filter_filter,Bool.and_comm]
  refine⟨hpo,λh0=>(by rw[h0]at hin;simp at hin),λk hk=>?_⟩;simp only[je,DL]at hall;rcases hall k hk with hk'|hk'
  ·have hk':=bC hk';subst hk';refine⟨o,gi,wg (P:=λs L=>fY C N ops o s L (gY C N ops Qn Qp (r.length+1) (cn ops k A) (listed.setIfInBounds k true) (cN ops k pend)) Qp) hmi ?_⟩;rw[wu hmi];refine h1.mono λs1 η1 hs1=>⟨hs1.1,λh0=>(by rw[h0]at hj;cases hj),λq hq=>?_⟩;rw[hj,oX]at hq;subst hq;refine⟨o',gj,wg (P:=λs L=>fY C N ops o' s L (gY C N ops Qn Qp r.length (cn ops q A) ((listed.setIfInBounds k true).setIfInBounds q true) (cN ops q (cN ops k pend))) Qp) hmj ?_⟩;rw[wu hmj];exact hs1.2.mono fin
  ·have hk':=bC hk';subst hk';refine⟨o',gj,wg (P:=λs L=>fY C N ops o' s L (gY C N ops Qn Qp (r.length+1) (cn ops k A) (listed.setIfInBounds k true) (cN ops k pend)) Qp) hmj ?_⟩;rw[wu hmj];refine h2.mono λs1 η1 hs1=>⟨hs1.1,λh0=>(by rw[h0]at hi;cases hi),λq hq=>?_⟩;rw[hi,oX]at hq;subst hq;refine⟨o,gi,wg (P:=λs L=>fY C N ops o s L (gY C N ops Qn Qp r.length (cn ops q A) ((listed.setIfInBounds k true).setIfInBounds q true) (cN ops q (cN ops k pend))) Qp) hmi ?_⟩;rw[wu hmi];refine hs1.2.mono λs' L' hk'=>?_;rw[hcomm,S7 _ _ (jK hne)];exact fin s' L' hk'
