/- The program logic, twelfth part: the tail of an open region once more: operations that act come in a fixed order; values may float about them, if they are the same behind them. -/
import Derived.Test.YtnocmolegijmkaaGreatKB10
set_option linter.all false
noncomputable section
namespace Go.Bw
open Go
def dG (C:Cx) (N:Nat) (o:Oper) (s:Sl) (L:List aq) (R:AR->List aq->Prop):Prop:=
 ∀F w (a:Act),a.tmps.size=N->a.defers=[]->bM C.G w F L->mg w (Al F L) N a o s->∀(K:Act->World->Prop) (Q:Exit->Act->World->Prop),
  (∀v w' x L',R (.ret x) L'->Rel w' (Al F L') x v->bM C.G w' F L'->Ext L w L' w'->K (a.put o.dst v) w')->
  (∀v w' x L',R (.aT x) L'->Rel w' (Al F L') x v->bM C.G w' F L'->Ext L w L' w'->Q (.panic [{v,recovered:=false}]) a w')->o.wp C.P a w K Q
section
variable {C:Cx} {N:Nat} {o:Oper} {s s':Sl} {L:List aq} {x:AV} {R R':AR->List aq->Prop}
theorem dG.congr (h:dG C N o s L R) (he:∀t∈tmpsOf o,s' t=s t):dG C N o s' L R:=λF w a h1 h2 h3 h4=>h F w a h1 h2 h3 (h4.congr he)
theorem dG.mono (h:dG C N o s L R) (hr:∀r L',R r L'->R' r L'):dG C N o s L R':=λF w a h1 h2 h3 h4 K Q k1 k2=>
 h F w a h1 h2 h3 h4 K Q (λv w' x L' hR=>k1 v w' x L' (hr _ _ hR)) (λv w' x L' hR=>k2 v w' x L' (hr _ _ hR))
theorem dG.qW (h:ck C N o s L x):dG C N o s L (λr L'=>r= .ret x/\L'=L):=λF w a h1 h2 h3 h4 K Q k1 _=>
 h F w a h1 h2 h3 h4 K Q λv w' hv hc=>k1 v w' x L ⟨rfl,rfl⟩ hv (h3.later hc.2.2.2) hc.ext
theorem dG.xy {cells:List AV} {d:Nat} (hd:o.dst=some d) (h:gA C N o s L cells):dG C N o s L (λr L'=>∃b,r= .ret (.own L.length b 0)/\L'=L++[.box b cells]):=λF w a h1 h2 h3 h4 K Q k1 _=>
 h F w a h1 h2 h3 h4 K Q λvs e hv=>by
  have hext:=nK w (.cells vs.toArray e) L (.box w.heap.size cells) (by simp[aq.ids]);have hh:bM C.G (w.alloc (.cells vs.toArray e)) F (L++[.box w.heap.size cells]):=by
   refine h3.push (by simp) (λb hb=>lA w _ b hb) (by simp[aq.ids]) (by simp[aq.ids]) ?_;exact⟨e,vs,l6 w _,hv.keep hext.keeps⟩
  exact k1 _ _ _ _ ⟨_,rfl,rfl⟩ (by simp only[Rel]) hh hext
theorem dG.GO {R0:AV->List aq->Prop} (h:pr C N o (ee s (tmpsOf o)) L R0):dG C N o s L (λr L'=>∃y,r= .ret y/\R0 y L'):=λF w a hN hd hh hs K Q k1 _=>by
 have hst:St C.G N w F a (ee s (tmpsOf o)) L:=⟨⟨hN,λt y hy=>by obtain⟨h1,h2⟩:=lC hy;exact hs t h1 y h2⟩,hh,hd⟩;obtain⟨v,w',y,L',hR,h1,h2,h3,h4⟩:=h F a w hst;unfold Oper.wp;rw[h1,Oper.upon_value];exact k1 v w' y L' ⟨y,rfl,hR⟩ h2 h3 h4
theorem dG.YZ {L':List aq} (h:Cv C N o (ee s (tmpsOf o)) L L'):dG C N o s L (λr L1=>r= .ret (.v undef)/\L1=L'):=λF w a hN hd hh hs K Q k1 _=>by
 have hst:St C.G N w F a (ee s (tmpsOf o)) L:=⟨⟨hN,λt y hy=>by obtain⟨h1,h2⟩:=lC hy;exact hs t h1 y h2⟩,hh,hd⟩;obtain⟨w',h1,h2,h3⟩:=h F a w hst;unfold Oper.wp;rw[h1,Oper.upon_skip];exact k1 undef w' _ _ ⟨rfl,rfl⟩ (by simp only[Rel]) h2 h3
theorem dG.UT {f:Operand} {args:List Operand} {g:FuncId} {ys:List AV} {tys:Array TypeId} (ho:o.op= .call {callee:= .value f,args:=args.toArray,argTypes:=tys}) (hc:callee s f args=some (g,ys)) (hb:pN C.P g)
  (h:∀F w vs,bM C.G w F L->aL w (Al F L) ys vs->Calls C.P g vs.toArray w λe w'=>∃r L',R r L'/\AR.rel w' (Al F L') r e/\bM C.G w' F L'/\Ext L w L' w'):dG C N o s L R:=λF w a hN _ hh hs K Q k1 k2=>by
 have hmem:∀p,p=f\/p∈args->p∈o.op.operands.toList:=by
  rintro p hp;rw[ho];rcases hp with rfl|hp
  ·simp[Op.operands,Call.operands]
  ·simp[Op.operands,Call.operands,hp]
 have hc':callee (look (ee s (tmpsOf o))) f args=some (g,ys):=by
  unfold callee at hc⊢;rw[fV (hmem f (.inl rfl)),tX λp hp=>fV (hmem p (.inr hp))];exact hc
 have hsl:gM w (Al F L) N a (look (ee s (tmpsOf o))):=⟨hN,λt y hy=>by obtain⟨h1,h2⟩:=lC hy;exact hs t h1 y h2⟩;obtain⟨vs,h1,h2⟩:=yx (P:=C.P) hsl hc' (tys:=tys) (dst:=o.dst) (ty:=o.type) (pos:=o.pos) (after:=o.after) (gd:=o.guard) hb;have ho':o=⟨o.dst,.call {callee:= .value f,args:=args.toArray,argTypes:=tys},o.type,o.pos,o.after,o.guard⟩:=by rw[<-ho]
 rw[<-ho']at h2;unfold Oper.wp;rw[h2 w,Oper.upon_enter];refine(h F w vs hh h1).mono ?_;rintro e w' ⟨r,L',hR,hv,hH,hx⟩;cases r with
 |ret x=>obtain⟨v,rfl,hv⟩:=hv;exact k1 v w' x L' hR hv hH hx
 |aT x=>obtain⟨v,rfl,hv⟩:=hv;exact k2 v w' x L' hR hv hH hx
theorem dG.panic {p:Operand} {t:TypeId} {y:AV} (ho:o.op= .panic p) (hp:ev s p=some (.bP t y)):dG C N o s L (λr L'=>r= .aT (.bP t y)/\L'=L):=λF w a hN _ hh hs K Q _ k2=>by
 have h1:=Y0 hN hs (by simp[ho,Op.operands]) hp;have h0:=h1;simp only[Rel]at h0;obtain⟨u,h0,_⟩:=h0;have hrun:(execOp a.eval o).run C.P w= .halt (.panic (.iface t u)) w:=by simp[execOp,ho,Instr.panic,h0]
 unfold Oper.wp;rw[hrun];rw[h0]at h1;exact k2 _ _ _ _ ⟨rfl,rfl⟩ h1 hh (Ext.refl L w)
end
def fj (ops:Array Oper) (i j:Nat):Bool:=match ops[j]? with
 |some o=>o.after.toList.any λe=>Region.binds .any e&&e.on==i
 |none=>false
def lu (C:Cx) (N:Nat) (ops:Array Oper) (o:Oper) (s:Sl) (L:List aq) (y:AV):Prop:=(lH ops o s=some true/\ck C N o s L y)\/(lH ops o s=some false/\y= .v undef)
abbrev gY:=List (Nat×Oper×AV)
def du (ops:Array Oper) (j:Nat) (pend:gY):gY:=pend.filter λp=>!fj ops p.1 j
def mc (C:Cx) (N:Nat) (ops:Array Oper) (pend:gY) (s:Sl) (L:List aq):Prop:=∀p∈pend,lu C N ops p.2.1 s L p.2.2
abbrev b6:=List (Nat×(Nat×List AV))
def cD (ops:Array Oper) (j:Nat) (A:b6):b6:=A.filter λp=>fj ops p.1 j
def cO (ops:Array Oper) (j:Nat) (A:b6):b6:=A.filter λp=>!fj ops p.1 j
def nk (A:b6):Nu:=A.map (·.2)
def ir (n:Nat) (zs:List ((Nat×List AV)×Nat)) (s:Sl):Sl:=λt=>match look (gX n zs) t with
 |some x=>some x
 |none=>s t
def gZ (C:Cx) (N:Nat) (ops:Array Oper) (o:Oper) (s:Sl) (L:List aq) (nx:Sl->List aq->Prop) (Qp:AV->List aq->Prop):Prop:=
 cP N o.dst=true/\((lH ops o s=some true/\∃R,dG C N o s L R/\(∀x L',R (.ret x) L'->nx (bm s o.dst (some x)) L')/\∀x L',R (.aT x) L'->Qp x L')\/
  (lH ops o s=some false/\nx (bm s o.dst (some (.v undef))) L))
def jj (C:Cx) (N:Nat) (ops:Array Oper) (Qn:Sl->List aq->Prop) (Qp:AV->List aq->Prop):Nat->b6->Array Bool->gY->Sl->List aq->Prop
 |0,_,listed,pend,s,L=>mc C N ops pend s L/\Region.ready .any ops listed=[]/\Qn s L
 |n+1,A,listed,pend,s,L=>mc C N ops pend s L/\(Region.ready .any ops listed=[]->Qn s L)/\∀j∈Region.ready .any ops listed,∃o,ops[j]? =some o/\
   jD (nk (cD ops j A)) λzs=>gZ C N ops o (ir L.length zs s) (L++dw zs) (jj C N ops Qn Qp n (cO ops j A) (listed.setIfInBounds j true) (du ops j pend)) Qp
section
variable {C:Cx} {N:Nat} {ops:Array Oper} {Qn:Sl->List aq->Prop} {Qp:AV->List aq->Prop}
theorem lu.congr {o:Oper} {s s':Sl} {L:List aq} {y:AV} (h:lu C N ops o s L y) (he:∀t∈o.looksAt ops,s' t=s t):lu C N ops o s' L y:=
 h.imp (λ⟨h1,h2⟩=>⟨by rw[xT he];exact h1,h2.congr λt ht=>he t (HW ht)⟩) λ⟨h1,h2⟩=>⟨by rw[xT he];exact h1,h2⟩
theorem gZ.mono {o:Oper} {s:Sl} {L:List aq} {nx nx':Sl->List aq->Prop} (h:gZ C N ops o s L nx Qp) (hn:∀s L,nx s L->nx' s L):gZ C N ops o s L nx' Qp:=
 ⟨h.1,h.2.imp (λ⟨h1,R,h2,h3,h4⟩=>⟨h1,R,h2,λx L' hR=>hn _ _ (h3 x L' hR),h4⟩) λ⟨h1,h2⟩=>⟨h1,hn _ _ h2⟩⟩
theorem yn:∀{W:Nu} {P:List ((Nat×List AV)×Nat)->Prop},(∀zs,zs.map (·.1)=W->P zs)->jD W P
 |[],_,h=>h [] rfl
 |p::W,P,h=>λb=>yn λzs hz=>h ((p,b)::zs) (by simp[hz])
theorem Eu {W:Nu} {P P':List ((Nat×List AV)×Nat)->Prop} (h:jD W P) (hi:∀zs,zs.map (·.1)=W->P zs->P' zs):jD W P':=yn λzs hz=>hi zs hz (Ei h zs hz)
theorem ae4 (n:Nat) (s:Sl):ir n [] s=s:=rfl
theorem abM:dw []=[]:=rfl
theorem yK {A:b6} {i:Nat} (hm:cD ops i A=[]) {n:Nat} {s:Sl} {L:List aq} {P:Sl->List aq->Prop} (h:P s L):jD (nk (cD ops i A)) λzs=>P (ir n zs s) (L++dw zs):=by
 rw[hm];show P (ir n [] s) (L++dw []);rw[ae4,abM,jO];exact h
theorem zd {A:b6} {i:Nat} (hm:cD ops i A=[]):cO ops i A=A:=by
 simp only[cD,aas,Bool.not_eq_true]at hm;simp only[cO,aat];intro p hp;rw[hm p hp];rfl
theorem ae5 {A:b6} {i j:Nat} (hm:cD ops i A=[]):cD ops i (cO ops j A)=[]:=by
 simp only[cD,cO,aas]at hm⊢;intro p hp;exact hm p (iN.1 hp).1
theorem SI:∀{n:Nat} {A:b6} {listed:Array Bool} {pend pend':gY} {s:Sl} {L:List aq},(∀p∈pend',p∈pend)->jj C N ops Qn Qp n A listed pend s L->jj C N ops Qn Qp n A listed pend' s L
 |0,_,_,_,_,_,_,hs,h=>⟨λp hp=>h.1 p (hs p hp),h.2⟩
 |n+1,_,_,_,_,_,_,hs,h=>⟨λp hp=>h.1 p (hs p hp),h.2.1,λj hj=>by
  obtain⟨o,ho,hst⟩:=h.2.2 j hj;refine⟨o,ho,Eu hst λzs _ hst=>hst.mono λs L=>SI λp hp=>?_⟩;simp only[du,iN]at hp⊢;exact⟨hs p hp.1,hp.2⟩⟩
theorem adu {n:Nat} {A:b6} {listed:Array Bool} {pend:gY} {s:Sl} {L:List aq} (h:jj C N ops Qn Qp n A listed pend s L):mc C N ops pend s L:=by
 cases n with
 |zero=>exact h.1
 |succ n=>exact h.1
theorem lu.step {o:Oper} {s:Sl} {L:List aq} {y:AV} (hd:cP N o.dst=true) (h:lu C N ops o s L y) {nx:Sl->List aq->Prop} (k:nx (bm s o.dst (some y)) L):gZ C N ops o s L nx Qp:=by
 refine⟨hd,h.imp (λ⟨h1,h2⟩=>⟨h1,_,dG.qW h2,?_,λx L' h=>by cases h.1⟩) λ⟨h1,h2⟩=>⟨h1,by subst h2;exact k⟩⟩;rintro x L' ⟨h1,rfl⟩;cases h1;exact k
theorem ae6 {n:Nat} {zs:List ((Nat×List AV)×Nat)} {s:Sl} {dst:Option Nat} {y:Option AV} (hd:∀z∈zs,dst≠some z.1.1):ir n zs (bm s dst y)=bm (ir n zs s) dst y:=by
 funext t;cases dst with
 |none=>rfl
 |some d=>
  simp only[ir,bm];by_cases ht:t=d
  ·subst ht;simp only[if_true];cases hl:look (gX n zs) t with
   |none=>rfl
   |some x=>
    have:look (gX n zs++[]) t=some x:=by simpa using hl
    rcases tY this with⟨z,hz,k,h1,_⟩|h
    ·exact absurd (by rw[h1]) (hd z hz)
    ·simp[look]at h
  ·simp only[ht,if_false]
def sy (stable:Bool) (p:Nat×Oper×AV) (pend:gY):gY:=match stable with
 |true=>pend
 |false=>p::pend
theorem QF {i:Nat} {oi:Oper} {y:AV} (stable:Bool) (hi:ops[i]? =some oi) (hown:∀d,oi.dst=some d->d∉oi.looksAt ops) (hdi:cP N oi.dst=true):
  ∀(n:Nat) (A:b6) (listed:Array Bool) (pend:gY) (s:Sl) (L:List aq),
   (∀j oj,ops[j]? =some oj->j≠i->listed.getD j true=false->(∀e∈oj.after,Region.binds .any e=true->e.on≠i)->oi.apart ops oj=true)->
   (∀p∈pend,∀d,oi.dst=some d->d∉p.2.1.looksAt ops)->mc C N ops pend s L->cD ops i A=[]->(∀p∈A,oi.dst≠some p.2.1/\p.2.1∉oi.looksAt ops)->
   i∈Region.ready .any ops listed->lu C N ops oi s L y->(stable=true->∀L',lu C N ops oi s L' y)->
   jj C N ops Qn Qp n A (listed.setIfInBounds i true) (sy stable (i,oi,y) pend) (bm s oi.dst (some y)) L->jj C N ops Qn Qp (n+1) A listed pend s L:=by
 intro n;have same:∀(n:Nat) (A:b6) (listed:Array Bool) (pend:gY) (s:Sl) (L:List aq),cD ops i A=[]->lu C N ops oi s L y->jj C N ops Qn Qp n A (listed.setIfInBounds i true) (sy stable (i,oi,y) pend) (bm s oi.dst (some y)) L->
   jD (nk (cD ops i A)) λzs=>gZ C N ops oi (ir L.length zs s) (L++dw zs) (jj C N ops Qn Qp n (cO ops i A) (listed.setIfInBounds i true) (du ops i pend)) Qp:=by
  intro n A listed pend s L hm hv H;refine yK (P:=λs L=>gZ C N ops oi s L (jj C N ops Qn Qp n (cO ops i A) (listed.setIfInBounds i true) (du ops i pend)) Qp) hm ?_;rw[zd hm];refine hv.step hdi (SI (λp hp=>?_) H);simp only[du,iN]at hp;cases stable with
  |true=>exact hp.1
  |false=>exact DJ _ hp.1
 induction n with
 |zero=>
  intro A listed pend s L hfree hpd hpo hm hAd hr hv hstb H;refine⟨hpo,λh=>(by rw[h]at hr;cases hr),λj hj=>?_⟩;by_cases hji:j=i
  ·subst hji;exact⟨oi,hi,same 0 A listed pend s L hm hv H⟩
  ·exfalso;have:=ready_mono hj hji;rw[H.2.1]at this;cases this
 |succ n ih=>
  intro A listed pend s L hfree hpd hpo hm hAd hr hv hstb H;refine⟨hpo,λh=>(by rw[h]at hr;cases hr),λj hj=>?_⟩;by_cases hji:j=i
  ·subst hji;exact⟨oi,hi,same (n+1) A listed pend s L hm hv H⟩
  ·obtain⟨oj,hoj,hst⟩:=H.2.2 j (ready_mono hj hji);obtain⟨hjun,oj',hoj',hall⟩:=mem_ready.1 hj;rw[hoj]at hoj';cases hoj';have hnot:∀e∈oj.after,Region.binds .any e=true->e.on≠i:=λe he hb heq=>by
    have h1:=hall e he hb;have h0:=(mem_ready.1 hr).1;rw[heq]at h1;rcases nE i listed.size with h'|h'
    ·simp[h']at h0 h1;rw[h0]at h1;cases h1
    ·simp[tq h']at h1
   have hb1:fj ops i j=false:=by
    unfold fj;rw[hoj];simp only[aau,Bool.not_eq_true,Bool.and_eq_false_iff];intro q hq;cases hb:Region.binds .any q with
    |false=>exact .inl rfl
    |true=>exact .inr (by simpa using hnot _ (by simpa using hq) hb)
   obtain⟨a1,a2,a3⟩:=Oper.apart_spec (hfree j oj hoj hji hjun hnot);refine⟨oj,hoj,Eu hst λzs hz hst=>?_⟩;have hzA:∀z∈zs,∃p∈A,p.2.1=z.1.1:=λz hzm=>by
    have:z.1∈nk (cD ops j A):=by rw[<-hz];exact dP.2 ⟨z,hzm,rfl⟩
    simp only[nk,cD,dP,iN]at this;obtain⟨p,hp,he⟩:=this;exact⟨p,hp.1,by rw[he]⟩
   have hzd:∀z∈zs,oi.dst≠some z.1.1:=λz hzm=>by
    obtain⟨p,hp,he⟩:=hzA z hzm;rw[<-he];exact(hAd p hp).1
   rw[ae6 hzd]at hst;have hui:∀t∈oi.looksAt ops,ir L.length zs s t=s t:=λt ht=>by
    simp only[ir];cases hl:look (gX L.length zs) t with
    |none=>rfl
    |some x=>
     have:look (gX L.length zs++[]) t=some x:=by simpa using hl
     rcases tY this with⟨z,hzm,k,h1,_⟩|h
     ·obtain⟨p,hp,he⟩:=hzA z hzm;exact absurd (by rw[he,<-h1];exact ht) (hAd p hp).2
     ·simp[look]at h
   have hvst:stable=true->∀L',lu C N ops oi (ir L.length zs s) L' y:=λhs L'=>(hstb hs L').congr hui;generalize ir L.length zs s=s1 at hst hvst⊢;generalize L++dw zs=L1 at hst⊢;have hs1:∀t∈oj.looksAt ops,s1 t=bm s1 oi.dst (some y) t:=λt ht=>(nI λd hd he=>a1 d hd (he▸ht)).symm;have hnext:∀x L',jj C N ops Qn Qp n (cO ops j A) ((listed.setIfInBounds i true).setIfInBounds j true) (du ops j (sy stable (i,oi,y) pend)) (bm (bm s1 oi.dst (some y)) oj.dst (some x)) L'->
     jj C N ops Qn Qp (n+1) (cO ops j A) (listed.setIfInBounds j true) (du ops j pend) (bm s1 oj.dst (some x)) L':=by
    intro x L' hk;have hkp:du ops j (sy stable (i,oi,y) pend)=sy stable (i,oi,y) (du ops j pend):=by
     cases stable with
     |true=>rfl
     |false=>simp[du,sy,hb1]
    rw[hkp]at hk;have hpo':=adu hk;have hcongr:∀(o:Oper),(∀d,oi.dst=some d->d∉o.looksAt ops)->∀t∈o.looksAt ops,bm s1 oj.dst (some x) t=bm (bm s1 oi.dst (some y)) oj.dst (some x) t:=by
     intro o ho t ht;cases hdj:oj.dst with
     |none=>exact(nI λd hd he=>ho d hd (he▸ht)).symm
     |some e=>
      simp only[bm];split
      ·rfl
      ·exact(nI λd hd he=>ho d hd (he▸ht)).symm
    have hstab2:stable=true->∀L',lu C N ops oi (bm s1 oj.dst (some x)) L' y:=λhs L'=>(hvst hs L').congr λt ht=>nI λd hd he=>a3 d hd (he▸ht);refine ih _ _ _ _ _ ?_ (λp hp=>hpd p (by simp only[du,iN]at hp;exact hp.1)) (λp hp=>?_) (ae5 hm) (λp hp=>hAd p (iN.1 hp).1) (ready_mono hr (jm hji)) ?_ hstab2 ?_
    ·intro k ok hk' hki hun hno;refine hfree k ok hk' hki ?_ hno;by_cases hjk:j=k
     ·subst hjk;exact hjun
     ·rw[getD_set_ne true hjk]at hun;exact hun
    ·refine(hpo' p ?_).congr (hcongr p.2.1 (hpd p (by simp only[du,iN]at hp;exact hp.1)));cases stable with
     |true=>exact hp
     |false=>exact DJ _ hp
    ·cases hsb:stable with
     |true=>exact hstab2 hsb L'
     |false=>
      subst hsb;exact(hpo' (i,oi,y) (by simp[sy])).congr (hcongr oi hown)
    ·rw[aap _ _ hji,<-Qr s1 (some y) (some x) a2];exact hk
   refine⟨hst.1,?_⟩;rcases hst.2 with⟨h1,R,h2,h3,h4⟩|⟨h1,h2⟩
   ·refine .inl ⟨by rw[xT hs1];exact h1,R,h2.congr λt ht=>hs1 t (HW ht),λx L' hR=>hnext x L' (h3 x L' hR),h4⟩
   ·exact .inr ⟨by rw[xT hs1];exact h1,hnext _ _ h2⟩
inductive TK where
 |one
 |fl
 |two
def kC (C:Cx) (N:Nat) (ops:Array Oper) (Qn:Sl->List aq->Prop) (Qp:AV->List aq->Prop):List (Nat×Oper×TK)->b6->gY->Sl->List aq->Prop
 |[],_,pend,s,L=>mc C N ops pend s L/\Qn s L
 |(i,o,.fl)::r,A,pend,s,L=>mc C N ops pend s L/\cP N o.dst=true/\∃y,(lu C N ops o s L y/\kC C N ops Qn Qp r A ((i,o,y)::pend) (bm s o.dst (some y)) L)\/((∀L',lu C N ops o s L' y)/\kC C N ops Qn Qp r A pend (bm s o.dst (some y)) L)
 |(i,o,.one)::r,A,pend,s,L=>mc C N ops pend s L/\jD (nk (cD ops i A)) λzs=>gZ C N ops o (ir L.length zs s) (L++dw zs) (kC C N ops Qn Qp r (cO ops i A) (du ops i pend)) Qp
 |[(_,_,.two)],_,_,_,_=>False
 |(i,o,.two)::(j,o',_)::r,A,pend,s,L=>mc C N ops pend s L/\gZ C N ops o s L (λs1 L1=>mc C N ops (du ops i pend) s1 L1/\gZ C N ops o' s1 L1 (kC C N ops Qn Qp r A (du ops j (du ops i pend))) Qp) Qp/\
   gZ C N ops o' s L (λs1 L1=>mc C N ops (du ops j pend) s1 L1/\gZ C N ops o s1 L1 (kC C N ops Qn Qp r A (du ops j (du ops i pend))) Qp) Qp
def FY (ops:Array Oper) (dst:Option Nat) (o:Oper):Bool:=match dst with
 |none=>true
 |some d=>!(o.looksAt ops).contains d
def FX (dst:Option Nat) (d:Nat):Bool:=match dst with
 |none=>true
 |some e=>!Nat.beq e d
def ou (ops:Array Oper):List (Nat×Oper×TK)->Array Bool->List (Nat×Oper)->List (Nat×Nat)->Bool
 |[],listed,_,_=>(Region.ready .any ops listed).isEmpty
 |(i,o,.fl)::r,listed,pi,al=>(match ops[i]? with
   |some _=>true
   |none=>false)&&(Region.ready .any ops listed).contains i&&Region.free .any ops listed i&&FY ops o.dst o&&(pi.all λp=>FY ops o.dst p.2)&&(al.all λa=>!fj ops a.1 i&&FX o.dst a.2&& !(o.looksAt ops).contains a.2)&&ou ops r (listed.setIfInBounds i true) ((i,o)::pi) al
 |(i,_,.one)::r,listed,pi,al=>decide (Region.ready .any ops listed=[i])&&ou ops r (listed.setIfInBounds i true) (pi.filter λp=>!fj ops p.1 i) (al.filter λa=>!fj ops a.1 i)
 |[(_,_,.two)],_,_,_=>false
 |(i,_,.two)::(j,_,_)::r,listed,pi,al=>decide (i≠j)&&(Region.ready .any ops listed).all (λk=>Nat.beq k i||Nat.beq k j)&&(Region.ready .any ops listed).contains i&&decide (Region.ready .any ops (listed.setIfInBounds i true)=[j])&&decide (Region.ready .any ops (listed.setIfInBounds j true)=[i])&&
   (al.all λa=>!fj ops a.1 i&& !fj ops a.1 j)&&ou ops r ((listed.setIfInBounds i true).setIfInBounds j true) ((pi.filter λp=>!fj ops p.1 i).filter λp=>!fj ops p.1 j) al
def kU (ops:Array Oper):List (Nat×TK)->List (Nat×Oper×TK)
 |[]=>[]
 |(i,b)::r=>match ops[i]? with
  |some o=>(i,o,b)::kU ops r
  |none=>kU ops r
theorem Io:∀{l:List (Nat×TK)} {p:Nat×Oper×TK},p∈kU ops l->ops[p.1]? =some p.2.1
 |[],_,h=>by simp[kU]at h
 |(i,b)::r,p,h=>by
  simp only[kU]at h;split at h
  ·rename_i o ho;rcases cq.1 h with rfl|h
   ·exact ho
   ·exact Io h
  ·exact Io h
theorem PZ {dst:Option Nat} {d:Nat} (h:FX dst d=true):dst≠some d:=by
 intro e;subst e;simp[FX]at h
theorem I1 {A:b6} {i:Nat} (h:∀p∈A,fj ops p.1 i=false):cD ops i A=[]:=by
 simp only[cD,aas];intro p hp;rw[h p hp];simp
theorem zO:∀(l:List (Nat×Oper×TK)) (A:b6) (listed:Array Bool) (pend:gY) (pi:List (Nat×Oper)) (s:Sl) (L:List aq),(∀p∈l,ops[p.1]? =some p.2.1)->(∀p∈pend,(p.1,p.2.1)∈pi)->ou ops l listed pi (A.map λp=>(p.1,p.2.1))=true->
  kC C N ops Qn Qp l A pend s L->jj C N ops Qn Qp l.length A listed pend s L
 |[],A,listed,pend,pi,s,L,_,_,hB,h=>⟨h.1,by simpa[ou]using hB,h.2⟩
 |(i,o,.fl)::r,A,listed,pend,pi,s,L,hg,hpi,hB,h=>by
  simp only[ou,bS]at hB;obtain⟨⟨⟨⟨⟨⟨_,h1⟩,h2⟩,h3⟩,h4⟩,h6⟩,h5⟩:=hB;have hi:=hg (i,o,.fl) (by simp);simp only at hi;obtain⟨hpo,hd,y,hk⟩:=h;have hdis:∀(o':Oper),FY ops o.dst o'=true->∀d,o.dst=some d->d∉o'.looksAt ops:=by
   intro o' ho' d hd;simp only[FY,hd]at ho';simpa using ho'
  simp only[gf,dP,bS,kL]at h6;have hm:cD ops i A=[]:=I1 λp hp=>(h6 (p.1,p.2.1) ⟨p,hp,rfl⟩).1.1;have hAd:∀p∈A,o.dst≠some p.2.1/\p.2.1∉o.looksAt ops:=λp hp=>by
   have:=h6 (p.1,p.2.1) ⟨p,hp,rfl⟩;exact⟨PZ this.1.2,by simpa using this.2⟩
  have hpd:∀p∈pend,∀d,o.dst=some d->d∉p.2.1.looksAt ops:=λp hp=>by
   refine hdis p.2.1 ?_;simp only[gf]at h4;exact h4 (p.1,p.2.1) (hpi p hp)
  have hfr:∀j oj,ops[j]? =some oj->j≠i->listed.getD j true=false->(∀e∈oj.after,Region.binds .any e=true->e.on≠i)->o.apart ops oj=true:=λj oj hj hne hun hno=>Region.free_spec hi h2 j oj hj hne hun hno;rcases hk with⟨hv,hk⟩|⟨hv,hk⟩
  ·refine QF false hi (hdis o h3) hd r.length A listed pend s L hfr hpd hpo hm hAd (by simpa using h1) hv (λe=>by cases e) ?_;refine zO r A _ _ ((i,o)::pi) _ _ (λp hp=>hg p (by simp[hp])) (λp hp=>?_) h5 hk;rcases cq.1 hp with rfl|hp
   ·simp
   ·exact DJ _ (hpi p hp)
  ·refine QF true hi (hdis o h3) hd r.length A listed pend s L hfr hpd hpo hm hAd (by simpa using h1) (hv L) (λ_=>hv) ?_;exact zO r A _ _ ((i,o)::pi) _ _ (λp hp=>hg p (by simp[hp])) (λp hp=>DJ _ (hpi p hp)) h5 hk
 |(i,o,.one)::r,A,listed,pend,pi,s,L,hg,hpi,hB,h=>by
  simp only[ou,bS,jQ]at hB;refine⟨h.1,λh0=>(by rw[h0]at hB;cases hB.1),λj hj=>?_⟩;rw[hB.1,iZ]at hj;subst hj;have hi:=hg (j,o,.one) (by simp);refine⟨o,hi,Eu h.2 λzs _ hst=>hst.mono λs' L' hk=>?_⟩;refine zO r _ _ _ (pi.filter λp=>!fj ops p.1 j) _ _ (λp hp=>hg p (by simp[hp])) (λp hp=>?_) ?_ hk
  ·simp only[du,iN]at hp⊢;exact⟨hpi p hp.1,hp.2⟩
  ·have:(cO ops j A).map (λp=>(p.1,p.2.1))=(A.map λp=>(p.1,p.2.1)).filter λp=>!fj ops p.1 j:=by
    simp[cO,List.filter_map,Function.comp_def]
   rw[this];exact hB.2
 |[(_,_,.two)],_,_,_,_,_,_,_,_,hB,_=>by simp[ou]at hB
 |(i,o,.two)::(j,o',x)::r,A,listed,pend,pi,s,L,hg,hpi,hB,h=>by
  simp only[ou,bS,jQ]at hB;obtain⟨⟨⟨⟨⟨⟨hne,hall⟩,hin⟩,hj⟩,hi⟩,hal⟩,hr⟩:=hB;have gi:=hg (i,o,.two) (by simp);have gj:=hg (j,o',x) (by simp);simp only at gi gj;simp only[gf,dP,bS,kL]at hal;have hmi:cD ops i A=[]:=I1 λp hp=>(hal (p.1,p.2.1) ⟨p,hp,rfl⟩).1;have hmj:cD ops j A=[]:=I1 λp hp=>(hal (p.1,p.2.1) ⟨p,hp,rfl⟩).2;obtain⟨hpo,h1,h2⟩:=h;have fin:∀s' L',kC C N ops Qn Qp r A (du ops j (du ops i pend)) s' L'->jj C N ops Qn Qp r.length A ((listed.setIfInBounds i true).setIfInBounds j true) (du ops j (du ops i pend)) s' L':=λs' L' hk=>by
   refine zO r A _ _ ((pi.filter λp=>!fj ops p.1 i).filter λp=>!fj ops p.1 j) _ _ (λp hp=>hg p (by simp[hp])) (λp hp=>?_) hr hk;simp only[du,iN]at hp⊢;exact⟨⟨hpi p hp.1.1,hp.1.2⟩,hp.2⟩
  have hcomm:du ops i (du ops j pend)=du ops j (du ops i pend):=by
   simp only[du,List.filter_filter,Bool.and_comm]
  refine⟨hpo,λh0=>(by rw[h0]at hin;simp at hin),λk hk=>?_⟩;simp only[gf,tz]at hall;rcases hall k hk with hk'|hk'
  ·have hk':=bQ hk';subst hk';refine⟨o,gi,yK (P:=λs L=>gZ C N ops o s L (jj C N ops Qn Qp (r.length+1) (cO ops k A) (listed.setIfInBounds k true) (du ops k pend)) Qp) hmi ?_⟩;rw[zd hmi];refine h1.mono λs1 L1 hs1=>⟨hs1.1,λh0=>(by rw[h0]at hj;cases hj),λq hq=>?_⟩;rw[hj,iZ]at hq;subst hq;refine⟨o',gj,yK (P:=λs L=>gZ C N ops o' s L (jj C N ops Qn Qp r.length (cO ops q A) ((listed.setIfInBounds k true).setIfInBounds q true) (du ops q (du ops k pend))) Qp) hmj ?_⟩;rw[zd hmj];exact hs1.2.mono fin
  ·have hk':=bQ hk';subst hk';refine⟨o',gj,yK (P:=λs L=>gZ C N ops o' s L (jj C N ops Qn Qp (r.length+1) (cO ops k A) (listed.setIfInBounds k true) (du ops k pend)) Qp) hmj ?_⟩;rw[zd hmj];refine h2.mono λs1 L1 hs1=>⟨hs1.1,λh0=>(by rw[h0]at hi;cases hi),λq hq=>?_⟩;rw[hi,iZ]at hq;subst hq;refine⟨o,gi,yK (P:=λs L=>gZ C N ops o s L (jj C N ops Qn Qp r.length (cO ops q A) ((listed.setIfInBounds k true).setIfInBounds q true) (du ops q (du ops k pend))) Qp) hmi ?_⟩;rw[zd hmi];refine hs1.2.mono λs' L' hk'=>?_;rw[hcomm,aap _ _ (jm hne)];exact fin s' L' hk'
