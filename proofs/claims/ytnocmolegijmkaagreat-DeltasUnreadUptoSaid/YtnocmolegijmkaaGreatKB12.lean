/- The program logic, twelfth part: the tail of an open region once more: operations that act come in a fixed order; values may float about them, if they are the same behind them. -/
import Derived.Test.YtnocmolegijmkaaGreatKB10
set_option linter.all false
noncomputable section
namespace Go.Bw
open Go
def dD (C:Cx) (N:Nat) (o:Oper) (s:Sl) (L:List aw) (R:AR->List aw->Prop):Prop:=
 ∀F w (a:Act),a.tmps.size=N->a.defers=[]->bG C.G w F L->lS w (Al F L) N a o s->∀(K:Act->World->Prop) (Q:Exit->Act->World->Prop),
  (∀v w' x L',R (.ret x) L'->Rel w' (Al F L') x v->bG C.G w' F L'->Ext L w L' w'->K (a.put o.dst v) w')->
  (∀v w' x L',R (.aS x) L'->Rel w' (Al F L') x v->bG C.G w' F L'->Ext L w L' w'->Q (.panic [{v,recovered:=false}]) a w')->o.wp C.P a w K Q
section
variable {C:Cx} {N:Nat} {o:Oper} {s s':Sl} {L:List aw} {x:AV} {R R':AR->List aw->Prop}
theorem dD.congr (h:dD C N o s L R) (he:∀t∈tmpsOf o,s' t=s t):dD C N o s' L R:=λF w a h1 h2 h3 h4=>h F w a h1 h2 h3 (h4.congr he)
theorem dD.mono (h:dD C N o s L R) (hr:∀r L',R r L'->R' r L'):dD C N o s L R':=λF w a h1 h2 h3 h4 K Q k1 k2=>
 h F w a h1 h2 h3 h4 K Q (λv w' x L' hR=>k1 v w' x L' (hr _ _ hR)) (λv w' x L' hR=>k2 v w' x L' (hr _ _ hR))
theorem dD.qy (h:bZ C N o s L x):dD C N o s L (λr L'=>r= .ret x/\L'=L):=λF w a h1 h2 h3 h4 K Q k1 _=>
 h F w a h1 h2 h3 h4 K Q λv w' hv hc=>k1 v w' x L ⟨rfl,rfl⟩ hv (h3.later hc.2.2.2) hc.ext
theorem dD.xd {cells:List AV} {d:Nat} (hd:o.dst=some d) (h:gl C N o s L cells):dD C N o s L (λr L'=>∃b,r= .ret (.own L.length b 0)/\L'=L++[.box b cells]):=λF w a h1 h2 h3 h4 K Q k1 _=>
 h F w a h1 h2 h3 h4 K Q λvs e hv=>by
  have hext:=nb w (.cells vs.toArray e) L (.box w.heap.size cells) (by simp[aw.ids]);have hh:bG C.G (w.alloc (.cells vs.toArray e)) F (L++[.box w.heap.size cells]):=by
   refine h3.push (by simp) (λb hb=>kS w _ b hb) (by simp[aw.ids]) (by simp[aw.ids]) ?_;exact⟨e,vs,lI w _,hv.keep hext.keeps⟩
  exact k1 _ _ _ _ ⟨_,rfl,rfl⟩ (by simp only[Rel]) hh hext
theorem dD.GB {R0:AV->List aw->Prop} (h:oQ C N o (dV s (tmpsOf o)) L R0):dD C N o s L (λr L'=>∃y,r= .ret y/\R0 y L'):=λF w a hN hd hh hs K Q k1 _=>by
 have hst:St C.G N w F a (dV s (tmpsOf o)) L:=⟨⟨hN,λt y hy=>by obtain⟨h1,h2⟩:=kU hy;exact hs t h1 y h2⟩,hh,hd⟩;obtain⟨v,w',y,L',hR,h1,h2,h3,h4⟩:=h F a w hst;unfold Oper.wp;rw[h1,Oper.upon_value];exact k1 v w' y L' ⟨y,rfl,hR⟩ h2 h3 h4
theorem dD.Z4 {L':List aw} (h:Ck C N o (dV s (tmpsOf o)) L L'):dD C N o s L (λr L1=>r= .ret (.v undef)/\L1=L'):=λF w a hN hd hh hs K Q k1 _=>by
 have hst:St C.G N w F a (dV s (tmpsOf o)) L:=⟨⟨hN,λt y hy=>by obtain⟨h1,h2⟩:=kU hy;exact hs t h1 y h2⟩,hh,hd⟩;obtain⟨w',h1,h2,h3⟩:=h F a w hst;unfold Oper.wp;rw[h1,Oper.upon_skip];exact k1 undef w' _ _ ⟨rfl,rfl⟩ (by simp only[Rel]) h2 h3
theorem dD.VY {f:Operand} {args:List Operand} {g:FuncId} {ys:List AV} {tys:Array TypeId} (ho:o.op= .call {callee:= .value f,args:=args.toArray,argTypes:=tys}) (hc:callee s f args=some (g,ys)) (hb:ph C.P g)
  (h:∀F w vs,bG C.G w F L->aL w (Al F L) ys vs->Calls C.P g vs.toArray w λe w'=>∃r L',R r L'/\AR.rel w' (Al F L') r e/\bG C.G w' F L'/\Ext L w L' w'):dD C N o s L R:=λF w a hN _ hh hs K Q k1 k2=>by
 have hmem:∀p,p=f\/p∈args->p∈o.op.operands.toList:=by
  rintro p hp;rw[ho];rcases hp with rfl|hp
  ·simp[Op.operands,Call.operands]
  ·simp[Op.operands,Call.operands,hp]
 have hc':callee (look (dV s (tmpsOf o))) f args=some (g,ys):=by
  unfold callee at hc⊢;rw[fK (hmem f (.inl rfl)),tr λp hp=>fK (hmem p (.inr hp))];exact hc
 have hsl:gz w (Al F L) N a (look (dV s (tmpsOf o))):=⟨hN,λt y hy=>by obtain⟨h1,h2⟩:=kU hy;exact hs t h1 y h2⟩;obtain⟨vs,h1,h2⟩:=xL (P:=C.P) hsl hc' (tys:=tys) (dst:=o.dst) (ty:=o.type) (pos:=o.pos) (after:=o.after) (gd:=o.guard) hb;have ho':o=⟨o.dst,.call {callee:= .value f,args:=args.toArray,argTypes:=tys},o.type,o.pos,o.after,o.guard⟩:=by rw[<-ho]
 rw[<-ho']at h2;unfold Oper.wp;rw[h2 w,Oper.upon_enter];refine(h F w vs hh h1).mono ?_;rintro e w' ⟨r,L',hR,hv,hH,hx⟩;cases r with
 |ret x=>obtain⟨v,rfl,hv⟩:=hv;exact k1 v w' x L' hR hv hH hx
 |aS x=>obtain⟨v,rfl,hv⟩:=hv;exact k2 v w' x L' hR hv hH hx
theorem dD.panic {p:Operand} {t:TypeId} {y:AV} (ho:o.op= .panic p) (hp:ev s p=some (.bJ t y)):dD C N o s L (λr L'=>r= .aS (.bJ t y)/\L'=L):=λF w a hN _ hh hs K Q _ k2=>by
 have h1:=Z5 hN hs (by simp[ho,Op.operands]) hp;have h0:=h1;simp only[Rel]at h0;obtain⟨u,h0,_⟩:=h0;have hrun:(execOp a.eval o).run C.P w= .halt (.panic (.iface t u)) w:=by simp[execOp,ho,Instr.panic,h0]
 unfold Oper.wp;rw[hrun];rw[h0]at h1;exact k2 _ _ _ _ ⟨rfl,rfl⟩ h1 hh (Ext.refl L w)
end
def eY (ops:Array Oper) (i j:Nat):Bool:=match ops[j]? with
 |some o=>o.after.toList.any λe=>Region.binds .any e&&e.on==i
 |none=>false
def kL (C:Cx) (N:Nat) (ops:Array Oper) (o:Oper) (s:Sl) (L:List aw) (y:AV):Prop:=(kW ops o s=some true/\bZ C N o s L y)\/(kW ops o s=some false/\y= .v undef)
abbrev gM:=List (Nat×Oper×AV)
def dp (ops:Array Oper) (j:Nat) (pend:gM):gM:=pend.filter λp=>!eY ops p.1 j
def lQ (C:Cx) (N:Nat) (ops:Array Oper) (pend:gM) (s:Sl) (L:List aw):Prop:=∀p∈pend,kL C N ops p.2.1 s L p.2.2
abbrev bS:=List (Nat×(Nat×List AV))
def cw (ops:Array Oper) (j:Nat) (A:bS):bS:=A.filter λp=>eY ops p.1 j
def cJ (ops:Array Oper) (j:Nat) (A:bS):bS:=A.filter λp=>!eY ops p.1 j
def mO (A:bS):Nu:=A.map (·.2)
def gW (n:Nat) (zs:List ((Nat×List AV)×Nat)) (s:Sl):Sl:=λt=>match look (gL n zs) t with
 |some x=>some x
 |none=>s t
def gN (C:Cx) (N:Nat) (ops:Array Oper) (o:Oper) (s:Sl) (L:List aw) (nx:Sl->List aw->Prop) (Qp:AV->List aw->Prop):Prop:=
 cK N o.dst=true/\((kW ops o s=some true/\∃R,dD C N o s L R/\(∀x L',R (.ret x) L'->nx (bj s o.dst (some x)) L')/\∀x L',R (.aS x) L'->Qp x L')\/
  (kW ops o s=some false/\nx (bj s o.dst (some (.v undef))) L))
def iU (C:Cx) (N:Nat) (ops:Array Oper) (Qn:Sl->List aw->Prop) (Qp:AV->List aw->Prop):Nat->bS->Array Bool->gM->Sl->List aw->Prop
 |0,_,listed,pend,s,L=>lQ C N ops pend s L/\Region.ready .any ops listed=[]/\Qn s L
 |n+1,A,listed,pend,s,L=>lQ C N ops pend s L/\(Region.ready .any ops listed=[]->Qn s L)/\∀j∈Region.ready .any ops listed,∃o,ops[j]? =some o/\
   jj (mO (cw ops j A)) λzs=>gN C N ops o (gW L.length zs s) (L++dt zs) (iU C N ops Qn Qp n (cJ ops j A) (listed.setIfInBounds j true) (dp ops j pend)) Qp
section
variable {C:Cx} {N:Nat} {ops:Array Oper} {Qn:Sl->List aw->Prop} {Qp:AV->List aw->Prop}
theorem kL.congr {o:Oper} {s s':Sl} {L:List aw} {y:AV} (h:kL C N ops o s L y) (he:∀t∈o.looksAt ops,s' t=s t):kL C N ops o s' L y:=
 h.imp (λ⟨h1,h2⟩=>⟨by rw[xz he];exact h1,h2.congr λt ht=>he t (HB ht)⟩) λ⟨h1,h2⟩=>⟨by rw[xz he];exact h1,h2⟩
theorem gN.mono {o:Oper} {s:Sl} {L:List aw} {nx nx':Sl->List aw->Prop} (h:gN C N ops o s L nx Qp) (hn:∀s L,nx s L->nx' s L):gN C N ops o s L nx' Qp:=
 ⟨h.1,h.2.imp (λ⟨h1,R,h2,h3,h4⟩=>⟨h1,R,h2,λx L' hR=>hn _ _ (h3 x L' hR),h4⟩) λ⟨h1,h2⟩=>⟨h1,hn _ _ h2⟩⟩
theorem xK:∀{W:Nu} {P:List ((Nat×List AV)×Nat)->Prop},(∀zs,zs.map (·.1)=W->P zs)->jj W P
 |[],_,h=>h [] rfl
 |p::W,P,h=>λb=>xK λzs hz=>h ((p,b)::zs) (by simp[hz])
theorem Em {W:Nu} {P P':List ((Nat×List AV)×Nat)->Prop} (h:jj W P) (hi:∀zs,zs.map (·.1)=W->P zs->P' zs):jj W P':=xK λzs hz=>hi zs hz (D' h zs hz)
theorem afb (n:Nat) (s:Sl):gW n [] s=s:=rfl
theorem abN:dt []=[]:=rfl
theorem xS {A:bS} {i:Nat} (hm:cw ops i A=[]) {n:Nat} {s:Sl} {L:List aw} {P:Sl->List aw->Prop} (h:P s L):jj (mO (cw ops i A)) λzs=>P (gW n zs s) (L++dt zs):=by
 rw[hm];show P (gW n [] s) (L++dt []);rw[afb,abN,jx];exact h
theorem yh {A:bS} {i:Nat} (hm:cw ops i A=[]):cJ ops i A=A:=by
 simp only[cw,aat,Bool.not_eq_true]at hm;simp only[cJ,aau];intro p hp;rw[hm p hp];rfl
theorem afc {A:bS} {i j:Nat} (hm:cw ops i A=[]):cw ops i (cJ ops j A)=[]:=by
 simp only[cw,cJ,aat]at hm⊢;intro p hp;exact hm p (iw.1 hp).1
theorem TY:∀{n:Nat} {A:bS} {listed:Array Bool} {pend pend':gM} {s:Sl} {L:List aw},(∀p∈pend',p∈pend)->iU C N ops Qn Qp n A listed pend s L->iU C N ops Qn Qp n A listed pend' s L
 |0,_,_,_,_,_,_,hs,h=>⟨λp hp=>h.1 p (hs p hp),h.2⟩
 |n+1,_,_,_,_,_,_,hs,h=>⟨λp hp=>h.1 p (hs p hp),h.2.1,λj hj=>by
  obtain⟨o,ho,hst⟩:=h.2.2 j hj;refine⟨o,ho,Em hst λzs _ hst=>hst.mono λs L=>TY λp hp=>?_⟩;simp only[dp,iw]at hp⊢;exact⟨hs p hp.1,hp.2⟩⟩
theorem adz {n:Nat} {A:bS} {listed:Array Bool} {pend:gM} {s:Sl} {L:List aw} (h:iU C N ops Qn Qp n A listed pend s L):lQ C N ops pend s L:=by
 cases n with
 |zero=>exact h.1
 |succ n=>exact h.1
theorem kL.step {o:Oper} {s:Sl} {L:List aw} {y:AV} (hd:cK N o.dst=true) (h:kL C N ops o s L y) {nx:Sl->List aw->Prop} (k:nx (bj s o.dst (some y)) L):gN C N ops o s L nx Qp:=by
 refine⟨hd,h.imp (λ⟨h1,h2⟩=>⟨h1,_,dD.qy h2,?_,λx L' h=>by cases h.1⟩) λ⟨h1,h2⟩=>⟨h1,by subst h2;exact k⟩⟩;rintro x L' ⟨h1,rfl⟩;cases h1;exact k
theorem afd {n:Nat} {zs:List ((Nat×List AV)×Nat)} {s:Sl} {dst:Option Nat} {y:Option AV} (hd:∀z∈zs,dst≠some z.1.1):gW n zs (bj s dst y)=bj (gW n zs s) dst y:=by
 funext t;cases dst with
 |none=>rfl
 |some d=>
  simp only[gW,bj];by_cases ht:t=d
  ·subst ht;simp only[if_true];cases hl:look (gL n zs) t with
   |none=>rfl
   |some x=>
    have:look (gL n zs++[]) t=some x:=by simpa using hl
    rcases tu this with⟨z,hz,k,h1,_⟩|h
    ·exact absurd (by rw[h1]) (hd z hz)
    ·simp[look]at h
  ·simp only[ht,if_false]
def rV (stable:Bool) (p:Nat×Oper×AV) (pend:gM):gM:=match stable with
 |true=>pend
 |false=>p::pend
theorem RN {i:Nat} {oi:Oper} {y:AV} (stable:Bool) (hi:ops[i]? =some oi) (hown:∀d,oi.dst=some d->d∉oi.looksAt ops) (hdi:cK N oi.dst=true):
  ∀(n:Nat) (A:bS) (listed:Array Bool) (pend:gM) (s:Sl) (L:List aw),
   (∀j oj,ops[j]? =some oj->j≠i->listed.getD j true=false->(∀e∈oj.after,Region.binds .any e=true->e.on≠i)->oi.apart ops oj=true)->
   (∀p∈pend,∀d,oi.dst=some d->d∉p.2.1.looksAt ops)->lQ C N ops pend s L->cw ops i A=[]->(∀p∈A,oi.dst≠some p.2.1/\p.2.1∉oi.looksAt ops)->
   i∈Region.ready .any ops listed->kL C N ops oi s L y->(stable=true->∀L',kL C N ops oi s L' y)->
   iU C N ops Qn Qp n A (listed.setIfInBounds i true) (rV stable (i,oi,y) pend) (bj s oi.dst (some y)) L->iU C N ops Qn Qp (n+1) A listed pend s L:=by
 intro n;have same:∀(n:Nat) (A:bS) (listed:Array Bool) (pend:gM) (s:Sl) (L:List aw),cw ops i A=[]->kL C N ops oi s L y->iU C N ops Qn Qp n A (listed.setIfInBounds i true) (rV stable (i,oi,y) pend) (bj s oi.dst (some y)) L->
   jj (mO (cw ops i A)) λzs=>gN C N ops oi (gW L.length zs s) (L++dt zs) (iU C N ops Qn Qp n (cJ ops i A) (listed.setIfInBounds i true) (dp ops i pend)) Qp:=by
  intro n A listed pend s L hm hv H;refine xS (P:=λs L=>gN C N ops oi s L (iU C N ops Qn Qp n (cJ ops i A) (listed.setIfInBounds i true) (dp ops i pend)) Qp) hm ?_;rw[yh hm];refine hv.step hdi (TY (λp hp=>?_) H);simp only[dp,iw]at hp;cases stable with
  |true=>exact hp.1
  |false=>exact Dw _ hp.1
 induction n with
 |zero=>
  intro A listed pend s L hfree hpd hpo hm hAd hr hv hstb H;refine⟨hpo,λh=>(by rw[h]at hr;cases hr),λj hj=>?_⟩;by_cases hji:j=i
  ·subst hji;exact⟨oi,hi,same 0 A listed pend s L hm hv H⟩
  ·exfalso;have:=ready_mono hj hji;rw[H.2.1]at this;cases this
 |succ n ih=>
  intro A listed pend s L hfree hpd hpo hm hAd hr hv hstb H;refine⟨hpo,λh=>(by rw[h]at hr;cases hr),λj hj=>?_⟩;by_cases hji:j=i
  ·subst hji;exact⟨oi,hi,same (n+1) A listed pend s L hm hv H⟩
  ·obtain⟨oj,hoj,hst⟩:=H.2.2 j (ready_mono hj hji);obtain⟨hjun,oj',hoj',hall⟩:=mem_ready.1 hj;rw[hoj]at hoj';cases hoj';have hnot:∀e∈oj.after,Region.binds .any e=true->e.on≠i:=λe he hb heq=>by
    have h1:=hall e he hb;have h0:=(mem_ready.1 hr).1;rw[heq]at h1;rcases mV i listed.size with h'|h'
    ·simp[h']at h0 h1;rw[h0]at h1;cases h1
    ·simp[sN h']at h1
   have hb1:eY ops i j=false:=by
    unfold eY;rw[hoj];simp only[aav,Bool.not_eq_true,Bool.and_eq_false_iff];intro q hq;cases hb:Region.binds .any q with
    |false=>exact .inl rfl
    |true=>exact .inr (by simpa using hnot _ (by simpa using hq) hb)
   obtain⟨a1,a2,a3⟩:=Oper.apart_spec (hfree j oj hoj hji hjun hnot);refine⟨oj,hoj,Em hst λzs hz hst=>?_⟩;have hzA:∀z∈zs,∃p∈A,p.2.1=z.1.1:=λz hzm=>by
    have:z.1∈mO (cw ops j A):=by rw[<-hz];exact dy.2 ⟨z,hzm,rfl⟩
    simp only[mO,cw,dy,iw]at this;obtain⟨p,hp,he⟩:=this;exact⟨p,hp.1,by rw[he]⟩
   have hzd:∀z∈zs,oi.dst≠some z.1.1:=λz hzm=>by
    obtain⟨p,hp,he⟩:=hzA z hzm;rw[<-he];exact(hAd p hp).1
   rw[afd hzd]at hst;have hui:∀t∈oi.looksAt ops,gW L.length zs s t=s t:=λt ht=>by
    simp only[gW];cases hl:look (gL L.length zs) t with
    |none=>rfl
    |some x=>
     have:look (gL L.length zs++[]) t=some x:=by simpa using hl
     rcases tu this with⟨z,hzm,k,h1,_⟩|h
     ·obtain⟨p,hp,he⟩:=hzA z hzm;exact absurd (by rw[he,<-h1];exact ht) (hAd p hp).2
     ·simp[look]at h
   have hvst:stable=true->∀L',kL C N ops oi (gW L.length zs s) L' y:=λhs L'=>(hstb hs L').congr hui;generalize gW L.length zs s=s1 at hst hvst⊢;generalize L++dt zs=L1 at hst⊢;have hs1:∀t∈oj.looksAt ops,s1 t=bj s1 oi.dst (some y) t:=λt ht=>(mZ λd hd he=>a1 d hd (he▸ht)).symm;have hnext:∀x L',iU C N ops Qn Qp n (cJ ops j A) ((listed.setIfInBounds i true).setIfInBounds j true) (dp ops j (rV stable (i,oi,y) pend)) (bj (bj s1 oi.dst (some y)) oj.dst (some x)) L'->
     iU C N ops Qn Qp (n+1) (cJ ops j A) (listed.setIfInBounds j true) (dp ops j pend) (bj s1 oj.dst (some x)) L':=by
    intro x L' hk;have hkp:dp ops j (rV stable (i,oi,y) pend)=rV stable (i,oi,y) (dp ops j pend):=by
     cases stable with
     |true=>rfl
     |false=>simp[dp,rV,hb1]
    rw[hkp]at hk;have hpo':=adz hk;have hcongr:∀(o:Oper),(∀d,oi.dst=some d->d∉o.looksAt ops)->∀t∈o.looksAt ops,bj s1 oj.dst (some x) t=bj (bj s1 oi.dst (some y)) oj.dst (some x) t:=by
     intro o ho t ht;cases hdj:oj.dst with
     |none=>exact(mZ λd hd he=>ho d hd (he▸ht)).symm
     |some e=>
      simp only[bj];split
      ·rfl
      ·exact(mZ λd hd he=>ho d hd (he▸ht)).symm
    have hstab2:stable=true->∀L',kL C N ops oi (bj s1 oj.dst (some x)) L' y:=λhs L'=>(hvst hs L').congr λt ht=>mZ λd hd he=>a3 d hd (he▸ht);refine ih _ _ _ _ _ ?_ (λp hp=>hpd p (by simp only[dp,iw]at hp;exact hp.1)) (λp hp=>?_) (afc hm) (λp hp=>hAd p (iw.1 hp).1) (ready_mono hr (iW hji)) ?_ hstab2 ?_
    ·intro k ok hk' hki hun hno;refine hfree k ok hk' hki ?_ hno;by_cases hjk:j=k
     ·subst hjk;exact hjun
     ·rw[getD_set_ne true hjk]at hun;exact hun
    ·refine(hpo' p ?_).congr (hcongr p.2.1 (hpd p (by simp only[dp,iw]at hp;exact hp.1)));cases stable with
     |true=>exact hp
     |false=>exact Dw _ hp
    ·cases hsb:stable with
     |true=>exact hstab2 hsb L'
     |false=>
      subst hsb;exact(hpo' (i,oi,y) (by simp[rV])).congr (hcongr oi hown)
    ·rw[aaq _ _ hji,<-Ry s1 (some y) (some x) a2];exact hk
   refine⟨hst.1,?_⟩;rcases hst.2 with⟨h1,R,h2,h3,h4⟩|⟨h1,h2⟩
   ·refine .inl ⟨by rw[xz hs1];exact h1,R,h2.congr λt ht=>hs1 t (HB ht),λx L' hR=>hnext x L' (h3 x L' hR),h4⟩
   ·exact .inr ⟨by rw[xz hs1];exact h1,hnext _ _ h2⟩
inductive TK where
 |one
 |fl
 |two
def kb (C:Cx) (N:Nat) (ops:Array Oper) (Qn:Sl->List aw->Prop) (Qp:AV->List aw->Prop):List (Nat×Oper×TK)->bS->gM->Sl->List aw->Prop
 |[],_,pend,s,L=>lQ C N ops pend s L/\Qn s L
 |(i,o,.fl)::r,A,pend,s,L=>lQ C N ops pend s L/\cK N o.dst=true/\∃y,(kL C N ops o s L y/\kb C N ops Qn Qp r A ((i,o,y)::pend) (bj s o.dst (some y)) L)\/((∀L',kL C N ops o s L' y)/\kb C N ops Qn Qp r A pend (bj s o.dst (some y)) L)
 |(i,o,.one)::r,A,pend,s,L=>lQ C N ops pend s L/\jj (mO (cw ops i A)) λzs=>gN C N ops o (gW L.length zs s) (L++dt zs) (kb C N ops Qn Qp r (cJ ops i A) (dp ops i pend)) Qp
 |[(_,_,.two)],_,_,_,_=>False
 |(i,o,.two)::(j,o',_)::r,A,pend,s,L=>lQ C N ops pend s L/\gN C N ops o s L (λs1 L1=>lQ C N ops (dp ops i pend) s1 L1/\gN C N ops o' s1 L1 (kb C N ops Qn Qp r A (dp ops j (dp ops i pend))) Qp) Qp/\
   gN C N ops o' s L (λs1 L1=>lQ C N ops (dp ops j pend) s1 L1/\gN C N ops o s1 L1 (kb C N ops Qn Qp r A (dp ops j (dp ops i pend))) Qp) Qp
def FM (ops:Array Oper) (dst:Option Nat) (o:Oper):Bool:=match dst with
 |none=>true
 |some d=>!(o.looksAt ops).contains d
def FL (dst:Option Nat) (d:Nat):Bool:=match dst with
 |none=>true
 |some e=>!Nat.beq e d
def nI (ops:Array Oper):List (Nat×Oper×TK)->Array Bool->List (Nat×Oper)->List (Nat×Nat)->Bool
 |[],listed,_,_=>(Region.ready .any ops listed).isEmpty
 |(i,o,.fl)::r,listed,pi,al=>(match ops[i]? with
   |some _=>true
   |none=>false)&&(Region.ready .any ops listed).contains i&&Region.free .any ops listed i&&FM ops o.dst o&&(pi.all λp=>FM ops o.dst p.2)&&(al.all λa=>!eY ops a.1 i&&FL o.dst a.2&& !(o.looksAt ops).contains a.2)&&nI ops r (listed.setIfInBounds i true) ((i,o)::pi) al
 |(i,_,.one)::r,listed,pi,al=>decide (Region.ready .any ops listed=[i])&&nI ops r (listed.setIfInBounds i true) (pi.filter λp=>!eY ops p.1 i) (al.filter λa=>!eY ops a.1 i)
 |[(_,_,.two)],_,_,_=>false
 |(i,_,.two)::(j,_,_)::r,listed,pi,al=>decide (i≠j)&&(Region.ready .any ops listed).all (λk=>Nat.beq k i||Nat.beq k j)&&(Region.ready .any ops listed).contains i&&decide (Region.ready .any ops (listed.setIfInBounds i true)=[j])&&decide (Region.ready .any ops (listed.setIfInBounds j true)=[i])&&
   (al.all λa=>!eY ops a.1 i&& !eY ops a.1 j)&&nI ops r ((listed.setIfInBounds i true).setIfInBounds j true) ((pi.filter λp=>!eY ops p.1 i).filter λp=>!eY ops p.1 j) al
def kz (ops:Array Oper):List (Nat×TK)->List (Nat×Oper×TK)
 |[]=>[]
 |(i,b)::r=>match ops[i]? with
  |some o=>(i,o,b)::kz ops r
  |none=>kz ops r
theorem H2:∀{l:List (Nat×TK)} {p:Nat×Oper×TK},p∈kz ops l->ops[p.1]? =some p.2.1
 |[],_,h=>by simp[kz]at h
 |(i,b)::r,p,h=>by
  simp only[kz]at h;split at h
  ·rename_i o ho;rcases ck.1 h with rfl|h
   ·exact ho
   ·exact H2 h
  ·exact H2 h
theorem Q9 {dst:Option Nat} {d:Nat} (h:FL dst d=true):dst≠some d:=by
 intro e;subst e;simp[FL]at h
theorem IE {A:bS} {i:Nat} (h:∀p∈A,eY ops p.1 i=false):cw ops i A=[]:=by
 simp only[cw,aat];intro p hp;rw[h p hp];simp
theorem za:∀(l:List (Nat×Oper×TK)) (A:bS) (listed:Array Bool) (pend:gM) (pi:List (Nat×Oper)) (s:Sl) (L:List aw),(∀p∈l,ops[p.1]? =some p.2.1)->(∀p∈pend,(p.1,p.2.1)∈pi)->nI ops l listed pi (A.map λp=>(p.1,p.2.1))=true->
  kb C N ops Qn Qp l A pend s L->iU C N ops Qn Qp l.length A listed pend s L
 |[],A,listed,pend,pi,s,L,_,_,hB,h=>⟨h.1,by simpa[nI]using hB,h.2⟩
 |(i,o,.fl)::r,A,listed,pend,pi,s,L,hg,hpi,hB,h=>by
  simp only[nI,bN]at hB;obtain⟨⟨⟨⟨⟨⟨_,h1⟩,h2⟩,h3⟩,h4⟩,h6⟩,h5⟩:=hB;have hi:=hg (i,o,.fl) (by simp);simp only at hi;obtain⟨hpo,hd,y,hk⟩:=h;have hdis:∀(o':Oper),FM ops o.dst o'=true->∀d,o.dst=some d->d∉o'.looksAt ops:=by
   intro o' ho' d hd;simp only[FM,hd]at ho';simpa using ho'
  simp only[fS,dy,bN,kn]at h6;have hm:cw ops i A=[]:=IE λp hp=>(h6 (p.1,p.2.1) ⟨p,hp,rfl⟩).1.1;have hAd:∀p∈A,o.dst≠some p.2.1/\p.2.1∉o.looksAt ops:=λp hp=>by
   have:=h6 (p.1,p.2.1) ⟨p,hp,rfl⟩;exact⟨Q9 this.1.2,by simpa using this.2⟩
  have hpd:∀p∈pend,∀d,o.dst=some d->d∉p.2.1.looksAt ops:=λp hp=>by
   refine hdis p.2.1 ?_;simp only[fS]at h4;exact h4 (p.1,p.2.1) (hpi p hp)
  have hfr:∀j oj,ops[j]? =some oj->j≠i->listed.getD j true=false->(∀e∈oj.after,Region.binds .any e=true->e.on≠i)->o.apart ops oj=true:=λj oj hj hne hun hno=>Region.free_spec hi h2 j oj hj hne hun hno;rcases hk with⟨hv,hk⟩|⟨hv,hk⟩
  ·refine RN false hi (hdis o h3) hd r.length A listed pend s L hfr hpd hpo hm hAd (by simpa using h1) hv (λe=>by cases e) ?_;refine za r A _ _ ((i,o)::pi) _ _ (λp hp=>hg p (by simp[hp])) (λp hp=>?_) h5 hk;rcases ck.1 hp with rfl|hp
   ·simp
   ·exact Dw _ (hpi p hp)
  ·refine RN true hi (hdis o h3) hd r.length A listed pend s L hfr hpd hpo hm hAd (by simpa using h1) (hv L) (λ_=>hv) ?_;exact za r A _ _ ((i,o)::pi) _ _ (λp hp=>hg p (by simp[hp])) (λp hp=>Dw _ (hpi p hp)) h5 hk
 |(i,o,.one)::r,A,listed,pend,pi,s,L,hg,hpi,hB,h=>by
  simp only[nI,bN,jA]at hB;refine⟨h.1,λh0=>(by rw[h0]at hB;cases hB.1),λj hj=>?_⟩;rw[hB.1,iL]at hj;subst hj;have hi:=hg (j,o,.one) (by simp);refine⟨o,hi,Em h.2 λzs _ hst=>hst.mono λs' L' hk=>?_⟩;refine za r _ _ _ (pi.filter λp=>!eY ops p.1 j) _ _ (λp hp=>hg p (by simp[hp])) (λp hp=>?_) ?_ hk
  ·simp only[dp,iw]at hp⊢;exact⟨hpi p hp.1,hp.2⟩
  ·have:(cJ ops j A).map (λp=>(p.1,p.2.1))=(A.map λp=>(p.1,p.2.1)).filter λp=>!eY ops p.1 j:=by
    simp[cJ,List.filter_map,Function.comp_def]
   rw[this];exact hB.2
 |[(_,_,.two)],_,_,_,_,_,_,_,_,hB,_=>by simp[nI]at hB
 |(i,o,.two)::(j,o',x)::r,A,listed,pend,pi,s,L,hg,hpi,hB,h=>by
  simp only[nI,bN,jA]at hB;obtain⟨⟨⟨⟨⟨⟨hne,hall⟩,hin⟩,hj⟩,hi⟩,hal⟩,hr⟩:=hB;have gi:=hg (i,o,.two) (by simp);have gj:=hg (j,o',x) (by simp);simp only at gi gj;simp only[fS,dy,bN,kn]at hal;have hmi:cw ops i A=[]:=IE λp hp=>(hal (p.1,p.2.1) ⟨p,hp,rfl⟩).1;have hmj:cw ops j A=[]:=IE λp hp=>(hal (p.1,p.2.1) ⟨p,hp,rfl⟩).2;obtain⟨hpo,h1,h2⟩:=h;have fin:∀s' L',kb C N ops Qn Qp r A (dp ops j (dp ops i pend)) s' L'->iU C N ops Qn Qp r.length A ((listed.setIfInBounds i true).setIfInBounds j true) (dp ops j (dp ops i pend)) s' L':=λs' L' hk=>by
   refine za r A _ _ ((pi.filter λp=>!eY ops p.1 i).filter λp=>!eY ops p.1 j) _ _ (λp hp=>hg p (by simp[hp])) (λp hp=>?_) hr hk;simp only[dp,iw]at hp⊢;exact⟨⟨hpi p hp.1.1,hp.1.2⟩,hp.2⟩
  have hcomm:dp ops i (dp ops j pend)=dp ops j (dp ops i pend):=by
   simp only[dp,List.filter_filter,Bool.and_comm]
  refine⟨hpo,λh0=>(by rw[h0]at hin;simp at hin),λk hk=>?_⟩;simp only[fS,sQ]at hall;rcases hall k hk with hk'|hk'
  ·have hk':=bK hk';subst hk';refine⟨o,gi,xS (P:=λs L=>gN C N ops o s L (iU C N ops Qn Qp (r.length+1) (cJ ops k A) (listed.setIfInBounds k true) (dp ops k pend)) Qp) hmi ?_⟩;rw[yh hmi];refine h1.mono λs1 L1 hs1=>⟨hs1.1,λh0=>(by rw[h0]at hj;cases hj),λq hq=>?_⟩;rw[hj,iL]at hq;subst hq;refine⟨o',gj,xS (P:=λs L=>gN C N ops o' s L (iU C N ops Qn Qp r.length (cJ ops q A) ((listed.setIfInBounds k true).setIfInBounds q true) (dp ops q (dp ops k pend))) Qp) hmj ?_⟩;rw[yh hmj];exact hs1.2.mono fin
  ·have hk':=bK hk';subst hk';refine⟨o',gj,xS (P:=λs L=>gN C N ops o' s L (iU C N ops Qn Qp (r.length+1) (cJ ops k A) (listed.setIfInBounds k true) (dp ops k pend)) Qp) hmj ?_⟩;rw[yh hmj];refine h2.mono λs1 L1 hs1=>⟨hs1.1,λh0=>(by rw[h0]at hi;cases hi),λq hq=>?_⟩;rw[hi,iL]at hq;subst hq;refine⟨o,gi,xS (P:=λs L=>gN C N ops o s L (iU C N ops Qn Qp r.length (cJ ops q A) ((listed.setIfInBounds k true).setIfInBounds q true) (dp ops q (dp ops k pend))) Qp) hmi ?_⟩;rw[yh hmi];refine hs1.2.mono λs' L' hk'=>?_;rw[hcomm,aaq _ _ (iW hne)];exact fin s' L' hk'
