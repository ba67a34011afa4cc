/- The program logic, twelfth part: the tail of an open region once more: operations that act come in a fixed order; values may float about them, if they are the same behind them. -/
import Derived.Test.YtfgnmgbiijpkiaaGreatKB10
set_option linter.all false
noncomputable section
namespace Go.Bw
open Go
def cZ (C:Cx) (N:Nat) (o:Oper) (s:Sl) (O:List aq) (R:AR->List aq->Prop):Prop:=
 ∀F w (a:Act),a.tmps.size=N->a.defers=[]->bD C.G w F O->la w (Al F O) N a o s->∀(K:Act->World->Prop) (Q:Exit->Act->World->Prop),
  (∀v w' x O',R (.ret x) O'->Rel w' (Al F O') x v->bD C.G w' F O'->Ext O w O' w'->K (a.put o.dst v) w')->
  (∀v w' x O',R (.aO x) O'->Rel w' (Al F O') x v->bD C.G w' F O'->Ext O w O' w'->Q (.panic [{v,recovered:=false}]) a w')->o.wp C.P a w K Q
section
variable {C:Cx} {N:Nat} {o:Oper} {s s':Sl} {O:List aq} {x:AV} {R R':AR->List aq->Prop}
theorem cZ.congr (h:cZ C N o s O R) (he:∀t∈tmpsOf o,s' t=s t):cZ C N o s' O R:=λF w a h1 h2 h3 h4=>h F w a h1 h2 h3 (h4.congr he)
theorem cZ.mono (h:cZ C N o s O R) (hr:∀r O',R r O'->R' r O'):cZ C N o s O R':=λF w a h1 h2 h3 h4 K Q k1 k2=>
 h F w a h1 h2 h3 h4 K Q (λv w' x O' hR=>k1 v w' x O' (hr _ _ hR)) (λv w' x O' hR=>k2 v w' x O' (hr _ _ hR))
theorem cZ.oH (h:bV C N o s O x):cZ C N o s O (λr O'=>r= .ret x/\O'=O):=λF w a h1 h2 h3 h4 K Q k1 _=>
 h F w a h1 h2 h3 h4 K Q λv w' hv hc=>k1 v w' x O ⟨rfl,rfl⟩ hv (h3.later hc.2.2.2) hc.ext
theorem cZ.u1 {cells:List AV} {d:Nat} (hd:o.dst=some d) (h:fA C N o s O cells):cZ C N o s O (λr O'=>∃b,r= .ret (.own O.length b 0)/\O'=O++[.box b cells]):=λF w a h1 h2 h3 h4 K Q k1 _=>
 h F w a h1 h2 h3 h4 K Q λvs e hv=>by
  have hext:=lH w (.cells vs.toArray e) O (.box w.heap.size cells) (by simp[aq.ids]);have hh:bD C.G (w.alloc (.cells vs.toArray e)) F (O++[.box w.heap.size cells]):=by
   refine h3.push (by simp) (λb hb=>jw w _ b hb) (by simp[aq.ids]) (by simp[aq.ids]) ?_;exact⟨e,vs,kh w _,hv.keep hext.keeps⟩
  exact k1 _ _ _ _ ⟨_,rfl,rfl⟩ (by simp only[Rel]) hh hext
theorem cZ.I8 {R0:AV->List aq->Prop} (h:rT C N o (dA s (tmpsOf o)) O R0):cZ C N o s O (λr O'=>∃y,r= .ret y/\R0 y O'):=λF w a hN hd hh hs K Q k1 _=>by
 have hst:St C.G N w F a (dA s (tmpsOf o)) O:=⟨⟨hN,λt y hy=>by obtain⟨h1,h2⟩:=kg hy;exact hs t h1 y h2⟩,hh,hd⟩;obtain⟨v,w',y,O',hR,h1,h2,h3,h4⟩:=h F a w hst;unfold Oper.wp;rw[h1,Oper.upon_value];exact k1 v w' y O' ⟨y,rfl,hR⟩ h2 h3 h4
theorem cZ.T1 {O':List aq} (h:BX C N o (dA s (tmpsOf o)) O O'):cZ C N o s O (λr η1=>r= .ret (.v undef)/\η1=O'):=λF w a hN hd hh hs K Q k1 _=>by
 have hst:St C.G N w F a (dA s (tmpsOf o)) O:=⟨⟨hN,λt y hy=>by obtain⟨h1,h2⟩:=kg hy;exact hs t h1 y h2⟩,hh,hd⟩;obtain⟨w',h1,h2,h3⟩:=h F a w hst;unfold Oper.wp;rw[h1,Oper.upon_skip];exact k1 undef w' _ _ ⟨rfl,rfl⟩ (by simp only[Rel]) h2 h3
theorem cZ.O4 {f:Operand} {args:List Operand} {g:FuncId} {ys:List AV} {tys:Array TypeId} (ho:o.op= .call {callee:= .value f,args:=args.toArray,argTypes:=tys}) (hc:callee s f args=some (g,ys)) (hb:Dm C.P g)
  (h:∀F w vs,bD C.G w F O->aJ w (Al F O) ys vs->Calls C.P g vs.toArray w λe w'=>∃r O',R r O'/\AR.rel w' (Al F O') r e/\bD C.G w' F O'/\Ext O w O' w'):cZ C N o s O R:=λF w a hN _ hh hs K Q k1 k2=>by
 have hmem:∀p,p=f\/p∈args->p∈o.op.operands.toList:=by
  rintro p hp;rw[ho];rcases hp with rfl|hp
  ·simp[Op.operands,Call.operands]
  ·simp[Op.operands,Call.operands,hp]
 have hc':callee (look (dA s (tmpsOf o))) f args=some (g,ys):=by
  unfold callee at hc⊢;rw[fB (hmem f (.inl rfl)),sC λp hp=>fB (hmem p (.inr hp))];exact hc
 have hsl:eY w (Al F O) N a (look (dA s (tmpsOf o))):=⟨hN,λt y hy=>by obtain⟨h1,h2⟩:=kg hy;exact hs t h1 y h2⟩;obtain⟨vs,h1,h2⟩:=sr (P:=C.P) hsl hc' (tys:=tys) (dst:=o.dst) (ty:=o.type) (pos:=o.pos) (after:=o.after) (gd:=o.guard) hb;have ho':o=⟨o.dst,.call {callee:= .value f,args:=args.toArray,argTypes:=tys},o.type,o.pos,o.after,o.guard⟩:=by rw[<-ho]
 rw[<-ho']at h2;unfold Oper.wp;rw[h2 w,Oper.upon_enter];refine(h F w vs hh h1).mono ?_;rintro e w' ⟨r,O',hR,hv,hH,hx⟩;cases r with
 |ret x=>obtain⟨v,rfl,hv⟩:=hv;exact k1 v w' x O' hR hv hH hx
 |aO x=>obtain⟨v,rfl,hv⟩:=hv;exact k2 v w' x O' hR hv hH hx
theorem cZ.panic {p:Operand} {t:TypeId} {y:AV} (ho:o.op= .panic p) (hp:ev s p=some (.bB t y)):cZ C N o s O (λr O'=>r= .aO (.bB t y)/\O'=O):=λF w a hN _ hh hs K Q _ k2=>by
 have h1:=T2 hN hs (by simp[ho,Op.operands]) hp;have h0:=h1;simp only[Rel]at h0;obtain⟨u,h0,_⟩:=h0;have hrun:(execOp a.eval o).run C.P w= .halt (.panic (.iface t u)) w:=by simp[execOp,ho,Instr.panic,h0]
 unfold Oper.wp;rw[hrun];rw[h0]at h1;exact k2 _ _ _ _ ⟨rfl,rfl⟩ h1 hh (Ext.refl O w)
theorem bo.nG {Q:AQ} {Z:Sg} {ops:Array Oper} {rest:List Oper} (hg:o.guard=none) (hd:ck N o.dst=true) (h:cZ C N o (look Z) O R) (k1:∀x O',R (.ret x) O'->bo C N ops rest Q (lk o.dst x Z) O') (k2:∀x O',R (.aO x) O'->Q (.aO x) [] O'):
  bo C N ops (o::rest) Q Z O:=λF w0 η0 a w hs hx=>by
 unfold wpList;rw[dj (by simp[Region.wanted,hg])];refine .inl (h F w a hs.sg.1 hs.df hs.hp (λt _ y hy=>hs.sg.2 t y hy) _ _ ?_ ?_)
 ·intro v w' x O' hR hv hH hext;exact k1 x O' hR F w0 η0 _ w' (hs.put hext hH hd hv) (hx.trans hext)
 ·intro v w' x O' hR hv hH hext;exact⟨.aO x,[],O',k2 x O' hR,⟨v,rfl,hv⟩,⟨⟨hs.sg.1,λt x hx=>by simp[AE.sl,look]at hx⟩,hH,hs.df⟩,hx.trans hext⟩
end
def eC (ops:Array Oper) (i j:Nat):Bool:=match ops[j]? with
 |some o=>o.after.toList.any λe=>Region.binds .any e&&e.on==i
 |none=>false
def jQ (C:Cx) (N:Nat) (ops:Array Oper) (o:Oper) (s:Sl) (O:List aq) (y:AV):Prop:=(kp ops o s=some true/\bV C N o s O y)\/(kp ops o s=some false/\y= .v undef)
abbrev fT:=List (Nat×Oper×AV)
def cO (ops:Array Oper) (j:Nat) (pend:fT):fT:=pend.filter λp=>!eC ops p.1 j
def kY (C:Cx) (N:Nat) (ops:Array Oper) (pend:fT) (s:Sl) (O:List aq):Prop:=∀p∈pend,jQ C N ops p.2.1 s O p.2.2
abbrev bR:=List (Nat×(Nat×List AV))
def cd (ops:Array Oper) (j:Nat) (A:bR):bR:=A.filter λp=>eC ops p.1 j
def cv (ops:Array Oper) (j:Nat) (A:bR):bR:=A.filter λp=>!eC ops p.1 j
def mr (A:bR):Nu:=A.map (·.2)
def gk (n:Nat) (zs:List ((Nat×List AV)×Nat)) (s:Sl):Sl:=λt=>match look (fS n zs) t with
 |some x=>some x
 |none=>s t
def fU (C:Cx) (N:Nat) (ops:Array Oper) (o:Oper) (s:Sl) (O:List aq) (nx:Sl->List aq->Prop) (Qp:AV->List aq->Prop):Prop:=
 ck N o.dst=true/\((kp ops o s=some true/\∃R,cZ C N o s O R/\(∀x O',R (.ret x) O'->nx (ba s o.dst (some x)) O')/\∀x O',R (.aO x) O'->Qp x O')\/
  (kp ops o s=some false/\nx (ba s o.dst (some (.v undef))) O))
def gQ (C:Cx) (N:Nat) (ops:Array Oper) (Qn:Sl->List aq->Prop) (Qp:AV->List aq->Prop):Nat->bR->Array Bool->fT->Sl->List aq->Prop
 |0,_,listed,pend,s,O=>kY C N ops pend s O/\Region.ready .any ops listed=[]/\Qn s O
 |n+1,A,listed,pend,s,O=>kY C N ops pend s O/\(Region.ready .any ops listed=[]->Qn s O)/\∀j∈Region.ready .any ops listed,∃o,ops[j]? =some o/\
   ig (mr (cd ops j A)) λzs=>fU C N ops o (gk O.length zs s) (O++cS zs) (gQ C N ops Qn Qp n (cv ops j A) (listed.setIfInBounds j true) (cO ops j pend)) Qp
section
variable {C:Cx} {N:Nat} {ops:Array Oper} {Qn:Sl->List aq->Prop} {Qp:AV->List aq->Prop}
theorem jQ.congr {o:Oper} {s s':Sl} {O:List aq} {y:AV} (h:jQ C N ops o s O y) (he:∀t∈o.looksAt ops,s' t=s t):jQ C N ops o s' O y:=
 h.imp (λ⟨h1,h2⟩=>⟨by rw[vb he];exact h1,h2.congr λt ht=>he t (Cr ht)⟩) λ⟨h1,h2⟩=>⟨by rw[vb he];exact h1,h2⟩
theorem fU.mono {o:Oper} {s:Sl} {O:List aq} {nx nx':Sl->List aq->Prop} (h:fU C N ops o s O nx Qp) (hn:∀s O,nx s O->nx' s O):fU C N ops o s O nx' Qp:=
 ⟨h.1,h.2.imp (λ⟨h1,R,h2,h3,h4⟩=>⟨h1,R,h2,λx O' hR=>hn _ _ (h3 x O' hR),h4⟩) λ⟨h1,h2⟩=>⟨h1,hn _ _ h2⟩⟩
theorem vg:∀{W:Nu} {P:List ((Nat×List AV)×Nat)->Prop},(∀zs,zs.map (·.1)=W->P zs)->ig W P
 |[],_,h=>h [] rfl
 |p::W,P,h=>λb=>vg λzs hz=>h ((p,b)::zs) (by simp[hz])
theorem zx {W:Nu} {P P':List ((Nat×List AV)×Nat)->Prop} (h:ig W P) (hi:∀zs,zs.map (·.1)=W->P zs->P' zs):ig W P':=vg λzs hz=>hi zs hz (zd h zs hz)
theorem Yn (n:Nat) (s:Sl):gk n [] s=s:=rfl
theorem VH:cS []=[]:=rfl
theorem vn {A:bR} {i:Nat} (hm:cd ops i A=[]) {n:Nat} {s:Sl} {O:List aq} {P:Sl->List aq->Prop} (h:P s O):ig (mr (cd ops i A)) λzs=>P (gk n zs s) (O++cS zs):=by
 rw[hm];show P (gk n [] s) (O++cS []);rw[Yn,VH,iz];exact h
theorem vw {A:bR} {i:Nat} (hm:cd ops i A=[]):cv ops i A=A:=by
 simp only[cd,Uz,UA]at hm;simp only[cv,List.filter_eq_self];intro p hp;rw[hm p hp];rfl
theorem Yo {A:bR} {i j:Nat} (hm:cd ops i A=[]):cd ops i (cv ops j A)=[]:=by
 simp only[cd,cv,Uz]at hm⊢;intro p hp;exact hm p (iB.1 hp).1
theorem No:∀{n:Nat} {A:bR} {listed:Array Bool} {pend pend':fT} {s:Sl} {O:List aq},(∀p∈pend',p∈pend)->gQ C N ops Qn Qp n A listed pend s O->gQ C N ops Qn Qp n A listed pend' s O
 |0,_,_,_,_,_,_,hs,h=>⟨λp hp=>h.1 p (hs p hp),h.2⟩
 |n+1,_,_,_,_,_,_,hs,h=>⟨λp hp=>h.1 p (hs p hp),h.2.1,λj hj=>by
  obtain⟨o,ho,hst⟩:=h.2.2 j hj;refine⟨o,ho,zx hst λzs _ hst=>hst.mono λs O=>No λp hp=>?_⟩;simp only[cO,iB]at hp⊢;exact⟨hs p hp.1,hp.2⟩⟩
theorem Xm {n:Nat} {A:bR} {listed:Array Bool} {pend:fT} {s:Sl} {O:List aq} (h:gQ C N ops Qn Qp n A listed pend s O):kY C N ops pend s O:=by
 cases n with
 |zero=>exact h.1
 |succ n=>exact h.1
theorem jQ.step {o:Oper} {s:Sl} {O:List aq} {y:AV} (hd:ck N o.dst=true) (h:jQ C N ops o s O y) {nx:Sl->List aq->Prop} (k:nx (ba s o.dst (some y)) O):fU C N ops o s O nx Qp:=by
 refine⟨hd,h.imp (λ⟨h1,h2⟩=>⟨h1,_,cZ.oH h2,?_,λx O' h=>by cases h.1⟩) λ⟨h1,h2⟩=>⟨h1,by subst h2;exact k⟩⟩;rintro x O' ⟨h1,rfl⟩;cases h1;exact k
theorem Yp {n:Nat} {zs:List ((Nat×List AV)×Nat)} {s:Sl} {dst:Option Nat} {y:Option AV} (hd:∀z∈zs,dst≠some z.1.1):gk n zs (ba s dst y)=ba (gk n zs s) dst y:=by
 funext t;cases dst with
 |none=>rfl
 |some d=>
  simp only[gk,ba];by_cases ht:t=d
  ·subst ht;simp only[if_true];cases hl:look (fS n zs) t with
   |none=>rfl
   |some x=>
    have:look (fS n zs++[]) t=some x:=by simpa using hl
    rcases sD this with⟨z,hz,k,h1,_⟩|h
    ·exact absurd (by rw[h1]) (hd z hz)
    ·simp[look]at h
  ·simp only[ht,if_false]
def rf (stable:Bool) (p:Nat×Oper×AV) (pend:fT):fT:=match stable with
 |true=>pend
 |false=>p::pend
theorem Lk {i:Nat} {oi:Oper} {y:AV} (stable:Bool) (hi:ops[i]? =some oi) (hown:∀d,oi.dst=some d->d∉oi.looksAt ops) (hdi:ck N oi.dst=true):
  ∀(n:Nat) (A:bR) (listed:Array Bool) (pend:fT) (s:Sl) (O:List aq),
   (∀j oj,ops[j]? =some oj->j≠i->listed.getD j true=false->(∀e∈oj.after,Region.binds .any e=true->e.on≠i)->oi.apart ops oj=true)->
   (∀p∈pend,∀d,oi.dst=some d->d∉p.2.1.looksAt ops)->kY C N ops pend s O->cd ops i A=[]->(∀p∈A,oi.dst≠some p.2.1/\p.2.1∉oi.looksAt ops)->
   i∈Region.ready .any ops listed->jQ C N ops oi s O y->(stable=true->∀O',jQ C N ops oi s O' y)->
   gQ C N ops Qn Qp n A (listed.setIfInBounds i true) (rf stable (i,oi,y) pend) (ba s oi.dst (some y)) O->gQ C N ops Qn Qp (n+1) A listed pend s O:=by
 intro n;have same:∀(n:Nat) (A:bR) (listed:Array Bool) (pend:fT) (s:Sl) (O:List aq),cd ops i A=[]->jQ C N ops oi s O y->gQ C N ops Qn Qp n A (listed.setIfInBounds i true) (rf stable (i,oi,y) pend) (ba s oi.dst (some y)) O->
   ig (mr (cd ops i A)) λzs=>fU C N ops oi (gk O.length zs s) (O++cS zs) (gQ C N ops Qn Qp n (cv ops i A) (listed.setIfInBounds i true) (cO ops i pend)) Qp:=by
  intro n A listed pend s O hm hv H;refine vn (P:=λs O=>fU C N ops oi s O (gQ C N ops Qn Qp n (cv ops i A) (listed.setIfInBounds i true) (cO ops i pend)) Qp) hm ?_;rw[vw hm];refine hv.step hdi (No (λp hp=>?_) H);simp only[cO,iB]at hp;cases stable with
  |true=>exact hp.1
  |false=>exact u9 _ hp.1
 induction n with
 |zero=>
  intro A listed pend s O hfree hpd hpo hm hAd hr hv hstb H;refine⟨hpo,λh=>(by rw[h]at hr;cases hr),λj hj=>?_⟩;by_cases hji:j=i
  ·subst hji;exact⟨oi,hi,same 0 A listed pend s O hm hv H⟩
  ·exfalso;have:=ready_mono hj hji;rw[H.2.1]at this;cases this
 |succ n ih=>
  intro A listed pend s O hfree hpd hpo hm hAd hr hv hstb H;refine⟨hpo,λh=>(by rw[h]at hr;cases hr),λj hj=>?_⟩;by_cases hji:j=i
  ·subst hji;exact⟨oi,hi,same (n+1) A listed pend s O hm hv H⟩
  ·obtain⟨oj,hoj,hst⟩:=H.2.2 j (ready_mono hj hji);obtain⟨hjun,oj',hoj',hall⟩:=mem_ready.1 hj;rw[hoj]at hoj';cases hoj';have hnot:∀e∈oj.after,Region.binds .any e=true->e.on≠i:=λe he hb heq=>by
    have h1:=hall e he hb;have h0:=(mem_ready.1 hr).1;rw[heq]at h1;rcases mz i listed.size with h'|h'
    ·simp[h']at h0 h1;rw[h0]at h1;cases h1
    ·simp[u7 h']at h1
   have hb1:eC ops i j=false:=by
    unfold eC;rw[hoj];simp only[va,UA,Bool.and_eq_false_iff];intro q hq;cases hb:Region.binds .any q with
    |false=>exact .inl rfl
    |true=>exact .inr (by simpa using hnot _ (by simpa using hq) hb)
   obtain⟨a1,a2,a3⟩:=Oper.apart_spec (hfree j oj hoj hji hjun hnot);refine⟨oj,hoj,zx hst λzs hz hst=>?_⟩;have hzA:∀z∈zs,∃p∈A,p.2.1=z.1.1:=λz hzm=>by
    have:z.1∈mr (cd ops j A):=by rw[<-hz];exact cP.2 ⟨z,hzm,rfl⟩
    simp only[mr,cd,cP,iB]at this;obtain⟨p,hp,he⟩:=this;exact⟨p,hp.1,by rw[he]⟩
   have hzd:∀z∈zs,oi.dst≠some z.1.1:=λz hzm=>by
    obtain⟨p,hp,he⟩:=hzA z hzm;rw[<-he];exact(hAd p hp).1
   rw[Yp hzd]at hst;have hui:∀t∈oi.looksAt ops,gk O.length zs s t=s t:=λt ht=>by
    simp only[gk];cases hl:look (fS O.length zs) t with
    |none=>rfl
    |some x=>
     have:look (fS O.length zs++[]) t=some x:=by simpa using hl
     rcases sD this with⟨z,hzm,k,h1,_⟩|h
     ·obtain⟨p,hp,he⟩:=hzA z hzm;exact absurd (by rw[he,<-h1];exact ht) (hAd p hp).2
     ·simp[look]at h
   have hvst:stable=true->∀O',jQ C N ops oi (gk O.length zs s) O' y:=λhs O'=>(hstb hs O').congr hui;generalize gk O.length zs s=s1 at hst hvst⊢;generalize O++cS zs=η1 at hst⊢;have hs1:∀t∈oj.looksAt ops,s1 t=ba s1 oi.dst (some y) t:=λt ht=>(mE λd hd he=>a1 d hd (he▸ht)).symm;have hnext:∀x O',gQ C N ops Qn Qp n (cv ops j A) ((listed.setIfInBounds i true).setIfInBounds j true) (cO ops j (rf stable (i,oi,y) pend)) (ba (ba s1 oi.dst (some y)) oj.dst (some x)) O'->
     gQ C N ops Qn Qp (n+1) (cv ops j A) (listed.setIfInBounds j true) (cO ops j pend) (ba s1 oj.dst (some x)) O':=by
    intro x O' hk;have hkp:cO ops j (rf stable (i,oi,y) pend)=rf stable (i,oi,y) (cO ops j pend):=by
     cases stable with
     |true=>rfl
     |false=>simp[cO,rf,hb1]
    rw[hkp]at hk;have hpo':=Xm hk;have hcongr:∀(o:Oper),(∀d,oi.dst=some d->d∉o.looksAt ops)->∀t∈o.looksAt ops,ba s1 oj.dst (some x) t=ba (ba s1 oi.dst (some y)) oj.dst (some x) t:=by
     intro o ho t ht;cases hdj:oj.dst with
     |none=>exact(mE λd hd he=>ho d hd (he▸ht)).symm
     |some e=>
      simp only[ba];split
      ·rfl
      ·exact(mE λd hd he=>ho d hd (he▸ht)).symm
    have hstab2:stable=true->∀O',jQ C N ops oi (ba s1 oj.dst (some x)) O' y:=λhs O'=>(hvst hs O').congr λt ht=>mE λd hd he=>a3 d hd (he▸ht);refine ih _ _ _ _ _ ?_ (λp hp=>hpd p (by simp only[cO,iB]at hp;exact hp.1)) (λp hp=>?_) (Yo hm) (λp hp=>hAd p (iB.1 hp).1) (ready_mono hr (jv hji)) ?_ hstab2 ?_
    ·intro k ok hk' hki hun hno;refine hfree k ok hk' hki ?_ hno;by_cases hjk:j=k
     ·subst hjk;exact hjun
     ·rw[getD_set_ne true hjk]at hun;exact hun
    ·refine(hpo' p ?_).congr (hcongr p.2.1 (hpd p (by simp only[cO,iB]at hp;exact hp.1)));cases stable with
     |true=>exact hp
     |false=>exact u9 _ hp
    ·cases hsb:stable with
     |true=>exact hstab2 hsb O'
     |false=>
      subst hsb;exact(hpo' (i,oi,y) (by simp[rf])).congr (hcongr oi hown)
    ·rw[Uv _ _ hji,<-K5 s1 (some y) (some x) a2];exact hk
   refine⟨hst.1,?_⟩;rcases hst.2 with⟨h1,R,h2,h3,h4⟩|⟨h1,h2⟩
   ·refine .inl ⟨by rw[vb hs1];exact h1,R,h2.congr λt ht=>hs1 t (Cr ht),λx O' hR=>hnext x O' (h3 x O' hR),h4⟩
   ·exact .inr ⟨by rw[vb hs1];exact h1,hnext _ _ h2⟩
inductive TK where
 |one
 |fl
 |two
def jg (C:Cx) (N:Nat) (ops:Array Oper) (Qn:Sl->List aq->Prop) (Qp:AV->List aq->Prop):List (Nat×Oper×TK)->bR->fT->Sl->List aq->Prop
 |[],_,pend,s,O=>kY C N ops pend s O/\Qn s O
 |(i,o,.fl)::r,A,pend,s,O=>kY C N ops pend s O/\ck N o.dst=true/\∃y,(jQ C N ops o s O y/\jg C N ops Qn Qp r A ((i,o,y)::pend) (ba s o.dst (some y)) O)\/((∀O',jQ C N ops o s O' y)/\jg C N ops Qn Qp r A pend (ba s o.dst (some y)) O)
 |(i,o,.one)::r,A,pend,s,O=>kY C N ops pend s O/\ig (mr (cd ops i A)) λzs=>fU C N ops o (gk O.length zs s) (O++cS zs) (jg C N ops Qn Qp r (cv ops i A) (cO ops i pend)) Qp
 |[(_,_,.two)],_,_,_,_=>False
 |(i,o,.two)::(j,o',_)::r,A,pend,s,O=>kY C N ops pend s O/\fU C N ops o s O (λs1 η1=>kY C N ops (cO ops i pend) s1 η1/\fU C N ops o' s1 η1 (jg C N ops Qn Qp r A (cO ops j (cO ops i pend))) Qp) Qp/\
   fU C N ops o' s O (λs1 η1=>kY C N ops (cO ops j pend) s1 η1/\fU C N ops o s1 η1 (jg C N ops Qn Qp r A (cO ops j (cO ops i pend))) Qp) Qp
def A4 (ops:Array Oper) (dst:Option Nat) (o:Oper):Bool:=match dst with
 |none=>true
 |some d=>!(o.looksAt ops).contains d
def A3 (dst:Option Nat) (d:Nat):Bool:=match dst with
 |none=>true
 |some e=>!Nat.beq e d
def nh (ops:Array Oper):List (Nat×Oper×TK)->Array Bool->List (Nat×Oper)->List (Nat×Nat)->Bool
 |[],listed,_,_=>(Region.ready .any ops listed).isEmpty
 |(i,o,.fl)::r,listed,pi,al=>(match ops[i]? with
   |some _=>true
   |none=>false)&&(Region.ready .any ops listed).contains i&&Region.free .any ops listed i&&A4 ops o.dst o&&(pi.all λp=>A4 ops o.dst p.2)&&(al.all λa=>!eC ops a.1 i&&A3 o.dst a.2&& !(o.looksAt ops).contains a.2)&&nh ops r (listed.setIfInBounds i true) ((i,o)::pi) al
 |(i,_,.one)::r,listed,pi,al=>decide (Region.ready .any ops listed=[i])&&nh ops r (listed.setIfInBounds i true) (pi.filter λp=>!eC ops p.1 i) (al.filter λa=>!eC ops a.1 i)
 |[(_,_,.two)],_,_,_=>false
 |(i,_,.two)::(j,_,_)::r,listed,pi,al=>decide (i≠j)&&(Region.ready .any ops listed).all (λk=>Nat.beq k i||Nat.beq k j)&&(Region.ready .any ops listed).contains i&&decide (Region.ready .any ops (listed.setIfInBounds i true)=[j])&&decide (Region.ready .any ops (listed.setIfInBounds j true)=[i])&&
   (al.all λa=>!eC ops a.1 i&& !eC ops a.1 j)&&nh ops r ((listed.setIfInBounds i true).setIfInBounds j true) ((pi.filter λp=>!eC ops p.1 i).filter λp=>!eC ops p.1 j) al
def jC (ops:Array Oper):List (Nat×TK)->List (Nat×Oper×TK)
 |[]=>[]
 |(i,b)::r=>match ops[i]? with
  |some o=>(i,o,b)::jC ops r
  |none=>jC ops r
theorem CJ:∀{l:List (Nat×TK)} {p:Nat×Oper×TK},p∈jC ops l->ops[p.1]? =some p.2.1
 |[],_,h=>by simp[jC]at h
 |(i,b)::r,p,h=>by
  simp only[jC]at h;split at h
  ·rename_i o ho;rcases cm.1 h with rfl|h
   ·exact ho
   ·exact CJ h
  ·exact CJ h
theorem KF {dst:Option Nat} {d:Nat} (h:A3 dst d=true):dst≠some d:=by
 intro e;subst e;simp[A3]at h
theorem Dq {A:bR} {i:Nat} (h:∀p∈A,eC ops p.1 i=false):cd ops i A=[]:=by
 simp only[cd,Uz];intro p hp;rw[h p hp];simp
theorem vP:∀(l:List (Nat×Oper×TK)) (A:bR) (listed:Array Bool) (pend:fT) (pi:List (Nat×Oper)) (s:Sl) (O:List aq),(∀p∈l,ops[p.1]? =some p.2.1)->(∀p∈pend,(p.1,p.2.1)∈pi)->nh ops l listed pi (A.map λp=>(p.1,p.2.1))=true->
  jg C N ops Qn Qp l A pend s O->gQ C N ops Qn Qp l.length A listed pend s O
 |[],A,listed,pend,pi,s,O,_,_,hB,h=>⟨h.1,by simpa[nh]using hB,h.2⟩
 |(i,o,.fl)::r,A,listed,pend,pi,s,O,hg,hpi,hB,h=>by
  simp only[nh,bL]at hB;obtain⟨⟨⟨⟨⟨⟨_,h1⟩,h2⟩,h3⟩,h4⟩,h6⟩,h5⟩:=hB;have hi:=hg (i,o,.fl) (by simp);simp only at hi;obtain⟨hpo,hd,y,hk⟩:=h;have hdis:∀(o':Oper),A4 ops o.dst o'=true->∀d,o.dst=some d->d∉o'.looksAt ops:=by
   intro o' ho' d hd;simp only[A4,hd]at ho';simpa using ho'
  simp only[iA,cP,bL,kQ]at h6;have hm:cd ops i A=[]:=Dq λp hp=>(h6 (p.1,p.2.1) ⟨p,hp,rfl⟩).1.1;have hAd:∀p∈A,o.dst≠some p.2.1/\p.2.1∉o.looksAt ops:=λp hp=>by
   have:=h6 (p.1,p.2.1) ⟨p,hp,rfl⟩;exact⟨KF this.1.2,by simpa using this.2⟩
  have hpd:∀p∈pend,∀d,o.dst=some d->d∉p.2.1.looksAt ops:=λp hp=>by
   refine hdis p.2.1 ?_;simp only[iA]at h4;exact h4 (p.1,p.2.1) (hpi p hp)
  have hfr:∀j oj,ops[j]? =some oj->j≠i->listed.getD j true=false->(∀e∈oj.after,Region.binds .any e=true->e.on≠i)->o.apart ops oj=true:=λj oj hj hne hun hno=>Region.free_spec hi h2 j oj hj hne hun hno;rcases hk with⟨hv,hk⟩|⟨hv,hk⟩
  ·refine Lk false hi (hdis o h3) hd r.length A listed pend s O hfr hpd hpo hm hAd (by simpa using h1) hv (λe=>by cases e) ?_;refine vP r A _ _ ((i,o)::pi) _ _ (λp hp=>hg p (by simp[hp])) (λp hp=>?_) h5 hk;rcases cm.1 hp with rfl|hp
   ·simp
   ·exact u9 _ (hpi p hp)
  ·refine Lk true hi (hdis o h3) hd r.length A listed pend s O hfr hpd hpo hm hAd (by simpa using h1) (hv O) (λ_=>hv) ?_;exact vP r A _ _ ((i,o)::pi) _ _ (λp hp=>hg p (by simp[hp])) (λp hp=>u9 _ (hpi p hp)) h5 hk
 |(i,o,.one)::r,A,listed,pend,pi,s,O,hg,hpi,hB,h=>by
  simp only[nh,bL,lB]at hB;refine⟨h.1,λh0=>(by rw[h0]at hB;cases hB.1),λj hj=>?_⟩;rw[hB.1,nN]at hj;subst hj;have hi:=hg (j,o,.one) (by simp);refine⟨o,hi,zx h.2 λzs _ hst=>hst.mono λs' O' hk=>?_⟩;refine vP r _ _ _ (pi.filter λp=>!eC ops p.1 j) _ _ (λp hp=>hg p (by simp[hp])) (λp hp=>?_) ?_ hk
  ·simp only[cO,iB]at hp⊢;exact⟨hpi p hp.1,hp.2⟩
  ·have:(cv ops j A).map (λp=>(p.1,p.2.1))=(A.map λp=>(p.1,p.2.1)).filter λp=>!eC ops p.1 j:=by
    simp[cv,List.filter_map,Function.comp_def]
   rw[this];exact hB.2
 |[(_,_,.two)],_,_,_,_,_,_,_,_,hB,_=>by simp[nh]at hB
 |(i,o,.two)::(j,o',x)::r,A,listed,pend,pi,s,O,hg,hpi,hB,h=>by
  simp only[nh,bL,lB]at hB;obtain⟨⟨⟨⟨⟨⟨hne,hall⟩,hin⟩,hj⟩,hi⟩,hal⟩,hr⟩:=hB;have gi:=hg (i,o,.two) (by simp);have gj:=hg (j,o',x) (by simp);simp only at gi gj;simp only[iA,cP,bL,kQ]at hal;have hmi:cd ops i A=[]:=Dq λp hp=>(hal (p.1,p.2.1) ⟨p,hp,rfl⟩).1;have hmj:cd ops j A=[]:=Dq λp hp=>(hal (p.1,p.2.1) ⟨p,hp,rfl⟩).2;obtain⟨hpo,h1,h2⟩:=h;have fin:∀s' O',jg C N ops Qn Qp r A (cO ops j (cO ops i pend)) s' O'->gQ C N ops Qn Qp r.length A ((listed.setIfInBounds i true).setIfInBounds j true) (cO ops j (cO ops i pend)) s' O':=λs' O' hk=>by
   refine vP r A _ _ ((pi.filter λp=>!eC ops p.1 i).filter λp=>!eC ops p.1 j) _ _ (λp hp=>hg p (by simp[hp])) (λp hp=>?_) hr hk;simp only[cO,iB]at hp⊢;exact⟨⟨hpi p hp.1.1,hp.1.2⟩,hp.2⟩
  have hcomm:cO ops i (cO ops j pend)=cO ops j (cO ops i pend):=by
   simp only[cO,List.filter_filter,Bool.and_comm]
  refine⟨hpo,λh0=>(by rw[h0]at hin;simp at hin),λk hk=>?_⟩;simp only[iA,xD]at hall;rcases hall k hk with hk'|hk'
  ·have hk':=bE hk';subst hk';refine⟨o,gi,vn (P:=λs O=>fU C N ops o s O (gQ C N ops Qn Qp (r.length+1) (cv ops k A) (listed.setIfInBounds k true) (cO ops k pend)) Qp) hmi ?_⟩;rw[vw hmi];refine h1.mono λs1 η1 hs1=>⟨hs1.1,λh0=>(by rw[h0]at hj;cases hj),λq hq=>?_⟩;rw[hj,nN]at hq;subst hq;refine⟨o',gj,vn (P:=λs O=>fU C N ops o' s O (gQ C N ops Qn Qp r.length (cv ops q A) ((listed.setIfInBounds k true).setIfInBounds q true) (cO ops q (cO ops k pend))) Qp) hmj ?_⟩;rw[vw hmj];exact hs1.2.mono fin
  ·have hk':=bE hk';subst hk';refine⟨o',gj,vn (P:=λs O=>fU C N ops o' s O (gQ C N ops Qn Qp (r.length+1) (cv ops k A) (listed.setIfInBounds k true) (cO ops k pend)) Qp) hmj ?_⟩;rw[vw hmj];refine h2.mono λs1 η1 hs1=>⟨hs1.1,λh0=>(by rw[h0]at hi;cases hi),λq hq=>?_⟩;rw[hi,nN]at hq;subst hq;refine⟨o,gi,vn (P:=λs O=>fU C N ops o s O (gQ C N ops Qn Qp r.length (cv ops q A) ((listed.setIfInBounds k true).setIfInBounds q true) (cO ops q (cO ops k pend))) Qp) hmi ?_⟩;rw[vw hmi];refine hs1.2.mono λs' O' hk'=>?_;rw[hcomm,Uv _ _ (jv hne)];exact fin s' O' hk'
