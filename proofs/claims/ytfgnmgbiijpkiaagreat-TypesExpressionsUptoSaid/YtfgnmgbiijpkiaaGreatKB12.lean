/- The program logic, twelfth part: the tail of an open region once more: operations that act come in a fixed order; values may float about them, if they are the same behind them. -/
import Derived.Test.YtfgnmgbiijpkiaaGreatKB10
set_option linter.all false
noncomputable section
namespace Go.Bw
open Go
def cV (C:Cx) (N:Nat) (o:Oper) (s:Sl) (O:List ah) (R:AR->List ah->Prop):Prop:=
 ∀F w (a:Act),a.tmps.size=N->a.defers=[]->bz C.G w F O->jw w (Al F O) N a o s->∀(K:Act->World->Prop) (Q:Exit->Act->World->Prop),
  (∀v w' x η',R (.ret x) η'->Rel w' (Al F η') x v->bz C.G w' F η'->Ext O w η' w'->K (a.put o.dst v) w')->
  (∀v w' x η',R (.aO x) η'->Rel w' (Al F η') x v->bz C.G w' F η'->Ext O w η' w'->Q (.panic [{v,recovered:=false}]) a w')->o.wp C.P a w K Q
section
variable {C:Cx} {N:Nat} {o:Oper} {s s':Sl} {O:List ah} {x:AV} {R R':AR->List ah->Prop}
theorem cV.congr (h:cV C N o s O R) (he:∀t∈tmpsOf o,s' t=s t):cV C N o s' O R:=λF w a h1 h2 h3 h4=>h F w a h1 h2 h3 (h4.congr he)
theorem cV.mono (h:cV C N o s O R) (hr:∀r η',R r η'->R' r η'):cV C N o s O R':=λF w a h1 h2 h3 h4 K Q k1 k2=>
 h F w a h1 h2 h3 h4 K Q (λv w' x η' hR=>k1 v w' x η' (hr _ _ hR)) (λv w' x η' hR=>k2 v w' x η' (hr _ _ hR))
theorem cV.lQ (h:bM C N o s O x):cV C N o s O (λr η'=>r= .ret x/\η'=O):=λF w a h1 h2 h3 h4 K Q k1 _=>
 h F w a h1 h2 h3 h4 K Q λv w' hv hc=>k1 v w' x O ⟨rfl,rfl⟩ hv (h3.later hc.2.2.2) hc.ext
theorem cV.rb {cells:List AV} {d:Nat} (hd:o.dst=some d) (h:eK C N o s O cells):cV C N o s O (λr η'=>∃b,r= .ret (.own O.length b 0)/\η'=O++[.box b cells]):=λF w a h1 h2 h3 h4 K Q k1 _=>
 h F w a h1 h2 h3 h4 K Q λvs e hv=>by
  have hext:=jS w (.cells vs.toArray e) O (.box w.heap.size cells) (by simp[ah.ids]);have hh:bz C.G (w.alloc (.cells vs.toArray e)) F (O++[.box w.heap.size cells]):=by
   refine h3.push (by simp) (λb hb=>gY w _ b hb) (by simp[ah.ids]) (by simp[ah.ids]) ?_;exact⟨e,vs,iN w _,hv.bm hext.keeps⟩
  exact k1 _ _ _ _ ⟨_,rfl,rfl⟩ (by simp only[Rel]) hh hext
theorem cV.Dy {R0:AV->List ah->Prop} (h:oG C N o (dn s (tmpsOf o)) O R0):cV C N o s O (λr η'=>∃y,r= .ret y/\R0 y η'):=λF w a hN hd hh hs K Q k1 _=>by
 have hst:St C.G N w F a (dn s (tmpsOf o)) O:=⟨⟨hN,λt y hy=>by obtain⟨h1,h2⟩:=iM hy;exact hs t h1 y h2⟩,hh,hd⟩;obtain⟨v,w',y,η',hR,h1,h2,h3,h4⟩:=h F a w hst;unfold Oper.wp;rw[h1,Oper.upon_value];exact k1 v w' y η' ⟨y,rfl,hR⟩ h2 h3 h4
theorem cV.L6 {η':List ah} (h:w6 C N o (dn s (tmpsOf o)) O η'):cV C N o s O (λr O1=>r= .ret (.v undef)/\O1=η'):=λF w a hN hd hh hs K Q k1 _=>by
 have hst:St C.G N w F a (dn s (tmpsOf o)) O:=⟨⟨hN,λt y hy=>by obtain⟨h1,h2⟩:=iM hy;exact hs t h1 y h2⟩,hh,hd⟩;obtain⟨w',h1,h2,h3⟩:=h F a w hst;unfold Oper.wp;rw[h1,Oper.upon_skip];exact k1 undef w' _ _ ⟨rfl,rfl⟩ (by simp only[Rel]) h2 h3
theorem cV.Ix {f:Operand} {args:List Operand} {g:FuncId} {ys:List AV} {tys:Array TypeId} (ho:o.op= .call {callee:= .value f,args:=args.toArray,argTypes:=tys}) (hc:callee s f args=some (g,ys)) (hb:zc C.P g)
  (h:∀F w vs,bz C.G w F O->aF w (Al F O) ys vs->Calls C.P g vs.toArray w λe w'=>∃r η',R r η'/\AR.rel w' (Al F η') r e/\bz C.G w' F η'/\Ext O w η' w'):cV C N o s O R:=λF w a hN _ hh hs K Q k1 k2=>by
 have hmem:∀p,p=f\/p∈args->p∈o.op.operands.toList:=by
  rintro p hp;rw[ho];rcases hp with rfl|hp
  ·simp[Op.operands,Call.operands]
  ·simp[Op.operands,Call.operands,hp]
 have hc':callee (look (dn s (tmpsOf o))) f args=some (g,ys):=by
  unfold callee at hc⊢;rw[eN (hmem f (.inl rfl)),pg λp hp=>eN (hmem p (.inr hp))];exact hc
 have hsl:ep w (Al F O) N a (look (dn s (tmpsOf o))):=⟨hN,λt y hy=>by obtain⟨h1,h2⟩:=iM hy;exact hs t h1 y h2⟩;obtain⟨vs,h1,h2⟩:=o7 (P:=C.P) hsl hc' (tys:=tys) (dst:=o.dst) (ty:=o.type) (pos:=o.pos) (after:=o.after) (gd:=o.guard) hb;have ho':o=⟨o.dst,.call {callee:= .value f,args:=args.toArray,argTypes:=tys},o.type,o.pos,o.after,o.guard⟩:=by rw[<-ho]
 rw[<-ho']at h2;unfold Oper.wp;rw[h2 w,Oper.upon_enter];refine(h F w vs hh h1).mono ?_;rintro e w' ⟨r,η',hR,hv,hH,hx⟩;cases r with
 |ret x=>obtain⟨v,rfl,hv⟩:=hv;exact k1 v w' x η' hR hv hH hx
 |aO x=>obtain⟨v,rfl,hv⟩:=hv;exact k2 v w' x η' hR hv hH hx
theorem cV.panic {p:Operand} {t:TypeId} {y:AV} (ho:o.op= .panic p) (hp:ev s p=some (.bu t y)):cV C N o s O (λr η'=>r= .aO (.bu t y)/\η'=O):=λF w a hN _ hh hs K Q _ k2=>by
 have h1:=L7 hN hs (by simp[ho,Op.operands]) hp;have h0:=h1;simp only[Rel]at h0;obtain⟨u,h0,_⟩:=h0;have hrun:(execOp a.eval o).run C.P w= .halt (.panic (.iface t u)) w:=by simp[execOp,ho,Instr.panic,h0]
 unfold Oper.wp;rw[hrun];rw[h0]at h1;exact k2 _ _ _ _ ⟨rfl,rfl⟩ h1 hh (Ext.refl O w)
theorem bh.lh {Q:AQ} {Z:Sg} {ops:Array Oper} {rest:List Oper} (hg:o.guard=none) (hd:cj N o.dst=true) (h:cV C N o (look Z) O R) (k1:∀x η',R (.ret x) η'->bh C N ops rest Q (jB o.dst x Z) η') (k2:∀x η',R (.aO x) η'->Q (.aO x) [] η'):
  bh C N ops (o::rest) Q Z O:=λF w0 O0 a w hs hx=>by
 unfold wpList;rw[cZ (by simp[Region.wanted,hg])];refine .inl (h F w a hs.sg.1 hs.df hs.hp (λt _ y hy=>hs.sg.2 t y hy) _ _ ?_ ?_)
 ·intro v w' x η' hR hv hH hext;exact k1 x η' hR F w0 O0 _ w' (hs.put hext hH hd hv) (hx.trans hext)
 ·intro v w' x η' hR hv hH hext;exact⟨.aO x,[],η',k2 x η' hR,⟨v,rfl,hv⟩,⟨⟨hs.sg.1,λt x hx=>by simp[AE.sl,look]at hx⟩,hH,hs.df⟩,hx.trans hext⟩
end
def dZ (ops:Array Oper) (i j:Nat):Bool:=match ops[j]? with
 |some o=>o.after.toList.any λe=>Region.binds .any e&&e.on==i
 |none=>false
def iE (C:Cx) (N:Nat) (ops:Array Oper) (o:Oper) (s:Sl) (O:List ah) (y:AV):Prop:=(iR ops o s=some true/\bM C N o s O y)\/(iR ops o s=some false/\y= .v undef)
abbrev fh:=List (Nat×Oper×AV)
def cO (ops:Array Oper) (j:Nat) (pend:fh):fh:=pend.filter λp=>!dZ ops p.1 j
def jq (C:Cx) (N:Nat) (ops:Array Oper) (pend:fh) (s:Sl) (O:List ah):Prop:=∀p∈pend,iE C N ops p.2.1 s O p.2.2
abbrev bJ:=List (Nat×(Nat×List AV))
def b8 (ops:Array Oper) (j:Nat) (A:bJ):bJ:=A.filter λp=>dZ ops p.1 j
def cm (ops:Array Oper) (j:Nat) (A:bJ):bJ:=A.filter λp=>!dZ ops p.1 j
def ku (A:bJ):Nu:=A.map (·.2)
def fx (n:Nat) (zs:List ((Nat×List AV)×Nat)) (s:Sl):Sl:=λt=>match look (fg n zs) t with
 |some x=>some x
 |none=>s t
def fi (C:Cx) (N:Nat) (ops:Array Oper) (o:Oper) (s:Sl) (O:List ah) (nx:Sl->List ah->Prop) (Qp:AV->List ah->Prop):Prop:=
 cj N o.dst=true/\((iR ops o s=some true/\∃R,cV C N o s O R/\(∀x η',R (.ret x) η'->nx (aY s o.dst (some x)) η')/\∀x η',R (.aO x) η'->Qp x η')\/
  (iR ops o s=some false/\nx (aY s o.dst (some (.v undef))) O))
def fU (C:Cx) (N:Nat) (ops:Array Oper) (Qn:Sl->List ah->Prop) (Qp:AV->List ah->Prop):Nat->bJ->Array Bool->fh->Sl->List ah->Prop
 |0,_,listed,pend,s,O=>jq C N ops pend s O/\Region.ready .any ops listed=[]/\Qn s O
 |n+1,A,listed,pend,s,O=>jq C N ops pend s O/\(Region.ready .any ops listed=[]->Qn s O)/\∀j∈Region.ready .any ops listed,∃o,ops[j]? =some o/\
   gh (ku (b8 ops j A)) λzs=>fi C N ops o (fx O.length zs s) (O++cQ zs) (fU C N ops Qn Qp n (cm ops j A) (listed.setIfInBounds j true) (cO ops j pend)) Qp
section
variable {C:Cx} {N:Nat} {ops:Array Oper} {Qn:Sl->List ah->Prop} {Qp:AV->List ah->Prop}
theorem iE.congr {o:Oper} {s s':Sl} {O:List ah} {y:AV} (h:iE C N ops o s O y) (he:∀t∈o.looksAt ops,s' t=s t):iE C N ops o s' O y:=
 h.imp (λ⟨h1,h2⟩=>⟨by rw[rp he];exact h1,h2.congr λt ht=>he t (xG ht)⟩) λ⟨h1,h2⟩=>⟨by rw[rp he];exact h1,h2⟩
theorem fi.mono {o:Oper} {s:Sl} {O:List ah} {nx nx':Sl->List ah->Prop} (h:fi C N ops o s O nx Qp) (hn:∀s O,nx s O->nx' s O):fi C N ops o s O nx' Qp:=
 ⟨h.1,h.2.imp (λ⟨h1,R,h2,h3,h4⟩=>⟨h1,R,h2,λx η' hR=>hn _ _ (h3 x η' hR),h4⟩) λ⟨h1,h2⟩=>⟨h1,hn _ _ h2⟩⟩
theorem rz:∀{W:Nu} {P:List ((Nat×List AV)×Nat)->Prop},(∀zs,zs.map (·.1)=W->P zs)->gh W P
 |[],_,h=>h [] rfl
 |p::W,P,h=>λb=>rz λzs hz=>h ((p,b)::zs) (by simp[hz])
theorem u4 {W:Nu} {P P':List ((Nat×List AV)×Nat)->Prop} (h:gh W P) (hi:∀zs,zs.map (·.1)=W->P zs->P' zs):gh W P':=rz λzs hz=>hi zs hz (uW h zs hz)
theorem Ps (n:Nat) (s:Sl):fx n [] s=s:=rfl
theorem Nv:cQ []=[]:=rfl
theorem rG {A:bJ} {i:Nat} (hm:b8 ops i A=[]) {n:Nat} {s:Sl} {O:List ah} {P:Sl->List ah->Prop} (h:P s O):gh (ku (b8 ops i A)) λzs=>P (fx n zs s) (O++cQ zs):=by
 rw[hm];show P (fx n [] s) (O++cQ []);rw[Ps,Nv,gw];exact h
theorem rO {A:bJ} {i:Nat} (hm:b8 ops i A=[]):cm ops i A=A:=by
 simp only[b8,Mz,Wz]at hm;simp only[cm,List.filter_eq_self];intro p hp;rw[hm p hp];rfl
theorem Pt {A:bJ} {i j:Nat} (hm:b8 ops i A=[]):b8 ops i (cm ops j A)=[]:=by
 simp only[b8,cm,Mz]at hm⊢;intro p hp;exact hm p (gJ.1 hp).1
theorem Hk:∀{n:Nat} {A:bJ} {listed:Array Bool} {pend pend':fh} {s:Sl} {O:List ah},(∀p∈pend',p∈pend)->fU C N ops Qn Qp n A listed pend s O->fU C N ops Qn Qp n A listed pend' s O
 |0,_,_,_,_,_,_,hs,h=>⟨λp hp=>h.1 p (hs p hp),h.2⟩
 |n+1,_,_,_,_,_,_,hs,h=>⟨λp hp=>h.1 p (hs p hp),h.2.1,λj hj=>by
  obtain⟨o,ho,hst⟩:=h.2.2 j hj;refine⟨o,ho,u4 hst λzs _ hst=>hst.mono λs O=>Hk λp hp=>?_⟩;simp only[cO,gJ]at hp⊢;exact⟨hs p hp.1,hp.2⟩⟩
theorem OK {n:Nat} {A:bJ} {listed:Array Bool} {pend:fh} {s:Sl} {O:List ah} (h:fU C N ops Qn Qp n A listed pend s O):jq C N ops pend s O:=by
 cases n with
 |zero=>exact h.1
 |succ n=>exact h.1
theorem iE.step {o:Oper} {s:Sl} {O:List ah} {y:AV} (hd:cj N o.dst=true) (h:iE C N ops o s O y) {nx:Sl->List ah->Prop} (k:nx (aY s o.dst (some y)) O):fi C N ops o s O nx Qp:=by
 refine⟨hd,h.imp (λ⟨h1,h2⟩=>⟨h1,_,cV.lQ h2,?_,λx η' h=>by cases h.1⟩) λ⟨h1,h2⟩=>⟨h1,by subst h2;exact k⟩⟩;rintro x η' ⟨h1,rfl⟩;cases h1;exact k
theorem Pv {n:Nat} {zs:List ((Nat×List AV)×Nat)} {s:Sl} {dst:Option Nat} {y:Option AV} (hd:∀z∈zs,dst≠some z.1.1):fx n zs (aY s dst y)=aY (fx n zs s) dst y:=by
 funext t;cases dst with
 |none=>rfl
 |some d=>
  simp only[fx,aY];by_cases ht:t=d
  ·subst ht;simp only[if_true];cases hl:look (fg n zs) t with
   |none=>rfl
   |some x=>
    have:look (fg n zs++[]) t=some x:=by simpa using hl
    rcases ph this with⟨z,hz,k,h1,_⟩|h
    ·exact absurd (by rw[h1]) (hd z hz)
    ·simp[look]at h
  ·simp only[ht,if_false]
def nW (stable:Bool) (p:Nat×Oper×AV) (pend:fh):fh:=match stable with
 |true=>pend
 |false=>p::pend
theorem Fw {i:Nat} {oi:Oper} {y:AV} (stable:Bool) (hi:ops[i]? =some oi) (hown:∀d,oi.dst=some d->d∉oi.looksAt ops) (hdi:cj N oi.dst=true):
  ∀(n:Nat) (A:bJ) (listed:Array Bool) (pend:fh) (s:Sl) (O:List ah),
   (∀j oj,ops[j]? =some oj->j≠i->listed.getD j true=false->(∀e∈oj.after,Region.binds .any e=true->e.on≠i)->oi.apart ops oj=true)->
   (∀p∈pend,∀d,oi.dst=some d->d∉p.2.1.looksAt ops)->jq C N ops pend s O->b8 ops i A=[]->(∀p∈A,oi.dst≠some p.2.1/\p.2.1∉oi.looksAt ops)->
   i∈Region.ready .any ops listed->iE C N ops oi s O y->(stable=true->∀η',iE C N ops oi s η' y)->
   fU C N ops Qn Qp n A (listed.setIfInBounds i true) (nW stable (i,oi,y) pend) (aY s oi.dst (some y)) O->fU C N ops Qn Qp (n+1) A listed pend s O:=by
 intro n;have same:∀(n:Nat) (A:bJ) (listed:Array Bool) (pend:fh) (s:Sl) (O:List ah),b8 ops i A=[]->iE C N ops oi s O y->fU C N ops Qn Qp n A (listed.setIfInBounds i true) (nW stable (i,oi,y) pend) (aY s oi.dst (some y)) O->
   gh (ku (b8 ops i A)) λzs=>fi C N ops oi (fx O.length zs s) (O++cQ zs) (fU C N ops Qn Qp n (cm ops i A) (listed.setIfInBounds i true) (cO ops i pend)) Qp:=by
  intro n A listed pend s O hm hv H;refine rG (P:=λs O=>fi C N ops oi s O (fU C N ops Qn Qp n (cm ops i A) (listed.setIfInBounds i true) (cO ops i pend)) Qp) hm ?_;rw[rO hm];refine hv.step hdi (Hk (λp hp=>?_) H);simp only[cO,gJ]at hp;cases stable with
  |true=>exact hp.1
  |false=>exact xv _ hp.1
 induction n with
 |zero=>
  intro A listed pend s O hfree hpd hpo hm hAd hr hv hstb H;refine⟨hpo,λh=>(by rw[h]at hr;cases hr),λj hj=>?_⟩;by_cases hji:j=i
  ·subst hji;exact⟨oi,hi,same 0 A listed pend s O hm hv H⟩
  ·exfalso;have:=ready_mono hj hji;rw[H.2.1]at this;cases this
 |succ n ih=>
  intro A listed pend s O hfree hpd hpo hm hAd hr hv hstb H;refine⟨hpo,λh=>(by rw[h]at hr;cases hr),λj hj=>?_⟩;by_cases hji:j=i
  ·subst hji;exact⟨oi,hi,same (n+1) A listed pend s O hm hv H⟩
  ·obtain⟨oj,hoj,hst⟩:=H.2.2 j (ready_mono hj hji);obtain⟨hjun,oj',hoj',hall⟩:=mem_ready.1 hj;rw[hoj]at hoj';cases hoj';have hnot:∀e∈oj.after,Region.binds .any e=true->e.on≠i:=λe he hb heq=>by
    have h1:=hall e he hb;have h0:=(mem_ready.1 hr).1;rw[heq]at h1;rcases jO i listed.size with h'|h'
    ·simp[h']at h0 h1;rw[h0]at h1;cases h1
    ·simp[rn h']at h1
   have hb1:dZ ops i j=false:=by
    unfold dZ;rw[hoj];simp only[Ed,Wz,Bool.and_eq_false_iff];intro q hq;cases hb:Region.binds .any q with
    |false=>exact .inl rfl
    |true=>exact .inr (by simpa using hnot _ (by simpa using hq) hb)
   obtain⟨a1,a2,a3⟩:=Oper.apart_spec (hfree j oj hoj hji hjun hnot);refine⟨oj,hoj,u4 hst λzs hz hst=>?_⟩;have hzA:∀z∈zs,∃p∈A,p.2.1=z.1.1:=λz hzm=>by
    have:z.1∈ku (b8 ops j A):=by rw[<-hz];exact dt.2 ⟨z,hzm,rfl⟩
    simp only[ku,b8,dt,gJ]at this;obtain⟨p,hp,he⟩:=this;exact⟨p,hp.1,by rw[he]⟩
   have hzd:∀z∈zs,oi.dst≠some z.1.1:=λz hzm=>by
    obtain⟨p,hp,he⟩:=hzA z hzm;rw[<-he];exact(hAd p hp).1
   rw[Pv hzd]at hst;have hui:∀t∈oi.looksAt ops,fx O.length zs s t=s t:=λt ht=>by
    simp only[fx];cases hl:look (fg O.length zs) t with
    |none=>rfl
    |some x=>
     have:look (fg O.length zs++[]) t=some x:=by simpa using hl
     rcases ph this with⟨z,hzm,k,h1,_⟩|h
     ·obtain⟨p,hp,he⟩:=hzA z hzm;exact absurd (by rw[he,<-h1];exact ht) (hAd p hp).2
     ·simp[look]at h
   have hvst:stable=true->∀η',iE C N ops oi (fx O.length zs s) η' y:=λhs η'=>(hstb hs η').congr hui;generalize fx O.length zs s=s1 at hst hvst⊢;generalize O++cQ zs=O1 at hst⊢;have hs1:∀t∈oj.looksAt ops,s1 t=aY s1 oi.dst (some y) t:=λt ht=>(kC λd hd he=>a1 d hd (he▸ht)).symm;have hnext:∀x η',fU C N ops Qn Qp n (cm ops j A) ((listed.setIfInBounds i true).setIfInBounds j true) (cO ops j (nW stable (i,oi,y) pend)) (aY (aY s1 oi.dst (some y)) oj.dst (some x)) η'->
     fU C N ops Qn Qp (n+1) (cm ops j A) (listed.setIfInBounds j true) (cO ops j pend) (aY s1 oj.dst (some x)) η':=by
    intro x η' hk;have hkp:cO ops j (nW stable (i,oi,y) pend)=nW stable (i,oi,y) (cO ops j pend):=by
     cases stable with
     |true=>rfl
     |false=>simp[cO,nW,hb1]
    rw[hkp]at hk;have hpo':=OK hk;have hcongr:∀(o:Oper),(∀d,oi.dst=some d->d∉o.looksAt ops)->∀t∈o.looksAt ops,aY s1 oj.dst (some x) t=aY (aY s1 oi.dst (some y)) oj.dst (some x) t:=by
     intro o ho t ht;cases hdj:oj.dst with
     |none=>exact(kC λd hd he=>ho d hd (he▸ht)).symm
     |some e=>
      simp only[aY];split
      ·rfl
      ·exact(kC λd hd he=>ho d hd (he▸ht)).symm
    have hstab2:stable=true->∀η',iE C N ops oi (aY s1 oj.dst (some x)) η' y:=λhs η'=>(hvst hs η').congr λt ht=>kC λd hd he=>a3 d hd (he▸ht);refine ih _ _ _ _ _ ?_ (λp hp=>hpd p (by simp only[cO,gJ]at hp;exact hp.1)) (λp hp=>?_) (Pt hm) (λp hp=>hAd p (gJ.1 hp).1) (ready_mono hr (gX hji)) ?_ hstab2 ?_
    ·intro k ok hk' hki hun hno;refine hfree k ok hk' hki ?_ hno;by_cases hjk:j=k
     ·subst hjk;exact hjun
     ·rw[getD_set_ne true hjk]at hun;exact hun
    ·refine(hpo' p ?_).congr (hcongr p.2.1 (hpd p (by simp only[cO,gJ]at hp;exact hp.1)));cases stable with
     |true=>exact hp
     |false=>exact xv _ hp
    ·cases hsb:stable with
     |true=>exact hstab2 hsb η'
     |false=>
      subst hsb;exact(hpo' (i,oi,y) (by simp[nW])).congr (hcongr oi hown)
    ·rw[Mt _ _ hji,<-Ff s1 (some y) (some x) a2];exact hk
   refine⟨hst.1,?_⟩;rcases hst.2 with⟨h1,R,h2,h3,h4⟩|⟨h1,h2⟩
   ·refine .inl ⟨by rw[rp hs1];exact h1,R,h2.congr λt ht=>hs1 t (xG ht),λx η' hR=>hnext x η' (h3 x η' hR),h4⟩
   ·exact .inr ⟨by rw[rp hs1];exact h1,hnext _ _ h2⟩
inductive TK where
 |one
 |fl
 |two
def gS (C:Cx) (N:Nat) (ops:Array Oper) (Qn:Sl->List ah->Prop) (Qp:AV->List ah->Prop):List (Nat×Oper×TK)->bJ->fh->Sl->List ah->Prop
 |[],_,pend,s,O=>jq C N ops pend s O/\Qn s O
 |(i,o,.fl)::r,A,pend,s,O=>jq C N ops pend s O/\cj N o.dst=true/\∃y,(iE C N ops o s O y/\gS C N ops Qn Qp r A ((i,o,y)::pend) (aY s o.dst (some y)) O)\/((∀η',iE C N ops o s η' y)/\gS C N ops Qn Qp r A pend (aY s o.dst (some y)) O)
 |(i,o,.one)::r,A,pend,s,O=>jq C N ops pend s O/\gh (ku (b8 ops i A)) λzs=>fi C N ops o (fx O.length zs s) (O++cQ zs) (gS C N ops Qn Qp r (cm ops i A) (cO ops i pend)) Qp
 |[(_,_,.two)],_,_,_,_=>False
 |(i,o,.two)::(j,o',_)::r,A,pend,s,O=>jq C N ops pend s O/\fi C N ops o s O (λs1 O1=>jq C N ops (cO ops i pend) s1 O1/\fi C N ops o' s1 O1 (gS C N ops Qn Qp r A (cO ops j (cO ops i pend))) Qp) Qp/\
   fi C N ops o' s O (λs1 O1=>jq C N ops (cO ops j pend) s1 O1/\fi C N ops o s1 O1 (gS C N ops Qn Qp r A (cO ops j (cO ops i pend))) Qp) Qp
def vS (ops:Array Oper) (dst:Option Nat) (o:Oper):Bool:=match dst with
 |none=>true
 |some d=>!(o.looksAt ops).contains d
def vR (dst:Option Nat) (d:Nat):Bool:=match dst with
 |none=>true
 |some e=>!Nat.beq e d
def kV (ops:Array Oper):List (Nat×Oper×TK)->Array Bool->List (Nat×Oper)->List (Nat×Nat)->Bool
 |[],listed,_,_=>(Region.ready .any ops listed).isEmpty
 |(i,o,.fl)::r,listed,pi,al=>(match ops[i]? with
   |some _=>true
   |none=>false)&&(Region.ready .any ops listed).contains i&&Region.free .any ops listed i&&vS ops o.dst o&&(pi.all λp=>vS ops o.dst p.2)&&(al.all λa=>!dZ ops a.1 i&&vR o.dst a.2&& !(o.looksAt ops).contains a.2)&&kV ops r (listed.setIfInBounds i true) ((i,o)::pi) al
 |(i,_,.one)::r,listed,pi,al=>decide (Region.ready .any ops listed=[i])&&kV ops r (listed.setIfInBounds i true) (pi.filter λp=>!dZ ops p.1 i) (al.filter λa=>!dZ ops a.1 i)
 |[(_,_,.two)],_,_,_=>false
 |(i,_,.two)::(j,_,_)::r,listed,pi,al=>decide (i≠j)&&(Region.ready .any ops listed).all (λk=>Nat.beq k i||Nat.beq k j)&&(Region.ready .any ops listed).contains i&&decide (Region.ready .any ops (listed.setIfInBounds i true)=[j])&&decide (Region.ready .any ops (listed.setIfInBounds j true)=[i])&&
   (al.all λa=>!dZ ops a.1 i&& !dZ ops a.1 j)&&kV ops r ((listed.setIfInBounds i true).setIfInBounds j true) ((pi.filter λp=>!dZ ops p.1 i).filter λp=>!dZ ops p.1 j) al
def ic (ops:Array Oper):List (Nat×TK)->List (Nat×Oper×TK)
 |[]=>[]
 |(i,b)::r=>match ops[i]? with
  |some o=>(i,o,b)::ic ops r
  |none=>ic ops r
theorem xT:∀{l:List (Nat×TK)} {p:Nat×Oper×TK},p∈ic ops l->ops[p.1]? =some p.2.1
 |[],_,h=>by simp[ic]at h
 |(i,b)::r,p,h=>by
  simp only[ic]at h;split at h
  ·rename_i o ho;rcases dc.1 h with rfl|h
   ·exact ho
   ·exact xT h
  ·exact xT h
theorem EZ {dst:Option Nat} {d:Nat} (h:vR dst d=true):dst≠some d:=by
 intro e;subst e;simp[vR]at h
theorem zh {A:bJ} {i:Nat} (h:∀p∈A,dZ ops p.1 i=false):b8 ops i A=[]:=by
 simp only[b8,Mz];intro p hp;rw[h p hp];simp
theorem rU:∀(l:List (Nat×Oper×TK)) (A:bJ) (listed:Array Bool) (pend:fh) (pi:List (Nat×Oper)) (s:Sl) (O:List ah),(∀p∈l,ops[p.1]? =some p.2.1)->(∀p∈pend,(p.1,p.2.1)∈pi)->kV ops l listed pi (A.map λp=>(p.1,p.2.1))=true->
  gS C N ops Qn Qp l A pend s O->fU C N ops Qn Qp l.length A listed pend s O
 |[],A,listed,pend,pi,s,O,_,_,hB,h=>⟨h.1,by simpa[kV]using hB,h.2⟩
 |(i,o,.fl)::r,A,listed,pend,pi,s,O,hg,hpi,hB,h=>by
  simp only[kV,bI]at hB;obtain⟨⟨⟨⟨⟨⟨_,h1⟩,h2⟩,h3⟩,h4⟩,h6⟩,h5⟩:=hB;have hi:=hg (i,o,.fl) (by simp);simp only at hi;obtain⟨hpo,hd,y,hk⟩:=h;have hdis:∀(o':Oper),vS ops o.dst o'=true->∀d,o.dst=some d->d∉o'.looksAt ops:=by
   intro o' ho' d hd;simp only[vS,hd]at ho';simpa using ho'
  simp only[gH,dt,bI,je]at h6;have hm:b8 ops i A=[]:=zh λp hp=>(h6 (p.1,p.2.1) ⟨p,hp,rfl⟩).1.1;have hAd:∀p∈A,o.dst≠some p.2.1/\p.2.1∉o.looksAt ops:=λp hp=>by
   have:=h6 (p.1,p.2.1) ⟨p,hp,rfl⟩;exact⟨EZ this.1.2,by simpa using this.2⟩
  have hpd:∀p∈pend,∀d,o.dst=some d->d∉p.2.1.looksAt ops:=λp hp=>by
   refine hdis p.2.1 ?_;simp only[gH]at h4;exact h4 (p.1,p.2.1) (hpi p hp)
  have hfr:∀j oj,ops[j]? =some oj->j≠i->listed.getD j true=false->(∀e∈oj.after,Region.binds .any e=true->e.on≠i)->o.apart ops oj=true:=λj oj hj hne hun hno=>Region.free_spec hi h2 j oj hj hne hun hno;rcases hk with⟨hv,hk⟩|⟨hv,hk⟩
  ·refine Fw false hi (hdis o h3) hd r.length A listed pend s O hfr hpd hpo hm hAd (by simpa using h1) hv (λe=>by cases e) ?_;refine rU r A _ _ ((i,o)::pi) _ _ (λp hp=>hg p (by simp[hp])) (λp hp=>?_) h5 hk;rcases dc.1 hp with rfl|hp
   ·simp
   ·exact xv _ (hpi p hp)
  ·refine Fw true hi (hdis o h3) hd r.length A listed pend s O hfr hpd hpo hm hAd (by simpa using h1) (hv O) (λ_=>hv) ?_;exact rU r A _ _ ((i,o)::pi) _ _ (λp hp=>hg p (by simp[hp])) (λp hp=>xv _ (hpi p hp)) h5 hk
 |(i,o,.one)::r,A,listed,pend,pi,s,O,hg,hpi,hB,h=>by
  simp only[kV,bI,jh]at hB;refine⟨h.1,λh0=>(by rw[h0]at hB;cases hB.1),λj hj=>?_⟩;rw[hB.1,lv]at hj;subst hj;have hi:=hg (j,o,.one) (by simp);refine⟨o,hi,u4 h.2 λzs _ hst=>hst.mono λs' η' hk=>?_⟩;refine rU r _ _ _ (pi.filter λp=>!dZ ops p.1 j) _ _ (λp hp=>hg p (by simp[hp])) (λp hp=>?_) ?_ hk
  ·simp only[cO,gJ]at hp⊢;exact⟨hpi p hp.1,hp.2⟩
  ·have:(cm ops j A).map (λp=>(p.1,p.2.1))=(A.map λp=>(p.1,p.2.1)).filter λp=>!dZ ops p.1 j:=by
    simp[cm,List.filter_map,Function.comp_def]
   rw[this];exact hB.2
 |[(_,_,.two)],_,_,_,_,_,_,_,_,hB,_=>by simp[kV]at hB
 |(i,o,.two)::(j,o',x)::r,A,listed,pend,pi,s,O,hg,hpi,hB,h=>by
  simp only[kV,bI,jh]at hB;obtain⟨⟨⟨⟨⟨⟨hne,hall⟩,hin⟩,hj⟩,hi⟩,hal⟩,hr⟩:=hB;have gi:=hg (i,o,.two) (by simp);have gj:=hg (j,o',x) (by simp);simp only at gi gj;simp only[gH,dt,bI,je]at hal;have hmi:b8 ops i A=[]:=zh λp hp=>(hal (p.1,p.2.1) ⟨p,hp,rfl⟩).1;have hmj:b8 ops j A=[]:=zh λp hp=>(hal (p.1,p.2.1) ⟨p,hp,rfl⟩).2;obtain⟨hpo,h1,h2⟩:=h;have fin:∀s' η',gS C N ops Qn Qp r A (cO ops j (cO ops i pend)) s' η'->fU C N ops Qn Qp r.length A ((listed.setIfInBounds i true).setIfInBounds j true) (cO ops j (cO ops i pend)) s' η':=λs' η' hk=>by
   refine rU r A _ _ ((pi.filter λp=>!dZ ops p.1 i).filter λp=>!dZ ops p.1 j) _ _ (λp hp=>hg p (by simp[hp])) (λp hp=>?_) hr hk;simp only[cO,gJ]at hp⊢;exact⟨⟨hpi p hp.1.1,hp.1.2⟩,hp.2⟩
  have hcomm:cO ops i (cO ops j pend)=cO ops j (cO ops i pend):=by
   simp only[cO,List.filter_filter,Bool.and_comm]
  refine⟨hpo,λh0=>(by rw[h0]at hin;simp at hin),λk hk=>?_⟩;simp only[gH,xr]at hall;rcases hall k hk with hk'|hk'
  ·have hk':=bB hk';subst hk';refine⟨o,gi,rG (P:=λs O=>fi C N ops o s O (fU C N ops Qn Qp (r.length+1) (cm ops k A) (listed.setIfInBounds k true) (cO ops k pend)) Qp) hmi ?_⟩;rw[rO hmi];refine h1.mono λs1 O1 hs1=>⟨hs1.1,λh0=>(by rw[h0]at hj;cases hj),λq hq=>?_⟩;rw[hj,lv]at hq;subst hq;refine⟨o',gj,rG (P:=λs O=>fi C N ops o' s O (fU C N ops Qn Qp r.length (cm ops q A) ((listed.setIfInBounds k true).setIfInBounds q true) (cO ops q (cO ops k pend))) Qp) hmj ?_⟩;rw[rO hmj];exact hs1.2.mono fin
  ·have hk':=bB hk';subst hk';refine⟨o',gj,rG (P:=λs O=>fi C N ops o' s O (fU C N ops Qn Qp (r.length+1) (cm ops k A) (listed.setIfInBounds k true) (cO ops k pend)) Qp) hmj ?_⟩;rw[rO hmj];refine h2.mono λs1 O1 hs1=>⟨hs1.1,λh0=>(by rw[h0]at hi;cases hi),λq hq=>?_⟩;rw[hi,lv]at hq;subst hq;refine⟨o,gi,rG (P:=λs O=>fi C N ops o s O (fU C N ops Qn Qp r.length (cm ops q A) ((listed.setIfInBounds k true).setIfInBounds q true) (cO ops q (cO ops k pend))) Qp) hmi ?_⟩;rw[rO hmi];refine hs1.2.mono λs' η' hk'=>?_;rw[hcomm,Mt _ _ (gX hne)];exact fin s' η' hk'
