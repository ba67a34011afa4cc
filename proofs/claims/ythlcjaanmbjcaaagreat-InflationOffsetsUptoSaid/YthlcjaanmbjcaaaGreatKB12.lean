/- The program logic, twelfth part: the tail of an open region once more: operations that act come in a fixed order; values may float about them, if they are the same behind them. -/
import Derived.Test.YthlcjaanmbjcaaaGreatKB10
set_option linter.all false
noncomputable section
namespace Go.Bw
open Go
def cr (C:Cx) (N:Nat) (o:Oper) (s:Sl) (O:List ag) (R:AR->List ag->Prop):Prop:=
 ∀F w (a:Act),a.tmps.size=N->a.defers=[]->bh C.G w F O->g8 w (Al F O) N a o s->∀(K:Act->World->Prop) (Q:Exit->Act->World->Prop),
  (∀v w' x O',R (.ret x) O'->Rel w' (Al F O') x v->bh C.G w' F O'->Ext O w O' w'->K (a.put o.dst v) w')->
  (∀v w' x O',R (.aD x) O'->Rel w' (Al F O') x v->bh C.G w' F O'->Ext O w O' w'->Q (.panic [{v,recovered:=false}]) a w')->o.wp C.P a w K Q
section
variable {C:Cx} {N:Nat} {o:Oper} {s s':Sl} {O:List ag} {x:AV} {R R':AR->List ag->Prop}
theorem cr.congr (h:cr C N o s O R) (he:∀t∈tmpsOf o,s' t=s t):cr C N o s' O R:=λF w a h1 h2 h3 h4=>h F w a h1 h2 h3 (h4.congr he)
theorem cr.mono (h:cr C N o s O R) (hr:∀r O',R r O'->R' r O'):cr C N o s O R':=λF w a h1 h2 h3 h4 K Q k1 k2=>
 h F w a h1 h2 h3 h4 K Q (λv w' x O' hR=>k1 v w' x O' (hr _ _ hR)) (λv w' x O' hR=>k2 v w' x O' (hr _ _ hR))
theorem cr.ko (h:bp C N o s O x):cr C N o s O (λr O'=>r= .ret x/\O'=O):=λF w a h1 h2 h3 h4 K Q k1 _=>
 h F w a h1 h2 h3 h4 K Q λv w' hv hc=>k1 v w' x O ⟨rfl,rfl⟩ hv (h3.later hc.2.2.2) hc.ext
theorem cr.oJ {cells:List AV} {d:Nat} (hd:o.dst=some d) (h:dZ C N o s O cells):cr C N o s O (λr O'=>∃b,r= .ret (.own O.length b 0)/\O'=O++[.box b cells]):=λF w a h1 h2 h3 h4 K Q k1 _=>
 h F w a h1 h2 h3 h4 K Q λvs e hv=>by
  have hext:=iB w (.cells vs.toArray e) O (.box w.heap.size cells) (by simp[ag.ids]);have hh:bh C.G (w.alloc (.cells vs.toArray e)) F (O++[.box w.heap.size cells]):=by
   refine h3.push (by simp) (λb hb=>gb w _ b hb) (by simp[ag.ids]) (by simp[ag.ids]) ?_;exact⟨e,vs,gE w _,hv.aU hext.keeps⟩
  exact k1 _ _ _ _ ⟨_,rfl,rfl⟩ (by simp only[Rel]) hh hext
theorem cr.zW {R0:AV->List ag->Prop} (h:mw C N o (cD s (tmpsOf o)) O R0):cr C N o s O (λr O'=>∃y,r= .ret y/\R0 y O'):=λF w a hN hd hh hs K Q k1 _=>by
 have hst:St C.G N w F a (cD s (tmpsOf o)) O:=⟨⟨hN,λt y hy=>by obtain⟨h1,h2⟩:=gD hy;exact hs t h1 y h2⟩,hh,hd⟩;obtain⟨v,w',y,O',hR,h1,h2,h3,h4⟩:=h F a w hst;unfold Oper.wp;rw[h1,Oper.upon_value];exact k1 v w' y O' ⟨y,rfl,hR⟩ h2 h3 h4
theorem cr.H' {O':List ag} (h:qN C N o (cD s (tmpsOf o)) O O'):cr C N o s O (λr O1=>r= .ret (.v undef)/\O1=O'):=λF w a hN hd hh hs K Q k1 _=>by
 have hst:St C.G N w F a (cD s (tmpsOf o)) O:=⟨⟨hN,λt y hy=>by obtain⟨h1,h2⟩:=gD hy;exact hs t h1 y h2⟩,hh,hd⟩;obtain⟨w',h1,h2,h3⟩:=h F a w hst;unfold Oper.wp;rw[h1,Oper.upon_skip];exact k1 undef w' _ _ ⟨rfl,rfl⟩ (by simp only[Rel]) h2 h3
theorem cr.FE {f:Operand} {args:List Operand} {g:FuncId} {ys:List AV} {tys:Array TypeId} (ho:o.op= .call {callee:= .value f,args:=args.toArray,argTypes:=tys}) (hc:callee s f args=some (g,ys)) (hb:pt C.P g)
  (h:∀F w vs,bh C.G w F O->ax w (Al F O) ys vs->Calls C.P g vs.toArray w λe w'=>∃r O',R r O'/\AR.rel w' (Al F O') r e/\bh C.G w' F O'/\Ext O w O' w'):cr C N o s O R:=λF w a hN _ hh hs K Q k1 k2=>by
 have hmem:∀p,p=f\/p∈args->p∈o.op.operands.toList:=by
  rintro p hp;rw[ho];rcases hp with rfl|hp
  ·simp[Op.operands,Call.operands]
  ·simp[Op.operands,Call.operands,hp]
 have hc':callee (look (cD s (tmpsOf o))) f args=some (g,ys):=by
  unfold callee at hc⊢;rw[ea (hmem f (.inl rfl)),m4 λp hp=>ea (hmem p (.inr hp))];exact hc
 have hsl:dN w (Al F O) N a (look (cD s (tmpsOf o))):=⟨hN,λt y hy=>by obtain⟨h1,h2⟩:=gD hy;exact hs t h1 y h2⟩;obtain⟨vs,h1,h2⟩:=mS (P:=C.P) hsl hc' (tys:=tys) (dst:=o.dst) (ty:=o.type) (pos:=o.pos) (after:=o.after) (gd:=o.guard) hb;have ho':o=⟨o.dst,.call {callee:= .value f,args:=args.toArray,argTypes:=tys},o.type,o.pos,o.after,o.guard⟩:=by rw[<-ho]
 rw[<-ho']at h2;unfold Oper.wp;rw[h2 w,Oper.upon_enter];refine(h F w vs hh h1).mono ?_;rintro e w' ⟨r,O',hR,hv,hH,hx⟩;cases r with
 |ret x=>obtain⟨v,rfl,hv⟩:=hv;exact k1 v w' x O' hR hv hH hx
 |aD x=>obtain⟨v,rfl,hv⟩:=hv;exact k2 v w' x O' hR hv hH hx
theorem cr.panic {p:Operand} {t:TypeId} {y:AV} (ho:o.op= .panic p) (hp:ev s p=some (.ba t y)):cr C N o s O (λr O'=>r= .aD (.ba t y)/\O'=O):=λF w a hN _ hh hs K Q _ k2=>by
 have h1:=Ia hN hs (by simp[ho,Op.operands]) hp;have h0:=h1;simp only[Rel]at h0;obtain⟨u,h0,_⟩:=h0;have hrun:(execOp a.eval o).run C.P w= .halt (.panic (.iface t u)) w:=by simp[execOp,ho,Instr.panic,h0]
 unfold Oper.wp;rw[hrun];rw[h0]at h1;exact k2 _ _ _ _ ⟨rfl,rfl⟩ h1 hh (Ext.refl O w)
theorem aQ.kn {Q:AQ} {Z:Sg} {ops:Array Oper} {rest:List Oper} (hg:o.guard=none) (hd:bE N o.dst=true) (h:cr C N o (look Z) O R) (k1:∀x O',R (.ret x) O'->aQ C N ops rest Q (ik o.dst x Z) O') (k2:∀x O',R (.aD x) O'->Q (.aD x) [] O'):
  aQ C N ops (o::rest) Q Z O:=λF w0 O0 a w hs hx=>by
 unfold wpList;rw[cV (by simp[Region.wanted,hg])];refine .inl (h F w a hs.sg.1 hs.df hs.hp (λt _ y hy=>hs.sg.2 t y hy) _ _ ?_ ?_)
 ·intro v w' x O' hR hv hH hext;exact k1 x O' hR F w0 O0 _ w' (hs.put hext hH hd hv) (hx.trans hext)
 ·intro v w' x O' hR hv hH hext;exact⟨.aD x,[],O',k2 x O' hR,⟨v,rfl,hv⟩,⟨⟨hs.sg.1,λt x hx=>by simp[AE.sl,look]at hx⟩,hH,hs.df⟩,hx.trans hext⟩
end
def du (ops:Array Oper) (i j:Nat):Bool:=match ops[j]? with
 |some o=>o.after.toList.any λe=>Region.binds .any e&&e.on==i
 |none=>false
def gw (C:Cx) (N:Nat) (ops:Array Oper) (o:Oper) (s:Sl) (O:List ag) (y:AV):Prop:=(gG ops o s=some true/\bp C N o s O y)\/(gG ops o s=some false/\y= .v undef)
abbrev ew:=List (Nat×Oper×AV)
def cj (ops:Array Oper) (j:Nat) (pend:ew):ew:=pend.filter λp=>!du ops p.1 j
def gY (C:Cx) (N:Nat) (ops:Array Oper) (pend:ew) (s:Sl) (O:List ag):Prop:=∀p∈pend,gw C N ops p.2.1 s O p.2.2
abbrev bo:=List (Nat×(Nat×List AV))
def bC (ops:Array Oper) (j:Nat) (A:bo):bo:=A.filter λp=>du ops p.1 j
def bJ (ops:Array Oper) (j:Nat) (A:bo):bo:=A.filter λp=>!du ops p.1 j
def i' (A:bo):Nu:=A.map (·.2)
def eD (n:Nat) (zs:List ((Nat×List AV)×Nat)) (s:Sl):Sl:=λt=>match look (eu n zs) t with
 |some x=>some x
 |none=>s t
def ez (C:Cx) (N:Nat) (ops:Array Oper) (o:Oper) (s:Sl) (O:List ag) (nx:Sl->List ag->Prop) (Qp:AV->List ag->Prop):Prop:=
 bE N o.dst=true/\((gG ops o s=some true/\∃R,cr C N o s O R/\(∀x O',R (.ret x) O'->nx (aO s o.dst (some x)) O')/\∀x O',R (.aD x) O'->Qp x O')\/
  (gG ops o s=some false/\nx (aO s o.dst (some (.v undef))) O))
def fc (C:Cx) (N:Nat) (ops:Array Oper) (Qn:Sl->List ag->Prop) (Qp:AV->List ag->Prop):Nat->bo->Array Bool->ew->Sl->List ag->Prop
 |0,_,listed,pend,s,O=>gY C N ops pend s O/\Region.ready .any ops listed=[]/\Qn s O
 |n+1,A,listed,pend,s,O=>gY C N ops pend s O/\(Region.ready .any ops listed=[]->Qn s O)/\∀j∈Region.ready .any ops listed,∃o,ops[j]? =some o/\
   fu (i' (bC ops j A)) λzs=>ez C N ops o (eD O.length zs s) (O++cm zs) (fc C N ops Qn Qp n (bJ ops j A) (listed.setIfInBounds j true) (cj ops j pend)) Qp
section
variable {C:Cx} {N:Nat} {ops:Array Oper} {Qn:Sl->List ag->Prop} {Qp:AV->List ag->Prop}
theorem gw.congr {o:Oper} {s s':Sl} {O:List ag} {y:AV} (h:gw C N ops o s O y) (he:∀t∈o.looksAt ops,s' t=s t):gw C N ops o s' O y:=
 h.imp (λ⟨h1,h2⟩=>⟨by rw[pc he];exact h1,h2.congr λt ht=>he t (vc ht)⟩) λ⟨h1,h2⟩=>⟨by rw[pc he];exact h1,h2⟩
theorem ez.mono {o:Oper} {s:Sl} {O:List ag} {nx nx':Sl->List ag->Prop} (h:ez C N ops o s O nx Qp) (hn:∀s O,nx s O->nx' s O):ez C N ops o s O nx' Qp:=
 ⟨h.1,h.2.imp (λ⟨h1,R,h2,h3,h4⟩=>⟨h1,R,h2,λx O' hR=>hn _ _ (h3 x O' hR),h4⟩) λ⟨h1,h2⟩=>⟨h1,hn _ _ h2⟩⟩
theorem ph:∀{W:Nu} {P:List ((Nat×List AV)×Nat)->Prop},(∀zs,zs.map (·.1)=W->P zs)->fu W P
 |[],_,h=>h [] rfl
 |p::W,P,h=>λb=>ph λzs hz=>h ((p,b)::zs) (by simp[hz])
theorem sx {W:Nu} {P P':List ((Nat×List AV)×Nat)->Prop} (h:fu W P) (hi:∀zs,zs.map (·.1)=W->P zs->P' zs):fu W P':=ph λzs hz=>hi zs hz (sq h zs hz)
theorem MB (n:Nat) (s:Sl):eD n [] s=s:=rfl
theorem KR:cm []=[]:=rfl
theorem pq {A:bo} {i:Nat} (hm:bC ops i A=[]) {n:Nat} {s:Sl} {O:List ag} {P:Sl->List ag->Prop} (h:P s O):fu (i' (bC ops i A)) λzs=>P (eD n zs s) (O++cm zs):=by
 rw[hm];show P (eD n [] s) (O++cm []);rw[MB,KR,gz];exact h
theorem pz {A:bo} {i:Nat} (hm:bC ops i A=[]):bJ ops i A=A:=by
 simp only[bC,J1,Sv]at hm;simp only[bJ,List.filter_eq_self];intro p hp;rw[hm p hp];rfl
theorem MC {A:bo} {i j:Nat} (hm:bC ops i A=[]):bC ops i (bJ ops j A)=[]:=by
 simp only[bC,bJ,J1]at hm⊢;intro p hp;exact hm p (fJ.1 hp).1
theorem EN:∀{n:Nat} {A:bo} {listed:Array Bool} {pend pend':ew} {s:Sl} {O:List ag},(∀p∈pend',p∈pend)->fc C N ops Qn Qp n A listed pend s O->fc C N ops Qn Qp n A listed pend' s O
 |0,_,_,_,_,_,_,hs,h=>⟨λp hp=>h.1 p (hs p hp),h.2⟩
 |n+1,_,_,_,_,_,_,hs,h=>⟨λp hp=>h.1 p (hs p hp),h.2.1,λj hj=>by
  obtain⟨o,ho,hst⟩:=h.2.2 j hj;refine⟨o,ho,sx hst λzs _ hst=>hst.mono λs O=>EN λp hp=>?_⟩;simp only[cj,fJ]at hp⊢;exact⟨hs p hp.1,hp.2⟩⟩
theorem LW {n:Nat} {A:bo} {listed:Array Bool} {pend:ew} {s:Sl} {O:List ag} (h:fc C N ops Qn Qp n A listed pend s O):gY C N ops pend s O:=by
 cases n with
 |zero=>exact h.1
 |succ n=>exact h.1
theorem gw.step {o:Oper} {s:Sl} {O:List ag} {y:AV} (hd:bE N o.dst=true) (h:gw C N ops o s O y) {nx:Sl->List ag->Prop} (k:nx (aO s o.dst (some y)) O):ez C N ops o s O nx Qp:=by
 refine⟨hd,h.imp (λ⟨h1,h2⟩=>⟨h1,_,cr.ko h2,?_,λx O' h=>by cases h.1⟩) λ⟨h1,h2⟩=>⟨h1,by subst h2;exact k⟩⟩;rintro x O' ⟨h1,rfl⟩;cases h1;exact k
theorem MD {n:Nat} {zs:List ((Nat×List AV)×Nat)} {s:Sl} {dst:Option Nat} {y:Option AV} (hd:∀z∈zs,dst≠some z.1.1):eD n zs (aO s dst y)=aO (eD n zs s) dst y:=by
 funext t;cases dst with
 |none=>rfl
 |some d=>
  simp only[eD,aO];by_cases ht:t=d
  ·subst ht;simp only[if_true];cases hl:look (eu n zs) t with
   |none=>rfl
   |some x=>
    have:look (eu n zs++[]) t=some x:=by simpa using hl
    rcases m5 this with⟨z,hz,k,h1,_⟩|h
    ·exact absurd (by rw[h1]) (hd z hz)
    ·simp[look]at h
  ·simp only[ht,if_false]
def mf (stable:Bool) (p:Nat×Oper×AV) (pend:ew):ew:=match stable with
 |true=>pend
 |false=>p::pend
theorem Dy {i:Nat} {oi:Oper} {y:AV} (stable:Bool) (hi:ops[i]? =some oi) (hown:∀d,oi.dst=some d->d∉oi.looksAt ops) (hdi:bE N oi.dst=true):
  ∀(n:Nat) (A:bo) (listed:Array Bool) (pend:ew) (s:Sl) (O:List ag),
   (∀j oj,ops[j]? =some oj->j≠i->listed.getD j true=false->(∀e∈oj.after,Region.binds .any e=true->e.on≠i)->oi.apart ops oj=true)->
   (∀p∈pend,∀d,oi.dst=some d->d∉p.2.1.looksAt ops)->gY C N ops pend s O->bC ops i A=[]->(∀p∈A,oi.dst≠some p.2.1/\p.2.1∉oi.looksAt ops)->
   i∈Region.ready .any ops listed->gw C N ops oi s O y->(stable=true->∀O',gw C N ops oi s O' y)->
   fc C N ops Qn Qp n A (listed.setIfInBounds i true) (mf stable (i,oi,y) pend) (aO s oi.dst (some y)) O->fc C N ops Qn Qp (n+1) A listed pend s O:=by
 intro n;have same:∀(n:Nat) (A:bo) (listed:Array Bool) (pend:ew) (s:Sl) (O:List ag),bC ops i A=[]->gw C N ops oi s O y->fc C N ops Qn Qp n A (listed.setIfInBounds i true) (mf stable (i,oi,y) pend) (aO s oi.dst (some y)) O->
   fu (i' (bC ops i A)) λzs=>ez C N ops oi (eD O.length zs s) (O++cm zs) (fc C N ops Qn Qp n (bJ ops i A) (listed.setIfInBounds i true) (cj ops i pend)) Qp:=by
  intro n A listed pend s O hm hv H;refine pq (P:=λs O=>ez C N ops oi s O (fc C N ops Qn Qp n (bJ ops i A) (listed.setIfInBounds i true) (cj ops i pend)) Qp) hm ?_;rw[pz hm];refine hv.step hdi (EN (λp hp=>?_) H);simp only[cj,fJ]at hp;cases stable with
  |true=>exact hp.1
  |false=>exact uZ _ hp.1
 induction n with
 |zero=>
  intro A listed pend s O hfree hpd hpo hm hAd hr hv hstb H;refine⟨hpo,λh=>(by rw[h]at hr;cases hr),λj hj=>?_⟩;by_cases hji:j=i
  ·subst hji;exact⟨oi,hi,same 0 A listed pend s O hm hv H⟩
  ·exfalso;have:=ready_mono hj hji;rw[H.2.1]at this;cases this
 |succ n ih=>
  intro A listed pend s O hfree hpd hpo hm hAd hr hv hstb H;refine⟨hpo,λh=>(by rw[h]at hr;cases hr),λj hj=>?_⟩;by_cases hji:j=i
  ·subst hji;exact⟨oi,hi,same (n+1) A listed pend s O hm hv H⟩
  ·obtain⟨oj,hoj,hst⟩:=H.2.2 j (ready_mono hj hji);obtain⟨hjun,oj',hoj',hall⟩:=mem_ready.1 hj;rw[hoj]at hoj';cases hoj';have hnot:∀e∈oj.after,Region.binds .any e=true->e.on≠i:=λe he hb heq=>by
    have h1:=hall e he hb;have h0:=(mem_ready.1 hr).1;rw[heq]at h1;rcases je i listed.size with h'|h'
    ·simp[h']at h0 h1;rw[h0]at h1;cases h1
    ·simp[o9 h']at h1
   have hb1:du ops i j=false:=by
    unfold du;rw[hoj];simp only[J2,Sv,Bool.and_eq_false_iff];intro q hq;cases hb:Region.binds .any q with
    |false=>exact .inl rfl
    |true=>exact .inr (by simpa using hnot _ (by simpa using hq) hb)
   obtain⟨a1,a2,a3⟩:=Oper.apart_spec (hfree j oj hoj hji hjun hnot);refine⟨oj,hoj,sx hst λzs hz hst=>?_⟩;have hzA:∀z∈zs,∃p∈A,p.2.1=z.1.1:=λz hzm=>by
    have:z.1∈i' (bC ops j A):=by rw[<-hz];exact cB.2 ⟨z,hzm,rfl⟩
    simp only[i',bC,cB,fJ]at this;obtain⟨p,hp,he⟩:=this;exact⟨p,hp.1,by rw[he]⟩
   have hzd:∀z∈zs,oi.dst≠some z.1.1:=λz hzm=>by
    obtain⟨p,hp,he⟩:=hzA z hzm;rw[<-he];exact(hAd p hp).1
   rw[MD hzd]at hst;have hui:∀t∈oi.looksAt ops,eD O.length zs s t=s t:=λt ht=>by
    simp only[eD];cases hl:look (eu O.length zs) t with
    |none=>rfl
    |some x=>
     have:look (eu O.length zs++[]) t=some x:=by simpa using hl
     rcases m5 this with⟨z,hzm,k,h1,_⟩|h
     ·obtain⟨p,hp,he⟩:=hzA z hzm;exact absurd (by rw[he,<-h1];exact ht) (hAd p hp).2
     ·simp[look]at h
   have hvst:stable=true->∀O',gw C N ops oi (eD O.length zs s) O' y:=λhs O'=>(hstb hs O').congr hui;generalize eD O.length zs s=s1 at hst hvst⊢;generalize O++cm zs=O1 at hst⊢;have hs1:∀t∈oj.looksAt ops,s1 t=aO s1 oi.dst (some y) t:=λt ht=>(jj λd hd he=>a1 d hd (he▸ht)).symm;have hnext:∀x O',fc C N ops Qn Qp n (bJ ops j A) ((listed.setIfInBounds i true).setIfInBounds j true) (cj ops j (mf stable (i,oi,y) pend)) (aO (aO s1 oi.dst (some y)) oj.dst (some x)) O'->
     fc C N ops Qn Qp (n+1) (bJ ops j A) (listed.setIfInBounds j true) (cj ops j pend) (aO s1 oj.dst (some x)) O':=by
    intro x O' hk;have hkp:cj ops j (mf stable (i,oi,y) pend)=mf stable (i,oi,y) (cj ops j pend):=by
     cases stable with
     |true=>rfl
     |false=>simp[cj,mf,hb1]
    rw[hkp]at hk;have hpo':=LW hk;have hcongr:∀(o:Oper),(∀d,oi.dst=some d->d∉o.looksAt ops)->∀t∈o.looksAt ops,aO s1 oj.dst (some x) t=aO (aO s1 oi.dst (some y)) oj.dst (some x) t:=by
     intro o ho t ht;cases hdj:oj.dst with
     |none=>exact(jj λd hd he=>ho d hd (he▸ht)).symm
     |some e=>
      simp only[aO];split
      ·rfl
      ·exact(jj λd hd he=>ho d hd (he▸ht)).symm
    have hstab2:stable=true->∀O',gw C N ops oi (aO s1 oj.dst (some x)) O' y:=λhs O'=>(hvst hs O').congr λt ht=>jj λd hd he=>a3 d hd (he▸ht);refine ih _ _ _ _ _ ?_ (λp hp=>hpd p (by simp only[cj,fJ]at hp;exact hp.1)) (λp hp=>?_) (MC hm) (λp hp=>hAd p (fJ.1 hp).1) (ready_mono hr (ga hji)) ?_ hstab2 ?_
    ·intro k ok hk' hki hun hno;refine hfree k ok hk' hki ?_ hno;by_cases hjk:j=k
     ·subst hjk;exact hjun
     ·rw[getD_set_ne true hjk]at hun;exact hun
    ·refine(hpo' p ?_).congr (hcongr p.2.1 (hpd p (by simp only[cj,fJ]at hp;exact hp.1)));cases stable with
     |true=>exact hp
     |false=>exact uZ _ hp
    ·cases hsb:stable with
     |true=>exact hstab2 hsb O'
     |false=>
      subst hsb;exact(hpo' (i,oi,y) (by simp[mf])).congr (hcongr oi hown)
    ·rw[JV _ _ hji,<-Dj s1 (some y) (some x) a2];exact hk
   refine⟨hst.1,?_⟩;rcases hst.2 with⟨h1,R,h2,h3,h4⟩|⟨h1,h2⟩
   ·refine .inl ⟨by rw[pc hs1];exact h1,R,h2.congr λt ht=>hs1 t (vc ht),λx O' hR=>hnext x O' (h3 x O' hR),h4⟩
   ·exact .inr ⟨by rw[pc hs1];exact h1,hnext _ _ h2⟩
inductive TK where
 |one
 |fl
 |two
def fV (C:Cx) (N:Nat) (ops:Array Oper) (Qn:Sl->List ag->Prop) (Qp:AV->List ag->Prop):List (Nat×Oper×TK)->bo->ew->Sl->List ag->Prop
 |[],_,pend,s,O=>gY C N ops pend s O/\Qn s O
 |(i,o,.fl)::r,A,pend,s,O=>gY C N ops pend s O/\bE N o.dst=true/\∃y,(gw C N ops o s O y/\fV C N ops Qn Qp r A ((i,o,y)::pend) (aO s o.dst (some y)) O)\/((∀O',gw C N ops o s O' y)/\fV C N ops Qn Qp r A pend (aO s o.dst (some y)) O)
 |(i,o,.one)::r,A,pend,s,O=>gY C N ops pend s O/\fu (i' (bC ops i A)) λzs=>ez C N ops o (eD O.length zs s) (O++cm zs) (fV C N ops Qn Qp r (bJ ops i A) (cj ops i pend)) Qp
 |[(_,_,.two)],_,_,_,_=>False
 |(i,o,.two)::(j,o',_)::r,A,pend,s,O=>gY C N ops pend s O/\ez C N ops o s O (λs1 O1=>gY C N ops (cj ops i pend) s1 O1/\ez C N ops o' s1 O1 (fV C N ops Qn Qp r A (cj ops j (cj ops i pend))) Qp) Qp/\
   ez C N ops o' s O (λs1 O1=>gY C N ops (cj ops j pend) s1 O1/\ez C N ops o s1 O1 (fV C N ops Qn Qp r A (cj ops j (cj ops i pend))) Qp) Qp
def tN (ops:Array Oper) (dst:Option Nat) (o:Oper):Bool:=match dst with
 |none=>true
 |some d=>!(o.looksAt ops).contains d
def tM (dst:Option Nat) (d:Nat):Bool:=match dst with
 |none=>true
 |some e=>!Nat.beq e d
def jA (ops:Array Oper):List (Nat×Oper×TK)->Array Bool->List (Nat×Oper)->List (Nat×Nat)->Bool
 |[],listed,_,_=>(Region.ready .any ops listed).isEmpty
 |(i,o,.fl)::r,listed,pi,al=>(match ops[i]? with
   |some _=>true
   |none=>false)&&(Region.ready .any ops listed).contains i&&Region.free .any ops listed i&&tN ops o.dst o&&(pi.all λp=>tN ops o.dst p.2)&&(al.all λa=>!du ops a.1 i&&tM o.dst a.2&& !(o.looksAt ops).contains a.2)&&jA ops r (listed.setIfInBounds i true) ((i,o)::pi) al
 |(i,_,.one)::r,listed,pi,al=>decide (Region.ready .any ops listed=[i])&&jA ops r (listed.setIfInBounds i true) (pi.filter λp=>!du ops p.1 i) (al.filter λa=>!du ops a.1 i)
 |[(_,_,.two)],_,_,_=>false
 |(i,_,.two)::(j,_,_)::r,listed,pi,al=>decide (i≠j)&&(Region.ready .any ops listed).all (λk=>Nat.beq k i||Nat.beq k j)&&(Region.ready .any ops listed).contains i&&decide (Region.ready .any ops (listed.setIfInBounds i true)=[j])&&decide (Region.ready .any ops (listed.setIfInBounds j true)=[i])&&
   (al.all λa=>!du ops a.1 i&& !du ops a.1 j)&&jA ops r ((listed.setIfInBounds i true).setIfInBounds j true) ((pi.filter λp=>!du ops p.1 i).filter λp=>!du ops p.1 j) al
def gg (ops:Array Oper):List (Nat×TK)->List (Nat×Oper×TK)
 |[]=>[]
 |(i,b)::r=>match ops[i]? with
  |some o=>(i,o,b)::gg ops r
  |none=>gg ops r
theorem vA:∀{l:List (Nat×TK)} {p:Nat×Oper×TK},p∈gg ops l->ops[p.1]? =some p.2.1
 |[],_,h=>by simp[gg]at h
 |(i,b)::r,p,h=>by
  simp only[gg]at h;split at h
  ·rename_i o ho;rcases cL.1 h with rfl|h
   ·exact ho
   ·exact vA h
  ·exact vA h
theorem CR {dst:Option Nat} {d:Nat} (h:tM dst d=true):dst≠some d:=by
 intro e;subst e;simp[tM]at h
theorem we {A:bo} {i:Nat} (h:∀p∈A,du ops p.1 i=false):bC ops i A=[]:=by
 simp only[bC,J1];intro p hp;rw[h p hp];simp
theorem pG:∀(l:List (Nat×Oper×TK)) (A:bo) (listed:Array Bool) (pend:ew) (pi:List (Nat×Oper)) (s:Sl) (O:List ag),(∀p∈l,ops[p.1]? =some p.2.1)->(∀p∈pend,(p.1,p.2.1)∈pi)->jA ops l listed pi (A.map λp=>(p.1,p.2.1))=true->
  fV C N ops Qn Qp l A pend s O->fc C N ops Qn Qp l.length A listed pend s O
 |[],A,listed,pend,pi,s,O,_,_,hB,h=>⟨h.1,by simpa[jA]using hB,h.2⟩
 |(i,o,.fl)::r,A,listed,pend,pi,s,O,hg,hpi,hB,h=>by
  simp only[jA,bn]at hB;obtain⟨⟨⟨⟨⟨⟨_,h1⟩,h2⟩,h3⟩,h4⟩,h6⟩,h5⟩:=hB;have hi:=hg (i,o,.fl) (by simp);simp only at hi;obtain⟨hpo,hd,y,hk⟩:=h;have hdis:∀(o':Oper),tN ops o.dst o'=true->∀d,o.dst=some d->d∉o'.looksAt ops:=by
   intro o' ho' d hd;simp only[tN,hd]at ho';simpa using ho'
  simp only[fH,cB,bn,iA]at h6;have hm:bC ops i A=[]:=we λp hp=>(h6 (p.1,p.2.1) ⟨p,hp,rfl⟩).1.1;have hAd:∀p∈A,o.dst≠some p.2.1/\p.2.1∉o.looksAt ops:=λp hp=>by
   have:=h6 (p.1,p.2.1) ⟨p,hp,rfl⟩;exact⟨CR this.1.2,by simpa using this.2⟩
  have hpd:∀p∈pend,∀d,o.dst=some d->d∉p.2.1.looksAt ops:=λp hp=>by
   refine hdis p.2.1 ?_;simp only[fH]at h4;exact h4 (p.1,p.2.1) (hpi p hp)
  have hfr:∀j oj,ops[j]? =some oj->j≠i->listed.getD j true=false->(∀e∈oj.after,Region.binds .any e=true->e.on≠i)->o.apart ops oj=true:=λj oj hj hne hun hno=>Region.free_spec hi h2 j oj hj hne hun hno;rcases hk with⟨hv,hk⟩|⟨hv,hk⟩
  ·refine Dy false hi (hdis o h3) hd r.length A listed pend s O hfr hpd hpo hm hAd (by simpa using h1) hv (λe=>by cases e) ?_;refine pG r A _ _ ((i,o)::pi) _ _ (λp hp=>hg p (by simp[hp])) (λp hp=>?_) h5 hk;rcases cL.1 hp with rfl|hp
   ·simp
   ·exact uZ _ (hpi p hp)
  ·refine Dy true hi (hdis o h3) hd r.length A listed pend s O hfr hpd hpo hm hAd (by simpa using h1) (hv O) (λ_=>hv) ?_;exact pG r A _ _ ((i,o)::pi) _ _ (λp hp=>hg p (by simp[hp])) (λp hp=>uZ _ (hpi p hp)) h5 hk
 |(i,o,.one)::r,A,listed,pend,pi,s,O,hg,hpi,hB,h=>by
  simp only[jA,bn,jc]at hB;refine⟨h.1,λh0=>(by rw[h0]at hB;cases hB.1),λj hj=>?_⟩;rw[hB.1,kC]at hj;subst hj;have hi:=hg (j,o,.one) (by simp);refine⟨o,hi,sx h.2 λzs _ hst=>hst.mono λs' O' hk=>?_⟩;refine pG r _ _ _ (pi.filter λp=>!du ops p.1 j) _ _ (λp hp=>hg p (by simp[hp])) (λp hp=>?_) ?_ hk
  ·simp only[cj,fJ]at hp⊢;exact⟨hpi p hp.1,hp.2⟩
  ·have:(bJ ops j A).map (λp=>(p.1,p.2.1))=(A.map λp=>(p.1,p.2.1)).filter λp=>!du ops p.1 j:=by
    simp[bJ,List.filter_map,Function.comp_def]
   rw[this];exact hB.2
 |[(_,_,.two)],_,_,_,_,_,_,_,_,hB,_=>by simp[jA]at hB
 |(i,o,.two)::(j,o',x)::r,A,listed,pend,pi,s,O,hg,hpi,hB,h=>by
  simp only[jA,bn,jc]at hB;obtain⟨⟨⟨⟨⟨⟨hne,hall⟩,hin⟩,hj⟩,hi⟩,hal⟩,hr⟩:=hB;have gi:=hg (i,o,.two) (by simp);have gj:=hg (j,o',x) (by simp);simp only at gi gj;simp only[fH,cB,bn,iA]at hal;have hmi:bC ops i A=[]:=we λp hp=>(hal (p.1,p.2.1) ⟨p,hp,rfl⟩).1;have hmj:bC ops j A=[]:=we λp hp=>(hal (p.1,p.2.1) ⟨p,hp,rfl⟩).2;obtain⟨hpo,h1,h2⟩:=h;have fin:∀s' O',fV C N ops Qn Qp r A (cj ops j (cj ops i pend)) s' O'->fc C N ops Qn Qp r.length A ((listed.setIfInBounds i true).setIfInBounds j true) (cj ops j (cj ops i pend)) s' O':=λs' O' hk=>by
   refine pG r A _ _ ((pi.filter λp=>!du ops p.1 i).filter λp=>!du ops p.1 j) _ _ (λp hp=>hg p (by simp[hp])) (λp hp=>?_) hr hk;simp only[cj,fJ]at hp⊢;exact⟨⟨hpi p hp.1.1,hp.1.2⟩,hp.2⟩
  have hcomm:cj ops i (cj ops j pend)=cj ops j (cj ops i pend):=by
   simp only[cj,List.filter_filter,Bool.and_comm]
  refine⟨hpo,λh0=>(by rw[h0]at hin;simp at hin),λk hk=>?_⟩;simp only[fH,rN]at hall;rcases hall k hk with hk'|hk'
  ·have hk':=bf hk';subst hk';refine⟨o,gi,pq (P:=λs O=>ez C N ops o s O (fc C N ops Qn Qp (r.length+1) (bJ ops k A) (listed.setIfInBounds k true) (cj ops k pend)) Qp) hmi ?_⟩;rw[pz hmi];refine h1.mono λs1 O1 hs1=>⟨hs1.1,λh0=>(by rw[h0]at hj;cases hj),λq hq=>?_⟩;rw[hj,kC]at hq;subst hq;refine⟨o',gj,pq (P:=λs O=>ez C N ops o' s O (fc C N ops Qn Qp r.length (bJ ops q A) ((listed.setIfInBounds k true).setIfInBounds q true) (cj ops q (cj ops k pend))) Qp) hmj ?_⟩;rw[pz hmj];exact hs1.2.mono fin
  ·have hk':=bf hk';subst hk';refine⟨o',gj,pq (P:=λs O=>ez C N ops o' s O (fc C N ops Qn Qp (r.length+1) (bJ ops k A) (listed.setIfInBounds k true) (cj ops k pend)) Qp) hmj ?_⟩;rw[pz hmj];refine h2.mono λs1 O1 hs1=>⟨hs1.1,λh0=>(by rw[h0]at hi;cases hi),λq hq=>?_⟩;rw[hi,kC]at hq;subst hq;refine⟨o,gi,pq (P:=λs O=>ez C N ops o s O (fc C N ops Qn Qp r.length (bJ ops q A) ((listed.setIfInBounds k true).setIfInBounds q true) (cj ops q (cj ops k pend))) Qp) hmi ?_⟩;rw[pz hmi];refine hs1.2.mono λs' O' hk'=>?_;rw[hcomm,JV _ _ (ga hne)];exact fin s' O' hk'
