/- The program logic, fourth part: a region's operations one by one; calls; loops; entering a function. -/
import Derived.Test.YtnocmolegijmkaaGreatKB3
set_option linter.all false
noncomputable section
namespace Go.Bw
open Go
def cj (C:Cx) (N:Nat) (ops:Array Oper) (rest:List Oper) (Q:AQ) (O:Sg) (L:List aq):Prop:=
 ∀F w0 L0 a w,St C.G N w F a O L->Ext L0 w0 L w->wpList C.P ops (CQ C.G N F w0 L0 Q) rest a w
def cP (N:Nat):Option Nat->Bool
 |none=>true
 |some d=>Nat.blt d N
theorem Eh {N:Nat} {dst:Option Nat} (h:cP N dst=true):∀d,dst=some d->d<N:=by
 intro d hd;subst hd;simpa[cP,mD]using h
def pr (C:Cx) (N:Nat) (o:Oper) (O:Sg) (L:List aq) (R:AV->List aq->Prop):Prop:=
 ∀F a w,St C.G N w F a O L->∃v w' x L',R x L'/\(execOp a.eval o).run C.P w= .ok (.value v) w'/\Rel w' (Al F L') x v/\bM C.G w' F L'/\Ext L w L' w'
def Cv (C:Cx) (N:Nat) (o:Oper) (O:Sg) (L L':List aq):Prop:=
 ∀F a w,St C.G N w F a O L->∃w',(execOp a.eval o).run C.P w= .ok .skip w'/\bM C.G w' F L'/\Ext L w L' w'
section
variable {C:Cx} {N:Nat} {Q:AQ} {O:Sg} {L:List aq} {ops:Array Oper} {rest:List Oper} {o:Oper}
theorem cm.region {id:Nat} {l:List Oper} (h:cj C N l.toArray l Q O L):cm C N (.region id l.toArray false) Q O L:=
 λF w0 L0 a w hs hx=>wp_region_lit (h F w0 L0 a w hs hx)
theorem cj.nil (h:Q .norm O L):cj C N ops [] Q O L:=λ_ _ _ _ _ hs hx=>wpList_nil (CQ.intro .norm rfl h hs hx)
theorem cj.lQ {O':Sg} {L':List aq} (hw:fm C.G N O L O' L') (h:cj C N ops rest Q O' L'):cj C N ops rest Q O L:=λF w0 L0 a w hs hx=>by
 obtain⟨h1,h2⟩:=hw F w a hs;exact h F w0 L0 a w h1 (hx.trans ⟨rfl,rfl,rfl,bX _,λ_ _ _=>rfl,λb hb=> .inl (h2 b hb),.of (bX _)⟩)
theorem St.put {G:Gl} {w w':World} {F:Nat->Prop} {a:Act} {L':List aq} (hs:St G N w F a O L) (hx:Ext L w L' w') (hh:bM G w' F L') {dst:Option Nat} (hd:cP N dst=true) {x:AV} {v:Value} (hv:Rel w' (Al F L') x v):
  St G N w' F (a.put dst v) (mn dst x O) L':=
 ⟨(hs.sg.keep hx.keeps).put dst (Eh hd) hv,hh,by cases dst<;>exact hs.df⟩
theorem cj.qS {R:AV->List aq->Prop} (hg:o.guard=none) (hd:cP N o.dst=true) (h:pr C N o O L R) (k:∀x L',R x L'->cj C N ops rest Q (mn o.dst x O) L'):
  cj C N ops (o::rest) Q O L:=λF w0 L0 a w hs hx=>wpList_plain hg λK hK=>by
 obtain⟨v,w',x,L',hR,hr,hv,hh,he⟩:=h F a w hs;unfold Oper.wp;rw[hr,Oper.upon_value];exact hK _ _ (k x L' hR F w0 L0 _ w' (hs.put he hh hd hv) (hx.trans he))
theorem cj.Ni {L':List aq} (hg:o.guard=none) (hd:o.dst=none) (h:Cv C N o O L L') (k:cj C N ops rest Q O L'):
  cj C N ops (o::rest) Q O L:=λF w0 L0 a w hs hx=>wpList_plain hg λK hK=>by
 obtain⟨w',hr,hh,he⟩:=h F a w hs;unfold Oper.wp;rw[hr,Oper.upon_skip,hd];exact hK _ _ (k F w0 L0 _ w' ⟨hs.sg.keep he.keeps,hh,hs.df⟩ (hx.trans he))
def pv (C:Cx) (N:Nat) (o:Oper) (O:Sg) (L:List aq) (x:AV):Prop:=
 ∀F a w,St C.G N w F a O L->∃v,Rel w (Al F L) x v/\∀w',mi w w'->(execOp a.eval o).run C.P w'= .ok (.value v) w'
theorem agc {E:Env} {x:AV} (h:cW E.T (look O) o.op=some x):pv E.toCx N o O L x:=λ_ _ _ hs=>ae2 (P:=E.P) E.tok hs.sg h
theorem cj.guard {j d:Nat} {want t:Bool} (hg:o.guard=some (j,want)) (hj:(ops[j]?).bind (·.dst)=some d) (ht:look O d=some (.v (.bool t)))
  (h1:t=want->cj C N ops ({o with guard:=none}::rest) Q ((d,.v (.bool want))::O) L) (h2:t= !want->cj C N ops rest Q (mn o.dst (.v undef) ((d,.v (.bool !want))::O)) L)
  (hd:cP N o.dst=true):cj C N ops (o::rest) Q O L:=λF w0 L0 a w hs hx=>by
 obtain⟨hlt,hv⟩:=hs.sg.2 d _ ht;simp only[Rel]at hv;have hy:yielded ops a.tmps j=some t:=by
  have:a.tmps[d]? =some (.bool t):=by
   rw[HI]at hv;rw[<-hs.sg.1]at hlt;simp[hlt]at hv⊢;exact hv
  simp[yielded,hj,this]
 have hst:∀b,t=b->St C.G N w F a ((d,.v (.bool b))::O) L:=λb hb=>by
  subst hb;refine⟨⟨hs.sg.1,λs x hx=>?_⟩,hs.hp,hs.df⟩;simp only[look]at hx;cases hb:Nat.beq d s with
  |true=>rw[hb]at hx;simp only[aE]at hx;subst hx;rw[<-bQ hb];exact⟨hlt,by simp only[Rel];exact hv⟩
  |false=>rw[hb]at hx;exact hs.sg.2 s x hx
 have hwant:Region.wanted o (yielded ops a.tmps)=(t==want):=by
  simp only[Region.wanted,hg,hy];cases t<;>cases want<;>rfl
 unfold wpList;rw[hwant];by_cases htw:t=want
 ·rw[bg (by simp[htw])];have:=h1 htw F w0 L0 a w (hst want htw) hx;unfold wpList at this;rw[bg (by simp[Region.wanted])]at this;exact this
 ·rw[aM (by simp[htw])];have htn:t= !want:=by cases t<;>cases want<;>simp_all
  exact h2 htn F w0 L0 _ w (St.put (hst _ htn) (Ext.refl L w) hs.hp hd (by simp only[Rel])) hx
theorem cj.bR {j d e:Nat} {want t:Bool} {op:Op} {ty:TypeId} {pos:String} {after:Array Edge} (hj:(ops[j]?).bind (·.dst)=some d) (ht:look O d=some (.v (.bool t)))
  (h1:t=want->cj C N ops (⟨some e,op,ty,pos,after,none⟩::rest) Q ((d,.v (.bool want))::O) L) (h2:t= !want->cj C N ops rest Q ((e,.v undef)::(d,.v (.bool !want))::O) L)
  (hd:Nat.blt e N=true):cj C N ops (⟨some e,op,ty,pos,after,some (j,want)⟩::rest) Q O L:=cj.guard rfl hj ht h1 h2 hd
theorem cj.J2 {j d e:Nat} {want:Bool} {op:Op} {ty:TypeId} {pos:String} {after:Array Edge} (hj:(ops[j]?).bind (·.dst)=some d) (ht:look O d=some (.v undef))
  (h2:cj C N ops rest Q ((e,.v undef)::O) L) (hd:Nat.blt e N=true):cj C N ops (⟨some e,op,ty,pos,after,some (j,want)⟩::rest) Q O L:=λF w0 L0 a w hs hx=>by
 obtain⟨hlt,hv⟩:=hs.sg.2 d _ ht;simp only[Rel]at hv;have hy:yielded ops a.tmps j=none:=by
  have:a.tmps[d]? =some undef:=by
   rw[HI]at hv;rw[<-hs.sg.1]at hlt;simp[hlt]at hv⊢;exact hv
  simp[yielded,hj,this,undef]
 unfold wpList;rw[aM (by simp[Region.wanted,hy])];exact h2 F w0 L0 _ w (St.put (dst:=some e) hs (Ext.refl L w) hs.hp hd (by simp only[Rel])) hx
inductive AR where
 |ret (x:AV)
 |aT (x:AV)
def AR.rel (w:World) (A:Nat->Prop):AR->Ending->Prop
 | .ret x,e=>∃v,e= .returned v/\Rel w A x v
 | .aT x,e=>∃v,e= .panicked [{v,recovered:=false}]/\Rel w A x v
def pN (P:Program) (g:FuncId):Prop:=∃fn,P.funcs[g]? =some fn/\fn.body.isNone=false/\(fn.name== "runtime.NumGoroutine")=false
def lN (C:Cx) (f:FuncId) (args:List AV) (L:List aq) (Q:AR->List aq->Prop):Prop:=
 pN C.P f/\∀F w vs,bM C.G w F L->aL w (Al F L) args vs->
  Calls C.P f vs.toArray w λe w'=>∃r L',Q r L'/\AR.rel w' (Al F L') r e/\bM C.G w' F L'/\Ext L w L' w'
def Pure (C:Cx) (f:FuncId) (args:List AV) (res:AR):Prop:=lN C f args [] λr L'=>r=res/\L'=[]
theorem lN.mono {f:FuncId} {args:List AV} {Q Q':AR->List aq->Prop} (h:lN C f args L Q) (hq:∀r L',Q r L'->Q' r L'):lN C f args L Q':=
 ⟨h.1,λF w vs h1 h2=>(h.2 F w vs h1 h2).mono λ_ _ ⟨r,L',hQ,rest⟩=>⟨r,L',hq _ _ hQ,rest⟩⟩
def callee (O:Sl) (f:Operand) (args:List Operand):Option (FuncId×List AV):=
 match ev O f,kg O args with
 |some (.v (.func (.func g) fa cs)),some xs=>some (g,fa.toList.map .v++xs++cs.toList.map .v)
 |some (.fn g fs cs),some xs=>some (g,fs++xs++cs)
 |_,_=>none
theorem yx {P:Program} {w:World} {A:Nat->Prop} {a:Act} {s:Sl} (hs:gM w A N a s) {f:Operand} {args:List Operand} {g:FuncId} {xs:List AV} (h:callee s f args=some (g,xs))
  {tys:Array TypeId} {dst:Option Nat} {ty:TypeId} {pos:String} {after:Array Edge} {gd:Option (Nat×Bool)} (hb:pN P g):
  ∃vs:List Value,aL w A xs vs/\∀w',(execOp a.eval ⟨dst,.call {callee:= .value f,args:=args.toArray,argTypes:=tys},ty,pos,after,gd⟩).run P w'= .ok (.enter g vs.toArray) w':=by
 obtain⟨fn,hf,hbody,hname⟩:=hb;have hcf:∀(ws:Array Value) (w':World),(callFunc g ws).run P w'= .ok (.enter g ws) w':=by
  intro ws w';simp only[callFunc,Sem.run_bind,run_program,Result.andThen_ok,hf,hname,hbody,kI,if_false,Sem.run_pure]
 unfold callee at h;split at h
 ·rename_i g' fa cs ys h1 h2;simp only[aE,cR]at h;obtain⟨rfl,rfl⟩:=h;have h3:=bH hs h1;simp only[Rel]at h3;have h4:=zN hs h2;refine⟨fa.toList++args.map a.eval++cs.toList,((oI _).append h4).append (oI _),λw'=>?_⟩;have:(fa++(args.map a.eval).toArray++cs)=(fa.toList++args.map a.eval++cs.toList).toArray:=by apply kM;simp
  simp[execOp,resolve,h3,Deferred.ofValue,invoke];rw[<-hcf];congr 2;apply kM;simp
 ·rename_i g' fs cs ys h1 h2;simp only[aE,cR]at h;obtain⟨rfl,rfl⟩:=h;have h3:=bH hs h1;simp only[Rel]at h3;obtain⟨us,ws,h3,h5',h5⟩:=h3;have h4:=zN hs h2;refine⟨us++args.map a.eval++ws,(h5'.append h4).append h5,λw'=>?_⟩;simp[execOp,resolve,h3,Deferred.ofValue,invoke,hcf]
  done
 ·cases h
theorem Pure.run {g:FuncId} {xs:List AV} {res:AR} (h:Pure C g xs res) {F:Nat->Prop} {w:World} {vs:List Value} (hh:bM C.G w F L) (hr:aL w (Al F L) xs vs):
  Calls C.P g vs.toArray w λe w'=>AR.rel w' (Al F L) res e/\bM C.G w' F L/\Ext L w L w'/\∀b,b<w.heap.size->w'.heap[b]? =w.heap[b]? :=by
 have hA':Al (λb=>F b\/b∈ids L) []=Al F L:=funext λb=>propext (by simp[Al,ids]);have hH:bM C.G w (λb=>F b\/b∈ids L) []:=⟨by simp,by simp[ids],by simp[ids],λb hb=>hb.elim (hh.bound b) (hh.lt b),by rw[hA'];exact hh.gK⟩;refine(h.2 _ w vs hH (by rw[hA'];exact hr)).mono ?_;rintro e w' ⟨r,L',⟨rfl,rfl⟩,hv,_,he⟩;rw[hA']at hv;have hext:Ext L w L w':=⟨he.os,he.tape,he.output,he.size,λb hb hn=>he.block b hb (by simp[ids]),λb hb=> .inl hb,he.drawn⟩;have hsame:∀b,b<w.heap.size->w'.heap[b]? =w.heap[b]? :=λb hb=>he.block b hb (by simp[ids]);exact⟨hv,⟨λx hx=>(hh.eG x hx).keep hext.keeps (λb hb=>hsame b ((hh.eG x hx).lt b hb)),hh.nodup,hh.free,λb hb=>oG (hh.bound b hb) he.size,hh.gK.keep hext.keeps⟩,hext,hsame⟩
def sP:Nat->List AV->Sg
 |_,[]=>[]
 |n,x::xs=>(n,x)::sP (n+1) xs
theorem Qz:∀{xs:List AV} {n t:Nat} {x:AV},look (sP n xs) t=some x->n<=t/\xs[t-n]? =some x
 |[],n,t,x,h=>by simp[sP,look]at h
 |y::ys,n,t,x,h=>by
  simp only[sP,look]at h;cases hb:Nat.beq n t with
  |true=>
   rw[hb]at h;simp only[aE]at h;subst h;have:=bQ hb;subst this;simp
  |false=>
   rw[hb]at h;obtain⟨h1,h2⟩:=Qz h;refine⟨by omega,?_⟩;rw[show t-n=(t-(n+1))+1 by omega];simpa using h2
theorem aL.get {w:World} {A:Nat->Prop}:∀{xs:List AV} {vs:List Value} {n:Nat} {x:AV},aL w A xs vs->xs[n]? =some x->∃v,vs[n]? =some v/\Rel w A x v:=
 λh hx=>h.nth (by rw[cM];exact hx)
inductive qC (T:cn) (O:Sg) (L:List aq):ResultVar->AV->Prop where
 |tmp {t:Nat} {x:AV}:look O t=some x->qC T O L (.tmp t) x
 |V9 {a t:Nat} {cs:List AV} {d:TD} {k b:Nat} {z:List Value}:look O a=some (.ip cs)->bc T t=some ⟨d,k,b,z⟩->d.agg=true->fits cs k=true->qC T O L (.cell a t) (.agg (cs.take k))
 |V8 {tg i a t bk:Nat} {cs:List AV} {d:TD} {k b:Nat} {z:List Value}:look O a=some (.own tg bk 0)->nth L i=some (.box bk cs)->bc T t=some ⟨d,k,b,z⟩->d.agg=true->fits cs k=true->
   qC T O L (.cell a t) (.agg (cs.take k))
 |UW {tg i a t bk:Nat} {c:AV} {cs:List AV} {d:TD} {k b:Nat} {z:List Value}:look O a=some (.own tg bk 0)->nth L i=some (.box bk (c::cs))->bc T t=some ⟨d,k,b,z⟩->d.agg=false->
   qC T O L (.cell a t) c
def qg (a:Act):ResultVar->Sem Value
 | .tmp t=>pure (a.tmps.getD t undef)
 | .cell p t=>do loadVar t (<-asAddr (a.tmps.getD p undef))
theorem abL {fn:Func} {rs:List ResultVar} (h:fn.results=rs.toArray) (a:Act):
  results fn a.tmps=(do let vs <-rs.toArray.mapM (qg a);pure (if h:vs.size=1 then vs[0]else .tuple vs)):=by
 unfold results;rw[h];have hf:∀(f g:ResultVar->Sem Value),(∀r,f r=g r)->rs.toArray.mapM f=rs.toArray.mapM g:=λf g hfg=>by rw[funext hfg]
 rw[hf _ (qg a) (λr=>by cases r<;>rfl)]
theorem ju {G:Gl} {w:World} {F:Nat->Prop} (h:bM G w F L) {i:Nat} {x:aq} (hi:nth L i=some x):x.ok w (Al F L):=
 h.eG x (aV (by rw[<-cM];exact hi))
theorem qC.run {E:Env} {G:Gl} {w:World} {F:Nat->Prop} {a:Act} (hs:St G N w F a O L) {r:ResultVar} {x:AV} (h:qC E.T O L r x):
  ∃v,Rel w (Al F L) x v/\(qg a r).run E.P w= .ok v w:=by
 cases h with
 |tmp h=>exact⟨_,(hs.sg.2 _ _ h).2,rfl⟩
 |V9 h ht hg hf=>
  rename_i p t cs d k b z;have h1:=(hs.sg.2 _ _ h).2;simp only[Rel]at h1;obtain⟨b',o',vs,e1,e2,e3,e4⟩:=h1;refine⟨.agg (vs.take k).toArray,by simp only[Rel];exact⟨_,rfl,e3.take k⟩,?_⟩;have:=nG (P:=E.P) (v0:=undef) (E.tok _ _ ht) (b:=b') (o:=o') (vs:=vs.take k) (w':=w)
   (λj u hj=>e4 j u (by rw[fT]at hj;split at hj;exact hj;cases hj)) (λ_=>e3.yH k hf) (λhg'=>by simp only at hg';rw[hg]at hg';cases hg')
  simp only at this;simp[qg,e1,asAddr,this,hg]
 |V8 h hi ht hg hf=>
  rename_i i p t bk cs d k b z;have h1:=(hs.sg.2 _ _ h).2;simp only[Rel]at h1;obtain⟨e,vs,e3,e4⟩:=ju hs.hp hi;refine⟨.agg (vs.take k).toArray,by simp only[Rel];exact⟨_,rfl,e4.take k⟩,?_⟩;have:=nG (P:=E.P) (v0:=undef) (E.tok _ _ ht) (b:=bk) (o:=0) (vs:=vs.take k) (w':=w)
   (λj u hj=>by
    have hj':vs[j]? =some u:=by rw[fT]at hj;split at hj;exact hj;cases hj
    simp[World.cell?,e3,hj']) (λ_=>e4.yH k hf) (λhg'=>by simp only at hg';rw[hg]at hg';cases hg')
  simp only at this;simp[qg,h1,asAddr,this,hg]
 |UW h hi ht hg=>
  rename_i i p t bk cs d k b z;have h1:=(hs.sg.2 _ _ h).2;simp only[Rel]at h1;obtain⟨e,vs,e3,e4⟩:=ju hs.hp hi;simp only[aL]at e4;obtain⟨v,r,rfl,e5,_⟩:=e4;refine⟨v,e5,?_⟩;have:=nG (P:=E.P) (v0:=v) (E.tok _ _ ht) (b:=bk) (o:=0) (vs:=v::r) (w':=w)
   (λj u hj=>by simp[World.cell?,e3,hj]) (λhg'=>by simp only at hg';rw[hg]at hg';cases hg') (λ_=>rfl)
  simp only at this;simp[qg,h1,asAddr,this,hg]
def AI:List AV->AV
 |[x]=>x
 |xs=> .bY xs
inductive wH (T:cn) (O:Sg) (L:List aq):List ResultVar->List AV->Prop where
 |nil:wH T O L [] []
 |cons {r:ResultVar} {x:AV} {rs:List ResultVar} {xs:List AV}:qC T O L r x->wH T O L rs xs->wH T O L (r::rs) (x::xs)
theorem Rm {E:Env} {G:Gl} {w:World} {F:Nat->Prop} {a:Act} (hs:St G N w F a O L):∀{rs:List ResultVar} {xs:List AV},wH E.T O L rs xs->
  ∃vs,aL w (Al F L) xs vs/\(rs.mapM (qg a)).run E.P w= .ok vs w
 |_,_,.nil=>⟨[],by simp[aL],by simp⟩
 |_,_,.cons h t=>by
  obtain⟨v,h1,h2⟩:=h.run (E:=E) hs;obtain⟨vs,h3,h4⟩:=Rm hs t;exact⟨v::vs,by simp only[aL];exact⟨v,vs,rfl,h1,h3⟩,by simp only[List.mapM_cons,Sem.run_bind,h2,h4,Result.andThen_ok,Sem.run_pure]⟩
def RQ (T:cn) (rs:List ResultVar) (Q:AR->List aq->Prop) (O:Sg) (L:List aq):Prop:=
 ∃xs,wH T O L rs xs/\Q (.ret (AI xs)) L
def BQ (T:cn) (rs:List ResultVar) (Q:AR->List aq->Prop):AQ:=λe O L=>match e with
 | .aT x=>Q (.aT x) L
 | .exit _=>False
 | .norm=>RQ T rs Q O L
 | .ret=>RQ T rs Q O L
theorem lN.enter {E:Env} {f:FuncId} {fn:Func} {c:Code} {args:List AV} {Q:AR->List aq->Prop} (hf:E.P.funcs[f]? =some fn) (hb:fn.body=some c) (hname:(fn.name== "runtime.NumGoroutine")=false)
  (rs:List ResultVar) (hrs:fn.results=rs.toArray) (nt:Nat) (hnt:fn.ntmps=nt) (hn:Nat.ble args.length nt=true) (h:cm E.toCx nt c (BQ E.T rs Q) (sP 0 args) L):lN E.toCx f args L Q:=by
 subst hnt;have hn:=eH hn;refine⟨⟨fn,hf,by simp[hb],hname⟩,λF w vs hH hargs=>?_⟩;refine calls_of_wp hf hb ?_;have hl:=hargs.length;have hsz:(vs.toArray++Array.replicate (fn.ntmps-vs.toArray.size) undef).size=fn.ntmps:=by simp;omega
 refine wp_mono (h F w L {tmps:=vs.toArray++Array.replicate (fn.ntmps-vs.toArray.size) undef,defers:=[]} w ⟨⟨hsz,λt x hx=>?_⟩,hH,rfl⟩ (Ext.refl L w)) ?_
 ·obtain⟨_,h2⟩:=Qz hx;simp only[aan]at h2;obtain⟨v,h3,h4⟩:=hargs.get h2;have hlt:t<vs.length:=(cr.1 h3).1;refine⟨by omega,?_⟩;have:(vs.toArray++Array.replicate (fn.ntmps-vs.toArray.size) undef).getD t undef=v:=by
   rw[HI,Array.getElem?_append_left (by simpa using hlt)];simp[h3]
  rw[this];exact h4
 ·rintro e a' w' ⟨e0,O1,L',hQ,hr,hs,hx⟩;obtain⟨O',hσ⟩:∃O',O'=e0.sl O1:=⟨_,rfl⟩;rw[<-hσ]at hQ hs;have key:∀{v:Value} {x:AV},(results fn a'.tmps).run E.P w'= .ok v w'->Rel w' (Al F L') x v->Q (.ret x) L'->
    a'.defers=[]/\∃v,(results fn a'.tmps).run E.P w'= .ok v w'/\∃r L',Q r L'/\AR.rel w' (Al F L') r (.returned v)/\bM E.G w' F L'/\Ext L w L' w':=
   λh1 h2 h3=>⟨hs.df,_,h1,_,_,h3,⟨_,rfl,h2⟩,hs.hp,hx⟩
  have main:RQ E.T rs Q O' L'->a'.defers=[]/\∃v,(results fn a'.tmps).run E.P w'= .ok v w'/\∃r L',Q r L'/\AR.rel w' (Al F L') r (.returned v)/\bM E.G w' F L'/\Ext L w L' w':=by
   intro hB;have hmap:∀vs:List Value,(rs.mapM (qg a')).run E.P w'= .ok vs w'->(results fn a'.tmps).run E.P w'= .ok (if h:vs.toArray.size=1 then vs.toArray[0]else .tuple vs.toArray) w':=by
    intro vs hv;rw[abL hrs a',anU];simp only[Sem.run_bind,Sem.run_map];rw[hv];simp
   obtain⟨xs,h1,h2⟩:=hB;obtain⟨us,h3,h4⟩:=Rm (E:=E) hs h1;refine key (hmap us h4) ?_ h2
   match xs,us,h3 with
   |[],us,h3=>simp only[aL]at h3;subst h3;simp[AI,Rel,aL]
   |[x],us,h3=>simp only[aL]at h3;obtain⟨v,r,rfl,h5,rfl⟩:=h3;simpa[AI]using h5
   |x::y::r,us,h3=>
    have hn:¬us.toArray.size=1:=by have:=h3.length;simp at this⊢;omega
    rw[dif_neg hn];simp only[AI,Rel];exact⟨us,rfl,h3⟩
  cases e0 with
  |norm=>simp only[AE.rel]at hr;subst hr;exact main hQ
  |ret=>simp only[AE.rel]at hr;subst hr;exact main hQ
  |exit i=>exact hQ.elim
  |aT x=>obtain⟨v,rfl,hv⟩:=hr;exact⟨hs.df,.aT x,L',hQ,⟨v,rfl,hv⟩,hs.hp,hx⟩
theorem bM.none {G:Gl} {w:World} {F:Nat->Prop} {L:List aq} (h:bM G w F L):bM G w F []:=
 ⟨by simp,by simp[ids],by simp[ids],h.bound,h.gK.keep ⟨bX _,λb _ hb=>⟨⟨hb.1,by simp[ids]⟩,rfl⟩⟩⟩
end
theorem mJ {D:Type}:∀{l:List D} {i:Nat} {x:D},nth l i=some x->∃l1 l2,l=l1++x::l2/\∀y,l.set i y=l1++y::l2
 |[],_,_,h=>by simp[nth]at h
 |y::r,0,x,h=>by simp only[nth,aE]at h;subst h;exact⟨[],r,rfl,λ_=>rfl⟩
 |y::r,n+1,x,h=>by
  simp only[nth]at h;obtain⟨l1,l2,rfl,h2⟩:=mJ h;exact⟨y::l1,l2,rfl,λz=>by simp[h2 z]⟩
section
variable {N:Nat} {Q:AQ} {O:Sg} {L:List aq} {ops:Array Oper} {rest:List Oper} {E:Env}
theorem lA (w:World) (ob:Obj) (b:Nat) (hb:b<w.heap.size):(w.alloc ob).heap[b]? =w.heap[b]? :=by
 show(w.heap.push ob)[b]? =_;rw[Array.getElem?_push,aM (by omega)]
theorem l6 (w:World) (ob:Obj):(w.alloc ob).heap[w.heap.size]? =some ob:=by
 show(w.heap.push ob)[w.heap.size]? =_;simp
theorem nK (w:World) (ob:Obj) (L:List aq) (x:aq) (hx:∀b∈x.ids,w.heap.size<=b):Ext L w (L++[x]) (w.alloc ob):=
 ⟨rfl,rfl,rfl,by simp,λb hb _=>lA w ob b hb,λb hb=>by
  simp only[cB,cJ,b7]at hb;rcases hb with hb|hb|hb
  ·exact .inl hb
  ·exact .inr (hx b hb)
  ·simp[ids]at hb,.of (bX _)⟩
def kx (T:cn) (t:TypeId) (cs:List AV) (o:Nat):Option AV:=
 match bc T t with
 |some ⟨d,k,_,_⟩=>match d.agg with
  |true=>match fits (cs.drop o) k with
   |true=>some (.agg ((cs.drop o).take k))
   |false=>none
  |false=>nth cs o
 |none=>none
theorem acs {w:World} {A:Nat->Prop} {t b o:Nat} {cs:List AV} {vs:List Value} {x:AV} (h:kx E.T t cs o=some x) (hr:aL w A cs vs):
  ∃v,Rel w A x v/\∀w',(∀j u,vs[j]? =some u->w'.cell? ⟨b,j,none⟩=some u)->(loadVar t ⟨b,o,none⟩).run E.P w'= .ok v w':=by
 unfold kx at h;split at h
 ·rename_i d k by' z ht;have hc':∀w':World,(∀j u,vs[j]? =some u->w'.cell? ⟨b,j,none⟩=some u)->∀j u,(vs.drop o)[j]? =some u->w'.cell? ⟨b,o+j,none⟩=some u:=λw' hc j u hj=>hc _ _ (by rwa[xQ]at hj);split at h
  ·rename_i hg;split at h
   ·rename_i hf;simp only[aE]at h;subst h;refine⟨.agg ((vs.drop o).take k).toArray,by simp only[Rel];exact⟨_,rfl,(hr.drop o).take k⟩,λw' hc=>?_⟩;have:=nG (P:=E.P) (v0:=undef) (E.tok _ _ ht) (b:=b) (o:=o) (vs:=(vs.drop o).take k) (w':=w')
     (λj u hj=>hc' w' hc j u (by rw[fT]at hj;split at hj;exact hj;cases hj)) (λ_=>(hr.drop o).yH k hf) (λhg'=>by simp only at hg';rw[hg]at hg';cases hg')
    simpa[hg]using this
   ·cases h
  ·rename_i hg;obtain⟨v,h3,h4⟩:=hr.nth h;refine⟨v,h4,λw' hc=>?_⟩;have:=nG (P:=E.P) (v0:=v) (E.tok _ _ ht) (b:=b) (o:=o) (vs:=vs.drop o) (w':=w') (hc' w' hc) (λhg'=>by simp only at hg';rw[hg]at hg';cases hg') (λ_=>by rw[xQ];simpa using h3);simpa[hg]using this
 ·cases h
theorem adq {w:World} {A:Nat->Prop} {t b s o:Nat} {cs:List AV} {vs:List Value} {x:AV} (h:kx E.T t cs o=some x) (hr:aL w A cs vs):
  ∃v,Rel w A x v/\∀w':World,(∀j u,vs[j]? =some u->w'.cell? ⟨b,s+j,none⟩=some u)->(loadVar t ⟨b,s+o,none⟩).run E.P w'= .ok v w':=by
 unfold kx at h;split at h
 ·rename_i d k by' z ht;have hc':∀w':World,(∀j u,vs[j]? =some u->w'.cell? ⟨b,s+j,none⟩=some u)->∀j u,(vs.drop o)[j]? =some u->w'.cell? ⟨b,s+o+j,none⟩=some u:=λw' hc j u hj=>by
   rw[Hw];exact hc _ _ (by rwa[xQ]at hj)
  split at h
  ·rename_i hg;split at h
   ·rename_i hf;simp only[aE]at h;subst h;refine⟨.agg ((vs.drop o).take k).toArray,by simp only[Rel];exact⟨_,rfl,(hr.drop o).take k⟩,λw' hc=>?_⟩;have:=nG (P:=E.P) (v0:=undef) (E.tok _ _ ht) (b:=b) (o:=s+o) (vs:=(vs.drop o).take k) (w':=w')
     (λj u hj=>hc' w' hc j u (by rw[fT]at hj;split at hj;exact hj;cases hj)) (λ_=>(hr.drop o).yH k hf) (λhg'=>by simp only at hg';rw[hg]at hg';cases hg')
    simpa[hg]using this
   ·cases h
  ·rename_i hg;obtain⟨v,h3,h4⟩:=hr.nth h;refine⟨v,h4,λw' hc=>?_⟩;have:=nG (P:=E.P) (v0:=v) (E.tok _ _ ht) (b:=b) (o:=s+o) (vs:=vs.drop o) (w':=w') (hc' w' hc) (λhg'=>by simp only at hg';rw[hg]at hg';cases hg') (λ_=>by rw[xQ];simpa using h3);simpa[hg]using this
 ·cases h
theorem tC {w:World} {b:Nat} {vs:List Value} {e:TypeId} {fz:Nat×Nat} (h:w.heap[b]? =some (.cells vs.toArray e fz)) (j:Nat) (u:Value) (hj:vs[j]? =some u):w.cell? ⟨b,j,none⟩=some u:=by
 simp[World.cell?,h,hj]
theorem adp {tg:Nat} {o:Oper} {t:TypeId} {p:Operand} (ho:o.op= .load t p) {i b off:Nat} {cs:List AV} {x:AV} (hp:ev (look O) p=some (.own tg b off)) (hi:nth L i=some (.box b cs)) (hl:kx E.T t cs off=some x):
  pv E.toCx N o O L x:=λF a w hs=>by
 have h1:=bH hs.sg hp;simp only[Rel]at h1;obtain⟨e,vs,h2,h3⟩:=ju hs.hp hi;have hb:b<w.heap.size:=(gQ.1 h2).1;obtain⟨v,h4,h6⟩:=acs (b:=b) hl h3;have h5:=λw' (hw':mi w w')=>h6 w' (tC ((hw'.2 b hb).trans h2));exact⟨v,h4,λw' hw'=>by simp[execOp,ho,h1,Instr.loadAt,Instr.sureAddr,h5 w' hw']⟩
def fc:List AV->Bool
 |[]=>true
 | .agg _::_=>false
 | .bY _::_=>false
 | .v x::r=>x.oneCell'&&fc r
 |_::r=>fc r
theorem yD {w:World} {A:Nat->Prop}:∀{xs:List AV} {vs:List Value},fc xs=true->aL w A xs vs->∀u∈vs,u.oneCell'=true
 |[],vs,_,h,u,hu=>by simp only[aL]at h;subst h;cases hu
 |x::r,vs,ho,h,u,hu=>by
  simp only[aL]at h;obtain⟨v,r',rfl,h1,h2⟩:=h;have:v.oneCell'=true/\fc r=true:=by
   cases x<;>simp only[fc,bS]at ho<;>simp only[Rel]at h1
   ·subst h1;exact ho
   ·rcases h1 with⟨_,a,c,rfl⟩|⟨b,o,c,ws,rfl,_⟩<;>exact⟨rfl,ho⟩
   ·cases ho
   ·cases ho
   ·obtain⟨b,o,ws,rfl,_⟩:=h1;exact⟨rfl,ho⟩
   ·subst h1;exact⟨rfl,ho⟩
   ·subst h1;exact⟨rfl,ho⟩
   ·obtain⟨b,l,c,_,rfl⟩:=h1;exact⟨rfl,ho⟩
   ·subst h1;exact⟨rfl,ho⟩
   ·obtain⟨us,ws,rfl,_⟩:=h1;exact⟨rfl,ho⟩
   ·obtain⟨y,rfl,_⟩:=h1;exact⟨rfl,ho⟩
  rcases cq.1 hu with rfl|hu
  ·exact this.1
  ·exact yD this.2 h2 u hu
theorem xS {P:Program} (b:Nat) (e:TypeId):∀(us:List Value) (k o:Nat) (vs:List Value) (w:World),w.heap[b]? =some (.cells vs.toArray e (0,0))->o+k+us.length<=vs.length->(∀u∈us,u.oneCell'=true)->
  ∃w',(storeCells ⟨b,o,none⟩ us k).run P w= .ok () w'/\w'.heap[b]? =some (.cells (dE vs (o+k) us).toArray e (0,0))/\w'.os=w.os/\w'.tape=w.tape/\(w'.output=w.output/\w'.drawn=w.drawn)/\w'.heap.size=w.heap.size/\∀c,c≠b->w'.heap[c]? =w.heap[c]?
 |[],k,o,vs,w,h,_,_=>⟨w,by simp[storeCells],by rw[tU];exact h,rfl,rfl,⟨rfl,rfl⟩,rfl,λ_ _=>rfl⟩
 |u::us,k,o,vs,w,h,hl,h1=>by
  simp only[gP]at hl;have hc:w.cell? ⟨b,o+k,none⟩=some (vs[o+k]'(by omega)):=tC h _ _ (by simp);have hf:w.frozen? ⟨b,o+k,none⟩=false:=by simp[World.frozen?,h]
  have hset:(w.setCell ⟨b,o+k,none⟩ u).heap[b]? =some (.cells (vs.set (o+k) u).toArray e (0,0)):=by
   simp[World.setCell,Dy,h]
  obtain⟨w',h2,h3,h4,h5,h6,h7,h8⟩:=xS (P:=P) b e us (k+1) o (vs.set (o+k) u) (w.setCell ⟨b,o+k,none⟩ u) hset (by simp;omega) (λx hx=>h1 x (by simp[hx]));refine⟨w',?_,?_,h4,h5,h6,by rw[h7];simp,λc hc=>by rw[h8 c hc];exact Go.RowKit.Below.heap_setCell w ⟨b,o+k,none⟩ u c hc⟩
  ·simp only[storeCells,Addr.add_lit,Sem.run_bind,run_store P w _ u .plain (h1 u (by simp)),hc,hf,kI,if_false,Result.andThen_ok,h2]
  ·rw[h3];have key:∀(m:Nat) (xs:List Value),m+us.length+1<=xs.length->dE (xs.set m u) (m+1) us=dE xs m (u::us):=by
    intro m
    induction m with
    |zero=>intro xs hx;cases xs with
     |nil=>simp at hx
     |cons x xs=>cases xs<;>simp[dE,over]
    |succ m ih=>intro xs hx;cases xs with
     |nil=>simp at hx
     |cons x xs=>simp only[q7,dE];rw[ih xs (by simp at hx;omega)]
   rw[<-key (o+k) vs (by omega)];rfl
end
section
variable {N:Nat} {Q:AQ} {O:Sg} {L:List aq} {ops:Array Oper} {rest:List Oper} {E:Env}
theorem Ql {tg:Nat} {o:Oper} {t:TypeId} {p x:Operand} (ho:o.op= .store t p x) {i b off:Nat} {cs cs':List AV} {y:AV} {ti:TI} (hp:ev (look O) p=some (.own tg b off)) (hx:ev (look O) x=some y) (hi:nth L i=some (.box b cs))
  (ht:bc E.T t=some ti) (hk:Nat.beq (cH y).length ti.size=true) (h1:fc (cH y)=true) (hl:fN cs off (cH y)=some cs'):
  Cv E.toCx N o O L (L.set i (.box b cs')):=λF a w hs=>by
 have hp':=bH hs.sg hp;simp only[Rel]at hp';have hy:=yy (bH hs.sg hx);obtain⟨l,r,rfl,hset⟩:=mJ hi;rw[hset];obtain⟨e,vs,h2,h3⟩:=hs.hp.eG (.box b cs) (by simp);have hlen:=xZ hl;have hyl:=hy.length;obtain⟨w',h4,h5,h6,h7,h8,h9,h10⟩:=xS (P:=E.P) b e (a.eval x).cells.toList 0 off vs w h2 (by rw[h3.length];omega) (yD h1 hy);have hids:∀c∈aq.ids (.box b cs'),c∈aq.ids (.box b cs)\/w.heap.size<=c:=λc hc=> .inl hc;refine⟨w',?_,?_,?_⟩
 ·have hsz:(a.eval x).cells.size=ti.size:=by
   have:=bQ hk;rw[<-hyl]at this;simpa using this
  simp[execOp,ho,hp',Instr.storeAt,Instr.sureAddr,storeVar,IY (E.tok _ _ ht),hsz,h4]
 ·refine hs.hp.lU (by omega) (λc _ hc=>h10 c (by simpa[aq.ids]using hc)) hids (by simp[aq.ids]) ?_;refine⟨e,dE vs off (a.eval x).cells.toList,by simpa using h5,ya hl (h3.keep ?_) (hy.keep ?_)⟩
  all_goals
   refine⟨by omega,λc hc ha=>⟨?_,h10 c λhcb=>ha.2 (by rw[hcb];simp[cB,cJ,aq.ids])⟩⟩;simpa[Al,cB,cJ,aq.ids]using ha
 ·refine⟨h6,h7,h8.1,by omega,λc _ hc=>h10 c λhcb=>hc (by rw[hcb];simp[cB,cJ,aq.ids]),λc hc=> .inl ?_,.of (HB h8.2.symm)⟩;simpa[cB,cJ,aq.ids]using hc
theorem kO {P:Program} {t e k:Nat} {i:TI} (h:mz P t i=true) (hd:i.d= .slice e k):P.underlying t=some (.slice e)/\k=jg P e/\hasB P e=true:=by
 obtain⟨u,ti,hu,_,hd',_⟩:=fx h;rw[hd]at hd';cases u<;>simp only[iu,kI,bS,beq_iff_eq]at hd';obtain⟨⟨rfl,h2⟩,h3⟩:=hd';exact⟨hu,h2,h3⟩
theorem bq.get {w:World} {A:Nat->Prop} {k:Nat}:∀{rows:List (List AV)} {vs:List Value} {j:Nat} {r:List AV},bq w A k rows vs->rows[j]? =some r->
  r.length=k/\∃us,aL w A r us/\∀i u,us[i]? =some u->vs[j*k+i]? =some u
 |[],_,_,_,_,h=>by simp at h
 |q::rs,vs,0,r,hr,h=>by
  simp only[bq]at hr;obtain⟨v1,v2,rfl,hk,h1,_⟩:=hr;simp at h;subst h;refine⟨hk,v1,h1,λi u hi=>?_⟩;have:i<v1.length:=(cr.1 hi).1;rw[aaq,kJ,mF this];exact hi
 |q::rs,vs,j+1,r,hr,h=>by
  simp only[bq]at hr;obtain⟨v1,v2,rfl,hk,h1,h2⟩:=hr;simp at h;obtain⟨h3,us,h4,h5⟩:=bq.get h2 h;refine⟨h3,us,h4,λi u hi=>?_⟩;have hl:v1.length=k:=by rw[h1.length,hk]
  have:=h5 i u hi;rw[xK (by rw[hl,jc];omega),hl];rw[show(j+1)*k+i-k=j*k+i by rw[jc];omega];exact this
def wG (T:cn) (t:TypeId):AV->Option Int
 | .sl _ rows=>match bc T t with
  |some ⟨.slice _ _,_,_,_⟩=>some (rows.length:Int)
  |_=>none
 | .v (.slice _ n _)=>match bc T t with
  |some ⟨.slice _ _,_,_,_⟩=>some (n:Int)
  |_=>none
 | .os _ _ n _=>match bc T t with
  |some ⟨.slice _ _,_,_,_⟩=>some (n:Int)
  |_=>none
 | .v (.string s)=>match bc T t with
  |some ⟨.str,_,_,_⟩=>some (s.size:Int)
  |_=>none
 |_=>none
theorem aeZ {o:Oper} {t:TypeId} {x:Operand} (ho:o.op= .call {callee:= .builtin .len,args:= #[x],argTypes:= #[t]}) {y:AV} {n:Int} (hx:ev (look O) x=some y) (hl:wG E.T t y=some n):
  pv E.toCx N o O L (.v (.int .i64 n)):=λF a w hs=>by
 have h1:=bH hs.sg hx;refine⟨.int .i64 n,by simp only[Rel],λw' _=>?_⟩;unfold wG at hl;split at hl
 ·split at hl
  ·rename_i ht;obtain⟨hu,_,_⟩:=kO (E.tok _ _ ht) rfl;simp only[aE]at hl;subst hl;simp only[Rel]at h1;rcases h1 with⟨rfl,a',cap,e1⟩|⟨b,off,cap,vs,e1,_⟩
   ·simp[execOp,ho,resolve,invoke,builtin,e1,Builtin.len_,run_underlying hu,goInt]
   ·simp[execOp,ho,resolve,invoke,builtin,e1,Builtin.len_,run_underlying hu,goInt]
  ·cases hl
 ·split at hl
  ·rename_i ht;obtain⟨hu,_,_⟩:=kO (E.tok _ _ ht) rfl;simp only[aE]at hl;subst hl;simp only[Rel]at h1;simp[execOp,ho,resolve,invoke,builtin,h1,Builtin.len_,run_underlying hu,goInt]
  ·cases hl
 ·split at hl
  ·rename_i ht;obtain⟨hu,_,_⟩:=kO (E.tok _ _ ht) rfl;simp only[aE]at hl;subst hl;simp only[Rel]at h1;simp[execOp,ho,resolve,invoke,builtin,h1,Builtin.len_,run_underlying hu,goInt]
  ·cases hl
 ·split at hl
  ·rename_i ht;obtain⟨u,_,hu,_,hd,_⟩:=fx (E.tok _ _ ht);simp only[aE]at hl;subst hl;simp only[Rel]at h1;cases u<;>simp[iu]at hd;simp[execOp,ho,resolve,invoke,builtin,h1,Builtin.len_,run_underlying hu,goInt]
  ·cases hl
 ·cases hl
theorem abK {P:Program} {c:Code} {Q:Exit->Act->World->Prop} (I:Nat->Act->World->Prop)
  (round:∀n a w,I n a w->c.wp P (Exit.then (λa' w'=>∃m,m<n/\I m a' w') Q) a w):∀{n:Nat} {a:Act} {w:World},I n a w->(Code.loop c).wp P Q a w:=by
 intro n a w h₀ b k cs;have key:∀n a w,I n a w->∃e a' w',Q e a' w'/\Arrives P (lone (b.at a (.code c:: .inLoop c::k)) cs w) b k cs e a' w':=by
  intro n
  induction n using Nat.strongRecOn with
  |_ n ih=>
   intro a w hI;obtain⟨e,a₁,w₁,hq,harr⟩:=round n a w hI b (.inLoop c::k) cs;cases e with
   |normal=>
    obtain⟨m,hm,hI₁⟩:=hq;obtain⟨e₂,a₂,w₂,hq₂,harr₂⟩:=ih m hm a₁ w₁ hI₁;exact⟨e₂,a₂,w₂,hq₂,.of_steps (Steps.trans harr (.one step_inLoop)) harr₂⟩
   |exit id=>exact⟨_,a₁,w₁,hq,.pass (x:= .inLoop c) rfl (λ_ _=> .inl (by simp)) harr⟩
   |goto l=>exact⟨_,a₁,w₁,hq,.pass (x:= .inLoop c) rfl (λ_ _=> .inl (by simp)) harr⟩
   |ret=>exact⟨_,a₁,w₁,hq,.pass (x:= .inLoop c) rfl (λ_ _=> .inl (by simp)) harr⟩
   |panic ch=>exact⟨_,a₁,w₁,hq,.pass (x:= .inLoop c) rfl (λ_ _=> .inl (by simp)) harr⟩
   |outgrown=>exact⟨_,a₁,w₁,hq,.pass (x:= .inLoop c) rfl (λ_ _=> .inl (by simp)) harr⟩
 obtain⟨e,a',w',hq,harr⟩:=key n a w h₀;exact⟨e,a',w',hq,.of_steps (.one step_loop) harr⟩
theorem cm.loop {C:Cx} {c:Code} (I:Nat->Sg->List aq->Prop) (n:Nat) (h0:I n O L) (round:∀n O L,I n O L->cm C N c (AE.then (λO' L'=>∃m,m<n/\I m O' L') Q) O L):cm C N (.loop c) Q O L:=
 λF w0 L0 a w hs hx=>by
  refine abK (P:=C.P) (I:=λn a w=>∃O L,I n O L/\St C.G N w F a O L/\Ext L0 w0 L w) ?_ ⟨O,L,h0,hs,hx⟩;rintro n a w ⟨O,L,hI,hs,hx⟩;refine wp_mono (round n O L hI F w0 L0 a w hs hx) ?_;rintro e a' w' ⟨e0,O',L',h1,h2,h3,h4⟩;cases e0 with
  |norm=>simp only[AE.rel]at h2;subst h2;obtain⟨m,hm,hI'⟩:=h1;exact⟨m,hm,O',L',hI',h3,h4⟩
  |exit i=>simp only[AE.rel]at h2;subst h2;exact⟨.exit i,O',L',h1,rfl,h3,h4⟩
  |ret=>simp only[AE.rel]at h2;subst h2;exact⟨.ret,O',L',h1,rfl,h3,h4⟩
  |aT x=>obtain⟨v,rfl,h2⟩:=h2;exact⟨.aT x,O',L',h1,⟨v,rfl,h2⟩,h3,h4⟩
