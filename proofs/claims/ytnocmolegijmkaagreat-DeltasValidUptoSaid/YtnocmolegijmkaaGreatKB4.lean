/- The program logic, fourth part: a region's operations one by one; calls; loops; entering a function. -/
import Derived.Test.YtnocmolegijmkaaGreatKB3
set_option linter.all false
noncomputable section
namespace Go.Bw
open Go
def bE (C:Cx) (N:Nat) (ops:Array Oper) (rest:List Oper) (Q:AQ) (O:Sg) (L:List aj):Prop:=
 ∀F w0 η0 a w,St C.G N w F a O L->Ext η0 w0 L w->wpList C.P ops (CQ C.G N F w0 η0 Q) rest a w
def b8 (N:Nat):Option Nat->Bool
 |none=>true
 |some d=>Nat.blt d N
theorem v7 {N:Nat} {dst:Option Nat} (h:b8 N dst=true):∀d,dst=some d->d<N:=by
 intro d hd;subst hd;simpa[b8,kG]using h
def u1 (C:Cx) (N:Nat) (o:Oper) (O:Sg) (L:List aj) (R:AV->List aj->Prop):Prop:=
 ∀F a w,St C.G N w F a O L->∃v w' x L',R x L'/\(execOp a.eval o).run C.P w= .ok (.value v) w'/\Rel w' (Al F L') x v/\bh C.G w' F L'/\Ext L w L' w'
def zc (C:Cx) (N:Nat) (o:Oper) (O:Sg) (L L':List aj):Prop:=
 ∀F a w,St C.G N w F a O L->∃w',(execOp a.eval o).run C.P w= .ok .skip w'/\bh C.G w' F L'/\Ext L w L' w'
section
variable {C:Cx} {N:Nat} {Q:AQ} {O:Sg} {L:List aj} {ops:Array Oper} {rest:List Oper} {o:Oper}
theorem bH.region {id:Nat} {l:List Oper} (h:bE C N l.toArray l Q O L):bH C N (.region id l.toArray false) Q O L:=
 λF w0 η0 a w hs hx=>wp_region_lit (h F w0 η0 a w hs hx)
theorem bE.nil (h:Q .norm O L):bE C N ops [] Q O L:=λ_ _ _ _ _ hs hx=>wpList_nil (CQ.intro .norm rfl h hs hx)
theorem bE.lW {O':Sg} {L':List aj} (hw:gT C.G N O L O' L') (h:bE C N ops rest Q O' L'):bE C N ops rest Q O L:=λF w0 η0 a w hs hx=>by
 obtain⟨h1,h2⟩:=hw F w a hs;exact h F w0 η0 a w h1 (hx.trans ⟨rfl,rfl,rfl,bC _,λ_ _ _=>rfl,λb hb=> .inl (h2 b hb),.of (bC _)⟩)
theorem St.put {G:Gl} {w w':World} {F:Nat->Prop} {a:Act} {L':List aj} (hs:St G N w F a O L) (hx:Ext L w L' w') (hh:bh G w' F L') {dst:Option Nat} (hd:b8 N dst=true) {x:AV} {v:Value} (hv:Rel w' (Al F L') x v):
  St G N w' F (a.put dst v) (lZ dst x O) L':=
 ⟨(hs.sg.aX hx.keeps).put dst (v7 hd) hv,hh,by cases dst<;>exact hs.df⟩
theorem bE.za {R:AV->List aj->Prop} (hg:o.guard=none) (hd:b8 N o.dst=true) (h:u1 C N o O L R) (k:∀x L',R x L'->bE C N ops rest Q (lZ o.dst x O) L'):
  bE C N ops (o::rest) Q O L:=λF w0 η0 a w hs hx=>wpList_plain hg λK hK=>by
 obtain⟨v,w',x,L',hR,hr,hv,hh,he⟩:=h F a w hs;unfold Oper.wp;rw[hr,Oper.upon_value];exact hK _ _ (k x L' hR F w0 η0 _ w' (hs.put he hh hd hv) (hx.trans he))
theorem bE.L2 {L':List aj} (hg:o.guard=none) (hd:o.dst=none) (h:zc C N o O L L') (k:bE C N ops rest Q O L'):
  bE C N ops (o::rest) Q O L:=λF w0 η0 a w hs hx=>wpList_plain hg λK hK=>by
 obtain⟨w',hr,hh,he⟩:=h F a w hs;unfold Oper.wp;rw[hr,Oper.upon_skip,hd];exact hK _ _ (k F w0 η0 _ w' ⟨hs.sg.aX he.keeps,hh,hs.df⟩ (hx.trans he))
def nZ (C:Cx) (N:Nat) (o:Oper) (O:Sg) (L:List aj) (x:AV):Prop:=
 ∀F a w,St C.G N w F a O L->∃v,Rel w (Al F L) x v/\∀w',ki w w'->(execOp a.eval o).run C.P w'= .ok (.value v) w'
theorem Ry {E:Env} {x:AV} (h:cj E.T (look O) o.op=some x):nZ E.toCx N o O L x:=λ_ _ _ hs=>QB (P:=E.P) E.tok hs.sg h
theorem bE.guard {j d:Nat} {want t:Bool} (hg:o.guard=some (j,want)) (hj:(ops[j]?).bind (·.dst)=some d) (ht:look O d=some (.v (.bool t)))
  (h1:t=want->bE C N ops ({o with guard:=none}::rest) Q ((d,.v (.bool want))::O) L) (h2:t= !want->bE C N ops rest Q (lZ o.dst (.v undef) ((d,.v (.bool !want))::O)) L)
  (hd:b8 N o.dst=true):bE C N ops (o::rest) Q O L:=λF w0 η0 a w hs hx=>by
 obtain⟨hlt,hv⟩:=hs.sg.2 d _ ht;simp only[Rel]at hv;have hy:yielded ops a.tmps j=some t:=by
  have:a.tmps[d]? =some (.bool t):=by
   rw[Ad]at hv;rw[<-hs.sg.1]at hlt;simp[hlt]at hv⊢;exact hv
  simp[yielded,hj,this]
 have hst:∀b,t=b->St C.G N w F a ((d,.v (.bool b))::O) L:=λb hb=>by
  subst hb;refine⟨⟨hs.sg.1,λs x hx=>?_⟩,hs.hp,hs.df⟩;simp only[look]at hx;cases hb:Nat.beq d s with
  |true=>rw[hb]at hx;simp only[ax]at hx;subst hx;rw[<-bg hb];exact⟨hlt,by simp only[Rel];exact hv⟩
  |false=>rw[hb]at hx;exact hs.sg.2 s x hx
 have hwant:Region.wanted o (yielded ops a.tmps)=(t==want):=by
  simp only[Region.wanted,hg,hy];cases t<;>cases want<;>rfl
 unfold wpList;rw[hwant];by_cases htw:t=want
 ·rw[ck (by simp[htw])];have:=h1 htw F w0 η0 a w (hst want htw) hx;unfold wpList at this;rw[ck (by simp[Region.wanted])]at this;exact this
 ·rw[bI (by simp[htw])];have htn:t= !want:=by cases t<;>cases want<;>simp_all
  exact h2 htn F w0 η0 _ w (St.put (hst _ htn) (Ext.refl L w) hs.hp hd (by simp only[Rel])) hx
theorem bE.cP {j d e:Nat} {want t:Bool} {op:Op} {ty:TypeId} {pos:String} {after:Array Edge} (hj:(ops[j]?).bind (·.dst)=some d) (ht:look O d=some (.v (.bool t)))
  (h1:t=want->bE C N ops (⟨some e,op,ty,pos,after,none⟩::rest) Q ((d,.v (.bool want))::O) L) (h2:t= !want->bE C N ops rest Q ((e,.v undef)::(d,.v (.bool !want))::O) L)
  (hd:Nat.blt e N=true):bE C N ops (⟨some e,op,ty,pos,after,some (j,want)⟩::rest) Q O L:=bE.guard rfl hj ht h1 h2 hd
theorem bE.BM {j d e:Nat} {want:Bool} {op:Op} {ty:TypeId} {pos:String} {after:Array Edge} (hj:(ops[j]?).bind (·.dst)=some d) (ht:look O d=some (.v undef))
  (h2:bE C N ops rest Q ((e,.v undef)::O) L) (hd:Nat.blt e N=true):bE C N ops (⟨some e,op,ty,pos,after,some (j,want)⟩::rest) Q O L:=λF w0 η0 a w hs hx=>by
 obtain⟨hlt,hv⟩:=hs.sg.2 d _ ht;simp only[Rel]at hv;have hy:yielded ops a.tmps j=none:=by
  have:a.tmps[d]? =some undef:=by
   rw[Ad]at hv;rw[<-hs.sg.1]at hlt;simp[hlt]at hv⊢;exact hv
  simp[yielded,hj,this,undef]
 unfold wpList;rw[bI (by simp[Region.wanted,hy])];exact h2 F w0 η0 _ w (St.put (dst:=some e) hs (Ext.refl L w) hs.hp hd (by simp only[Rel])) hx
inductive AR where
 |ret (x:AV)
 |aJ (x:AV)
def AR.rel (w:World) (A:Nat->Prop):AR->Ending->Prop
 | .ret x,e=>∃v,e= .returned v/\Rel w A x v
 | .aJ x,e=>∃v,e= .panicked [{v,recovered:=false}]/\Rel w A x v
def A7 (P:Program) (g:FuncId):Prop:=∃fn,P.funcs[g]? =some fn/\fn.body.isNone=false/\(fn.name== "runtime.NumGoroutine")=false
def kX (C:Cx) (f:FuncId) (args:List AV) (L:List aj) (Q:AR->List aj->Prop):Prop:=
 A7 C.P f/\∀F w vs,bh C.G w F L->aG w (Al F L) args vs->
  Calls C.P f vs.toArray w λe w'=>∃r L',Q r L'/\AR.rel w' (Al F L') r e/\bh C.G w' F L'/\Ext L w L' w'
def Pure (C:Cx) (f:FuncId) (args:List AV) (res:AR):Prop:=kX C f args [] λr L'=>r=res/\L'=[]
theorem kX.mono {f:FuncId} {args:List AV} {Q Q':AR->List aj->Prop} (h:kX C f args L Q) (hq:∀r L',Q r L'->Q' r L'):kX C f args L Q':=
 ⟨h.1,λF w vs h1 h2=>(h.2 F w vs h1 h2).mono λ_ _ ⟨r,L',hQ,rest⟩=>⟨r,L',hq _ _ hQ,rest⟩⟩
def callee (O:Sl) (f:Operand) (args:List Operand):Option (FuncId×List AV):=
 match ev O f,gY O args with
 |some (.v (.func (.func g) fa cs)),some xs=>some (g,fa.toList.map .v++xs++cs.toList.map .v)
 |some (.fn g fs cs),some xs=>some (g,fs++xs++cs)
 |_,_=>none
theorem sG {P:Program} {w:World} {A:Nat->Prop} {a:Act} {s:Sl} (hs:eZ w A N a s) {f:Operand} {args:List Operand} {g:FuncId} {xs:List AV} (h:callee s f args=some (g,xs))
  {tys:Array TypeId} {dst:Option Nat} {ty:TypeId} {pos:String} {after:Array Edge} {gd:Option (Nat×Bool)} (hb:A7 P g):
  ∃vs:List Value,aG w A xs vs/\∀w',(execOp a.eval ⟨dst,.call {callee:= .value f,args:=args.toArray,argTypes:=tys},ty,pos,after,gd⟩).run P w'= .ok (.enter g vs.toArray) w':=by
 obtain⟨fn,hf,hbody,hname⟩:=hb;have hcf:∀(ws:Array Value) (w':World),(callFunc g ws).run P w'= .ok (.enter g ws) w':=by
  intro ws w';simp only[callFunc,Sem.run_bind,run_program,Result.andThen_ok,hf,hname,hbody,iN,if_false,Sem.run_pure]
 unfold callee at h;split at h
 ·rename_i g' fa cs ys h1 h2;simp only[ax,bZ]at h;obtain⟨rfl,rfl⟩:=h;have h3:=a8 hs h1;simp only[Rel]at h3;have h4:=s6 hs h2;refine⟨fa.toList++args.map a.eval++cs.toList,((mh _).append h4).append (mh _),λw'=>?_⟩;have:(fa++(args.map a.eval).toArray++cs)=(fa.toList++args.map a.eval++cs.toList).toArray:=by apply iQ;simp
  simp[execOp,resolve,h3,Deferred.ofValue,invoke];rw[<-hcf];congr 2;apply iQ;simp
 ·rename_i g' fs cs ys h1 h2;simp only[ax,bZ]at h;obtain⟨rfl,rfl⟩:=h;have h3:=a8 hs h1;simp only[Rel]at h3;obtain⟨us,ws,h3,h5',h5⟩:=h3;have h4:=s6 hs h2;refine⟨us++args.map a.eval++ws,(h5'.append h4).append h5,λw'=>?_⟩;simp[execOp,resolve,h3,Deferred.ofValue,invoke,hcf]
  done
 ·cases h
theorem Pure.run {g:FuncId} {xs:List AV} {res:AR} (h:Pure C g xs res) {F:Nat->Prop} {w:World} {vs:List Value} (hh:bh C.G w F L) (hr:aG w (Al F L) xs vs):
  Calls C.P g vs.toArray w λe w'=>AR.rel w' (Al F L) res e/\bh C.G w' F L/\Ext L w L w'/\∀b,b<w.heap.size->w'.heap[b]? =w.heap[b]? :=by
 have hA':Al (λb=>F b\/b∈ids L) []=Al F L:=funext λb=>propext (by simp[Al,ids]);have hH:bh C.G w (λb=>F b\/b∈ids L) []:=⟨by simp,by simp[ids],by simp[ids],λb hb=>hb.elim (hh.bound b) (hh.lt b),by rw[hA'];exact hh.b0⟩;refine(h.2 _ w vs hH (by rw[hA'];exact hr)).mono ?_;rintro e w' ⟨r,L',⟨rfl,rfl⟩,hv,_,he⟩;rw[hA']at hv;have hext:Ext L w L w':=⟨he.os,he.tape,he.output,he.size,λb hb hn=>he.block b hb (by simp[ids]),λb hb=> .inl hb,he.drawn⟩;have hsame:∀b,b<w.heap.size->w'.heap[b]? =w.heap[b]? :=λb hb=>he.block b hb (by simp[ids]);exact⟨hv,⟨λx hx=>(hh.ec x hx).aX hext.keeps (λb hb=>hsame b ((hh.ec x hx).lt b hb)),hh.nodup,hh.free,λb hb=>pW (hh.bound b hb) he.size,hh.b0.aX hext.keeps⟩,hext,hsame⟩
def pq:Nat->List AV->Sg
 |_,[]=>[]
 |n,x::xs=>(n,x)::pq (n+1) xs
theorem GZ:∀{xs:List AV} {n t:Nat} {x:AV},look (pq n xs) t=some x->n<=t/\xs[t-n]? =some x
 |[],n,t,x,h=>by simp[pq,look]at h
 |y::ys,n,t,x,h=>by
  simp only[pq,look]at h;cases hb:Nat.beq n t with
  |true=>
   rw[hb]at h;simp only[ax]at h;subst h;have:=bg hb;subst this;simp
  |false=>
   rw[hb]at h;obtain⟨h1,h2⟩:=GZ h;refine⟨by omega,?_⟩;rw[show t-n=(t-(n+1))+1 by omega];simpa using h2
theorem aG.get {w:World} {A:Nat->Prop}:∀{xs:List AV} {vs:List Value} {n:Nat} {x:AV},aG w A xs vs->xs[n]? =some x->∃v,vs[n]? =some v/\Rel w A x v:=
 λh hx=>h.nth (by rw[b7];exact hx)
inductive nJ (T:bD) (O:Sg) (L:List aj):ResultVar->AV->Prop where
 |tmp {t:Nat} {x:AV}:look O t=some x->nJ T O L (.tmp t) x
 |Ks {a t:Nat} {cs:List AV} {d:TD} {k b:Nat} {z:List Value}:look O a=some (.ip cs)->aP T t=some ⟨d,k,b,z⟩->d.agg=true->fits cs k=true->nJ T O L (.cell a t) (.agg (cs.take k))
 |Kr {tg i a t bk:Nat} {cs:List AV} {d:TD} {k b:Nat} {z:List Value}:look O a=some (.own tg bk 0)->nth L i=some (.box bk cs)->aP T t=some ⟨d,k,b,z⟩->d.agg=true->fits cs k=true->
   nJ T O L (.cell a t) (.agg (cs.take k))
 |Jl {tg i a t bk:Nat} {c:AV} {cs:List AV} {d:TD} {k b:Nat} {z:List Value}:look O a=some (.own tg bk 0)->nth L i=some (.box bk (c::cs))->aP T t=some ⟨d,k,b,z⟩->d.agg=false->
   nJ T O L (.cell a t) c
def nA (a:Act):ResultVar->Sem Value
 | .tmp t=>pure (a.tmps.getD t undef)
 | .cell p t=>do loadVar t (<-asAddr (a.tmps.getD p undef))
theorem Oh {fn:Func} {rs:List ResultVar} (h:fn.results=rs.toArray) (a:Act):
  results fn a.tmps=(do let vs <-rs.toArray.mapM (nA a);pure (if h:vs.size=1 then vs[0]else .tuple vs)):=by
 unfold results;rw[h];have hf:∀(f g:ResultVar->Sem Value),(∀r,f r=g r)->rs.toArray.mapM f=rs.toArray.mapM g:=λf g hfg=>by rw[funext hfg]
 rw[hf _ (nA a) (λr=>by cases r<;>rfl)]
theorem ie {G:Gl} {w:World} {F:Nat->Prop} (h:bh G w F L) {i:Nat} {x:aj} (hi:nth L i=some x):x.ok w (Al F L):=
 h.ec x (br (by rw[<-b7];exact hi))
theorem nJ.run {E:Env} {G:Gl} {w:World} {F:Nat->Prop} {a:Act} (hs:St G N w F a O L) {r:ResultVar} {x:AV} (h:nJ E.T O L r x):
  ∃v,Rel w (Al F L) x v/\(nA a r).run E.P w= .ok v w:=by
 cases h with
 |tmp h=>exact⟨_,(hs.sg.2 _ _ h).2,rfl⟩
 |Ks h ht hg hf=>
  rename_i p t cs d k b z;have h1:=(hs.sg.2 _ _ h).2;simp only[Rel]at h1;obtain⟨b',o',vs,e1,e2,e3,e4⟩:=h1;refine⟨.agg (vs.take k).toArray,by simp only[Rel];exact⟨_,rfl,e3.take k⟩,?_⟩;have:=lz (P:=E.P) (v0:=undef) (E.tok _ _ ht) (b:=b') (o:=o') (vs:=vs.take k) (w':=w)
   (λj u hj=>e4 j u (by rw[kI]at hj;split at hj;exact hj;cases hj)) (λ_=>e3.sN k hf) (λhg'=>by simp only at hg';rw[hg]at hg';cases hg')
  simp only at this;simp[nA,e1,asAddr,this,hg]
 |Kr h hi ht hg hf=>
  rename_i i p t bk cs d k b z;have h1:=(hs.sg.2 _ _ h).2;simp only[Rel]at h1;obtain⟨e,vs,e3,e4⟩:=ie hs.hp hi;refine⟨.agg (vs.take k).toArray,by simp only[Rel];exact⟨_,rfl,e4.take k⟩,?_⟩;have:=lz (P:=E.P) (v0:=undef) (E.tok _ _ ht) (b:=bk) (o:=0) (vs:=vs.take k) (w':=w)
   (λj u hj=>by
    have hj':vs[j]? =some u:=by rw[kI]at hj;split at hj;exact hj;cases hj
    simp[World.cell?,e3,hj']) (λ_=>e4.sN k hf) (λhg'=>by simp only at hg';rw[hg]at hg';cases hg')
  simp only at this;simp[nA,h1,asAddr,this,hg]
 |Jl h hi ht hg=>
  rename_i i p t bk cs d k b z;have h1:=(hs.sg.2 _ _ h).2;simp only[Rel]at h1;obtain⟨e,vs,e3,e4⟩:=ie hs.hp hi;simp only[aG]at e4;obtain⟨v,r,rfl,e5,_⟩:=e4;refine⟨v,e5,?_⟩;have:=lz (P:=E.P) (v0:=v) (E.tok _ _ ht) (b:=bk) (o:=0) (vs:=v::r) (w':=w)
   (λj u hj=>by simp[World.cell?,e3,hj]) (λhg'=>by simp only at hg';rw[hg]at hg';cases hg') (λ_=>rfl)
  simp only at this;simp[nA,h1,asAddr,this,hg]
def ua:List AV->AV
 |[x]=>x
 |xs=> .bX xs
inductive ry (T:bD) (O:Sg) (L:List aj):List ResultVar->List AV->Prop where
 |nil:ry T O L [] []
 |cons {r:ResultVar} {x:AV} {rs:List ResultVar} {xs:List AV}:nJ T O L r x->ry T O L rs xs->ry T O L (r::rs) (x::xs)
theorem HE {E:Env} {G:Gl} {w:World} {F:Nat->Prop} {a:Act} (hs:St G N w F a O L):∀{rs:List ResultVar} {xs:List AV},ry E.T O L rs xs->
  ∃vs,aG w (Al F L) xs vs/\(rs.mapM (nA a)).run E.P w= .ok vs w
 |_,_,.nil=>⟨[],by simp[aG],by simp⟩
 |_,_,.cons h t=>by
  obtain⟨v,h1,h2⟩:=h.run (E:=E) hs;obtain⟨vs,h3,h4⟩:=HE hs t;exact⟨v::vs,by simp only[aG];exact⟨v,vs,rfl,h1,h3⟩,by simp only[List.mapM_cons,Sem.run_bind,h2,h4,Result.andThen_ok,Sem.run_pure]⟩
def RQ (T:bD) (rs:List ResultVar) (Q:AR->List aj->Prop) (O:Sg) (L:List aj):Prop:=
 ∃xs,ry T O L rs xs/\Q (.ret (ua xs)) L
def BQ (T:bD) (rs:List ResultVar) (Q:AR->List aj->Prop):AQ:=λe O L=>match e with
 | .aJ x=>Q (.aJ x) L
 | .exit _=>False
 | .norm=>RQ T rs Q O L
 | .ret=>RQ T rs Q O L
theorem kX.enter {E:Env} {f:FuncId} {fn:Func} {c:Code} {args:List AV} {Q:AR->List aj->Prop} (hf:E.P.funcs[f]? =some fn) (hb:fn.body=some c) (hname:(fn.name== "runtime.NumGoroutine")=false)
  (rs:List ResultVar) (hrs:fn.results=rs.toArray) (nt:Nat) (hnt:fn.ntmps=nt) (hn:Nat.ble args.length nt=true) (h:bH E.toCx nt c (BQ E.T rs Q) (pq 0 args) L):kX E.toCx f args L Q:=by
 subst hnt;have hn:=dj hn;refine⟨⟨fn,hf,by simp[hb],hname⟩,λF w vs hH hargs=>?_⟩;refine calls_of_wp hf hb ?_;have hl:=hargs.length;have hsz:(vs.toArray++Array.replicate (fn.ntmps-vs.toArray.size) undef).size=fn.ntmps:=by simp;omega
 refine wp_mono (h F w L {tmps:=vs.toArray++Array.replicate (fn.ntmps-vs.toArray.size) undef,defers:=[]} w ⟨⟨hsz,λt x hx=>?_⟩,hH,rfl⟩ (Ext.refl L w)) ?_
 ·obtain⟨_,h2⟩:=GZ hx;simp only[MZ]at h2;obtain⟨v,h3,h4⟩:=hargs.get h2;have hlt:t<vs.length:=(cX.1 h3).1;refine⟨by omega,?_⟩;have:(vs.toArray++Array.replicate (fn.ntmps-vs.toArray.size) undef).getD t undef=v:=by
   rw[Ad,Array.getElem?_append_left (by simpa using hlt)];simp[h3]
  rw[this];exact h4
 ·rintro e a' w' ⟨e0,O1,L',hQ,hr,hs,hx⟩;obtain⟨O',hσ⟩:∃O',O'=e0.sl O1:=⟨_,rfl⟩;rw[<-hσ]at hQ hs;have key:∀{v:Value} {x:AV},(results fn a'.tmps).run E.P w'= .ok v w'->Rel w' (Al F L') x v->Q (.ret x) L'->
    a'.defers=[]/\∃v,(results fn a'.tmps).run E.P w'= .ok v w'/\∃r L',Q r L'/\AR.rel w' (Al F L') r (.returned v)/\bh E.G w' F L'/\Ext L w L' w':=
   λh1 h2 h3=>⟨hs.df,_,h1,_,_,h3,⟨_,rfl,h2⟩,hs.hp,hx⟩
  have main:RQ E.T rs Q O' L'->a'.defers=[]/\∃v,(results fn a'.tmps).run E.P w'= .ok v w'/\∃r L',Q r L'/\AR.rel w' (Al F L') r (.returned v)/\bh E.G w' F L'/\Ext L w L' w':=by
   intro hB;have hmap:∀vs:List Value,(rs.mapM (nA a')).run E.P w'= .ok vs w'->(results fn a'.tmps).run E.P w'= .ok (if h:vs.toArray.size=1 then vs.toArray[0]else .tuple vs.toArray) w':=by
    intro vs hv;rw[Oh hrs a',X7];simp only[Sem.run_bind,Sem.run_map];rw[hv];simp
   obtain⟨xs,h1,h2⟩:=hB;obtain⟨us,h3,h4⟩:=HE (E:=E) hs h1;refine key (hmap us h4) ?_ h2
   match xs,us,h3 with
   |[],us,h3=>simp only[aG]at h3;subst h3;simp[ua,Rel,aG]
   |[x],us,h3=>simp only[aG]at h3;obtain⟨v,r,rfl,h5,rfl⟩:=h3;simpa[ua]using h5
   |x::y::r,us,h3=>
    have hn:¬us.toArray.size=1:=by have:=h3.length;simp at this⊢;omega
    rw[dif_neg hn];simp only[ua,Rel];exact⟨us,rfl,h3⟩
  cases e0 with
  |norm=>simp only[AE.rel]at hr;subst hr;exact main hQ
  |ret=>simp only[AE.rel]at hr;subst hr;exact main hQ
  |exit i=>exact hQ.elim
  |aJ x=>obtain⟨v,rfl,hv⟩:=hr;exact⟨hs.df,.aJ x,L',hQ,⟨v,rfl,hv⟩,hs.hp,hx⟩
theorem bh.none {G:Gl} {w:World} {F:Nat->Prop} {L:List aj} (h:bh G w F L):bh G w F []:=
 ⟨by simp,by simp[ids],by simp[ids],h.bound,h.b0.aX ⟨bC _,λb _ hb=>⟨⟨hb.1,by simp[ids]⟩,rfl⟩⟩⟩
end
theorem sM {D:Type}:∀{l:List D} {i:Nat} {x:D},nth l i=some x->∃l1 l2,l=l1++x::l2/\∀y,l.set i y=l1++y::l2
 |[],_,_,h=>by simp[nth]at h
 |y::r,0,x,h=>by simp only[nth,ax]at h;subst h;exact⟨[],r,rfl,λ_=>rfl⟩
 |y::r,n+1,x,h=>by
  simp only[nth]at h;obtain⟨l1,l2,rfl,h2⟩:=sM h;exact⟨y::l1,l2,rfl,λz=>by simp[h2 z]⟩
section
variable {N:Nat} {Q:AQ} {O:Sg} {L:List aj} {ops:Array Oper} {rest:List Oper} {E:Env}
theorem jZ (w:World) (ob:Obj) (b:Nat) (hb:b<w.heap.size):(w.alloc ob).heap[b]? =w.heap[b]? :=by
 show(w.heap.push ob)[b]? =_;rw[Array.getElem?_push,bI (by omega)]
theorem kJ (w:World) (ob:Obj):(w.alloc ob).heap[w.heap.size]? =some ob:=by
 show(w.heap.push ob)[w.heap.size]? =_;simp
theorem mi (w:World) (ob:Obj) (L:List aj) (x:aj) (hx:∀b∈x.ids,w.heap.size<=b):Ext L w (L++[x]) (w.alloc ob):=
 ⟨rfl,rfl,rfl,by simp,λb hb _=>jZ w ob b hb,λb hb=>by
  simp only[b5,cy,cD]at hb;rcases hb with hb|hb|hb
  ·exact .inl hb
  ·exact .inr (hx b hb)
  ·simp[ids]at hb,.of (bC _)⟩
def iA (T:bD) (t:TypeId) (cs:List AV) (o:Nat):Option AV:=
 match aP T t with
 |some ⟨d,k,_,_⟩=>match d.agg with
  |true=>match fits (cs.drop o) k with
   |true=>some (.agg ((cs.drop o).take k))
   |false=>none
  |false=>nth cs o
 |none=>none
theorem OW {w:World} {A:Nat->Prop} {t b o:Nat} {cs:List AV} {vs:List Value} {x:AV} (h:iA E.T t cs o=some x) (hr:aG w A cs vs):
  ∃v,Rel w A x v/\∀w',(∀j u,vs[j]? =some u->w'.cell? ⟨b,j,none⟩=some u)->(loadVar t ⟨b,o,none⟩).run E.P w'= .ok v w':=by
 unfold iA at h;split at h
 ·rename_i d k by' z ht;have hc':∀w':World,(∀j u,vs[j]? =some u->w'.cell? ⟨b,j,none⟩=some u)->∀j u,(vs.drop o)[j]? =some u->w'.cell? ⟨b,o+j,none⟩=some u:=λw' hc j u hj=>hc _ _ (by rwa[su]at hj);split at h
  ·rename_i hg;split at h
   ·rename_i hf;simp only[ax]at h;subst h;refine⟨.agg ((vs.drop o).take k).toArray,by simp only[Rel];exact⟨_,rfl,(hr.drop o).take k⟩,λw' hc=>?_⟩;have:=lz (P:=E.P) (v0:=undef) (E.tok _ _ ht) (b:=b) (o:=o) (vs:=(vs.drop o).take k) (w':=w')
     (λj u hj=>hc' w' hc j u (by rw[kI]at hj;split at hj;exact hj;cases hj)) (λ_=>(hr.drop o).sN k hf) (λhg'=>by simp only at hg';rw[hg]at hg';cases hg')
    simpa[hg]using this
   ·cases h
  ·rename_i hg;obtain⟨v,h3,h4⟩:=hr.nth h;refine⟨v,h4,λw' hc=>?_⟩;have:=lz (P:=E.P) (v0:=v) (E.tok _ _ ht) (b:=b) (o:=o) (vs:=vs.drop o) (w':=w') (hc' w' hc) (λhg'=>by simp only at hg';rw[hg]at hg';cases hg') (λ_=>by rw[su];simpa using h3);simpa[hg]using this
 ·cases h
theorem PE {w:World} {A:Nat->Prop} {t b s o:Nat} {cs:List AV} {vs:List Value} {x:AV} (h:iA E.T t cs o=some x) (hr:aG w A cs vs):
  ∃v,Rel w A x v/\∀w':World,(∀j u,vs[j]? =some u->w'.cell? ⟨b,s+j,none⟩=some u)->(loadVar t ⟨b,s+o,none⟩).run E.P w'= .ok v w':=by
 unfold iA at h;split at h
 ·rename_i d k by' z ht;have hc':∀w':World,(∀j u,vs[j]? =some u->w'.cell? ⟨b,s+j,none⟩=some u)->∀j u,(vs.drop o)[j]? =some u->w'.cell? ⟨b,s+o+j,none⟩=some u:=λw' hc j u hj=>by
   rw[Ab];exact hc _ _ (by rwa[su]at hj)
  split at h
  ·rename_i hg;split at h
   ·rename_i hf;simp only[ax]at h;subst h;refine⟨.agg ((vs.drop o).take k).toArray,by simp only[Rel];exact⟨_,rfl,(hr.drop o).take k⟩,λw' hc=>?_⟩;have:=lz (P:=E.P) (v0:=undef) (E.tok _ _ ht) (b:=b) (o:=s+o) (vs:=(vs.drop o).take k) (w':=w')
     (λj u hj=>hc' w' hc j u (by rw[kI]at hj;split at hj;exact hj;cases hj)) (λ_=>(hr.drop o).sN k hf) (λhg'=>by simp only at hg';rw[hg]at hg';cases hg')
    simpa[hg]using this
   ·cases h
  ·rename_i hg;obtain⟨v,h3,h4⟩:=hr.nth h;refine⟨v,h4,λw' hc=>?_⟩;have:=lz (P:=E.P) (v0:=v) (E.tok _ _ ht) (b:=b) (o:=s+o) (vs:=vs.drop o) (w':=w') (hc' w' hc) (λhg'=>by simp only at hg';rw[hg]at hg';cases hg') (λ_=>by rw[su];simpa using h3);simpa[hg]using this
 ·cases h
theorem p0 {w:World} {b:Nat} {vs:List Value} {e:TypeId} {fz:Nat×Nat} (h:w.heap[b]? =some (.cells vs.toArray e fz)) (j:Nat) (u:Value) (hj:vs[j]? =some u):w.cell? ⟨b,j,none⟩=some u:=by
 simp[World.cell?,h,hj]
theorem PD {tg:Nat} {o:Oper} {t:TypeId} {p:Operand} (ho:o.op= .load t p) {i b off:Nat} {cs:List AV} {x:AV} (hp:ev (look O) p=some (.own tg b off)) (hi:nth L i=some (.box b cs)) (hl:iA E.T t cs off=some x):
  nZ E.toCx N o O L x:=λF a w hs=>by
 have h1:=a8 hs.sg hp;simp only[Rel]at h1;obtain⟨e,vs,h2,h3⟩:=ie hs.hp hi;have hb:b<w.heap.size:=(kF.1 h2).1;obtain⟨v,h4,h6⟩:=OW (b:=b) hl h3;have h5:=λw' (hw':ki w w')=>h6 w' (p0 ((hw'.2 b hb).trans h2));exact⟨v,h4,λw' hw'=>by simp[execOp,ho,h1,Instr.loadAt,Instr.sureAddr,h5 w' hw']⟩
def ek:List AV->Bool
 |[]=>true
 | .agg _::_=>false
 | .bX _::_=>false
 | .v x::r=>x.oneCell'&&ek r
 |_::r=>ek r
theorem we {w:World} {A:Nat->Prop}:∀{xs:List AV} {vs:List Value},ek xs=true->aG w A xs vs->∀u∈vs,u.oneCell'=true
 |[],vs,_,h,u,hu=>by simp only[aG]at h;subst h;cases hu
 |x::r,vs,ho,h,u,hu=>by
  simp only[aG]at h;obtain⟨v,r',rfl,h1,h2⟩:=h;have:v.oneCell'=true/\ek r=true:=by
   cases x<;>simp only[ek,bj]at ho<;>simp only[Rel]at h1
   ·subst h1;exact ho
   ·rcases h1 with⟨_,a,c,rfl⟩|⟨b,o,c,ws,rfl,_⟩<;>exact⟨rfl,ho⟩
   ·cases ho
   ·cases ho
   ·obtain⟨b,o,ws,rfl,_⟩:=h1;exact⟨rfl,ho⟩
   ·subst h1;exact⟨rfl,ho⟩
   ·subst h1;exact⟨rfl,ho⟩
   ·obtain⟨b,l,c,_,rfl⟩:=h1;exact⟨rfl,ho⟩
   ·subst h1;exact⟨rfl,ho⟩
   ·obtain⟨us,ws,rfl,_⟩:=h1;exact⟨rfl,ho⟩
   ·obtain⟨y,rfl,_⟩:=h1;exact⟨rfl,ho⟩
  rcases cu.1 hu with rfl|hu
  ·exact this.1
  ·exact we this.2 h2 u hu
theorem Ai {P:Program} (b:Nat) (e:TypeId):∀(us:List Value) (k o:Nat) (vs:List Value) (w:World),w.heap[b]? =some (.cells vs.toArray e (0,0))->o+k+us.length<=vs.length->(∀u∈us,u.oneCell'=true)->
  ∃w',(storeCells ⟨b,o,none⟩ us k).run P w= .ok () w'/\w'.heap[b]? =some (.cells (cF vs (o+k) us).toArray e (0,0))/\w'.os=w.os/\w'.tape=w.tape/\(w'.output=w.output/\w'.drawn=w.drawn)/\w'.heap.size=w.heap.size/\∀c,c≠b->w'.heap[c]? =w.heap[c]?
 |[],k,o,vs,w,h,_,_=>⟨w,by simp[storeCells],by rw[qg];exact h,rfl,rfl,⟨rfl,rfl⟩,rfl,λ_ _=>rfl⟩
 |u::us,k,o,vs,w,h,hl,h1=>by
  simp only[eG]at hl;have hc:w.cell? ⟨b,o+k,none⟩=some (vs[o+k]'(by omega)):=p0 h _ _ (by simp);have hf:w.frozen? ⟨b,o+k,none⟩=false:=by simp[World.frozen?,h]
  have hset:(w.setCell ⟨b,o+k,none⟩ u).heap[b]? =some (.cells (vs.set (o+k) u).toArray e (0,0)):=by
   simp[World.setCell,XU,h]
  obtain⟨w',h2,h3,h4,h5,h6,h7,h8⟩:=Ai (P:=P) b e us (k+1) o (vs.set (o+k) u) (w.setCell ⟨b,o+k,none⟩ u) hset (by simp;omega) (λx hx=>h1 x (by simp[hx]));refine⟨w',?_,?_,h4,h5,h6,by rw[h7];simp,λc hc=>by rw[h8 c hc];exact Go.RowKit.Below.heap_setCell w ⟨b,o+k,none⟩ u c hc⟩
  ·simp only[storeCells,Addr.add_lit,Sem.run_bind,run_store P w _ u .plain (h1 u (by simp)),hc,hf,iN,if_false,Result.andThen_ok,h2]
  ·rw[h3];have key:∀(m:Nat) (xs:List Value),m+us.length+1<=xs.length->cF (xs.set m u) (m+1) us=cF xs m (u::us):=by
    intro m
    induction m with
    |zero=>intro xs hx;cases xs with
     |nil=>simp at hx
     |cons x xs=>cases xs<;>simp[cF,over]
    |succ m ih=>intro xs hx;cases xs with
     |nil=>simp at hx
     |cons x xs=>simp only[sr,cF];rw[ih xs (by simp at hx;omega)]
   rw[<-key (o+k) vs (by omega)];rfl
end
section
variable {N:Nat} {Q:AQ} {O:Sg} {L:List aj} {ops:Array Oper} {rest:List Oper} {E:Env}
theorem GN {tg:Nat} {o:Oper} {t:TypeId} {p x:Operand} (ho:o.op= .store t p x) {i b off:Nat} {cs cs':List AV} {y:AV} {ti:TI} (hp:ev (look O) p=some (.own tg b off)) (hx:ev (look O) x=some y) (hi:nth L i=some (.box b cs))
  (ht:aP E.T t=some ti) (hk:Nat.beq (bW y).length ti.size=true) (h1:ek (bW y)=true) (hl:ew cs off (bW y)=some cs'):
  zc E.toCx N o O L (L.set i (.box b cs')):=λF a w hs=>by
 have hp':=a8 hs.sg hp;simp only[Rel]at hp';have hy:=sH (a8 hs.sg hx);obtain⟨l,r,rfl,hset⟩:=sM hi;rw[hset];obtain⟨e,vs,h2,h3⟩:=hs.hp.ec (.box b cs) (by simp);have hlen:=sC hl;have hyl:=hy.length;obtain⟨w',h4,h5,h6,h7,h8,h9,h10⟩:=Ai (P:=E.P) b e (a.eval x).cells.toList 0 off vs w h2 (by rw[h3.length];omega) (we h1 hy);have hids:∀c∈aj.ids (.box b cs'),c∈aj.ids (.box b cs)\/w.heap.size<=c:=λc hc=> .inl hc;refine⟨w',?_,?_,?_⟩
 ·have hsz:(a.eval x).cells.size=ti.size:=by
   have:=bg hk;rw[<-hyl]at this;simpa using this
  simp[execOp,ho,hp',Instr.storeAt,Instr.sureAddr,storeVar,A6 (E.tok _ _ ht),hsz,h4]
 ·refine hs.hp.rT (by omega) (λc _ hc=>h10 c (by simpa[aj.ids]using hc)) hids (by simp[aj.ids]) ?_;refine⟨e,cF vs off (a.eval x).cells.toList,by simpa using h5,sD hl (h3.aX ?_) (hy.aX ?_)⟩
  all_goals
   refine⟨by omega,λc hc ha=>⟨?_,h10 c λhcb=>ha.2 (by rw[hcb];simp[b5,cy,aj.ids])⟩⟩;simpa[Al,b5,cy,aj.ids]using ha
 ·refine⟨h6,h7,h8.1,by omega,λc _ hc=>h10 c λhcb=>hc (by rw[hcb];simp[b5,cy,aj.ids]),λc hc=> .inl ?_,.of (Nat.le_of_eq h8.2.symm)⟩;simpa[b5,cy,aj.ids]using hc
theorem kK {P:Program} {t e k:Nat} {i:TI} (h:kD P t i=true) (hd:i.d= .slice e k):P.underlying t=some (.slice e)/\k=fW P e/\hasB P e=true:=by
 obtain⟨u,ti,hu,_,hd',_⟩:=dW h;rw[hd]at hd';cases u<;>simp only[fx,iN,bj,beq_iff_eq]at hd';obtain⟨⟨rfl,h2⟩,h3⟩:=hd';exact⟨hu,h2,h3⟩
theorem bc.get {w:World} {A:Nat->Prop} {k:Nat}:∀{rows:List (List AV)} {vs:List Value} {j:Nat} {r:List AV},bc w A k rows vs->rows[j]? =some r->
  r.length=k/\∃us,aG w A r us/\∀i u,us[i]? =some u->vs[j*k+i]? =some u
 |[],_,_,_,_,h=>by simp at h
 |q::rs,vs,0,r,hr,h=>by
  simp only[bc]at hr;obtain⟨v1,v2,rfl,hk,h1,_⟩:=hr;simp at h;subst h;refine⟨hk,v1,h1,λi u hi=>?_⟩;have:i<v1.length:=(cX.1 hi).1;rw[M8,mO,pT this];exact hi
 |q::rs,vs,j+1,r,hr,h=>by
  simp only[bc]at hr;obtain⟨v1,v2,rfl,hk,h1,h2⟩:=hr;simp at h;obtain⟨h3,us,h4,h5⟩:=bc.get h2 h;refine⟨h3,us,h4,λi u hi=>?_⟩;have hl:v1.length=k:=by rw[h1.length,hk]
  have:=h5 i u hi;rw[zY (by rw[hl,jx];omega),hl];rw[show(j+1)*k+i-k=j*k+i by rw[jx];omega];exact this
def rv (T:bD) (t:TypeId):AV->Option Int
 | .sl _ rows=>match aP T t with
  |some ⟨.slice _ _,_,_,_⟩=>some (rows.length:Int)
  |_=>none
 | .v (.slice _ n _)=>match aP T t with
  |some ⟨.slice _ _,_,_,_⟩=>some (n:Int)
  |_=>none
 | .os _ _ n _=>match aP T t with
  |some ⟨.slice _ _,_,_,_⟩=>some (n:Int)
  |_=>none
 | .v (.string s)=>match aP T t with
  |some ⟨.str,_,_,_⟩=>some (s.size:Int)
  |_=>none
 |_=>none
theorem Qy {o:Oper} {t:TypeId} {x:Operand} (ho:o.op= .call {callee:= .builtin .len,args:= #[x],argTypes:= #[t]}) {y:AV} {n:Int} (hx:ev (look O) x=some y) (hl:rv E.T t y=some n):
  nZ E.toCx N o O L (.v (.int .i64 n)):=λF a w hs=>by
 have h1:=a8 hs.sg hx;refine⟨.int .i64 n,by simp only[Rel],λw' _=>?_⟩;unfold rv at hl;split at hl
 ·split at hl
  ·rename_i ht;obtain⟨hu,_,_⟩:=kK (E.tok _ _ ht) rfl;simp only[ax]at hl;subst hl;simp only[Rel]at h1;rcases h1 with⟨rfl,a',cap,e1⟩|⟨b,off,cap,vs,e1,_⟩
   ·simp[execOp,ho,resolve,invoke,builtin,e1,Builtin.len_,run_underlying hu,goInt]
   ·simp[execOp,ho,resolve,invoke,builtin,e1,Builtin.len_,run_underlying hu,goInt]
  ·cases hl
 ·split at hl
  ·rename_i ht;obtain⟨hu,_,_⟩:=kK (E.tok _ _ ht) rfl;simp only[ax]at hl;subst hl;simp only[Rel]at h1;simp[execOp,ho,resolve,invoke,builtin,h1,Builtin.len_,run_underlying hu,goInt]
  ·cases hl
 ·split at hl
  ·rename_i ht;obtain⟨hu,_,_⟩:=kK (E.tok _ _ ht) rfl;simp only[ax]at hl;subst hl;simp only[Rel]at h1;simp[execOp,ho,resolve,invoke,builtin,h1,Builtin.len_,run_underlying hu,goInt]
  ·cases hl
 ·split at hl
  ·rename_i ht;obtain⟨u,_,hu,_,hd,_⟩:=dW (E.tok _ _ ht);simp only[ax]at hl;subst hl;simp only[Rel]at h1;cases u<;>simp[fx]at hd;simp[execOp,ho,resolve,invoke,builtin,h1,Builtin.len_,run_underlying hu,goInt]
  ·cases hl
 ·cases hl
theorem Og {P:Program} {c:Code} {Q:Exit->Act->World->Prop} (I:Nat->Act->World->Prop)
  (round:∀n a w,I n a w->c.wp P (Exit.then (λa' w'=>∃m,m<n/\I m a' w') Q) a w):∀{n:Nat} {a:Act} {w:World},I n a w->(Code.loop c).wp P Q a w:=by
 intro n a w h₀ b k cs;have key:∀n a w,I n a w->∃e a' w',Q e a' w'/\Arrives P (lone (b.at a (.code c:: .inLoop c::k)) cs w) b k cs e a' w':=by
  intro n
  induction n using Nat.strongRecOn with
  |_ n ih=>
   intro a w hI;obtain⟨e,a₁,w₁,hq,harr⟩:=round n a w hI b (.inLoop c::k) cs;cases e with
   |normal=>
    obtain⟨m,hm,hI₁⟩:=hq;obtain⟨e₂,a₂,w₂,hq₂,harr₂⟩:=ih m hm a₁ w₁ hI₁;exact⟨e₂,a₂,w₂,hq₂,.of_steps (Steps.trans harr (.one step_inLoop)) harr₂⟩
   |exit id=>exact⟨_,a₁,w₁,hq,.pass (x:= .inLoop c) rfl (λ_ _=> .inl (by simp)) harr⟩
   |goto l=>exact⟨_,a₁,w₁,hq,.pass (x:= .inLoop c) rfl (λ_ _=> .inl (by simp)) harr⟩
   |ret=>exact⟨_,a₁,w₁,hq,.pass (x:= .inLoop c) rfl (λ_ _=> .inl (by simp)) harr⟩
   |panic ch=>exact⟨_,a₁,w₁,hq,.pass (x:= .inLoop c) rfl (λ_ _=> .inl (by simp)) harr⟩
   |outgrown=>exact⟨_,a₁,w₁,hq,.pass (x:= .inLoop c) rfl (λ_ _=> .inl (by simp)) harr⟩
 obtain⟨e,a',w',hq,harr⟩:=key n a w h₀;exact⟨e,a',w',hq,.of_steps (.one step_loop) harr⟩
theorem bH.loop {C:Cx} {c:Code} (I:Nat->Sg->List aj->Prop) (n:Nat) (h0:I n O L) (round:∀n O L,I n O L->bH C N c (AE.then (λO' L'=>∃m,m<n/\I m O' L') Q) O L):bH C N (.loop c) Q O L:=
 λF w0 η0 a w hs hx=>by
  refine Og (P:=C.P) (I:=λn a w=>∃O L,I n O L/\St C.G N w F a O L/\Ext η0 w0 L w) ?_ ⟨O,L,h0,hs,hx⟩;rintro n a w ⟨O,L,hI,hs,hx⟩;refine wp_mono (round n O L hI F w0 η0 a w hs hx) ?_;rintro e a' w' ⟨e0,O',L',h1,h2,h3,h4⟩;cases e0 with
  |norm=>simp only[AE.rel]at h2;subst h2;obtain⟨m,hm,hI'⟩:=h1;exact⟨m,hm,O',L',hI',h3,h4⟩
  |exit i=>simp only[AE.rel]at h2;subst h2;exact⟨.exit i,O',L',h1,rfl,h3,h4⟩
  |ret=>simp only[AE.rel]at h2;subst h2;exact⟨.ret,O',L',h1,rfl,h3,h4⟩
  |aJ x=>obtain⟨v,rfl,h2⟩:=h2;exact⟨.aJ x,O',L',h1,⟨v,rfl,h2⟩,h3,h4⟩
