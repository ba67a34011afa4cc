/- The program logic, fourth part: a region's operations one by one; calls; loops; entering a function. -/
import Derived.Test.YtfgnmgbiijpkiaaGreatKB3
set_option linter.all false
noncomputable section
namespace Go.Bw
open Go
def bo (C:Cx) (N:Nat) (ops:Array Oper) (rest:List Oper) (Q:AQ) (Z:Sg) (O:List aq):Prop:=
 ∀F w0 η0 a w,St C.G N w F a Z O->Ext η0 w0 O w->wpList C.P ops (CQ C.G N F w0 η0 Q) rest a w
def ck (N:Nat):Option Nat->Bool
 |none=>true
 |some d=>Nat.blt d N
theorem zc {N:Nat} {dst:Option Nat} (h:ck N dst=true):∀d,dst=some d->d<N:=by
 intro d hd;subst hd;simpa[ck,lF]using h
def rT (C:Cx) (N:Nat) (o:Oper) (Z:Sg) (O:List aq) (R:AV->List aq->Prop):Prop:=
 ∀F a w,St C.G N w F a Z O->∃v w' x O',R x O'/\(execOp a.eval o).run C.P w= .ok (.value v) w'/\Rel w' (Al F O') x v/\bD C.G w' F O'/\Ext O w O' w'
def BX (C:Cx) (N:Nat) (o:Oper) (Z:Sg) (O O':List aq):Prop:=
 ∀F a w,St C.G N w F a Z O->∃w',(execOp a.eval o).run C.P w= .ok .skip w'/\bD C.G w' F O'/\Ext O w O' w'
section
variable {C:Cx} {N:Nat} {Q:AQ} {Z:Sg} {O:List aq} {ops:Array Oper} {rest:List Oper} {o:Oper}
theorem bK.region {id:Nat} {l:List Oper} (h:bo C N l.toArray l Q Z O):bK C N (.region id l.toArray false) Q Z O:=
 λF w0 η0 a w hs hx=>wp_region_lit (h F w0 η0 a w hs hx)
theorem bo.nil (h:Q .norm Z O):bo C N ops [] Q Z O:=λ_ _ _ _ _ hs hx=>wpList_nil (CQ.intro .norm rfl h hs hx)
theorem bo.id (h:bo C N ops rest Q Z O):bo C N ops rest Q Z O:=h
theorem bK.id {c:Code} (h:bK C N c Q Z O):bK C N c Q Z O:=h
theorem bo.kE {σ':Sg} {O':List aq} (hw:ez C.G N Z O σ' O') (h:bo C N ops rest Q σ' O'):bo C N ops rest Q Z O:=λF w0 η0 a w hs hx=>by
 obtain⟨h1,h2⟩:=hw F w a hs;exact h F w0 η0 a w h1 (hx.trans ⟨rfl,rfl,rfl,bQ _,λ_ _ _=>rfl,λb hb=> .inl (h2 b hb),.of (bQ _)⟩)
theorem St.put {G:Gl} {w w':World} {F:Nat->Prop} {a:Act} {O':List aq} (hs:St G N w F a Z O) (hx:Ext O w O' w') (hh:bD G w' F O') {dst:Option Nat} (hd:ck N dst=true) {x:AV} {v:Value} (hv:Rel w' (Al F O') x v):
  St G N w' F (a.put dst v) (lk dst x Z) O':=
 ⟨(hs.sg.keep hx.keeps).put dst (zc hd) hv,hh,by cases dst<;>exact hs.df⟩
theorem bo.p9 {R:AV->List aq->Prop} (hg:o.guard=none) (hd:ck N o.dst=true) (h:rT C N o Z O R) (k:∀x O',R x O'->bo C N ops rest Q (lk o.dst x Z) O'):
  bo C N ops (o::rest) Q Z O:=λF w0 η0 a w hs hx=>wpList_plain hg λK hK=>by
 obtain⟨v,w',x,O',hR,hr,hv,hh,he⟩:=h F a w hs;unfold Oper.wp;rw[hr,Oper.upon_value];exact hK _ _ (k x O' hR F w0 η0 _ w' (hs.put he hh hd hv) (hx.trans he))
theorem bo.I9 {O':List aq} (hg:o.guard=none) (hd:o.dst=none) (h:BX C N o Z O O') (k:bo C N ops rest Q Z O'):
  bo C N ops (o::rest) Q Z O:=λF w0 η0 a w hs hx=>wpList_plain hg λK hK=>by
 obtain⟨w',hr,hh,he⟩:=h F a w hs;unfold Oper.wp;rw[hr,Oper.upon_skip,hd];exact hK _ _ (k F w0 η0 _ w' ⟨hs.sg.keep he.keeps,hh,hs.df⟩ (hx.trans he))
def oL (C:Cx) (N:Nat) (o:Oper) (Z:Sg) (O:List aq) (x:AV):Prop:=
 ∀F a w,St C.G N w F a Z O->∃v,Rel w (Al F O) x v/\∀w',ky w w'->(execOp a.eval o).run C.P w'= .ok (.value v) w'
theorem bo.Ja {x:AV} {d:Nat} (hg:o.guard=none) (hd:o.dst=some d) (hn:Nat.blt d N=true) (h:oL C N o Z O x) (k:bo C N ops rest Q ((d,x)::Z) O):bo C N ops (o::rest) Q Z O:=
 bo.p9 (R:=λy O'=>y=x/\O'=O) hg (by rw[hd];exact hn) (λF a w hs=>by
  obtain⟨v,h1,h2⟩:=h F a w hs;exact⟨v,w,x,O,⟨rfl,rfl⟩,h2 w (ky.refl w),h1,hs.hp,Ext.refl O w⟩) (λy O' ⟨h1,h2⟩=>by subst h1;subst h2;rw[hd];exact k)
theorem O7 {E:Env} {x:AV} (h:cB E.T (look Z) o.op=some x):oL E.toCx N o Z O x:=λ_ _ _ hs=>Yl (P:=E.P) E.tok hs.sg h
theorem bo.op {E:Env} {x:AV} {d:Nat} {op:Op} {ty:TypeId} {pos:String} {after:Array Edge} (h:cB E.T (look Z) op=some x) (hn:Nat.blt d N=true) (k:bo E.toCx N ops rest Q ((d,x)::Z) O):
  bo E.toCx N ops (⟨some d,op,ty,pos,after,none⟩::rest) Q Z O:=bo.Ja rfl rfl hn (O7 h) k
theorem bo.guard {j d:Nat} {want t:Bool} (hg:o.guard=some (j,want)) (hj:(ops[j]?).bind (·.dst)=some d) (ht:look Z d=some (.v (.bool t)))
  (h1:t=want->bo C N ops ({o with guard:=none}::rest) Q ((d,.v (.bool want))::Z) O) (h2:t= !want->bo C N ops rest Q (lk o.dst (.v undef) ((d,.v (.bool !want))::Z)) O)
  (hd:ck N o.dst=true):bo C N ops (o::rest) Q Z O:=λF w0 η0 a w hs hx=>by
 obtain⟨hlt,hv⟩:=hs.sg.2 d _ ht;simp only[Rel]at hv;have hy:yielded ops a.tmps j=some t:=by
  have:a.tmps[d]? =some (.bool t):=by
   rw[Cd]at hv;rw[<-hs.sg.1]at hlt;simp[hlt]at hv⊢;exact hv
  simp[yielded,hj,this]
 have hst:∀b,t=b->St C.G N w F a ((d,.v (.bool b))::Z) O:=λb hb=>by
  subst hb;refine⟨⟨hs.sg.1,λs x hx=>?_⟩,hs.hp,hs.df⟩;simp only[look]at hx;cases hb:Nat.beq d s with
  |true=>rw[hb]at hx;simp only[aE]at hx;subst hx;rw[<-bE hb];exact⟨hlt,by simp only[Rel];exact hv⟩
  |false=>rw[hb]at hx;exact hs.sg.2 s x hx
 have hwant:Region.wanted o (yielded ops a.tmps)=(t==want):=by
  simp only[Region.wanted,hg,hy];cases t<;>cases want<;>rfl
 unfold wpList;rw[hwant];by_cases htw:t=want
 ·rw[dj (by simp[htw])];have:=h1 htw F w0 η0 a w (hst want htw) hx;unfold wpList at this;rw[dj (by simp[Region.wanted])]at this;exact this
 ·rw[cM (by simp[htw])];have htn:t= !want:=by cases t<;>cases want<;>simp_all
  exact h2 htn F w0 η0 _ w (St.put (hst _ htn) (Ext.refl O w) hs.hp hd (by simp only[Rel])) hx
theorem bo.bz {j d e:Nat} {want t:Bool} {op:Op} {ty:TypeId} {pos:String} {after:Array Edge} (hj:(ops[j]?).bind (·.dst)=some d) (ht:look Z d=some (.v (.bool t)))
  (h1:t=want->bo C N ops (⟨some e,op,ty,pos,after,none⟩::rest) Q ((d,.v (.bool want))::Z) O) (h2:t= !want->bo C N ops rest Q ((e,.v undef)::(d,.v (.bool !want))::Z) O)
  (hd:Nat.blt e N=true):bo C N ops (⟨some e,op,ty,pos,after,some (j,want)⟩::rest) Q Z O:=bo.guard rfl hj ht h1 h2 hd
theorem bo.O8 {j d e:Nat} {t:Bool} {op:Op} {ty:TypeId} {pos:String} {after:Array Edge} (hj:(ops[j]?).bind (·.dst)=some d) (ht:look Z d=some (.v (.bool t)))
  (h1:t=true->bo C N ops (⟨some e,op,ty,pos,after,none⟩::rest) Q ((d,.v (.bool true))::Z) O) (h2:t=false->bo C N ops rest Q ((e,.v undef)::(d,.v (.bool false))::Z) O)
  (hd:Nat.blt e N=true):bo C N ops (⟨some e,op,ty,pos,after,some (j,true)⟩::rest) Q Z O:=bo.bz hj ht h1 h2 hd
theorem bo.Ex {j d e:Nat} {want:Bool} {op:Op} {ty:TypeId} {pos:String} {after:Array Edge} (hj:(ops[j]?).bind (·.dst)=some d) (ht:look Z d=some (.v undef))
  (h2:bo C N ops rest Q ((e,.v undef)::Z) O) (hd:Nat.blt e N=true):bo C N ops (⟨some e,op,ty,pos,after,some (j,want)⟩::rest) Q Z O:=λF w0 η0 a w hs hx=>by
 obtain⟨hlt,hv⟩:=hs.sg.2 d _ ht;simp only[Rel]at hv;have hy:yielded ops a.tmps j=none:=by
  have:a.tmps[d]? =some undef:=by
   rw[Cd]at hv;rw[<-hs.sg.1]at hlt;simp[hlt]at hv⊢;exact hv
  simp[yielded,hj,this,undef]
 unfold wpList;rw[cM (by simp[Region.wanted,hy])];exact h2 F w0 η0 _ w (St.put (dst:=some e) hs (Ext.refl O w) hs.hp hd (by simp only[Rel])) hx
inductive AR where
 |ret (x:AV)
 |aO (x:AV)
def AR.rel (w:World) (A:Nat->Prop):AR->Ending->Prop
 | .ret x,e=>∃v,e= .returned v/\Rel w A x v
 | .aO x,e=>∃v,e= .panicked [{v,recovered:=false}]/\Rel w A x v
def Dm (P:Program) (g:FuncId):Prop:=∃fn,P.funcs[g]? =some fn/\fn.body.isNone=false/\(fn.name== "runtime.NumGoroutine")=false
def iX (C:Cx) (f:FuncId) (args:List AV) (O:List aq) (Q:AR->List aq->Prop):Prop:=
 Dm C.P f/\∀F w vs,bD C.G w F O->aJ w (Al F O) args vs->
  Calls C.P f vs.toArray w λe w'=>∃r O',Q r O'/\AR.rel w' (Al F O') r e/\bD C.G w' F O'/\Ext O w O' w'
def Pure (C:Cx) (f:FuncId) (args:List AV) (res:AR):Prop:=iX C f args [] λr O'=>r=res/\O'=[]
theorem iX.mono {f:FuncId} {args:List AV} {Q Q':AR->List aq->Prop} (h:iX C f args O Q) (hq:∀r O',Q r O'->Q' r O'):iX C f args O Q':=
 ⟨h.1,λF w vs h1 h2=>(h.2 F w vs h1 h2).mono λ_ _ ⟨r,O',hQ,rest⟩=>⟨r,O',hq _ _ hQ,rest⟩⟩
def callee (Z:Sl) (f:Operand) (args:List Operand):Option (FuncId×List AV):=
 match ev Z f,iM Z args with
 |some (.v (.func (.func g) fa cs)),some xs=>some (g,fa.toList.map .v++xs++cs.toList.map .v)
 |some (.fn g fs cs),some xs=>some (g,fs++xs++cs)
 |_,_=>none
theorem sr {P:Program} {w:World} {A:Nat->Prop} {a:Act} {s:Sl} (hs:eY w A N a s) {f:Operand} {args:List Operand} {g:FuncId} {xs:List AV} (h:callee s f args=some (g,xs))
  {tys:Array TypeId} {dst:Option Nat} {ty:TypeId} {pos:String} {after:Array Edge} {gd:Option (Nat×Bool)} (hb:Dm P g):
  ∃vs:List Value,aJ w A xs vs/\∀w',(execOp a.eval ⟨dst,.call {callee:= .value f,args:=args.toArray,argTypes:=tys},ty,pos,after,gd⟩).run P w'= .ok (.enter g vs.toArray) w':=by
 obtain⟨fn,hf,hbody,hname⟩:=hb;have hcf:∀(ws:Array Value) (w':World),(callFunc g ws).run P w'= .ok (.enter g ws) w':=by
  intro ws w';simp only[callFunc,Sem.run_bind,run_program,Result.andThen_ok,hf,hname,hbody,ju,if_false,Sem.run_pure]
 unfold callee at h;split at h
 ·rename_i g' fa cs ys h1 h2;simp only[aE,cu]at h;obtain⟨rfl,rfl⟩:=h;have h3:=bA hs h1;simp only[Rel]at h3;have h4:=vO hs h2;refine⟨fa.toList++args.map a.eval++cs.toList,((mD _).append h4).append (mD _),λw'=>?_⟩;have:(fa++(args.map a.eval).toArray++cs)=(fa.toList++args.map a.eval++cs.toList).toArray:=by apply iP;simp
  simp[execOp,resolve,h3,Deferred.ofValue,invoke];rw[<-hcf];congr 2;apply iP;simp
 ·rename_i g' fs cs ys h1 h2;simp only[aE,cu]at h;obtain⟨rfl,rfl⟩:=h;have h3:=bA hs h1;simp only[Rel]at h3;obtain⟨us,ws,h3,h5',h5⟩:=h3;have h4:=vO hs h2;refine⟨us++args.map a.eval++ws,(h5'.append h4).append h5,λw'=>?_⟩;simp[execOp,resolve,h3,Deferred.ofValue,invoke,hcf]
  done
 ·cases h
theorem Pure.run {g:FuncId} {xs:List AV} {res:AR} (h:Pure C g xs res) {F:Nat->Prop} {w:World} {vs:List Value} (hh:bD C.G w F O) (hr:aJ w (Al F O) xs vs):
  Calls C.P g vs.toArray w λe w'=>AR.rel w' (Al F O) res e/\bD C.G w' F O/\Ext O w O w'/\∀b,b<w.heap.size->w'.heap[b]? =w.heap[b]? :=by
 have hA':Al (λb=>F b\/b∈ids O) []=Al F O:=funext λb=>propext (by simp[Al,ids]);have hH:bD C.G w (λb=>F b\/b∈ids O) []:=⟨by simp,by simp[ids],by simp[ids],λb hb=>hb.elim (hh.bound b) (hh.lt b),by rw[hA'];exact hh.dZ⟩;refine(h.2 _ w vs hH (by rw[hA'];exact hr)).mono ?_;rintro e w' ⟨r,O',⟨rfl,rfl⟩,hv,_,he⟩;rw[hA']at hv;have hext:Ext O w O w':=⟨he.os,he.tape,he.output,he.size,λb hb hn=>he.block b hb (by simp[ids]),λb hb=> .inl hb,he.drawn⟩;have hsame:∀b,b<w.heap.size->w'.heap[b]? =w.heap[b]? :=λb hb=>he.block b hb (by simp[ids]);exact⟨hv,⟨λx hx=>(hh.eD x hx).keep hext.keeps (λb hb=>hsame b ((hh.eD x hx).lt b hb)),hh.nodup,hh.free,λb hb=>nM (hh.bound b hb) he.size,hh.dZ.keep hext.keeps⟩,hext,hsame⟩
theorem bo.pure {f:Operand} {args:List Operand} {g:FuncId} {xs:List AV} {res:AV} {tys:Array TypeId} {dst:Option Nat} {ty:TypeId} {pos:String} {after:Array Edge}
  (h:Pure C g xs (.ret res)) (hc:callee (look Z) f args=some (g,xs)) (hd:ck N dst=true) (k:bo C N ops rest Q (lk dst res Z) O):
  bo C N ops (⟨dst,.call {callee:= .value f,args:=args.toArray,argTypes:=tys},ty,pos,after,none⟩::rest) Q Z O:=λF w0 η0 a w hs hx=>wpList_plain rfl λK hK=>by
 obtain⟨vs,h1,h2⟩:=sr (P:=C.P) hs.sg hc (tys:=tys) (dst:=dst) (ty:=ty) (pos:=pos) (after:=after) (gd:=none) h.1;unfold Oper.wp;rw[h2 w,Oper.upon_enter];refine(h.run hs.hp h1).mono ?_;rintro e w' ⟨⟨v,rfl,hv⟩,hh,hext,_⟩;exact hK _ _ (k F w0 η0 _ w' (hs.put hext hh hd hv) (hx.trans hext))
def pW:Nat->List AV->Sg
 |_,[]=>[]
 |n,x::xs=>(n,x)::pW (n+1) xs
theorem Lc:∀{xs:List AV} {n t:Nat} {x:AV},look (pW n xs) t=some x->n<=t/\xs[t-n]? =some x
 |[],n,t,x,h=>by simp[pW,look]at h
 |y::ys,n,t,x,h=>by
  simp only[pW,look]at h;cases hb:Nat.beq n t with
  |true=>
   rw[hb]at h;simp only[aE]at h;subst h;have:=bE hb;subst this;simp
  |false=>
   rw[hb]at h;obtain⟨h1,h2⟩:=Lc h;refine⟨by omega,?_⟩;rw[show t-n=(t-(n+1))+1 by omega];simpa using h2
theorem aJ.get {w:World} {A:Nat->Prop}:∀{xs:List AV} {vs:List Value} {n:Nat} {x:AV},aJ w A xs vs->xs[n]? =some x->∃v,vs[n]? =some v/\Rel w A x v:=
 λh hx=>h.nth (by rw[cq];exact hx)
inductive pM (T:bX) (Z:Sg) (O:List aq):ResultVar->AV->Prop where
 |tmp {t:Nat} {x:AV}:look Z t=some x->pM T Z O (.tmp t) x
 |P0 {a t:Nat} {cs:List AV} {d:TD} {k b:Nat} {z:List Value}:look Z a=some (.ip cs)->a7 T t=some ⟨d,k,b,z⟩->d.agg=true->fits cs k=true->pM T Z O (.cell a t) (.agg (cs.take k))
 |PZ {tg i a t bk:Nat} {cs:List AV} {d:TD} {k b:Nat} {z:List Value}:look Z a=some (.own tg bk 0)->nth O i=some (.box bk cs)->a7 T t=some ⟨d,k,b,z⟩->d.agg=true->fits cs k=true->
   pM T Z O (.cell a t) (.agg (cs.take k))
 |O6 {tg i a t bk:Nat} {c:AV} {cs:List AV} {d:TD} {k b:Nat} {z:List Value}:look Z a=some (.own tg bk 0)->nth O i=some (.box bk (c::cs))->a7 T t=some ⟨d,k,b,z⟩->d.agg=false->
   pM T Z O (.cell a t) c
def pK (a:Act):ResultVar->Sem Value
 | .tmp t=>pure (a.tmps.getD t undef)
 | .cell p t=>do loadVar t (<-asAddr (a.tmps.getD p undef))
theorem VG {fn:Func} {rs:List ResultVar} (h:fn.results=rs.toArray) (a:Act):
  results fn a.tmps=(do let vs <-rs.toArray.mapM (pK a);pure (if h:vs.size=1 then vs[0]else .tuple vs)):=by
 unfold results;rw[h];have hf:∀(f g:ResultVar->Sem Value),(∀r,f r=g r)->rs.toArray.mapM f=rs.toArray.mapM g:=λf g hfg=>by rw[funext hfg]
 rw[hf _ (pK a) (λr=>by cases r<;>rfl)]
theorem gG {G:Gl} {w:World} {F:Nat->Prop} (h:bD G w F O) {i:Nat} {x:aq} (hi:nth O i=some x):x.ok w (Al F O):=
 h.eD x (bw (by rw[<-cq];exact hi))
theorem pM.run {E:Env} {G:Gl} {w:World} {F:Nat->Prop} {a:Act} (hs:St G N w F a Z O) {r:ResultVar} {x:AV} (h:pM E.T Z O r x):
  ∃v,Rel w (Al F O) x v/\(pK a r).run E.P w= .ok v w:=by
 cases h with
 |tmp h=>exact⟨_,(hs.sg.2 _ _ h).2,rfl⟩
 |P0 h ht hg hf=>
  rename_i p t cs d k b z;have h1:=(hs.sg.2 _ _ h).2;simp only[Rel]at h1;obtain⟨b',o',vs,e1,e2,e3,e4⟩:=h1;refine⟨.agg (vs.take k).toArray,by simp only[Rel];exact⟨_,rfl,e3.take k⟩,?_⟩;have:=mB (P:=E.P) (v0:=undef) (E.tok _ _ ht) (b:=b') (o:=o') (vs:=vs.take k) (w':=w)
   (λj u hj=>e4 j u (by rw[jq]at hj;split at hj;exact hj;cases hj)) (λ_=>e3.vm k hf) (λhg'=>by simp only at hg';rw[hg]at hg';cases hg')
  simp only at this;simp[pK,e1,asAddr,this,hg]
 |PZ h hi ht hg hf=>
  rename_i i p t bk cs d k b z;have h1:=(hs.sg.2 _ _ h).2;simp only[Rel]at h1;obtain⟨e,vs,e3,e4⟩:=gG hs.hp hi;refine⟨.agg (vs.take k).toArray,by simp only[Rel];exact⟨_,rfl,e4.take k⟩,?_⟩;have:=mB (P:=E.P) (v0:=undef) (E.tok _ _ ht) (b:=bk) (o:=0) (vs:=vs.take k) (w':=w)
   (λj u hj=>by
    have hj':vs[j]? =some u:=by rw[jq]at hj;split at hj;exact hj;cases hj
    simp[World.cell?,e3,hj']) (λ_=>e4.vm k hf) (λhg'=>by simp only at hg';rw[hg]at hg';cases hg')
  simp only at this;simp[pK,h1,asAddr,this,hg]
 |O6 h hi ht hg=>
  rename_i i p t bk cs d k b z;have h1:=(hs.sg.2 _ _ h).2;simp only[Rel]at h1;obtain⟨e,vs,e3,e4⟩:=gG hs.hp hi;simp only[aJ]at e4;obtain⟨v,r,rfl,e5,_⟩:=e4;refine⟨v,e5,?_⟩;have:=mB (P:=E.P) (v0:=v) (E.tok _ _ ht) (b:=bk) (o:=0) (vs:=v::r) (w':=w)
   (λj u hj=>by simp[World.cell?,e3,hj]) (λhg'=>by simp only at hg';rw[hg]at hg';cases hg') (λ_=>rfl)
  simp only at this;simp[pK,h1,asAddr,this,hg]
def wE:List AV->AV
 |[x]=>x
 |xs=> .bN xs
inductive uG (T:bX) (Z:Sg) (O:List aq):List ResultVar->List AV->Prop where
 |nil:uG T Z O [] []
 |cons {r:ResultVar} {x:AV} {rs:List ResultVar} {xs:List AV}:pM T Z O r x->uG T Z O rs xs->uG T Z O (r::rs) (x::xs)
theorem LZ {E:Env} {G:Gl} {w:World} {F:Nat->Prop} {a:Act} (hs:St G N w F a Z O):∀{rs:List ResultVar} {xs:List AV},uG E.T Z O rs xs->
  ∃vs,aJ w (Al F O) xs vs/\(rs.mapM (pK a)).run E.P w= .ok vs w
 |_,_,.nil=>⟨[],by simp[aJ],by simp⟩
 |_,_,.cons h t=>by
  obtain⟨v,h1,h2⟩:=h.run (E:=E) hs;obtain⟨vs,h3,h4⟩:=LZ hs t;exact⟨v::vs,by simp only[aJ];exact⟨v,vs,rfl,h1,h3⟩,by simp only[List.mapM_cons,Sem.run_bind,h2,h4,Result.andThen_ok,Sem.run_pure]⟩
def RQ (T:bX) (rs:List ResultVar) (Q:AR->List aq->Prop) (Z:Sg) (O:List aq):Prop:=
 ∃xs,uG T Z O rs xs/\Q (.ret (wE xs)) O
def BQ (T:bX) (rs:List ResultVar) (Q:AR->List aq->Prop):AQ:=λe Z O=>match e with
 | .aO x=>Q (.aO x) O
 | .exit _=>False
 | .norm=>RQ T rs Q Z O
 | .ret=>RQ T rs Q Z O
theorem iX.enter {E:Env} {f:FuncId} {fn:Func} {c:Code} {args:List AV} {Q:AR->List aq->Prop} (hf:E.P.funcs[f]? =some fn) (hb:fn.body=some c) (hname:(fn.name== "runtime.NumGoroutine")=false)
  (rs:List ResultVar) (hrs:fn.results=rs.toArray) (nt:Nat) (hnt:fn.ntmps=nt) (hn:Nat.ble args.length nt=true) (h:bK E.toCx nt c (BQ E.T rs Q) (pW 0 args) O):iX E.toCx f args O Q:=by
 subst hnt;have hn:=dD hn;refine⟨⟨fn,hf,by simp[hb],hname⟩,λF w vs hH hargs=>?_⟩;refine calls_of_wp hf hb ?_;have hl:=hargs.length;have hsz:(vs.toArray++Array.replicate (fn.ntmps-vs.toArray.size) undef).size=fn.ntmps:=by simp;omega
 refine wp_mono (h F w O {tmps:=vs.toArray++Array.replicate (fn.ntmps-vs.toArray.size) undef,defers:=[]} w ⟨⟨hsz,λt x hx=>?_⟩,hH,rfl⟩ (Ext.refl O w)) ?_
 ·obtain⟨_,h2⟩:=Lc hx;simp only[Ur]at h2;obtain⟨v,h3,h4⟩:=hargs.get h2;have hlt:t<vs.length:=(cr.1 h3).1;refine⟨by omega,?_⟩;have:(vs.toArray++Array.replicate (fn.ntmps-vs.toArray.size) undef).getD t undef=v:=by
   rw[Cd,Array.getElem?_append_left (by simpa using hlt)];simp[h3]
  rw[this];exact h4
 ·rintro e a' w' ⟨e0,σ1,O',hQ,hr,hs,hx⟩;obtain⟨σ',hσ⟩:∃σ',σ'=e0.sl σ1:=⟨_,rfl⟩;rw[<-hσ]at hQ hs;have key:∀{v:Value} {x:AV},(results fn a'.tmps).run E.P w'= .ok v w'->Rel w' (Al F O') x v->Q (.ret x) O'->
    a'.defers=[]/\∃v,(results fn a'.tmps).run E.P w'= .ok v w'/\∃r O',Q r O'/\AR.rel w' (Al F O') r (.returned v)/\bD E.G w' F O'/\Ext O w O' w':=
   λh1 h2 h3=>⟨hs.df,_,h1,_,_,h3,⟨_,rfl,h2⟩,hs.hp,hx⟩
  have main:RQ E.T rs Q σ' O'->a'.defers=[]/\∃v,(results fn a'.tmps).run E.P w'= .ok v w'/\∃r O',Q r O'/\AR.rel w' (Al F O') r (.returned v)/\bD E.G w' F O'/\Ext O w O' w':=by
   intro hB;have hmap:∀vs:List Value,(rs.mapM (pK a')).run E.P w'= .ok vs w'->(results fn a'.tmps).run E.P w'= .ok (if h:vs.toArray.size=1 then vs.toArray[0]else .tuple vs.toArray) w':=by
    intro vs hv;rw[VG hrs a',adr];simp only[Sem.run_bind,Sem.run_map];rw[hv];simp
   obtain⟨xs,h1,h2⟩:=hB;obtain⟨us,h3,h4⟩:=LZ (E:=E) hs h1;refine key (hmap us h4) ?_ h2
   match xs,us,h3 with
   |[],us,h3=>simp only[aJ]at h3;subst h3;simp[wE,Rel,aJ]
   |[x],us,h3=>simp only[aJ]at h3;obtain⟨v,r,rfl,h5,rfl⟩:=h3;simpa[wE]using h5
   |x::y::r,us,h3=>
    have hn:¬us.toArray.size=1:=by have:=h3.length;simp at this⊢;omega
    rw[dif_neg hn];simp only[wE,Rel];exact⟨us,rfl,h3⟩
  cases e0 with
  |norm=>simp only[AE.rel]at hr;subst hr;exact main hQ
  |ret=>simp only[AE.rel]at hr;subst hr;exact main hQ
  |exit i=>exact hQ.elim
  |aO x=>obtain⟨v,rfl,hv⟩:=hr;exact⟨hs.df,.aO x,O',hQ,⟨v,rfl,hv⟩,hs.hp,hx⟩
theorem bD.none {G:Gl} {w:World} {F:Nat->Prop} {O:List aq} (h:bD G w F O):bD G w F []:=
 ⟨by simp,by simp[ids],by simp[ids],h.bound,h.dZ.keep ⟨bQ _,λb _ hb=>⟨⟨hb.1,by simp[ids]⟩,rfl⟩⟩⟩
theorem Pure.enter {E:Env} {f:FuncId} {fn:Func} {c:Code} {args:List AV} {res:AR} (hf:E.P.funcs[f]? =some fn) (hb:fn.body=some c) (hname:(fn.name== "runtime.NumGoroutine")=false)
  (rs:List ResultVar) (hrs:fn.results=rs.toArray) (nt:Nat) (hnt:fn.ntmps=nt) (hn:Nat.ble args.length nt=true) (h:bK E.toCx nt c (BQ E.T rs (λr _=>r=res)) (pW 0 args) []):Pure E.toCx f args res:=by
 have:=iX.enter (E:=E) hf hb hname rs hrs nt hnt hn h;refine⟨this.1,λF w vs h1 h2=>(this.2 F w vs h1 h2).mono ?_⟩;rintro e w' ⟨r,O',rfl,hv,hh,hx⟩;have hk:cL w' (Al F O') w' (Al F []):=⟨bQ _,λb _ hb=>⟨⟨hb.1,by simp[ids]⟩,rfl⟩⟩;refine⟨r,[],⟨rfl,rfl⟩,?_,hh.none,⟨hx.os,hx.tape,hx.output,hx.size,hx.block,by simp[ids],hx.drawn⟩⟩;cases r with
 |ret x=>obtain⟨v,e1,hv⟩:=hv;exact⟨v,e1,hv.keep hk⟩
 |aO x=>obtain⟨v,e1,hv⟩:=hv;exact⟨v,e1,hv.keep hk⟩
end
theorem sE {D:Type}:∀{l:List D} {i:Nat} {x:D},nth l i=some x->∃l1 l2,l=l1++x::l2/\∀y,l.set i y=l1++y::l2
 |[],_,_,h=>by simp[nth]at h
 |y::r,0,x,h=>by simp only[nth,aE]at h;subst h;exact⟨[],r,rfl,λ_=>rfl⟩
 |y::r,n+1,x,h=>by
  simp only[nth]at h;obtain⟨l1,l2,rfl,h2⟩:=sE h;exact⟨y::l1,l2,rfl,λz=>by simp[h2 z]⟩
section
variable {N:Nat} {Q:AQ} {Z:Sg} {O:List aq} {ops:Array Oper} {rest:List Oper} {E:Env}
theorem jw (w:World) (ob:Obj) (b:Nat) (hb:b<w.heap.size):(w.alloc ob).heap[b]? =w.heap[b]? :=by
 show(w.heap.push ob)[b]? =_;rw[Array.getElem?_push,cM (by omega)]
theorem kh (w:World) (ob:Obj):(w.alloc ob).heap[w.heap.size]? =some ob:=by
 show(w.heap.push ob)[w.heap.size]? =_;simp
theorem lH (w:World) (ob:Obj) (O:List aq) (x:aq) (hx:∀b∈x.ids,w.heap.size<=b):Ext O w (O++[x]) (w.alloc ob):=
 ⟨rfl,rfl,rfl,by simp,λb hb _=>jw w ob b hb,λb hb=>by
  simp only[cn,cF,cJ]at hb;rcases hb with hb|hb|hb
  ·exact .inl hb
  ·exact .inr (hx b hb)
  ·simp[ids]at hb,.of (bQ _)⟩
theorem KD {C:Cx} {o:Oper} {cells:List AV} (hrun:∀F a w,St C.G N w F a Z O->∃vs e,aJ w (Al F O) cells vs/\(execOp a.eval o).run C.P w= .ok (.value (.pointer (some ⟨w.heap.size,0,none⟩))) (w.alloc (.cells (List.toArray vs) e))):
  rT C N o Z O (λx O'=>∃b,x= .own O.length b 0/\O'=O++[.box b cells]):=λF a w hs=>by
 obtain⟨vs,e,h1,h2⟩:=hrun F a w hs;have hext:=lH w (.cells vs.toArray e) O (.box w.heap.size cells) (by simp[aq.ids]);refine⟨_,_,_,_,⟨w.heap.size,rfl,rfl⟩,h2,by simp only[Rel],?_,hext⟩;refine hs.hp.push (by simp) (λb hb=>jw w _ b hb) (by simp[aq.ids]) (by simp[aq.ids]) ?_;exact⟨e,vs,kh w _,h1.keep hext.keeps⟩
theorem bo.box {d:Nat} {t:TypeId} {x:Operand} {y:AV} {ty:TypeId} {pos:String} {after:Array Edge} (hx:ev (look Z) x=some y) (hd:Nat.blt d N=true)
  (k:∀b,bo E.toCx N ops rest Q ((d,.own O.length b 0)::Z) (O++[.box b (cf y)])):bo E.toCx N ops (⟨some d,.box t x,ty,pos,after,none⟩::rest) Q Z O:=
 bo.p9 rfl hd (KD (cells:=cf y) λF a w hs=>⟨(a.eval x).cells.toList,t,su (bA hs.sg hx),by simp[execOp,Instr.box,newVar,newRow]⟩)
  (λ_ _ ⟨b,h1,h2⟩=>by subst h1;subst h2;exact k b)
theorem bo.alloc {dd:Nat} {t:TypeId} {d:TD} {sz by':Nat} {z:List Value} {ty:TypeId} {pos:String} {after:Array Edge} (ht:a7 E.T t=some ⟨d,sz,by',z⟩) (hd:Nat.blt dd N=true)
  (k:∀b,bo E.toCx N ops rest Q ((dd,.own O.length b 0)::Z) (O++[.box b (z.map .v)])):bo E.toCx N ops (⟨some dd,.alloc t,ty,pos,after,none⟩::rest) Q Z O:=
 bo.p9 rfl hd (KD (cells:=z.map .v) λF a w hs=>by
   obtain⟨_,ti,_,hi,_,_,_,zv,hz1,hz2⟩:=eB (E.tok _ _ ht);have hzc:zv.cells=z.toArray:=by apply iP;simpa using hz2
   refine⟨z,t,mD _,?_⟩;simp[execOp,Instr.alloc,zeroValue,typeInfo,hi,hz1,newVar,newRow,hzc])
  (λ_ _ ⟨b,h1,h2⟩=>by subst h1;subst h2;exact k b)
def iG (T:bX) (t:TypeId) (cs:List AV) (o:Nat):Option AV:=
 match a7 T t with
 |some ⟨d,k,_,_⟩=>match d.agg with
  |true=>match fits (cs.drop o) k with
   |true=>some (.agg ((cs.drop o).take k))
   |false=>none
  |false=>nth cs o
 |none=>none
theorem Wr {w:World} {A:Nat->Prop} {t b o:Nat} {cs:List AV} {vs:List Value} {x:AV} (h:iG E.T t cs o=some x) (hr:aJ w A cs vs):
  ∃v,Rel w A x v/\∀w',(∀j u,vs[j]? =some u->w'.cell? ⟨b,j,none⟩=some u)->(loadVar t ⟨b,o,none⟩).run E.P w'= .ok v w':=by
 unfold iG at h;split at h
 ·rename_i d k by' z ht;have hc':∀w':World,(∀j u,vs[j]? =some u->w'.cell? ⟨b,j,none⟩=some u)->∀j u,(vs.drop o)[j]? =some u->w'.cell? ⟨b,o+j,none⟩=some u:=λw' hc j u hj=>hc _ _ (by rwa[u6]at hj);split at h
  ·rename_i hg;split at h
   ·rename_i hf;simp only[aE]at h;subst h;refine⟨.agg ((vs.drop o).take k).toArray,by simp only[Rel];exact⟨_,rfl,(hr.drop o).take k⟩,λw' hc=>?_⟩;have:=mB (P:=E.P) (v0:=undef) (E.tok _ _ ht) (b:=b) (o:=o) (vs:=(vs.drop o).take k) (w':=w')
     (λj u hj=>hc' w' hc j u (by rw[jq]at hj;split at hj;exact hj;cases hj)) (λ_=>(hr.drop o).vm k hf) (λhg'=>by simp only at hg';rw[hg]at hg';cases hg')
    simpa[hg]using this
   ·cases h
  ·rename_i hg;obtain⟨v,h3,h4⟩:=hr.nth h;refine⟨v,h4,λw' hc=>?_⟩;have:=mB (P:=E.P) (v0:=v) (E.tok _ _ ht) (b:=b) (o:=o) (vs:=vs.drop o) (w':=w') (hc' w' hc) (λhg'=>by simp only at hg';rw[hg]at hg';cases hg') (λ_=>by rw[u6];simpa using h3);simpa[hg]using this
 ·cases h
theorem Xi {w:World} {A:Nat->Prop} {t b s o:Nat} {cs:List AV} {vs:List Value} {x:AV} (h:iG E.T t cs o=some x) (hr:aJ w A cs vs):
  ∃v,Rel w A x v/\∀w':World,(∀j u,vs[j]? =some u->w'.cell? ⟨b,s+j,none⟩=some u)->(loadVar t ⟨b,s+o,none⟩).run E.P w'= .ok v w':=by
 unfold iG at h;split at h
 ·rename_i d k by' z ht;have hc':∀w':World,(∀j u,vs[j]? =some u->w'.cell? ⟨b,s+j,none⟩=some u)->∀j u,(vs.drop o)[j]? =some u->w'.cell? ⟨b,s+o+j,none⟩=some u:=λw' hc j u hj=>by
   rw[Cc];exact hc _ _ (by rwa[u6]at hj)
  split at h
  ·rename_i hg;split at h
   ·rename_i hf;simp only[aE]at h;subst h;refine⟨.agg ((vs.drop o).take k).toArray,by simp only[Rel];exact⟨_,rfl,(hr.drop o).take k⟩,λw' hc=>?_⟩;have:=mB (P:=E.P) (v0:=undef) (E.tok _ _ ht) (b:=b) (o:=s+o) (vs:=(vs.drop o).take k) (w':=w')
     (λj u hj=>hc' w' hc j u (by rw[jq]at hj;split at hj;exact hj;cases hj)) (λ_=>(hr.drop o).vm k hf) (λhg'=>by simp only at hg';rw[hg]at hg';cases hg')
    simpa[hg]using this
   ·cases h
  ·rename_i hg;obtain⟨v,h3,h4⟩:=hr.nth h;refine⟨v,h4,λw' hc=>?_⟩;have:=mB (P:=E.P) (v0:=v) (E.tok _ _ ht) (b:=b) (o:=s+o) (vs:=vs.drop o) (w':=w') (hc' w' hc) (λhg'=>by simp only at hg';rw[hg]at hg';cases hg') (λ_=>by rw[u6];simpa using h3);simpa[hg]using this
 ·cases h
theorem sa {w:World} {b:Nat} {vs:List Value} {e:TypeId} {fz:Nat×Nat} (h:w.heap[b]? =some (.cells vs.toArray e fz)) (j:Nat) (u:Value) (hj:vs[j]? =some u):w.cell? ⟨b,j,none⟩=some u:=by
 simp[World.cell?,h,hj]
theorem LR {tg:Nat} {o:Oper} {t:TypeId} {p:Operand} (ho:o.op= .load t p) {i b off:Nat} {cs:List AV} {x:AV} (hp:ev (look Z) p=some (.own tg b off)) (hi:nth O i=some (.box b cs)) (hl:iG E.T t cs off=some x):
  oL E.toCx N o Z O x:=λF a w hs=>by
 have h1:=bA hs.sg hp;simp only[Rel]at h1;obtain⟨e,vs,h2,h3⟩:=gG hs.hp hi;have hb:b<w.heap.size:=(jo.1 h2).1;obtain⟨v,h4,h6⟩:=Wr (b:=b) hl h3;have h5:=λw' (hw':ky w w')=>h6 w' (sa ((hw'.2 b hb).trans h2));exact⟨v,h4,λw' hw'=>by simp[execOp,ho,h1,Instr.loadAt,Instr.sureAddr,h5 w' hw']⟩
theorem bo.load {tg:Nat} {i d:Nat} {t:TypeId} {p:Operand} {ty:TypeId} {pos:String} {after:Array Edge} {b off:Nat} {cs:List AV} {x:AV} (hp:ev (look Z) p=some (.own tg b off)) (hi:nth O i=some (.box b cs))
  (hl:iG E.T t cs off=some x) (hn:Nat.blt d N=true) (k:bo E.toCx N ops rest Q ((d,x)::Z) O):bo E.toCx N ops (⟨some d,.load t p,ty,pos,after,none⟩::rest) Q Z O:=
 bo.Ja rfl rfl hn (LR rfl hp hi hl) k
def eK:List AV->Bool
 |[]=>true
 | .agg _::_=>false
 | .bN _::_=>false
 | .v x::r=>x.oneCell'&&eK r
 |_::r=>eK r
theorem zf {w:World} {A:Nat->Prop}:∀{xs:List AV} {vs:List Value},eK xs=true->aJ w A xs vs->∀u∈vs,u.oneCell'=true
 |[],vs,_,h,u,hu=>by simp only[aJ]at h;subst h;cases hu
 |x::r,vs,ho,h,u,hu=>by
  simp only[aJ]at h;obtain⟨v,r',rfl,h1,h2⟩:=h;have:v.oneCell'=true/\eK r=true:=by
   cases x<;>simp only[eK,bL]at ho<;>simp only[Rel]at h1
   ·subst h1;exact ho
   ·rcases h1 with⟨_,a,c,rfl⟩|⟨b,o,c,ws,rfl,_⟩<;>exact⟨rfl,ho⟩
   ·cases ho
   ·cases ho
   ·obtain⟨b,o,ws,rfl,_⟩:=h1;exact⟨rfl,ho⟩
   ·subst h1;exact⟨rfl,ho⟩
   ·subst h1;exact⟨rfl,ho⟩
   ·obtain⟨b,l,c,_,rfl⟩:=h1;exact⟨rfl,ho⟩
   ·subst h1;exact⟨rfl,ho⟩
   ·obtain⟨us,ws,rfl,_⟩:=h1;exact⟨rfl,ho⟩
   ·obtain⟨y,rfl,_⟩:=h1;exact⟨rfl,ho⟩
  rcases cm.1 hu with rfl|hu
  ·exact this.1
  ·exact zf this.2 h2 u hu
theorem Cm {P:Program} (b:Nat) (e:TypeId):∀(us:List Value) (k o:Nat) (vs:List Value) (w:World),w.heap[b]? =some (.cells vs.toArray e (0,0))->o+k+us.length<=vs.length->(∀u∈us,u.oneCell'=true)->
  ∃w',(storeCells ⟨b,o,none⟩ us k).run P w= .ok () w'/\w'.heap[b]? =some (.cells (cX vs (o+k) us).toArray e (0,0))/\w'.os=w.os/\w'.tape=w.tape/\(w'.output=w.output/\w'.drawn=w.drawn)/\w'.heap.size=w.heap.size/\∀c,c≠b->w'.heap[c]? =w.heap[c]?
 |[],k,o,vs,w,h,_,_=>⟨w,by simp[storeCells],by rw[sv];exact h,rfl,rfl,⟨rfl,rfl⟩,rfl,λ_ _=>rfl⟩
 |u::us,k,o,vs,w,h,hl,h1=>by
  simp only[iN]at hl;have hc:w.cell? ⟨b,o+k,none⟩=some (vs[o+k]'(by omega)):=sa h _ _ (by simp);have hf:w.frozen? ⟨b,o+k,none⟩=false:=by simp[World.frozen?,h]
  have hset:(w.setCell ⟨b,o+k,none⟩ u).heap[b]? =some (.cells (vs.set (o+k) u).toArray e (0,0)):=by
   simp[World.setCell,adh,h]
  obtain⟨w',h2,h3,h4,h5,h6,h7,h8⟩:=Cm (P:=P) b e us (k+1) o (vs.set (o+k) u) (w.setCell ⟨b,o+k,none⟩ u) hset (by simp;omega) (λx hx=>h1 x (by simp[hx]));refine⟨w',?_,?_,h4,h5,h6,by rw[h7];simp,λc hc=>by rw[h8 c hc];exact Go.RowKit.Below.heap_setCell w ⟨b,o+k,none⟩ u c hc⟩
  ·simp only[storeCells,Addr.add_lit,Sem.run_bind,run_store P w _ u .plain (h1 u (by simp)),hc,hf,ju,if_false,Result.andThen_ok,h2]
  ·rw[h3];have key:∀(m:Nat) (xs:List Value),m+us.length+1<=xs.length->cX (xs.set m u) (m+1) us=cX xs m (u::us):=by
    intro m
    induction m with
    |zero=>intro xs hx;cases xs with
     |nil=>simp at hx
     |cons x xs=>cases xs<;>simp[cX,over]
    |succ m ih=>intro xs hx;cases xs with
     |nil=>simp at hx
     |cons x xs=>simp only[qe,cX];rw[ih xs (by simp at hx;omega)]
   rw[<-key (o+k) vs (by omega)];rfl
end
section
variable {N:Nat} {Q:AQ} {Z:Sg} {O:List aq} {ops:Array Oper} {rest:List Oper} {E:Env}
theorem CZ {tg:Nat} {o:Oper} {t:TypeId} {p x:Operand} (ho:o.op= .store t p x) {i b off:Nat} {cs cs':List AV} {y:AV} {ti:TI} (hp:ev (look Z) p=some (.own tg b off)) (hx:ev (look Z) x=some y) (hi:nth O i=some (.box b cs))
  (ht:a7 E.T t=some ti) (hk:Nat.beq (cf y).length ti.size=true) (h1:eK (cf y)=true) (hl:eU cs off (cf y)=some cs'):
  BX E.toCx N o Z O (O.set i (.box b cs')):=λF a w hs=>by
 have hp':=bA hs.sg hp;simp only[Rel]at hp';have hy:=su (bA hs.sg hx);obtain⟨l,r,rfl,hset⟩:=sE hi;rw[hset];obtain⟨e,vs,h2,h3⟩:=hs.hp.eD (.box b cs) (by simp);have hlen:=ve hl;have hyl:=hy.length;obtain⟨w',h4,h5,h6,h7,h8,h9,h10⟩:=Cm (P:=E.P) b e (a.eval x).cells.toList 0 off vs w h2 (by rw[h3.length];omega) (zf h1 hy);have hids:∀c∈aq.ids (.box b cs'),c∈aq.ids (.box b cs)\/w.heap.size<=c:=λc hc=> .inl hc;refine⟨w',?_,?_,?_⟩
 ·have hsz:(a.eval x).cells.size=ti.size:=by
   have:=bE hk;rw[<-hyl]at this;simpa using this
  simp[execOp,ho,hp',Instr.storeAt,Instr.sureAddr,storeVar,Dl (E.tok _ _ ht),hsz,h4]
 ·refine hs.hp.rU (by omega) (λc _ hc=>h10 c (by simpa[aq.ids]using hc)) hids (by simp[aq.ids]) ?_;refine⟨e,cX vs off (a.eval x).cells.toList,by simpa using h5,vf hl (h3.keep ?_) (hy.keep ?_)⟩
  all_goals
   refine⟨by omega,λc hc ha=>⟨?_,h10 c λhcb=>ha.2 (by rw[hcb];simp[cn,cF,aq.ids])⟩⟩;simpa[Al,cn,cF,aq.ids]using ha
 ·refine⟨h6,h7,h8.1,by omega,λc _ hc=>h10 c λhcb=>hc (by rw[hcb];simp[cn,cF,aq.ids]),λc hc=> .inl ?_,.of (Nat.le_of_eq h8.2.symm)⟩;simpa[cn,cF,aq.ids]using hc
theorem bo.store {tg:Nat} {t:TypeId} {p x:Operand} {ty:TypeId} {pos:String} {after:Array Edge} {i b off:Nat} {cs cs':List AV} {y:AV} {ti:TI} (hp:ev (look Z) p=some (.own tg b off)) (hx:ev (look Z) x=some y) (hi:nth O i=some (.box b cs))
  (ht:a7 E.T t=some ti) (hk:Nat.beq (cf y).length ti.size=true) (h1:eK (cf y)=true) (hl:eU cs off (cf y)=some cs') (k:bo E.toCx N ops rest Q Z (O.set i (.box b cs'))):
  bo E.toCx N ops (⟨none,.store t p x,ty,pos,after,none⟩::rest) Q Z O:=
 bo.I9 rfl rfl (CZ rfl hp hx hi ht hk h1 hl) k
theorem lJ {P:Program} {t e k:Nat} {i:TI} (h:ly P t i=true) (hd:i.d= .slice e k):P.underlying t=some (.slice e)/\k=gI P e/\hasB P e=true:=by
 obtain⟨u,ti,hu,_,hd',_⟩:=eB h;rw[hd]at hd';cases u<;>simp only[gl,ju,bL,beq_iff_eq]at hd';obtain⟨⟨rfl,h2⟩,h3⟩:=hd';exact⟨hu,h2,h3⟩
theorem bu.get {w:World} {A:Nat->Prop} {k:Nat}:∀{rows:List (List AV)} {vs:List Value} {j:Nat} {r:List AV},bu w A k rows vs->rows[j]? =some r->
  r.length=k/\∃us,aJ w A r us/\∀i u,us[i]? =some u->vs[j*k+i]? =some u
 |[],_,_,_,_,h=>by simp at h
 |q::rs,vs,0,r,hr,h=>by
  simp only[bu]at hr;obtain⟨v1,v2,rfl,hk,h1,_⟩:=hr;simp at h;subst h;refine⟨hk,v1,h1,λi u hi=>?_⟩;have:i<v1.length:=(cr.1 hi).1;rw[Uw,oS,rY this];exact hi
 |q::rs,vs,j+1,r,hr,h=>by
  simp only[bu]at hr;obtain⟨v1,v2,rfl,hk,h1,h2⟩:=hr;simp at h;obtain⟨h3,us,h4,h5⟩:=bu.get h2 h;refine⟨h3,us,h4,λi u hi=>?_⟩;have hl:v1.length=k:=by rw[h1.length,hk]
  have:=h5 i u hi;rw[B' (by rw[hl,jY];omega),hl];rw[show(j+1)*k+i-k=j*k+i by rw[jY];omega];exact this
def rF (T:bX) (t:TypeId):AV->Option Int
 | .sl _ rows=>match a7 T t with
  |some ⟨.slice _ _,_,_,_⟩=>some (rows.length:Int)
  |_=>none
 | .v (.slice _ n _)=>match a7 T t with
  |some ⟨.slice _ _,_,_,_⟩=>some (n:Int)
  |_=>none
 | .os _ _ n _=>match a7 T t with
  |some ⟨.slice _ _,_,_,_⟩=>some (n:Int)
  |_=>none
 | .v (.string s)=>match a7 T t with
  |some ⟨.str,_,_,_⟩=>some (s.size:Int)
  |_=>none
 |_=>none
theorem Nj {o:Oper} {t:TypeId} {x:Operand} (ho:o.op= .call {callee:= .builtin .len,args:= #[x],argTypes:= #[t]}) {y:AV} {n:Int} (hx:ev (look Z) x=some y) (hl:rF E.T t y=some n):
  oL E.toCx N o Z O (.v (.int .i64 n)):=λF a w hs=>by
 have h1:=bA hs.sg hx;refine⟨.int .i64 n,by simp only[Rel],λw' _=>?_⟩;unfold rF at hl;split at hl
 ·split at hl
  ·rename_i ht;obtain⟨hu,_,_⟩:=lJ (E.tok _ _ ht) rfl;simp only[aE]at hl;subst hl;simp only[Rel]at h1;rcases h1 with⟨rfl,a',cap,e1⟩|⟨b,off,cap,vs,e1,_⟩
   ·simp[execOp,ho,resolve,invoke,builtin,e1,Builtin.len_,run_underlying hu,goInt]
   ·simp[execOp,ho,resolve,invoke,builtin,e1,Builtin.len_,run_underlying hu,goInt]
  ·cases hl
 ·split at hl
  ·rename_i ht;obtain⟨hu,_,_⟩:=lJ (E.tok _ _ ht) rfl;simp only[aE]at hl;subst hl;simp only[Rel]at h1;simp[execOp,ho,resolve,invoke,builtin,h1,Builtin.len_,run_underlying hu,goInt]
  ·cases hl
 ·split at hl
  ·rename_i ht;obtain⟨hu,_,_⟩:=lJ (E.tok _ _ ht) rfl;simp only[aE]at hl;subst hl;simp only[Rel]at h1;simp[execOp,ho,resolve,invoke,builtin,h1,Builtin.len_,run_underlying hu,goInt]
  ·cases hl
 ·split at hl
  ·rename_i ht;obtain⟨u,_,hu,_,hd,_⟩:=eB (E.tok _ _ ht);simp only[aE]at hl;subst hl;simp only[Rel]at h1;cases u<;>simp[gl]at hd;simp[execOp,ho,resolve,invoke,builtin,h1,Builtin.len_,run_underlying hu,goInt]
  ·cases hl
 ·cases hl
theorem bo.len {d:Nat} {t:TypeId} {x:Operand} {ty:TypeId} {pos:String} {after:Array Edge} {y:AV} {n:Int} (hx:ev (look Z) x=some y) (hl:rF E.T t y=some n) (hn:Nat.blt d N=true) (k:bo E.toCx N ops rest Q ((d,.v (.int .i64 n))::Z) O):
  bo E.toCx N ops (⟨some d,.call {callee:= .builtin .len,args:= #[x],argTypes:= #[t]},ty,pos,after,none⟩::rest) Q Z O:=
 bo.Ja rfl rfl hn (Nj rfl hx hl) k
theorem VE {P:Program} {c:Code} {Q:Exit->Act->World->Prop} (I:Nat->Act->World->Prop)
  (round:∀n a w,I n a w->c.wp P (Exit.then (λa' w'=>∃m,m<n/\I m a' w') Q) a w):∀{n:Nat} {a:Act} {w:World},I n a w->(Code.loop c).wp P Q a w:=by
 intro n a w h₀ b k cs;have key:∀n a w,I n a w->∃e a' w',Q e a' w'/\Arrives P (lone (b.at a (.code c:: .inLoop c::k)) cs w) b k cs e a' w':=by
  intro n
  induction n using Nat.strongRecOn with
  |_ n ih=>
   intro a w hI;obtain⟨e,a₁,w₁,hq,harr⟩:=round n a w hI b (.inLoop c::k) cs;cases e with
   |normal=>
    obtain⟨m,hm,hI₁⟩:=hq;obtain⟨e₂,a₂,w₂,hq₂,harr₂⟩:=ih m hm a₁ w₁ hI₁;exact⟨e₂,a₂,w₂,hq₂,.of_steps (Steps.trans harr (.one step_inLoop)) harr₂⟩
   |exit id=>exact⟨_,a₁,w₁,hq,.pass (x:= .inLoop c) rfl (λ_ _=> .inl (by simp)) harr⟩
   |goto l=>exact⟨_,a₁,w₁,hq,.pass (x:= .inLoop c) rfl (λ_ _=> .inl (by simp)) harr⟩
   |ret=>exact⟨_,a₁,w₁,hq,.pass (x:= .inLoop c) rfl (λ_ _=> .inl (by simp)) harr⟩
   |panic ch=>exact⟨_,a₁,w₁,hq,.pass (x:= .inLoop c) rfl (λ_ _=> .inl (by simp)) harr⟩
   |outgrown=>exact⟨_,a₁,w₁,hq,.pass (x:= .inLoop c) rfl (λ_ _=> .inl (by simp)) harr⟩
 obtain⟨e,a',w',hq,harr⟩:=key n a w h₀;exact⟨e,a',w',hq,.of_steps (.one step_loop) harr⟩
theorem bK.loop {C:Cx} {c:Code} (I:Nat->Sg->List aq->Prop) (n:Nat) (h0:I n Z O) (round:∀n Z O,I n Z O->bK C N c (AE.then (λσ' O'=>∃m,m<n/\I m σ' O') Q) Z O):bK C N (.loop c) Q Z O:=
 λF w0 η0 a w hs hx=>by
  refine VE (P:=C.P) (I:=λn a w=>∃Z O,I n Z O/\St C.G N w F a Z O/\Ext η0 w0 O w) ?_ ⟨Z,O,h0,hs,hx⟩;rintro n a w ⟨Z,O,hI,hs,hx⟩;refine wp_mono (round n Z O hI F w0 η0 a w hs hx) ?_;rintro e a' w' ⟨e0,σ',O',h1,h2,h3,h4⟩;cases e0 with
  |norm=>simp only[AE.rel]at h2;subst h2;obtain⟨m,hm,hI'⟩:=h1;exact⟨m,hm,σ',O',hI',h3,h4⟩
  |exit i=>simp only[AE.rel]at h2;subst h2;exact⟨.exit i,σ',O',h1,rfl,h3,h4⟩
  |ret=>simp only[AE.rel]at h2;subst h2;exact⟨.ret,σ',O',h1,rfl,h3,h4⟩
  |aO x=>obtain⟨v,rfl,h2⟩:=h2;exact⟨.aO x,σ',O',h1,⟨v,rfl,h2⟩,h3,h4⟩
