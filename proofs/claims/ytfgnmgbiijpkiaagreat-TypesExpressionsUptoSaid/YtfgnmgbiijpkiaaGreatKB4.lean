/- The program logic, fourth part: a region's operations one by one; calls; loops; entering a function. -/
import Derived.Test.YtfgnmgbiijpkiaaGreatKB3
set_option linter.all false
noncomputable section
namespace Go.Bw
open Go
def bh (C:Cx) (N:Nat) (ops:Array Oper) (rest:List Oper) (Q:AQ) (Z:Sg) (O:List ah):Prop:=
 ∀F w0 O0 a w,St C.G N w F a Z O->Ext O0 w0 O w->wpList C.P ops (CQ C.G N F w0 O0 Q) rest a w
def cj (N:Nat):Option Nat->Bool
 |none=>true
 |some d=>Nat.blt d N
theorem uV {N:Nat} {dst:Option Nat} (h:cj N dst=true):∀d,dst=some d->d<N:=by
 intro d hd;subst hd;simpa[cj,jQ]using h
def oG (C:Cx) (N:Nat) (o:Oper) (Z:Sg) (O:List ah) (R:AV->List ah->Prop):Prop:=
 ∀F a w,St C.G N w F a Z O->∃v w' x η',R x η'/\(execOp a.eval o).run C.P w= .ok (.value v) w'/\Rel w' (Al F η') x v/\bz C.G w' F η'/\Ext O w η' w'
def w6 (C:Cx) (N:Nat) (o:Oper) (Z:Sg) (O η':List ah):Prop:=
 ∀F a w,St C.G N w F a Z O->∃w',(execOp a.eval o).run C.P w= .ok .skip w'/\bz C.G w' F η'/\Ext O w η' w'
section
variable {C:Cx} {N:Nat} {Q:AQ} {Z:Sg} {O:List ah} {ops:Array Oper} {rest:List Oper} {o:Oper}
theorem bD.region {id:Nat} {l:List Oper} (h:bh C N l.toArray l Q Z O):bD C N (.region id l.toArray false) Q Z O:=
 λF w0 O0 a w hs hx=>wp_region_lit (h F w0 O0 a w hs hx)
theorem bh.nil (h:Q .norm Z O):bh C N ops [] Q Z O:=λ_ _ _ _ _ hs hx=>wpList_nil (CQ.intro .norm rfl h hs hx)
theorem bh.id (h:bh C N ops rest Q Z O):bh C N ops rest Q Z O:=h
theorem bD.id {c:Code} (h:bD C N c Q Z O):bD C N c Q Z O:=h
theorem bh.i' {Z':Sg} {η':List ah} (hw:dV C.G N Z O Z' η') (h:bh C N ops rest Q Z' η'):bh C N ops rest Q Z O:=λF w0 O0 a w hs hx=>by
 obtain⟨h1,h2⟩:=hw F w a hs;exact h F w0 O0 a w h1 (hx.trans ⟨rfl,rfl,rfl,bA _,λ_ _ _=>rfl,λb hb=> .inl (h2 b hb),.of (bA _)⟩)
theorem St.put {G:Gl} {w w':World} {F:Nat->Prop} {a:Act} {η':List ah} (hs:St G N w F a Z O) (hx:Ext O w η' w') (hh:bz G w' F η') {dst:Option Nat} (hd:cj N dst=true) {x:AV} {v:Value} (hv:Rel w' (Al F η') x v):
  St G N w' F (a.put dst v) (jB dst x Z) η':=
 ⟨(hs.sg.bm hx.keeps).put dst (uV hd) hv,hh,by cases dst<;>exact hs.df⟩
theorem bh.mO {R:AV->List ah->Prop} (hg:o.guard=none) (hd:cj N o.dst=true) (h:oG C N o Z O R) (k:∀x η',R x η'->bh C N ops rest Q (jB o.dst x Z) η'):
  bh C N ops (o::rest) Q Z O:=λF w0 O0 a w hs hx=>wpList_plain hg λK hK=>by
 obtain⟨v,w',x,η',hR,hr,hv,hh,he⟩:=h F a w hs;unfold Oper.wp;rw[hr,Oper.upon_value];exact hK _ _ (k x η' hR F w0 O0 _ w' (hs.put he hh hd hv) (hx.trans he))
theorem bh.Dz {η':List ah} (hg:o.guard=none) (hd:o.dst=none) (h:w6 C N o Z O η') (k:bh C N ops rest Q Z η'):
  bh C N ops (o::rest) Q Z O:=λF w0 O0 a w hs hx=>wpList_plain hg λK hK=>by
 obtain⟨w',hr,hh,he⟩:=h F a w hs;unfold Oper.wp;rw[hr,Oper.upon_skip,hd];exact hK _ _ (k F w0 O0 _ w' ⟨hs.sg.bm he.keeps,hh,hs.df⟩ (hx.trans he))
def lU (C:Cx) (N:Nat) (o:Oper) (Z:Sg) (O:List ah) (x:AV):Prop:=
 ∀F a w,St C.G N w F a Z O->∃v,Rel w (Al F O) x v/\∀w',iV w w'->(execOp a.eval o).run C.P w'= .ok (.value v) w'
theorem bh.DB {x:AV} {d:Nat} (hg:o.guard=none) (hd:o.dst=some d) (hn:Nat.blt d N=true) (h:lU C N o Z O x) (k:bh C N ops rest Q ((d,x)::Z) O):bh C N ops (o::rest) Q Z O:=
 bh.mO (R:=λy η'=>y=x/\η'=O) hg (by rw[hd];exact hn) (λF a w hs=>by
  obtain⟨v,h1,h2⟩:=h F a w hs;exact⟨v,w,x,O,⟨rfl,rfl⟩,h2 w (iV.refl w),h1,hs.hp,Ext.refl O w⟩) (λy η' ⟨h1,h2⟩=>by subst h1;subst h2;rw[hd];exact k)
theorem IA {E:Env} {x:AV} (h:cw E.T (look Z) o.op=some x):lU E.toCx N o Z O x:=λ_ _ _ hs=>Pq (P:=E.P) E.tok hs.sg h
theorem bh.op {E:Env} {x:AV} {d:Nat} {op:Op} {ty:TypeId} {pos:String} {after:Array Edge} (h:cw E.T (look Z) op=some x) (hn:Nat.blt d N=true) (k:bh E.toCx N ops rest Q ((d,x)::Z) O):
  bh E.toCx N ops (⟨some d,op,ty,pos,after,none⟩::rest) Q Z O:=bh.DB rfl rfl hn (IA h) k
theorem bh.guard {j d:Nat} {want t:Bool} (hg:o.guard=some (j,want)) (hj:(ops[j]?).bind (·.dst)=some d) (ht:look Z d=some (.v (.bool t)))
  (h1:t=want->bh C N ops ({o with guard:=none}::rest) Q ((d,.v (.bool want))::Z) O) (h2:t= !want->bh C N ops rest Q (jB o.dst (.v undef) ((d,.v (.bool !want))::Z)) O)
  (hd:cj N o.dst=true):bh C N ops (o::rest) Q Z O:=λF w0 O0 a w hs hx=>by
 obtain⟨hlt,hv⟩:=hs.sg.2 d _ ht;simp only[Rel]at hv;have hy:yielded ops a.tmps j=some t:=by
  have:a.tmps[d]? =some (.bool t):=by
   rw[xu]at hv;rw[<-hs.sg.1]at hlt;simp[hlt]at hv⊢;exact hv
  simp[yielded,hj,this]
 have hst:∀b,t=b->St C.G N w F a ((d,.v (.bool b))::Z) O:=λb hb=>by
  subst hb;refine⟨⟨hs.sg.1,λs x hx=>?_⟩,hs.hp,hs.df⟩;simp only[look]at hx;cases hb:Nat.beq d s with
  |true=>rw[hb]at hx;simp only[aA]at hx;subst hx;rw[<-bB hb];exact⟨hlt,by simp only[Rel];exact hv⟩
  |false=>rw[hb]at hx;exact hs.sg.2 s x hx
 have hwant:Region.wanted o (yielded ops a.tmps)=(t==want):=by
  simp only[Region.wanted,hg,hy];cases t<;>cases want<;>rfl
 unfold wpList;rw[hwant];by_cases htw:t=want
 ·rw[cZ (by simp[htw])];have:=h1 htw F w0 O0 a w (hst want htw) hx;unfold wpList at this;rw[cZ (by simp[Region.wanted])]at this;exact this
 ·rw[cM (by simp[htw])];have htn:t= !want:=by cases t<;>cases want<;>simp_all
  exact h2 htn F w0 O0 _ w (St.put (hst _ htn) (Ext.refl O w) hs.hp hd (by simp only[Rel])) hx
theorem bh.bG {j d e:Nat} {want t:Bool} {op:Op} {ty:TypeId} {pos:String} {after:Array Edge} (hj:(ops[j]?).bind (·.dst)=some d) (ht:look Z d=some (.v (.bool t)))
  (h1:t=want->bh C N ops (⟨some e,op,ty,pos,after,none⟩::rest) Q ((d,.v (.bool want))::Z) O) (h2:t= !want->bh C N ops rest Q ((e,.v undef)::(d,.v (.bool !want))::Z) O)
  (hd:Nat.blt e N=true):bh C N ops (⟨some e,op,ty,pos,after,some (j,want)⟩::rest) Q Z O:=bh.guard rfl hj ht h1 h2 hd
theorem bh.Ah {j d e:Nat} {want:Bool} {op:Op} {ty:TypeId} {pos:String} {after:Array Edge} (hj:(ops[j]?).bind (·.dst)=some d) (ht:look Z d=some (.v undef))
  (h2:bh C N ops rest Q ((e,.v undef)::Z) O) (hd:Nat.blt e N=true):bh C N ops (⟨some e,op,ty,pos,after,some (j,want)⟩::rest) Q Z O:=λF w0 O0 a w hs hx=>by
 obtain⟨hlt,hv⟩:=hs.sg.2 d _ ht;simp only[Rel]at hv;have hy:yielded ops a.tmps j=none:=by
  have:a.tmps[d]? =some undef:=by
   rw[xu]at hv;rw[<-hs.sg.1]at hlt;simp[hlt]at hv⊢;exact hv
  simp[yielded,hj,this,undef]
 unfold wpList;rw[cM (by simp[Region.wanted,hy])];exact h2 F w0 O0 _ w (St.put (dst:=some e) hs (Ext.refl O w) hs.hp hd (by simp only[Rel])) hx
inductive AR where
 |ret (x:AV)
 |aO (x:AV)
def AR.rel (w:World) (A:Nat->Prop):AR->Ending->Prop
 | .ret x,e=>∃v,e= .returned v/\Rel w A x v
 | .aO x,e=>∃v,e= .panicked [{v,recovered:=false}]/\Rel w A x v
def zc (P:Program) (g:FuncId):Prop:=∃fn,P.funcs[g]? =some fn/\fn.body.isNone=false/\(fn.name== "runtime.NumGoroutine")=false
def gM (C:Cx) (f:FuncId) (args:List AV) (O:List ah) (Q:AR->List ah->Prop):Prop:=
 zc C.P f/\∀F w vs,bz C.G w F O->aF w (Al F O) args vs->
  Calls C.P f vs.toArray w λe w'=>∃r η',Q r η'/\AR.rel w' (Al F η') r e/\bz C.G w' F η'/\Ext O w η' w'
def Pure (C:Cx) (f:FuncId) (args:List AV) (res:AR):Prop:=gM C f args [] λr η'=>r=res/\η'=[]
theorem gM.mono {f:FuncId} {args:List AV} {Q Q':AR->List ah->Prop} (h:gM C f args O Q) (hq:∀r η',Q r η'->Q' r η'):gM C f args O Q':=
 ⟨h.1,λF w vs h1 h2=>(h.2 F w vs h1 h2).mono λ_ _ ⟨r,η',hQ,rest⟩=>⟨r,η',hq _ _ hQ,rest⟩⟩
def callee (Z:Sl) (f:Operand) (args:List Operand):Option (FuncId×List AV):=
 match ev Z f,gF Z args with
 |some (.v (.func (.func g) fa cs)),some xs=>some (g,fa.toList.map .v++xs++cs.toList.map .v)
 |some (.fn g fs cs),some xs=>some (g,fs++xs++cs)
 |_,_=>none
theorem o7 {P:Program} {w:World} {A:Nat->Prop} {a:Act} {s:Sl} (hs:ep w A N a s) {f:Operand} {args:List Operand} {g:FuncId} {xs:List AV} (h:callee s f args=some (g,xs))
  {tys:Array TypeId} {dst:Option Nat} {ty:TypeId} {pos:String} {after:Array Edge} {gd:Option (Nat×Bool)} (hb:zc P g):
  ∃vs:List Value,aF w A xs vs/\∀w',(execOp a.eval ⟨dst,.call {callee:= .value f,args:=args.toArray,argTypes:=tys},ty,pos,after,gd⟩).run P w'= .ok (.enter g vs.toArray) w':=by
 obtain⟨fn,hf,hbody,hname⟩:=hb;have hcf:∀(ws:Array Value) (w':World),(callFunc g ws).run P w'= .ok (.enter g ws) w':=by
  intro ws w';simp only[callFunc,Sem.run_bind,run_program,Result.andThen_ok,hf,hname,hbody,gW,if_false,Sem.run_pure]
 unfold callee at h;split at h
 ·rename_i g' fa cs ys h1 h2;simp only[aA,cv]at h;obtain⟨rfl,rfl⟩:=h;have h3:=bt hs h1;simp only[Rel]at h3;have h4:=rT hs h2;refine⟨fa.toList++args.map a.eval++cs.toList,((kB _).append h4).append (kB _),λw'=>?_⟩;have:(fa++(args.map a.eval).toArray++cs)=(fa.toList++args.map a.eval++cs.toList).toArray:=by apply gI;simp
  simp[execOp,resolve,h3,Deferred.ofValue,invoke];rw[<-hcf];congr 2;apply gI;simp
 ·rename_i g' fs cs ys h1 h2;simp only[aA,cv]at h;obtain⟨rfl,rfl⟩:=h;have h3:=bt hs h1;simp only[Rel]at h3;obtain⟨us,ws,h3,h5',h5⟩:=h3;have h4:=rT hs h2;refine⟨us++args.map a.eval++ws,(h5'.append h4).append h5,λw'=>?_⟩;simp[execOp,resolve,h3,Deferred.ofValue,invoke,hcf]
  done
 ·cases h
theorem Pure.run {g:FuncId} {xs:List AV} {res:AR} (h:Pure C g xs res) {F:Nat->Prop} {w:World} {vs:List Value} (hh:bz C.G w F O) (hr:aF w (Al F O) xs vs):
  Calls C.P g vs.toArray w λe w'=>AR.rel w' (Al F O) res e/\bz C.G w' F O/\Ext O w O w'/\∀b,b<w.heap.size->w'.heap[b]? =w.heap[b]? :=by
 have hA':Al (λb=>F b\/b∈ids O) []=Al F O:=funext λb=>propext (by simp[Al,ids]);have hH:bz C.G w (λb=>F b\/b∈ids O) []:=⟨by simp,by simp[ids],by simp[ids],λb hb=>hb.elim (hh.bound b) (hh.lt b),by rw[hA'];exact hh.dS⟩;refine(h.2 _ w vs hH (by rw[hA'];exact hr)).mono ?_;rintro e w' ⟨r,η',⟨rfl,rfl⟩,hv,_,he⟩;rw[hA']at hv;have hext:Ext O w O w':=⟨he.os,he.tape,he.output,he.size,λb hb hn=>he.block b hb (by simp[ids]),λb hb=> .inl hb,he.drawn⟩;have hsame:∀b,b<w.heap.size->w'.heap[b]? =w.heap[b]? :=λb hb=>he.block b hb (by simp[ids]);exact⟨hv,⟨λx hx=>(hh.ea x hx).bm hext.keeps (λb hb=>hsame b ((hh.ea x hx).lt b hb)),hh.nodup,hh.free,λb hb=>lZ (hh.bound b hb) he.size,hh.dS.bm hext.keeps⟩,hext,hsame⟩
theorem bh.pure {f:Operand} {args:List Operand} {g:FuncId} {xs:List AV} {res:AV} {tys:Array TypeId} {dst:Option Nat} {ty:TypeId} {pos:String} {after:Array Edge}
  (h:Pure C g xs (.ret res)) (hc:callee (look Z) f args=some (g,xs)) (hd:cj N dst=true) (k:bh C N ops rest Q (jB dst res Z) O):
  bh C N ops (⟨dst,.call {callee:= .value f,args:=args.toArray,argTypes:=tys},ty,pos,after,none⟩::rest) Q Z O:=λF w0 O0 a w hs hx=>wpList_plain rfl λK hK=>by
 obtain⟨vs,h1,h2⟩:=o7 (P:=C.P) hs.sg hc (tys:=tys) (dst:=dst) (ty:=ty) (pos:=pos) (after:=after) (gd:=none) h.1;unfold Oper.wp;rw[h2 w,Oper.upon_enter];refine(h.run hs.hp h1).mono ?_;rintro e w' ⟨⟨v,rfl,hv⟩,hh,hext,_⟩;exact hK _ _ (k F w0 O0 _ w' (hs.put hext hh hd hv) (hx.trans hext))
def mH:Nat->List AV->Sg
 |_,[]=>[]
 |n,x::xs=>(n,x)::mH (n+1) xs
theorem Fm:∀{xs:List AV} {n t:Nat} {x:AV},look (mH n xs) t=some x->n<=t/\xs[t-n]? =some x
 |[],n,t,x,h=>by simp[mH,look]at h
 |y::ys,n,t,x,h=>by
  simp only[mH,look]at h;cases hb:Nat.beq n t with
  |true=>
   rw[hb]at h;simp only[aA]at h;subst h;have:=bB hb;subst this;simp
  |false=>
   rw[hb]at h;obtain⟨h1,h2⟩:=Fm h;refine⟨by omega,?_⟩;rw[show t-n=(t-(n+1))+1 by omega];simpa using h2
theorem aF.get {w:World} {A:Nat->Prop}:∀{xs:List AV} {vs:List Value} {n:Nat} {x:AV},aF w A xs vs->xs[n]? =some x->∃v,vs[n]? =some v/\Rel w A x v:=
 λh hx=>h.nth (by rw[ck];exact hx)
inductive my (T:bO) (Z:Sg) (O:List ah):ResultVar->AV->Prop where
 |tmp {t:Nat} {x:AV}:look Z t=some x->my T Z O (.tmp t) x
 |Jm {a t:Nat} {cs:List AV} {d:TD} {k b:Nat} {z:List Value}:look Z a=some (.ip cs)->aX T t=some ⟨d,k,b,z⟩->d.agg=true->fits cs k=true->my T Z O (.cell a t) (.agg (cs.take k))
 |Jl {tg i a t bk:Nat} {cs:List AV} {d:TD} {k b:Nat} {z:List Value}:look Z a=some (.own tg bk 0)->nth O i=some (.box bk cs)->aX T t=some ⟨d,k,b,z⟩->d.agg=true->fits cs k=true->
   my T Z O (.cell a t) (.agg (cs.take k))
 |Iz {tg i a t bk:Nat} {c:AV} {cs:List AV} {d:TD} {k b:Nat} {z:List Value}:look Z a=some (.own tg bk 0)->nth O i=some (.box bk (c::cs))->aX T t=some ⟨d,k,b,z⟩->d.agg=false->
   my T Z O (.cell a t) c
def mw (a:Act):ResultVar->Sem Value
 | .tmp t=>pure (a.tmps.getD t undef)
 | .cell p t=>do loadVar t (<-asAddr (a.tmps.getD p undef))
theorem Nt {fn:Func} {rs:List ResultVar} (h:fn.results=rs.toArray) (a:Act):
  results fn a.tmps=(do let vs <-rs.toArray.mapM (mw a);pure (if h:vs.size=1 then vs[0]else .tuple vs)):=by
 unfold results;rw[h];have hf:∀(f g:ResultVar->Sem Value),(∀r,f r=g r)->rs.toArray.mapM f=rs.toArray.mapM g:=λf g hfg=>by rw[funext hfg]
 rw[hf _ (mw a) (λr=>by cases r<;>rfl)]
theorem fV {G:Gl} {w:World} {F:Nat->Prop} (h:bz G w F O) {i:Nat} {x:ah} (hi:nth O i=some x):x.ok w (Al F O):=
 h.ea x (cy (by rw[<-ck];exact hi))
theorem my.run {E:Env} {G:Gl} {w:World} {F:Nat->Prop} {a:Act} (hs:St G N w F a Z O) {r:ResultVar} {x:AV} (h:my E.T Z O r x):
  ∃v,Rel w (Al F O) x v/\(mw a r).run E.P w= .ok v w:=by
 cases h with
 |tmp h=>exact⟨_,(hs.sg.2 _ _ h).2,rfl⟩
 |Jm h ht hg hf=>
  rename_i p t cs d k b z;have h1:=(hs.sg.2 _ _ h).2;simp only[Rel]at h1;obtain⟨b',o',vs,e1,e2,e3,e4⟩:=h1;refine⟨.agg (vs.take k).toArray,by simp only[Rel];exact⟨_,rfl,e3.take k⟩,?_⟩;have:=kz (P:=E.P) (v0:=undef) (E.tok _ _ ht) (b:=b') (o:=o') (vs:=vs.take k) (w':=w)
   (λj u hj=>e4 j u (by rw[jR]at hj;split at hj;exact hj;cases hj)) (λ_=>e3.rF k hf) (λhg'=>by simp only at hg';rw[hg]at hg';cases hg')
  simp only at this;simp[mw,e1,asAddr,this,hg]
 |Jl h hi ht hg hf=>
  rename_i i p t bk cs d k b z;have h1:=(hs.sg.2 _ _ h).2;simp only[Rel]at h1;obtain⟨e,vs,e3,e4⟩:=fV hs.hp hi;refine⟨.agg (vs.take k).toArray,by simp only[Rel];exact⟨_,rfl,e4.take k⟩,?_⟩;have:=kz (P:=E.P) (v0:=undef) (E.tok _ _ ht) (b:=bk) (o:=0) (vs:=vs.take k) (w':=w)
   (λj u hj=>by
    have hj':vs[j]? =some u:=by rw[jR]at hj;split at hj;exact hj;cases hj
    simp[World.cell?,e3,hj']) (λ_=>e4.rF k hf) (λhg'=>by simp only at hg';rw[hg]at hg';cases hg')
  simp only at this;simp[mw,h1,asAddr,this,hg]
 |Iz h hi ht hg=>
  rename_i i p t bk cs d k b z;have h1:=(hs.sg.2 _ _ h).2;simp only[Rel]at h1;obtain⟨e,vs,e3,e4⟩:=fV hs.hp hi;simp only[aF]at e4;obtain⟨v,r,rfl,e5,_⟩:=e4;refine⟨v,e5,?_⟩;have:=kz (P:=E.P) (v0:=v) (E.tok _ _ ht) (b:=bk) (o:=0) (vs:=v::r) (w':=w)
   (λj u hj=>by simp[World.cell?,e3,hj]) (λhg'=>by simp only at hg';rw[hg]at hg';cases hg') (λ_=>rfl)
  simp only at this;simp[mw,h1,asAddr,this,hg]
def sJ:List AV->AV
 |[x]=>x
 |xs=> .bK xs
inductive qJ (T:bO) (Z:Sg) (O:List ah):List ResultVar->List AV->Prop where
 |nil:qJ T Z O [] []
 |cons {r:ResultVar} {x:AV} {rs:List ResultVar} {xs:List AV}:my T Z O r x->qJ T Z O rs xs->qJ T Z O (r::rs) (x::xs)
theorem F2 {E:Env} {G:Gl} {w:World} {F:Nat->Prop} {a:Act} (hs:St G N w F a Z O):∀{rs:List ResultVar} {xs:List AV},qJ E.T Z O rs xs->
  ∃vs,aF w (Al F O) xs vs/\(rs.mapM (mw a)).run E.P w= .ok vs w
 |_,_,.nil=>⟨[],by simp[aF],by simp⟩
 |_,_,.cons h t=>by
  obtain⟨v,h1,h2⟩:=h.run (E:=E) hs;obtain⟨vs,h3,h4⟩:=F2 hs t;exact⟨v::vs,by simp only[aF];exact⟨v,vs,rfl,h1,h3⟩,by simp only[List.mapM_cons,Sem.run_bind,h2,h4,Result.andThen_ok,Sem.run_pure]⟩
def RQ (T:bO) (rs:List ResultVar) (Q:AR->List ah->Prop) (Z:Sg) (O:List ah):Prop:=
 ∃xs,qJ T Z O rs xs/\Q (.ret (sJ xs)) O
def BQ (T:bO) (rs:List ResultVar) (Q:AR->List ah->Prop):AQ:=λe Z O=>match e with
 | .aO x=>Q (.aO x) O
 | .exit _=>False
 | .norm=>RQ T rs Q Z O
 | .ret=>RQ T rs Q Z O
theorem gM.enter {E:Env} {f:FuncId} {fn:Func} {c:Code} {args:List AV} {Q:AR->List ah->Prop} (hf:E.P.funcs[f]? =some fn) (hb:fn.body=some c) (hname:(fn.name== "runtime.NumGoroutine")=false)
  (rs:List ResultVar) (hrs:fn.results=rs.toArray) (nt:Nat) (hnt:fn.ntmps=nt) (hn:Nat.ble args.length nt=true) (h:bD E.toCx nt c (BQ E.T rs Q) (mH 0 args) O):gM E.toCx f args O Q:=by
 subst hnt;have hn:=dw hn;refine⟨⟨fn,hf,by simp[hb],hname⟩,λF w vs hH hargs=>?_⟩;refine calls_of_wp hf hb ?_;have hl:=hargs.length;have hsz:(vs.toArray++Array.replicate (fn.ntmps-vs.toArray.size) undef).size=fn.ntmps:=by simp;omega
 refine wp_mono (h F w O {tmps:=vs.toArray++Array.replicate (fn.ntmps-vs.toArray.size) undef,defers:=[]} w ⟨⟨hsz,λt x hx=>?_⟩,hH,rfl⟩ (Ext.refl O w)) ?_
 ·obtain⟨_,h2⟩:=Fm hx;simp only[Mr]at h2;obtain⟨v,h3,h4⟩:=hargs.get h2;have hlt:t<vs.length:=(c8.1 h3).1;refine⟨by omega,?_⟩;have:(vs.toArray++Array.replicate (fn.ntmps-vs.toArray.size) undef).getD t undef=v:=by
   rw[xu,Array.getElem?_append_left (by simpa using hlt)];simp[h3]
  rw[this];exact h4
 ·rintro e a' w' ⟨e0,Z1,η',hQ,hr,hs,hx⟩;obtain⟨Z',hσ⟩:∃Z',Z'=e0.sl Z1:=⟨_,rfl⟩;rw[<-hσ]at hQ hs;have key:∀{v:Value} {x:AV},(results fn a'.tmps).run E.P w'= .ok v w'->Rel w' (Al F η') x v->Q (.ret x) η'->
    a'.defers=[]/\∃v,(results fn a'.tmps).run E.P w'= .ok v w'/\∃r η',Q r η'/\AR.rel w' (Al F η') r (.returned v)/\bz E.G w' F η'/\Ext O w η' w':=
   λh1 h2 h3=>⟨hs.df,_,h1,_,_,h3,⟨_,rfl,h2⟩,hs.hp,hx⟩
  have main:RQ E.T rs Q Z' η'->a'.defers=[]/\∃v,(results fn a'.tmps).run E.P w'= .ok v w'/\∃r η',Q r η'/\AR.rel w' (Al F η') r (.returned v)/\bz E.G w' F η'/\Ext O w η' w':=by
   intro hB;have hmap:∀vs:List Value,(rs.mapM (mw a')).run E.P w'= .ok vs w'->(results fn a'.tmps).run E.P w'= .ok (if h:vs.toArray.size=1 then vs.toArray[0]else .tuple vs.toArray) w':=by
    intro vs hv;rw[Nt hrs a',Ww];simp only[Sem.run_bind,Sem.run_map];rw[hv];simp
   obtain⟨xs,h1,h2⟩:=hB;obtain⟨us,h3,h4⟩:=F2 (E:=E) hs h1;refine key (hmap us h4) ?_ h2
   match xs,us,h3 with
   |[],us,h3=>simp only[aF]at h3;subst h3;simp[sJ,Rel,aF]
   |[x],us,h3=>simp only[aF]at h3;obtain⟨v,r,rfl,h5,rfl⟩:=h3;simpa[sJ]using h5
   |x::y::r,us,h3=>
    have hn:¬us.toArray.size=1:=by have:=h3.length;simp at this⊢;omega
    rw[dif_neg hn];simp only[sJ,Rel];exact⟨us,rfl,h3⟩
  cases e0 with
  |norm=>simp only[AE.rel]at hr;subst hr;exact main hQ
  |ret=>simp only[AE.rel]at hr;subst hr;exact main hQ
  |exit i=>exact hQ.elim
  |aO x=>obtain⟨v,rfl,hv⟩:=hr;exact⟨hs.df,.aO x,η',hQ,⟨v,rfl,hv⟩,hs.hp,hx⟩
theorem bz.none {G:Gl} {w:World} {F:Nat->Prop} {O:List ah} (h:bz G w F O):bz G w F []:=
 ⟨by simp,by simp[ids],by simp[ids],h.bound,h.dS.bm ⟨bA _,λb _ hb=>⟨⟨hb.1,by simp[ids]⟩,rfl⟩⟩⟩
theorem Pure.enter {E:Env} {f:FuncId} {fn:Func} {c:Code} {args:List AV} {res:AR} (hf:E.P.funcs[f]? =some fn) (hb:fn.body=some c) (hname:(fn.name== "runtime.NumGoroutine")=false)
  (rs:List ResultVar) (hrs:fn.results=rs.toArray) (nt:Nat) (hnt:fn.ntmps=nt) (hn:Nat.ble args.length nt=true) (h:bD E.toCx nt c (BQ E.T rs (λr _=>r=res)) (mH 0 args) []):Pure E.toCx f args res:=by
 have:=gM.enter (E:=E) hf hb hname rs hrs nt hnt hn h;refine⟨this.1,λF w vs h1 h2=>(this.2 F w vs h1 h2).mono ?_⟩;rintro e w' ⟨r,η',rfl,hv,hh,hx⟩;have hk:cK w' (Al F η') w' (Al F []):=⟨bA _,λb _ hb=>⟨⟨hb.1,by simp[ids]⟩,rfl⟩⟩;refine⟨r,[],⟨rfl,rfl⟩,?_,hh.none,⟨hx.os,hx.tape,hx.output,hx.size,hx.block,by simp[ids],hx.drawn⟩⟩;cases r with
 |ret x=>obtain⟨v,e1,hv⟩:=hv;exact⟨v,e1,hv.bm hk⟩
 |aO x=>obtain⟨v,e1,hv⟩:=hv;exact⟨v,e1,hv.bm hk⟩
end
theorem pj {D:Type}:∀{l:List D} {i:Nat} {x:D},nth l i=some x->∃l1 l2,l=l1++x::l2/\∀y,l.set i y=l1++y::l2
 |[],_,_,h=>by simp[nth]at h
 |y::r,0,x,h=>by simp only[nth,aA]at h;subst h;exact⟨[],r,rfl,λ_=>rfl⟩
 |y::r,n+1,x,h=>by
  simp only[nth]at h;obtain⟨l1,l2,rfl,h2⟩:=pj h;exact⟨y::l1,l2,rfl,λz=>by simp[h2 z]⟩
section
variable {N:Nat} {Q:AQ} {Z:Sg} {O:List ah} {ops:Array Oper} {rest:List Oper} {E:Env}
theorem gY (w:World) (ob:Obj) (b:Nat) (hb:b<w.heap.size):(w.alloc ob).heap[b]? =w.heap[b]? :=by
 show(w.heap.push ob)[b]? =_;rw[Array.getElem?_push,cM (by omega)]
theorem iN (w:World) (ob:Obj):(w.alloc ob).heap[w.heap.size]? =some ob:=by
 show(w.heap.push ob)[w.heap.size]? =_;simp
theorem jS (w:World) (ob:Obj) (O:List ah) (x:ah) (hx:∀b∈x.ids,w.heap.size<=b):Ext O w (O++[x]) (w.alloc ob):=
 ⟨rfl,rfl,rfl,by simp,λb hb _=>gY w ob b hb,λb hb=>by
  simp only[cg,cE,cN]at hb;rcases hb with hb|hb|hb
  ·exact .inl hb
  ·exact .inr (hx b hb)
  ·simp[ids]at hb,.of (bA _)⟩
theorem EX {C:Cx} {o:Oper} {cells:List AV} (hrun:∀F a w,St C.G N w F a Z O->∃vs e,aF w (Al F O) cells vs/\(execOp a.eval o).run C.P w= .ok (.value (.pointer (some ⟨w.heap.size,0,none⟩))) (w.alloc (.cells (List.toArray vs) e))):
  oG C N o Z O (λx η'=>∃b,x= .own O.length b 0/\η'=O++[.box b cells]):=λF a w hs=>by
 obtain⟨vs,e,h1,h2⟩:=hrun F a w hs;have hext:=jS w (.cells vs.toArray e) O (.box w.heap.size cells) (by simp[ah.ids]);refine⟨_,_,_,_,⟨w.heap.size,rfl,rfl⟩,h2,by simp only[Rel],?_,hext⟩;refine hs.hp.push (by simp) (λb hb=>gY w _ b hb) (by simp[ah.ids]) (by simp[ah.ids]) ?_;exact⟨e,vs,iN w _,h1.bm hext.keeps⟩
theorem bh.box {d:Nat} {t:TypeId} {x:Operand} {y:AV} {ty:TypeId} {pos:String} {after:Array Edge} (hx:ev (look Z) x=some y) (hd:Nat.blt d N=true)
  (k:∀b,bh E.toCx N ops rest Q ((d,.own O.length b 0)::Z) (O++[.box b (b9 y)])):bh E.toCx N ops (⟨some d,.box t x,ty,pos,after,none⟩::rest) Q Z O:=
 bh.mO rfl hd (EX (cells:=b9 y) λF a w hs=>⟨(a.eval x).cells.toList,t,o8 (bt hs.sg hx),by simp[execOp,Instr.box,newVar,newRow]⟩)
  (λ_ _ ⟨b,h1,h2⟩=>by subst h1;subst h2;exact k b)
theorem bh.alloc {dd:Nat} {t:TypeId} {d:TD} {sz by':Nat} {z:List Value} {ty:TypeId} {pos:String} {after:Array Edge} (ht:aX E.T t=some ⟨d,sz,by',z⟩) (hd:Nat.blt dd N=true)
  (k:∀b,bh E.toCx N ops rest Q ((dd,.own O.length b 0)::Z) (O++[.box b (z.map .v)])):bh E.toCx N ops (⟨some dd,.alloc t,ty,pos,after,none⟩::rest) Q Z O:=
 bh.mO rfl hd (EX (cells:=z.map .v) λF a w hs=>by
   obtain⟨_,ti,_,hi,_,_,_,zv,hz1,hz2⟩:=dY (E.tok _ _ ht);have hzc:zv.cells=z.toArray:=by apply gI;simpa using hz2
   refine⟨z,t,kB _,?_⟩;simp[execOp,Instr.alloc,zeroValue,typeInfo,hi,hz1,newVar,newRow,hzc])
  (λ_ _ ⟨b,h1,h2⟩=>by subst h1;subst h2;exact k b)
def gB (T:bO) (t:TypeId) (cs:List AV) (o:Nat):Option AV:=
 match aX T t with
 |some ⟨d,k,_,_⟩=>match d.agg with
  |true=>match fits (cs.drop o) k with
   |true=>some (.agg ((cs.drop o).take k))
   |false=>none
  |false=>nth cs o
 |none=>none
theorem N4 {w:World} {A:Nat->Prop} {t b o:Nat} {cs:List AV} {vs:List Value} {x:AV} (h:gB E.T t cs o=some x) (hr:aF w A cs vs):
  ∃v,Rel w A x v/\∀w',(∀j u,vs[j]? =some u->w'.cell? ⟨b,j,none⟩=some u)->(loadVar t ⟨b,o,none⟩).run E.P w'= .ok v w':=by
 unfold gB at h;split at h
 ·rename_i d k by' z ht;have hc':∀w':World,(∀j u,vs[j]? =some u->w'.cell? ⟨b,j,none⟩=some u)->∀j u,(vs.drop o)[j]? =some u->w'.cell? ⟨b,o+j,none⟩=some u:=λw' hc j u hj=>hc _ _ (by rwa[mW]at hj);split at h
  ·rename_i hg;split at h
   ·rename_i hf;simp only[aA]at h;subst h;refine⟨.agg ((vs.drop o).take k).toArray,by simp only[Rel];exact⟨_,rfl,(hr.drop o).take k⟩,λw' hc=>?_⟩;have:=kz (P:=E.P) (v0:=undef) (E.tok _ _ ht) (b:=b) (o:=o) (vs:=(vs.drop o).take k) (w':=w')
     (λj u hj=>hc' w' hc j u (by rw[jR]at hj;split at hj;exact hj;cases hj)) (λ_=>(hr.drop o).rF k hf) (λhg'=>by simp only at hg';rw[hg]at hg';cases hg')
    simpa[hg]using this
   ·cases h
  ·rename_i hg;obtain⟨v,h3,h4⟩:=hr.nth h;refine⟨v,h4,λw' hc=>?_⟩;have:=kz (P:=E.P) (v0:=v) (E.tok _ _ ht) (b:=b) (o:=o) (vs:=vs.drop o) (w':=w') (hc' w' hc) (λhg'=>by simp only at hg';rw[hg]at hg';cases hg') (λ_=>by rw[mW];simpa using h3);simpa[hg]using this
 ·cases h
theorem OG {w:World} {A:Nat->Prop} {t b s o:Nat} {cs:List AV} {vs:List Value} {x:AV} (h:gB E.T t cs o=some x) (hr:aF w A cs vs):
  ∃v,Rel w A x v/\∀w':World,(∀j u,vs[j]? =some u->w'.cell? ⟨b,s+j,none⟩=some u)->(loadVar t ⟨b,s+o,none⟩).run E.P w'= .ok v w':=by
 unfold gB at h;split at h
 ·rename_i d k by' z ht;have hc':∀w':World,(∀j u,vs[j]? =some u->w'.cell? ⟨b,s+j,none⟩=some u)->∀j u,(vs.drop o)[j]? =some u->w'.cell? ⟨b,s+o+j,none⟩=some u:=λw' hc j u hj=>by
   rw[xq];exact hc _ _ (by rwa[mW]at hj)
  split at h
  ·rename_i hg;split at h
   ·rename_i hf;simp only[aA]at h;subst h;refine⟨.agg ((vs.drop o).take k).toArray,by simp only[Rel];exact⟨_,rfl,(hr.drop o).take k⟩,λw' hc=>?_⟩;have:=kz (P:=E.P) (v0:=undef) (E.tok _ _ ht) (b:=b) (o:=s+o) (vs:=(vs.drop o).take k) (w':=w')
     (λj u hj=>hc' w' hc j u (by rw[jR]at hj;split at hj;exact hj;cases hj)) (λ_=>(hr.drop o).rF k hf) (λhg'=>by simp only at hg';rw[hg]at hg';cases hg')
    simpa[hg]using this
   ·cases h
  ·rename_i hg;obtain⟨v,h3,h4⟩:=hr.nth h;refine⟨v,h4,λw' hc=>?_⟩;have:=kz (P:=E.P) (v0:=v) (E.tok _ _ ht) (b:=b) (o:=s+o) (vs:=vs.drop o) (w':=w') (hc' w' hc) (λhg'=>by simp only at hg';rw[hg]at hg';cases hg') (λ_=>by rw[mW];simpa using h3);simpa[hg]using this
 ·cases h
theorem oS {w:World} {b:Nat} {vs:List Value} {e:TypeId} {fz:Nat×Nat} (h:w.heap[b]? =some (.cells vs.toArray e fz)) (j:Nat) (u:Value) (hj:vs[j]? =some u):w.cell? ⟨b,j,none⟩=some u:=by
 simp[World.cell?,h,hj]
theorem FU {tg:Nat} {o:Oper} {t:TypeId} {p:Operand} (ho:o.op= .load t p) {i b off:Nat} {cs:List AV} {x:AV} (hp:ev (look Z) p=some (.own tg b off)) (hi:nth O i=some (.box b cs)) (hl:gB E.T t cs off=some x):
  lU E.toCx N o Z O x:=λF a w hs=>by
 have h1:=bt hs.sg hp;simp only[Rel]at h1;obtain⟨e,vs,h2,h3⟩:=fV hs.hp hi;have hb:b<w.heap.size:=(jN.1 h2).1;obtain⟨v,h4,h6⟩:=N4 (b:=b) hl h3;have h5:=λw' (hw':iV w w')=>h6 w' (oS ((hw'.2 b hb).trans h2));exact⟨v,h4,λw' hw'=>by simp[execOp,ho,h1,Instr.loadAt,Instr.sureAddr,h5 w' hw']⟩
theorem bh.load {tg:Nat} {i d:Nat} {t:TypeId} {p:Operand} {ty:TypeId} {pos:String} {after:Array Edge} {b off:Nat} {cs:List AV} {x:AV} (hp:ev (look Z) p=some (.own tg b off)) (hi:nth O i=some (.box b cs))
  (hl:gB E.T t cs off=some x) (hn:Nat.blt d N=true) (k:bh E.toCx N ops rest Q ((d,x)::Z) O):bh E.toCx N ops (⟨some d,.load t p,ty,pos,after,none⟩::rest) Q Z O:=
 bh.DB rfl rfl hn (FU rfl hp hi hl) k
def ef:List AV->Bool
 |[]=>true
 | .agg _::_=>false
 | .bK _::_=>false
 | .v x::r=>x.oneCell'&&ef r
 |_::r=>ef r
theorem uX {w:World} {A:Nat->Prop}:∀{xs:List AV} {vs:List Value},ef xs=true->aF w A xs vs->∀u∈vs,u.oneCell'=true
 |[],vs,_,h,u,hu=>by simp only[aF]at h;subst h;cases hu
 |x::r,vs,ho,h,u,hu=>by
  simp only[aF]at h;obtain⟨v,r',rfl,h1,h2⟩:=h;have:v.oneCell'=true/\ef r=true:=by
   cases x<;>simp only[ef,bI]at ho<;>simp only[Rel]at h1
   ·subst h1;exact ho
   ·rcases h1 with⟨_,a,c,rfl⟩|⟨b,o,c,ws,rfl,_⟩<;>exact⟨rfl,ho⟩
   ·cases ho
   ·cases ho
   ·obtain⟨b,o,ws,rfl,_⟩:=h1;exact⟨rfl,ho⟩
   ·subst h1;exact⟨rfl,ho⟩
   ·subst h1;exact⟨rfl,ho⟩
   ·obtain⟨b,l,c,_,rfl⟩:=h1;exact⟨rfl,ho⟩
   ·subst h1;exact⟨rfl,ho⟩
   ·obtain⟨us,ws,rfl,_⟩:=h1;exact⟨rfl,ho⟩
   ·obtain⟨y,rfl,_⟩:=h1;exact⟨rfl,ho⟩
  rcases dc.1 hu with rfl|hu
  ·exact this.1
  ·exact uX this.2 h2 u hu
theorem xA {P:Program} (b:Nat) (e:TypeId):∀(us:List Value) (k o:Nat) (vs:List Value) (w:World),w.heap[b]? =some (.cells vs.toArray e (0,0))->o+k+us.length<=vs.length->(∀u∈us,u.oneCell'=true)->
  ∃w',(storeCells ⟨b,o,none⟩ us k).run P w= .ok () w'/\w'.heap[b]? =some (.cells (cU vs (o+k) us).toArray e (0,0))/\w'.os=w.os/\w'.tape=w.tape/\(w'.output=w.output/\w'.drawn=w.drawn)/\w'.heap.size=w.heap.size/\∀c,c≠b->w'.heap[c]? =w.heap[c]?
 |[],k,o,vs,w,h,_,_=>⟨w,by simp[storeCells],by rw[o9];exact h,rfl,rfl,⟨rfl,rfl⟩,rfl,λ_ _=>rfl⟩
 |u::us,k,o,vs,w,h,hl,h1=>by
  simp only[jM]at hl;have hc:w.cell? ⟨b,o+k,none⟩=some (vs[o+k]'(by omega)):=oS h _ _ (by simp);have hf:w.frozen? ⟨b,o+k,none⟩=false:=by simp[World.frozen?,h]
  have hset:(w.setCell ⟨b,o+k,none⟩ u).heap[b]? =some (.cells (vs.set (o+k) u).toArray e (0,0)):=by
   simp[World.setCell,Wg,h]
  obtain⟨w',h2,h3,h4,h5,h6,h7,h8⟩:=xA (P:=P) b e us (k+1) o (vs.set (o+k) u) (w.setCell ⟨b,o+k,none⟩ u) hset (by simp;omega) (λx hx=>h1 x (by simp[hx]));refine⟨w',?_,?_,h4,h5,h6,by rw[h7];simp,λc hc=>by rw[h8 c hc];exact Go.RowKit.Below.heap_setCell w ⟨b,o+k,none⟩ u c hc⟩
  ·simp only[storeCells,Addr.add_lit,Sem.run_bind,run_store P w _ u .plain (h1 u (by simp)),hc,hf,gW,if_false,Result.andThen_ok,h2]
  ·rw[h3];have key:∀(m:Nat) (xs:List Value),m+us.length+1<=xs.length->cU (xs.set m u) (m+1) us=cU xs m (u::us):=by
    intro m
    induction m with
    |zero=>intro xs hx;cases xs with
     |nil=>simp at hx
     |cons x xs=>cases xs<;>simp[cU,over]
    |succ m ih=>intro xs hx;cases xs with
     |nil=>simp at hx
     |cons x xs=>simp only[mT,cU];rw[ih xs (by simp at hx;omega)]
   rw[<-key (o+k) vs (by omega)];rfl
end
section
variable {N:Nat} {Q:AQ} {Z:Sg} {O:List ah} {ops:Array Oper} {rest:List Oper} {E:Env}
theorem yh {tg:Nat} {o:Oper} {t:TypeId} {p x:Operand} (ho:o.op= .store t p x) {i b off:Nat} {cs cs':List AV} {y:AV} {ti:TI} (hp:ev (look Z) p=some (.own tg b off)) (hx:ev (look Z) x=some y) (hi:nth O i=some (.box b cs))
  (ht:aX E.T t=some ti) (hk:Nat.beq (b9 y).length ti.size=true) (h1:ef (b9 y)=true) (hl:eo cs off (b9 y)=some cs'):
  w6 E.toCx N o Z O (O.set i (.box b cs')):=λF a w hs=>by
 have hp':=bt hs.sg hp;simp only[Rel]at hp';have hy:=o8 (bt hs.sg hx);obtain⟨l,r,rfl,hset⟩:=pj hi;rw[hset];obtain⟨e,vs,h2,h3⟩:=hs.hp.ea (.box b cs) (by simp);have hlen:=rv hl;have hyl:=hy.length;obtain⟨w',h4,h5,h6,h7,h8,h9,h10⟩:=xA (P:=E.P) b e (a.eval x).cells.toList 0 off vs w h2 (by rw[h3.length];omega) (uX h1 hy);have hids:∀c∈ah.ids (.box b cs'),c∈ah.ids (.box b cs)\/w.heap.size<=c:=λc hc=> .inl hc;refine⟨w',?_,?_,?_⟩
 ·have hsz:(a.eval x).cells.size=ti.size:=by
   have:=bB hk;rw[<-hyl]at this;simpa using this
  simp[execOp,ho,hp',Instr.storeAt,Instr.sureAddr,storeVar,za (E.tok _ _ ht),hsz,h4]
 ·refine hs.hp.oH (by omega) (λc _ hc=>h10 c (by simpa[ah.ids]using hc)) hids (by simp[ah.ids]) ?_;refine⟨e,cU vs off (a.eval x).cells.toList,by simpa using h5,ry hl (h3.bm ?_) (hy.bm ?_)⟩
  all_goals
   refine⟨by omega,λc hc ha=>⟨?_,h10 c λhcb=>ha.2 (by rw[hcb];simp[cg,cE,ah.ids])⟩⟩;simpa[Al,cg,cE,ah.ids]using ha
 ·refine⟨h6,h7,h8.1,by omega,λc _ hc=>h10 c λhcb=>hc (by rw[hcb];simp[cg,cE,ah.ids]),λc hc=> .inl ?_,.of (Nat.le_of_eq h8.2.symm)⟩;simpa[cg,cE,ah.ids]using hc
theorem bh.store {tg:Nat} {t:TypeId} {p x:Operand} {ty:TypeId} {pos:String} {after:Array Edge} {i b off:Nat} {cs cs':List AV} {y:AV} {ti:TI} (hp:ev (look Z) p=some (.own tg b off)) (hx:ev (look Z) x=some y) (hi:nth O i=some (.box b cs))
  (ht:aX E.T t=some ti) (hk:Nat.beq (b9 y).length ti.size=true) (h1:ef (b9 y)=true) (hl:eo cs off (b9 y)=some cs') (k:bh E.toCx N ops rest Q Z (O.set i (.box b cs'))):
  bh E.toCx N ops (⟨none,.store t p x,ty,pos,after,none⟩::rest) Q Z O:=
 bh.Dz rfl rfl (yh rfl hp hx hi ht hk h1 hl) k
theorem jT {P:Program} {t e k:Nat} {i:TI} (h:jI P t i=true) (hd:i.d= .slice e k):P.underlying t=some (.slice e)/\k=fP P e/\hasB P e=true:=by
 obtain⟨u,ti,hu,_,hd',_⟩:=dY h;rw[hd]at hd';cases u<;>simp only[fy,gW,bI,beq_iff_eq]at hd';obtain⟨⟨rfl,h2⟩,h3⟩:=hd';exact⟨hu,h2,h3⟩
theorem br.get {w:World} {A:Nat->Prop} {k:Nat}:∀{rows:List (List AV)} {vs:List Value} {j:Nat} {r:List AV},br w A k rows vs->rows[j]? =some r->
  r.length=k/\∃us,aF w A r us/\∀i u,us[i]? =some u->vs[j*k+i]? =some u
 |[],_,_,_,_,h=>by simp at h
 |q::rs,vs,0,r,hr,h=>by
  simp only[br]at hr;obtain⟨v1,v2,rfl,hk,h1,_⟩:=hr;simp at h;subst h;refine⟨hk,v1,h1,λi u hi=>?_⟩;have:i<v1.length:=(c8.1 hi).1;rw[Mw,oO,mR this];exact hi
 |q::rs,vs,j+1,r,hr,h=>by
  simp only[br]at hr;obtain⟨v1,v2,rfl,hk,h1,h2⟩:=hr;simp at h;obtain⟨h3,us,h4,h5⟩:=br.get h2 h;refine⟨h3,us,h4,λi u hi=>?_⟩;have hl:v1.length=k:=by rw[h1.length,hk]
  have:=h5 i u hi;rw[xk (by rw[hl,iH];omega),hl];rw[show(j+1)*k+i-k=j*k+i by rw[iH];omega];exact this
def n9 (T:bO) (t:TypeId):AV->Option Int
 | .sl _ rows=>match aX T t with
  |some ⟨.slice _ _,_,_,_⟩=>some (rows.length:Int)
  |_=>none
 | .v (.slice _ n _)=>match aX T t with
  |some ⟨.slice _ _,_,_,_⟩=>some (n:Int)
  |_=>none
 | .os _ _ n _=>match aX T t with
  |some ⟨.slice _ _,_,_,_⟩=>some (n:Int)
  |_=>none
 | .v (.string s)=>match aX T t with
  |some ⟨.str,_,_,_⟩=>some (s.size:Int)
  |_=>none
 |_=>none
theorem He {o:Oper} {t:TypeId} {x:Operand} (ho:o.op= .call {callee:= .builtin .len,args:= #[x],argTypes:= #[t]}) {y:AV} {n:Int} (hx:ev (look Z) x=some y) (hl:n9 E.T t y=some n):
  lU E.toCx N o Z O (.v (.int .i64 n)):=λF a w hs=>by
 have h1:=bt hs.sg hx;refine⟨.int .i64 n,by simp only[Rel],λw' _=>?_⟩;unfold n9 at hl;split at hl
 ·split at hl
  ·rename_i ht;obtain⟨hu,_,_⟩:=jT (E.tok _ _ ht) rfl;simp only[aA]at hl;subst hl;simp only[Rel]at h1;rcases h1 with⟨rfl,a',cap,e1⟩|⟨b,off,cap,vs,e1,_⟩
   ·simp[execOp,ho,resolve,invoke,builtin,e1,Builtin.len_,run_underlying hu,goInt]
   ·simp[execOp,ho,resolve,invoke,builtin,e1,Builtin.len_,run_underlying hu,goInt]
  ·cases hl
 ·split at hl
  ·rename_i ht;obtain⟨hu,_,_⟩:=jT (E.tok _ _ ht) rfl;simp only[aA]at hl;subst hl;simp only[Rel]at h1;simp[execOp,ho,resolve,invoke,builtin,h1,Builtin.len_,run_underlying hu,goInt]
  ·cases hl
 ·split at hl
  ·rename_i ht;obtain⟨hu,_,_⟩:=jT (E.tok _ _ ht) rfl;simp only[aA]at hl;subst hl;simp only[Rel]at h1;simp[execOp,ho,resolve,invoke,builtin,h1,Builtin.len_,run_underlying hu,goInt]
  ·cases hl
 ·split at hl
  ·rename_i ht;obtain⟨u,_,hu,_,hd,_⟩:=dY (E.tok _ _ ht);simp only[aA]at hl;subst hl;simp only[Rel]at h1;cases u<;>simp[fy]at hd;simp[execOp,ho,resolve,invoke,builtin,h1,Builtin.len_,run_underlying hu,goInt]
  ·cases hl
 ·cases hl
theorem bh.len {d:Nat} {t:TypeId} {x:Operand} {ty:TypeId} {pos:String} {after:Array Edge} {y:AV} {n:Int} (hx:ev (look Z) x=some y) (hl:n9 E.T t y=some n) (hn:Nat.blt d N=true) (k:bh E.toCx N ops rest Q ((d,.v (.int .i64 n))::Z) O):
  bh E.toCx N ops (⟨some d,.call {callee:= .builtin .len,args:= #[x],argTypes:= #[t]},ty,pos,after,none⟩::rest) Q Z O:=
 bh.DB rfl rfl hn (He rfl hx hl) k
theorem Ns {P:Program} {c:Code} {Q:Exit->Act->World->Prop} (I:Nat->Act->World->Prop)
  (round:∀n a w,I n a w->c.wp P (Exit.then (λa' w'=>∃m,m<n/\I m a' w') Q) a w):∀{n:Nat} {a:Act} {w:World},I n a w->(Code.loop c).wp P Q a w:=by
 intro n a w h₀ b k cs;have key:∀n a w,I n a w->∃e a' w',Q e a' w'/\Arrives P (lone (b.at a (.code c:: .inLoop c::k)) cs w) b k cs e a' w':=by
  intro n
  induction n using Nat.strongRecOn with
  |_ n ih=>
   intro a w hI;obtain⟨e,a₁,w₁,hq,harr⟩:=round n a w hI b (.inLoop c::k) cs;cases e with
   |normal=>
    obtain⟨m,hm,hI₁⟩:=hq;obtain⟨e₂,a₂,w₂,hq₂,harr₂⟩:=ih m hm a₁ w₁ hI₁;exact⟨e₂,a₂,w₂,hq₂,.of_steps (Steps.trans harr (.one step_inLoop)) harr₂⟩
   |exit id=>exact⟨_,a₁,w₁,hq,.pass (x:= .inLoop c) rfl (λ_ _=> .inl (by simp)) harr⟩
   |goto l=>exact⟨_,a₁,w₁,hq,.pass (x:= .inLoop c) rfl (λ_ _=> .inl (by simp)) harr⟩
   |ret=>exact⟨_,a₁,w₁,hq,.pass (x:= .inLoop c) rfl (λ_ _=> .inl (by simp)) harr⟩
   |panic ch=>exact⟨_,a₁,w₁,hq,.pass (x:= .inLoop c) rfl (λ_ _=> .inl (by simp)) harr⟩
   |outgrown=>exact⟨_,a₁,w₁,hq,.pass (x:= .inLoop c) rfl (λ_ _=> .inl (by simp)) harr⟩
 obtain⟨e,a',w',hq,harr⟩:=key n a w h₀;exact⟨e,a',w',hq,.of_steps (.one step_loop) harr⟩
theorem bD.loop {C:Cx} {c:Code} (I:Nat->Sg->List ah->Prop) (n:Nat) (h0:I n Z O) (round:∀n Z O,I n Z O->bD C N c (AE.then (λZ' η'=>∃m,m<n/\I m Z' η') Q) Z O):bD C N (.loop c) Q Z O:=
 λF w0 O0 a w hs hx=>by
  refine Ns (P:=C.P) (I:=λn a w=>∃Z O,I n Z O/\St C.G N w F a Z O/\Ext O0 w0 O w) ?_ ⟨Z,O,h0,hs,hx⟩;rintro n a w ⟨Z,O,hI,hs,hx⟩;refine wp_mono (round n Z O hI F w0 O0 a w hs hx) ?_;rintro e a' w' ⟨e0,Z',η',h1,h2,h3,h4⟩;cases e0 with
  |norm=>simp only[AE.rel]at h2;subst h2;obtain⟨m,hm,hI'⟩:=h1;exact⟨m,hm,Z',η',hI',h3,h4⟩
  |exit i=>simp only[AE.rel]at h2;subst h2;exact⟨.exit i,Z',η',h1,rfl,h3,h4⟩
  |ret=>simp only[AE.rel]at h2;subst h2;exact⟨.ret,Z',η',h1,rfl,h3,h4⟩
  |aO x=>obtain⟨v,rfl,h2⟩:=h2;exact⟨.aO x,Z',η',h1,⟨v,rfl,h2⟩,h3,h4⟩
