/- The program logic, tenth part: operations that yield one value, told of slots as a function; facts about what is handed on; calls that are handed a part of the heap; loops by rounds. -/
import Derived.Test.YtnocmolegijmkaaGreatKB8
import Derived.LoopN
import Derived.Laws.StructEq
set_option linter.all false
noncomputable section
namespace Go.Bw
open Go
section
variable {C:Cx} {N:Nat} {o:Oper} {s:Sl} {L:List aq} {x:AV}
def ee (s:Sl):List Nat->Sg
 |[]=>[]
 |t::ts=>match s t with
  |some x=>(t,x)::ee s ts
  |none=>ee s ts
theorem lC {s:Sl}:∀{ts:List Nat} {t:Nat} {x:AV},look (ee s ts) t=some x->t∈ts/\s t=some x
 |[],t,x,h=>by simp[ee,look]at h
 |u::ts,t,x,h=>by
  simp only[ee]at h;split at h
  ·rename_i y hy;simp only[look]at h;cases hb:Nat.beq u t with
   |true=>
    rw[hb]at h;simp only[aE]at h;subst h;have:=bQ hb;subst this;exact⟨by simp,hy⟩
   |false=>rw[hb]at h;obtain⟨h1,h2⟩:=lC h;exact⟨by simp[h1],h2⟩
  ·obtain⟨h1,h2⟩:=lC h;exact⟨by simp[h1],h2⟩
theorem tB {s:Sl}:∀{ts:List Nat} {t:Nat},t∈ts->look (ee s ts) t=s t
 |[],t,h=>by cases h
 |u::ts,t,h=>by
  simp only[ee];by_cases hut:u=t
  ·subst hut;split
   ·rename_i y hy;simp[look,hy]
   ·rename_i hy;cases hl:look (ee s ts) u with
    |none=>exact hy.symm
    |some z=>rw[(lC hl).2]at hy;cases hy
  ·have ht:t∈ts:=by simpa[jm hut]using h
   have hb:Nat.beq u t=false:=by cases hb:Nat.beq u t with
    |false=>rfl
    |true=>exact absurd (bQ hb) hut
   split
   ·simp only[look,hb];exact tB ht
   ·exact tB ht
theorem ck.oC (h:pv C N o (ee s (tmpsOf o)) L x):ck C N o s L x:=λF w a hN hd hh hs K Q k=>by
 have hst:St C.G N w F a (ee s (tmpsOf o)) L:=⟨⟨hN,λt y hy=>by obtain⟨h1,h2⟩:=lC hy;exact hs t h1 y h2⟩,hh,hd⟩;obtain⟨v,h1,h2⟩:=h F a w hst;unfold Oper.wp;rw[h2 w (mi.refl w),Oper.upon_value];exact k v w h1 (ji.refl w)
theorem fV {p:Operand} (h:p∈o.op.operands.toList):ev (look (ee s (tmpsOf o))) p=ev s p:=by
 cases p with
 |tmp t=>exact tB (HH.2 ⟨.tmp t,h,rfl⟩)
 |const v=>rfl
 |global g=>rfl
 |func f=>rfl
theorem tX {s s':Sl}:∀{l:List Operand},(∀p∈l,ev s' p=ev s p)->kg s' l=kg s l
 |[],_=>rfl
 |p::l,h=>by simp only[kg,h p (by simp),tX (l:=l) λq hq=>h q (by simp[hq])]
theorem Pg {s s':Sl} {fs:List (Nat×Nat×Nat×Bool)}:∀{l:List (Nat×Operand)} {cs:List AV},(∀p∈l,ev s' p.2=ev s p.2)->oo fs s' cs l=oo fs s cs l
 |[],_,_=>rfl
 |(i,p)::l,cs,h=>by
  simp only[oo,h (i,p) (by simp)];split
  ·split
   ·exact Pg λq hq=>h q (by simp[hq])
   ·rfl
  ·rfl
theorem H4 {s s':Sl} {k:Nat}:∀{l:List (Nat×Operand)} {cs:List AV},(∀p∈l,ev s' p.2=ev s p.2)->fD k s' cs l=fD k s cs l
 |[],_,_=>rfl
 |(i,p)::l,cs,h=>by
  simp only[fD,h (i,p) (by simp)];split
  ·split
   ·exact H4 λq hq=>h q (by simp[hq])
   ·rfl
  ·rfl
theorem acp {T:cn} {s s':Sl} {op:Op} (h:∀p∈op.operands.toList,ev s' p=ev s p):cW T s' op=cW T s op:=by
 cases op with
 |makeFunc f a c=>
  have h1:kg s' a.toList=kg s a.toList:=tX λp hp=>h p (by simp[Op.operands]at hp⊢;exact .inl hp);have h2:kg s' c.toList=kg s c.toList:=tX λp hp=>h p (by simp[Op.operands]at hp⊢;exact .inr hp);cases f<;>simp only[cW,h1,h2]
 |build t ps=>
  simp only[cW];split
  ·rw[Pg λp hp=>h p.2 (by simp only[Op.operands,dP];exact⟨p,hp,rfl⟩)]
  ·rfl
 |move x=>exact h x (by simp[Op.operands])
 |assign x=>exact h x (by simp[Op.operands])
 |pick c a b=>simp only[cW,h c (by simp[Op.operands]),h a (by simp[Op.operands]),h b (by simp[Op.operands])]
 |binOp bop ot x y yt=>simp only[cW,h x (by simp[Op.operands]),h y (by simp[Op.operands])]
 |unOp u t x=>cases u<;>simp only[cW,h x (by simp[Op.operands])]
 |extract x i=>simp only[cW,h x (by simp[Op.operands])]
 |field t x f=>simp only[cW,h x (by simp[Op.operands])]
 |fieldAddr t x f=>simp only[cW,h x (by simp[Op.operands])]
 |typeAssert x xt t ok=>simp only[cW,h x (by simp[Op.operands])]
 |nilCheck x=>simp only[cW,h x (by simp[Op.operands])]
 |load t x=>simp only[cW,h x (by simp[Op.operands])]
 |makeInterface t x=>simp only[cW,h x (by simp[Op.operands])]
 |convert a b x=>simp only[cW,h x (by simp[Op.operands])]
 |_=>rfl
theorem ck.cW {E:Env} (h:cW E.T s o.op=some x):ck E.toCx N o s L x:=
 ck.oC (agc (by rw[acp λp hp=>fV hp];exact h))
theorem cj.qW {Q:AQ} {O:Sg} {ops:Array Oper} {rest:List Oper} (hg:o.guard=none) (hd:cP N o.dst=true) (h:ck C N o (look O) L x) (k:cj C N ops rest Q (mn o.dst x O) L):cj C N ops (o::rest) Q O L:=
 λF w0 L0 a w hs hx=>wpList_plain hg λK hK=>by
  refine h F w a hs.sg.1 hs.df hs.hp (λt _ y hy=>hs.sg.2 t y hy) _ _ λv w' hv hc=>?_;exact hK _ _ (k F w0 L0 _ w' (hs.put hc.ext (hs.hp.later hc.2.2.2) hd hv) (hx.trans hc.ext))
theorem cj.xy {Q:AQ} {O:Sg} {ops:Array Oper} {rest:List Oper} {cells:List AV} {d:Nat} (hg:o.guard=none) (hd:o.dst=some d) (hdN:Nat.blt d N=true) (h:gA C N o (look O) L cells)
  (k:∀b,cj C N ops rest Q ((d,.own L.length b 0)::O) (L++[.box b cells])):cj C N ops (o::rest) Q O L:=
 λF w0 L0 a w hs hx=>wpList_plain hg λK hK=>by
  refine h F w a hs.sg.1 hs.df hs.hp (λt _ y hy=>hs.sg.2 t y hy) _ _ λvs e hv=>?_;have hext:=nK w (.cells vs.toArray e) L (.box w.heap.size cells) (by simp[aq.ids]);have hh:bM C.G (w.alloc (.cells vs.toArray e)) F (L++[.box w.heap.size cells]):=by
   refine hs.hp.push (by simp) (λb hb=>lA w _ b hb) (by simp[aq.ids]) (by simp[aq.ids]) ?_;exact⟨e,vs,l6 w _,hv.keep hext.keeps⟩
  have:=hK _ _ (k w.heap.size F w0 L0 _ _ (hs.put (dst:=o.dst) (x:= .own L.length w.heap.size 0) (v:= .pointer (some ⟨w.heap.size,0,none⟩)) hext hh (by rw[hd];exact hdN) (by simp only[Rel])|>λz=>by rw[hd]at z;exact z) (hx.trans hext));rw[hd];exact this
end
section
variable {E:Env} {N:Nat} {o:Oper} {s:Sl} {L:List aq}
theorem Y0 {w:World} {A:Nat->Prop} {a:Act} (hN:a.tmps.size=N) (hs:mg w A N a o s) {p:Operand} (hp:p∈o.op.operands.toList) {x:AV} (h:ev s p=some x):Rel w A x (a.eval p):=by
 cases p with
 |tmp t=>exact(hs t (HH.2 ⟨.tmp t,hp,rfl⟩) x h).2
 |const v=>simp only[ev,aE]at h;subst h;simp[Rel,Act.eval]
 |global g=>simp only[ev,aE]at h;subst h;simp[Rel,Act.eval]
 |func f=>simp only[ev,aE]at h;subst h;simp[Rel,Act.eval]
theorem gA.box {t:TypeId} {x:Operand} {y:AV} (ho:o.op= .box t x) (hx:ev s x=some y):gA E.toCx N o s L (cH y):=λF w a hN _ _ hs K Q k=>by
 have hr:=Y0 hN hs (by simp[ho,Op.operands]) hx;have:=k (a.eval x).cells.toList t (yy hr);unfold Oper.wp;have hrun:(execOp a.eval o).run E.P w= .ok (.value (.pointer (some ⟨w.heap.size,0,none⟩))) (w.alloc (.cells (a.eval x).cells t)):=by simp[execOp,ho,Instr.box,newVar,newRow]
 rw[hrun,Oper.upon_value];simpa using this
theorem gA.alloc {t:TypeId} {d:TD} {sz by':Nat} {z:List Value} (ho:o.op= .alloc t) (ht:bc E.T t=some ⟨d,sz,by',z⟩):gA E.toCx N o s L (z.map .v):=λF w a hN _ _ hs K Q k=>by
 obtain⟨_,ti,_,hi,_,_,_,zv,hz1,hz2⟩:=fx (E.tok _ _ ht);have hzc:zv.cells=z.toArray:=by apply kM;simpa using hz2
 have:=k z t (oI _);unfold Oper.wp;have hrun:(execOp a.eval o).run E.P w= .ok (.value (.pointer (some ⟨w.heap.size,0,none⟩))) (w.alloc (.cells z.toArray t)):=by
  simp[execOp,ho,Instr.alloc,zeroValue,typeInfo,hi,hz1,newVar,newRow,hzc]
 rw[hrun,Oper.upon_value];exact this
theorem gA.frozen {C:Cx} {cells:List AV} (h:gA C N o s L cells):ck C N o s L (.ip cells):=λF w a hN hd hh hs K Q k=>by
 refine h F w a hN hd hh hs K Q λvs e hv=>?_;have hc:ji w (w.alloc (.cells vs.toArray e)):=⟨⟨rfl,.of (bX _)⟩,rfl,rfl,by simp,λb hb=>lA w _ b hb⟩;refine k _ _ ?_ hc;simp only[Rel];refine⟨w.heap.size,0,vs,rfl,⟨by simp,?_,λhm=>?_⟩,hv.keep (hc.ext (L:=L)).keeps,λj u hj=>?_⟩
 ·exactλhF=>absurd (hh.bound _ hF) (tv _)
 ·exact absurd (hh.lt _ hm) (tv _)
 ·exact tC (l6 w _) _ _ (by simpa using hj)
theorem ck.lit {t:TypeId} {n:Nat} {parts:Array (Nat×Operand)} {e k sz by' sz' by'':Nat} {z z':List Value} {td':TD} {cells:List AV} (ho:o.op= .buildSlice t n parts)
  (ht:bc E.T t=some ⟨.slice e k,sz,by',z⟩) (hte:bc E.T e=some ⟨td',sz',by'',z'⟩) (hf:fD k s (iU n (z'.map .v)) parts.toList=some cells) (hb:Nat.ble (n*k) 16777216=true) (hk:Nat.ble 1 k=true):
  ck E.toCx N o s L (.sl k (chunk n k cells)):=λF w a hN hd hh hs K Q kk=>by
 have hst:St E.G N w F a (ee s (tmpsOf o)) L:=⟨⟨hN,λt y hy=>by obtain⟨h1,h2⟩:=lC hy;exact hs t h1 y h2⟩,hh,hd⟩;have hf':fD k (look (ee s (tmpsOf o))) (iU n (z'.map .v)) parts.toList=some cells:=by
  rw[H4 λp hp=>fV (by rw[ho];simp only[Op.operands,dP];exact⟨p,hp,rfl⟩)];exact hf
 obtain⟨us,h1,h2,h3⟩:=IV (d:=o.dst) (ty:=o.type) (pos:=o.pos) (after:=o.after) (gd:=o.guard) ht hte hf' hb hk hst;have hk:=eH hk;have hb:=eH hb;have ho':o=⟨o.dst,.buildSlice t n parts,o.type,o.pos,o.after,o.guard⟩:=by rw[<-ho]
 rw[<-ho']at h1;unfold Oper.wp;rw[h1,Oper.upon_value];have hc:ji w (w.alloc (.cells us e)):=⟨⟨rfl,.of (bX _)⟩,rfl,rfl,by simp,λb hb=>lA w _ b hb⟩;refine kk _ _ ?_ hc;simp only[Rel];refine .inr ⟨w.heap.size,0,n,us.toList,by rw[iO],⟨by simp,λhF=>absurd (hh.bound _ hF) (tv _),λhm=>absurd (hh.lt _ hm) (tv _)⟩,by rw[iO];exact bX _,?_,h2.keep (hc.ext (L:=L)).keeps,λj u hj=>?_⟩
 ·have:n<=n*k:=HE n hk;simp only[maxLen];omega
 ·have h4:(w.alloc (.cells us e)).heap[w.heap.size]? =some (.cells us.toList.toArray e (0,0)):=by simpa using l6 w (.cells us e)
  exact tC h4 _ _ (by simpa using hj)
theorem ck.pure {C:Cx} {f:Operand} {args:List Operand} {g:FuncId} {xs:List AV} {res:AV} {tys:Array TypeId} (ho:o.op= .call {callee:= .value f,args:=args.toArray,argTypes:=tys})
  (h:Pure C g xs (.ret res)) (hc:callee s f args=some (g,xs)):ck C N o s L res:=λF w a hN hd hh hs K Q k=>by
 have cU:o.op.operands.toList=f::args\/∀p,p=f\/p∈args->p∈o.op.operands.toList:=by
  right;rintro p hp;rw[ho];rcases hp with rfl|hp
  ·simp[Op.operands,Call.operands]
  ·simp[Op.operands,Call.operands,hp]
 have hmem:∀p,p=f\/p∈args->p∈o.op.operands.toList:=by
  rcases cU with h|h
  ·intro p hp;rw[h];simpa using hp
  ·exact h
 have hc':callee (look (ee s (tmpsOf o))) f args=some (g,xs):=by
  unfold callee at hc⊢;rw[fV (hmem f (.inl rfl)),tX λp hp=>fV (hmem p (.inr hp))];exact hc
 have hsl:gM w (Al F L) N a (look (ee s (tmpsOf o))):=⟨hN,λt y hy=>by obtain⟨h1,h2⟩:=lC hy;exact hs t h1 y h2⟩;obtain⟨vs,h1,h2⟩:=yx (P:=C.P) hsl hc' (tys:=tys) (dst:=o.dst) (ty:=o.type) (pos:=o.pos) (after:=o.after) (gd:=o.guard) h.1;have ho':o=⟨o.dst,.call {callee:= .value f,args:=args.toArray,argTypes:=tys},o.type,o.pos,o.after,o.guard⟩:=by rw[<-ho]
 rw[<-ho']at h2;unfold Oper.wp;rw[h2 w,Oper.upon_enter];refine(h.run hh h1).mono ?_;rintro e w' ⟨⟨v,rfl,hv⟩,_,hext,hsame⟩;exact k v w' hv ⟨⟨hext.os,hext.drawn⟩,hext.tape,hext.output,hext.size,hsame⟩
theorem bM.facts {G:Gl} {w:World} {F:Nat->Prop} {L L':List aq} (h:bM G w F L) (hsub:(ids L').Sublist (ids L)) (hent:∀x∈L',x∈L\/∃y v,x= .fact y v/\Rel w (Al F L') y v):bM G w F L':=by
 have hs:∀b∈ids L',b∈ids L:=λb hb=>hsub.subset hb;have hkeep:dF w (Al F L) w (Al F L'):=⟨bX _,λb _ h=>⟨⟨h.1,λhm=>h.2 (hs b hm)⟩,rfl⟩⟩;refine⟨λx hx=>?_,hsub.nodup h.nodup,λb hb=>h.free b (hs b hb),h.bound,h.gK.keep hkeep⟩;rcases hent x hx with hx|⟨y,v,rfl,hr⟩
 ·exact(h.eG x hx).keep hkeep λ_ _=>rfl
 ·exact hr
theorem dF.sub {w:World} {F:Nat->Prop} {L L':List aq} (hs:∀b∈ids L',b∈ids L):dF w (Al F L) w (Al F L'):=
 ⟨bX _,λ_ _ h=>⟨⟨h.1,λhm=>h.2 (hs _ hm)⟩,rfl⟩⟩
theorem cj.agP {C:Cx} {Q:AQ} {O:Sg} {ops:Array Oper} {rest:List Oper} {f:Operand} {args:List Operand} {g:FuncId} {xs:List AV} {Q':AR->List aq->Prop} {tys:Array TypeId} {dst:Option Nat} {ty:TypeId} {pos:String} {after:Array Edge}
  (h:lN C g xs L Q') (hc:callee (look O) f args=some (g,xs)) (hd:cP N dst=true) (k1:∀x L',Q' (.ret x) L'->cj C N ops rest Q (mn dst x O) L') (k2:∀x L',Q' (.aT x) L'->Q (.aT x) [] L'):
  cj C N ops (⟨dst,.call {callee:= .value f,args:=args.toArray,argTypes:=tys},ty,pos,after,none⟩::rest) Q O L:=λF w0 L0 a w hs hx=>by
 unfold wpList;rw[bg (by simp[Region.wanted])];refine .inl ?_;obtain⟨vs,h1,h2⟩:=yx (P:=C.P) hs.sg hc (tys:=tys) (dst:=dst) (ty:=ty) (pos:=pos) (after:=after) (gd:=none) h.1;unfold Oper.wp;rw[h2 w,Oper.upon_enter];refine(h.2 F w vs hs.hp h1).mono ?_;rintro e w' ⟨r,L',hQ,hv,hh,hext⟩;cases r with
 |ret x=>
  obtain⟨v,rfl,hv⟩:=hv;exact k1 x L' hQ F w0 L0 _ w' (hs.put hext hh hd hv) (hx.trans hext)
 |aT x=>
  obtain⟨v,rfl,hv⟩:=hv;exact⟨.aT x,[],L',k2 x L' hQ,⟨v,rfl,hv⟩,⟨⟨hs.sg.1,λt x hx=>by simp[AE.sl,look]at hx⟩,hh,hs.df⟩,hx.trans hext⟩
def EZ (C:Cx) (N:Nat) (c:Code) (Q:AQ):Nat->Sg->List aq->Prop
 |0=>λ_ _=>False
 |n+1=>cm C N c (AE.then (EZ C N c Q n) Q)
theorem cm.rounds {C:Cx} {c:Code} {Q:AQ} {O:Sg} (n:Nat) (h:EZ C N c Q n O L):cm C N (.loop c) Q O L:=λF w0 L0 a w hs hx=>by
 refine wp_loop_rounds n ?_;have key:∀n O L a w,EZ C N c Q n O L->St C.G N w F a O L->Ext L0 w0 L w->Code.rounds C.P c (CQ C.G N F w0 L0 Q) n a w:=by
  intro n
  induction n with
  |zero=>intro O L a w h;exact h.elim
  |succ n ih=>
   intro O L a w h hs hx;rw[rounds_succ];refine wp_mono (h F w0 L0 a w hs hx) ?_;rintro e a' w' ⟨e0,O',L',h1,h2,h3,h4⟩;cases e0 with
   |norm=>simp only[AE.rel]at h2;subst h2;exact ih _ _ _ _ h1 h3 h4
   |exit i=>simp only[AE.rel]at h2;subst h2;exact⟨.exit i,O',L',h1,rfl,h3,h4⟩
   |ret=>simp only[AE.rel]at h2;subst h2;exact⟨.ret,O',L',h1,rfl,h3,h4⟩
   |aT x=>obtain⟨v,rfl,h2⟩:=h2;exact⟨.aT x,O',L',h1,⟨v,rfl,h2⟩,h3,h4⟩
 exact key n O L a w h hs hx
end
def ox:Option AV->Option Nat
 |some (.v (.int _ (.ofNat n)))=>some n
 |_=>none
def jZ (s:Sl) (dflt:Nat):Option Operand->Option Nat
 |none=>some dflt
 |some o=>ox (ev s o)
def Ga (P:Program):Nat->List Field->Bool
 |_,[]=>true
 |i,f::fs=>Nat.beq f.offset i&&f.name != "_" &&hasB P f.type&&(match P.underlying f.type with
   |some (.int _)=>true
   |some .bool=>true
   |some .string=>true
   |_=>false)&&Ga P (i+1) fs
def AS (P:Program) (t:TypeId) (n:Nat):Bool:=(match P.underlying t with
 |some (.struct fs)=>Ga P 0 fs.toList&&Nat.beq fs.size n
 |_=>false)&& !P.stoodInHeld t&& !P.eqGuardType P.depth t
def kindOk (P:Program) (t:TypeId):Value->Bool
 | .int _ _=>match P.underlying t with
  |some (.int _)=>true
  |_=>false
 | .bool _=>match P.underlying t with
  |some .bool=>true
  |_=>false
 | .string _=>match P.underlying t with
  |some .string=>true
  |_=>false
 |_=>false
def qF (P:Program):List Field->List AV->List AV->Option Bool
 |[],[],[]=>some true
 |f::fs,.v x::xs,.v y::ys=>match kindOk P f.type x,kindOk P f.type y,qF P fs xs ys with
  |true,true,some c=>match x,y with
   | .int k a,.int k' b=>match decide (k=k')with
    |true=>some (a==b&&c)
    |false=>none
   | .bool a,.bool b=>some (a==b&&c)
   | .string a,.string b=>some (a.data.toList==b.data.toList&&c)
   |_,_=>none
  |_,_,_=>none
 |_,_,_=>none
def eS (P:Program) (T:cn) (s:Sl):Op->Option AV
 | .indexAddr t x ix=>match ev s x,ox (ev s ix),bc T t with
  |some (.sl k rows),some j,some ⟨.slice _ k',_,_,_⟩=>match Nat.beq k k',nth rows j with
   |true,some r=>some (.ip r)
   |_,_=>none
  |some (.v (.pointer (some ⟨b,off,none⟩))),some j,some ⟨.array m _ k _,_,_,_⟩=>match Nat.blt j m with
   |true=>some (.v (.pointer (some ⟨b,off+j*k,none⟩)))
   |false=>none
  |_,_,_=>none
 | .index t x ix=>match ev s x,ox (ev s ix),bc T t with
  |some (.v (.string b)),some j,some ⟨.str,_,_,_⟩=>match nth b.data.toList j with
   |some c=>some (.v (.int .u8 c.toNat))
   |none=>none
  |_,_,_=>none
 | .slice t x lo hi none=>match ev s x,bc T t with
  |some (.sl k rows),some ⟨.slice _ k',_,_,_⟩=>match jZ s 0 lo,jZ s rows.length hi with
   |some l,some h=>match Nat.beq k k'&&Nat.ble l h&&Nat.ble h rows.length with
    |true=>some (.sl k ((rows.take h).drop l))
    |false=>none
   |_,_=>none
  |some (.v (.string b)),some ⟨.str,_,_,_⟩=>match jZ s 0 lo,jZ s b.data.toList.length hi with
   |some l,some h=>match Nat.ble l h&&Nat.ble h b.data.toList.length with
    |true=>some (.v (.string ⟨((b.data.toList.take h).drop l).toArray⟩))
    |false=>none
   |_,_=>none
  |_,_=>none
 | .binOp .add _ x y _=>match ev s x,ev s y with
  |some (.v (.string a)),some (.v (.string b))=>match Nat.ble (a.data.toList.length+b.data.toList.length) 9223372036854775807 with
   |true=>some (.v (.string ⟨(a.data.toList++b.data.toList).toArray⟩))
   |false=>none
  |_,_=>none
 | .binOp .eql t x y _=>match ev s x,ev s y with
  |some (.agg xs),some (.agg ys)=>match AS P t xs.length,P.underlying t with
   |true,some (.struct fs)=>match qF P fs.toList xs ys with
    |some c=>some (.v (.bool c))
    |none=>none
   |_,_=>none
  |_,_=>none
 | .binOp .neq t x y _=>match ev s x,ev s y with
  |some (.agg xs),some (.agg ys)=>match AS P t xs.length,P.underlying t with
   |true,some (.struct fs)=>match qF P fs.toList xs ys with
    |some c=>some (.v (.bool !c))
    |none=>none
   |_,_=>none
  |_,_=>none
 |_=>none
section
variable {w:World} {A:Nat->Prop} {N:Nat} {a:Act} {s:Sl} {P:Program} {T:cn}
theorem Eg {o:Option AV} {n:Nat} (h:ox o=some n):∃k,o=some (.v (.int k (n:Int))):=by
 unfold ox at h;split at h
 ·rename_i k m;simp only[aE]at h;subst h;exact⟨k,rfl⟩
 ·cases h
theorem Rh (d:Nat):∀(fs:List Field) (i:Nat) {xs ys:List AV} {us vs:List Value} {c:Bool},Ga P i fs=true->qF P fs (xs.drop i) (ys.drop i)=some c->aL w A xs us->aL w A ys vs->
  ∀w',(Op.eqFields (d+1) us.toArray vs.toArray fs).run P w'= .ok c w'
 |[],i,xs,ys,us,vs,c,_,h,_,_,w'=>by
  unfold qF at h;split at h
  ·simp only[aE]at h;subst h;simp[Op.eqFields]
  ·contradiction
  ·cases h
 |f::fs,i,xs,ys,us,vs,c,hB,h,hx,hy,w'=>by
  simp only[Ga,bS,bne_iff_ne,ne_eq]at hB;obtain⟨⟨⟨⟨h1,h2⟩,h3⟩,h4⟩,h5⟩:=hB;have h1:=bQ h1;unfold qF at h;split at h
  ·contradiction
  ·rename_i f' fs' x xs' y ys' hf hxs hys;simp only[kn]at hf;obtain⟨rfl,rfl⟩:=hf;have hxi:nth xs i=some (.v x):=by rw[cM];have:=congrArg (·[0]?) hxs;simpa using this
   have hyi:nth ys i=some (.v y):=by rw[cM];have:=congrArg (·[0]?) hys;simpa using this
   have hxd:xs.drop (i+1)=xs':=by have:=congrArg (List.drop 1) hxs;simpa[xP]using this
   have hyd:ys.drop (i+1)=ys':=by have:=congrArg (List.drop 1) hys;simpa[xP]using this
   obtain⟨u,hu,hu'⟩:=hx.nth hxi;obtain⟨v,hv,hv'⟩:=hy.nth hyi;simp only[Rel]at hu' hv';subst hu';subst hv';have hagg:oz P f.type=false:=by
    unfold oz;split at h4<;>first|(rename_i hh;rw[hh])|(cases h4;done)
   have hpart:∀(zs:List Value) (z:Value),zs[i]? =some z->∀w',(part f.type zs.toArray f.offset).run P w'= .ok z w':=by
    intro zs z hz w';simp[part,IX h3,hagg,h1,hz]
   split at h
   ·rename_i c' hk1 hk2 hc';rw[<-hxd,<-hyd]at hc';have ih:=Rh d fs (i+1) h5 hc' hx hy w';have fin:∀(q:Bool),(∀w',(Op.equalIn (d+1) f.type u v).run P w'= .ok q w')->(Op.eqFields (d+1) us.toArray vs.toArray (f::fs)).run P w'= .ok (q&&c') w':=by
     intro q hq;simp only[Op.eqFields,ne_eq,h2,not_false_eq_true,if_true,Sem.run_bind,hpart us u hu,hpart vs v hv,Result.andThen_ok,hq,Sem.run_ite];cases q
     ·simp
     ·simp[ih]
    split at h
    ·rename_i k a k' b;split at h
     ·rename_i hk;have hk:=jl hk;subst hk;simp only[aE]at h;subst h;refine fin _ λw'=>?_;simp only[kindOk]at hk1;split at hk1
      ·rename_i hh;exact run_equalIn_int w' d f.type k _ a b hh
      ·cases hk1
     ·cases h
    ·rename_i a b;simp only[aE]at h;subst h;refine fin _ λw'=>?_;simp only[kindOk]at hk1;split at hk1
     ·rename_i hh;exact run_equalIn_bool' w' d f.type a b hh
     ·cases hk1
    ·rename_i a b;simp only[aE]at h;subst h;refine fin _ λw'=>?_;simp only[kindOk]at hk1;split at hk1
     ·rename_i hh;rw[run_equalIn_string w' d f.type a b hh,ByteArray.toList_eq,ByteArray.toList_eq]
     ·cases hk1
    ·cases h
   ·cases h
  ·cases h
theorem SE {t:TypeId} {xs ys:List AV} {us vs:List Value} {fs:Array Field} {c:Bool} (hB:AS P t xs.length=true) (hu:P.underlying t=some (.struct fs)) (h:qF P fs.toList xs ys=some c) (hx:aL w A xs us) (hy:aL w A ys vs) (x y:Operand):
  (∀w',(do eqGuard .eql t x y (.agg us.toArray) (.agg vs.toArray);binOp .eql t (.agg us.toArray) (.agg vs.toArray):Sem Value).run P w'= .ok (.bool c) w')/\
  ∀w',(do eqGuard .neq t x y (.agg us.toArray) (.agg vs.toArray);binOp .neq t (.agg us.toArray) (.agg vs.toArray):Sem Value).run P w'= .ok (.bool !c) w':=by
 simp only[AS,hu,bS,kL]at hB;obtain⟨⟨⟨h1,h2⟩,h3⟩,h4⟩:=hB;have hfo:P.fieldsOf t=fs:=by simp[Program.fieldsOf,hu]
 have hr:∀w',(Op.equalIn 10000 t (.agg us.toArray) (.agg vs.toArray)).run P w'= .ok c w':=λw'=>by
  rw[show 10000=9998+1+1 from rfl,run_equalIn_agg w' (9998+1) t _ _ (by rw[hfo];exact hu) h3,hfo];exact Rh 9998 fs.toList 0 h1 (by simpa using h) hx hy w'
 refine⟨λw'=>?_,λw'=>?_⟩
 ·simp only[Sem.run_bind,run_eqGuard_agg w' .eql t x y _ _ h4,Result.andThen_ok,run_eql_struct,hr]
 ·simp only[Sem.run_bind,run_eqGuard_agg w' .neq t x y _ _ h4,Result.andThen_ok,run_neq_struct,hr]
theorem Qo (hs:gM w A N a s) {dflt:Nat} {o:Option Operand} {n:Nat} (h:jZ s dflt o=some n):(o=none/\n=dflt)\/∃p k,o=some p/\a.eval p= .int k (n:Int):=by
 cases o with
 |none=>simp only[jZ,aE]at h;exact .inl ⟨rfl,h.symm⟩
 |some p=>
  simp only[jZ]at h;obtain⟨k,hk⟩:=Eg h;have:=bH hs hk;simp only[Rel]at this;exact .inr ⟨p,k,rfl,this⟩
theorem Ik (hs:gM w A N a s) (isS:Bool) {len cap:Nat} {lo hi:Option Operand} {l h:Nat} (hl:jZ s 0 lo=some l) (hh:jZ s len hi=some h) (h1:l<=h) (h2:h<=len) (h3:len<=cap) (w':World):
  (Instr.sliceBounds isS len cap (lo.map a.eval) (hi.map a.eval) none).run P w'= .ok (l,h,cap) w':=by
 rcases Qo hs hl with⟨rfl,rfl⟩|⟨p,k,rfl,hp⟩<;>rcases Qo hs hh with⟨rfl,rfl⟩|⟨q,k',rfl,hq⟩
 ·simp[Instr.sliceBounds]
 ·have:h<=cap:=by omega
  cases isS<;>simp[Instr.sliceBounds,hq,Instr.sliceBound,asIntOf,this]
 ·simp[Instr.sliceBounds,hp,Instr.sliceBound,asIntOf,h1]
 ·have:h<=cap:=by omega
  cases isS<;>simp[Instr.sliceBounds,hp,hq,Instr.sliceBound,asIntOf,h1,this]
theorem bq.V' {k:Nat}:∀{n:Nat} {rows:List (List AV)} {vs:List Value},bq w A k rows vs->bq w A k (rows.take n) (vs.take (n*k))
 |0,_,_,_=>by simp[bq]
 |n+1,[],_,h=>by simp only[bq]at h;subst h;simp[bq]
 |n+1,_::_,_,h=>by
  simp only[bq]at h;obtain⟨v1,v2,rfl,hk,h1,h2⟩:=h;simp only[xN,bq];refine⟨v1,v2.take (n*k),?_,hk,h1,h2.V'⟩;have:v1.length=k:=by rw[h1.length,hk]
  rw[jc,HG,List.take_append,anM (by omega),this];congr 2;omega
theorem bq.Wa {k:Nat}:∀{n:Nat} {rows:List (List AV)} {vs:List Value},bq w A k rows vs->bq w A k (rows.drop n) (vs.drop (n*k))
 |0,_,_,h=>by simpa using h
 |n+1,[],_,h=>by simp only[bq]at h;subst h;simp[bq]
 |n+1,_::_,_,h=>by
  simp only[bq]at h;obtain⟨v1,v2,rfl,hk,h1,h2⟩:=h;simp only[List.drop_succ_cons];have:v1.length=k:=by rw[h1.length,hk]
  rw[show(n+1)*k=v1.length+n*k by rw[this,jc,HG,xP],<-List.drop_drop,List.drop_left];exact h2.Wa
theorem extract_data (s:ByteArray) (l h:Nat):s.extract l h=⟨((s.data.toList.take h).drop l).toArray⟩:=by
 apply ByteArray.ext;rw[ByteArray.data_extract];apply kM;simp[anR,List.drop_take]
theorem aba (s t:ByteArray):s++t=⟨(s.data.toList++t.data.toList).toArray⟩:=by
 apply ByteArray.ext;rw[ByteArray.data_append];apply kM;simp
theorem size_data (s:ByteArray):s.size=s.data.toList.length:=by cases s;rfl
theorem aeY (tok:Az P T) (hs:gM w A N a s) {o:Oper} {x:AV} (h:eS P T s o.op=some x):
  ∃v,Rel w A x v/\∀w',mi w w'->(execOp a.eval o).run P w'= .ok (.value v) w':=by
 obtain⟨dst,op,ty,pos,after,gd⟩:=o;unfold eS at h;simp only at h;split at h
 ·--indexAddr
  rename_i t y ix;split at h
  ·rename_i k rows j e k' _ _ _ hy hj ht;split at h
   ·rename_i r hk hr;simp only[aE]at h;subst h;have hk:=bQ hk;subst hk;obtain⟨kd,hj⟩:=Eg hj;obtain⟨hu,hke,hh⟩:=kO (tok _ _ ht) rfl;have h1:=bH hs hy;have h2:=bH hs hj;simp only[Rel]at h1 h2;rw[cM]at hr;have hlt:j<rows.length:=(cr.1 hr).1;rcases h1 with⟨rfl,_⟩|⟨b,off,cap,vs,e1,e2,e3,e4,e5,e6⟩
    ·simp at hlt
    ·obtain⟨h3,us,h4,h5⟩:=e5.get hr;refine⟨.pointer (some ⟨b,off+j*k,none⟩),?_,λw' _=>?_⟩
     rotate_left
     ·rw[hke];simp[execOp,e1,h2,Instr.indexAt,asIntOf,run_underlying hu,hlt,l7 hh,Addr.add_lit]
     ·simp only[Rel];refine⟨b,off+j*k,us,rfl,e2,h4,λi u hi=>?_⟩;have:=e6 _ _ (h5 i u hi);rwa[<-Hw]at this
   ·cases h
  ·rename_i b off j m e k g _ _ _ hy hj ht;split at h
   ·rename_i hjm;simp only[aE]at h;subst h;rw[mD]at hjm;obtain⟨kd,hj⟩:=Eg hj;obtain⟨u,ti,hu,_,hd,_⟩:=fx (tok _ _ ht);cases u<;>simp only[iu,kI,bS,beq_iff_eq]at hd;obtain⟨⟨⟨⟨⟨rfl,rfl⟩,hk⟩,_⟩,hh⟩,_⟩:=hd;have h1:=bH hs hy;have h2:=bH hs hj;simp only[Rel]at h1 h2;refine⟨_,gJ _,λw' _=>?_⟩;rw[hk];simp[execOp,h1,h2,Instr.indexAt,Instr.sureAddr,asIntOf,run_underlying hu,hjm,l7 hh,Addr.add_lit]
   ·cases h
  ·cases h
 ·--index
  rename_i t y ix;split at h
  ·rename_i b j _ _ _ hy hj ht;split at h
   ·rename_i c hc;simp only[aE]at h;subst h;obtain⟨kd,hj⟩:=Eg hj;obtain⟨u,_,hu,_,hd,_⟩:=fx (tok _ _ ht);cases u<;>simp[iu]at hd;have h1:=bH hs hy;have h2:=bH hs hj;simp only[Rel]at h1 h2;refine⟨_,gJ _,λw' _=>?_⟩;rw[cM]at hc;have hc':b[j]? =some c:=by
     obtain⟨hlt,he⟩:=cr.1 hc;rw[getElem?_pos b j (by rw[size_data];exact hlt),<-he];rfl
    simp[execOp,h1,h2,Instr.index,asIntOf,run_underlying hu,hc']
   ·cases h
  ·cases h
 ·--slice
  rename_i t y lo hi;split at h
  ·rename_i k rows e k' _ _ _ hy ht;split at h
   ·rename_i l hh hl hhh;split at h
    ·rename_i hB;simp only[aE]at h;subst h;simp only[bS]at hB;obtain⟨⟨hk,h1⟩,h2⟩:=hB;have hk:=bQ hk;subst hk;have h1:=eH h1;have h2:=eH h2;obtain⟨hu,hke,hsz⟩:=kO (tok _ _ ht) rfl;have hy':=bH hs hy;simp only[Rel]at hy';have hlen:((rows.take hh).drop l).length=hh-l:=by simp;omega
     rcases hy' with⟨rfl,ad,cap,e1⟩|⟨b,off,cap,vs,e1,e2,e3,e4,e5,e6⟩
     ·have hz:hh=0:=by simpa using h2
      subst hz;have hz:l=0:=by omega
      subst hz;refine⟨.slice (if cap=0 then ad else ad.map (·.add (0*jg P e))) 0 cap,?_,λw' _=>?_⟩
      ·simp only[Rel,List.take_zero,List.drop_nil];exact .inl ⟨trivial,_,_,rfl⟩
      ·have hb:=Ik (P:=P) (cap:=cap) hs true hl hhh h1 h2 (mG _) w';simp only[l4]at hb;simp only[execOp,e1,Instr.sliceAt,Instr.slice,Sem.run_bind,run_underlying hu,OB,hb,Result.andThen_ok,l7 hsz,Sem.run_pure,aan]
     ·have hb:=λw'=>Ik (P:=P) hs true hl hhh h1 h2 e3 w';have hrun:∀w',(execOp a.eval ⟨dst,.slice t y lo hi none,ty,pos,after,gd⟩).run P w'= .ok (.value (.slice (if cap=l then some ⟨b,off,none⟩else some ⟨b,off+l*k,none⟩) (hh-l) (cap-l))) w':=λw'=>by
       simp only[execOp,e1,Instr.sliceAt,Instr.slice,Sem.run_bind,run_underlying hu,OB,hb w',Result.andThen_ok,l7 hsz,Sem.run_pure,Hz,Addr.add_lit];rw[<-hke]
      refine⟨_,?_,λw' _=>hrun w'⟩;simp only[Rel];by_cases hcl:cap=l
      ·left;refine⟨jb (by rw[hlen];omega),some ⟨b,off,none⟩,0,?_⟩;rw[bg hcl];congr 1<;>omega
      ·right;rw[aM hcl];refine⟨b,off+l*k,cap-l,(vs.take (hh*k)).drop (l*k),by rw[hlen],e2,by rw[hlen];omega,by omega,e5.V'.Wa,λj u hj=>?_⟩;rw[xQ,fT]at hj;split at hj
       ·have:=e6 _ _ hj;rwa[<-Hw]at this
       ·cases hj
    ·cases h
   ·cases h
  ·rename_i b _ _ _ hy ht;split at h
   ·rename_i l hh hl hhh;split at h
    ·rename_i hB;simp only[aE]at h;subst h;simp only[bS]at hB;obtain⟨h1,h2⟩:=hB;have h1:=eH h1;have h2:=eH h2;obtain⟨u,_,hu,_,hd,_⟩:=fx (tok _ _ ht);cases u<;>simp[iu]at hd;have hy':=bH hs hy;simp only[Rel]at hy';refine⟨_,gJ _,λw' _=>?_⟩;have hb:=Ik (P:=P) hs false hl hhh h1 h2 (bX _) w';rw[<-size_data]at hb;simp only[execOp,hy',Instr.sliceAt,Instr.slice,Sem.run_bind,run_underlying hu,OB,Option.isSome_none,kI,if_false,Sem.run_ite,Sem.run_pure,hb,Result.andThen_ok,extract_data]
    ·cases h
   ·cases h
  ·cases h
 ·--add
  rename_i t x' y' yt;split at h
  ·rename_i p q hp hq;split at h
   ·rename_i hle;simp only[aE]at h;subst h;have hle:=eH hle;have h1:=bH hs hp;have h2:=bH hs hq;simp only[Rel]at h1 h2;refine⟨_,gJ _,λw' _=>?_⟩;have hlt:¬(((p.size+q.size:Nat):Int)>IntKind.i64.max):=by
     rw[size_data,size_data];have:IntKind.i64.max=9223372036854775807:=rfl;rw[this];omega
    simp only[execOp,h1,h2,eqGuard_at_string,binOp,Op.stringOp,aM hlt,Sem.run_bind,Sem.run_pure,Result.andThen_ok,aba]
   ·cases h
  ·cases h
 ·--eql
  rename_i t x' y' yt;split at h
  ·rename_i xs ys hp hq;split at h
   ·rename_i fs hB hu;split at h
    ·rename_i c hc;simp only[aE]at h;subst h;have h1:=bH hs hp;have h2:=bH hs hq;simp only[Rel]at h1 h2;obtain⟨us,h1,h1'⟩:=h1;obtain⟨vs,h2,h2'⟩:=h2;refine⟨_,gJ _,λw' _=>?_⟩;have:=(SE hB hu hc h1' h2' x' y').1 w';simp only[execOp,h1,h2,Sem.run_bind]at this⊢;rw[this];simp
    ·cases h
   ·cases h
  ·cases h
 ·--neq
  rename_i t x' y' yt;split at h
  ·rename_i xs ys hp hq;split at h
   ·rename_i fs hB hu;split at h
    ·rename_i c hc;simp only[aE]at h;subst h;have h1:=bH hs hp;have h2:=bH hs hq;simp only[Rel]at h1 h2;obtain⟨us,h1,h1'⟩:=h1;obtain⟨vs,h2,h2'⟩:=h2;refine⟨_,gJ _,λw' _=>?_⟩;have:=(SE hB hu hc h1' h2' x' y').2 w';simp only[execOp,h1,h2,Sem.run_bind]at this⊢;rw[this];simp
    ·cases h
   ·cases h
  ·cases h
 ·cases h
end
theorem acm {P:Program} {T:cn} {s s':Sl} {op:Op} (h:∀p∈op.operands.toList,ev s' p=ev s p):eS P T s' op=eS P T s op:=by
 unfold eS;split
 ·rename_i t x ix;rw[h x (by simp[Op.operands]),h ix (by simp[Op.operands])]
 ·rename_i t x ix;rw[h x (by simp[Op.operands]),h ix (by simp[Op.operands])]
 ·rename_i t x lo hi;have h1:∀d,jZ s' d lo=jZ s d lo:=λd=>by
   cases lo with
   |none=>rfl
   |some p=>simp only[jZ];rw[h p (by simp[Op.operands])]
  have h2:∀d,jZ s' d hi=jZ s d hi:=λd=>by
   cases hi with
   |none=>rfl
   |some p=>simp only[jZ];rw[h p (by simp[Op.operands])]
  rw[h x (by simp[Op.operands])];simp only[h1,h2]
 ·rename_i t x y yt;rw[h x (by simp[Op.operands]),h y (by simp[Op.operands])]
 ·rename_i t x y yt;rw[h x (by simp[Op.operands]),h y (by simp[Op.operands])]
 ·rename_i t x y yt;rw[h x (by simp[Op.operands]),h y (by simp[Op.operands])]
 ·rfl
theorem ck.eS {E:Env} {N:Nat} {o:Oper} {s:Sl} {L:List aq} {x:AV} (h:eS E.P E.T s o.op=some x):ck E.toCx N o s L x:=
 ck.oC λ_ _ _ hs=>aeY (P:=E.P) E.tok hs.sg (by rw[acm λp hp=>fV hp];exact h)
def bytesOf:List (List AV)->Option (List UInt8)
 |[]=>some []
 |[.v (.int .u8 n)]::r=>match bytesOf r with
  |some bs=>some (UInt8.ofNat n.toNat::bs)
  |none=>none
 |_=>none
theorem Pe {w:World} {A:Nat->Prop}:∀{rows:List (List AV)} {bs:List UInt8} {vs:List Value},bytesOf rows=some bs->bq w A 1 rows vs->∃ns:List Int,vs=ns.map (Value.int .u8)/\bs=ns.map (λn=>UInt8.ofNat n.toNat)/\ns.length=rows.length
 |[],bs,vs,h,hr=>by
  simp only[bytesOf,aE]at h;subst h;simp only[bq]at hr;subst hr;exact⟨[],rfl,rfl,rfl⟩
 |x::r,bs,vs,h,hr=>by
  unfold bytesOf at h;split at h
  ·rename_i heq;cases heq
  ·rename_i n r' heq;cases heq;split at h
   ·rename_i bs' h1;cases h;simp only[bq,aL]at hr;obtain⟨v1,v2,rfl,_,⟨v,r0,rfl,h2,rfl⟩,h3⟩:=hr;simp only[Rel]at h2;subst h2;obtain⟨ns,rfl,rfl,h4⟩:=Pe h1 h3;exact⟨n::ns,rfl,rfl,by simp[h4]⟩
   ·cases h
  ·cases h
theorem foldl_push:∀(ns:List Int) (s:ByteArray),ns.foldl (λr n=>r.push (UInt8.ofNat n.toNat)) s=⟨⟨s.data.toList++ns.map (λn=>UInt8.ofNat n.toNat)⟩⟩
 |[],s=>by simp
 |n::ns,s=>by rw[OI,foldl_push ns];simp[ByteArray.push]
theorem aaT {E:Env} {N:Nat} {O:Sg} {L:List aq} {o:Oper} {ts td e sz by' sz' by'' sz2 by2:Nat} {z z' z2:List Value} {x:Operand} (ho:o.op= .convert ts td x) {rows:List (List AV)} {bs:List UInt8} (hx:ev (look O) x=some (.sl 1 rows)) (hs:bc E.T ts=some ⟨.slice e 1,sz,by',z⟩) (he:bc E.T e=some ⟨.int .u8,sz',by'',z'⟩) (hd:bc E.T td=some ⟨.str,sz2,by2,z2⟩)
  (hb:bytesOf rows=some bs):pv E.toCx N o O L (.v (.string ⟨⟨bs⟩⟩)):=λF a w hst=>by
 have h1:=bH hst.sg hx;obtain⟨hu,_,_⟩:=kO (E.tok _ _ hs) rfl;have hud:E.P.underlying td=some .string:=by
  obtain⟨u,_,hu,_,hd',_⟩:=fx (E.tok _ _ hd);cases u<;>simp[iu]at hd';exact hu
 have hue:E.P.underlying e=some (.int .u8):=by
  obtain⟨u,_,hu,_,hd',_⟩:=fx (E.tok _ _ he);cases u<;>simp[iu]at hd';subst hd';exact hu
 refine⟨.string ⟨⟨bs⟩⟩,by simp only[Rel],λw' hw'=>?_⟩;simp only[Rel]at h1;rcases h1 with⟨rfl,ad,cap,e1⟩|⟨b,off,cap,vs,e1,e2,_,_,e3,e4⟩
 ·simp only[bytesOf,aE]at hb;subst hb;have h3:(Conv.bytesToString (.slice ad 0 cap)).run E.P w'= .ok (.string ⟨⟨[]⟩⟩) w':=by
   cases ad with
   |none=>rfl
   |some ad=>have:=run_bytesToString (P:=E.P) w' ad 0 cap [] (by have:=run_loadCells_list (P:=E.P) w' ad [] (by simp);simpa using this);exact this
  simp[execOp,ho,e1,run_convert_bytes_string w' ts td e ad 0 cap hu hue hud,h3]
 ·obtain⟨ns,rfl,rfl,hl⟩:=Pe hb e3;have h3:(Conv.bytesToString (.slice (some ⟨b,off,none⟩) rows.length cap)).run E.P w'= .ok (.string ⟨⟨ns.map λn=>UInt8.ofNat n.toNat⟩⟩) w':=by
   have:=run_bytesToString (P:=E.P) w' ⟨b,off,none⟩ rows.length cap ns (by
    have:=run_loadCells_list (P:=E.P) w' ⟨b,off,none⟩ (ns.map (Value.int .u8)) (λj v hj=>by rw[Addr.add_lit];exact hw'.cell (e4 j v hj));rw[ja,hl]at this;exact this)
   rw[foldl_push]at this;simpa using this
  simp[execOp,ho,e1,run_convert_bytes_string w' ts td e _ _ cap hu hue hud,h3]
def mw (G:Gl) (T:cn) (s:Sl):Op->Option AV
 | .load t p=>match ev s p,bc T t with
  |some (.v (.pointer (some ⟨g,off,none⟩))),some ⟨d,_,_,_⟩=>match d.agg,wI G g with
   |false,some vs=>match nth vs off with
    |some u=>some (.v u)
    |none=>none
   |_,_=>none
  |_,_=>none
 | .convert ts td x=>match ev s x,bc T ts,bc T td with
  |some (.sl k rows),some ⟨.slice e k',_,_,_⟩,some ⟨.str,_,_,_⟩=>match Nat.beq k 1,Nat.beq k' 1,bc T e,bytesOf rows with
   |true,true,some ⟨.int .u8,_,_,_⟩,some bs=>some (.v (.string ⟨⟨bs⟩⟩))
   |_,_,_,_=>none
  |_,_,_=>none
 |_=>none
theorem ck.mw {E:Env} {N:Nat} {o:Oper} {s:Sl} {L:List aq} {x:AV} (h:mw E.G E.T s o.op=some x):ck E.toCx N o s L x:=by
 refine ck.oC ?_;unfold Bw.mw at h;split at h
 ·rename_i t p ho;split at h
  ·rename_i g off d k b z hp ht;split at h
   ·rename_i vs hd hg;split at h
    ·rename_i u hu;simp only[aE]at h;subst h;rw[cM]at hu;exact acn ho (by rw[fV (by simp[ho,Op.operands])];exact hp) hg hu ht hd
    ·cases h
   ·cases h
  ·cases h
 ·rename_i ts td p ho;split at h
  ·rename_i k rows e k' sz by' z sz2 by2 z2 hp hs hd;split at h
   ·rename_i hk hk' he hb;cases h;have:=bQ hk;subst this;have:=bQ hk';subst this;exact aaT ho (by rw[fV (by simp[ho,Op.operands])];exact hp) hs he hd hb
   ·cases h
  ·cases h
 ·cases h
theorem ck.len {E:Env} {N:Nat} {o:Oper} {s:Sl} {L:List aq} {t:TypeId} {x:Operand} {y:AV} {n:Int} (ho:o.op= .call {callee:= .builtin .len,args:= #[x],argTypes:= #[t]}) (hx:ev s x=some y) (hl:wG E.T t y=some n):ck E.toCx N o s L (.v (.int .i64 n)):=
 ck.oC (aeZ ho (by rw[fV (by simp[ho,Op.operands,Call.operands])];exact hx) hl)
def vq:Option AV->Option Bool
 |some (.v (.slice none _ _))=>some true
 |some (.v (.slice (some _) _ _))=>some false
 |some (.sl _ (_::_))=>some false
 |_=>none
def qB:Option AV->Option Bool
 |some (.v (.bool b))=>some b
 |_=>none
theorem Ex {x:Option AV} {b:Bool} (h:qB x=some b):x=some (.v (.bool b)):=by
 unfold qB at h;split at h
 ·simp only[aE]at h;subst h;rfl
 ·cases h
def qG:Option AV->Option (IntKind×Int)
 |some (.v (.int k n))=>some (k,n)
 |_=>none
theorem E0 {x:Option AV} {k:IntKind} {n:Int} (h:qG x=some (k,n)):x=some (.v (.int k n)):=by
 unfold qG at h;split at h
 ·simp only[aE,cR]at h;obtain⟨rfl,rfl⟩:=h;rfl
 ·cases h
def fi (P:Program) (s:Sl):Op->Option AV
 | .binOp .eql t x y _=>match P.underlying t,vq (ev s x),ev s y with
  |some (.slice _),some b,some (.v (.slice none 0 0))=>some (.v (.bool b))
  |some .bool,_,_=>match qB (ev s x),qB (ev s y)with
   |some a,some b=>some (.v (.bool (a==b)))
   |_,_=>none
  |_,_,_=>none
 | .binOp .neq t x y _=>match P.underlying t,vq (ev s x),ev s y with
  |some (.slice _),some b,some (.v (.slice none 0 0))=>some (.v (.bool !b))
  |some .bool,_,_=>match qB (ev s x),qB (ev s y)with
   |some a,some b=>some (.v (.bool !(a==b)))
   |_,_=>none
  |_,_,_=>none
 | .call {callee:= .builtin .min,args:=as,argTypes:=_}=>match as.toList with
  |[x,y]=>match qG (ev s x),qG (ev s y)with
   |some (k,a),some (_,b)=>some (.v (.int k (if b<a then b else a)))
   |_,_=>none
  |_=>none
 | .call {callee:= .builtin .max,args:=as,argTypes:=_}=>match as.toList with
  |[x,y]=>match qG (ev s x),qG (ev s y)with
   |some (k,a),some (_,b)=>some (.v (.int k (if b>a then b else a)))
   |_,_=>none
  |_=>none
 |_=>none
section
variable {w:World} {A:Nat->Prop} {N:Nat} {a:Act} {s:Sl} {P:Program}
theorem Qq (hs:gM w A N a s) {x:Operand} {b:Bool} (h:vq (ev s x)=some b):∃ad n c,a.eval x= .slice ad n c/\ad.isNone=b:=by
 unfold vq at h;split at h
 ·rename_i n c hx;have:=bH hs hx;simp only[Rel]at this;cases h;exact⟨none,n,c,this,rfl⟩
 ·rename_i ad n c hx;have:=bH hs hx;simp only[Rel]at this;cases h;exact⟨some ad,n,c,this,rfl⟩
 ·rename_i k r rows hx;have:=bH hs hx;simp only[Rel]at this;cases h;rcases this with⟨h1,_⟩|⟨b,o,cap,vs,h1,_⟩
  ·cases h1
  ·exact⟨_,_,_,h1,rfl⟩
 ·cases h
theorem Ef {t e:TypeId} (hu:P.underlying t=some (.slice e)) (ad:Option Addr) (n c:Nat) (w:World):(Op.equal t (.slice ad n c) (.slice none 0 0)).run P w= .ok ad.isNone w:=by
 have h3:Op.equal t (.slice ad n c) (.slice none 0 0)=Op.equalIn (9999+1) t (.slice ad n c) (.slice none 0 0):=rfl;rw[h3];unfold Op.equalIn;cases ad<;>simp[run_underlying hu]
theorem ae0 (hs:gM w A N a s) {o:Oper} {x:AV} (h:fi P s o.op=some x):∃v,Rel w A x v/\∀w',(execOp a.eval o).run P w'= .ok (.value v) w':=by
 obtain⟨dst,op,ty,pos,after,gd⟩:=o;unfold fi at h;simp only at h;split at h
 ·rename_i t x y yt;split at h
  ·rename_i e b hu hx hy;simp only[aE]at h;subst h;obtain⟨ad,n,c,h1,rfl⟩:=Qq hs hx;have h2:=bH hs hy;simp only[Rel]at h2;refine⟨_,gJ _,λw'=>?_⟩;have h3:binOp .eql t (.slice ad n c) (.slice none 0 0)=(do pure (.bool (<-Op.equal t (.slice ad n c) (.slice none 0 0))):Sem Value):=rfl;simp[execOp,h1,h2,eqGuard,h3,Ef hu]
  ·rename_i hu;split at h
   ·rename_i p q hx hy;simp only[aE]at h;subst h;have h1:=bH hs (Ex hx);have h2:=bH hs (Ex hy);simp only[Rel]at h1 h2;refine⟨_,gJ _,λw'=>?_⟩;have h3:binOp .eql t (.bool p) (.bool q)=(do pure (.bool (<-Op.equal t (.bool p) (.bool q))):Sem Value):=rfl;have h4:Op.equal t (.bool p) (.bool q)=Op.equalIn (9999+1) t (.bool p) (.bool q):=rfl;simp[execOp,h1,h2,eqGuard,h3,h4,run_equalIn_bool' w' 9999 t p q hu]
   ·cases h
  ·cases h
 ·rename_i t x y yt;split at h
  ·rename_i e b hu hx hy;simp only[aE]at h;subst h;obtain⟨ad,n,c,h1,rfl⟩:=Qq hs hx;have h2:=bH hs hy;simp only[Rel]at h2;refine⟨_,gJ _,λw'=>?_⟩;have h3:binOp .neq t (.slice ad n c) (.slice none 0 0)=(do pure (.bool (!(<-Op.equal t (.slice ad n c) (.slice none 0 0)))):Sem Value):=rfl;simp[execOp,h1,h2,eqGuard,h3,Ef hu]
  ·rename_i hu;split at h
   ·rename_i p q hx hy;simp only[aE]at h;subst h;have h1:=bH hs (Ex hx);have h2:=bH hs (Ex hy);simp only[Rel]at h1 h2;refine⟨_,gJ _,λw'=>?_⟩;have h3:binOp .neq t (.bool p) (.bool q)=(do pure (.bool (!(<-Op.equal t (.bool p) (.bool q)))):Sem Value):=rfl;have h4:Op.equal t (.bool p) (.bool q)=Op.equalIn (9999+1) t (.bool p) (.bool q):=rfl;simp[execOp,h1,h2,eqGuard,h3,h4,run_equalIn_bool' w' 9999 t p q hu]
   ·cases h
  ·cases h
 ·rename_i as ts;obtain⟨as⟩:=as;split at h
  ·rename_i x y he;simp only at he;subst he;split at h
   ·rename_i k p k' q hx hy;simp only[aE]at h;subst h;have h1:=bH hs (E0 hx);have h2:=bH hs (E0 hy);simp only[Rel]at h1 h2;refine⟨_,gJ _,λw'=>?_⟩;simp[execOp,resolve,invoke,builtin,h1,h2,Builtin.min_,Builtin.min2]
   ·cases h
  ·cases h
 ·rename_i as ts;obtain⟨as⟩:=as;split at h
  ·rename_i x y he;simp only at he;subst he;split at h
   ·rename_i k p k' q hx hy;simp only[aE]at h;subst h;have h1:=bH hs (E0 hx);have h2:=bH hs (E0 hy);simp only[Rel]at h1 h2;refine⟨_,gJ _,λw'=>?_⟩;simp[execOp,resolve,invoke,builtin,h1,h2,Builtin.max_,Builtin.max2]
   ·cases h
  ·cases h
 ·cases h
theorem aco {s s':Sl} {op:Op} (h:∀p∈op.operands.toList,ev s' p=ev s p):fi P s' op=fi P s op:=by
 unfold fi;split
 ·rename_i t x y yt;rw[h x (by simp[Op.operands]),h y (by simp[Op.operands])]
 ·rename_i t x y yt;rw[h x (by simp[Op.operands]),h y (by simp[Op.operands])]
 ·rename_i as ts;obtain⟨as⟩:=as;simp only;split
  ·rename_i _ x y;rw[h x (by simp[Op.operands,Call.operands]),h y (by simp[Op.operands,Call.operands])]
  ·rfl
 ·rename_i as ts;obtain⟨as⟩:=as;simp only;split
  ·rename_i _ x y;rw[h x (by simp[Op.operands,Call.operands]),h y (by simp[Op.operands,Call.operands])]
  ·rfl
 ·rfl
end
theorem ck.fi {E:Env} {N:Nat} {o:Oper} {s:Sl} {L:List aq} {x:AV} (h:fi E.P s o.op=some x):ck E.toCx N o s L x:=
 ck.oC λ_ _ _ hs=>(ae0 (P:=E.P) hs.sg (by rw[aco λp hp=>fV hp];exact h)).imp λ_ h=>⟨h.1,λw' _=>h.2 w'⟩
