/- The program logic, tenth part: operations that yield one value, told of slots as a function; facts about what is handed on; calls that are handed a part of the heap; loops by rounds. -/
import Derived.Test.YtnocmolegijmkaaGreatKB8
import Derived.LoopN
import Derived.Laws.StructEq
set_option linter.all false
noncomputable section
namespace Go.Bw
open Go
section
variable {C:Cx} {N:Nat} {o:Oper} {s:Sl} {L:List aj} {x:AV}
def cV (s:Sl):List Nat->Sg
 |[]=>[]
 |t::ts=>match s t with
  |some x=>(t,x)::cV s ts
  |none=>cV s ts
theorem jz {s:Sl}:∀{ts:List Nat} {t:Nat} {x:AV},look (cV s ts) t=some x->t∈ts/\s t=some x
 |[],t,x,h=>by simp[cV,look]at h
 |u::ts,t,x,h=>by
  simp only[cV]at h;split at h
  ·rename_i y hy;simp only[look]at h;cases hb:Nat.beq u t with
   |true=>
    rw[hb]at h;simp only[ax]at h;subst h;have:=bg hb;subst this;exact⟨by simp,hy⟩
   |false=>rw[hb]at h;obtain⟨h1,h2⟩:=jz h;exact⟨by simp[h1],h2⟩
  ·obtain⟨h1,h2⟩:=jz h;exact⟨by simp[h1],h2⟩
theorem pZ {s:Sl}:∀{ts:List Nat} {t:Nat},t∈ts->look (cV s ts) t=s t
 |[],t,h=>by cases h
 |u::ts,t,h=>by
  simp only[cV];by_cases hut:u=t
  ·subst hut;split
   ·rename_i y hy;simp[look,hy]
   ·rename_i hy;cases hl:look (cV s ts) u with
    |none=>exact hy.symm
    |some z=>rw[(jz hl).2]at hy;cases hy
  ·have ht:t∈ts:=by simpa[iP hut]using h
   have hb:Nat.beq u t=false:=by cases hb:Nat.beq u t with
    |false=>rfl
    |true=>exact absurd (bg hb) hut
   split
   ·simp only[look,hb];exact pZ ht
   ·exact pZ ht
theorem bB.mI (h:nZ C N o (cV s (tmpsOf o)) L x):bB C N o s L x:=λF w a hN hd hh hs K Q k=>by
 have hst:St C.G N w F a (cV s (tmpsOf o)) L:=⟨⟨hN,λt y hy=>by obtain⟨h1,h2⟩:=jz hy;exact hs t h1 y h2⟩,hh,hd⟩;obtain⟨v,h1,h2⟩:=h F a w hst;unfold Oper.wp;rw[h2 w (ki.refl w),Oper.upon_value];exact k v w h1 (gg.refl w)
theorem eV {p:Operand} (h:p∈o.op.operands.toList):ev (look (cV s (tmpsOf o))) p=ev s p:=by
 cases p with
 |tmp t=>exact pZ (M3.2 ⟨.tmp t,h,rfl⟩)
 |const v=>rfl
 |global g=>rfl
 |func f=>rfl
theorem qk {s s':Sl}:∀{l:List Operand},(∀p∈l,ev s' p=ev s p)->gY s' l=gY s l
 |[],_=>rfl
 |p::l,h=>by simp only[gY,h p (by simp),qk (l:=l) λq hq=>h q (by simp[hq])]
theorem F6 {s s':Sl} {fs:List (Nat×Nat×Nat×Bool)}:∀{l:List (Nat×Operand)} {cs:List AV},(∀p∈l,ev s' p.2=ev s p.2)->lT fs s' cs l=lT fs s cs l
 |[],_,_=>rfl
 |(i,p)::l,cs,h=>by
  simp only[lT,h (i,p) (by simp)];split
  ·split
   ·exact F6 λq hq=>h q (by simp[hq])
   ·rfl
  ·rfl
theorem Ar {s s':Sl} {k:Nat}:∀{l:List (Nat×Operand)} {cs:List AV},(∀p∈l,ev s' p.2=ev s p.2)->dY k s' cs l=dY k s cs l
 |[],_,_=>rfl
 |(i,p)::l,cs,h=>by
  simp only[dY,h (i,p) (by simp)];split
  ·split
   ·exact Ar λq hq=>h q (by simp[hq])
   ·rfl
  ·rfl
theorem OT {T:bD} {s s':Sl} {op:Op} (h:∀p∈op.operands.toList,ev s' p=ev s p):cj T s' op=cj T s op:=by
 cases op with
 |makeFunc f a c=>
  have h1:gY s' a.toList=gY s a.toList:=qk λp hp=>h p (by simp[Op.operands]at hp⊢;exact .inl hp);have h2:gY s' c.toList=gY s c.toList:=qk λp hp=>h p (by simp[Op.operands]at hp⊢;exact .inr hp);cases f<;>simp only[cj,h1,h2]
 |build t ps=>
  simp only[cj];split
  ·rw[F6 λp hp=>h p.2 (by simp only[Op.operands,dk];exact⟨p,hp,rfl⟩)]
  ·rfl
 |move x=>exact h x (by simp[Op.operands])
 |assign x=>exact h x (by simp[Op.operands])
 |pick c a b=>simp only[cj,h c (by simp[Op.operands]),h a (by simp[Op.operands]),h b (by simp[Op.operands])]
 |binOp bop ot x y yt=>simp only[cj,h x (by simp[Op.operands]),h y (by simp[Op.operands])]
 |unOp u t x=>cases u<;>simp only[cj,h x (by simp[Op.operands])]
 |extract x i=>simp only[cj,h x (by simp[Op.operands])]
 |field t x f=>simp only[cj,h x (by simp[Op.operands])]
 |fieldAddr t x f=>simp only[cj,h x (by simp[Op.operands])]
 |typeAssert x xt t ok=>simp only[cj,h x (by simp[Op.operands])]
 |nilCheck x=>simp only[cj,h x (by simp[Op.operands])]
 |load t x=>simp only[cj,h x (by simp[Op.operands])]
 |makeInterface t x=>simp only[cj,h x (by simp[Op.operands])]
 |convert a b x=>simp only[cj,h x (by simp[Op.operands])]
 |_=>rfl
theorem bB.cj {E:Env} (h:cj E.T s o.op=some x):bB E.toCx N o s L x:=
 bB.mI (Ry (by rw[OT λp hp=>eV hp];exact h))
theorem bE.nY {Q:AQ} {O:Sg} {ops:Array Oper} {rest:List Oper} (hg:o.guard=none) (hd:b8 N o.dst=true) (h:bB C N o (look O) L x) (k:bE C N ops rest Q (lZ o.dst x O) L):bE C N ops (o::rest) Q O L:=
 λF w0 η0 a w hs hx=>wpList_plain hg λK hK=>by
  refine h F w a hs.sg.1 hs.df hs.hp (λt _ y hy=>hs.sg.2 t y hy) _ _ λv w' hv hc=>?_;exact hK _ _ (k F w0 η0 _ w' (hs.put hc.ext (hs.hp.later hc.2.2.2) hd hv) (hx.trans hc.ext))
theorem bE.rW {Q:AQ} {O:Sg} {ops:Array Oper} {rest:List Oper} {cells:List AV} {d:Nat} (hg:o.guard=none) (hd:o.dst=some d) (hdN:Nat.blt d N=true) (h:eR C N o (look O) L cells)
  (k:∀b,bE C N ops rest Q ((d,.own L.length b 0)::O) (L++[.box b cells])):bE C N ops (o::rest) Q O L:=
 λF w0 η0 a w hs hx=>wpList_plain hg λK hK=>by
  refine h F w a hs.sg.1 hs.df hs.hp (λt _ y hy=>hs.sg.2 t y hy) _ _ λvs e hv=>?_;have hext:=mi w (.cells vs.toArray e) L (.box w.heap.size cells) (by simp[aj.ids]);have hh:bh C.G (w.alloc (.cells vs.toArray e)) F (L++[.box w.heap.size cells]):=by
   refine hs.hp.push (by simp) (λb hb=>jZ w _ b hb) (by simp[aj.ids]) (by simp[aj.ids]) ?_;exact⟨e,vs,kJ w _,hv.aX hext.keeps⟩
  have:=hK _ _ (k w.heap.size F w0 η0 _ _ (hs.put (dst:=o.dst) (x:= .own L.length w.heap.size 0) (v:= .pointer (some ⟨w.heap.size,0,none⟩)) hext hh (by rw[hd];exact hdN) (by simp only[Rel])|>λz=>by rw[hd]at z;exact z) (hx.trans hext));rw[hd];exact this
end
section
variable {E:Env} {N:Nat} {o:Oper} {s:Sl} {L:List aj}
theorem L3 {w:World} {A:Nat->Prop} {a:Act} (hN:a.tmps.size=N) (hs:kg w A N a o s) {p:Operand} (hp:p∈o.op.operands.toList) {x:AV} (h:ev s p=some x):Rel w A x (a.eval p):=by
 cases p with
 |tmp t=>exact(hs t (M3.2 ⟨.tmp t,hp,rfl⟩) x h).2
 |const v=>simp only[ev,ax]at h;subst h;simp[Rel,Act.eval]
 |global g=>simp only[ev,ax]at h;subst h;simp[Rel,Act.eval]
 |func f=>simp only[ev,ax]at h;subst h;simp[Rel,Act.eval]
theorem eR.box {t:TypeId} {x:Operand} {y:AV} (ho:o.op= .box t x) (hx:ev s x=some y):eR E.toCx N o s L (bW y):=λF w a hN _ _ hs K Q k=>by
 have hr:=L3 hN hs (by simp[ho,Op.operands]) hx;have:=k (a.eval x).cells.toList t (sH hr);unfold Oper.wp;have hrun:(execOp a.eval o).run E.P w= .ok (.value (.pointer (some ⟨w.heap.size,0,none⟩))) (w.alloc (.cells (a.eval x).cells t)):=by simp[execOp,ho,Instr.box,newVar,newRow]
 rw[hrun,Oper.upon_value];simpa using this
theorem eR.alloc {t:TypeId} {d:TD} {sz by':Nat} {z:List Value} (ho:o.op= .alloc t) (ht:aP E.T t=some ⟨d,sz,by',z⟩):eR E.toCx N o s L (z.map .v):=λF w a hN _ _ hs K Q k=>by
 obtain⟨_,ti,_,hi,_,_,_,zv,hz1,hz2⟩:=dW (E.tok _ _ ht);have hzc:zv.cells=z.toArray:=by apply iQ;simpa using hz2
 have:=k z t (mh _);unfold Oper.wp;have hrun:(execOp a.eval o).run E.P w= .ok (.value (.pointer (some ⟨w.heap.size,0,none⟩))) (w.alloc (.cells z.toArray t)):=by
  simp[execOp,ho,Instr.alloc,zeroValue,typeInfo,hi,hz1,newVar,newRow,hzc]
 rw[hrun,Oper.upon_value];exact this
theorem eR.frozen {C:Cx} {cells:List AV} (h:eR C N o s L cells):bB C N o s L (.ip cells):=λF w a hN hd hh hs K Q k=>by
 refine h F w a hN hd hh hs K Q λvs e hv=>?_;have hc:gg w (w.alloc (.cells vs.toArray e)):=⟨⟨rfl,.of (bC _)⟩,rfl,rfl,by simp,λb hb=>jZ w _ b hb⟩;refine k _ _ ?_ hc;simp only[Rel];refine⟨w.heap.size,0,vs,rfl,⟨by simp,?_,λhm=>?_⟩,hv.aX (hc.ext (L:=L)).keeps,λj u hj=>?_⟩
 ·exactλhF=>absurd (hh.bound _ hF) (FA _)
 ·exact absurd (hh.lt _ hm) (FA _)
 ·exact p0 (kJ w _) _ _ (by simpa using hj)
theorem bB.lit {t:TypeId} {n:Nat} {parts:Array (Nat×Operand)} {e k sz by' sz' by'':Nat} {z z':List Value} {td':TD} {cells:List AV} (ho:o.op= .buildSlice t n parts)
  (ht:aP E.T t=some ⟨.slice e k,sz,by',z⟩) (hte:aP E.T e=some ⟨td',sz',by'',z'⟩) (hf:dY k s (fN n (z'.map .v)) parts.toList=some cells) (hb:Nat.ble (n*k) 16777216=true) (hk:Nat.ble 1 k=true):
  bB E.toCx N o s L (.sl k (chunk n k cells)):=λF w a hN hd hh hs K Q kk=>by
 have hst:St E.G N w F a (cV s (tmpsOf o)) L:=⟨⟨hN,λt y hy=>by obtain⟨h1,h2⟩:=jz hy;exact hs t h1 y h2⟩,hh,hd⟩;have hf':dY k (look (cV s (tmpsOf o))) (fN n (z'.map .v)) parts.toList=some cells:=by
  rw[Ar λp hp=>eV (by rw[ho];simp only[Op.operands,dk];exact⟨p,hp,rfl⟩)];exact hf
 obtain⟨us,h1,h2,h3⟩:=A3 (d:=o.dst) (ty:=o.type) (pos:=o.pos) (after:=o.after) (gd:=o.guard) ht hte hf' hb hk hst;have hk:=dj hk;have hb:=dj hb;have ho':o=⟨o.dst,.buildSlice t n parts,o.type,o.pos,o.after,o.guard⟩:=by rw[<-ho]
 rw[<-ho']at h1;unfold Oper.wp;rw[h1,Oper.upon_value];have hc:gg w (w.alloc (.cells us e)):=⟨⟨rfl,.of (bC _)⟩,rfl,rfl,by simp,λb hb=>jZ w _ b hb⟩;refine kk _ _ ?_ hc;simp only[Rel];refine .inr ⟨w.heap.size,0,n,us.toList,by rw[fH],⟨by simp,λhF=>absurd (hh.bound _ hF) (FA _),λhm=>absurd (hh.lt _ hm) (FA _)⟩,by rw[fH];exact bC _,?_,h2.aX (hc.ext (L:=L)).keeps,λj u hj=>?_⟩
 ·have:n<=n*k:=z7 n hk;simp only[maxLen];omega
 ·have h4:(w.alloc (.cells us e)).heap[w.heap.size]? =some (.cells us.toList.toArray e (0,0)):=by simpa using kJ w (.cells us e)
  exact p0 h4 _ _ (by simpa using hj)
theorem bB.pure {C:Cx} {f:Operand} {args:List Operand} {g:FuncId} {xs:List AV} {res:AV} {tys:Array TypeId} (ho:o.op= .call {callee:= .value f,args:=args.toArray,argTypes:=tys})
  (h:Pure C g xs (.ret res)) (hc:callee s f args=some (g,xs)):bB C N o s L res:=λF w a hN hd hh hs K Q k=>by
 have cm:o.op.operands.toList=f::args\/∀p,p=f\/p∈args->p∈o.op.operands.toList:=by
  right;rintro p hp;rw[ho];rcases hp with rfl|hp
  ·simp[Op.operands,Call.operands]
  ·simp[Op.operands,Call.operands,hp]
 have hmem:∀p,p=f\/p∈args->p∈o.op.operands.toList:=by
  rcases cm with h|h
  ·intro p hp;rw[h];simpa using hp
  ·exact h
 have hc':callee (look (cV s (tmpsOf o))) f args=some (g,xs):=by
  unfold callee at hc⊢;rw[eV (hmem f (.inl rfl)),qk λp hp=>eV (hmem p (.inr hp))];exact hc
 have hsl:eZ w (Al F L) N a (look (cV s (tmpsOf o))):=⟨hN,λt y hy=>by obtain⟨h1,h2⟩:=jz hy;exact hs t h1 y h2⟩;obtain⟨vs,h1,h2⟩:=sG (P:=C.P) hsl hc' (tys:=tys) (dst:=o.dst) (ty:=o.type) (pos:=o.pos) (after:=o.after) (gd:=o.guard) h.1;have ho':o=⟨o.dst,.call {callee:= .value f,args:=args.toArray,argTypes:=tys},o.type,o.pos,o.after,o.guard⟩:=by rw[<-ho]
 rw[<-ho']at h2;unfold Oper.wp;rw[h2 w,Oper.upon_enter];refine(h.run hh h1).mono ?_;rintro e w' ⟨⟨v,rfl,hv⟩,_,hext,hsame⟩;exact k v w' hv ⟨⟨hext.os,hext.drawn⟩,hext.tape,hext.output,hext.size,hsame⟩
theorem bh.facts {G:Gl} {w:World} {F:Nat->Prop} {L L':List aj} (h:bh G w F L) (hsub:(ids L').Sublist (ids L)) (hent:∀x∈L',x∈L\/∃y v,x= .fact y v/\Rel w (Al F L') y v):bh G w F L':=by
 have hs:∀b∈ids L',b∈ids L:=λb hb=>hsub.subset hb;have hkeep:cR w (Al F L) w (Al F L'):=⟨bC _,λb _ h=>⟨⟨h.1,λhm=>h.2 (hs b hm)⟩,rfl⟩⟩;refine⟨λx hx=>?_,hsub.nodup h.nodup,λb hb=>h.free b (hs b hb),h.bound,h.b0.aX hkeep⟩;rcases hent x hx with hx|⟨y,v,rfl,hr⟩
 ·exact(h.ec x hx).aX hkeep λ_ _=>rfl
 ·exact hr
theorem cR.sub {w:World} {F:Nat->Prop} {L L':List aj} (hs:∀b∈ids L',b∈ids L):cR w (Al F L) w (Al F L'):=
 ⟨bC _,λ_ _ h=>⟨⟨h.1,λhm=>h.2 (hs _ hm)⟩,rfl⟩⟩
theorem bE.TM {C:Cx} {Q:AQ} {O:Sg} {ops:Array Oper} {rest:List Oper} {f:Operand} {args:List Operand} {g:FuncId} {xs:List AV} {Q':AR->List aj->Prop} {tys:Array TypeId} {dst:Option Nat} {ty:TypeId} {pos:String} {after:Array Edge}
  (h:kX C g xs L Q') (hc:callee (look O) f args=some (g,xs)) (hd:b8 N dst=true) (k1:∀x L',Q' (.ret x) L'->bE C N ops rest Q (lZ dst x O) L') (k2:∀x L',Q' (.aJ x) L'->Q (.aJ x) [] L'):
  bE C N ops (⟨dst,.call {callee:= .value f,args:=args.toArray,argTypes:=tys},ty,pos,after,none⟩::rest) Q O L:=λF w0 η0 a w hs hx=>by
 unfold wpList;rw[ck (by simp[Region.wanted])];refine .inl ?_;obtain⟨vs,h1,h2⟩:=sG (P:=C.P) hs.sg hc (tys:=tys) (dst:=dst) (ty:=ty) (pos:=pos) (after:=after) (gd:=none) h.1;unfold Oper.wp;rw[h2 w,Oper.upon_enter];refine(h.2 F w vs hs.hp h1).mono ?_;rintro e w' ⟨r,L',hQ,hv,hh,hext⟩;cases r with
 |ret x=>
  obtain⟨v,rfl,hv⟩:=hv;exact k1 x L' hQ F w0 η0 _ w' (hs.put hext hh hd hv) (hx.trans hext)
 |aJ x=>
  obtain⟨v,rfl,hv⟩:=hv;exact⟨.aJ x,[],L',k2 x L' hQ,⟨v,rfl,hv⟩,⟨⟨hs.sg.1,λt x hx=>by simp[AE.sl,look]at hx⟩,hh,hs.df⟩,hx.trans hext⟩
def wT (C:Cx) (N:Nat) (c:Code) (Q:AQ):Nat->Sg->List aj->Prop
 |0=>λ_ _=>False
 |n+1=>bH C N c (AE.then (wT C N c Q n) Q)
theorem bH.rounds {C:Cx} {c:Code} {Q:AQ} {O:Sg} (n:Nat) (h:wT C N c Q n O L):bH C N (.loop c) Q O L:=λF w0 η0 a w hs hx=>by
 refine wp_loop_rounds n ?_;have key:∀n O L a w,wT C N c Q n O L->St C.G N w F a O L->Ext η0 w0 L w->Code.rounds C.P c (CQ C.G N F w0 η0 Q) n a w:=by
  intro n
  induction n with
  |zero=>intro O L a w h;exact h.elim
  |succ n ih=>
   intro O L a w h hs hx;rw[rounds_succ];refine wp_mono (h F w0 η0 a w hs hx) ?_;rintro e a' w' ⟨e0,O',L',h1,h2,h3,h4⟩;cases e0 with
   |norm=>simp only[AE.rel]at h2;subst h2;exact ih _ _ _ _ h1 h3 h4
   |exit i=>simp only[AE.rel]at h2;subst h2;exact⟨.exit i,O',L',h1,rfl,h3,h4⟩
   |ret=>simp only[AE.rel]at h2;subst h2;exact⟨.ret,O',L',h1,rfl,h3,h4⟩
   |aJ x=>obtain⟨v,rfl,h2⟩:=h2;exact⟨.aJ x,O',L',h1,⟨v,rfl,h2⟩,h3,h4⟩
 exact key n O L a w h hs hx
end
def lX:Option AV->Option Nat
 |some (.v (.int _ (.ofNat n)))=>some n
 |_=>none
def gU (s:Sl) (dflt:Nat):Option Operand->Option Nat
 |none=>some dflt
 |some o=>lX (ev s o)
def ya (P:Program):Nat->List Field->Bool
 |_,[]=>true
 |i,f::fs=>Nat.beq f.offset i&&f.name != "_" &&hasB P f.type&&(match P.underlying f.type with
   |some (.int _)=>true
   |some .bool=>true
   |some .string=>true
   |_=>false)&&ya P (i+1) fs
def um (P:Program) (t:TypeId) (n:Nat):Bool:=(match P.underlying t with
 |some (.struct fs)=>ya P 0 fs.toList&&Nat.beq fs.size n
 |_=>false)&& !P.stoodInHeld t&& !P.eqGuardType P.depth t
def kindOk (P:Program) (t:TypeId):Value->Bool
 | .int _ _=>match P.underlying t with
  |some (.int _)=>true
  |_=>false
 | .bool _=>match P.underlying t with
  |some .bool=>true
  |_=>false
 | .string _=>match P.underlying t with
  |some .string=>true
  |_=>false
 |_=>false
def nO (P:Program):List Field->List AV->List AV->Option Bool
 |[],[],[]=>some true
 |f::fs,.v x::xs,.v y::ys=>match kindOk P f.type x,kindOk P f.type y,nO P fs xs ys with
  |true,true,some c=>match x,y with
   | .int k a,.int k' b=>match decide (k=k')with
    |true=>some (a==b&&c)
    |false=>none
   | .bool a,.bool b=>some (a==b&&c)
   | .string a,.string b=>some (a.data.toList==b.data.toList&&c)
   |_,_=>none
  |_,_,_=>none
 |_,_,_=>none
def dD (P:Program) (T:bD) (s:Sl):Op->Option AV
 | .indexAddr t x ix=>match ev s x,lX (ev s ix),aP T t with
  |some (.sl k rows),some j,some ⟨.slice _ k',_,_,_⟩=>match Nat.beq k k',nth rows j with
   |true,some r=>some (.ip r)
   |_,_=>none
  |some (.v (.pointer (some ⟨b,off,none⟩))),some j,some ⟨.array m _ k _,_,_,_⟩=>match Nat.blt j m with
   |true=>some (.v (.pointer (some ⟨b,off+j*k,none⟩)))
   |false=>none
  |_,_,_=>none
 | .index t x ix=>match ev s x,lX (ev s ix),aP T t with
  |some (.v (.string b)),some j,some ⟨.str,_,_,_⟩=>match nth b.data.toList j with
   |some c=>some (.v (.int .u8 c.toNat))
   |none=>none
  |_,_,_=>none
 | .slice t x lo hi none=>match ev s x,aP T t with
  |some (.sl k rows),some ⟨.slice _ k',_,_,_⟩=>match gU s 0 lo,gU s rows.length hi with
   |some l,some h=>match Nat.beq k k'&&Nat.ble l h&&Nat.ble h rows.length with
    |true=>some (.sl k ((rows.take h).drop l))
    |false=>none
   |_,_=>none
  |some (.v (.string b)),some ⟨.str,_,_,_⟩=>match gU s 0 lo,gU s b.data.toList.length hi with
   |some l,some h=>match Nat.ble l h&&Nat.ble h b.data.toList.length with
    |true=>some (.v (.string ⟨((b.data.toList.take h).drop l).toArray⟩))
    |false=>none
   |_,_=>none
  |_,_=>none
 | .binOp .add _ x y _=>match ev s x,ev s y with
  |some (.v (.string a)),some (.v (.string b))=>match Nat.ble (a.data.toList.length+b.data.toList.length) 9223372036854775807 with
   |true=>some (.v (.string ⟨(a.data.toList++b.data.toList).toArray⟩))
   |false=>none
  |_,_=>none
 | .binOp .eql t x y _=>match ev s x,ev s y with
  |some (.agg xs),some (.agg ys)=>match um P t xs.length,P.underlying t with
   |true,some (.struct fs)=>match nO P fs.toList xs ys with
    |some c=>some (.v (.bool c))
    |none=>none
   |_,_=>none
  |_,_=>none
 | .binOp .neq t x y _=>match ev s x,ev s y with
  |some (.agg xs),some (.agg ys)=>match um P t xs.length,P.underlying t with
   |true,some (.struct fs)=>match nO P fs.toList xs ys with
    |some c=>some (.v (.bool !c))
    |none=>none
   |_,_=>none
  |_,_=>none
 |_=>none
section
variable {w:World} {A:Nat->Prop} {N:Nat} {a:Act} {s:Sl} {P:Program} {T:bD}
theorem vZ {o:Option AV} {n:Nat} (h:lX o=some n):∃k,o=some (.v (.int k (n:Int))):=by
 unfold lX at h;split at h
 ·rename_i k m;simp only[ax]at h;subst h;exact⟨k,rfl⟩
 ·cases h
theorem Hz (d:Nat):∀(fs:List Field) (i:Nat) {xs ys:List AV} {us vs:List Value} {c:Bool},ya P i fs=true->nO P fs (xs.drop i) (ys.drop i)=some c->aG w A xs us->aG w A ys vs->
  ∀w',(Op.eqFields (d+1) us.toArray vs.toArray fs).run P w'= .ok c w'
 |[],i,xs,ys,us,vs,c,_,h,_,_,w'=>by
  unfold nO at h;split at h
  ·simp only[ax]at h;subst h;simp[Op.eqFields]
  ·contradiction
  ·cases h
 |f::fs,i,xs,ys,us,vs,c,hB,h,hx,hy,w'=>by
  simp only[ya,bj,bne_iff_ne,ne_eq]at hB;obtain⟨⟨⟨⟨h1,h2⟩,h3⟩,h4⟩,h5⟩:=hB;have h1:=bg h1;unfold nO at h;split at h
  ·contradiction
  ·rename_i f' fs' x xs' y ys' hf hxs hys;simp only[jV]at hf;obtain⟨rfl,rfl⟩:=hf;have hxi:nth xs i=some (.v x):=by rw[b7];have:=congrArg (·[0]?) hxs;simpa using this
   have hyi:nth ys i=some (.v y):=by rw[b7];have:=congrArg (·[0]?) hys;simpa using this
   have hxd:xs.drop (i+1)=xs':=by have:=congrArg (List.drop 1) hxs;simpa[vB]using this
   have hyd:ys.drop (i+1)=ys':=by have:=congrArg (List.drop 1) hys;simpa[vB]using this
   obtain⟨u,hu,hu'⟩:=hx.nth hxi;obtain⟨v,hv,hv'⟩:=hy.nth hyi;simp only[Rel]at hu' hv';subst hu';subst hv';have hagg:l3 P f.type=false:=by
    unfold l3;split at h4<;>first|(rename_i hh;rw[hh])|(cases h4;done)
   have hpart:∀(zs:List Value) (z:Value),zs[i]? =some z->∀w',(part f.type zs.toArray f.offset).run P w'= .ok z w':=by
    intro zs z hz w';simp[part,A5 h3,hagg,h1,hz]
   split at h
   ·rename_i c' hk1 hk2 hc';rw[<-hxd,<-hyd]at hc';have ih:=Hz d fs (i+1) h5 hc' hx hy w';have fin:∀(q:Bool),(∀w',(Op.equalIn (d+1) f.type u v).run P w'= .ok q w')->(Op.eqFields (d+1) us.toArray vs.toArray (f::fs)).run P w'= .ok (q&&c') w':=by
     intro q hq;simp only[Op.eqFields,ne_eq,h2,not_false_eq_true,if_true,Sem.run_bind,hpart us u hu,hpart vs v hv,Result.andThen_ok,hq,Sem.run_ite];cases q
     ·simp
     ·simp[ih]
    split at h
    ·rename_i k a k' b;split at h
     ·rename_i hk;have hk:=zV hk;subst hk;simp only[ax]at h;subst h;refine fin _ λw'=>?_;simp only[kindOk]at hk1;split at hk1
      ·rename_i hh;exact run_equalIn_int w' d f.type k _ a b hh
      ·cases hk1
     ·cases h
    ·rename_i a b;simp only[ax]at h;subst h;refine fin _ λw'=>?_;simp only[kindOk]at hk1;split at hk1
     ·rename_i hh;exact run_equalIn_bool' w' d f.type a b hh
     ·cases hk1
    ·rename_i a b;simp only[ax]at h;subst h;refine fin _ λw'=>?_;simp only[kindOk]at hk1;split at hk1
     ·rename_i hh;rw[run_equalIn_string w' d f.type a b hh,ByteArray.toList_eq,ByteArray.toList_eq]
     ·cases hk1
    ·cases h
   ·cases h
  ·cases h
theorem Io {t:TypeId} {xs ys:List AV} {us vs:List Value} {fs:Array Field} {c:Bool} (hB:um P t xs.length=true) (hu:P.underlying t=some (.struct fs)) (h:nO P fs.toList xs ys=some c) (hx:aG w A xs us) (hy:aG w A ys vs) (x y:Operand):
  (∀w',(do eqGuard .eql t x y (.agg us.toArray) (.agg vs.toArray);binOp .eql t (.agg us.toArray) (.agg vs.toArray):Sem Value).run P w'= .ok (.bool c) w')/\
  ∀w',(do eqGuard .neq t x y (.agg us.toArray) (.agg vs.toArray);binOp .neq t (.agg us.toArray) (.agg vs.toArray):Sem Value).run P w'= .ok (.bool !c) w':=by
 simp only[um,hu,bj,lu]at hB;obtain⟨⟨⟨h1,h2⟩,h3⟩,h4⟩:=hB;have hfo:P.fieldsOf t=fs:=by simp[Program.fieldsOf,hu]
 have hr:∀w',(Op.equalIn 10000 t (.agg us.toArray) (.agg vs.toArray)).run P w'= .ok c w':=λw'=>by
  rw[show 10000=9998+1+1 from rfl,run_equalIn_agg w' (9998+1) t _ _ (by rw[hfo];exact hu) h3,hfo];exact Hz 9998 fs.toList 0 h1 (by simpa using h) hx hy w'
 refine⟨λw'=>?_,λw'=>?_⟩
 ·simp only[Sem.run_bind,run_eqGuard_agg w' .eql t x y _ _ h4,Result.andThen_ok,run_eql_struct,hr]
 ·simp only[Sem.run_bind,run_eqGuard_agg w' .neq t x y _ _ h4,Result.andThen_ok,run_neq_struct,hr]
theorem GP (hs:eZ w A N a s) {dflt:Nat} {o:Option Operand} {n:Nat} (h:gU s dflt o=some n):(o=none/\n=dflt)\/∃p k,o=some p/\a.eval p= .int k (n:Int):=by
 cases o with
 |none=>simp only[gU,ax]at h;exact .inl ⟨rfl,h.symm⟩
 |some p=>
  simp only[gU]at h;obtain⟨k,hk⟩:=vZ h;have:=a8 hs hk;simp only[Rel]at this;exact .inr ⟨p,k,rfl,this⟩
theorem AB (hs:eZ w A N a s) (isS:Bool) {len cap:Nat} {lo hi:Option Operand} {l h:Nat} (hl:gU s 0 lo=some l) (hh:gU s len hi=some h) (h1:l<=h) (h2:h<=len) (h3:len<=cap) (w':World):
  (Instr.sliceBounds isS len cap (lo.map a.eval) (hi.map a.eval) none).run P w'= .ok (l,h,cap) w':=by
 rcases GP hs hl with⟨rfl,rfl⟩|⟨p,k,rfl,hp⟩<;>rcases GP hs hh with⟨rfl,rfl⟩|⟨q,k',rfl,hq⟩
 ·simp[Instr.sliceBounds]
 ·have:h<=cap:=by omega
  cases isS<;>simp[Instr.sliceBounds,hq,Instr.sliceBound,asIntOf,this]
 ·simp[Instr.sliceBounds,hp,Instr.sliceBound,asIntOf,h1]
 ·have:h<=cap:=by omega
  cases isS<;>simp[Instr.sliceBounds,hp,hq,Instr.sliceBound,asIntOf,h1,this]
theorem bc.Kt {k:Nat}:∀{n:Nat} {rows:List (List AV)} {vs:List Value},bc w A k rows vs->bc w A k (rows.take n) (vs.take (n*k))
 |0,_,_,_=>by simp[bc]
 |n+1,[],_,h=>by simp only[bc]at h;subst h;simp[bc]
 |n+1,_::_,_,h=>by
  simp only[bc]at h;obtain⟨v1,v2,rfl,hk,h1,h2⟩:=h;simp only[vA,bc];refine⟨v1,v2.take (n*k),?_,hk,h1,h2.Kt⟩;have:v1.length=k:=by rw[h1.length,hk]
  rw[jx,Aa,List.take_append,M0 (by omega),this];congr 2;omega
theorem bc.Kv {k:Nat}:∀{n:Nat} {rows:List (List AV)} {vs:List Value},bc w A k rows vs->bc w A k (rows.drop n) (vs.drop (n*k))
 |0,_,_,h=>by simpa using h
 |n+1,[],_,h=>by simp only[bc]at h;subst h;simp[bc]
 |n+1,_::_,_,h=>by
  simp only[bc]at h;obtain⟨v1,v2,rfl,hk,h1,h2⟩:=h;simp only[List.drop_succ_cons];have:v1.length=k:=by rw[h1.length,hk]
  rw[show(n+1)*k=v1.length+n*k by rw[this,jx,Aa,vB],<-List.drop_drop,List.drop_left];exact h2.Kv
theorem extract_data (s:ByteArray) (l h:Nat):s.extract l h=⟨((s.data.toList.take h).drop l).toArray⟩:=by
 apply ByteArray.ext;rw[ByteArray.data_extract];apply iQ;simp[XZ,List.drop_take]
theorem NO (s t:ByteArray):s++t=⟨(s.data.toList++t.data.toList).toArray⟩:=by
 apply ByteArray.ext;rw[ByteArray.data_append];apply iQ;simp
theorem size_data (s:ByteArray):s.size=s.data.toList.length:=by cases s;rfl
theorem Qx (tok:tT P T) (hs:eZ w A N a s) {o:Oper} {x:AV} (h:dD P T s o.op=some x):
  ∃v,Rel w A x v/\∀w',ki w w'->(execOp a.eval o).run P w'= .ok (.value v) w':=by
 obtain⟨dst,op,ty,pos,after,gd⟩:=o;unfold dD at h;simp only at h;split at h
 ·--indexAddr
  rename_i t y ix;split at h
  ·rename_i k rows j e k' _ _ _ hy hj ht;split at h
   ·rename_i r hk hr;simp only[ax]at h;subst h;have hk:=bg hk;subst hk;obtain⟨kd,hj⟩:=vZ hj;obtain⟨hu,hke,hh⟩:=kK (tok _ _ ht) rfl;have h1:=a8 hs hy;have h2:=a8 hs hj;simp only[Rel]at h1 h2;rw[b7]at hr;have hlt:j<rows.length:=(cX.1 hr).1;rcases h1 with⟨rfl,_⟩|⟨b,off,cap,vs,e1,e2,e3,e4,e5,e6⟩
    ·simp at hlt
    ·obtain⟨h3,us,h4,h5⟩:=e5.get hr;refine⟨.pointer (some ⟨b,off+j*k,none⟩),?_,λw' _=>?_⟩
     rotate_left
     ·rw[hke];simp[execOp,e1,h2,Instr.indexAt,asIntOf,run_underlying hu,hlt,lD hh,Addr.add_lit]
     ·simp only[Rel];refine⟨b,off+j*k,us,rfl,e2,h4,λi u hi=>?_⟩;have:=e6 _ _ (h5 i u hi);rwa[<-Ab]at this
   ·cases h
  ·rename_i b off j m e k g _ _ _ hy hj ht;split at h
   ·rename_i hjm;simp only[ax]at h;subst h;rw[kG]at hjm;obtain⟨kd,hj⟩:=vZ hj;obtain⟨u,ti,hu,_,hd,_⟩:=dW (tok _ _ ht);cases u<;>simp only[fx,iN,bj,beq_iff_eq]at hd;obtain⟨⟨⟨⟨⟨rfl,rfl⟩,hk⟩,_⟩,hh⟩,_⟩:=hd;have h1:=a8 hs hy;have h2:=a8 hs hj;simp only[Rel]at h1 h2;refine⟨_,eX _,λw' _=>?_⟩;rw[hk];simp[execOp,h1,h2,Instr.indexAt,Instr.sureAddr,asIntOf,run_underlying hu,hjm,lD hh,Addr.add_lit]
   ·cases h
  ·cases h
 ·--index
  rename_i t y ix;split at h
  ·rename_i b j _ _ _ hy hj ht;split at h
   ·rename_i c hc;simp only[ax]at h;subst h;obtain⟨kd,hj⟩:=vZ hj;obtain⟨u,_,hu,_,hd,_⟩:=dW (tok _ _ ht);cases u<;>simp[fx]at hd;have h1:=a8 hs hy;have h2:=a8 hs hj;simp only[Rel]at h1 h2;refine⟨_,eX _,λw' _=>?_⟩;rw[b7]at hc;have hc':b[j]? =some c:=by
     obtain⟨hlt,he⟩:=cX.1 hc;rw[getElem?_pos b j (by rw[size_data];exact hlt),<-he];rfl
    simp[execOp,h1,h2,Instr.index,asIntOf,run_underlying hu,hc']
   ·cases h
  ·cases h
 ·--slice
  rename_i t y lo hi;split at h
  ·rename_i k rows e k' _ _ _ hy ht;split at h
   ·rename_i l hh hl hhh;split at h
    ·rename_i hB;simp only[ax]at h;subst h;simp only[bj]at hB;obtain⟨⟨hk,h1⟩,h2⟩:=hB;have hk:=bg hk;subst hk;have h1:=dj h1;have h2:=dj h2;obtain⟨hu,hke,hsz⟩:=kK (tok _ _ ht) rfl;have hy':=a8 hs hy;simp only[Rel]at hy';have hlen:((rows.take hh).drop l).length=hh-l:=by simp;omega
     rcases hy' with⟨rfl,ad,cap,e1⟩|⟨b,off,cap,vs,e1,e2,e3,e4,e5,e6⟩
     ·have hz:hh=0:=by simpa using h2
      subst hz;have hz:l=0:=by omega
      subst hz;refine⟨.slice (if cap=0 then ad else ad.map (·.add (0*fW P e))) 0 cap,?_,λw' _=>?_⟩
      ·simp only[Rel,List.take_zero,List.drop_nil];exact .inl ⟨trivial,_,_,rfl⟩
      ·have hb:=AB (P:=P) (cap:=cap) hs true hl hhh h1 h2 (mP _) w';simp only[mQ]at hb;simp only[execOp,e1,Instr.sliceAt,Instr.slice,Sem.run_bind,run_underlying hu,M1,hb,Result.andThen_ok,lD hsz,Sem.run_pure,MZ]
     ·have hb:=λw'=>AB (P:=P) hs true hl hhh h1 h2 e3 w';have hrun:∀w',(execOp a.eval ⟨dst,.slice t y lo hi none,ty,pos,after,gd⟩).run P w'= .ok (.value (.slice (if cap=l then some ⟨b,off,none⟩else some ⟨b,off+l*k,none⟩) (hh-l) (cap-l))) w':=λw'=>by
       simp only[execOp,e1,Instr.sliceAt,Instr.slice,Sem.run_bind,run_underlying hu,M1,hb w',Result.andThen_ok,lD hsz,Sem.run_pure,Option.map_some,Addr.add_lit];rw[<-hke]
      refine⟨_,?_,λw' _=>hrun w'⟩;simp only[Rel];by_cases hcl:cap=l
      ·left;refine⟨lv (by rw[hlen];omega),some ⟨b,off,none⟩,0,?_⟩;rw[ck hcl];congr 1<;>omega
      ·right;rw[bI hcl];refine⟨b,off+l*k,cap-l,(vs.take (hh*k)).drop (l*k),by rw[hlen],e2,by rw[hlen];omega,by omega,e5.Kt.Kv,λj u hj=>?_⟩;rw[su,kI]at hj;split at hj
       ·have:=e6 _ _ hj;rwa[<-Ab]at this
       ·cases hj
    ·cases h
   ·cases h
  ·rename_i b _ _ _ hy ht;split at h
   ·rename_i l hh hl hhh;split at h
    ·rename_i hB;simp only[ax]at h;subst h;simp only[bj]at hB;obtain⟨h1,h2⟩:=hB;have h1:=dj h1;have h2:=dj h2;obtain⟨u,_,hu,_,hd,_⟩:=dW (tok _ _ ht);cases u<;>simp[fx]at hd;have hy':=a8 hs hy;simp only[Rel]at hy';refine⟨_,eX _,λw' _=>?_⟩;have hb:=AB (P:=P) hs false hl hhh h1 h2 (bC _) w';rw[<-size_data]at hb;simp only[execOp,hy',Instr.sliceAt,Instr.slice,Sem.run_bind,run_underlying hu,M1,Option.isSome_none,iN,if_false,Sem.run_ite,Sem.run_pure,hb,Result.andThen_ok,extract_data]
    ·cases h
   ·cases h
  ·cases h
 ·--add
  rename_i t x' y' yt;split at h
  ·rename_i p q hp hq;split at h
   ·rename_i hle;simp only[ax]at h;subst h;have hle:=dj hle;have h1:=a8 hs hp;have h2:=a8 hs hq;simp only[Rel]at h1 h2;refine⟨_,eX _,λw' _=>?_⟩;have hlt:¬(((p.size+q.size:Nat):Int)>IntKind.i64.max):=by
     rw[size_data,size_data];have:IntKind.i64.max=9223372036854775807:=rfl;rw[this];omega
    simp only[execOp,h1,h2,eqGuard_at_string,binOp,Op.stringOp,bI hlt,Sem.run_bind,Sem.run_pure,Result.andThen_ok,NO]
   ·cases h
  ·cases h
 ·--eql
  rename_i t x' y' yt;split at h
  ·rename_i xs ys hp hq;split at h
   ·rename_i fs hB hu;split at h
    ·rename_i c hc;simp only[ax]at h;subst h;have h1:=a8 hs hp;have h2:=a8 hs hq;simp only[Rel]at h1 h2;obtain⟨us,h1,h1'⟩:=h1;obtain⟨vs,h2,h2'⟩:=h2;refine⟨_,eX _,λw' _=>?_⟩;have:=(Io hB hu hc h1' h2' x' y').1 w';simp only[execOp,h1,h2,Sem.run_bind]at this⊢;rw[this];simp
    ·cases h
   ·cases h
  ·cases h
 ·--neq
  rename_i t x' y' yt;split at h
  ·rename_i xs ys hp hq;split at h
   ·rename_i fs hB hu;split at h
    ·rename_i c hc;simp only[ax]at h;subst h;have h1:=a8 hs hp;have h2:=a8 hs hq;simp only[Rel]at h1 h2;obtain⟨us,h1,h1'⟩:=h1;obtain⟨vs,h2,h2'⟩:=h2;refine⟨_,eX _,λw' _=>?_⟩;have:=(Io hB hu hc h1' h2' x' y').2 w';simp only[execOp,h1,h2,Sem.run_bind]at this⊢;rw[this];simp
    ·cases h
   ·cases h
  ·cases h
 ·cases h
end
theorem OQ {P:Program} {T:bD} {s s':Sl} {op:Op} (h:∀p∈op.operands.toList,ev s' p=ev s p):dD P T s' op=dD P T s op:=by
 unfold dD;split
 ·rename_i t x ix;rw[h x (by simp[Op.operands]),h ix (by simp[Op.operands])]
 ·rename_i t x ix;rw[h x (by simp[Op.operands]),h ix (by simp[Op.operands])]
 ·rename_i t x lo hi;have h1:∀d,gU s' d lo=gU s d lo:=λd=>by
   cases lo with
   |none=>rfl
   |some p=>simp only[gU];rw[h p (by simp[Op.operands])]
  have h2:∀d,gU s' d hi=gU s d hi:=λd=>by
   cases hi with
   |none=>rfl
   |some p=>simp only[gU];rw[h p (by simp[Op.operands])]
  rw[h x (by simp[Op.operands])];simp only[h1,h2]
 ·rename_i t x y yt;rw[h x (by simp[Op.operands]),h y (by simp[Op.operands])]
 ·rename_i t x y yt;rw[h x (by simp[Op.operands]),h y (by simp[Op.operands])]
 ·rename_i t x y yt;rw[h x (by simp[Op.operands]),h y (by simp[Op.operands])]
 ·rfl
theorem bB.dD {E:Env} {N:Nat} {o:Oper} {s:Sl} {L:List aj} {x:AV} (h:dD E.P E.T s o.op=some x):bB E.toCx N o s L x:=
 bB.mI λ_ _ _ hs=>Qx (P:=E.P) E.tok hs.sg (by rw[OQ λp hp=>eV hp];exact h)
def bytesOf:List (List AV)->Option (List UInt8)
 |[]=>some []
 |[.v (.int .u8 n)]::r=>match bytesOf r with
  |some bs=>some (UInt8.ofNat n.toNat::bs)
  |none=>none
 |_=>none
theorem F5 {w:World} {A:Nat->Prop}:∀{rows:List (List AV)} {bs:List UInt8} {vs:List Value},bytesOf rows=some bs->bc w A 1 rows vs->∃ns:List Int,vs=ns.map (Value.int .u8)/\bs=ns.map (λn=>UInt8.ofNat n.toNat)/\ns.length=rows.length
 |[],bs,vs,h,hr=>by
  simp only[bytesOf,ax]at h;subst h;simp only[bc]at hr;subst hr;exact⟨[],rfl,rfl,rfl⟩
 |x::r,bs,vs,h,hr=>by
  unfold bytesOf at h;split at h
  ·rename_i heq;cases heq
  ·rename_i n r' heq;cases heq;split at h
   ·rename_i bs' h1;cases h;simp only[bc,aG]at hr;obtain⟨v1,v2,rfl,_,⟨v,r0,rfl,h2,rfl⟩,h3⟩:=hr;simp only[Rel]at h2;subst h2;obtain⟨ns,rfl,rfl,h4⟩:=F5 h1 h3;exact⟨n::ns,rfl,rfl,by simp[h4]⟩
   ·cases h
  ·cases h
theorem foldl_push:∀(ns:List Int) (s:ByteArray),ns.foldl (λr n=>r.push (UInt8.ofNat n.toNat)) s=⟨⟨s.data.toList++ns.map (λn=>UInt8.ofNat n.toNat)⟩⟩
 |[],s=>by simp
 |n::ns,s=>by rw[Fz,foldl_push ns];simp[ByteArray.push]
theorem NB {E:Env} {N:Nat} {O:Sg} {L:List aj} {o:Oper} {ts td e sz by' sz' by'' sz2 by2:Nat} {z z' z2:List Value} {x:Operand} (ho:o.op= .convert ts td x) {rows:List (List AV)} {bs:List UInt8} (hx:ev (look O) x=some (.sl 1 rows)) (hs:aP E.T ts=some ⟨.slice e 1,sz,by',z⟩) (he:aP E.T e=some ⟨.int .u8,sz',by'',z'⟩) (hd:aP E.T td=some ⟨.str,sz2,by2,z2⟩)
  (hb:bytesOf rows=some bs):nZ E.toCx N o O L (.v (.string ⟨⟨bs⟩⟩)):=λF a w hst=>by
 have h1:=a8 hst.sg hx;obtain⟨hu,_,_⟩:=kK (E.tok _ _ hs) rfl;have hud:E.P.underlying td=some .string:=by
  obtain⟨u,_,hu,_,hd',_⟩:=dW (E.tok _ _ hd);cases u<;>simp[fx]at hd';exact hu
 have hue:E.P.underlying e=some (.int .u8):=by
  obtain⟨u,_,hu,_,hd',_⟩:=dW (E.tok _ _ he);cases u<;>simp[fx]at hd';subst hd';exact hu
 refine⟨.string ⟨⟨bs⟩⟩,by simp only[Rel],λw' hw'=>?_⟩;simp only[Rel]at h1;rcases h1 with⟨rfl,ad,cap,e1⟩|⟨b,off,cap,vs,e1,e2,_,_,e3,e4⟩
 ·simp only[bytesOf,ax]at hb;subst hb;have h3:(Conv.bytesToString (.slice ad 0 cap)).run E.P w'= .ok (.string ⟨⟨[]⟩⟩) w':=by
   cases ad with
   |none=>rfl
   |some ad=>have:=run_bytesToString (P:=E.P) w' ad 0 cap [] (by have:=run_loadCells_list (P:=E.P) w' ad [] (by simp);simpa using this);exact this
  simp[execOp,ho,e1,run_convert_bytes_string w' ts td e ad 0 cap hu hue hud,h3]
 ·obtain⟨ns,rfl,rfl,hl⟩:=F5 hb e3;have h3:(Conv.bytesToString (.slice (some ⟨b,off,none⟩) rows.length cap)).run E.P w'= .ok (.string ⟨⟨ns.map λn=>UInt8.ofNat n.toNat⟩⟩) w':=by
   have:=run_bytesToString (P:=E.P) w' ⟨b,off,none⟩ rows.length cap ns (by
    have:=run_loadCells_list (P:=E.P) w' ⟨b,off,none⟩ (ns.map (Value.int .u8)) (λj v hj=>by rw[Addr.add_lit];exact hw'.cell (e4 j v hj));rw[jv,hl]at this;exact this)
   rw[foldl_push]at this;simpa using this
  simp[execOp,ho,e1,run_convert_bytes_string w' ts td e _ _ cap hu hue hud,h3]
def kA (G:Gl) (T:bD) (s:Sl):Op->Option AV
 | .load t p=>match ev s p,aP T t with
  |some (.v (.pointer (some ⟨g,off,none⟩))),some ⟨d,_,_,_⟩=>match d.agg,rz G g with
   |false,some vs=>match nth vs off with
    |some u=>some (.v u)
    |none=>none
   |_,_=>none
  |_,_=>none
 | .convert ts td x=>match ev s x,aP T ts,aP T td with
  |some (.sl k rows),some ⟨.slice e k',_,_,_⟩,some ⟨.str,_,_,_⟩=>match Nat.beq k 1,Nat.beq k' 1,aP T e,bytesOf rows with
   |true,true,some ⟨.int .u8,_,_,_⟩,some bs=>some (.v (.string ⟨⟨bs⟩⟩))
   |_,_,_,_=>none
  |_,_,_=>none
 |_=>none
theorem bB.kA {E:Env} {N:Nat} {o:Oper} {s:Sl} {L:List aj} {x:AV} (h:kA E.G E.T s o.op=some x):bB E.toCx N o s L x:=by
 refine bB.mI ?_;unfold Bw.kA at h;split at h
 ·rename_i t p ho;split at h
  ·rename_i g off d k b z hp ht;split at h
   ·rename_i vs hd hg;split at h
    ·rename_i u hu;simp only[ax]at h;subst h;rw[b7]at hu;exact OR ho (by rw[eV (by simp[ho,Op.operands])];exact hp) hg hu ht hd
    ·cases h
   ·cases h
  ·cases h
 ·rename_i ts td p ho;split at h
  ·rename_i k rows e k' sz by' z sz2 by2 z2 hp hs hd;split at h
   ·rename_i hk hk' he hb;cases h;have:=bg hk;subst this;have:=bg hk';subst this;exact NB ho (by rw[eV (by simp[ho,Op.operands])];exact hp) hs he hd hb
   ·cases h
  ·cases h
 ·cases h
theorem bB.len {E:Env} {N:Nat} {o:Oper} {s:Sl} {L:List aj} {t:TypeId} {x:Operand} {y:AV} {n:Int} (ho:o.op= .call {callee:= .builtin .len,args:= #[x],argTypes:= #[t]}) (hx:ev s x=some y) (hl:rv E.T t y=some n):bB E.toCx N o s L (.v (.int .i64 n)):=
 bB.mI (Qy ho (by rw[eV (by simp[ho,Op.operands,Call.operands])];exact hx) hl)
def tz:Option AV->Option Bool
 |some (.v (.slice none _ _))=>some true
 |some (.v (.slice (some _) _ _))=>some false
 |some (.sl _ (_::_))=>some false
 |_=>none
def oY:Option AV->Option Bool
 |some (.v (.bool b))=>some b
 |_=>none
theorem wB {x:Option AV} {b:Bool} (h:oY x=some b):x=some (.v (.bool b)):=by
 unfold oY at h;split at h
 ·simp only[ax]at h;subst h;rfl
 ·cases h
def rA:Option AV->Option (IntKind×Int)
 |some (.v (.int k n))=>some (k,n)
 |_=>none
theorem wU {x:Option AV} {k:IntKind} {n:Int} (h:rA x=some (k,n)):x=some (.v (.int k n)):=by
 unfold rA at h;split at h
 ·simp only[ax,bZ]at h;obtain⟨rfl,rfl⟩:=h;rfl
 ·cases h
def fh (P:Program) (s:Sl):Op->Option AV
 | .binOp .eql t x y _=>match P.underlying t,tz (ev s x),ev s y with
  |some (.slice _),some b,some (.v (.slice none 0 0))=>some (.v (.bool b))
  |some .bool,_,_=>match oY (ev s x),oY (ev s y)with
   |some a,some b=>some (.v (.bool (a==b)))
   |_,_=>none
  |_,_,_=>none
 | .binOp .neq t x y _=>match P.underlying t,tz (ev s x),ev s y with
  |some (.slice _),some b,some (.v (.slice none 0 0))=>some (.v (.bool !b))
  |some .bool,_,_=>match oY (ev s x),oY (ev s y)with
   |some a,some b=>some (.v (.bool !(a==b)))
   |_,_=>none
  |_,_,_=>none
 | .call {callee:= .builtin .min,args:=as,argTypes:=_}=>match as.toList with
  |[x,y]=>match rA (ev s x),rA (ev s y)with
   |some (k,a),some (_,b)=>some (.v (.int k (if b<a then b else a)))
   |_,_=>none
  |_=>none
 | .call {callee:= .builtin .max,args:=as,argTypes:=_}=>match as.toList with
  |[x,y]=>match rA (ev s x),rA (ev s y)with
   |some (k,a),some (_,b)=>some (.v (.int k (if b>a then b else a)))
   |_,_=>none
  |_=>none
 |_=>none
section
variable {w:World} {A:Nat->Prop} {N:Nat} {a:Act} {s:Sl} {P:Program}
theorem GQ (hs:eZ w A N a s) {x:Operand} {b:Bool} (h:tz (ev s x)=some b):∃ad n c,a.eval x= .slice ad n c/\ad.isNone=b:=by
 unfold tz at h;split at h
 ·rename_i n c hx;have:=a8 hs hx;simp only[Rel]at this;cases h;exact⟨none,n,c,this,rfl⟩
 ·rename_i ad n c hx;have:=a8 hs hx;simp only[Rel]at this;cases h;exact⟨some ad,n,c,this,rfl⟩
 ·rename_i k r rows hx;have:=a8 hs hx;simp only[Rel]at this;cases h;rcases this with⟨h1,_⟩|⟨b,o,cap,vs,h1,_⟩
  ·cases h1
  ·exact⟨_,_,_,h1,rfl⟩
 ·cases h
theorem vY {t e:TypeId} (hu:P.underlying t=some (.slice e)) (ad:Option Addr) (n c:Nat) (w:World):(Op.equal t (.slice ad n c) (.slice none 0 0)).run P w= .ok ad.isNone w:=by
 have h3:Op.equal t (.slice ad n c) (.slice none 0 0)=Op.equalIn (9999+1) t (.slice ad n c) (.slice none 0 0):=rfl;rw[h3];unfold Op.equalIn;cases ad<;>simp[run_underlying hu]
theorem Qz (hs:eZ w A N a s) {o:Oper} {x:AV} (h:fh P s o.op=some x):∃v,Rel w A x v/\∀w',(execOp a.eval o).run P w'= .ok (.value v) w':=by
 obtain⟨dst,op,ty,pos,after,gd⟩:=o;unfold fh at h;simp only at h;split at h
 ·rename_i t x y yt;split at h
  ·rename_i e b hu hx hy;simp only[ax]at h;subst h;obtain⟨ad,n,c,h1,rfl⟩:=GQ hs hx;have h2:=a8 hs hy;simp only[Rel]at h2;refine⟨_,eX _,λw'=>?_⟩;have h3:binOp .eql t (.slice ad n c) (.slice none 0 0)=(do pure (.bool (<-Op.equal t (.slice ad n c) (.slice none 0 0))):Sem Value):=rfl;simp[execOp,h1,h2,eqGuard,h3,vY hu]
  ·rename_i hu;split at h
   ·rename_i p q hx hy;simp only[ax]at h;subst h;have h1:=a8 hs (wB hx);have h2:=a8 hs (wB hy);simp only[Rel]at h1 h2;refine⟨_,eX _,λw'=>?_⟩;have h3:binOp .eql t (.bool p) (.bool q)=(do pure (.bool (<-Op.equal t (.bool p) (.bool q))):Sem Value):=rfl;have h4:Op.equal t (.bool p) (.bool q)=Op.equalIn (9999+1) t (.bool p) (.bool q):=rfl;simp[execOp,h1,h2,eqGuard,h3,h4,run_equalIn_bool' w' 9999 t p q hu]
   ·cases h
  ·cases h
 ·rename_i t x y yt;split at h
  ·rename_i e b hu hx hy;simp only[ax]at h;subst h;obtain⟨ad,n,c,h1,rfl⟩:=GQ hs hx;have h2:=a8 hs hy;simp only[Rel]at h2;refine⟨_,eX _,λw'=>?_⟩;have h3:binOp .neq t (.slice ad n c) (.slice none 0 0)=(do pure (.bool (!(<-Op.equal t (.slice ad n c) (.slice none 0 0)))):Sem Value):=rfl;simp[execOp,h1,h2,eqGuard,h3,vY hu]
  ·rename_i hu;split at h
   ·rename_i p q hx hy;simp only[ax]at h;subst h;have h1:=a8 hs (wB hx);have h2:=a8 hs (wB hy);simp only[Rel]at h1 h2;refine⟨_,eX _,λw'=>?_⟩;have h3:binOp .neq t (.bool p) (.bool q)=(do pure (.bool (!(<-Op.equal t (.bool p) (.bool q)))):Sem Value):=rfl;have h4:Op.equal t (.bool p) (.bool q)=Op.equalIn (9999+1) t (.bool p) (.bool q):=rfl;simp[execOp,h1,h2,eqGuard,h3,h4,run_equalIn_bool' w' 9999 t p q hu]
   ·cases h
  ·cases h
 ·rename_i as ts;obtain⟨as⟩:=as;split at h
  ·rename_i x y he;simp only at he;subst he;split at h
   ·rename_i k p k' q hx hy;simp only[ax]at h;subst h;have h1:=a8 hs (wU hx);have h2:=a8 hs (wU hy);simp only[Rel]at h1 h2;refine⟨_,eX _,λw'=>?_⟩;simp[execOp,resolve,invoke,builtin,h1,h2,Builtin.min_,Builtin.min2]
   ·cases h
  ·cases h
 ·rename_i as ts;obtain⟨as⟩:=as;split at h
  ·rename_i x y he;simp only at he;subst he;split at h
   ·rename_i k p k' q hx hy;simp only[ax]at h;subst h;have h1:=a8 hs (wU hx);have h2:=a8 hs (wU hy);simp only[Rel]at h1 h2;refine⟨_,eX _,λw'=>?_⟩;simp[execOp,resolve,invoke,builtin,h1,h2,Builtin.max_,Builtin.max2]
   ·cases h
  ·cases h
 ·cases h
theorem OS {s s':Sl} {op:Op} (h:∀p∈op.operands.toList,ev s' p=ev s p):fh P s' op=fh P s op:=by
 unfold fh;split
 ·rename_i t x y yt;rw[h x (by simp[Op.operands]),h y (by simp[Op.operands])]
 ·rename_i t x y yt;rw[h x (by simp[Op.operands]),h y (by simp[Op.operands])]
 ·rename_i as ts;obtain⟨as⟩:=as;simp only;split
  ·rename_i _ x y;rw[h x (by simp[Op.operands,Call.operands]),h y (by simp[Op.operands,Call.operands])]
  ·rfl
 ·rename_i as ts;obtain⟨as⟩:=as;simp only;split
  ·rename_i _ x y;rw[h x (by simp[Op.operands,Call.operands]),h y (by simp[Op.operands,Call.operands])]
  ·rfl
 ·rfl
end
theorem bB.fh {E:Env} {N:Nat} {o:Oper} {s:Sl} {L:List aj} {x:AV} (h:fh E.P s o.op=some x):bB E.toCx N o s L x:=
 bB.mI λ_ _ _ hs=>(Qz (P:=E.P) hs.sg (by rw[OS λp hp=>eV hp];exact h)).imp λ_ h=>⟨h.1,λw' _=>h.2 w'⟩
