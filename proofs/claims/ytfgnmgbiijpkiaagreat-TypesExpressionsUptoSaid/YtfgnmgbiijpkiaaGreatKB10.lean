/- The program logic, tenth part: operations that yield one value, told of slots as a function; facts about what is handed on; calls that are handed a part of the heap; loops by rounds. -/
import Derived.Test.YtfgnmgbiijpkiaaGreatKB8
import Derived.LoopN
import Derived.Laws.StructEq
set_option linter.all false
noncomputable section
namespace Go.Bw
open Go
section
variable {C:Cx} {N:Nat} {o:Oper} {s:Sl} {O:List ah} {x:AV}
def dn (s:Sl):List Nat->Sg
 |[]=>[]
 |t::ts=>match s t with
  |some x=>(t,x)::dn s ts
  |none=>dn s ts
theorem iM {s:Sl}:∀{ts:List Nat} {t:Nat} {x:AV},look (dn s ts) t=some x->t∈ts/\s t=some x
 |[],t,x,h=>by simp[dn,look]at h
 |u::ts,t,x,h=>by
  simp only[dn]at h;split at h
  ·rename_i y hy;simp only[look]at h;cases hb:Nat.beq u t with
   |true=>
    rw[hb]at h;simp only[aA]at h;subst h;have:=bB hb;subst this;exact⟨by simp,hy⟩
   |false=>rw[hb]at h;obtain⟨h1,h2⟩:=iM h;exact⟨by simp[h1],h2⟩
  ·obtain⟨h1,h2⟩:=iM h;exact⟨by simp[h1],h2⟩
theorem oQ {s:Sl}:∀{ts:List Nat} {t:Nat},t∈ts->look (dn s ts) t=s t
 |[],t,h=>by cases h
 |u::ts,t,h=>by
  simp only[dn];by_cases hut:u=t
  ·subst hut;split
   ·rename_i y hy;simp[look,hy]
   ·rename_i hy;cases hl:look (dn s ts) u with
    |none=>exact hy.symm
    |some z=>rw[(iM hl).2]at hy;cases hy
  ·have ht:t∈ts:=by simpa[gX hut]using h
   have hb:Nat.beq u t=false:=by cases hb:Nat.beq u t with
    |false=>rfl
    |true=>exact absurd (bB hb) hut
   split
   ·simp only[look,hb];exact oQ ht
   ·exact oQ ht
theorem bM.lT (h:lU C N o (dn s (tmpsOf o)) O x):bM C N o s O x:=λF w a hN hd hh hs K Q k=>by
 have hst:St C.G N w F a (dn s (tmpsOf o)) O:=⟨⟨hN,λt y hy=>by obtain⟨h1,h2⟩:=iM hy;exact hs t h1 y h2⟩,hh,hd⟩;obtain⟨v,h1,h2⟩:=h F a w hst;unfold Oper.wp;rw[h2 w (iV.refl w),Oper.upon_value];exact k v w h1 (fT.refl w)
theorem eN {p:Operand} (h:p∈o.op.operands.toList):ev (look (dn s (tmpsOf o))) p=ev s p:=by
 cases p with
 |tmp t=>exact oQ (Wo.2 ⟨.tmp t,h,rfl⟩)
 |const v=>rfl
 |global g=>rfl
 |func f=>rfl
theorem pg {s s':Sl}:∀{l:List Operand},(∀p∈l,ev s' p=ev s p)->gF s' l=gF s l
 |[],_=>rfl
 |p::l,h=>by simp only[gF,h p (by simp),pg (l:=l) λq hq=>h q (by simp[hq])]
theorem ED {s s':Sl} {fs:List (Nat×Nat×Nat×Bool)}:∀{l:List (Nat×Operand)} {cs:List AV},(∀p∈l,ev s' p.2=ev s p.2)->kU fs s' cs l=kU fs s cs l
 |[],_,_=>rfl
 |(i,p)::l,cs,h=>by
  simp only[kU,h (i,p) (by simp)];split
  ·split
   ·exact ED λq hq=>h q (by simp[hq])
   ·rfl
  ·rfl
theorem xJ {s s':Sl} {k:Nat}:∀{l:List (Nat×Operand)} {cs:List AV},(∀p∈l,ev s' p.2=ev s p.2)->eh k s' cs l=eh k s cs l
 |[],_,_=>rfl
 |(i,p)::l,cs,h=>by
  simp only[eh,h (i,p) (by simp)];split
  ·split
   ·exact xJ λq hq=>h q (by simp[hq])
   ·rfl
  ·rfl
theorem N0 {T:bO} {s s':Sl} {op:Op} (h:∀p∈op.operands.toList,ev s' p=ev s p):cw T s' op=cw T s op:=by
 cases op with
 |makeFunc f a c=>
  have h1:gF s' a.toList=gF s a.toList:=pg λp hp=>h p (by simp[Op.operands]at hp⊢;exact .inl hp);have h2:gF s' c.toList=gF s c.toList:=pg λp hp=>h p (by simp[Op.operands]at hp⊢;exact .inr hp);cases f<;>simp only[cw,h1,h2]
 |build t ps=>
  simp only[cw];split
  ·rw[ED λp hp=>h p.2 (by simp only[Op.operands,dt];exact⟨p,hp,rfl⟩)]
  ·rfl
 |move x=>exact h x (by simp[Op.operands])
 |assign x=>exact h x (by simp[Op.operands])
 |pick c a b=>simp only[cw,h c (by simp[Op.operands]),h a (by simp[Op.operands]),h b (by simp[Op.operands])]
 |binOp bop ot x y yt=>simp only[cw,h x (by simp[Op.operands]),h y (by simp[Op.operands])]
 |unOp u t x=>cases u<;>simp only[cw,h x (by simp[Op.operands])]
 |extract x i=>simp only[cw,h x (by simp[Op.operands])]
 |field t x f=>simp only[cw,h x (by simp[Op.operands])]
 |fieldAddr t x f=>simp only[cw,h x (by simp[Op.operands])]
 |typeAssert x xt t ok=>simp only[cw,h x (by simp[Op.operands])]
 |nilCheck x=>simp only[cw,h x (by simp[Op.operands])]
 |load t x=>simp only[cw,h x (by simp[Op.operands])]
 |makeInterface t x=>simp only[cw,h x (by simp[Op.operands])]
 |convert a b x=>simp only[cw,h x (by simp[Op.operands])]
 |_=>rfl
theorem bM.cw {E:Env} (h:cw E.T s o.op=some x):bM E.toCx N o s O x:=
 bM.lT (IA (by rw[N0 λp hp=>eN hp];exact h))
theorem bh.lQ {Q:AQ} {Z:Sg} {ops:Array Oper} {rest:List Oper} (hg:o.guard=none) (hd:cj N o.dst=true) (h:bM C N o (look Z) O x) (k:bh C N ops rest Q (jB o.dst x Z) O):bh C N ops (o::rest) Q Z O:=
 λF w0 O0 a w hs hx=>wpList_plain hg λK hK=>by
  refine h F w a hs.sg.1 hs.df hs.hp (λt _ y hy=>hs.sg.2 t y hy) _ _ λv w' hv hc=>?_;exact hK _ _ (k F w0 O0 _ w' (hs.put hc.ext (hs.hp.later hc.2.2.2) hd hv) (hx.trans hc.ext))
theorem bh.rb {Q:AQ} {Z:Sg} {ops:Array Oper} {rest:List Oper} {cells:List AV} {d:Nat} (hg:o.guard=none) (hd:o.dst=some d) (hdN:Nat.blt d N=true) (h:eK C N o (look Z) O cells)
  (k:∀b,bh C N ops rest Q ((d,.own O.length b 0)::Z) (O++[.box b cells])):bh C N ops (o::rest) Q Z O:=
 λF w0 O0 a w hs hx=>wpList_plain hg λK hK=>by
  refine h F w a hs.sg.1 hs.df hs.hp (λt _ y hy=>hs.sg.2 t y hy) _ _ λvs e hv=>?_;have hext:=jS w (.cells vs.toArray e) O (.box w.heap.size cells) (by simp[ah.ids]);have hh:bz C.G (w.alloc (.cells vs.toArray e)) F (O++[.box w.heap.size cells]):=by
   refine hs.hp.push (by simp) (λb hb=>gY w _ b hb) (by simp[ah.ids]) (by simp[ah.ids]) ?_;exact⟨e,vs,iN w _,hv.bm hext.keeps⟩
  have:=hK _ _ (k w.heap.size F w0 O0 _ _ (hs.put (dst:=o.dst) (x:= .own O.length w.heap.size 0) (v:= .pointer (some ⟨w.heap.size,0,none⟩)) hext hh (by rw[hd];exact hdN) (by simp only[Rel])|>λz=>by rw[hd]at z;exact z) (hx.trans hext));rw[hd];exact this
end
section
variable {E:Env} {N:Nat} {o:Oper} {s:Sl} {O:List ah}
theorem L7 {w:World} {A:Nat->Prop} {a:Act} (hN:a.tmps.size=N) (hs:jw w A N a o s) {p:Operand} (hp:p∈o.op.operands.toList) {x:AV} (h:ev s p=some x):Rel w A x (a.eval p):=by
 cases p with
 |tmp t=>exact(hs t (Wo.2 ⟨.tmp t,hp,rfl⟩) x h).2
 |const v=>simp only[ev,aA]at h;subst h;simp[Rel,Act.eval]
 |global g=>simp only[ev,aA]at h;subst h;simp[Rel,Act.eval]
 |func f=>simp only[ev,aA]at h;subst h;simp[Rel,Act.eval]
theorem eK.box {t:TypeId} {x:Operand} {y:AV} (ho:o.op= .box t x) (hx:ev s x=some y):eK E.toCx N o s O (b9 y):=λF w a hN _ _ hs K Q k=>by
 have hr:=L7 hN hs (by simp[ho,Op.operands]) hx;have:=k (a.eval x).cells.toList t (o8 hr);unfold Oper.wp;have hrun:(execOp a.eval o).run E.P w= .ok (.value (.pointer (some ⟨w.heap.size,0,none⟩))) (w.alloc (.cells (a.eval x).cells t)):=by simp[execOp,ho,Instr.box,newVar,newRow]
 rw[hrun,Oper.upon_value];simpa using this
theorem eK.alloc {t:TypeId} {d:TD} {sz by':Nat} {z:List Value} (ho:o.op= .alloc t) (ht:aX E.T t=some ⟨d,sz,by',z⟩):eK E.toCx N o s O (z.map .v):=λF w a hN _ _ hs K Q k=>by
 obtain⟨_,ti,_,hi,_,_,_,zv,hz1,hz2⟩:=dY (E.tok _ _ ht);have hzc:zv.cells=z.toArray:=by apply gI;simpa using hz2
 have:=k z t (kB _);unfold Oper.wp;have hrun:(execOp a.eval o).run E.P w= .ok (.value (.pointer (some ⟨w.heap.size,0,none⟩))) (w.alloc (.cells z.toArray t)):=by
  simp[execOp,ho,Instr.alloc,zeroValue,typeInfo,hi,hz1,newVar,newRow,hzc]
 rw[hrun,Oper.upon_value];exact this
theorem eK.frozen {C:Cx} {cells:List AV} (h:eK C N o s O cells):bM C N o s O (.ip cells):=λF w a hN hd hh hs K Q k=>by
 refine h F w a hN hd hh hs K Q λvs e hv=>?_;have hc:fT w (w.alloc (.cells vs.toArray e)):=⟨⟨rfl,.of (bA _)⟩,rfl,rfl,by simp,λb hb=>gY w _ b hb⟩;refine k _ _ ?_ hc;simp only[Rel];refine⟨w.heap.size,0,vs,rfl,⟨by simp,?_,λhm=>?_⟩,hv.bm (hc.ext (O:=O)).keeps,λj u hj=>?_⟩
 ·exactλhF=>absurd (hh.bound _ hF) (D' _)
 ·exact absurd (hh.lt _ hm) (D' _)
 ·exact oS (iN w _) _ _ (by simpa using hj)
theorem bM.lit {t:TypeId} {n:Nat} {parts:Array (Nat×Operand)} {e k sz by' sz' by'':Nat} {z z':List Value} {td':TD} {cells:List AV} (ho:o.op= .buildSlice t n parts)
  (ht:aX E.T t=some ⟨.slice e k,sz,by',z⟩) (hte:aX E.T e=some ⟨td',sz',by'',z'⟩) (hf:eh k s (fI n (z'.map .v)) parts.toList=some cells) (hb:Nat.ble (n*k) 16777216=true) (hk:Nat.ble 1 k=true):
  bM E.toCx N o s O (.sl k (chunk n k cells)):=λF w a hN hd hh hs K Q kk=>by
 have hst:St E.G N w F a (dn s (tmpsOf o)) O:=⟨⟨hN,λt y hy=>by obtain⟨h1,h2⟩:=iM hy;exact hs t h1 y h2⟩,hh,hd⟩;have hf':eh k (look (dn s (tmpsOf o))) (fI n (z'.map .v)) parts.toList=some cells:=by
  rw[xJ λp hp=>eN (by rw[ho];simp only[Op.operands,dt];exact⟨p,hp,rfl⟩)];exact hf
 obtain⟨us,h1,h2,h3⟩:=yV (d:=o.dst) (ty:=o.type) (pos:=o.pos) (after:=o.after) (gd:=o.guard) ht hte hf' hb hk hst;have hk:=dw hk;have hb:=dw hb;have ho':o=⟨o.dst,.buildSlice t n parts,o.type,o.pos,o.after,o.guard⟩:=by rw[<-ho]
 rw[<-ho']at h1;unfold Oper.wp;rw[h1,Oper.upon_value];have hc:fT w (w.alloc (.cells us e)):=⟨⟨rfl,.of (bA _)⟩,rfl,rfl,by simp,λb hb=>gY w _ b hb⟩;refine kk _ _ ?_ hc;simp only[Rel];refine .inr ⟨w.heap.size,0,n,us.toList,by rw[fD],⟨by simp,λhF=>absurd (hh.bound _ hF) (D' _),λhm=>absurd (hh.lt _ hm) (D' _)⟩,by rw[fD];exact bA _,?_,h2.bm (hc.ext (O:=O)).keeps,λj u hj=>?_⟩
 ·have:n<=n*k:=xm n hk;simp only[maxLen];omega
 ·have h4:(w.alloc (.cells us e)).heap[w.heap.size]? =some (.cells us.toList.toArray e (0,0)):=by simpa using iN w (.cells us e)
  exact oS h4 _ _ (by simpa using hj)
theorem bM.pure {C:Cx} {f:Operand} {args:List Operand} {g:FuncId} {xs:List AV} {res:AV} {tys:Array TypeId} (ho:o.op= .call {callee:= .value f,args:=args.toArray,argTypes:=tys})
  (h:Pure C g xs (.ret res)) (hc:callee s f args=some (g,xs)):bM C N o s O res:=λF w a hN hd hh hs K Q k=>by
 have cu:o.op.operands.toList=f::args\/∀p,p=f\/p∈args->p∈o.op.operands.toList:=by
  right;rintro p hp;rw[ho];rcases hp with rfl|hp
  ·simp[Op.operands,Call.operands]
  ·simp[Op.operands,Call.operands,hp]
 have hmem:∀p,p=f\/p∈args->p∈o.op.operands.toList:=by
  rcases cu with h|h
  ·intro p hp;rw[h];simpa using hp
  ·exact h
 have hc':callee (look (dn s (tmpsOf o))) f args=some (g,xs):=by
  unfold callee at hc⊢;rw[eN (hmem f (.inl rfl)),pg λp hp=>eN (hmem p (.inr hp))];exact hc
 have hsl:ep w (Al F O) N a (look (dn s (tmpsOf o))):=⟨hN,λt y hy=>by obtain⟨h1,h2⟩:=iM hy;exact hs t h1 y h2⟩;obtain⟨vs,h1,h2⟩:=o7 (P:=C.P) hsl hc' (tys:=tys) (dst:=o.dst) (ty:=o.type) (pos:=o.pos) (after:=o.after) (gd:=o.guard) h.1;have ho':o=⟨o.dst,.call {callee:= .value f,args:=args.toArray,argTypes:=tys},o.type,o.pos,o.after,o.guard⟩:=by rw[<-ho]
 rw[<-ho']at h2;unfold Oper.wp;rw[h2 w,Oper.upon_enter];refine(h.run hh h1).mono ?_;rintro e w' ⟨⟨v,rfl,hv⟩,_,hext,hsame⟩;exact k v w' hv ⟨⟨hext.os,hext.drawn⟩,hext.tape,hext.output,hext.size,hsame⟩
theorem bz.facts {G:Gl} {w:World} {F:Nat->Prop} {O η':List ah} (h:bz G w F O) (hsub:(ids η').Sublist (ids O)) (hent:∀x∈η',x∈O\/∃y v,x= .fact y v/\Rel w (Al F η') y v):bz G w F η':=by
 have hs:∀b∈ids η',b∈ids O:=λb hb=>hsub.subset hb;have hkeep:cK w (Al F O) w (Al F η'):=⟨bA _,λb _ h=>⟨⟨h.1,λhm=>h.2 (hs b hm)⟩,rfl⟩⟩;refine⟨λx hx=>?_,hsub.nodup h.nodup,λb hb=>h.free b (hs b hb),h.bound,h.dS.bm hkeep⟩;rcases hent x hx with hx|⟨y,v,rfl,hr⟩
 ·exact(h.ea x hx).bm hkeep λ_ _=>rfl
 ·exact hr
theorem cK.sub {w:World} {F:Nat->Prop} {O η':List ah} (hs:∀b∈ids η',b∈ids O):cK w (Al F O) w (Al F η'):=
 ⟨bA _,λ_ _ h=>⟨⟨h.1,λhm=>h.2 (hs _ hm)⟩,rfl⟩⟩
theorem bh.Rh {C:Cx} {Q:AQ} {Z:Sg} {ops:Array Oper} {rest:List Oper} {f:Operand} {args:List Operand} {g:FuncId} {xs:List AV} {Q':AR->List ah->Prop} {tys:Array TypeId} {dst:Option Nat} {ty:TypeId} {pos:String} {after:Array Edge}
  (h:gM C g xs O Q') (hc:callee (look Z) f args=some (g,xs)) (hd:cj N dst=true) (k1:∀x η',Q' (.ret x) η'->bh C N ops rest Q (jB dst x Z) η') (k2:∀x η',Q' (.aO x) η'->Q (.aO x) [] η'):
  bh C N ops (⟨dst,.call {callee:= .value f,args:=args.toArray,argTypes:=tys},ty,pos,after,none⟩::rest) Q Z O:=λF w0 O0 a w hs hx=>by
 unfold wpList;rw[cZ (by simp[Region.wanted])];refine .inl ?_;obtain⟨vs,h1,h2⟩:=o7 (P:=C.P) hs.sg hc (tys:=tys) (dst:=dst) (ty:=ty) (pos:=pos) (after:=after) (gd:=none) h.1;unfold Oper.wp;rw[h2 w,Oper.upon_enter];refine(h.2 F w vs hs.hp h1).mono ?_;rintro e w' ⟨r,η',hQ,hv,hh,hext⟩;cases r with
 |ret x=>
  obtain⟨v,rfl,hv⟩:=hv;exact k1 x η' hQ F w0 O0 _ w' (hs.put hext hh hd hv) (hx.trans hext)
 |aO x=>
  obtain⟨v,rfl,hv⟩:=hv;exact⟨.aO x,[],η',k2 x η' hQ,⟨v,rfl,hv⟩,⟨⟨hs.sg.1,λt x hx=>by simp[AE.sl,look]at hx⟩,hh,hs.df⟩,hx.trans hext⟩
theorem gM.perm {C:Cx} {g:FuncId} {xs:List AV} {O:List ah} {Q' Q'':AR->List ah->Prop} (h:gM C g xs O Q') (hq:∀r η',Q' r η'->∃O'',η'.Perm O''/\Q'' r O''):gM C g xs O Q'':=
 ⟨h.1,λF w vs hH hargs=>(h.2 F w vs hH hargs).mono λe w' ⟨r,η',hQ,hv,hh,hext⟩=>by
  obtain⟨O'',hp,hQ'⟩:=hq r η' hQ;exact⟨r,O'',hQ',by rw[<-mj hp];exact hv,hh.perm hp,⟨hext.os,hext.tape,hext.output,hext.size,hext.block,λb hb=>hext.new b ((l7 hp).mem_iff.2 hb),hext.drawn⟩⟩⟩
def vq (C:Cx) (N:Nat) (c:Code) (Q:AQ):Nat->Sg->List ah->Prop
 |0=>λ_ _=>False
 |n+1=>bD C N c (AE.then (vq C N c Q n) Q)
theorem bD.rounds {C:Cx} {c:Code} {Q:AQ} {Z:Sg} (n:Nat) (h:vq C N c Q n Z O):bD C N (.loop c) Q Z O:=λF w0 O0 a w hs hx=>by
 refine wp_loop_rounds n ?_;have key:∀n Z O a w,vq C N c Q n Z O->St C.G N w F a Z O->Ext O0 w0 O w->Code.rounds C.P c (CQ C.G N F w0 O0 Q) n a w:=by
  intro n
  induction n with
  |zero=>intro Z O a w h;exact h.elim
  |succ n ih=>
   intro Z O a w h hs hx;rw[rounds_succ];refine wp_mono (h F w0 O0 a w hs hx) ?_;rintro e a' w' ⟨e0,Z',η',h1,h2,h3,h4⟩;cases e0 with
   |norm=>simp only[AE.rel]at h2;subst h2;exact ih _ _ _ _ h1 h3 h4
   |exit i=>simp only[AE.rel]at h2;subst h2;exact⟨.exit i,Z',η',h1,rfl,h3,h4⟩
   |ret=>simp only[AE.rel]at h2;subst h2;exact⟨.ret,Z',η',h1,rfl,h3,h4⟩
   |aO x=>obtain⟨v,rfl,h2⟩:=h2;exact⟨.aO x,Z',η',h1,⟨v,rfl,h2⟩,h3,h4⟩
 exact key n Z O a w h hs hx
end
def k8:Option AV->Option Nat
 |some (.v (.int _ (.ofNat n)))=>some n
 |_=>none
def gC (s:Sl) (dflt:Nat):Option Operand->Option Nat
 |none=>some dflt
 |some o=>k8 (ev s o)
def wi (P:Program):Nat->List Field->Bool
 |_,[]=>true
 |i,f::fs=>Nat.beq f.offset i&&f.name != "_" &&hasB P f.type&&(match P.underlying f.type with
   |some (.int _)=>true
   |some .bool=>true
   |some .string=>true
   |_=>false)&&wi P (i+1) fs
def s7 (P:Program) (t:TypeId) (n:Nat):Bool:=(match P.underlying t with
 |some (.struct fs)=>wi P 0 fs.toList&&Nat.beq fs.size n
 |_=>false)&& !P.stoodInHeld t&& !P.eqGuardType P.depth t
def kindOk (P:Program) (t:TypeId):Value->Bool
 | .int _ _=>match P.underlying t with
  |some (.int _)=>true
  |_=>false
 | .bool _=>match P.underlying t with
  |some .bool=>true
  |_=>false
 | .string _=>match P.underlying t with
  |some .string=>true
  |_=>false
 |_=>false
def mG (P:Program):List Field->List AV->List AV->Option Bool
 |[],[],[]=>some true
 |f::fs,.v x::xs,.v y::ys=>match kindOk P f.type x,kindOk P f.type y,mG P fs xs ys with
  |true,true,some c=>match x,y with
   | .int k a,.int k' b=>match decide (k=k')with
    |true=>some (a==b&&c)
    |false=>none
   | .bool a,.bool b=>some (a==b&&c)
   | .string a,.string b=>some (a.data.toList==b.data.toList&&c)
   |_,_=>none
  |_,_,_=>none
 |_,_,_=>none
def dG (P:Program) (T:bO) (s:Sl):Op->Option AV
 | .indexAddr t x ix=>match ev s x,k8 (ev s ix),aX T t with
  |some (.sl k rows),some j,some ⟨.slice _ k',_,_,_⟩=>match Nat.beq k k',nth rows j with
   |true,some r=>some (.ip r)
   |_,_=>none
  |some (.v (.pointer (some ⟨b,off,none⟩))),some j,some ⟨.array m _ k _,_,_,_⟩=>match Nat.blt j m with
   |true=>some (.v (.pointer (some ⟨b,off+j*k,none⟩)))
   |false=>none
  |_,_,_=>none
 | .index t x ix=>match ev s x,k8 (ev s ix),aX T t with
  |some (.v (.string b)),some j,some ⟨.str,_,_,_⟩=>match nth b.data.toList j with
   |some c=>some (.v (.int .u8 c.toNat))
   |none=>none
  |_,_,_=>none
 | .slice t x lo hi none=>match ev s x,aX T t with
  |some (.sl k rows),some ⟨.slice _ k',_,_,_⟩=>match gC s 0 lo,gC s rows.length hi with
   |some l,some h=>match Nat.beq k k'&&Nat.ble l h&&Nat.ble h rows.length with
    |true=>some (.sl k ((rows.take h).drop l))
    |false=>none
   |_,_=>none
  |some (.v (.string b)),some ⟨.str,_,_,_⟩=>match gC s 0 lo,gC s b.data.toList.length hi with
   |some l,some h=>match Nat.ble l h&&Nat.ble h b.data.toList.length with
    |true=>some (.v (.string ⟨((b.data.toList.take h).drop l).toArray⟩))
    |false=>none
   |_,_=>none
  |_,_=>none
 | .binOp .add _ x y _=>match ev s x,ev s y with
  |some (.v (.string a)),some (.v (.string b))=>match Nat.ble (a.data.toList.length+b.data.toList.length) 9223372036854775807 with
   |true=>some (.v (.string ⟨(a.data.toList++b.data.toList).toArray⟩))
   |false=>none
  |_,_=>none
 | .binOp .eql t x y _=>match ev s x,ev s y with
  |some (.agg xs),some (.agg ys)=>match s7 P t xs.length,P.underlying t with
   |true,some (.struct fs)=>match mG P fs.toList xs ys with
    |some c=>some (.v (.bool c))
    |none=>none
   |_,_=>none
  |_,_=>none
 | .binOp .neq t x y _=>match ev s x,ev s y with
  |some (.agg xs),some (.agg ys)=>match s7 P t xs.length,P.underlying t with
   |true,some (.struct fs)=>match mG P fs.toList xs ys with
    |some c=>some (.v (.bool !c))
    |none=>none
   |_,_=>none
  |_,_=>none
 |_=>none
section
variable {w:World} {A:Nat->Prop} {N:Nat} {a:Act} {s:Sl} {P:Program} {T:bO}
theorem uU {o:Option AV} {n:Nat} (h:k8 o=some n):∃k,o=some (.v (.int k (n:Int))):=by
 unfold k8 at h;split at h
 ·rename_i k m;simp only[aA]at h;subst h;exact⟨k,rfl⟩
 ·cases h
theorem FW (d:Nat):∀(fs:List Field) (i:Nat) {xs ys:List AV} {us vs:List Value} {c:Bool},wi P i fs=true->mG P fs (xs.drop i) (ys.drop i)=some c->aF w A xs us->aF w A ys vs->
  ∀w',(Op.eqFields (d+1) us.toArray vs.toArray fs).run P w'= .ok c w'
 |[],i,xs,ys,us,vs,c,_,h,_,_,w'=>by
  unfold mG at h;split at h
  ·simp only[aA]at h;subst h;simp[Op.eqFields]
  ·contradiction
  ·cases h
 |f::fs,i,xs,ys,us,vs,c,hB,h,hx,hy,w'=>by
  simp only[wi,bI,bne_iff_ne,ne_eq]at hB;obtain⟨⟨⟨⟨h1,h2⟩,h3⟩,h4⟩,h5⟩:=hB;have h1:=bB h1;unfold mG at h;split at h
  ·contradiction
  ·rename_i f' fs' x xs' y ys' hf hxs hys;simp only[jK]at hf;obtain⟨rfl,rfl⟩:=hf;have hxi:nth xs i=some (.v x):=by rw[ck];have:=congrArg (·[0]?) hxs;simpa using this
   have hyi:nth ys i=some (.v y):=by rw[ck];have:=congrArg (·[0]?) hys;simpa using this
   have hxd:xs.drop (i+1)=xs':=by have:=congrArg (List.drop 1) hxs;simpa[uy]using this
   have hyd:ys.drop (i+1)=ys':=by have:=congrArg (List.drop 1) hys;simpa[uy]using this
   obtain⟨u,hu,hu'⟩:=hx.nth hxi;obtain⟨v,hv,hv'⟩:=hy.nth hyi;simp only[Rel]at hu' hv';subst hu';subst hv';have hagg:k9 P f.type=false:=by
    unfold k9;split at h4<;>first|(rename_i hh;rw[hh])|(cases h4;done)
   have hpart:∀(zs:List Value) (z:Value),zs[i]? =some z->∀w',(part f.type zs.toArray f.offset).run P w'= .ok z w':=by
    intro zs z hz w';simp[part,yZ h3,hagg,h1,hz]
   split at h
   ·rename_i c' hk1 hk2 hc';rw[<-hxd,<-hyd]at hc';have ih:=FW d fs (i+1) h5 hc' hx hy w';have fin:∀(q:Bool),(∀w',(Op.equalIn (d+1) f.type u v).run P w'= .ok q w')->(Op.eqFields (d+1) us.toArray vs.toArray (f::fs)).run P w'= .ok (q&&c') w':=by
     intro q hq;simp only[Op.eqFields,ne_eq,h2,not_false_eq_true,if_true,Sem.run_bind,hpart us u hu,hpart vs v hv,Result.andThen_ok,hq,Sem.run_ite];cases q
     ·simp
     ·simp[ih]
    split at h
    ·rename_i k a k' b;split at h
     ·rename_i hk;have hk:=xg hk;subst hk;simp only[aA]at h;subst h;refine fin _ λw'=>?_;simp only[kindOk]at hk1;split at hk1
      ·rename_i hh;exact run_equalIn_int w' d f.type k _ a b hh
      ·cases hk1
     ·cases h
    ·rename_i a b;simp only[aA]at h;subst h;refine fin _ λw'=>?_;simp only[kindOk]at hk1;split at hk1
     ·rename_i hh;exact run_equalIn_bool' w' d f.type a b hh
     ·cases hk1
    ·rename_i a b;simp only[aA]at h;subst h;refine fin _ λw'=>?_;simp only[kindOk]at hk1;split at hk1
     ·rename_i hh;rw[run_equalIn_string w' d f.type a b hh,ByteArray.toList_eq,ByteArray.toList_eq]
     ·cases hk1
    ·cases h
   ·cases h
  ·cases h
theorem Hd {t:TypeId} {xs ys:List AV} {us vs:List Value} {fs:Array Field} {c:Bool} (hB:s7 P t xs.length=true) (hu:P.underlying t=some (.struct fs)) (h:mG P fs.toList xs ys=some c) (hx:aF w A xs us) (hy:aF w A ys vs) (x y:Operand):
  (∀w',(do eqGuard .eql t x y (.agg us.toArray) (.agg vs.toArray);binOp .eql t (.agg us.toArray) (.agg vs.toArray):Sem Value).run P w'= .ok (.bool c) w')/\
  ∀w',(do eqGuard .neq t x y (.agg us.toArray) (.agg vs.toArray);binOp .neq t (.agg us.toArray) (.agg vs.toArray):Sem Value).run P w'= .ok (.bool !c) w':=by
 simp only[s7,hu,bI,je]at hB;obtain⟨⟨⟨h1,h2⟩,h3⟩,h4⟩:=hB;have hfo:P.fieldsOf t=fs:=by simp[Program.fieldsOf,hu]
 have hr:∀w',(Op.equalIn 10000 t (.agg us.toArray) (.agg vs.toArray)).run P w'= .ok c w':=λw'=>by
  rw[show 10000=9998+1+1 from rfl,run_equalIn_agg w' (9998+1) t _ _ (by rw[hfo];exact hu) h3,hfo];exact FW 9998 fs.toList 0 h1 (by simpa using h) hx hy w'
 refine⟨λw'=>?_,λw'=>?_⟩
 ·simp only[Sem.run_bind,run_eqGuard_agg w' .eql t x y _ _ h4,Result.andThen_ok,run_eql_struct,hr]
 ·simp only[Sem.run_bind,run_eqGuard_agg w' .neq t x y _ _ h4,Result.andThen_ok,run_neq_struct,hr]
theorem Fc (hs:ep w A N a s) {dflt:Nat} {o:Option Operand} {n:Nat} (h:gC s dflt o=some n):(o=none/\n=dflt)\/∃p k,o=some p/\a.eval p= .int k (n:Int):=by
 cases o with
 |none=>simp only[gC,aA]at h;exact .inl ⟨rfl,h.symm⟩
 |some p=>
  simp only[gC]at h;obtain⟨k,hk⟩:=uU h;have:=bt hs hk;simp only[Rel]at this;exact .inr ⟨p,k,rfl,this⟩
theorem xQ (hs:ep w A N a s) (isS:Bool) {len cap:Nat} {lo hi:Option Operand} {l h:Nat} (hl:gC s 0 lo=some l) (hh:gC s len hi=some h) (h1:l<=h) (h2:h<=len) (h3:len<=cap) (w':World):
  (Instr.sliceBounds isS len cap (lo.map a.eval) (hi.map a.eval) none).run P w'= .ok (l,h,cap) w':=by
 rcases Fc hs hl with⟨rfl,rfl⟩|⟨p,k,rfl,hp⟩<;>rcases Fc hs hh with⟨rfl,rfl⟩|⟨q,k',rfl,hq⟩
 ·simp[Instr.sliceBounds]
 ·have:h<=cap:=by omega
  cases isS<;>simp[Instr.sliceBounds,hq,Instr.sliceBound,asIntOf,this]
 ·simp[Instr.sliceBounds,hp,Instr.sliceBound,asIntOf,h1]
 ·have:h<=cap:=by omega
  cases isS<;>simp[Instr.sliceBounds,hp,hq,Instr.sliceBound,asIntOf,h1,this]
theorem br.Jn {k:Nat}:∀{n:Nat} {rows:List (List AV)} {vs:List Value},br w A k rows vs->br w A k (rows.take n) (vs.take (n*k))
 |0,_,_,_=>by simp[br]
 |n+1,[],_,h=>by simp only[br]at h;subst h;simp[br]
 |n+1,_::_,_,h=>by
  simp only[br]at h;obtain⟨v1,v2,rfl,hk,h1,h2⟩:=h;simp only[xo,br];refine⟨v1,v2.take (n*k),?_,hk,h1,h2.Jn⟩;have:v1.length=k:=by rw[h1.length,hk]
  rw[iH,xp,List.take_append,List.take_of_length_le (by omega),this];congr 2;omega
theorem br.Jo {k:Nat}:∀{n:Nat} {rows:List (List AV)} {vs:List Value},br w A k rows vs->br w A k (rows.drop n) (vs.drop (n*k))
 |0,_,_,h=>by simpa using h
 |n+1,[],_,h=>by simp only[br]at h;subst h;simp[br]
 |n+1,_::_,_,h=>by
  simp only[br]at h;obtain⟨v1,v2,rfl,hk,h1,h2⟩:=h;simp only[List.drop_succ_cons];have:v1.length=k:=by rw[h1.length,hk]
  rw[show(n+1)*k=v1.length+n*k by rw[this,iH,xp,uy],<-List.drop_drop,List.drop_left];exact h2.Jo
theorem extract_data (s:ByteArray) (l h:Nat):s.extract l h=⟨((s.data.toList.take h).drop l).toArray⟩:=by
 apply ByteArray.ext;rw[ByteArray.data_extract];apply gI;simp[Wn,List.drop_take]
theorem M' (s t:ByteArray):s++t=⟨(s.data.toList++t.data.toList).toArray⟩:=by
 apply ByteArray.ext;rw[ByteArray.data_append];apply gI;simp
theorem size_data (s:ByteArray):s.size=s.data.toList.length:=by cases s;rfl
theorem Pn (tok:sF P T) (hs:ep w A N a s) {o:Oper} {x:AV} (h:dG P T s o.op=some x):
  ∃v,Rel w A x v/\∀w',iV w w'->(execOp a.eval o).run P w'= .ok (.value v) w':=by
 obtain⟨dst,op,ty,pos,after,gd⟩:=o;unfold dG at h;simp only at h;split at h
 ·--indexAddr
  rename_i t y ix;split at h
  ·rename_i k rows j e k' _ _ _ hy hj ht;split at h
   ·rename_i r hk hr;simp only[aA]at h;subst h;have hk:=bB hk;subst hk;obtain⟨kd,hj⟩:=uU hj;obtain⟨hu,hke,hh⟩:=jT (tok _ _ ht) rfl;have h1:=bt hs hy;have h2:=bt hs hj;simp only[Rel]at h1 h2;rw[ck]at hr;have hlt:j<rows.length:=(c8.1 hr).1;rcases h1 with⟨rfl,_⟩|⟨b,off,cap,vs,e1,e2,e3,e4,e5,e6⟩
    ·simp at hlt
    ·obtain⟨h3,us,h4,h5⟩:=e5.get hr;refine⟨.pointer (some ⟨b,off+j*k,none⟩),?_,λw' _=>?_⟩
     rotate_left
     ·rw[hke];simp[execOp,e1,h2,Instr.indexAt,asIntOf,run_underlying hu,hlt,kE hh,Addr.add_lit]
     ·simp only[Rel];refine⟨b,off+j*k,us,rfl,e2,h4,λi u hi=>?_⟩;have:=e6 _ _ (h5 i u hi);rwa[<-xq]at this
   ·cases h
  ·rename_i b off j m e k g _ _ _ hy hj ht;split at h
   ·rename_i hjm;simp only[aA]at h;subst h;rw[jQ]at hjm;obtain⟨kd,hj⟩:=uU hj;obtain⟨u,ti,hu,_,hd,_⟩:=dY (tok _ _ ht);cases u<;>simp only[fy,gW,bI,beq_iff_eq]at hd;obtain⟨⟨⟨⟨⟨rfl,rfl⟩,hk⟩,_⟩,hh⟩,_⟩:=hd;have h1:=bt hs hy;have h2:=bt hs hj;simp only[Rel]at h1 h2;refine⟨_,eS _,λw' _=>?_⟩;rw[hk];simp[execOp,h1,h2,Instr.indexAt,Instr.sureAddr,asIntOf,run_underlying hu,hjm,kE hh,Addr.add_lit]
   ·cases h
  ·cases h
 ·--index
  rename_i t y ix;split at h
  ·rename_i b j _ _ _ hy hj ht;split at h
   ·rename_i c hc;simp only[aA]at h;subst h;obtain⟨kd,hj⟩:=uU hj;obtain⟨u,_,hu,_,hd,_⟩:=dY (tok _ _ ht);cases u<;>simp[fy]at hd;have h1:=bt hs hy;have h2:=bt hs hj;simp only[Rel]at h1 h2;refine⟨_,eS _,λw' _=>?_⟩;rw[ck]at hc;have hc':b[j]? =some c:=by
     obtain⟨hlt,he⟩:=c8.1 hc;rw[getElem?_pos b j (by rw[size_data];exact hlt),<-he];rfl
    simp[execOp,h1,h2,Instr.index,asIntOf,run_underlying hu,hc']
   ·cases h
  ·cases h
 ·--slice
  rename_i t y lo hi;split at h
  ·rename_i k rows e k' _ _ _ hy ht;split at h
   ·rename_i l hh hl hhh;split at h
    ·rename_i hB;simp only[aA]at h;subst h;simp only[bI]at hB;obtain⟨⟨hk,h1⟩,h2⟩:=hB;have hk:=bB hk;subst hk;have h1:=dw h1;have h2:=dw h2;obtain⟨hu,hke,hsz⟩:=jT (tok _ _ ht) rfl;have hy':=bt hs hy;simp only[Rel]at hy';have hlen:((rows.take hh).drop l).length=hh-l:=by simp;omega
     rcases hy' with⟨rfl,ad,cap,e1⟩|⟨b,off,cap,vs,e1,e2,e3,e4,e5,e6⟩
     ·have hz:hh=0:=by simpa using h2
      subst hz;have hz:l=0:=by omega
      subst hz;refine⟨.slice (if cap=0 then ad else ad.map (·.add (0*fP P e))) 0 cap,?_,λw' _=>?_⟩
      ·simp only[Rel,List.take_zero,List.drop_nil];exact .inl ⟨trivial,_,_,rfl⟩
      ·have hb:=xQ (P:=P) (cap:=cap) hs true hl hhh h1 h2 (mU _) w';simp only[lW]at hb;simp only[execOp,e1,Instr.sliceAt,Instr.slice,Sem.run_bind,run_underlying hu,Ms,hb,Result.andThen_ok,kE hsz,Sem.run_pure,Mr]
     ·have hb:=λw'=>xQ (P:=P) hs true hl hhh h1 h2 e3 w';have hrun:∀w',(execOp a.eval ⟨dst,.slice t y lo hi none,ty,pos,after,gd⟩).run P w'= .ok (.value (.slice (if cap=l then some ⟨b,off,none⟩else some ⟨b,off+l*k,none⟩) (hh-l) (cap-l))) w':=λw'=>by
       simp only[execOp,e1,Instr.sliceAt,Instr.slice,Sem.run_bind,run_underlying hu,Ms,hb w',Result.andThen_ok,kE hsz,Sem.run_pure,Option.map_some,Addr.add_lit];rw[<-hke]
      refine⟨_,?_,λw' _=>hrun w'⟩;simp only[Rel];by_cases hcl:cap=l
      ·left;refine⟨lY (by rw[hlen];omega),some ⟨b,off,none⟩,0,?_⟩;rw[cZ hcl];congr 1<;>omega
      ·right;rw[cM hcl];refine⟨b,off+l*k,cap-l,(vs.take (hh*k)).drop (l*k),by rw[hlen],e2,by rw[hlen];omega,by omega,e5.Jn.Jo,λj u hj=>?_⟩;rw[mW,jR]at hj;split at hj
       ·have:=e6 _ _ hj;rwa[<-xq]at this
       ·cases hj
    ·cases h
   ·cases h
  ·rename_i b _ _ _ hy ht;split at h
   ·rename_i l hh hl hhh;split at h
    ·rename_i hB;simp only[aA]at h;subst h;simp only[bI]at hB;obtain⟨h1,h2⟩:=hB;have h1:=dw h1;have h2:=dw h2;obtain⟨u,_,hu,_,hd,_⟩:=dY (tok _ _ ht);cases u<;>simp[fy]at hd;have hy':=bt hs hy;simp only[Rel]at hy';refine⟨_,eS _,λw' _=>?_⟩;have hb:=xQ (P:=P) hs false hl hhh h1 h2 (bA _) w';rw[<-size_data]at hb;simp only[execOp,hy',Instr.sliceAt,Instr.slice,Sem.run_bind,run_underlying hu,Ms,Option.isSome_none,gW,if_false,Sem.run_ite,Sem.run_pure,hb,Result.andThen_ok,extract_data]
    ·cases h
   ·cases h
  ·cases h
 ·--add
  rename_i t x' y' yt;split at h
  ·rename_i p q hp hq;split at h
   ·rename_i hle;simp only[aA]at h;subst h;have hle:=dw hle;have h1:=bt hs hp;have h2:=bt hs hq;simp only[Rel]at h1 h2;refine⟨_,eS _,λw' _=>?_⟩;have hlt:¬(((p.size+q.size:Nat):Int)>IntKind.i64.max):=by
     rw[size_data,size_data];have:IntKind.i64.max=9223372036854775807:=rfl;rw[this];omega
    simp only[execOp,h1,h2,eqGuard_at_string,binOp,Op.stringOp,cM hlt,Sem.run_bind,Sem.run_pure,Result.andThen_ok,M']
   ·cases h
  ·cases h
 ·--eql
  rename_i t x' y' yt;split at h
  ·rename_i xs ys hp hq;split at h
   ·rename_i fs hB hu;split at h
    ·rename_i c hc;simp only[aA]at h;subst h;have h1:=bt hs hp;have h2:=bt hs hq;simp only[Rel]at h1 h2;obtain⟨us,h1,h1'⟩:=h1;obtain⟨vs,h2,h2'⟩:=h2;refine⟨_,eS _,λw' _=>?_⟩;have:=(Hd hB hu hc h1' h2' x' y').1 w';simp only[execOp,h1,h2,Sem.run_bind]at this⊢;rw[this];simp
    ·cases h
   ·cases h
  ·cases h
 ·--neq
  rename_i t x' y' yt;split at h
  ·rename_i xs ys hp hq;split at h
   ·rename_i fs hB hu;split at h
    ·rename_i c hc;simp only[aA]at h;subst h;have h1:=bt hs hp;have h2:=bt hs hq;simp only[Rel]at h1 h2;obtain⟨us,h1,h1'⟩:=h1;obtain⟨vs,h2,h2'⟩:=h2;refine⟨_,eS _,λw' _=>?_⟩;have:=(Hd hB hu hc h1' h2' x' y').2 w';simp only[execOp,h1,h2,Sem.run_bind]at this⊢;rw[this];simp
    ·cases h
   ·cases h
  ·cases h
 ·cases h
end
theorem NX {P:Program} {T:bO} {s s':Sl} {op:Op} (h:∀p∈op.operands.toList,ev s' p=ev s p):dG P T s' op=dG P T s op:=by
 unfold dG;split
 ·rename_i t x ix;rw[h x (by simp[Op.operands]),h ix (by simp[Op.operands])]
 ·rename_i t x ix;rw[h x (by simp[Op.operands]),h ix (by simp[Op.operands])]
 ·rename_i t x lo hi;have h1:∀d,gC s' d lo=gC s d lo:=λd=>by
   cases lo with
   |none=>rfl
   |some p=>simp only[gC];rw[h p (by simp[Op.operands])]
  have h2:∀d,gC s' d hi=gC s d hi:=λd=>by
   cases hi with
   |none=>rfl
   |some p=>simp only[gC];rw[h p (by simp[Op.operands])]
  rw[h x (by simp[Op.operands])];simp only[h1,h2]
 ·rename_i t x y yt;rw[h x (by simp[Op.operands]),h y (by simp[Op.operands])]
 ·rename_i t x y yt;rw[h x (by simp[Op.operands]),h y (by simp[Op.operands])]
 ·rename_i t x y yt;rw[h x (by simp[Op.operands]),h y (by simp[Op.operands])]
 ·rfl
theorem bM.dG {E:Env} {N:Nat} {o:Oper} {s:Sl} {O:List ah} {x:AV} (h:dG E.P E.T s o.op=some x):bM E.toCx N o s O x:=
 bM.lT λ_ _ _ hs=>Pn (P:=E.P) E.tok hs.sg (by rw[NX λp hp=>eN hp];exact h)
def bytesOf:List (List AV)->Option (List UInt8)
 |[]=>some []
 |[.v (.int .u8 n)]::r=>match bytesOf r with
  |some bs=>some (UInt8.ofNat n.toNat::bs)
  |none=>none
 |_=>none
theorem EC {w:World} {A:Nat->Prop}:∀{rows:List (List AV)} {bs:List UInt8} {vs:List Value},bytesOf rows=some bs->br w A 1 rows vs->∃ns:List Int,vs=ns.map (Value.int .u8)/\bs=ns.map (λn=>UInt8.ofNat n.toNat)/\ns.length=rows.length
 |[],bs,vs,h,hr=>by
  simp only[bytesOf,aA]at h;subst h;simp only[br]at hr;subst hr;exact⟨[],rfl,rfl,rfl⟩
 |x::r,bs,vs,h,hr=>by
  unfold bytesOf at h;split at h
  ·rename_i heq;cases heq
  ·rename_i n r' heq;cases heq;split at h
   ·rename_i bs' h1;cases h;simp only[br,aF]at hr;obtain⟨v1,v2,rfl,_,⟨v,r0,rfl,h2,rfl⟩,h3⟩:=hr;simp only[Rel]at h2;subst h2;obtain⟨ns,rfl,rfl,h4⟩:=EC h1 h3;exact⟨n::ns,rfl,rfl,by simp[h4]⟩
   ·cases h
  ·cases h
theorem foldl_push:∀(ns:List Int) (s:ByteArray),ns.foldl (λr n=>r.push (UInt8.ofNat n.toNat)) s=⟨⟨s.data.toList++ns.map (λn=>UInt8.ofNat n.toNat)⟩⟩
 |[],s=>by simp
 |n::ns,s=>by rw[D9,foldl_push ns];simp[ByteArray.push]
theorem MR {E:Env} {N:Nat} {Z:Sg} {O:List ah} {o:Oper} {ts td e sz by' sz' by'' sz2 by2:Nat} {z z' z2:List Value} {x:Operand} (ho:o.op= .convert ts td x) {rows:List (List AV)} {bs:List UInt8} (hx:ev (look Z) x=some (.sl 1 rows)) (hs:aX E.T ts=some ⟨.slice e 1,sz,by',z⟩) (he:aX E.T e=some ⟨.int .u8,sz',by'',z'⟩) (hd:aX E.T td=some ⟨.str,sz2,by2,z2⟩)
  (hb:bytesOf rows=some bs):lU E.toCx N o Z O (.v (.string ⟨⟨bs⟩⟩)):=λF a w hst=>by
 have h1:=bt hst.sg hx;obtain⟨hu,_,_⟩:=jT (E.tok _ _ hs) rfl;have hud:E.P.underlying td=some .string:=by
  obtain⟨u,_,hu,_,hd',_⟩:=dY (E.tok _ _ hd);cases u<;>simp[fy]at hd';exact hu
 have hue:E.P.underlying e=some (.int .u8):=by
  obtain⟨u,_,hu,_,hd',_⟩:=dY (E.tok _ _ he);cases u<;>simp[fy]at hd';subst hd';exact hu
 refine⟨.string ⟨⟨bs⟩⟩,by simp only[Rel],λw' hw'=>?_⟩;simp only[Rel]at h1;rcases h1 with⟨rfl,ad,cap,e1⟩|⟨b,off,cap,vs,e1,e2,_,_,e3,e4⟩
 ·simp only[bytesOf,aA]at hb;subst hb;have h3:(Conv.bytesToString (.slice ad 0 cap)).run E.P w'= .ok (.string ⟨⟨[]⟩⟩) w':=by
   cases ad with
   |none=>rfl
   |some ad=>have:=run_bytesToString (P:=E.P) w' ad 0 cap [] (by have:=run_loadCells_list (P:=E.P) w' ad [] (by simp);simpa using this);exact this
  simp[execOp,ho,e1,run_convert_bytes_string w' ts td e ad 0 cap hu hue hud,h3]
 ·obtain⟨ns,rfl,rfl,hl⟩:=EC hb e3;have h3:(Conv.bytesToString (.slice (some ⟨b,off,none⟩) rows.length cap)).run E.P w'= .ok (.string ⟨⟨ns.map λn=>UInt8.ofNat n.toNat⟩⟩) w':=by
   have:=run_bytesToString (P:=E.P) w' ⟨b,off,none⟩ rows.length cap ns (by
    have:=run_loadCells_list (P:=E.P) w' ⟨b,off,none⟩ (ns.map (Value.int .u8)) (λj v hj=>by rw[Addr.add_lit];exact hw'.cell (e4 j v hj));rw[oM,hl]at this;exact this)
   rw[foldl_push]at this;simpa using this
  simp[execOp,ho,e1,run_convert_bytes_string w' ts td e _ _ cap hu hue hud,h3]
def jF (G:Gl) (T:bO) (s:Sl):Op->Option AV
 | .load t p=>match ev s p,aX T t with
  |some (.v (.pointer (some ⟨g,off,none⟩))),some ⟨d,_,_,_⟩=>match d.agg,qK G g with
   |false,some vs=>match nth vs off with
    |some u=>some (.v u)
    |none=>none
   |_,_=>none
  |_,_=>none
 | .convert ts td x=>match ev s x,aX T ts,aX T td with
  |some (.sl k rows),some ⟨.slice e k',_,_,_⟩,some ⟨.str,_,_,_⟩=>match Nat.beq k 1,Nat.beq k' 1,aX T e,bytesOf rows with
   |true,true,some ⟨.int .u8,_,_,_⟩,some bs=>some (.v (.string ⟨⟨bs⟩⟩))
   |_,_,_,_=>none
  |_,_,_=>none
 |_=>none
theorem bM.jF {E:Env} {N:Nat} {o:Oper} {s:Sl} {O:List ah} {x:AV} (h:jF E.G E.T s o.op=some x):bM E.toCx N o s O x:=by
 refine bM.lT ?_;unfold Bw.jF at h;split at h
 ·rename_i t p ho;split at h
  ·rename_i g off d k b z hp ht;split at h
   ·rename_i vs hd hg;split at h
    ·rename_i u hu;simp only[aA]at h;subst h;rw[ck]at hu;exact NY ho (by rw[eN (by simp[ho,Op.operands])];exact hp) hg hu ht hd
    ·cases h
   ·cases h
  ·cases h
 ·rename_i ts td p ho;split at h
  ·rename_i k rows e k' sz by' z sz2 by2 z2 hp hs hd;split at h
   ·rename_i hk hk' he hb;cases h;have:=bB hk;subst this;have:=bB hk';subst this;exact MR ho (by rw[eN (by simp[ho,Op.operands])];exact hp) hs he hd hb
   ·cases h
  ·cases h
 ·cases h
theorem bM.len {E:Env} {N:Nat} {o:Oper} {s:Sl} {O:List ah} {t:TypeId} {x:Operand} {y:AV} {n:Int} (ho:o.op= .call {callee:= .builtin .len,args:= #[x],argTypes:= #[t]}) (hx:ev s x=some y) (hl:n9 E.T t y=some n):bM E.toCx N o s O (.v (.int .i64 n)):=
 bM.lT (He ho (by rw[eN (by simp[ho,Op.operands,Call.operands])];exact hx) hl)
def sk:Option AV->Option Bool
 |some (.v (.slice none _ _))=>some true
 |some (.v (.slice (some _) _ _))=>some false
 |some (.sl _ (_::_))=>some false
 |_=>none
def nT:Option AV->Option Bool
 |some (.v (.bool b))=>some b
 |_=>none
theorem u7 {x:Option AV} {b:Bool} (h:nT x=some b):x=some (.v (.bool b)):=by
 unfold nT at h;split at h
 ·simp only[aA]at h;subst h;rfl
 ·cases h
def qL:Option AV->Option (IntKind×Int)
 |some (.v (.int k n))=>some (k,n)
 |_=>none
theorem vt {x:Option AV} {k:IntKind} {n:Int} (h:qL x=some (k,n)):x=some (.v (.int k n)):=by
 unfold qL at h;split at h
 ·simp only[aA,cv]at h;obtain⟨rfl,rfl⟩:=h;rfl
 ·cases h
def eZ (P:Program) (s:Sl):Op->Option AV
 | .binOp .eql t x y _=>match P.underlying t,sk (ev s x),ev s y with
  |some (.slice _),some b,some (.v (.slice none 0 0))=>some (.v (.bool b))
  |some .bool,_,_=>match nT (ev s x),nT (ev s y)with
   |some a,some b=>some (.v (.bool (a==b)))
   |_,_=>none
  |_,_,_=>none
 | .binOp .neq t x y _=>match P.underlying t,sk (ev s x),ev s y with
  |some (.slice _),some b,some (.v (.slice none 0 0))=>some (.v (.bool !b))
  |some .bool,_,_=>match nT (ev s x),nT (ev s y)with
   |some a,some b=>some (.v (.bool !(a==b)))
   |_,_=>none
  |_,_,_=>none
 | .call {callee:= .builtin .min,args:=as,argTypes:=_}=>match as.toList with
  |[x,y]=>match qL (ev s x),qL (ev s y)with
   |some (k,a),some (_,b)=>some (.v (.int k (if b<a then b else a)))
   |_,_=>none
  |_=>none
 | .call {callee:= .builtin .max,args:=as,argTypes:=_}=>match as.toList with
  |[x,y]=>match qL (ev s x),qL (ev s y)with
   |some (k,a),some (_,b)=>some (.v (.int k (if b>a then b else a)))
   |_,_=>none
  |_=>none
 |_=>none
section
variable {w:World} {A:Nat->Prop} {N:Nat} {a:Act} {s:Sl} {P:Program}
theorem Fe (hs:ep w A N a s) {x:Operand} {b:Bool} (h:sk (ev s x)=some b):∃ad n c,a.eval x= .slice ad n c/\ad.isNone=b:=by
 unfold sk at h;split at h
 ·rename_i n c hx;have:=bt hs hx;simp only[Rel]at this;cases h;exact⟨none,n,c,this,rfl⟩
 ·rename_i ad n c hx;have:=bt hs hx;simp only[Rel]at this;cases h;exact⟨some ad,n,c,this,rfl⟩
 ·rename_i k r rows hx;have:=bt hs hx;simp only[Rel]at this;cases h;rcases this with⟨h1,_⟩|⟨b,o,cap,vs,h1,_⟩
  ·cases h1
  ·exact⟨_,_,_,h1,rfl⟩
 ·cases h
theorem uT {t e:TypeId} (hu:P.underlying t=some (.slice e)) (ad:Option Addr) (n c:Nat) (w:World):(Op.equal t (.slice ad n c) (.slice none 0 0)).run P w= .ok ad.isNone w:=by
 have h3:Op.equal t (.slice ad n c) (.slice none 0 0)=Op.equalIn (9999+1) t (.slice ad n c) (.slice none 0 0):=rfl;rw[h3];unfold Op.equalIn;cases ad<;>simp[run_underlying hu]
theorem Po (hs:ep w A N a s) {o:Oper} {x:AV} (h:eZ P s o.op=some x):∃v,Rel w A x v/\∀w',(execOp a.eval o).run P w'= .ok (.value v) w':=by
 obtain⟨dst,op,ty,pos,after,gd⟩:=o;unfold eZ at h;simp only at h;split at h
 ·rename_i t x y yt;split at h
  ·rename_i e b hu hx hy;simp only[aA]at h;subst h;obtain⟨ad,n,c,h1,rfl⟩:=Fe hs hx;have h2:=bt hs hy;simp only[Rel]at h2;refine⟨_,eS _,λw'=>?_⟩;have h3:binOp .eql t (.slice ad n c) (.slice none 0 0)=(do pure (.bool (<-Op.equal t (.slice ad n c) (.slice none 0 0))):Sem Value):=rfl;simp[execOp,h1,h2,eqGuard,h3,uT hu]
  ·rename_i hu;split at h
   ·rename_i p q hx hy;simp only[aA]at h;subst h;have h1:=bt hs (u7 hx);have h2:=bt hs (u7 hy);simp only[Rel]at h1 h2;refine⟨_,eS _,λw'=>?_⟩;have h3:binOp .eql t (.bool p) (.bool q)=(do pure (.bool (<-Op.equal t (.bool p) (.bool q))):Sem Value):=rfl;have h4:Op.equal t (.bool p) (.bool q)=Op.equalIn (9999+1) t (.bool p) (.bool q):=rfl;simp[execOp,h1,h2,eqGuard,h3,h4,run_equalIn_bool' w' 9999 t p q hu]
   ·cases h
  ·cases h
 ·rename_i t x y yt;split at h
  ·rename_i e b hu hx hy;simp only[aA]at h;subst h;obtain⟨ad,n,c,h1,rfl⟩:=Fe hs hx;have h2:=bt hs hy;simp only[Rel]at h2;refine⟨_,eS _,λw'=>?_⟩;have h3:binOp .neq t (.slice ad n c) (.slice none 0 0)=(do pure (.bool (!(<-Op.equal t (.slice ad n c) (.slice none 0 0)))):Sem Value):=rfl;simp[execOp,h1,h2,eqGuard,h3,uT hu]
  ·rename_i hu;split at h
   ·rename_i p q hx hy;simp only[aA]at h;subst h;have h1:=bt hs (u7 hx);have h2:=bt hs (u7 hy);simp only[Rel]at h1 h2;refine⟨_,eS _,λw'=>?_⟩;have h3:binOp .neq t (.bool p) (.bool q)=(do pure (.bool (!(<-Op.equal t (.bool p) (.bool q)))):Sem Value):=rfl;have h4:Op.equal t (.bool p) (.bool q)=Op.equalIn (9999+1) t (.bool p) (.bool q):=rfl;simp[execOp,h1,h2,eqGuard,h3,h4,run_equalIn_bool' w' 9999 t p q hu]
   ·cases h
  ·cases h
 ·rename_i as ts;obtain⟨as⟩:=as;split at h
  ·rename_i x y he;simp only at he;subst he;split at h
   ·rename_i k p k' q hx hy;simp only[aA]at h;subst h;have h1:=bt hs (vt hx);have h2:=bt hs (vt hy);simp only[Rel]at h1 h2;refine⟨_,eS _,λw'=>?_⟩;simp[execOp,resolve,invoke,builtin,h1,h2,Builtin.min_,Builtin.min2]
   ·cases h
  ·cases h
 ·rename_i as ts;obtain⟨as⟩:=as;split at h
  ·rename_i x y he;simp only at he;subst he;split at h
   ·rename_i k p k' q hx hy;simp only[aA]at h;subst h;have h1:=bt hs (vt hx);have h2:=bt hs (vt hy);simp only[Rel]at h1 h2;refine⟨_,eS _,λw'=>?_⟩;simp[execOp,resolve,invoke,builtin,h1,h2,Builtin.max_,Builtin.max2]
   ·cases h
  ·cases h
 ·cases h
theorem NZ {s s':Sl} {op:Op} (h:∀p∈op.operands.toList,ev s' p=ev s p):eZ P s' op=eZ P s op:=by
 unfold eZ;split
 ·rename_i t x y yt;rw[h x (by simp[Op.operands]),h y (by simp[Op.operands])]
 ·rename_i t x y yt;rw[h x (by simp[Op.operands]),h y (by simp[Op.operands])]
 ·rename_i as ts;obtain⟨as⟩:=as;simp only;split
  ·rename_i _ x y;rw[h x (by simp[Op.operands,Call.operands]),h y (by simp[Op.operands,Call.operands])]
  ·rfl
 ·rename_i as ts;obtain⟨as⟩:=as;simp only;split
  ·rename_i _ x y;rw[h x (by simp[Op.operands,Call.operands]),h y (by simp[Op.operands,Call.operands])]
  ·rfl
 ·rfl
end
theorem bM.eZ {E:Env} {N:Nat} {o:Oper} {s:Sl} {O:List ah} {x:AV} (h:eZ E.P s o.op=some x):bM E.toCx N o s O x:=
 bM.lT λ_ _ _ hs=>(Po (P:=E.P) hs.sg (by rw[NZ λp hp=>eN hp];exact h)).imp λ_ h=>⟨h.1,λw' _=>h.2 w'⟩
