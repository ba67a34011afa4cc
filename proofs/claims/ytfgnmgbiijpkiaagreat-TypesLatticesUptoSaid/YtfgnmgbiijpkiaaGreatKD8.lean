/- The abstract machine, eighth part: the driver's lemmas for walks with open values. -/
import Derived.Test.YtfgnmgbiijpkiaaGreatKD7
set_option linter.all false
noncomputable section
namespace Go.Bw
open Go
def ow:fy:=⟨false,λ_=>false,λ_=>false,λ_=>false,λ_=>none,λ_=>none,[]⟩
section
variable {E:Env} {Q:DQ} {N K N' K':Nat} {todo todo' t1 t2:List It} {Z σ' s1 s2:TS} {O O':Hp} {ns:List (Nat×Nat)}
def Rz:fy:=⟨true,λ_=>false,λ_=>false,λ_=>false,λ_=>none,λ_=>none,[]⟩
theorem X7 (hm:E.P.follows .mixedOrders=true) (f:Nat) {e:DE} (h:dx E.P E.G E.T Rz f N K todo Z O []= .fin e σ' O' []) (k:Q e σ' O'):ak E N K todo Q Z O:=
 (Fe hm Rz (λf hf=>by cases hf) (λf ty z h=>by cases h) (λg x h=>by cases h) f Q N K todo Z O [] (by rw[h];exact⟨trivial,k⟩)).2
theorem Pure.walk {g:FuncId} {fn:Func} {c:Code} {xs:List AV} {rs:List ResultVar} {nt:Nat} {res:AR} (hf:E.P.funcs[g]? =some fn) (hb:fn.body=some c) (hname:(fn.name== "runtime.NumGoroutine")=false) (hrs:fn.results=rs.toArray) (hnt:fn.ntmps=nt) (hn:Nat.ble xs.length nt=true)
  (h:ak E nt 0 [.code c] (RD E.T rs (Ends 60 res)) (gH 0 (xs.map .d)) Hp.nil):Pure E.toCx g xs res:=Pure.TZ 60 (eh.enter hf hb hname rs hrs nt hnt (by simpa using hn) h)
end
section
variable {E:Env} {Q:DQ} {N K:Nat} {Z:TS} {O:Hp} {o:Oper} {all rest:List Oper} {k:List It} {x:CV}
theorem ak.val (hg:o.guard=none) (hd:ck N o.dst=true) (h:bg E N o Z O x) (hk:ak E N K (.ops all rest::k) Q (bW Z o.dst x) O):ak E N K (.ops all (o::rest)::k) Q Z O:=DO.oH hg hd h hk
theorem ak.pure {dst:Option Nat} {f:Operand} {args:List Operand} {g:FuncId} {cs:List CV} {xs:List AV} {res:AV} {tys:Array TypeId} {ty:TypeId} {pos:String} {after:Array Edge} (h:Pure E.toCx g xs (.ret res)) (hc:cT Z f args=some (g,cs)) (hx:fq cs=some xs) (hd:ck N dst=true)
  (hk:ak E N K (.ops all rest::k) Q (bW Z dst (.d res)) O):ak E N K (.ops all (⟨dst,.call {callee:= .value f,args:=args.toArray,argTypes:=tys},ty,pos,after,none⟩::rest)::k) Q Z O:=
 ak.val (o:=⟨dst,.call {callee:= .value f,args:=args.toArray,argTypes:=tys},ty,pos,after,none⟩) rfl hd (λL s OB hs _=>by
  obtain⟨ys,h1,h2⟩:=nP hs hc;have:=mF hx h2;subst this;exact⟨res,rfl,bV.pure rfl h h1⟩) hk
theorem ak.skip (h:ak E N K k Q Z O):ak E N K (.code .skip::k) Q Z O:=DC.skip h
theorem ak.seq {x y:Code} (h:ak E N K (.code x:: .code y::k) Q Z O):ak E N K (.code (.seq x y)::k) Q Z O:=DC.seq (by rw[M8];exact h)
theorem ak.Z6 {id:Nat} {l:List Oper} (pre:List Nat) (tl:List (Nat×TK)) (al:List Nat) (A:bR) (hm:E.P.follows .mixedOrders=true) (hA:ny E.T l.toArray N al=some A) (hB:pG l.toArray pre tl al=true) (hl:Nat.beq (fQ l.toArray pre).length pre.length=true)
  (h:ak E N K (.lex l (jC l.toArray tl) A (fQ l.toArray pre) []::k) Q Z O):ak E N K (.code (.region id l.toArray true)::k) Q Z O:=DC.open pre tl al A hm hA hB hl h
theorem ak.AH {A:bR} {tl:List (Nat×Oper×TK)} {pre:List Oper} {W:List (Nat×List CV)} (hd:ck N o.dst=true) (hw:cC all o Z=some true) (hf:lZ o W=true) (h:bg E N o Z O x) (hk:ak E N K (.lex all tl A pre W::k) Q (bW Z o.dst x) O):ak E N K (.lex all tl A (o::pre) W::k) Q Z O:=ec.val hd hw hf h hk
theorem bg.call {dst:Option Nat} {f:Operand} {args:List Operand} {g:FuncId} {cs:List CV} {xs:List AV} {res:AV} {tys:Array TypeId} {ty:TypeId} {pos:String} {after:Array Edge} {gd:Option (Nat×Bool)} (h:Pure E.toCx g xs (.ret res)) (hc:cT Z f args=some (g,cs)) (hx:fq cs=some xs):bg E N ⟨dst,.call {callee:= .value f,args:=args.toArray,argTypes:=tys},ty,pos,after,gd⟩ Z O (.d res):=λL s OB hs _=>by
 obtain⟨ys,h1,h2⟩:=nP hs hc;have:=mF hx h2;subst this;exact⟨res,rfl,bV.pure rfl h h1⟩
theorem lV {p:Operand} {y:AV} (h:a6 Z p=some (.d y)):ev (ee Z) p=some y:=by
 cases p with
 |tmp t=>
  have h:Z.get t=some (.d y):=h;show ee Z t=some y;unfold ee;rw[h]
 |const v=>cases h;rfl
 |global g=>cases h;rfl
 |func f=>cases h;rfl
end
section
variable {E:Env} {Q:DQ} {N K:Nat} {Z:TS} {O:Hp} {o:Oper} {all rest:List Oper} {k:List It}
end
theorem get_map {D β:Type} {f:D->β} {xs:List D} {i:Nat} {x:D} (h:xs[i]? =some x):(xs.map f)[i]? =some (f x):=by rw[my,h];rfl
section
variable {E:Env} {Q:DQ} {N K:Nat} {Z:TS} {O:Hp} {k:List It} {S:Type}
def Z7 (m:Nat) (ts:List Nat) (n:Nat) (L:Int->S->List (Nat×CV)) (H:Nat->S->List bm) (J:Nat->S->Prop) (i:Nat) (σ1:TS) (η1:Hp):Prop:=
 ∃n',n'<n-i/\∃l' es',m<=η1.n/\eL m ts σ1=some l'/\kv m η1=some es'/\∃(j:Nat) (s:S),j<=n/\n'=n-j/\l'=L (j:Int) s/\es'=H j s/\J j s
theorem ak.next {m:Nat} {ts:List Nat} {n:Nat} {L:Int->S->List (Nat×CV)} {H:Nat->S->List bm} {J:Nat->S->Prop} {i:Nat} (s':S) (hi:i<n) (hn:n<4611686018427387904) (hm:Nat.ble m O.n=true) (hp:eL m ts Z=some (L (IntKind.i64.wrap ((i:Int)+1)) s')) (he:kv m O=some (H (i+1) s')) (hj:J (i+1) s'):
  ak E N K (.lp (Z7 m ts n L H J i)::k) Q Z O:=
 ak.lp ⟨n-(i+1),by omega,_,_,dD hm,hp,he,i+1,s',by omega,rfl,by
  have:IntKind.i64.wrap ((i:Int)+1)=((i+1:Nat):Int):=by rw[IntKind.wrap_i64];omega
  rw[this],rfl,hj⟩
end
theorem b4.of {x y:AV} (h:x=y):b4 x y:=h▸b4.refl x
theorem bZ.of {x y:List AV} (h:x=y):bZ x y:=h▸bZ.refl x
theorem dm.of {x y:List (List AV)} (h:x=y):dm x y:=h▸dm.refl x
theorem bZ.append:∀{xs ys xs' ys':List AV},bZ xs ys->bZ xs' ys'->bZ (xs++xs') (ys++ys')
 |_,_,_,_,.nil,h=>h
 |_,_,_,_,.cons h t,g=> .cons h (bZ.append t g)
theorem Pure.args {C:Cx} {g:FuncId} {xs ys:List AV} {res:AR} (hi:bZ xs ys) (h:Pure C g ys res):Pure C g xs res:=
 ⟨h.1,λF w vs h1 h2=>h.2 F w vs h1 (hi.rel h2)⟩
section
variable {E:Env} {Q:DQ} {N K:Nat} {Z:TS} {O:Hp} {o:Oper} {all rest:List Oper} {k:List It} {x:CV} {c:Code}
theorem RD.aco {rs:List ResultVar} {xs:List CV} {z y:AV} {ns:List (Nat×Nat)} {ms:List (Nat×bm)} (h:dT E.T Z O rs=some xs) (hf:b5 O.e 60 [eI xs]=some ([z],ns,ms)) (hn:eqs ns) (e:b4 z y):RD E.T rs (Ends 60 (.ret y)) .ret Z O:=⟨xs,h,z,ns,ms,hf,hn,y,rfl,e⟩
theorem RD.Z5 {rs:List ResultVar} {xs:List CV} {z y:AV} {ns:List (Nat×Nat)} {ms:List (Nat×bm)} (h:dT E.T Z O rs=some xs) (hf:b5 O.e 60 [eI xs]=some ([z],ns,ms)) (hn:eqs ns) (e:b4 z y):RD E.T rs (Ends 60 (.ret y)) .norm Z O:=⟨xs,h,z,ns,ms,hf,hn,y,rfl,e⟩
theorem RD.acp {rs:List ResultVar} {x:CV} {z y:AV} {ns:List (Nat×Nat)} {ms:List (Nat×bm)} (hf:b5 O.e 60 [x]=some ([z],ns,ms)) (hn:eqs ns) (e:b4 z y):RD E.T rs (Ends 60 (.aO y)) (.aO x) Z O:=⟨z,ns,ms,hf,hn,y,rfl,e⟩
theorem ez.TY {G:Gl} {Z:Sg} {O:List aq} {N:Nat} (i:Nat) {x y:aq} (hi:nth O i=some x) (hids:y.ids=x.ids) (hok:∀w A,x.ok w A->y.ok w A):ez G N Z O Z (O.set i y):=λF w a hs=>by
 have hsplit:O=O.take i++x::O.drop (i+1):=by
  rw[cq]at hi;obtain⟨hlt,hx⟩:=cr.1 hi;rw[<-hx,List.getElem_cons_drop hlt,JB]
 have hset:O.set i y=O.take i++y::O.drop (i+1):=by
  rw[cq]at hi;obtain⟨hlt,hx⟩:=cr.1 hi;rw[List.set_eq_take_append_cons_drop,dj hlt]
 have hI:ids (O.set i y)=ids O:=by
  rw[hset]
  conv=>rhs;rw[hsplit]
  simp only[cn,cF,hids]
 have hA:Al F (O.set i y)=Al F O:=by funext b;simp only[Al,hI]
 refine⟨⟨by rw[hA];exact hs.sg,⟨λz hz=>?_,by rw[hI];exact hs.hp.nodup,by rw[hI];exact hs.hp.free,hs.hp.bound,by rw[hA];exact hs.hp.dZ⟩,hs.df⟩,by rw[hI];exactλ_ h=>h⟩;rw[hA];rw[hset]at hz;have hmem:∀z,z∈O↔z∈O.take i++x::O.drop (i+1):=λz=>by rw[<-hsplit]
 simp only[cJ,cm]at hz hmem;rcases hz with hz|rfl|hz
 ·exact hs.hp.eD z ((hmem z).2 (.inl hz))
 ·exact hok _ _ (hs.hp.eD x ((hmem x).2 (.inr (.inl rfl))))
 ·exact hs.hp.eD z ((hmem z).2 (.inr (.inr hz)))
theorem DC.iF (t e kk:Nat) (ht:Z.get t=some (.d (.v (.slice none 0 0)))) (h:DC E N K c Q (Tr.put 24 Z t (some (.os O.n 0))) (O.push (.row e kk []))):DC E N K c Q Z O:=λL ZB OB hs hh=>by
 obtain⟨y,h1,h2⟩:=hs t _ ht;simp only[aI]at h2;subst h2;refine bK.iF t e kk h1 ?_;have hdom:=hh.fJ O.n (bQ _);have hl:L.le (L.ba O.n 0 (none,0)):=aH.ko λy hy=>by rw[hdom.2]at hy;cases hy
 have hbn:(L.ba O.n 0 (none,0)).s O.n 0=some (none,0):=by simp[aH.ba]
 refine bK.mono (h _ _ _ ((hs.mono hl).put (some t) (by simp only[aI];exact⟨_,_,OB.length,hbn,rfl⟩)) ?_) λ_ _ _ hq=>qm (hl.toK K) (λ_ _ _ h=>h) hq;refine hh.push hl (λi hi=>by funext m;simp[aH.ba,hi]) (λ_ _=>rfl) ⟨⟨none,0,by simpa using hbn,by simp⟩,λm hm=>?_⟩;have:m≠0:=by simp at hm;omega
 simp only[aH.ba,this,and_false,if_false];exact hdom.2 m
theorem ak.iF (t e kk:Nat) (ht:Z.get t=some (.d (.v (.slice none 0 0)))) (h:ak E N K (.code c::k) Q (Tr.put 24 Z t (some (.os O.n 0))) (O.push (.row e kk []))):ak E N K (.code c::k) Q Z O:=by
 unfold ak at h⊢;simp only[dq]at h⊢;exact DC.iF t e kk ht h
theorem bK.bound {C:Cx} {c:Code} {Q:AQ} {Z:Sg} {O:List aq} {N:Nat} (t:Nat) {k:Nat} {rows:List (List AV)} (ht:look Z t=some (.sl k rows)) (h:rows.length<=9223372036854775807->bK C N c Q Z O):bK C N c Q Z O:=λF w0 η0 a w hs hx=>by
 obtain⟨_,hv⟩:=hs.sg.2 t _ ht;refine h ?_ F w0 η0 a w hs hx;simp only[Rel]at hv;rcases hv with⟨rfl,_⟩|⟨b,o,cap,vs,e,h1,h2,h3,_⟩
 ·simp
 ·unfold maxLen at h3;omega
theorem DC.bound (t:Nat) {kk:Nat} {rows:List (List AV)} (ht:Z.get t=some (.d (.sl kk rows))) (h:rows.length<=9223372036854775807->DC E N K c Q Z O):DC E N K c Q Z O:=λL ZB OB hs hh=>by
 obtain⟨z,h1,h2⟩:=hs t _ ht;simp only[aI]at h2;subst h2;exact bK.bound t h1 λhl=>h hl L ZB OB hs hh
theorem ak.bound (t:Nat) {kk:Nat} {rows:List (List AV)} (ht:Z.get t=some (.d (.sl kk rows))) (h:rows.length<=9223372036854775807->ak E N K (.code c::k) Q Z O):ak E N K (.code c::k) Q Z O:=by
 unfold ak at h⊢;simp only[dq]at h⊢;exact DC.bound t ht h
def jK:List bm->List (Nat×bm)->List bm
 |es,[]=>es
 |es,(i,x)::r=>jK (fR es i x) r
where fR:List bm->Nat->bm->List bm
 |[],_,_=>[]
 |_::l,0,x=>x::l
 |y::l,i+1,x=>y::fR l i x
theorem Co {m:Nat} {Z:TS}:∀{ts us:List Nat} {l r:List (Nat×CV)},eL m ts Z=some l->eL m us Z=some r->eL m (ts++us) Z=some (l++r)
 |[],_,_,_,h,g=>by simp only[eL,aE]at h;subst h;exact g
 |t::ts,us,l,r,h,g=>by
  simp only[eL]at h;split at h
  ·rename_i x l' h1 h2;split at h
   ·rename_i h0;simp only[aE]at h;subst h;simp only[lE,eL,h1,Co h2 g,h0]
   ·cases h
  ·cases h
def AU {S:Type} (m:Nat) (ts ks:List Nat) (l0:List (Nat×CV)) (es0:List bm) (vs:S->List (Nat×CV)) (hs:S->List (Nat×bm)) (J:Nat->S->Prop) (n:Nat) (σ1:TS) (η1:Hp):Prop:=
 ∃n',n'<n/\∃l' es',m<=η1.n/\eL m (ts++ks) σ1=some l'/\kv m η1=some es'/\∃s:S,l'=l0++vs s/\es'=jK es0 (hs s)/\J n' s
theorem Wh {m:Nat} {l:List bm} (h:kv m O=some l):l.length=m:=(yB h).1
theorem LL:∀(l:List bm) (i:Nat) (x:bm),(jK.fR l i x).length=l.length
 |[],_,_=>rfl
 |_::l,0,_=>rfl
 |y::l,i+1,x=>by simp[jK.fR,LL l i x]
theorem LM:∀(r:List (Nat×bm)) (l:List bm),(jK l r).length=l.length
 |[],_=>rfl
 |(i,x)::r,l=>by rw[jK,LM r,LL]
theorem ak.Z2 {S:Type} (m:Nat) (ts ks:List Nat) (vs:S->List (Nat×CV)) (hs:S->List (Nat×bm)) (J:Nat->S->Prop) (n:Nat) (s0:S) {l0:List (Nat×CV)} {es:List bm} (hm:O.n=m) (hK:Nat.ble K m=true) (hp0:eL m ts Z=some l0) (hp:eL m ks Z=some (vs s0)) (he:kv m O=some es) (hes:es=jK es (hs s0)) (h0:J n s0)
  (round:∀n s,J n s->ak E N K (.code c:: .lp (AU m ts ks l0 es vs hs J n)::k) Q (p8 (l0++vs s)) ⟨nG 0 (jK es (hs s)),m⟩):ak E N K (.code (.loop c)::k) Q Z O:=by
 subst hm;exact ak.loop (ts++ks) O.n (λq l' es'=>∃s:S,l'=l0++vs s/\es'=jK es (hs s)/\J q s) n (dD hK) (bQ _) (Co hp0 hp) he ⟨s0,rfl,hes,h0⟩ (by
  rintro q l' es' ⟨s,rfl,rfl,hj⟩;have:=round q s hj;have hl:(jK es (hs s)).length=O.n:=by rw[LM,Wh he]
  unfold gF;rw[hl];exact this)
theorem ak.Z1 {S:Type} {m:Nat} {ts ks:List Nat} {l0:List (Nat×CV)} {es0:List bm} {vs:S->List (Nat×CV)} {hs:S->List (Nat×bm)} {J:Nat->S->Prop} {n:Nat} (s':S) (n':Nat) (hm:Nat.ble m O.n=true) (hp0:eL m ts Z=some l0) (hp:eL m ks Z=some (vs s')) (he:kv m O=some (jK es0 (hs s'))) (hn:n'<n) (hj:J n' s'):
  ak E N K (.lp (AU m ts ks l0 es0 vs hs J n)::k) Q Z O:=
 ak.lp ⟨n',hn,_,_,dD hm,Co hp0 hp,he,s',rfl,rfl,hj⟩
end
theorem aW:eqs []:=trivial
theorem eo {a b:Nat} {r:List (Nat×Nat)} (h:a=b) (k:eqs r):eqs ((a,b)::r):=⟨h,k⟩
def Ry (Z:TS):Op->Bool
 | .call {callee:= .builtin .append,args:=as,argTypes:=_}=>match as.toList with
  | .tmp t::_=>match Z.get t with
   |some (.os _ _)=>true
   |_=>false
  |_=>false
 |_=>false
def rV (Z:TS):List It->Bool
 | .code (.region _ _ true)::_=>true
 | .ops _ (o::_)::_=>Ry Z o.op
 | .tl _ ((_,o,.one)::_) _ _ _::_=>Ry Z o.op
 |_=>false
def ds (P:Program) (G:Gl) (T:bX):Nat->Nat->Nat->List It->TS->Hp->List (Nat×Nat)->Out
 |0,N,K,todo,Z,O,ns=> .stuck N K todo Z O ns
 |f+1,N,K,todo,Z,O,ns=>match rV Z todo with
  |true=> .stuck N K todo Z O ns
  |false=>match step P G T ow (λ_ _=>none) f N K todo Z O ns with
   | .go N' K' todo' σ' O' ns'=>ds P G T f N' K' todo' σ' O' ns'
   | .out o=>o
section
variable {E:Env}
variable {Q:DQ} {N K N' K':Nat} {todo todo' t1 t2:List It} {Z σ' s1 s2:TS} {O O':Hp} {ns:List (Nat×Nat)}
theorem Ok.stuck (hn:eqs ns) (k:ak E N' K' todo' Q σ' O'):Out.ok E Q (.stuck N' K' todo' σ' O' ns):=⟨hn,k⟩
theorem Ok.cond {b:Bool} (hn:eqs ns) (k1:b=true->ak E N' K' t1 Q s1 O') (k2:b=false->ak E N' K' t2 Q s2 O'):Out.ok E Q (.cond b N' K' t1 s1 t2 s2 O' ns):=⟨hn,k1,k2⟩
theorem Ok.fin {e:DE} (hn:eqs ns) (k:Q e σ' O'):Out.ok E Q (.fin e σ' O' ns):=⟨hn,k⟩
theorem Ok.val {o:Oper} {all rest:List Oper} {k:List It} {x:CV} (hn:eqs ns) (hg:o.guard=none) (hd:ck N' o.dst=true) (h:bg E N' o σ' O' x) (hk:ak E N' K' (.ops all rest::k) Q (bW σ' o.dst x) O'):Out.ok E Q (.stuck N' K' (.ops all (o::rest)::k) σ' O' ns):=
 ⟨hn,ak.val hg hd h hk⟩
theorem Ok.AH {o:Oper} {all pre:List Oper} {tl:List (Nat×Oper×TK)} {A:bR} {W:List (Nat×List CV)} {k:List It} {x:CV} (hn:eqs ns) (hd:ck N' o.dst=true) (hw:cC all o σ'=some true) (hf:lZ o W=true) (h:bg E N' o σ' O' x) (hk:ak E N' K' (.lex all tl A pre W::k) Q (bW σ' o.dst x) O'):
  Out.ok E Q (.stuck N' K' (.lex all tl A (o::pre) W::k) σ' O' ns):=⟨hn,ak.AH hd hw hf h hk⟩
theorem Ok.open {id:Nat} {l:List Oper} {k:List It} (pre:List Nat) (tl:List (Nat×TK)) (al:List Nat) {A:bR} (hn:eqs ns) (hm:E.P.follows .mixedOrders=true) (hA:ny E.T l.toArray N' al=some A) (hB:pG l.toArray pre tl al=true) (hl:Nat.beq (fQ l.toArray pre).length pre.length=true)
  (h:ak E N' K' (.lex l (jC l.toArray tl) A (fQ l.toArray pre) []::k) Q σ' O'):Out.ok E Q (.stuck N' K' (.code (.region id l.toArray true)::k) σ' O' ns):=⟨hn,ak.Z6 pre tl al A hm hA hB hl h⟩
end
section
variable {E:Env} {Q:DQ} {N K:Nat} {Z:TS} {O:Hp} {o:Oper} {all:List Oper} {k:List It} {x:CV} {l:List (Nat×Oper×TK)} {A:bR} {pend:List (Nat×Oper×CV)} {fs:List (Nat×List AV×AV)} {i:Nat} {ns:List (Nat×Nat)}
theorem aQ.call {dst:Option Nat} {f:Operand} {args:List Operand} {g:FuncId} {cs:List CV} {xs:List AV} {res:AV} {tys:Array TypeId} {ty:TypeId} {pos:String} {after:Array Edge} {gd:Option (Nat×Bool)} (h:Pure E.toCx g xs (.ret res)) (hc:cT Z f args=some (g,cs)) (hx:fq cs=some xs):
  aQ E N ⟨dst,.call {callee:= .value f,args:=args.toArray,argTypes:=tys},ty,pos,after,gd⟩ Z (.d res):=λL s OB hs=>by
 obtain⟨ys,h1,h2⟩:=nP hs hc;have:=mF hx h2;subst this;exact⟨res,rfl,bV.pure rfl h h1⟩
theorem aQ.idx {t:TypeId} {p ix:Operand} {e kk sz by':Nat} {z:List Value} {rows:List (List AV)} {r:List AV} {kd:IntKind} {m:Int} (j:Nat) (ho:o.op= .indexAddr t p ix) (hp:a6 Z p=some (.d (.sl kk rows)))
  (ht:a7 E.T t=some ⟨.slice e kk,sz,by',z⟩) (hix:a6 Z ix=some (.d (.v (.int kd m)))) (hm:m=(j:Int)) (hr:rows[j]? =some r):aQ E N o Z (.d (.ip r)):=λL s OB hs=>by
 obtain⟨y,h1,h2⟩:=cg hs hp;simp only[aI]at h2;subst h2;obtain⟨y',h4,h5⟩:=cg hs hix;simp only[aI]at h5;subst h5;subst hm;refine⟨.ip r,rfl,bV.ed (E:=E) ?_⟩;have hnat:nz (some (.v (.int kd (j:Int))))=some j:=rfl;rw[ho];simp only[Bw.ed,h1,h4,hnat,ht,u4,cq,hr]
theorem aQ.eS {y:AV} (h:eS E.P (ee Z) o.op=some y):aQ E N o Z (.d y):=λL s OB hs=>⟨y,rfl,(bV.eS h).mono λ_ _ _ hy=>kt hs hy⟩
theorem aQ.Y3 {t:TypeId} {p q:Operand} {yt:TypeId} {a b:Bool} (ho:o.op= .binOp .eql t p q yt) (hu:E.P.underlying t=some .bool) (hp:a6 Z p=some (.d (.v (.bool a)))) (hq:a6 Z q=some (.d (.v (.bool b)))):aQ E N o Z (.d (.v (.bool (a==b)))):=
 aQ.eS (by rw[ho];simp only[Bw.eS,hu,lV hp,lV hq,qX,nX])
theorem aG.nil:aG E N all [] Z O:=λp hp=>by cases hp
theorem aG.cons {r:List (Nat×Oper×CV)} (hw:cC all o Z=some true) (h:bg E N o Z O x) (hr:aG E N all r Z O):aG E N all ((i,o,x)::r) Z O:=λp hp=>by
 rcases cm.1 hp with rfl|hp
 ·exact .inl ⟨hw,h⟩
 ·exact hr p hp
theorem aG.skip {r:List (Nat×Oper×CV)} (hw:cC all o Z=some false) (hr:aG E N all r Z O):aG E N all ((i,o,.d (.v undef))::r) Z O:=λp hp=>by
 rcases cm.1 hp with rfl|hp
 ·exact .inr ⟨hw,rfl⟩
 ·exact hr p hp
theorem bg.du {cl:Bool} (h:du E.P E.G E.T cl Z O o.op=some (x,ns)) (hn:eqs ns):bg E N o Z O x:=v7 h hn
theorem ak.acm (hp:aG E N all pend Z O) (hd:ck N o.dst=true) (hw:cC all o Z=some true) (hv:aQ E N o Z x) (h:ak E N K (.tl all l A pend fs::k) Q (bW Z o.dst x) O):ak E N K (.tl all ((i,o,.fl)::l) A pend fs::k) Q Z O:=
 λhf=>cy.st hp hd (.inl ⟨hw,hv⟩) (h hf)
theorem ak.acn (hp:aG E N all pend Z O) (hd:ck N o.dst=true) (hw:cC all o Z=some true) (hv:bg E N o Z O x) (h:ak E N K (.tl all l A ((i,o,x)::pend) fs::k) Q (bW Z o.dst x) O):ak E N K (.tl all ((i,o,.fl)::l) A pend fs::k) Q Z O:=
 λhf=>cy.fl hp hd (.inl ⟨hw,hv⟩) (h hf)
theorem ak.YP (hm:E.P.follows .mixedOrders=true) (hp:aG E N all pend Z O) (h:Nx.ok E Q (vZ E.P E.G E.T ow (λ_ _=>none) N K all l A pend fs k Z O [] (.out (.stuck N K (.tl all l A pend fs::k) Z O [])))):ak E N K (.tl all l A pend fs::k) Q Z O:=
 (KX (c:=ow) (nest:=λ_ _=>none) (λg xs z hz=>by cases hz) (λg x h=>by cases h) (λ_=>hp) h (λh=>h)).2
theorem JV {D:Type} {f:D->List AV}:∀{l:List D},(∀x∈l,gy [f x]=true)->gy (l.map f)=true
 |[],_=>rfl
 |x::l,h=>by
  have h1:=h x (by simp);have h2:=JV (l:=l) λy hy=>h y (by simp[hy]);simp only[gy,kR,List.all_nil,rZ,dP]at h1 h2⊢;rw[h1,h2];rfl
theorem DO.cW {rest:List Oper} {i d n j m:Nat} {s p:Operand} {t:TypeId} {ty:TypeId} {pos:String} {after:Array Edge} {e e' kk sz by' sz' by'':Nat} {z z':List Value} {td':TD} {rows rows2:List (List AV)}
  (hs':a6 Z s=some (.os i n)) (hi:O.e.get i=some (.row e kk rows)) (hn:n=rows.length) (hx:a6 Z p=some (.os j m)) (hj:O.e.get j=some (.row e' kk rows2)) (hm:m=rows2.length) (ht:a7 E.T t=some ⟨.slice e kk,sz,by',z⟩) (hte:a7 E.T e=some ⟨td',sz',by'',z'⟩) (h1:gy rows2=true)
  (hk:Nat.ble 1 kk=true) (hby:Nat.ble 1 by''=true) (hd:Nat.blt d N=true) (hb:(rows++rows2).length*by''<=140737488355328)
  (k1:ak E N K (.ops all rest::k) Q (bW Z (some d) (.os i (rows++rows2).length)) (O.set i (.row e kk (rows++rows2)))):
  ak E N K (.ops all (⟨some d,.call {callee:= .builtin .append,args:= #[s,p],argTypes:= #[t,t]},ty,pos,after,none⟩::rest)::k) Q Z O:=
 DO.append hb hs' hi hn (.row hx hj hm) ht hte h1 hk hby hd k1
theorem ak.q8 {R:DR->Hp->Prop} {σ1:TS} {η1:Hp} (hp:aG E N all pend Z O) (hnd:e9 ((dB (cd all.toArray i A)).map (·.1))=true) (hd:ck N o.dst=true) (cz:eJ (dB (cd all.toArray i A)) Z O=(σ1,η1)) (hw:cC all o σ1=some true) (h:bM E N o σ1 η1 R)
  (k1:∀x O',R (.ret x) O'->ak E N K (.tl all l (cv all.toArray i A) (cG all i pend) fs::k) Q (bW σ1 o.dst x) O') (k2:∀x O',R (.aO x) O'->False):ak E N K (.tl all ((i,o,.one)::l) A pend fs::k) Q Z O:=
 λhf=>cy.oG hp hnd hd cz hw h (λx O' hR=>k1 x O' hR hf) (λx O' hR=>(k2 x O' hR).elim)
variable {N' K':Nat} {todo':List It} {σ':TS} {O':Hp}
theorem Nx.ZZ (hn:eqs ns) (h:ak E N' K' todo' Q σ' O'):Nx.ok E Q (.go N' K' todo' σ' O' ns):=⟨hn,h⟩
end
section
variable {E:Env} {Q:DQ} {N K:Nat} {Z:TS} {O:Hp} {o:Oper} {all:List Oper} {k:List It} {x:CV}
theorem aQ.toP (h:aQ E N o Z x):bg E N o Z O x:=λL s OB hs _=>h L s OB hs
theorem aQ.ed {y:AV} (h:ed E.P E.T (ee Z) o.op=some y):aQ E N o Z (.d y):=λL s OB hs=>⟨y,rfl,(bV.ed h).mono λ_ _ _ hy=>kt hs hy⟩
def mf (Z:TS) (dflt:Nat):Option Operand->Option Nat
 |none=>some dflt
 |some p=>match a6 Z p with
  |some (.d y)=>nz (some y)
  |_=>none
theorem Ak {d n:Nat} {p:Option Operand} (h:mf Z d p=some n):iI (ee Z) d p=some n:=by
 cases p with
 |none=>exact h
 |some p=>
  simp only[mf]at h;split at h
  ·rename_i y hy;show nz (ev (ee Z) p)=some n;rw[lV hy];exact h
  ·cases h
theorem aQ.part {t:TypeId} {p:Operand} {lo hi:Option Operand} {e kk sz by':Nat} {z:List Value} {rows:List (List AV)} (l h:Nat) (ho:o.op= .slice t p lo hi none) (hp:a6 Z p=some (.d (.sl kk rows))) (ht:a7 E.T t=some ⟨.slice e kk,sz,by',z⟩)
  (hl:mf Z 0 lo=some l) (hh:mf Z rows.length hi=some h) (h1:l<=h) (h2:h<=rows.length):aQ E N o Z (.d (.sl kk ((rows.take h).drop l))):=
 aQ.ed (by
  rw[ho];simp only[Bw.ed,lV hp,ht,Ak hl,Ak hh];have:(Nat.beq kk kk&&Nat.ble l h&&Nat.ble h rows.length)=true:=by simp[h1,h2]
  rw[this])
theorem aQ.dI {t:TypeId} {p ix:Operand} {b:ByteArray} {c:UInt8} {sz by':Nat} {z:List Value} {kd:IntKind} {m:Int} (j:Nat) (ho:o.op= .index t p ix) (hp:a6 Z p=some (.d (.v (.string b))))
  (ht:a7 E.T t=some ⟨.str,sz,by',z⟩) (hix:a6 Z ix=some (.d (.v (.int kd m)))) (hm:m=(j:Int)) (hr:b.data.toList[j]? =some c):aQ E N o Z (.d (.v (.int .u8 c.toNat))):=
 aQ.ed (by
  subst hm;rw[ho];simp only[Bw.ed,lV hp,lV hix,ht];have:nz (some (.v (.int kd (j:Int))))=some j:=rfl;rw[this];have h2:nth b.data.toList j=some c:=by rw[cq];exact hr
  show(match nth b.data.toList j with|some c=>some (AV.v (.int .u8 (c.toNat:Int)))|none=>none)=_;rw[h2])
theorem aQ.eqS {t:TypeId} {p q:Operand} {yt:TypeId} {xs ys:List AV} {fs:Array Field} {c:Bool} (ho:o.op= .binOp .eql t p q yt) (hp:a6 Z p=some (.d (.agg xs))) (hq:a6 Z q=some (.d (.agg ys))) (ht:Bk E.P t xs.length=true) (hu:E.P.underlying t=some (.struct fs)) (hc:rL E.P fs.toList xs ys=some c):aQ E N o Z (.d (.v (.bool c))):=
 aQ.ed (by rw[ho];simp only[Bw.ed,lV hp,lV hq,ht,hu,hc])
theorem aQ.OT {t:TypeId} {p q:Operand} {yt:TypeId} {a b:Bool} (ho:o.op= .binOp .neq t p q yt) (hu:E.P.underlying t=some .bool) (hp:a6 Z p=some (.d (.v (.bool a)))) (hq:a6 Z q=some (.d (.v (.bool b)))):aQ E N o Z (.d (.v (.bool (!(a==b))))):=
 aQ.eS (by rw[ho];simp only[Bw.eS,hu,lV hp,lV hq,qX,nX])
