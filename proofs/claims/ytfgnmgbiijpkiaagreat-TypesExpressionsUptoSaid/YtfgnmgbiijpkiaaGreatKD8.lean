/- The abstract machine, eighth part: the driver's lemmas for walks with open values. -/
import Derived.Test.YtfgnmgbiijpkiaaGreatKD7
set_option linter.all false
noncomputable section
namespace Go.Bw
open Go
def lJ:eJ:=⟨false,λ_=>false,λ_=>false,λ_=>false,λ_=>none,λ_=>none,[]⟩
section
variable {E:Env} {Q:DQ} {N K N' K':Nat} {todo todo' t1 t2:List It} {Z Z' s1 s2:TS} {O η':Hp} {ns:List (Nat×Nat)}
def Kv:eJ:=⟨true,λ_=>false,λ_=>false,λ_=>false,λ_=>none,λ_=>none,[]⟩
theorem Pa (hm:E.P.follows .mixedOrders=true) (f:Nat) {e:DE} (h:dx E.P E.G E.T Kv f N K todo Z O []= .fin e Z' η' []) (k:Q e Z' η'):af E N K todo Q Z O:=
 (A3 hm Kv (λf hf=>by cases hf) (λf ty z h=>by cases h) (λg x h=>by cases h) f Q N K todo Z O [] (by rw[h];exact⟨trivial,k⟩)).2
theorem Pure.walk {g:FuncId} {fn:Func} {c:Code} {xs:List AV} {rs:List ResultVar} {nt:Nat} {res:AR} (hf:E.P.funcs[g]? =some fn) (hb:fn.body=some c) (hname:(fn.name== "runtime.NumGoroutine")=false) (hrs:fn.results=rs.toArray) (hnt:fn.ntmps=nt) (hn:Nat.ble xs.length nt=true)
  (h:af E nt 0 [.code c] (RD E.T rs (Ends 60 res)) (fN 0 (xs.map .d)) Hp.nil):Pure E.toCx g xs res:=Pure.L4 60 (dR.enter hf hb hname rs hrs nt hnt (by simpa using hn) h)
end
section
variable {E:Env} {Q:DQ} {N K:Nat} {Z:TS} {O:Hp} {o:Oper} {all rest:List Oper} {k:List It} {x:CV}
theorem af.val (hg:o.guard=none) (hd:cj N o.dst=true) (h:a8 E N o Z O x) (hk:af E N K (.ops all rest::k) Q (bN Z o.dst x) O):af E N K (.ops all (o::rest)::k) Q Z O:=DO.lQ hg hd h hk
theorem af.pure {dst:Option Nat} {f:Operand} {args:List Operand} {g:FuncId} {cs:List CV} {xs:List AV} {res:AV} {tys:Array TypeId} {ty:TypeId} {pos:String} {after:Array Edge} (h:Pure E.toCx g xs (.ret res)) (hc:cT Z f args=some (g,cs)) (hx:eF cs=some xs) (hd:cj N dst=true)
  (hk:af E N K (.ops all rest::k) Q (bN Z dst (.d res)) O):af E N K (.ops all (⟨dst,.call {callee:= .value f,args:=args.toArray,argTypes:=tys},ty,pos,after,none⟩::rest)::k) Q Z O:=
 af.val (o:=⟨dst,.call {callee:= .value f,args:=args.toArray,argTypes:=tys},ty,pos,after,none⟩) rfl hd (λL s ηB hs _=>by
  obtain⟨ys,h1,h2⟩:=lz hs hc;have:=kD hx h2;subst this;exact⟨res,rfl,bM.pure rfl h h1⟩) hk
theorem af.skip (h:af E N K k Q Z O):af E N K (.code .skip::k) Q Z O:=DC.skip h
theorem af.seq {x y:Code} (h:af E N K (.code x:: .code y::k) Q Z O):af E N K (.code (.seq x y)::k) Q Z O:=DC.seq (by rw[G4];exact h)
theorem af.Q5 {id:Nat} {l:List Oper} (pre:List Nat) (tl:List (Nat×TK)) (al:List Nat) (A:bJ) (hm:E.P.follows .mixedOrders=true) (hA:k4 E.T l.toArray N al=some A) (hB:mr l.toArray pre tl al=true) (hl:Nat.beq (ff l.toArray pre).length pre.length=true)
  (h:af E N K (.lex l (ic l.toArray tl) A (ff l.toArray pre) []::k) Q Z O):af E N K (.code (.region id l.toArray true)::k) Q Z O:=DC.open pre tl al A hm hA hB hl h
theorem af.vy {A:bJ} {tl:List (Nat×Oper×TK)} {pre:List Oper} {W:List (Nat×List CV)} (hd:cj N o.dst=true) (hw:cA all o Z=some true) (hf:kf o W=true) (h:a8 E N o Z O x) (hk:af E N K (.lex all tl A pre W::k) Q (bN Z o.dst x) O):af E N K (.lex all tl A (o::pre) W::k) Q Z O:=dM.val hd hw hf h hk
theorem a8.call {dst:Option Nat} {f:Operand} {args:List Operand} {g:FuncId} {cs:List CV} {xs:List AV} {res:AV} {tys:Array TypeId} {ty:TypeId} {pos:String} {after:Array Edge} {gd:Option (Nat×Bool)} (h:Pure E.toCx g xs (.ret res)) (hc:cT Z f args=some (g,cs)) (hx:eF cs=some xs):a8 E N ⟨dst,.call {callee:= .value f,args:=args.toArray,argTypes:=tys},ty,pos,after,gd⟩ Z O (.d res):=λL s ηB hs _=>by
 obtain⟨ys,h1,h2⟩:=lz hs hc;have:=kD hx h2;subst this;exact⟨res,rfl,bM.pure rfl h h1⟩
theorem lB {p:Operand} {y:AV} (h:aW Z p=some (.d y)):ev (dN Z) p=some y:=by
 cases p with
 |tmp t=>
  have h:Z.get t=some (.d y):=h;show dN Z t=some y;unfold dN;rw[h]
 |const v=>cases h;rfl
 |global g=>cases h;rfl
 |func f=>cases h;rfl
end
section
variable {E:Env} {Q:DQ} {N K:Nat} {Z:TS} {O:Hp} {o:Oper} {all rest:List Oper} {k:List It}
end
theorem get_map {D β:Type} {f:D->β} {xs:List D} {i:Nat} {x:D} (h:xs[i]? =some x):(xs.map f)[i]? =some (f x):=by rw[D2,h];rfl
section
variable {E:Env} {Q:DQ} {N K:Nat} {Z:TS} {O:Hp} {k:List It} {S:Type}
def Q6 (m:Nat) (ts:List Nat) (n:Nat) (L:Int->S->List (Nat×CV)) (H:Nat->S->List bg) (J:Nat->S->Prop) (i:Nat) (Z1:TS) (O1:Hp):Prop:=
 ∃n',n'<n-i/\∃l' es',m<=O1.n/\eg m ts Z1=some l'/\iU m O1=some es'/\∃(j:Nat) (s:S),j<=n/\n'=n-j/\l'=L (j:Int) s/\es'=H j s/\J j s
theorem af.next {m:Nat} {ts:List Nat} {n:Nat} {L:Int->S->List (Nat×CV)} {H:Nat->S->List bg} {J:Nat->S->Prop} {i:Nat} (s':S) (hi:i<n) (hn:n<4611686018427387904) (hm:Nat.ble m O.n=true) (hp:eg m ts Z=some (L (IntKind.i64.wrap ((i:Int)+1)) s')) (he:iU m O=some (H (i+1) s')) (hj:J (i+1) s'):
  af E N K (.lp (Q6 m ts n L H J i)::k) Q Z O:=
 af.lp ⟨n-(i+1),by omega,_,_,dw hm,hp,he,i+1,s',by omega,rfl,by
  have:IntKind.i64.wrap ((i:Int)+1)=((i+1:Nat):Int):=by rw[IntKind.wrap_i64];omega
  rw[this],rfl,hj⟩
end
theorem bQ.of {x y:AV} (h:x=y):bQ x y:=h▸bQ.refl x
theorem bP.of {x y:List AV} (h:x=y):bP x y:=h▸bP.refl x
theorem de.of {x y:List (List AV)} (h:x=y):de x y:=h▸de.refl x
theorem bP.append:∀{xs ys xs' ys':List AV},bP xs ys->bP xs' ys'->bP (xs++xs') (ys++ys')
 |_,_,_,_,.nil,h=>h
 |_,_,_,_,.cons h t,g=> .cons h (bP.append t g)
theorem Pure.args {C:Cx} {g:FuncId} {xs ys:List AV} {res:AR} (hi:bP xs ys) (h:Pure C g ys res):Pure C g xs res:=
 ⟨h.1,λF w vs h1 h2=>h.2 F w vs h1 (hi.rel h2)⟩
section
variable {E:Env} {Q:DQ} {N K:Nat} {Z:TS} {O:Hp} {o:Oper} {all rest:List Oper} {k:List It} {x:CV} {c:Code}
theorem RD.SZ {rs:List ResultVar} {xs:List CV} {z y:AV} {ns:List (Nat×Nat)} {ms:List (Nat×bg)} (h:dH E.T Z O rs=some xs) (hf:bY O.e 60 [ed xs]=some ([z],ns,ms)) (hn:eqs ns) (e:bQ z y):RD E.T rs (Ends 60 (.ret y)) .ret Z O:=⟨xs,h,z,ns,ms,hf,hn,y,rfl,e⟩
theorem RD.Q4 {rs:List ResultVar} {xs:List CV} {z y:AV} {ns:List (Nat×Nat)} {ms:List (Nat×bg)} (h:dH E.T Z O rs=some xs) (hf:bY O.e 60 [ed xs]=some ([z],ns,ms)) (hn:eqs ns) (e:bQ z y):RD E.T rs (Ends 60 (.ret y)) .norm Z O:=⟨xs,h,z,ns,ms,hf,hn,y,rfl,e⟩
theorem RD.S0 {rs:List ResultVar} {x:CV} {z y:AV} {ns:List (Nat×Nat)} {ms:List (Nat×bg)} (hf:bY O.e 60 [x]=some ([z],ns,ms)) (hn:eqs ns) (e:bQ z y):RD E.T rs (Ends 60 (.aO y)) (.aO x) Z O:=⟨z,ns,ms,hf,hn,y,rfl,e⟩
theorem dV.L3 {G:Gl} {Z:Sg} {O:List ah} {N:Nat} (i:Nat) {x y:ah} (hi:nth O i=some x) (hids:y.ids=x.ids) (hok:∀w A,x.ok w A->y.ok w A):dV G N Z O Z (O.set i y):=λF w a hs=>by
 have hsplit:O=O.take i++x::O.drop (i+1):=by
  rw[ck]at hi;obtain⟨hlt,hx⟩:=c8.1 hi;rw[<-hx,List.getElem_cons_drop hlt,D1]
 have hset:O.set i y=O.take i++y::O.drop (i+1):=by
  rw[ck]at hi;obtain⟨hlt,hx⟩:=c8.1 hi;rw[List.set_eq_take_append_cons_drop,cZ hlt]
 have hI:ids (O.set i y)=ids O:=by
  rw[hset]
  conv=>rhs;rw[hsplit]
  simp only[cg,cE,hids]
 have hA:Al F (O.set i y)=Al F O:=by funext b;simp only[Al,hI]
 refine⟨⟨by rw[hA];exact hs.sg,⟨λz hz=>?_,by rw[hI];exact hs.hp.nodup,by rw[hI];exact hs.hp.free,hs.hp.bound,by rw[hA];exact hs.hp.dS⟩,hs.df⟩,by rw[hI];exactλ_ h=>h⟩;rw[hA];rw[hset]at hz;have hmem:∀z,z∈O↔z∈O.take i++x::O.drop (i+1):=λz=>by rw[<-hsplit]
 simp only[cN,dc]at hz hmem;rcases hz with hz|rfl|hz
 ·exact hs.hp.ea z ((hmem z).2 (.inl hz))
 ·exact hok _ _ (hs.hp.ea x ((hmem x).2 (.inr (.inl rfl))))
 ·exact hs.hp.ea z ((hmem z).2 (.inr (.inr hz)))
theorem DC.gA (t e kk:Nat) (ht:Z.get t=some (.d (.v (.slice none 0 0)))) (h:DC E N K c Q (Tr.put 24 Z t (some (.os O.n 0))) (O.push (.row e kk []))):DC E N K c Q Z O:=λL ZB ηB hs hh=>by
 obtain⟨y,h1,h2⟩:=hs t _ ht;simp only[aE]at h2;subst h2;refine bD.gA t e kk h1 ?_;have hdom:=hh.eY O.n (bA _);have hl:L.le (L.aY O.n 0 (none,0)):=aC.iQ λy hy=>by rw[hdom.2]at hy;cases hy
 have hbn:(L.aY O.n 0 (none,0)).s O.n 0=some (none,0):=by simp[aC.aY]
 refine bD.mono (h _ _ _ ((hs.mono hl).put (some t) (by simp only[aE];exact⟨_,_,ηB.length,hbn,rfl⟩)) ?_) λ_ _ _ hq=>mZ (hl.toK K) (λ_ _ _ h=>h) hq;refine hh.push hl (λi hi=>by funext m;simp[aC.aY,hi]) (λ_ _=>rfl) ⟨⟨none,0,by simpa using hbn,by simp⟩,λm hm=>?_⟩;have:m≠0:=by simp at hm;omega
 simp only[aC.aY,this,and_false,if_false];exact hdom.2 m
theorem af.gA (t e kk:Nat) (ht:Z.get t=some (.d (.v (.slice none 0 0)))) (h:af E N K (.code c::k) Q (Tr.put 24 Z t (some (.os O.n 0))) (O.push (.row e kk []))):af E N K (.code c::k) Q Z O:=by
 unfold af at h⊢;simp only[dq]at h⊢;exact DC.gA t e kk ht h
theorem bD.bound {C:Cx} {c:Code} {Q:AQ} {Z:Sg} {O:List ah} {N:Nat} (t:Nat) {k:Nat} {rows:List (List AV)} (ht:look Z t=some (.sl k rows)) (h:rows.length<=9223372036854775807->bD C N c Q Z O):bD C N c Q Z O:=λF w0 O0 a w hs hx=>by
 obtain⟨_,hv⟩:=hs.sg.2 t _ ht;refine h ?_ F w0 O0 a w hs hx;simp only[Rel]at hv;rcases hv with⟨rfl,_⟩|⟨b,o,cap,vs,e,h1,h2,h3,_⟩
 ·simp
 ·unfold maxLen at h3;omega
theorem DC.bound (t:Nat) {kk:Nat} {rows:List (List AV)} (ht:Z.get t=some (.d (.sl kk rows))) (h:rows.length<=9223372036854775807->DC E N K c Q Z O):DC E N K c Q Z O:=λL ZB ηB hs hh=>by
 obtain⟨z,h1,h2⟩:=hs t _ ht;simp only[aE]at h2;subst h2;exact bD.bound t h1 λhl=>h hl L ZB ηB hs hh
theorem af.bound (t:Nat) {kk:Nat} {rows:List (List AV)} (ht:Z.get t=some (.d (.sl kk rows))) (h:rows.length<=9223372036854775807->af E N K (.code c::k) Q Z O):af E N K (.code c::k) Q Z O:=by
 unfold af at h⊢;simp only[dq]at h⊢;exact DC.bound t ht h
def iw:List bg->List (Nat×bg)->List bg
 |es,[]=>es
 |es,(i,x)::r=>iw (wc es i x) r
where wc:List bg->Nat->bg->List bg
 |[],_,_=>[]
 |_::l,0,x=>x::l
 |y::l,i+1,x=>y::wc l i x
theorem xD {m:Nat} {Z:TS}:∀{ts us:List Nat} {l r:List (Nat×CV)},eg m ts Z=some l->eg m us Z=some r->eg m (ts++us) Z=some (l++r)
 |[],_,_,_,h,g=>by simp only[eg,aA]at h;subst h;exact g
 |t::ts,us,l,r,h,g=>by
  simp only[eg]at h;split at h
  ·rename_i x l' h1 h2;split at h
   ·rename_i h0;simp only[aA]at h;subst h;simp only[ky,eg,h1,xD h2 g,h0]
   ·cases h
  ·cases h
def vI {S:Type} (m:Nat) (ts ks:List Nat) (l0:List (Nat×CV)) (es0:List bg) (vs:S->List (Nat×CV)) (hs:S->List (Nat×bg)) (J:Nat->S->Prop) (n:Nat) (Z1:TS) (O1:Hp):Prop:=
 ∃n',n'<n/\∃l' es',m<=O1.n/\eg m (ts++ks) Z1=some l'/\iU m O1=some es'/\∃s:S,l'=l0++vs s/\es'=iw es0 (hs s)/\J n' s
theorem NS {m:Nat} {l:List bg} (h:iU m O=some l):l.length=m:=(uM h).1
theorem FN:∀(l:List bg) (i:Nat) (x:bg),(iw.wc l i x).length=l.length
 |[],_,_=>rfl
 |_::l,0,_=>rfl
 |y::l,i+1,x=>by simp[iw.wc,FN l i x]
theorem FO:∀(r:List (Nat×bg)) (l:List bg),(iw l r).length=l.length
 |[],_=>rfl
 |(i,x)::r,l=>by rw[iw,FO r,FN]
theorem af.Q2 {S:Type} (m:Nat) (ts ks:List Nat) (vs:S->List (Nat×CV)) (hs:S->List (Nat×bg)) (J:Nat->S->Prop) (n:Nat) (s0:S) {l0:List (Nat×CV)} {es:List bg} (hm:O.n=m) (hK:Nat.ble K m=true) (hp0:eg m ts Z=some l0) (hp:eg m ks Z=some (vs s0)) (he:iU m O=some es) (hes:es=iw es (hs s0)) (h0:J n s0)
  (round:∀n s,J n s->af E N K (.code c:: .lp (vI m ts ks l0 es vs hs J n)::k) Q (mM (l0++vs s)) ⟨lh 0 (iw es (hs s)),m⟩):af E N K (.code (.loop c)::k) Q Z O:=by
 subst hm;exact af.loop (ts++ks) O.n (λq l' es'=>∃s:S,l'=l0++vs s/\es'=iw es (hs s)/\J q s) n (dw hK) (bA _) (xD hp0 hp) he ⟨s0,rfl,hes,h0⟩ (by
  rintro q l' es' ⟨s,rfl,rfl,hj⟩;have:=round q s hj;have hl:(iw es (hs s)).length=O.n:=by rw[FO,NS he]
  unfold fL;rw[hl];exact this)
theorem af.Q1 {S:Type} {m:Nat} {ts ks:List Nat} {l0:List (Nat×CV)} {es0:List bg} {vs:S->List (Nat×CV)} {hs:S->List (Nat×bg)} {J:Nat->S->Prop} {n:Nat} (s':S) (n':Nat) (hm:Nat.ble m O.n=true) (hp0:eg m ts Z=some l0) (hp:eg m ks Z=some (vs s')) (he:iU m O=some (iw es0 (hs s'))) (hn:n'<n) (hj:J n' s'):
  af E N K (.lp (vI m ts ks l0 es0 vs hs J n)::k) Q Z O:=
 af.lp ⟨n',hn,_,_,dw hm,xD hp0 hp,he,s',rfl,rfl,hj⟩
end
theorem aT:eqs []:=trivial
theorem dX {a b:Nat} {r:List (Nat×Nat)} (h:a=b) (k:eqs r):eqs ((a,b)::r):=⟨h,k⟩
def Kt (Z:TS):Op->Bool
 | .call {callee:= .builtin .append,args:=as,argTypes:=_}=>match as.toList with
  | .tmp t::_=>match Z.get t with
   |some (.os _ _)=>true
   |_=>false
  |_=>false
 |_=>false
def oI (Z:TS):List It->Bool
 | .code (.region _ _ true)::_=>true
 | .ops _ (o::_)::_=>Kt Z o.op
 | .tl _ ((_,o,.one)::_) _ _ _::_=>Kt Z o.op
 |_=>false
def ds (P:Program) (G:Gl) (T:bO):Nat->Nat->Nat->List It->TS->Hp->List (Nat×Nat)->Out
 |0,N,K,todo,Z,O,ns=> .stuck N K todo Z O ns
 |f+1,N,K,todo,Z,O,ns=>match oI Z todo with
  |true=> .stuck N K todo Z O ns
  |false=>match step P G T lJ (λ_ _=>none) f N K todo Z O ns with
   | .go N' K' todo' Z' η' ns'=>ds P G T f N' K' todo' Z' η' ns'
   | .out o=>o
section
variable {E:Env}
variable {Q:DQ} {N K N' K':Nat} {todo todo' t1 t2:List It} {Z Z' s1 s2:TS} {O η':Hp} {ns:List (Nat×Nat)}
theorem Ok.stuck (hn:eqs ns) (k:af E N' K' todo' Q Z' η'):Out.ok E Q (.stuck N' K' todo' Z' η' ns):=⟨hn,k⟩
theorem Ok.cond {b:Bool} (hn:eqs ns) (k1:b=true->af E N' K' t1 Q s1 η') (k2:b=false->af E N' K' t2 Q s2 η'):Out.ok E Q (.cond b N' K' t1 s1 t2 s2 η' ns):=⟨hn,k1,k2⟩
theorem Ok.fin {e:DE} (hn:eqs ns) (k:Q e Z' η'):Out.ok E Q (.fin e Z' η' ns):=⟨hn,k⟩
theorem Ok.val {o:Oper} {all rest:List Oper} {k:List It} {x:CV} (hn:eqs ns) (hg:o.guard=none) (hd:cj N' o.dst=true) (h:a8 E N' o Z' η' x) (hk:af E N' K' (.ops all rest::k) Q (bN Z' o.dst x) η'):Out.ok E Q (.stuck N' K' (.ops all (o::rest)::k) Z' η' ns):=
 ⟨hn,af.val hg hd h hk⟩
theorem Ok.vy {o:Oper} {all pre:List Oper} {tl:List (Nat×Oper×TK)} {A:bJ} {W:List (Nat×List CV)} {k:List It} {x:CV} (hn:eqs ns) (hd:cj N' o.dst=true) (hw:cA all o Z'=some true) (hf:kf o W=true) (h:a8 E N' o Z' η' x) (hk:af E N' K' (.lex all tl A pre W::k) Q (bN Z' o.dst x) η'):
  Out.ok E Q (.stuck N' K' (.lex all tl A (o::pre) W::k) Z' η' ns):=⟨hn,af.vy hd hw hf h hk⟩
theorem Ok.open {id:Nat} {l:List Oper} {k:List It} (pre:List Nat) (tl:List (Nat×TK)) (al:List Nat) {A:bJ} (hn:eqs ns) (hm:E.P.follows .mixedOrders=true) (hA:k4 E.T l.toArray N' al=some A) (hB:mr l.toArray pre tl al=true) (hl:Nat.beq (ff l.toArray pre).length pre.length=true)
  (h:af E N' K' (.lex l (ic l.toArray tl) A (ff l.toArray pre) []::k) Q Z' η'):Out.ok E Q (.stuck N' K' (.code (.region id l.toArray true)::k) Z' η' ns):=⟨hn,af.Q5 pre tl al A hm hA hB hl h⟩
end
section
variable {E:Env} {Q:DQ} {N K:Nat} {Z:TS} {O:Hp} {o:Oper} {all:List Oper} {k:List It} {x:CV} {l:List (Nat×Oper×TK)} {A:bJ} {pend:List (Nat×Oper×CV)} {fs:List (Nat×List AV×AV)} {i:Nat} {ns:List (Nat×Nat)}
theorem aR.call {dst:Option Nat} {f:Operand} {args:List Operand} {g:FuncId} {cs:List CV} {xs:List AV} {res:AV} {tys:Array TypeId} {ty:TypeId} {pos:String} {after:Array Edge} {gd:Option (Nat×Bool)} (h:Pure E.toCx g xs (.ret res)) (hc:cT Z f args=some (g,cs)) (hx:eF cs=some xs):
  aR E N ⟨dst,.call {callee:= .value f,args:=args.toArray,argTypes:=tys},ty,pos,after,gd⟩ Z (.d res):=λL s ηB hs=>by
 obtain⟨ys,h1,h2⟩:=lz hs hc;have:=kD hx h2;subst this;exact⟨res,rfl,bM.pure rfl h h1⟩
theorem aR.idx {t:TypeId} {p ix:Operand} {e kk sz by':Nat} {z:List Value} {rows:List (List AV)} {r:List AV} {kd:IntKind} {m:Int} (j:Nat) (ho:o.op= .indexAddr t p ix) (hp:aW Z p=some (.d (.sl kk rows)))
  (ht:aX E.T t=some ⟨.slice e kk,sz,by',z⟩) (hix:aW Z ix=some (.d (.v (.int kd m)))) (hm:m=(j:Int)) (hr:rows[j]? =some r):aR E N o Z (.d (.ip r)):=λL s ηB hs=>by
 obtain⟨y,h1,h2⟩:=cf hs hp;simp only[aE]at h2;subst h2;obtain⟨y',h4,h5⟩:=cf hs hix;simp only[aE]at h5;subst h5;subst hm;refine⟨.ip r,rfl,bM.dG (E:=E) ?_⟩;have hnat:k8 (some (.v (.int kd (j:Int))))=some j:=rfl;rw[ho];simp only[Bw.dG,h1,h4,hnat,ht,rl,ck,hr]
theorem aR.eZ {y:AV} (h:eZ E.P (dN Z) o.op=some y):aR E N o Z (.d y):=λL s ηB hs=>⟨y,rfl,(bM.eZ h).mono λ_ _ _ hy=>iS hs hy⟩
theorem aD.nil:aD E N all [] Z O:=λp hp=>by cases hp
theorem aD.cons {r:List (Nat×Oper×CV)} (hw:cA all o Z=some true) (h:a8 E N o Z O x) (hr:aD E N all r Z O):aD E N all ((i,o,x)::r) Z O:=λp hp=>by
 rcases dc.1 hp with rfl|hp
 ·exact .inl ⟨hw,h⟩
 ·exact hr p hp
theorem aD.skip {r:List (Nat×Oper×CV)} (hw:cA all o Z=some false) (hr:aD E N all r Z O):aD E N all ((i,o,.d (.v undef))::r) Z O:=λp hp=>by
 rcases dc.1 hp with rfl|hp
 ·exact .inr ⟨hw,rfl⟩
 ·exact hr p hp
theorem a8.dk {cl:Bool} (h:dk E.P E.G E.T cl Z O o.op=some (x,ns)) (hn:eqs ns):a8 E N o Z O x:=sm h hn
theorem af.SX (hp:aD E N all pend Z O) (hd:cj N o.dst=true) (hw:cA all o Z=some true) (hv:aR E N o Z x) (h:af E N K (.tl all l A pend fs::k) Q (bN Z o.dst x) O):af E N K (.tl all ((i,o,.fl)::l) A pend fs::k) Q Z O:=
 λhf=>cq.st hp hd (.inl ⟨hw,hv⟩) (h hf)
theorem af.SY (hp:aD E N all pend Z O) (hd:cj N o.dst=true) (hw:cA all o Z=some true) (hv:a8 E N o Z O x) (h:af E N K (.tl all l A ((i,o,x)::pend) fs::k) Q (bN Z o.dst x) O):af E N K (.tl all ((i,o,.fl)::l) A pend fs::k) Q Z O:=
 λhf=>cq.fl hp hd (.inl ⟨hw,hv⟩) (h hf)
theorem af.PX (hm:E.P.follows .mixedOrders=true) (hp:aD E N all pend Z O) (h:Nx.ok E Q (sj E.P E.G E.T lJ (λ_ _=>none) N K all l A pend fs k Z O [] (.out (.stuck N K (.tl all l A pend fs::k) Z O [])))):af E N K (.tl all l A pend fs::k) Q Z O:=
 (E8 (c:=lJ) (nest:=λ_ _=>none) (λg xs z hz=>by cases hz) (λg x h=>by cases h) (λ_=>hp) h (λh=>h)).2
theorem Em {D:Type} {f:D->List AV}:∀{l:List D},(∀x∈l,fF [f x]=true)->fF (l.map f)=true
 |[],_=>rfl
 |x::l,h=>by
  have h1:=h x (by simp);have h2:=Em (l:=l) λy hy=>h y (by simp[hy]);simp only[fF,jg,List.all_nil,uv,dW]at h1 h2⊢;rw[h1,h2];rfl
theorem DO.dL {rest:List Oper} {i d n j m:Nat} {s p:Operand} {t:TypeId} {ty:TypeId} {pos:String} {after:Array Edge} {e e' kk sz by' sz' by'':Nat} {z z':List Value} {td':TD} {rows rows2:List (List AV)}
  (hs':aW Z s=some (.os i n)) (hi:O.e.get i=some (.row e kk rows)) (hn:n=rows.length) (hx:aW Z p=some (.os j m)) (hj:O.e.get j=some (.row e' kk rows2)) (hm:m=rows2.length) (ht:aX E.T t=some ⟨.slice e kk,sz,by',z⟩) (hte:aX E.T e=some ⟨td',sz',by'',z'⟩) (h1:fF rows2=true)
  (hk:Nat.ble 1 kk=true) (hby:Nat.ble 1 by''=true) (hd:Nat.blt d N=true) (hb:(rows++rows2).length*by''<=140737488355328)
  (k1:af E N K (.ops all rest::k) Q (bN Z (some d) (.os i (rows++rows2).length)) (O.set i (.row e kk (rows++rows2)))):
  af E N K (.ops all (⟨some d,.call {callee:= .builtin .append,args:= #[s,p],argTypes:= #[t,t]},ty,pos,after,none⟩::rest)::k) Q Z O:=
 DO.append hb hs' hi hn (.row hx hj hm) ht hte h1 hk hby hd k1
theorem af.nQ {R:DR->Hp->Prop} {Z1:TS} {O1:Hp} (hp:aD E N all pend Z O) (hnd:ez ((dp (b8 all.toArray i A)).map (·.1))=true) (hd:cj N o.dst=true) (cu:ee (dp (b8 all.toArray i A)) Z O=(Z1,O1)) (hw:cA all o Z1=some true) (h:bH E N o Z1 O1 R)
  (k1:∀x η',R (.ret x) η'->af E N K (.tl all l (cm all.toArray i A) (cF all i pend) fs::k) Q (bN Z1 o.dst x) η') (k2:∀x η',R (.aO x) η'->False):af E N K (.tl all ((i,o,.one)::l) A pend fs::k) Q Z O:=
 λhf=>cq.lP hp hnd hd cu hw h (λx η' hR=>k1 x η' hR hf) (λx η' hR=>(k2 x η' hR).elim)
variable {N' K':Nat} {todo':List It} {Z':TS} {η':Hp}
theorem Nx.QZ (hn:eqs ns) (h:af E N' K' todo' Q Z' η'):Nx.ok E Q (.go N' K' todo' Z' η' ns):=⟨hn,h⟩
end
section
variable {E:Env} {Q:DQ} {N K:Nat} {Z:TS} {O:Hp} {o:Oper} {all:List Oper} {k:List It} {x:CV}
theorem aR.toP (h:aR E N o Z x):a8 E N o Z O x:=λL s ηB hs _=>h L s ηB hs
theorem aR.dG {y:AV} (h:dG E.P E.T (dN Z) o.op=some y):aR E N o Z (.d y):=λL s ηB hs=>⟨y,rfl,(bM.dG h).mono λ_ _ _ hy=>iS hs hy⟩
def ko (Z:TS) (dflt:Nat):Option Operand->Option Nat
 |none=>some dflt
 |some p=>match aW Z p with
  |some (.d y)=>k8 (some y)
  |_=>none
theorem vn {d n:Nat} {p:Option Operand} (h:ko Z d p=some n):gC (dN Z) d p=some n:=by
 cases p with
 |none=>exact h
 |some p=>
  simp only[ko]at h;split at h
  ·rename_i y hy;show k8 (ev (dN Z) p)=some n;rw[lB hy];exact h
  ·cases h
theorem aR.part {t:TypeId} {p:Operand} {lo hi:Option Operand} {e kk sz by':Nat} {z:List Value} {rows:List (List AV)} (l h:Nat) (ho:o.op= .slice t p lo hi none) (hp:aW Z p=some (.d (.sl kk rows))) (ht:aX E.T t=some ⟨.slice e kk,sz,by',z⟩)
  (hl:ko Z 0 lo=some l) (hh:ko Z rows.length hi=some h) (h1:l<=h) (h2:h<=rows.length):aR E N o Z (.d (.sl kk ((rows.take h).drop l))):=
 aR.dG (by
  rw[ho];simp only[Bw.dG,lB hp,ht,vn hl,vn hh];have:(Nat.beq kk kk&&Nat.ble l h&&Nat.ble h rows.length)=true:=by simp[h1,h2]
  rw[this])
theorem aR.dQ {t:TypeId} {p ix:Operand} {b:ByteArray} {c:UInt8} {sz by':Nat} {z:List Value} {kd:IntKind} {m:Int} (j:Nat) (ho:o.op= .index t p ix) (hp:aW Z p=some (.d (.v (.string b))))
  (ht:aX E.T t=some ⟨.str,sz,by',z⟩) (hix:aW Z ix=some (.d (.v (.int kd m)))) (hm:m=(j:Int)) (hr:b.data.toList[j]? =some c):aR E N o Z (.d (.v (.int .u8 c.toNat))):=
 aR.dG (by
  subst hm;rw[ho];simp only[Bw.dG,lB hp,lB hix,ht];have:k8 (some (.v (.int kd (j:Int))))=some j:=rfl;rw[this];have h2:nth b.data.toList j=some c:=by rw[ck];exact hr
  show(match nth b.data.toList j with|some c=>some (AV.v (.int .u8 (c.toNat:Int)))|none=>none)=_;rw[h2])
theorem aR.VG {t:TypeId} {p q:Operand} {yt:TypeId} {xs ys:List AV} {fs:Array Field} {c:Bool} (ho:o.op= .binOp .eql t p q yt) (hp:aW Z p=some (.d (.agg xs))) (hq:aW Z q=some (.d (.agg ys))) (ht:s7 E.P t xs.length=true) (hu:E.P.underlying t=some (.struct fs)) (hc:mG E.P fs.toList xs ys=some c):aR E N o Z (.d (.v (.bool c))):=
 aR.dG (by rw[ho];simp only[Bw.dG,lB hp,lB hq,ht,hu,hc])
