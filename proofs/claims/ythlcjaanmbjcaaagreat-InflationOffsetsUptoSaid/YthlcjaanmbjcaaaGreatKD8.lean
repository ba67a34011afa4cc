/- The abstract machine, eighth part: the driver's lemmas for walks with open values. -/
import Derived.Test.YthlcjaanmbjcaaaGreatKD7
set_option linter.all false
noncomputable section
namespace Go.Bw
open Go
def jZ:eT:=⟨false,λ_=>false,λ_=>false,λ_=>false,λ_=>none,λ_=>none,[]⟩
section
variable {E:Env} {Q:DQ} {N K N' K':Nat} {todo todo' t1 t2:List It} {Z Z' s1 s2:TS} {O O':Hp} {ns:List (Nat×Nat)}
def G7:eT:=⟨true,λ_=>false,λ_=>false,λ_=>false,λ_=>none,λ_=>none,[]⟩
theorem Mk (hm:E.P.follows .mixedOrders=true) (f:Nat) {e:DE} (h:dx E.P E.G E.T G7 f N K todo Z O []= .fin e Z' O' []) (k:Q e Z' O'):ai E N K todo Q Z O:=
 (GC hm G7 (λf hf=>by cases hf) (λf ty z h=>by cases h) (λg x h=>by cases h) f Q N K todo Z O [] (by rw[h];exact⟨trivial,k⟩)).2
theorem Pure.walk {g:FuncId} {fn:Func} {c:Code} {xs:List AV} {rs:List ResultVar} {nt:Nat} {res:AR} (hf:E.P.funcs[g]? =some fn) (hb:fn.body=some c) (hname:(fn.name== "runtime.NumGoroutine")=false) (hrs:fn.results=rs.toArray) (hnt:fn.ntmps=nt) (hn:Nat.ble xs.length nt=true)
  (h:ai E nt 0 [.code c] (RD E.T rs (Ends 60 res)) (fj 0 (xs.map .d)) Hp.nil):Pure E.toCx g xs res:=Pure.H8 60 (de.enter hf hb hname rs hrs nt hnt (by simpa using hn) h)
end
section
variable {E:Env} {Q:DQ} {N K:Nat} {Z:TS} {O:Hp} {o:Oper} {all rest:List Oper} {k:List It} {x:CV}
theorem ai.val (hg:o.guard=none) (hd:bE N o.dst=true) (h:aN E N o Z O x) (hk:ai E N K (.ops all rest::k) Q (br Z o.dst x) O):ai E N K (.ops all (o::rest)::k) Q Z O:=DO.ko hg hd h hk
theorem ai.pure {dst:Option Nat} {f:Operand} {args:List Operand} {g:FuncId} {cs:List CV} {xs:List AV} {res:AV} {tys:Array TypeId} {ty:TypeId} {pos:String} {after:Array Edge} (h:Pure E.toCx g xs (.ret res)) (hc:cu Z f args=some (g,cs)) (hx:eg cs=some xs) (hd:bE N dst=true)
  (hk:ai E N K (.ops all rest::k) Q (br Z dst (.d res)) O):ai E N K (.ops all (⟨dst,.call {callee:= .value f,args:=args.toArray,argTypes:=tys},ty,pos,after,none⟩::rest)::k) Q Z O:=
 ai.val (o:=⟨dst,.call {callee:= .value f,args:=args.toArray,argTypes:=tys},ty,pos,after,none⟩) rfl hd (λL s ηB hs _=>by
  obtain⟨ys,h1,h2⟩:=jM hs hc;have:=jk hx h2;subst this;exact⟨res,rfl,bp.pure rfl h h1⟩) hk
theorem ai.skip (h:ai E N K k Q Z O):ai E N K (.code .skip::k) Q Z O:=DC.skip h
theorem ai.seq {x y:Code} (h:ai E N K (.code x:: .code y::k) Q Z O):ai E N K (.code (.seq x y)::k) Q Z O:=DC.seq (by rw[Ew];exact h)
theorem ai.NZ {id:Nat} {l:List Oper} (pre:List Nat) (tl:List (Nat×TK)) (al:List Nat) (A:bo) (hm:E.P.follows .mixedOrders=true) (hA:jC E.T l.toArray N al=some A) (hB:kT l.toArray pre tl al=true) (hl:Nat.beq (ep l.toArray pre).length pre.length=true)
  (h:ai E N K (.lex l (gg l.toArray tl) A (ep l.toArray pre) []::k) Q Z O):ai E N K (.code (.region id l.toArray true)::k) Q Z O:=DC.open pre tl al A hm hA hB hl h
theorem ai.th {A:bo} {tl:List (Nat×Oper×TK)} {pre:List Oper} {W:List (Nat×List CV)} (hd:bE N o.dst=true) (hw:bX all o Z=some true) (hf:iJ o W=true) (h:aN E N o Z O x) (hk:ai E N K (.lex all tl A pre W::k) Q (br Z o.dst x) O):ai E N K (.lex all tl A (o::pre) W::k) Q Z O:=cY.val hd hw hf h hk
theorem aN.call {dst:Option Nat} {f:Operand} {args:List Operand} {g:FuncId} {cs:List CV} {xs:List AV} {res:AV} {tys:Array TypeId} {ty:TypeId} {pos:String} {after:Array Edge} {gd:Option (Nat×Bool)} (h:Pure E.toCx g xs (.ret res)) (hc:cu Z f args=some (g,cs)) (hx:eg cs=some xs):aN E N ⟨dst,.call {callee:= .value f,args:=args.toArray,argTypes:=tys},ty,pos,after,gd⟩ Z O (.d res):=λL s ηB hs _=>by
 obtain⟨ys,h1,h2⟩:=jM hs hc;have:=jk hx h2;subst this;exact⟨res,rfl,bp.pure rfl h h1⟩
theorem kM {p:Operand} {y:AV} (h:aL Z p=some (.d y)):ev (cZ Z) p=some y:=by
 cases p with
 |tmp t=>
  have h:Z.get t=some (.d y):=h;show cZ Z t=some y;unfold cZ;rw[h]
 |const v=>cases h;rfl
 |global g=>cases h;rfl
 |func f=>cases h;rfl
end
section
variable {E:Env} {Q:DQ} {N K:Nat} {Z:TS} {O:Hp} {o:Oper} {all rest:List Oper} {k:List It}
end
theorem get_map {D β:Type} {f:D->β} {xs:List D} {i:Nat} {x:D} (h:xs[i]? =some x):(xs.map f)[i]? =some (f x):=by rw[JN,h];rfl
section
variable {E:Env} {Q:DQ} {N K:Nat} {Z:TS} {O:Hp} {k:List It} {S:Type}
def N3 (m:Nat) (ts:List Nat) (n:Nat) (L:Int->S->List (Nat×CV)) (H:Nat->S->List aR) (J:Nat->S->Prop) (i:Nat) (Z1:TS) (O1:Hp):Prop:=
 ∃n',n'<n-i/\∃l' es',m<=O1.n/\dF m ts Z1=some l'/\gK m O1=some es'/\∃(j:Nat) (s:S),j<=n/\n'=n-j/\l'=L (j:Int) s/\es'=H j s/\J j s
theorem ai.next {m:Nat} {ts:List Nat} {n:Nat} {L:Int->S->List (Nat×CV)} {H:Nat->S->List aR} {J:Nat->S->Prop} {i:Nat} (s':S) (hi:i<n) (hn:n<4611686018427387904) (hm:Nat.ble m O.n=true) (hp:dF m ts Z=some (L (IntKind.i64.wrap ((i:Int)+1)) s')) (he:gK m O=some (H (i+1) s')) (hj:J (i+1) s'):
  ai E N K (.lp (N3 m ts n L H J i)::k) Q Z O:=
 ai.lp ⟨n-(i+1),by omega,_,_,cM hm,hp,he,i+1,s',by omega,rfl,by
  have:IntKind.i64.wrap ((i:Int)+1)=((i+1:Nat):Int):=by rw[IntKind.wrap_i64];omega
  rw[this],rfl,hj⟩
end
theorem bw.of {x y:AV} (h:x=y):bw x y:=h▸bw.refl x
theorem bx.of {x y:List AV} (h:x=y):bx x y:=h▸bx.refl x
theorem cE.of {x y:List (List AV)} (h:x=y):cE x y:=h▸cE.refl x
theorem bx.append:∀{xs ys xs' ys':List AV},bx xs ys->bx xs' ys'->bx (xs++xs') (ys++ys')
 |_,_,_,_,.nil,h=>h
 |_,_,_,_,.cons h t,g=> .cons h (bx.append t g)
theorem Pure.args {C:Cx} {g:FuncId} {xs ys:List AV} {res:AR} (hi:bx xs ys) (h:Pure C g ys res):Pure C g xs res:=
 ⟨h.1,λF w vs h1 h2=>h.2 F w vs h1 (hi.rel h2)⟩
section
variable {E:Env} {Q:DQ} {N K:Nat} {Z:TS} {O:Hp} {o:Oper} {all rest:List Oper} {k:List It} {x:CV} {c:Code}
theorem RD.Ow {rs:List ResultVar} {xs:List CV} {z y:AV} {ns:List (Nat×Nat)} {ms:List (Nat×aR)} (h:cU E.T Z O rs=some xs) (hf:bA O.e 60 [dC xs]=some ([z],ns,ms)) (hn:eqs ns) (e:bw z y):RD E.T rs (Ends 60 (.ret y)) .ret Z O:=⟨xs,h,z,ns,ms,hf,hn,y,rfl,e⟩
theorem RD.NX {rs:List ResultVar} {xs:List CV} {z y:AV} {ns:List (Nat×Nat)} {ms:List (Nat×aR)} (h:cU E.T Z O rs=some xs) (hf:bA O.e 60 [dC xs]=some ([z],ns,ms)) (hn:eqs ns) (e:bw z y):RD E.T rs (Ends 60 (.ret y)) .norm Z O:=⟨xs,h,z,ns,ms,hf,hn,y,rfl,e⟩
theorem RD.Ox {rs:List ResultVar} {x:CV} {z y:AV} {ns:List (Nat×Nat)} {ms:List (Nat×aR)} (hf:bA O.e 60 [x]=some ([z],ns,ms)) (hn:eqs ns) (e:bw z y):RD E.T rs (Ends 60 (.aD y)) (.aD x) Z O:=⟨z,ns,ms,hf,hn,y,rfl,e⟩
theorem dm.H7 {G:Gl} {Z:Sg} {O:List ag} {N:Nat} (i:Nat) {x y:ag} (hi:nth O i=some x) (hids:y.ids=x.ids) (hok:∀w A,x.ok w A->y.ok w A):dm G N Z O Z (O.set i y):=λF w a hs=>by
 have hsplit:O=O.take i++x::O.drop (i+1):=by
  rw[bP]at hi;obtain⟨hlt,hx⟩:=cT.1 hi;rw[<-hx,List.getElem_cons_drop hlt,uM]
 have hset:O.set i y=O.take i++y::O.drop (i+1):=by
  rw[bP]at hi;obtain⟨hlt,hx⟩:=cT.1 hi;rw[List.set_eq_take_append_cons_drop,cV hlt]
 have hI:ids (O.set i y)=ids O:=by
  rw[hset]
  conv=>rhs;rw[hsplit]
  simp only[bI,b4,hids]
 have hA:Al F (O.set i y)=Al F O:=by funext b;simp only[Al,hI]
 refine⟨⟨by rw[hA];exact hs.sg,⟨λz hz=>?_,by rw[hI];exact hs.hp.nodup,by rw[hI];exact hs.hp.free,hs.hp.bound,by rw[hA];exact hs.hp.eX⟩,hs.df⟩,by rw[hI];exactλ_ h=>h⟩;rw[hA];rw[hset]at hz;have hmem:∀z,z∈O↔z∈O.take i++x::O.drop (i+1):=λz=>by rw[<-hsplit]
 simp only[ck,cL]at hz hmem;rcases hz with hz|rfl|hz
 ·exact hs.hp.dw z ((hmem z).2 (.inl hz))
 ·exact hok _ _ (hs.hp.dw x ((hmem x).2 (.inr (.inl rfl))))
 ·exact hs.hp.dw z ((hmem z).2 (.inr (.inr hz)))
theorem DC.fB (t e kk:Nat) (ht:Z.get t=some (.d (.v (.slice none 0 0)))) (h:DC E N K c Q (Tr.put 24 Z t (some (.os O.n 0))) (O.push (.row e kk []))):DC E N K c Q Z O:=λL ZB ηB hs hh=>by
 obtain⟨y,h1,h2⟩:=hs t _ ht;simp only[aw]at h2;subst h2;refine bg.fB t e kk h1 ?_;have hdom:=hh.eC O.n (bq _);have hl:L.le (L.aO O.n 0 (none,0)):=au.gX λy hy=>by rw[hdom.2]at hy;cases hy
 have hbn:(L.aO O.n 0 (none,0)).s O.n 0=some (none,0):=by simp[au.aO]
 refine bg.mono (h _ _ _ ((hs.mono hl).put (some t) (by simp only[aw];exact⟨_,_,ηB.length,hbn,rfl⟩)) ?_) λ_ _ _ hq=>lH (hl.toK K) (λ_ _ _ h=>h) hq;refine hh.push hl (λi hi=>by funext m;simp[au.aO,hi]) (λ_ _=>rfl) ⟨⟨none,0,by simpa using hbn,by simp⟩,λm hm=>?_⟩;have:m≠0:=by simp at hm;omega
 simp only[au.aO,this,and_false,if_false];exact hdom.2 m
theorem ai.fB (t e kk:Nat) (ht:Z.get t=some (.d (.v (.slice none 0 0)))) (h:ai E N K (.code c::k) Q (Tr.put 24 Z t (some (.os O.n 0))) (O.push (.row e kk []))):ai E N K (.code c::k) Q Z O:=by
 unfold ai at h⊢;simp only[dq]at h⊢;exact DC.fB t e kk ht h
theorem bg.bound {C:Cx} {c:Code} {Q:AQ} {Z:Sg} {O:List ag} {N:Nat} (t:Nat) {k:Nat} {rows:List (List AV)} (ht:look Z t=some (.sl k rows)) (h:rows.length<=9223372036854775807->bg C N c Q Z O):bg C N c Q Z O:=λF w0 O0 a w hs hx=>by
 obtain⟨_,hv⟩:=hs.sg.2 t _ ht;refine h ?_ F w0 O0 a w hs hx;simp only[Rel]at hv;rcases hv with⟨rfl,_⟩|⟨b,o,cap,vs,e,h1,h2,h3,_⟩
 ·simp
 ·unfold maxLen at h3;omega
theorem DC.bound (t:Nat) {kk:Nat} {rows:List (List AV)} (ht:Z.get t=some (.d (.sl kk rows))) (h:rows.length<=9223372036854775807->DC E N K c Q Z O):DC E N K c Q Z O:=λL ZB ηB hs hh=>by
 obtain⟨z,h1,h2⟩:=hs t _ ht;simp only[aw]at h2;subst h2;exact bg.bound t h1 λhl=>h hl L ZB ηB hs hh
theorem ai.bound (t:Nat) {kk:Nat} {rows:List (List AV)} (ht:Z.get t=some (.d (.sl kk rows))) (h:rows.length<=9223372036854775807->ai E N K (.code c::k) Q Z O):ai E N K (.code c::k) Q Z O:=by
 unfold ai at h⊢;simp only[dq]at h⊢;exact DC.bound t ht h
def gq:List aR->List (Nat×aR)->List aR
 |es,[]=>es
 |es,(i,x)::r=>gq (tU es i x) r
where tU:List aR->Nat->aR->List aR
 |[],_,_=>[]
 |_::l,0,x=>x::l
 |y::l,i+1,x=>y::tU l i x
theorem u6 {m:Nat} {Z:TS}:∀{ts us:List Nat} {l r:List (Nat×CV)},dF m ts Z=some l->dF m us Z=some r->dF m (ts++us) Z=some (l++r)
 |[],_,_,_,h,g=>by simp only[dF,ao]at h;subst h;exact g
 |t::ts,us,l,r,h,g=>by
  simp only[dF]at h;split at h
  ·rename_i x l' h1 h2;split at h
   ·rename_i h0;simp only[ao]at h;subst h;simp only[gT,dF,h1,u6 h2 g,h0]
   ·cases h
  ·cases h
def tE {S:Type} (m:Nat) (ts ks:List Nat) (l0:List (Nat×CV)) (es0:List aR) (vs:S->List (Nat×CV)) (hs:S->List (Nat×aR)) (J:Nat->S->Prop) (n:Nat) (Z1:TS) (O1:Hp):Prop:=
 ∃n',n'<n/\∃l' es',m<=O1.n/\dF m (ts++ks) Z1=some l'/\gK m O1=some es'/\∃s:S,l'=l0++vs s/\es'=gq es0 (hs s)/\J n' s
theorem Lg {m:Nat} {l:List aR} (h:gK m O=some l):l.length=m:=(sa h).1
theorem D0:∀(l:List aR) (i:Nat) (x:aR),(gq.tU l i x).length=l.length
 |[],_,_=>rfl
 |_::l,0,_=>rfl
 |y::l,i+1,x=>by simp[gq.tU,D0 l i x]
theorem D1:∀(r:List (Nat×aR)) (l:List aR),(gq l r).length=l.length
 |[],_=>rfl
 |(i,x)::r,l=>by rw[gq,D1 r,D0]
theorem ai.N0 {S:Type} (m:Nat) (ts ks:List Nat) (vs:S->List (Nat×CV)) (hs:S->List (Nat×aR)) (J:Nat->S->Prop) (n:Nat) (s0:S) {l0:List (Nat×CV)} {es:List aR} (hm:O.n=m) (hK:Nat.ble K m=true) (hp0:dF m ts Z=some l0) (hp:dF m ks Z=some (vs s0)) (he:gK m O=some es) (hes:es=gq es (hs s0)) (h0:J n s0)
  (round:∀n s,J n s->ai E N K (.code c:: .lp (tE m ts ks l0 es vs hs J n)::k) Q (lu (l0++vs s)) ⟨kn 0 (gq es (hs s)),m⟩):ai E N K (.code (.loop c)::k) Q Z O:=by
 subst hm;exact ai.loop (ts++ks) O.n (λq l' es'=>∃s:S,l'=l0++vs s/\es'=gq es (hs s)/\J q s) n (cM hK) (bq _) (u6 hp0 hp) he ⟨s0,rfl,hes,h0⟩ (by
  rintro q l' es' ⟨s,rfl,rfl,hj⟩;have:=round q s hj;have hl:(gq es (hs s)).length=O.n:=by rw[D1,Lg he]
  unfold gP;rw[hl];exact this)
theorem ai.N2 {S:Type} {m:Nat} {ts ks:List Nat} {l0:List (Nat×CV)} {es0:List aR} {vs:S->List (Nat×CV)} {hs:S->List (Nat×aR)} {J:Nat->S->Prop} {n:Nat} (s':S) (n':Nat) (hm:Nat.ble m O.n=true) (hp0:dF m ts Z=some l0) (hp:dF m ks Z=some (vs s')) (he:gK m O=some (gq es0 (hs s'))) (hn:n'<n) (hj:J n' s'):
  ai E N K (.lp (tE m ts ks l0 es0 vs hs J n)::k) Q Z O:=
 ai.lp ⟨n',hn,_,_,cM hm,u6 hp0 hp,he,s',rfl,rfl,hj⟩
end
theorem aI:eqs []:=trivial
theorem fh {a b:Nat} {r:List (Nat×Nat)} (h:a=b) (k:eqs r):eqs ((a,b)::r):=⟨h,k⟩
def G6 (Z:TS):Op->Bool
 | .call {callee:= .builtin .append,args:=as,argTypes:=_}=>match as.toList with
  | .tmp t::_=>match Z.get t with
   |some (.os _ _)=>true
   |_=>false
  |_=>false
 |_=>false
def my (Z:TS):List It->Bool
 | .code (.region _ _ true)::_=>true
 | .ops _ (o::_)::_=>G6 Z o.op
 | .tl _ ((_,o,.one)::_) _ _ _::_=>G6 Z o.op
 |_=>false
def ds (P:Program) (G:Gl) (T:bt):Nat->Nat->Nat->List It->TS->Hp->List (Nat×Nat)->Out
 |0,N,K,todo,Z,O,ns=> .stuck N K todo Z O ns
 |f+1,N,K,todo,Z,O,ns=>match my Z todo with
  |true=> .stuck N K todo Z O ns
  |false=>match step P G T jZ (λ_ _=>none) f N K todo Z O ns with
   | .go N' K' todo' Z' O' ns'=>ds P G T f N' K' todo' Z' O' ns'
   | .out o=>o
section
variable {E:Env}
variable {Q:DQ} {N K N' K':Nat} {todo todo' t1 t2:List It} {Z Z' s1 s2:TS} {O O':Hp} {ns:List (Nat×Nat)}
theorem Ok.stuck (hn:eqs ns) (k:ai E N' K' todo' Q Z' O'):Out.ok E Q (.stuck N' K' todo' Z' O' ns):=⟨hn,k⟩
theorem Ok.cond {b:Bool} (hn:eqs ns) (k1:b=true->ai E N' K' t1 Q s1 O') (k2:b=false->ai E N' K' t2 Q s2 O'):Out.ok E Q (.cond b N' K' t1 s1 t2 s2 O' ns):=⟨hn,k1,k2⟩
theorem Ok.fin {e:DE} (hn:eqs ns) (k:Q e Z' O'):Out.ok E Q (.fin e Z' O' ns):=⟨hn,k⟩
theorem Ok.val {o:Oper} {all rest:List Oper} {k:List It} {x:CV} (hn:eqs ns) (hg:o.guard=none) (hd:bE N' o.dst=true) (h:aN E N' o Z' O' x) (hk:ai E N' K' (.ops all rest::k) Q (br Z' o.dst x) O'):Out.ok E Q (.stuck N' K' (.ops all (o::rest)::k) Z' O' ns):=
 ⟨hn,ai.val hg hd h hk⟩
theorem Ok.th {o:Oper} {all pre:List Oper} {tl:List (Nat×Oper×TK)} {A:bo} {W:List (Nat×List CV)} {k:List It} {x:CV} (hn:eqs ns) (hd:bE N' o.dst=true) (hw:bX all o Z'=some true) (hf:iJ o W=true) (h:aN E N' o Z' O' x) (hk:ai E N' K' (.lex all tl A pre W::k) Q (br Z' o.dst x) O'):
  Out.ok E Q (.stuck N' K' (.lex all tl A (o::pre) W::k) Z' O' ns):=⟨hn,ai.th hd hw hf h hk⟩
theorem Ok.open {id:Nat} {l:List Oper} {k:List It} (pre:List Nat) (tl:List (Nat×TK)) (al:List Nat) {A:bo} (hn:eqs ns) (hm:E.P.follows .mixedOrders=true) (hA:jC E.T l.toArray N' al=some A) (hB:kT l.toArray pre tl al=true) (hl:Nat.beq (ep l.toArray pre).length pre.length=true)
  (h:ai E N' K' (.lex l (gg l.toArray tl) A (ep l.toArray pre) []::k) Q Z' O'):Out.ok E Q (.stuck N' K' (.code (.region id l.toArray true)::k) Z' O' ns):=⟨hn,ai.NZ pre tl al A hm hA hB hl h⟩
end
section
variable {E:Env} {Q:DQ} {N K:Nat} {Z:TS} {O:Hp} {o:Oper} {all:List Oper} {k:List It} {x:CV} {l:List (Nat×Oper×TK)} {A:bo} {pend:List (Nat×Oper×CV)} {fs:List (Nat×List AV×AV)} {i:Nat} {ns:List (Nat×Nat)}
theorem aV.call {dst:Option Nat} {f:Operand} {args:List Operand} {g:FuncId} {cs:List CV} {xs:List AV} {res:AV} {tys:Array TypeId} {ty:TypeId} {pos:String} {after:Array Edge} {gd:Option (Nat×Bool)} (h:Pure E.toCx g xs (.ret res)) (hc:cu Z f args=some (g,cs)) (hx:eg cs=some xs):
  aV E N ⟨dst,.call {callee:= .value f,args:=args.toArray,argTypes:=tys},ty,pos,after,gd⟩ Z (.d res):=λL s ηB hs=>by
 obtain⟨ys,h1,h2⟩:=jM hs hc;have:=jk hx h2;subst this;exact⟨res,rfl,bp.pure rfl h h1⟩
theorem aV.idx {t:TypeId} {p ix:Operand} {e kk sz by':Nat} {z:List Value} {rows:List (List AV)} {r:List AV} {kd:IntKind} {m:Int} (j:Nat) (ho:o.op= .indexAddr t p ix) (hp:aL Z p=some (.d (.sl kk rows)))
  (ht:aM E.T t=some ⟨.slice e kk,sz,by',z⟩) (hix:aL Z ix=some (.d (.v (.int kd m)))) (hm:m=(j:Int)) (hr:rows[j]? =some r):aV E N o Z (.d (.ip r)):=λL s ηB hs=>by
 obtain⟨y,h1,h2⟩:=bz hs hp;simp only[aw]at h2;subst h2;obtain⟨y',h4,h5⟩:=bz hs hix;simp only[aw]at h5;subst h5;subst hm;refine⟨.ip r,rfl,bp.dn (E:=E) ?_⟩;have hnat:jB (some (.v (.int kd (j:Int))))=some j:=rfl;rw[ho];simp only[Bw.dn,h1,h4,hnat,ht,rR,bP,hr]
theorem aV.dS {y:AV} (h:dS E.P (cZ Z) o.op=some y):aV E N o Z (.d y):=λL s ηB hs=>⟨y,rfl,(bp.dS h).mono λ_ _ _ hy=>gI hs hy⟩
theorem ak.nil:ak E N all [] Z O:=λp hp=>by cases hp
theorem ak.cons {r:List (Nat×Oper×CV)} (hw:bX all o Z=some true) (h:aN E N o Z O x) (hr:ak E N all r Z O):ak E N all ((i,o,x)::r) Z O:=λp hp=>by
 rcases cL.1 hp with rfl|hp
 ·exact .inl ⟨hw,h⟩
 ·exact hr p hp
theorem ak.skip {r:List (Nat×Oper×CV)} (hw:bX all o Z=some false) (hr:ak E N all r Z O):ak E N all ((i,o,.d (.v undef))::r) Z O:=λp hp=>by
 rcases cL.1 hp with rfl|hp
 ·exact .inr ⟨hw,rfl⟩
 ·exact hr p hp
theorem aN.cK {cl:Bool} (h:cK E.P E.G E.T cl Z O o.op=some (x,ns)) (hn:eqs ns):aN E N o Z O x:=pO h hn
theorem ai.Oz (hp:ak E N all pend Z O) (hd:bE N o.dst=true) (hw:bX all o Z=some true) (hv:aV E N o Z x) (h:ai E N K (.tl all l A pend fs::k) Q (br Z o.dst x) O):ai E N K (.tl all ((i,o,.fl)::l) A pend fs::k) Q Z O:=
 λhf=>bN.st hp hd (.inl ⟨hw,hv⟩) (h hf)
theorem ai.OA (hp:ak E N all pend Z O) (hd:bE N o.dst=true) (hw:bX all o Z=some true) (hv:aN E N o Z O x) (h:ai E N K (.tl all l A ((i,o,x)::pend) fs::k) Q (br Z o.dst x) O):ai E N K (.tl all ((i,o,.fl)::l) A pend fs::k) Q Z O:=
 λhf=>bN.fl hp hd (.inl ⟨hw,hv⟩) (h hf)
theorem ai.Nt (hm:E.P.follows .mixedOrders=true) (hp:ak E N all pend Z O) (h:Nx.ok E Q (pP E.P E.G E.T jZ (λ_ _=>none) N K all l A pend fs k Z O [] (.out (.stuck N K (.tl all l A pend fs::k) Z O [])))):ai E N K (.tl all l A pend fs::k) Q Z O:=
 (Db (c:=jZ) (nest:=λ_ _=>none) (λg xs z hz=>by cases hz) (λg x h=>by cases h) (λ_=>hp) h (λh=>h)).2
theorem Cb {D:Type} {f:D->List AV}:∀{l:List D},(∀x∈l,eo [f x]=true)->eo (l.map f)=true
 |[],_=>rfl
 |x::l,h=>by
  have h1:=h x (by simp);have h2:=Cb (l:=l) λy hy=>h y (by simp[hy]);simp only[eo,gS,List.all_nil,uR,cA]at h1 h2⊢;rw[h1,h2];rfl
theorem DO.Nv {rest:List Oper} {i d n j m:Nat} {s p:Operand} {t:TypeId} {ty:TypeId} {pos:String} {after:Array Edge} {e e' kk sz by' sz' by'':Nat} {z z':List Value} {td':TD} {rows rows2:List (List AV)}
  (hs':aL Z s=some (.os i n)) (hi:O.e.get i=some (.row e kk rows)) (hn:n=rows.length) (hx:aL Z p=some (.os j m)) (hj:O.e.get j=some (.row e' kk rows2)) (hm:m=rows2.length) (ht:aM E.T t=some ⟨.slice e kk,sz,by',z⟩) (hte:aM E.T e=some ⟨td',sz',by'',z'⟩) (h1:eo rows2=true)
  (hk:Nat.ble 1 kk=true) (hby:Nat.ble 1 by''=true) (hd:Nat.blt d N=true) (hb:(rows++rows2).length*by''<=140737488355328)
  (k1:ai E N K (.ops all rest::k) Q (br Z (some d) (.os i (rows++rows2).length)) (O.set i (.row e kk (rows++rows2)))):
  ai E N K (.ops all (⟨some d,.call {callee:= .builtin .append,args:= #[s,p],argTypes:= #[t,t]},ty,pos,after,none⟩::rest)::k) Q Z O:=
 DO.append hb hs' hi hn (.row hx hj hm) ht hte h1 hk hby hd k1
theorem ai.ma {R:DR->Hp->Prop} {Z1:TS} {O1:Hp} (hp:ak E N all pend Z O) (hnd:dP ((cG (bC all.toArray i A)).map (·.1))=true) (hd:bE N o.dst=true) (bQ:dD (cG (bC all.toArray i A)) Z O=(Z1,O1)) (hw:bX all o Z1=some true) (h:bm E N o Z1 O1 R)
  (k1:∀x O',R (.ret x) O'->ai E N K (.tl all l (bJ all.toArray i A) (b6 all i pend) fs::k) Q (br Z1 o.dst x) O') (k2:∀x O',R (.aD x) O'->False):ai E N K (.tl all ((i,o,.one)::l) A pend fs::k) Q Z O:=
 λhf=>bN.km hp hnd hd bQ hw h (λx O' hR=>k1 x O' hR hf) (λx O' hR=>(k2 x O' hR).elim)
variable {N' K':Nat} {todo':List It} {Z':TS} {O':Hp}
theorem Nx.NY (hn:eqs ns) (h:ai E N' K' todo' Q Z' O'):Nx.ok E Q (.go N' K' todo' Z' O' ns):=⟨hn,h⟩
end
section
variable {E:Env} {Q:DQ} {N K:Nat} {Z:TS} {O:Hp} {o:Oper} {all:List Oper} {k:List It} {x:CV}
theorem aV.toP (h:aV E N o Z x):aN E N o Z O x:=λL s ηB hs _=>h L s ηB hs
theorem aV.dn {y:AV} (h:dn E.P E.T (cZ Z) o.op=some y):aV E N o Z (.d y):=λL s ηB hs=>⟨y,rfl,(bp.dn h).mono λ_ _ _ hy=>gI hs hy⟩
def kb (Z:TS) (dflt:Nat):Option Operand->Option Nat
 |none=>some dflt
 |some p=>match aL Z p with
  |some (.d y)=>jB (some y)
  |_=>none
theorem Ev {d n:Nat} {p:Option Operand} (h:kb Z d p=some n):fE (cZ Z) d p=some n:=by
 cases p with
 |none=>exact h
 |some p=>
  simp only[kb]at h;split at h
  ·rename_i y hy;show jB (ev (cZ Z) p)=some n;rw[kM hy];exact h
  ·cases h
theorem aV.part {t:TypeId} {p:Operand} {lo hi:Option Operand} {e kk sz by':Nat} {z:List Value} {rows:List (List AV)} (l h:Nat) (ho:o.op= .slice t p lo hi none) (hp:aL Z p=some (.d (.sl kk rows))) (ht:aM E.T t=some ⟨.slice e kk,sz,by',z⟩)
  (hl:kb Z 0 lo=some l) (hh:kb Z rows.length hi=some h) (h1:l<=h) (h2:h<=rows.length):aV E N o Z (.d (.sl kk ((rows.take h).drop l))):=
 aV.dn (by
  rw[ho];simp only[Bw.dn,kM hp,ht,Ev hl,Ev hh];have:(Nat.beq kk kk&&Nat.ble l h&&Nat.ble h rows.length)=true:=by simp[h1,h2]
  rw[this])
theorem aV.fN {t:TypeId} {p ix:Operand} {b:ByteArray} {c:UInt8} {sz by':Nat} {z:List Value} {kd:IntKind} {m:Int} (j:Nat) (ho:o.op= .index t p ix) (hp:aL Z p=some (.d (.v (.string b))))
  (ht:aM E.T t=some ⟨.str,sz,by',z⟩) (hix:aL Z ix=some (.d (.v (.int kd m)))) (hm:m=(j:Int)) (hr:b.data.toList[j]? =some c):aV E N o Z (.d (.v (.int .u8 c.toNat))):=
 aV.dn (by
  subst hm;rw[ho];simp only[Bw.dn,kM hp,kM hix,ht];have:jB (some (.v (.int kd (j:Int))))=some j:=rfl;rw[this];have h2:nth b.data.toList j=some c:=by rw[bP];exact hr
  show(match nth b.data.toList j with|some c=>some (AV.v (.int .u8 (c.toNat:Int)))|none=>none)=_;rw[h2])
theorem aV.tf {t:TypeId} {p q:Operand} {yt:TypeId} {a b:Bool} (ho:o.op= .binOp .neq t p q yt) (hu:E.P.underlying t=some .bool) (hp:aL Z p=some (.d (.v (.bool a)))) (hq:aL Z q=some (.d (.v (.bool b)))):aV E N o Z (.d (.v (.bool (!(a==b))))):=
 aV.dS (by rw[ho];simp only[Bw.dS,hu,kM hp,kM hq,nC,k8])
