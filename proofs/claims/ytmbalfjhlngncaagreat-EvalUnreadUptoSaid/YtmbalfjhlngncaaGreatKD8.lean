/- The abstract machine, eighth part: the driver's lemmas for walks with open values. -/
import Derived.Test.YtmbalfjhlngncaaGreatKD7
set_option linter.all false
noncomputable section
namespace Go.Bw
open Go
def nL:gR:=⟨false,λ_=>false,λ_=>false,λ_=>false,λ_=>none,λ_=>none,[]⟩
section
variable {E:Env} {Q:DQ} {N K N' K':Nat} {todo todo' t1 t2:List It} {Z Z' s1 s2:TS} {O O':Hp} {ns:List (Nat×Nat)}
def UA:gR:=⟨true,λ_=>false,λ_=>false,λ_=>false,λ_=>none,λ_=>none,[]⟩
theorem ac2 (hm:E.P.follows .mixedOrders=true) (f:Nat) {e:DE} (h:dx E.P E.G E.T UA f N K todo Z O []= .fin e Z' O' []) (k:Q e Z' O'):ak E N K todo Q Z O:=
 (Ub hm UA (λf hf=>by cases hf) (λf ty z h=>by cases h) (λg x h=>by cases h) f Q N K todo Z O [] (by rw[h];exact⟨trivial,k⟩)).2
theorem Pure.walk {g:FuncId} {fn:Func} {c:Code} {xs:List AV} {rs:List ResultVar} {nt:Nat} {res:AR} (hf:E.P.funcs[g]? =some fn) (hb:fn.body=some c) (hname:(fn.name== "runtime.NumGoroutine")=false) (hrs:fn.results=rs.toArray) (hnt:fn.ntmps=nt) (hn:Nat.ble xs.length nt=true)
  (h:ak E nt 0 [.code c] (RD E.T rs (Ends 60 res)) (iv 0 (xs.map .d)) Hp.nil):Pure E.toCx g xs res:=Pure.Xg 60 (eH.enter hf hb hname rs hrs nt hnt (by simpa using hn) h)
end
section
variable {E:Env} {Q:DQ} {N K:Nat} {Z:TS} {O:Hp} {o:Oper} {all rest:List Oper} {k:List It} {x:CV}
theorem ak.val (hg:o.guard=none) (hd:cw N o.dst=true) (h:bd E N o Z O x) (hk:ak E N K (.ops all rest::k) Q (bW Z o.dst x) O):ak E N K (.ops all (o::rest)::k) Q Z O:=DO.nX hg hd h hk
theorem ak.idx {t:TypeId} {p ix:Operand} {e kk sz by':Nat} {z:List Value} {rows:List (List AV)} {r:List AV} {kd:IntKind} {m:Int} {dst:Option Nat} {ty:TypeId} {pos:String} {after:Array Edge} (j:Nat) (hp:aW Z p=some (.d (.sl kk rows)))
  (ht:aZ E.T t=some ⟨.slice e kk,sz,by',z⟩) (hix:aW Z ix=some (.d (.v (.int kd m)))) (hm:m=(j:Int)) (hr:rows[j]? =some r) (hd:cw N dst=true) (hk:ak E N K (.ops all rest::k) Q (bW Z dst (.d (.ip r))) O):
  ak E N K (.ops all (⟨dst,.indexAddr t p ix,ty,pos,after,none⟩::rest)::k) Q Z O:=ak.val (o:=⟨dst,.indexAddr t p ix,ty,pos,after,none⟩) rfl hd (bd.idx j rfl hp ht hix hm hr) hk
theorem ak.pure {dst:Option Nat} {f:Operand} {args:List Operand} {g:FuncId} {cs:List CV} {xs:List AV} {res:AV} {tys:Array TypeId} {ty:TypeId} {pos:String} {after:Array Edge} (h:Pure E.toCx g xs (.ret res)) (hc:dz Z f args=some (g,cs)) (hx:fL cs=some xs) (hd:cw N dst=true)
  (hk:ak E N K (.ops all rest::k) Q (bW Z dst (.d res)) O):ak E N K (.ops all (⟨dst,.call {callee:= .value f,args:=args.toArray,argTypes:=tys},ty,pos,after,none⟩::rest)::k) Q Z O:=
 ak.val (o:=⟨dst,.call {callee:= .value f,args:=args.toArray,argTypes:=tys},ty,pos,after,none⟩) rfl hd (λW s ηB hs _=>by
  obtain⟨ys,h1,h2⟩:=nh hs hc;have:=mr hx h2;subst this;exact⟨res,rfl,bP.pure rfl h h1⟩) hk
theorem ak.skip (h:ak E N K k Q Z O):ak E N K (.code .skip::k) Q Z O:=DC.skip h
theorem ak.seq {x y:Code} (h:ak E N K (.code x:: .code y::k) Q Z O):ak E N K (.code (.seq x y)::k) Q Z O:=DC.seq (by rw[Qx];exact h)
theorem ak.aeO {id:Nat} {l:List Oper} (pre:List Nat) (tl:List (Nat×TK)) (al:List Nat) (A:bN) (hm:E.P.follows .mixedOrders=true) (hA:mT E.T l.toArray N al=some A) (hB:oY l.toArray pre tl al=true) (hl:Nat.beq (fV l.toArray pre).length pre.length=true)
  (h:ak E N K (.lex l (jJ l.toArray tl) A (fV l.toArray pre) []::k) Q Z O):ak E N K (.code (.region id l.toArray true)::k) Q Z O:=DC.open pre tl al A hm hA hB hl h
theorem ak.DK {A:bN} {tl:List (Nat×Oper×TK)} {pre:List Oper} {L:List (Nat×List CV)} (hd:cw N o.dst=true) (hw:cM all o Z=some true) (hf:lP o L=true) (h:bd E N o Z O x) (hk:ak E N K (.lex all tl A pre L::k) Q (bW Z o.dst x) O):ak E N K (.lex all tl A (o::pre) L::k) Q Z O:=eb.val hd hw hf h hk
theorem bd.call {dst:Option Nat} {f:Operand} {args:List Operand} {g:FuncId} {cs:List CV} {xs:List AV} {res:AV} {tys:Array TypeId} {ty:TypeId} {pos:String} {after:Array Edge} {gd:Option (Nat×Bool)} (h:Pure E.toCx g xs (.ret res)) (hc:dz Z f args=some (g,cs)) (hx:fL cs=some xs):bd E N ⟨dst,.call {callee:= .value f,args:=args.toArray,argTypes:=tys},ty,pos,after,gd⟩ Z O (.d res):=λW s ηB hs _=>by
 obtain⟨ys,h1,h2⟩:=nh hs hc;have:=mr hx h2;subst this;exact⟨res,rfl,bP.pure rfl h h1⟩
theorem jH {p:Operand} {y:AV} (h:aW Z p=some (.d y)):ev (dj Z) p=some y:=by
 cases p with
 |tmp t=>
  have h:Z.get t=some (.d y):=h;show dj Z t=some y;unfold dj;rw[h]
 |const v=>cases h;rfl
 |global g=>cases h;rfl
 |func f=>cases h;rfl
end
section
variable {E:Env} {Q:DQ} {N K:Nat} {Z:TS} {O:Hp} {o:Oper} {all rest:List Oper} {k:List It}
end
theorem get_map {α β:Type} {f:α->β} {xs:List α} {i:Nat} {x:α} (h:xs[i]? =some x):(xs.map f)[i]? =some (f x):=by rw[kf,h];rfl
section
variable {E:Env} {Q:DQ} {N K:Nat} {Z:TS} {O:Hp} {k:List It} {S:Type}
def aeR (m:Nat) (ts:List Nat) (n:Nat) (L:Int->S->List (Nat×CV)) (H:Nat->S->List br) (J:Nat->S->Prop) (i:Nat) (Z1:TS) (O1:Hp):Prop:=
 ∃n',n'<n-i/\∃l' es',m<=O1.n/\eI m ts Z1=some l'/\kz m O1=some es'/\∃(j:Nat) (s:S),j<=n/\n'=n-j/\l'=L (j:Int) s/\es'=H j s/\J j s
theorem ak.next {m:Nat} {ts:List Nat} {n:Nat} {L:Int->S->List (Nat×CV)} {H:Nat->S->List br} {J:Nat->S->Prop} {i:Nat} (s':S) (hi:i<n) (hn:n<4611686018427387904) (hm:Nat.ble m O.n=true) (hp:eI m ts Z=some (L (IntKind.i64.wrap ((i:Int)+1)) s')) (he:kz m O=some (H (i+1) s')) (hj:J (i+1) s'):
  ak E N K (.lp (aeR m ts n L H J i)::k) Q Z O:=
 ak.lp ⟨n-(i+1),by omega,_,_,dL hm,hp,he,i+1,s',by omega,rfl,by
  have:IntKind.i64.wrap ((i:Int)+1)=((i+1:Nat):Int):=by rw[IntKind.wrap_i64];omega
  rw[this],rfl,hj⟩
end
theorem bV.of {x y:AV} (h:x=y):bV x y:=h▸bV.refl x
theorem b8.of {x y:List AV} (h:x=y):b8 x y:=h▸b8.refl x
theorem du.of {x y:List (List AV)} (h:x=y):du x y:=h▸du.refl x
theorem b8.append:∀{xs ys xs' ys':List AV},b8 xs ys->b8 xs' ys'->b8 (xs++xs') (ys++ys')
 |_,_,_,_,.nil,h=>h
 |_,_,_,_,.cons h t,g=> .cons h (b8.append t g)
theorem Pure.args {C:Cx} {g:FuncId} {xs ys:List AV} {res:AR} (hi:b8 xs ys) (h:Pure C g ys res):Pure C g xs res:=
 ⟨h.1,λF w vs h1 h2=>h.2 F w vs h1 (hi.rel h2)⟩
section
variable {E:Env} {Q:DQ} {N K:Nat} {Z:TS} {O:Hp} {o:Oper} {all rest:List Oper} {k:List It} {x:CV} {c:Code}
theorem RD.afh {rs:List ResultVar} {xs:List CV} {z y:AV} {ns:List (Nat×Nat)} {ms:List (Nat×br)} (h:eh E.T Z O rs=some xs) (hf:cr O.e 60 [ff xs]=some ([z],ns,ms)) (hn:eqs ns) (e:bV z y):RD E.T rs (Ends 60 (.ret y)) .ret Z O:=⟨xs,h,z,ns,ms,hf,hn,y,rfl,e⟩
theorem RD.aeM {rs:List ResultVar} {xs:List CV} {z y:AV} {ns:List (Nat×Nat)} {ms:List (Nat×br)} (h:eh E.T Z O rs=some xs) (hf:cr O.e 60 [ff xs]=some ([z],ns,ms)) (hn:eqs ns) (e:bV z y):RD E.T rs (Ends 60 (.ret y)) .norm Z O:=⟨xs,h,z,ns,ms,hf,hn,y,rfl,e⟩
theorem RD.afi {rs:List ResultVar} {x:CV} {z y:AV} {ns:List (Nat×Nat)} {ms:List (Nat×br)} (hf:cr O.e 60 [x]=some ([z],ns,ms)) (hn:eqs ns) (e:bV z y):RD E.T rs (Ends 60 (.aO y)) (.aO x) Z O:=⟨z,ns,ms,hf,hn,y,rfl,e⟩
theorem dB.slot {G:Gl} {Z:Sg} {O:List aq} {N:Nat} (t:Nat) {x y:AV} (ht:look Z t=some x) (hi:bV x y):dB G N Z O ((t,y)::Z) O:=λF w a hs=>by
 obtain⟨hlt,hv⟩:=hs.sg.2 t _ ht;refine⟨⟨⟨hs.sg.1,λs z hz=>?_⟩,hs.hp,hs.df⟩,λ_ h=>h⟩;simp only[look]at hz;cases hb:Nat.beq t s with
 |true=>rw[hb]at hz;simp only[aC]at hz;subst hz;rw[<-bI hb];exact⟨hlt,hi _ _ _ hv⟩
 |false=>rw[hb]at hz;exact hs.sg.2 s z hz
theorem dB.A9 {G:Gl} {Z:Sg} {O:List aq} {N:Nat} (i:Nat) {x y:aq} (hi:nth O i=some x) (hids:y.ids=x.ids) (hok:∀w A,x.ok w A->y.ok w A):dB G N Z O Z (O.set i y):=λF w a hs=>by
 have hsplit:O=O.take i++x::O.drop (i+1):=by
  rw[cA]at hi;obtain⟨hlt,hx⟩:=b9.1 hi;rw[<-hx,List.getElem_cons_drop hlt,BK]
 have hset:O.set i y=O.take i++y::O.drop (i+1):=by
  rw[cA]at hi;obtain⟨hlt,hx⟩:=b9.1 hi;rw[List.set_eq_take_append_cons_drop,bq hlt]
 have hI:ids (O.set i y)=ids O:=by
  rw[hset]
  conv=>rhs;rw[hsplit]
  simp only[cd,cv,hids]
 have hA:Al F (O.set i y)=Al F O:=by funext b;simp only[Al,hI]
 refine⟨⟨by rw[hA];exact hs.sg,⟨λz hz=>?_,by rw[hI];exact hs.hp.nodup,by rw[hI];exact hs.hp.free,hs.hp.bound,by rw[hA];exact hs.hp.fX⟩,hs.df⟩,by rw[hI];exactλ_ h=>h⟩;rw[hA];rw[hset]at hz;have hmem:∀z,z∈O↔z∈O.take i++x::O.drop (i+1):=λz=>by rw[<-hsplit]
 simp only[bO,b6]at hz hmem;rcases hz with hz|rfl|hz
 ·exact hs.hp.dR z ((hmem z).2 (.inl hz))
 ·exact hok _ _ (hs.hp.dR x ((hmem x).2 (.inr (.inl rfl))))
 ·exact hs.hp.dR z ((hmem z).2 (.inr (.inr hz)))
theorem DC.uG (t:Nat) {x y:AV} (ht:Z.get t=some (.d x)) (hi:bV x y) (h:DC E N K c Q (Tr.put 24 Z t (some (.d y))) O):DC E N K c Q Z O:=λW ZB ηB hs hh=>by
 obtain⟨z,h1,h2⟩:=hs t _ ht;simp only[aG]at h2;subst h2;exact bH.iW (dB.slot t h1 hi) (h W _ ηB (hs.put (some t) (x:= .d y) (y:=y) rfl) hh)
theorem ak.uG (t:Nat) {x y:AV} (ht:Z.get t=some (.d x)) (hi:bV x y) (h:ak E N K (.code c::k) Q (Tr.put 24 Z t (some (.d y))) O):ak E N K (.code c::k) Q Z O:=by
 unfold ak at h⊢;simp only[dq]at h⊢;exact DC.uG t ht hi h
theorem DC.iR (t e kk:Nat) (ht:Z.get t=some (.d (.v (.slice none 0 0)))) (h:DC E N K c Q (Tr.put 24 Z t (some (.os O.n 0))) (O.push (.row e kk []))):DC E N K c Q Z O:=λW ZB ηB hs hh=>by
 obtain⟨y,h1,h2⟩:=hs t _ ht;simp only[aG]at h2;subst h2;refine bH.iR t e kk h1 ?_;have hdom:=hh.gQ O.n (bS _);have hl:W.le (W.bj O.n 0 (none,0)):=aJ.kP λy hy=>by rw[hdom.2]at hy;cases hy
 have hbn:(W.bj O.n 0 (none,0)).s O.n 0=some (none,0):=by simp[aJ.bj]
 refine bH.mono (h _ _ _ ((hs.mono hl).put (some t) (by simp only[aG];exact⟨_,_,ηB.length,hbn,rfl⟩)) ?_) λ_ _ _ hq=>p9 (hl.toK K) (λ_ _ _ h=>h) hq;refine hh.push hl (λi hi=>by funext m;simp[aJ.bj,hi]) (λ_ _=>rfl) ⟨⟨none,0,by simpa using hbn,by simp⟩,λm hm=>?_⟩;have:m≠0:=by simp at hm;omega
 simp only[aJ.bj,this,and_false,if_false];exact hdom.2 m
theorem ak.iR (t e kk:Nat) (ht:Z.get t=some (.d (.v (.slice none 0 0)))) (h:ak E N K (.code c::k) Q (Tr.put 24 Z t (some (.os O.n 0))) (O.push (.row e kk []))):ak E N K (.code c::k) Q Z O:=by
 unfold ak at h⊢;simp only[dq]at h⊢;exact DC.iR t e kk ht h
theorem bH.bound {C:Cx} {c:Code} {Q:AQ} {Z:Sg} {O:List aq} {N:Nat} (t:Nat) {k:Nat} {rows:List (List AV)} (ht:look Z t=some (.sl k rows)) (h:rows.length<=9223372036854775807->bH C N c Q Z O):bH C N c Q Z O:=λF w0 O0 a w hs hx=>by
 obtain⟨_,hv⟩:=hs.sg.2 t _ ht;refine h ?_ F w0 O0 a w hs hx;simp only[Rel]at hv;rcases hv with⟨rfl,_⟩|⟨b,o,cap,vs,e,h1,h2,h3,_⟩
 ·simp
 ·unfold maxLen at h3;omega
theorem DC.bound (t:Nat) {kk:Nat} {rows:List (List AV)} (ht:Z.get t=some (.d (.sl kk rows))) (h:rows.length<=9223372036854775807->DC E N K c Q Z O):DC E N K c Q Z O:=λW ZB ηB hs hh=>by
 obtain⟨z,h1,h2⟩:=hs t _ ht;simp only[aG]at h2;subst h2;exact bH.bound t h1 λhl=>h hl W ZB ηB hs hh
theorem ak.bound (t:Nat) {kk:Nat} {rows:List (List AV)} (ht:Z.get t=some (.d (.sl kk rows))) (h:rows.length<=9223372036854775807->ak E N K (.code c::k) Q Z O):ak E N K (.code c::k) Q Z O:=by
 unfold ak at h⊢;simp only[dq]at h⊢;exact DC.bound t ht h
def jS:List br->List (Nat×br)->List br
 |es,[]=>es
 |es,(i,x)::r=>jS (eu es i x) r
where eu:List br->Nat->br->List br
 |[],_,_=>[]
 |_::l,0,x=>x::l
 |y::l,i+1,x=>y::eu l i x
theorem FP {m:Nat} {Z:TS}:∀{ts us:List Nat} {l r:List (Nat×CV)},eI m ts Z=some l->eI m us Z=some r->eI m (ts++us) Z=some (l++r)
 |[],_,_,_,h,g=>by simp only[eI,aC]at h;subst h;exact g
 |t::ts,us,l,r,h,g=>by
  simp only[eI]at h;split at h
  ·rename_i x l' h1 h2;split at h
   ·rename_i h0;simp only[aC]at h;subst h;simp only[ke,eI,h1,FP h2 g,h0]
   ·cases h
  ·cases h
def D1 {S:Type} (m:Nat) (ts ks:List Nat) (l0:List (Nat×CV)) (es0:List br) (vs:S->List (Nat×CV)) (hs:S->List (Nat×br)) (J:Nat->S->Prop) (n:Nat) (Z1:TS) (O1:Hp):Prop:=
 ∃n',n'<n/\∃l' es',m<=O1.n/\eI m (ts++ks) Z1=some l'/\kz m O1=some es'/\∃s:S,l'=l0++vs s/\es'=jS es0 (hs s)/\J n' s
theorem aar {m:Nat} {l:List br} (h:kz m O=some l):l.length=m:=(Cf h).1
theorem sJ:∀(l:List br) (i:Nat) (x:br),(jS.eu l i x).length=l.length
 |[],_,_=>rfl
 |_::l,0,_=>rfl
 |y::l,i+1,x=>by simp[jS.eu,sJ l i x]
theorem Po:∀(r:List (Nat×br)) (l:List br),(jS l r).length=l.length
 |[],_=>rfl
 |(i,x)::r,l=>by rw[jS,Po r,sJ]
theorem ak.aeP {S:Type} (m:Nat) (ts ks:List Nat) (vs:S->List (Nat×CV)) (hs:S->List (Nat×br)) (J:Nat->S->Prop) (n:Nat) (s0:S) {l0:List (Nat×CV)} {es:List br} (hm:O.n=m) (hK:Nat.ble K m=true) (hp0:eI m ts Z=some l0) (hp:eI m ks Z=some (vs s0)) (he:kz m O=some es) (hes:es=jS es (hs s0)) (h0:J n s0)
  (round:∀n s,J n s->ak E N K (.code c:: .lp (D1 m ts ks l0 es vs hs J n)::k) Q (pJ (l0++vs s)) ⟨nW 0 (jS es (hs s)),m⟩):ak E N K (.code (.loop c)::k) Q Z O:=by
 subst hm;exact ak.loop (ts++ks) O.n (λq l' es'=>∃s:S,l'=l0++vs s/\es'=jS es (hs s)/\J q s) n (dL hK) (bS _) (FP hp0 hp) he ⟨s0,rfl,hes,h0⟩ (by
  rintro q l' es' ⟨s,rfl,rfl,hj⟩;have:=round q s hj;have hl:(jS es (hs s)).length=O.n:=by rw[Po,aar he]
  unfold iG;rw[hl];exact this)
theorem ak.aeQ {S:Type} {m:Nat} {ts ks:List Nat} {l0:List (Nat×CV)} {es0:List br} {vs:S->List (Nat×CV)} {hs:S->List (Nat×br)} {J:Nat->S->Prop} {n:Nat} (s':S) (n':Nat) (hm:Nat.ble m O.n=true) (hp0:eI m ts Z=some l0) (hp:eI m ks Z=some (vs s')) (he:kz m O=some (jS es0 (hs s'))) (hn:n'<n) (hj:J n' s'):
  ak E N K (.lp (D1 m ts ks l0 es0 vs hs J n)::k) Q Z O:=
 ak.lp ⟨n',hn,_,_,dL hm,FP hp0 hp,he,s',rfl,rfl,hj⟩
end
theorem aV:eqs []:=trivial
theorem fp {a b:Nat} {r:List (Nat×Nat)} (h:a=b) (k:eqs r):eqs ((a,b)::r):=⟨h,k⟩
def Uz (Z:TS):Op->Bool
 | .call {callee:= .builtin .append,args:=as,argTypes:=_}=>match as.toList with
  | .tmp t::_=>match Z.get t with
   |some (.os _ _)=>true
   |_=>false
  |_=>false
 |_=>false
def rF (Z:TS):List It->Bool
 | .code (.region _ _ true)::_=>true
 | .ops _ (o::_)::_=>Uz Z o.op
 | .tl _ ((_,o,.one)::_) _ _ _::_=>Uz Z o.op
 |_=>false
def ds (P:Program) (G:Gl) (T:bZ):Nat->Nat->Nat->List It->TS->Hp->List (Nat×Nat)->Out
 |0,N,K,todo,Z,O,ns=> .stuck N K todo Z O ns
 |f+1,N,K,todo,Z,O,ns=>match rF Z todo with
  |true=> .stuck N K todo Z O ns
  |false=>match step P G T nL (λ_ _=>none) f N K todo Z O ns with
   | .go N' K' todo' Z' O' ns'=>ds P G T f N' K' todo' Z' O' ns'
   | .out o=>o
section
variable {E:Env}
variable {Q:DQ} {N K N' K':Nat} {todo todo' t1 t2:List It} {Z Z' s1 s2:TS} {O O':Hp} {ns:List (Nat×Nat)}
theorem Ok.stuck (hn:eqs ns) (k:ak E N' K' todo' Q Z' O'):Out.ok E Q (.stuck N' K' todo' Z' O' ns):=⟨hn,k⟩
theorem Ok.cond {b:Bool} (hn:eqs ns) (k1:b=true->ak E N' K' t1 Q s1 O') (k2:b=false->ak E N' K' t2 Q s2 O'):Out.ok E Q (.cond b N' K' t1 s1 t2 s2 O' ns):=⟨hn,k1,k2⟩
theorem Ok.fin {e:DE} (hn:eqs ns) (k:Q e Z' O'):Out.ok E Q (.fin e Z' O' ns):=⟨hn,k⟩
theorem Ok.val {o:Oper} {all rest:List Oper} {k:List It} {x:CV} (hn:eqs ns) (hg:o.guard=none) (hd:cw N' o.dst=true) (h:bd E N' o Z' O' x) (hk:ak E N' K' (.ops all rest::k) Q (bW Z' o.dst x) O'):Out.ok E Q (.stuck N' K' (.ops all (o::rest)::k) Z' O' ns):=
 ⟨hn,ak.val hg hd h hk⟩
theorem Ok.DK {o:Oper} {all pre:List Oper} {tl:List (Nat×Oper×TK)} {A:bN} {L:List (Nat×List CV)} {k:List It} {x:CV} (hn:eqs ns) (hd:cw N' o.dst=true) (hw:cM all o Z'=some true) (hf:lP o L=true) (h:bd E N' o Z' O' x) (hk:ak E N' K' (.lex all tl A pre L::k) Q (bW Z' o.dst x) O'):
  Out.ok E Q (.stuck N' K' (.lex all tl A (o::pre) L::k) Z' O' ns):=⟨hn,ak.DK hd hw hf h hk⟩
theorem Ok.open {id:Nat} {l:List Oper} {k:List It} (pre:List Nat) (tl:List (Nat×TK)) (al:List Nat) {A:bN} (hn:eqs ns) (hm:E.P.follows .mixedOrders=true) (hA:mT E.T l.toArray N' al=some A) (hB:oY l.toArray pre tl al=true) (hl:Nat.beq (fV l.toArray pre).length pre.length=true)
  (h:ak E N' K' (.lex l (jJ l.toArray tl) A (fV l.toArray pre) []::k) Q Z' O'):Out.ok E Q (.stuck N' K' (.code (.region id l.toArray true)::k) Z' O' ns):=⟨hn,ak.aeO pre tl al A hm hA hB hl h⟩
end
section
variable {E:Env} {Q:DQ} {N K:Nat} {Z:TS} {O:Hp} {o:Oper} {all:List Oper} {k:List It} {x:CV} {l:List (Nat×Oper×TK)} {A:bN} {pend:List (Nat×Oper×CV)} {fs:List (Nat×List AV×AV)} {i:Nat} {ns:List (Nat×Nat)}
theorem bp.call {dst:Option Nat} {f:Operand} {args:List Operand} {g:FuncId} {cs:List CV} {xs:List AV} {res:AV} {tys:Array TypeId} {ty:TypeId} {pos:String} {after:Array Edge} {gd:Option (Nat×Bool)} (h:Pure E.toCx g xs (.ret res)) (hc:dz Z f args=some (g,cs)) (hx:fL cs=some xs):
  bp E N ⟨dst,.call {callee:= .value f,args:=args.toArray,argTypes:=tys},ty,pos,after,gd⟩ Z (.d res):=λW s ηB hs=>by
 obtain⟨ys,h1,h2⟩:=nh hs hc;have:=mr hx h2;subst this;exact⟨res,rfl,bP.pure rfl h h1⟩
theorem bp.idx {t:TypeId} {p ix:Operand} {e kk sz by':Nat} {z:List Value} {rows:List (List AV)} {r:List AV} {kd:IntKind} {m:Int} (j:Nat) (ho:o.op= .indexAddr t p ix) (hp:aW Z p=some (.d (.sl kk rows)))
  (ht:aZ E.T t=some ⟨.slice e kk,sz,by',z⟩) (hix:aW Z ix=some (.d (.v (.int kd m)))) (hm:m=(j:Int)) (hr:rows[j]? =some r):bp E N o Z (.d (.ip r)):=λW s ηB hs=>by
 obtain⟨y,h1,h2⟩:=bY hs hp;simp only[aG]at h2;subst h2;obtain⟨y',h4,h5⟩:=bY hs hix;simp only[aG]at h5;subst h5;subst hm;refine⟨.ip r,rfl,bP.dV (E:=E) ?_⟩;have hnat:lW (some (.v (.int kd (j:Int))))=some j:=rfl;rw[ho];simp only[Bw.dV,h1,h4,hnat,ht,v7,cA,hr]
theorem bp.ew {y:AV} (h:ew E.P (dj Z) o.op=some y):bp E N o Z (.d y):=λW s ηB hs=>⟨y,rfl,(bP.ew h).mono λ_ _ _ hy=>kv hs hy⟩
theorem aE.nil:aE E N all [] Z O:=λp hp=>by cases hp
theorem aE.cons {r:List (Nat×Oper×CV)} (hw:cM all o Z=some true) (h:bd E N o Z O x) (hr:aE E N all r Z O):aE E N all ((i,o,x)::r) Z O:=λp hp=>by
 rcases b6.1 hp with rfl|hp
 ·exact .inl ⟨hw,h⟩
 ·exact hr p hp
theorem aE.skip {r:List (Nat×Oper×CV)} (hw:cM all o Z=some false) (hr:aE E N all r Z O):aE E N all ((i,o,.d (.v undef))::r) Z O:=λp hp=>by
 rcases b6.1 hp with rfl|hp
 ·exact .inr ⟨hw,rfl⟩
 ·exact hr p hp
theorem bd.dK {cl:Bool} (h:dK E.P E.G E.T cl Z O o.op=some (x,ns)) (hn:eqs ns):bd E N o Z O x:=xE h hn
theorem ak.afk (hp:aE E N all pend Z O) (hd:cw N o.dst=true) (hw:cM all o Z=some true) (hv:bp E N o Z x) (h:ak E N K (.tl all l A pend fs::k) Q (bW Z o.dst x) O):ak E N K (.tl all ((i,o,.fl)::l) A pend fs::k) Q Z O:=
 λhf=>cE.st hp hd (.inl ⟨hw,hv⟩) (h hf)
theorem ak.afl (hp:aE E N all pend Z O) (hd:cw N o.dst=true) (hw:cM all o Z=some true) (hv:bd E N o Z O x) (h:ak E N K (.tl all l A ((i,o,x)::pend) fs::k) Q (bW Z o.dst x) O):ak E N K (.tl all ((i,o,.fl)::l) A pend fs::k) Q Z O:=
 λhf=>cE.fl hp hd (.inl ⟨hw,hv⟩) (h hf)
theorem ak.aeq (hm:E.P.follows .mixedOrders=true) (hp:aE E N all pend Z O) (h:Nx.ok E Q (xF E.P E.G E.T nL (λ_ _=>none) N K all l A pend fs k Z O [] (.out (.stuck N K (.tl all l A pend fs::k) Z O [])))):ak E N K (.tl all l A pend fs::k) Q Z O:=
 (Oy (c:=nL) (nest:=λ_ _=>none) (λg xs z hz=>by cases hz) (λg x h=>by cases h) (λ_=>hp) h (λh=>h)).2
theorem M7 {α:Type} {f:α->List AV}:∀{l:List α},(∀x∈l,fb [f x]=true)->fb (l.map f)=true
 |[],_=>rfl
 |x::l,h=>by
  have h1:=h x (by simp);have h2:=M7 (l:=l) λy hy=>h y (by simp[hy]);simp only[fb,kH,List.all_nil,rQ,dg]at h1 h2⊢;rw[h1,h2];rfl
theorem DO.dF {rest:List Oper} {i d n j m:Nat} {s p:Operand} {t:TypeId} {ty:TypeId} {pos:String} {after:Array Edge} {e e' kk sz by' sz' by'':Nat} {z z':List Value} {td':TD} {rows rows2:List (List AV)}
  (hs':aW Z s=some (.os i n)) (hi:O.e.get i=some (.row e kk rows)) (hn:n=rows.length) (hx:aW Z p=some (.os j m)) (hj:O.e.get j=some (.row e' kk rows2)) (hm:m=rows2.length) (ht:aZ E.T t=some ⟨.slice e kk,sz,by',z⟩) (hte:aZ E.T e=some ⟨td',sz',by'',z'⟩) (h1:fb rows2=true)
  (hk:Nat.ble 1 kk=true) (hby:Nat.ble 1 by''=true) (hd:Nat.blt d N=true) (hb:(rows++rows2).length*by''<=140737488355328)
  (k1:ak E N K (.ops all rest::k) Q (bW Z (some d) (.os i (rows++rows2).length)) (O.set i (.row e kk (rows++rows2)))):
  ak E N K (.ops all (⟨some d,.call {callee:= .builtin .append,args:= #[s,p],argTypes:= #[t,t]},ty,pos,after,none⟩::rest)::k) Q Z O:=
 DO.append hb hs' hi hn (.row hx hj hm) ht hte h1 hk hby hd k1
theorem ak.qW {R:DR->Hp->Prop} {Z1:TS} {O1:Hp} (hp:aE E N all pend Z O) (hnd:fe ((dH (cq all.toArray i A)).map (·.1))=true) (hd:cw N o.dst=true) (cI:eG (dH (cq all.toArray i A)) Z O=(Z1,O1)) (hw:cM all o Z1=some true) (h:bK E N o Z1 O1 R)
  (k1:∀x O',R (.ret x) O'->ak E N K (.tl all l (cB all.toArray i A) (cP all i pend) fs::k) Q (bW Z1 o.dst x) O') (k2:∀x O',R (.aO x) O'->False):ak E N K (.tl all ((i,o,.one)::l) A pend fs::k) Q Z O:=
 λhf=>cE.nV hp hnd hd cI hw h (λx O' hR=>k1 x O' hR hf) (λx O' hR=>(k2 x O' hR).elim)
variable {N' K':Nat} {todo':List It} {Z':TS} {O':Hp}
theorem Nx.aeN (hn:eqs ns) (h:ak E N' K' todo' Q Z' O'):Nx.ok E Q (.go N' K' todo' Z' O' ns):=⟨hn,h⟩
end
section
variable {E:Env} {Q:DQ} {N K:Nat} {Z:TS} {O:Hp} {o:Oper} {all:List Oper} {k:List It} {x:CV}
theorem bp.toP (h:bp E N o Z x):bd E N o Z O x:=λW s ηB hs _=>h W s ηB hs
theorem bp.dV {y:AV} (h:dV E.P E.T (dj Z) o.op=some y):bp E N o Z (.d y):=λW s ηB hs=>⟨y,rfl,(bP.dV h).mono λ_ _ _ hy=>kv hs hy⟩
def nM (Z:TS) (dflt:Nat):Option Operand->Option Nat
 |none=>some dflt
 |some p=>match aW Z p with
  |some (.d y)=>lW (some y)
  |_=>none
theorem Qw {d n:Nat} {p:Option Operand} (h:nM Z d p=some n):iY (dj Z) d p=some n:=by
 cases p with
 |none=>exact h
 |some p=>
  simp only[nM]at h;split at h
  ·rename_i y hy;show lW (ev (dj Z) p)=some n;rw[jH hy];exact h
  ·cases h
theorem bp.part {t:TypeId} {p:Operand} {lo hi:Option Operand} {e kk sz by':Nat} {z:List Value} {rows:List (List AV)} (l h:Nat) (ho:o.op= .slice t p lo hi none) (hp:aW Z p=some (.d (.sl kk rows))) (ht:aZ E.T t=some ⟨.slice e kk,sz,by',z⟩)
  (hl:nM Z 0 lo=some l) (hh:nM Z rows.length hi=some h) (h1:l<=h) (h2:h<=rows.length):bp E N o Z (.d (.sl kk ((rows.take h).drop l))):=
 bp.dV (by
  rw[ho];simp only[Bw.dV,jH hp,ht,Qw hl,Qw hh];have:(Nat.beq kk kk&&Nat.ble l h&&Nat.ble h rows.length)=true:=by simp[h1,h2]
  rw[this])
theorem bp.HW {t:TypeId} {p ix:Operand} {b:ByteArray} {c:UInt8} {sz by':Nat} {z:List Value} {kd:IntKind} {m:Int} (j:Nat) (ho:o.op= .index t p ix) (hp:aW Z p=some (.d (.v (.string b))))
  (ht:aZ E.T t=some ⟨.str,sz,by',z⟩) (hix:aW Z ix=some (.d (.v (.int kd m)))) (hm:m=(j:Int)) (hr:b.data.toList[j]? =some c):bp E N o Z (.d (.v (.int .u8 c.toNat))):=
 bp.dV (by
  subst hm;rw[ho];simp only[Bw.dV,jH hp,jH hix,ht];have:lW (some (.v (.int kd (j:Int))))=some j:=rfl;rw[this];have h2:nth b.data.toList j=some c:=by rw[cA];exact hr
  show(match nth b.data.toList j with|some c=>some (AV.v (.int .u8 (c.toNat:Int)))|none=>none)=_;rw[h2])
theorem bp.Xe {t:TypeId} {p q:Operand} {yt:TypeId} {xs ys:List AV} {fs:Array Field} {c:Bool} (ho:o.op= .binOp .eql t p q yt) (hp:aW Z p=some (.d (.agg xs))) (hq:aW Z q=some (.d (.agg ys))) (ht:yE E.P t xs.length=true) (hu:E.P.underlying t=some (.struct fs)) (hc:px E.P fs.toList xs ys=some c):bp E N o Z (.d (.v (.bool c))):=
 bp.dV (by rw[ho];simp only[Bw.dV,jH hp,jH hq,ht,hu,hc])
theorem bp.aep {t:TypeId} {p q:Operand} {yt:TypeId} {a b:Bool} (ho:o.op= .binOp .neq t p q yt) (hu:E.P.underlying t=some .bool) (hp:aW Z p=some (.d (.v (.bool a)))) (hq:aW Z q=some (.d (.v (.bool b)))):bp E N o Z (.d (.v (.bool (!(a==b))))):=
 bp.ew (by rw[ho];simp only[Bw.ew,hu,jH hp,jH hq,ub,pr])
theorem bp.max2 {p q:Operand} {tys:Array TypeId} {kd kd':IntKind} {a b:Int} (ho:o.op= .call {callee:= .builtin .max,args:= #[p,q],argTypes:=tys}) (hp:aW Z p=some (.d (.v (.int kd a)))) (hq:aW Z q=some (.d (.v (.int kd' b)))):bp E N o Z (.d (.v (.int kd (if b>a then b else a)))):=
 bp.ew (by rw[ho];simp only[Bw.ew,jH hp,jH hq,py])
theorem bp.min2 {p q:Operand} {tys:Array TypeId} {kd kd':IntKind} {a b:Int} (ho:o.op= .call {callee:= .builtin .min,args:= #[p,q],argTypes:=tys}) (hp:aW Z p=some (.d (.v (.int kd a)))) (hq:aW Z q=some (.d (.v (.int kd' b)))):bp E N o Z (.d (.v (.int kd (if b<a then b else a)))):=
 bp.ew (by rw[ho];simp only[Bw.ew,jH hp,jH hq,py])
