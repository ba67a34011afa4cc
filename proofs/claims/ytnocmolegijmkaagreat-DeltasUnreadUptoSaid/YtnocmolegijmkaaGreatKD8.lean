/- The abstract machine, eighth part: the driver's lemmas for walks with open values. -/
import Derived.Test.YtnocmolegijmkaaGreatKD7
set_option linter.all false
noncomputable section
namespace Go.Bw
open Go
def oG:gk:=⟨false,λ_=>false,λ_=>false,λ_=>false,λ_=>none,λ_=>none,[]⟩
section
variable {E:Env} {Q:DQ} {N K N' K':Nat} {todo todo' t1 t2:List It} {O O' s1 s2:TS} {L L':Hp} {ns:List (Nat×Nat)}
def XK:gk:=⟨true,λ_=>false,λ_=>false,λ_=>false,λ_=>none,λ_=>none,[]⟩
theorem aeS (hm:E.P.follows .mixedOrders=true) (f:Nat) {e:DE} (h:dx E.P E.G E.T XK f N K todo O L []= .fin e O' L' []) (k:Q e O' L'):au E N K todo Q O L:=
 (J5 hm XK (λf hf=>by cases hf) (λf ty z h=>by cases h) (λg x h=>by cases h) f Q N K todo O L [] (by rw[h];exact⟨trivial,k⟩)).2
theorem Pure.walk {g:FuncId} {fn:Func} {c:Code} {xs:List AV} {rs:List ResultVar} {nt:Nat} {res:AR} (hf:E.P.funcs[g]? =some fn) (hb:fn.body=some c) (hname:(fn.name== "runtime.NumGoroutine")=false) (hrs:fn.results=rs.toArray) (hnt:fn.ntmps=nt) (hn:Nat.ble xs.length nt=true)
  (h:au E nt 0 [.code c] (RD E.T rs (Ends 60 res)) (jd 0 (xs.map .d)) Hp.nil):Pure E.toCx g xs res:=Pure.Z2 60 (fY.enter hf hb hname rs hrs nt hnt (by simpa using hn) h)
end
section
variable {E:Env} {Q:DQ} {N K:Nat} {O:TS} {L:Hp} {o:Oper} {all rest:List Oper} {k:List It} {x:CV}
theorem au.val (hg:o.guard=none) (hd:cK N o.dst=true) (h:bh E N o O L x) (hk:au E N K (.ops all rest::k) Q (cj O o.dst x) L):au E N K (.ops all (o::rest)::k) Q O L:=DO.qy hg hd h hk
theorem au.agQ {id:Nat} {l:List Oper} (pre:List Nat) (tl:List (Nat×TK)) (al:List Nat) (A:bS) (hm:E.P.follows .mixedOrders=true) (hA:nN E.T l.toArray N al=some A) (hB:pO l.toArray pre tl al=true) (hl:Nat.beq (gI l.toArray pre).length pre.length=true)
  (h:au E N K (.lex l (kz l.toArray tl) A (gI l.toArray pre) []::k) Q O L):au E N K (.code (.region id l.toArray true)::k) Q O L:=DC.open pre tl al A hm hA hB hl h
theorem au.Fk {A:bS} {tl:List (Nat×Oper×TK)} {pre:List Oper} {W:List (Nat×List CV)} (hd:cK N o.dst=true) (hw:cX all o O=some true) (hf:mx o W=true) (h:bh E N o O L x) (hk:au E N K (.lex all tl A pre W::k) Q (cj O o.dst x) L):au E N K (.lex all tl A (o::pre) W::k) Q O L:=eI.val hd hw hf h hk
theorem kx {p:Operand} {y:AV} (h:aX O p=some (.d y)):ev (dK O) p=some y:=by
 cases p with
 |tmp t=>
  have h:O.get t=some (.d y):=h;show dK O t=some y;unfold dK;rw[h]
 |const v=>cases h;rfl
 |global g=>cases h;rfl
 |func f=>cases h;rfl
end
section
variable {E:Env} {Q:DQ} {N K:Nat} {O:TS} {L:Hp} {o:Oper} {all rest:List Oper} {k:List It}
end
theorem get_map {D β:Type} {f:D->β} {xs:List D} {i:Nat} {x:D} (h:xs[i]? =some x):(xs.map f)[i]? =some (f x):=by rw[km,h];rfl
section
variable {E:Env} {Q:DQ} {N K:Nat} {O:TS} {L:Hp} {k:List It} {S:Type}
end
theorem cq.of {x y:AV} (h:x=y):cq x y:=h▸cq.refl x
section
variable {E:Env} {Q:DQ} {N K:Nat} {O:TS} {L:Hp} {o:Oper} {all rest:List Oper} {k:List It} {x:CV} {c:Code}
theorem RD.aiq {rs:List ResultVar} {xs:List CV} {z y:AV} {ns:List (Nat×Nat)} {ms:List (Nat×bz)} (h:eP E.T O L rs=some xs) (hf:cz L.e 60 [fN xs]=some ([z],ns,ms)) (hn:eqs ns) (e:cq z y):RD E.T rs (Ends 60 (.ret y)) .ret O L:=⟨xs,h,z,ns,ms,hf,hn,y,rfl,e⟩
theorem RD.agO {rs:List ResultVar} {xs:List CV} {z y:AV} {ns:List (Nat×Nat)} {ms:List (Nat×bz)} (h:eP E.T O L rs=some xs) (hf:cz L.e 60 [fN xs]=some ([z],ns,ms)) (hn:eqs ns) (e:cq z y):RD E.T rs (Ends 60 (.ret y)) .norm O L:=⟨xs,h,z,ns,ms,hf,hn,y,rfl,e⟩
theorem RD.air {rs:List ResultVar} {x:CV} {z y:AV} {ns:List (Nat×Nat)} {ms:List (Nat×bz)} (hf:cz L.e 60 [x]=some ([z],ns,ms)) (hn:eqs ns) (e:cq z y):RD E.T rs (Ends 60 (.aS y)) (.aS x) O L:=⟨z,ns,ms,hf,hn,y,rfl,e⟩
theorem eZ.slot {G:Gl} {O:Sg} {L:List aw} {N:Nat} (t:Nat) {x y:AV} (ht:look O t=some x) (hi:cq x y):eZ G N O L ((t,y)::O) L:=λF w a hs=>by
 obtain⟨hlt,hv⟩:=hs.sg.2 t _ ht;refine⟨⟨⟨hs.sg.1,λs z hz=>?_⟩,hs.hp,hs.df⟩,λ_ h=>h⟩;simp only[look]at hz;cases hb:Nat.beq t s with
 |true=>rw[hb]at hz;simp only[aD]at hz;subst hz;rw[<-bK hb];exact⟨hlt,hi _ _ _ hv⟩
 |false=>rw[hb]at hz;exact hs.sg.2 s z hz
theorem eZ.Cl {G:Gl} {O:Sg} {L:List aw} {N:Nat} (i:Nat) {x y:aw} (hi:nth L i=some x) (hids:y.ids=x.ids) (hok:∀w A,x.ok w A->y.ok w A):eZ G N O L O (L.set i y):=λF w a hs=>by
 have hsplit:L=L.take i++x::L.drop (i+1):=by
  rw[cG]at hi;obtain⟨hlt,hx⟩:=cr.1 hi;rw[<-hx,List.getElem_cons_drop hlt,Dk]
 have hset:L.set i y=L.take i++y::L.drop (i+1):=by
  rw[cG]at hi;obtain⟨hlt,hx⟩:=cr.1 hi;rw[List.set_eq_take_append_cons_drop,bf hlt]
 have hI:ids (L.set i y)=ids L:=by
  rw[hset]
  conv=>rhs;rw[hsplit]
  simp only[cu,cC,hids]
 have hA:Al F (L.set i y)=Al F L:=by funext b;simp only[Al,hI]
 refine⟨⟨by rw[hA];exact hs.sg,⟨λz hz=>?_,by rw[hI];exact hs.hp.nodup,by rw[hI];exact hs.hp.free,hs.hp.bound,by rw[hA];exact hs.hp.cm⟩,hs.df⟩,by rw[hI];exactλ_ h=>h⟩;rw[hA];rw[hset]at hz;have hmem:∀z,z∈L↔z∈L.take i++x::L.drop (i+1):=λz=>by rw[<-hsplit]
 simp only[bU,ck]at hz hmem;rcases hz with hz|rfl|hz
 ·exact hs.hp.eo z ((hmem z).2 (.inl hz))
 ·exact hok _ _ (hs.hp.eo x ((hmem x).2 (.inr (.inl rfl))))
 ·exact hs.hp.eo z ((hmem z).2 (.inr (.inr hz)))
theorem DC.vC (t:Nat) {x y:AV} (ht:O.get t=some (.d x)) (hi:cq x y) (h:DC E N K c Q (Tr.put 24 O t (some (.d y))) L):DC E N K c Q O L:=λZ OB LB hs hh=>by
 obtain⟨z,h1,h2⟩:=hs t _ ht;simp only[aK]at h2;subst h2;exact b7.ln (eZ.slot t h1 hi) (h Z _ LB (hs.put (some t) (x:= .d y) (y:=y) rfl) hh)
theorem au.vC (t:Nat) {x y:AV} (ht:O.get t=some (.d x)) (hi:cq x y) (h:au E N K (.code c::k) Q (Tr.put 24 O t (some (.d y))) L):au E N K (.code c::k) Q O L:=by
 unfold au at h⊢;simp only[dq]at h⊢;exact DC.vC t ht hi h
theorem DC.jF (t e kk:Nat) (ht:O.get t=some (.d (.v (.slice none 0 0)))) (h:DC E N K c Q (Tr.put 24 O t (some (.os L.n 0))) (L.push (.row e kk []))):DC E N K c Q O L:=λZ OB LB hs hh=>by
 obtain⟨y,h1,h2⟩:=hs t _ ht;simp only[aK]at h2;subst h2;refine b7.jF t e kk h1 ?_;have hdom:=hh.iJ L.n (bW _);have hl:Z.le (Z.bj L.n 0 (none,0)):=aN.lO λy hy=>by rw[hdom.2]at hy;cases hy
 have hbn:(Z.bj L.n 0 (none,0)).s L.n 0=some (none,0):=by simp[aN.bj]
 refine b7.mono (h _ _ _ ((hs.mono hl).put (some t) (by simp only[aK];exact⟨_,_,LB.length,hbn,rfl⟩)) ?_) λ_ _ _ hq=>qP (hl.toK K) (λ_ _ _ h=>h) hq;refine hh.push hl (λi hi=>by funext m;simp[aN.bj,hi]) (λ_ _=>rfl) ⟨⟨none,0,by simpa using hbn,by simp⟩,λm hm=>?_⟩;have:m≠0:=by simp at hm;omega
 simp only[aN.bj,this,and_false,if_false];exact hdom.2 m
theorem au.jF (t e kk:Nat) (ht:O.get t=some (.d (.v (.slice none 0 0)))) (h:au E N K (.code c::k) Q (Tr.put 24 O t (some (.os L.n 0))) (L.push (.row e kk []))):au E N K (.code c::k) Q O L:=by
 unfold au at h⊢;simp only[dq]at h⊢;exact DC.jF t e kk ht h
def kG:List bz->List (Nat×bz)->List bz
 |es,[]=>es
 |es,(i,x)::r=>kG (eW es i x) r
where eW:List bz->Nat->bz->List bz
 |[],_,_=>[]
 |_::l,0,x=>x::l
 |y::l,i+1,x=>y::eW l i x
theorem Hy {m:Nat} {O:TS}:∀{ts us:List Nat} {l r:List (Nat×CV)},fO m ts O=some l->fO m us O=some r->fO m (ts++us) O=some (l++r)
 |[],_,_,_,h,g=>by simp only[fO,aD]at h;subst h;exact g
 |t::ts,us,l,r,h,g=>by
  simp only[fO]at h;split at h
  ·rename_i x l' h1 h2;split at h
   ·rename_i h0;simp only[aD]at h;subst h;simp only[jR,fO,h1,Hy h2 g,h0]
   ·cases h
  ·cases h
def FE {S:Type} (m:Nat) (ts ks:List Nat) (l0:List (Nat×CV)) (es0:List bz) (vs:S->List (Nat×CV)) (hs:S->List (Nat×bz)) (J:Nat->S->Prop) (n:Nat) (O1:TS) (L1:Hp):Prop:=
 ∃n',n'<n/\∃l' es',m<=L1.n/\fO m (ts++ks) O1=some l'/\mH m L1=some es'/\∃s:S,l'=l0++vs s/\es'=kG es0 (hs s)/\J n' s
theorem aci {m:Nat} {l:List bz} (h:mH m L=some l):l.length=m:=(DU h).1
theorem tK:∀(l:List bz) (i:Nat) (x:bz),(kG.eW l i x).length=l.length
 |[],_,_=>rfl
 |_::l,0,_=>rfl
 |y::l,i+1,x=>by simp[kG.eW,tK l i x]
theorem Sr:∀(r:List (Nat×bz)) (l:List bz),(kG l r).length=l.length
 |[],_=>rfl
 |(i,x)::r,l=>by rw[kG,Sr r,tK]
theorem au.agR {S:Type} (m:Nat) (ts ks:List Nat) (vs:S->List (Nat×CV)) (hs:S->List (Nat×bz)) (J:Nat->S->Prop) (n:Nat) (s0:S) {l0:List (Nat×CV)} {es:List bz} (hm:L.n=m) (hK:Nat.ble K m=true) (hp0:fO m ts O=some l0) (hp:fO m ks O=some (vs s0)) (he:mH m L=some es) (hes:es=kG es (hs s0)) (h0:J n s0)
  (round:∀n s,J n s->au E N K (.code c:: .lp (FE m ts ks l0 es vs hs J n)::k) Q (qx (l0++vs s)) ⟨qw 0 (kG es (hs s)),m⟩):au E N K (.code (.loop c)::k) Q O L:=by
 subst hm;exact au.loop (ts++ks) L.n (λq l' es'=>∃s:S,l'=l0++vs s/\es'=kG es (hs s)/\J q s) n (ep hK) (bW _) (Hy hp0 hp) he ⟨s0,rfl,hes,h0⟩ (by
  rintro q l' es' ⟨s,rfl,rfl,hj⟩;have:=round q s hj;have hl:(kG es (hs s)).length=L.n:=by rw[Sr,aci he]
  unfold jq;rw[hl];exact this)
theorem au.agS {S:Type} {m:Nat} {ts ks:List Nat} {l0:List (Nat×CV)} {es0:List bz} {vs:S->List (Nat×CV)} {hs:S->List (Nat×bz)} {J:Nat->S->Prop} {n:Nat} (s':S) (n':Nat) (hm:Nat.ble m L.n=true) (hp0:fO m ts O=some l0) (hp:fO m ks O=some (vs s')) (he:mH m L=some (kG es0 (hs s'))) (hn:n'<n) (hj:J n' s'):
  au E N K (.lp (FE m ts ks l0 es0 vs hs J n)::k) Q O L:=
 au.lp ⟨n',hn,_,_,ep hm,Hy hp0 hp,he,s',rfl,rfl,hj⟩
end
theorem aU:eqs []:=trivial
theorem gG {a b:Nat} {r:List (Nat×Nat)} (h:a=b) (k:eqs r):eqs ((a,b)::r):=⟨h,k⟩
def XJ (O:TS):Op->Bool
 | .call {callee:= .builtin .append,args:=as,argTypes:=_}=>match as.toList with
  | .tmp t::_=>match O.get t with
   |some (.os _ _)=>true
   |_=>false
  |_=>false
 |_=>false
def sH (O:TS):List It->Bool
 | .code (.region _ _ true)::_=>true
 | .ops _ (o::_)::_=>XJ O o.op
 | .tl _ ((_,o,.one)::_) _ _ _::_=>XJ O o.op
 |_=>false
def ds (P:Program) (G:Gl) (T:b8):Nat->Nat->Nat->List It->TS->Hp->List (Nat×Nat)->Out
 |0,N,K,todo,O,L,ns=> .stuck N K todo O L ns
 |f+1,N,K,todo,O,L,ns=>match sH O todo with
  |true=> .stuck N K todo O L ns
  |false=>match step P G T oG (λ_ _=>none) f N K todo O L ns with
   | .go N' K' todo' O' L' ns'=>ds P G T f N' K' todo' O' L' ns'
   | .out o=>o
section
variable {E:Env}
variable {Q:DQ} {N K N' K':Nat} {todo todo' t1 t2:List It} {O O' s1 s2:TS} {L L':Hp} {ns:List (Nat×Nat)}
theorem Ok.stuck (hn:eqs ns) (k:au E N' K' todo' Q O' L'):Out.ok E Q (.stuck N' K' todo' O' L' ns):=⟨hn,k⟩
theorem Ok.fin {e:DE} (hn:eqs ns) (k:Q e O' L'):Out.ok E Q (.fin e O' L' ns):=⟨hn,k⟩
theorem Ok.val {o:Oper} {all rest:List Oper} {k:List It} {x:CV} (hn:eqs ns) (hg:o.guard=none) (hd:cK N' o.dst=true) (h:bh E N' o O' L' x) (hk:au E N' K' (.ops all rest::k) Q (cj O' o.dst x) L'):Out.ok E Q (.stuck N' K' (.ops all (o::rest)::k) O' L' ns):=
 ⟨hn,au.val hg hd h hk⟩
theorem Ok.Fk {o:Oper} {all pre:List Oper} {tl:List (Nat×Oper×TK)} {A:bS} {W:List (Nat×List CV)} {k:List It} {x:CV} (hn:eqs ns) (hd:cK N' o.dst=true) (hw:cX all o O'=some true) (hf:mx o W=true) (h:bh E N' o O' L' x) (hk:au E N' K' (.lex all tl A pre W::k) Q (cj O' o.dst x) L'):
  Out.ok E Q (.stuck N' K' (.lex all tl A (o::pre) W::k) O' L' ns):=⟨hn,au.Fk hd hw hf h hk⟩
theorem Ok.open {id:Nat} {l:List Oper} {k:List It} (pre:List Nat) (tl:List (Nat×TK)) (al:List Nat) {A:bS} (hn:eqs ns) (hm:E.P.follows .mixedOrders=true) (hA:nN E.T l.toArray N' al=some A) (hB:pO l.toArray pre tl al=true) (hl:Nat.beq (gI l.toArray pre).length pre.length=true)
  (h:au E N' K' (.lex l (kz l.toArray tl) A (gI l.toArray pre) []::k) Q O' L'):Out.ok E Q (.stuck N' K' (.code (.region id l.toArray true)::k) O' L' ns):=⟨hn,au.agQ pre tl al A hm hA hB hl h⟩
end
section
variable {E:Env} {Q:DQ} {N K:Nat} {O:TS} {L:Hp} {o:Oper} {all:List Oper} {k:List It} {x:CV} {l:List (Nat×Oper×TK)} {A:bS} {pend:List (Nat×Oper×CV)} {fs:List (Nat×List AV×AV)} {i:Nat} {ns:List (Nat×Nat)}
theorem bA.call {dst:Option Nat} {f:Operand} {args:List Operand} {g:FuncId} {cs:List CV} {xs:List AV} {res:AV} {tys:Array TypeId} {ty:TypeId} {pos:String} {after:Array Edge} {gd:Option (Nat×Bool)} (h:Pure E.toCx g xs (.ret res)) (hc:ew O f args=some (g,cs)) (hx:iG cs=some xs):
  bA E N ⟨dst,.call {callee:= .value f,args:=args.toArray,argTypes:=tys},ty,pos,after,gd⟩ O (.d res):=λZ s LB hs=>by
 obtain⟨ys,h1,h2⟩:=qG hs hc;have:=pe hx h2;subst this;exact⟨res,rfl,bZ.pure rfl h h1⟩
theorem bA.idx {t:TypeId} {p ix:Operand} {e kk sz by':Nat} {z:List Value} {rows:List (List AV)} {r:List AV} {kd:IntKind} {m:Int} (j:Nat) (ho:o.op= .indexAddr t p ix) (hp:aX O p=some (.d (.sl kk rows)))
  (ht:bc E.T t=some ⟨.slice e kk,sz,by',z⟩) (hix:aX O ix=some (.d (.v (.int kd m)))) (hm:m=(j:Int)) (hr:rows[j]? =some r):bA E N o O (.d (.ip r)):=λZ s LB hs=>by
 obtain⟨y,h1,h2⟩:=cg hs hp;simp only[aK]at h2;subst h2;obtain⟨y',h4,h5⟩:=cg hs hix;simp only[aK]at h5;subst h5;subst hm;refine⟨.ip r,rfl,bZ.eK (E:=E) ?_⟩;have hnat:nM (some (.v (.int kd (j:Int))))=some j:=rfl;rw[ho];simp only[Bw.eK,h1,h4,hnat,ht,Dr,cG,hr]
theorem bA.eX {y:AV} (h:eX E.P (dK O) o.op=some y):bA E N o O (.d y):=λZ s LB hs=>⟨y,rfl,(bZ.eX h).mono λ_ _ _ hy=>lb hs hy⟩
theorem aI.nil:aI E N all [] O L:=λp hp=>by cases hp
theorem aI.cons {r:List (Nat×Oper×CV)} (hw:cX all o O=some true) (h:bh E N o O L x) (hr:aI E N all r O L):aI E N all ((i,o,x)::r) O L:=λp hp=>by
 rcases ck.1 hp with rfl|hp
 ·exact .inl ⟨hw,h⟩
 ·exact hr p hp
theorem aI.skip {r:List (Nat×Oper×CV)} (hw:cX all o O=some false) (hr:aI E N all r O L):aI E N all ((i,o,.d (.v undef))::r) O L:=λp hp=>by
 rcases ck.1 hp with rfl|hp
 ·exact .inr ⟨hw,rfl⟩
 ·exact hr p hp
theorem bh.eb {cl:Bool} (h:eb E.P E.G E.T cl O L o.op=some (x,ns)) (hn:eqs ns):bh E N o O L x:=zI h hn
theorem au.ait (hp:aI E N all pend O L) (hd:cK N o.dst=true) (hw:cX all o O=some true) (hv:bA E N o O x) (h:au E N K (.tl all l A pend fs::k) Q (cj O o.dst x) L):au E N K (.tl all ((i,o,.fl)::l) A pend fs::k) Q O L:=
 λhf=>cT.st hp hd (.inl ⟨hw,hv⟩) (h hf)
theorem au.aiu (hp:aI E N all pend O L) (hd:cK N o.dst=true) (hw:cX all o O=some true) (hv:bh E N o O L x) (h:au E N K (.tl all l A ((i,o,x)::pend) fs::k) Q (cj O o.dst x) L):au E N K (.tl all ((i,o,.fl)::l) A pend fs::k) Q O L:=
 λhf=>cT.fl hp hd (.inl ⟨hw,hv⟩) (h hf)
theorem au.agb (hm:E.P.follows .mixedOrders=true) (hp:aI E N all pend O L) (h:Nx.ok E Q (zJ E.P E.G E.T oG (λ_ _=>none) N K all l A pend fs k O L [] (.out (.stuck N K (.tl all l A pend fs::k) O L [])))):au E N K (.tl all l A pend fs::k) Q O L:=
 (Rq (c:=oG) (nest:=λ_ _=>none) (λg xs z hz=>by cases hz) (λg x h=>by cases h) (λ_=>hp) h (λh=>h)).2
theorem Qa {D:Type} {f:D->List AV}:∀{l:List D},(∀x∈l,fJ [f x]=true)->fJ (l.map f)=true
 |[],_=>rfl
 |x::l,h=>by
  have h1:=h x (by simp);have h2:=Qa (l:=l) λy hy=>h y (by simp[hy]);simp only[fJ,kP,List.all_nil,qC,dj]at h1 h2⊢;rw[h1,h2];rfl
theorem DO.dQ {rest:List Oper} {i d n j m:Nat} {s p:Operand} {t:TypeId} {ty:TypeId} {pos:String} {after:Array Edge} {e e' kk sz by' sz' by'':Nat} {z z':List Value} {td':TD} {rows rows2:List (List AV)}
  (hs':aX O s=some (.os i n)) (hi:L.e.get i=some (.row e kk rows)) (hn:n=rows.length) (hx:aX O p=some (.os j m)) (hj:L.e.get j=some (.row e' kk rows2)) (hm:m=rows2.length) (ht:bc E.T t=some ⟨.slice e kk,sz,by',z⟩) (hte:bc E.T e=some ⟨td',sz',by'',z'⟩) (h1:fJ rows2=true)
  (hk:Nat.ble 1 kk=true) (hby:Nat.ble 1 by''=true) (hd:Nat.blt d N=true) (hb:(rows++rows2).length*by''<=140737488355328)
  (k1:au E N K (.ops all rest::k) Q (cj O (some d) (.os i (rows++rows2).length)) (L.set i (.row e kk (rows++rows2)))):
  au E N K (.ops all (⟨some d,.call {callee:= .builtin .append,args:= #[s,p],argTypes:= #[t,t]},ty,pos,after,none⟩::rest)::k) Q O L:=
 DO.append hb hs' hi hn (.row hx hj hm) ht hte h1 hk hby hd k1
theorem au.rR {R:DR->Hp->Prop} {O1:TS} {L1:Hp} (hp:aI E N all pend O L) (hnd:fL ((dX (cw all.toArray i A)).map (·.1))=true) (hd:cK N o.dst=true) (cR:fm (dX (cw all.toArray i A)) O L=(O1,L1)) (hw:cX all o O1=some true) (h:bR E N o O1 L1 R)
  (k1:∀x L',R (.ret x) L'->au E N K (.tl all l (cJ all.toArray i A) (de all i pend) fs::k) Q (cj O1 o.dst x) L') (k2:∀x L',R (.aS x) L'->False):au E N K (.tl all ((i,o,.one)::l) A pend fs::k) Q O L:=
 λhf=>cT.oS hp hnd hd cR hw h (λx L' hR=>k1 x L' hR hf) (λx L' hR=>(k2 x L' hR).elim)
variable {N' K':Nat} {todo':List It} {O':TS} {L':Hp}
theorem Nx.agP (hn:eqs ns) (h:au E N' K' todo' Q O' L'):Nx.ok E Q (.go N' K' todo' O' L' ns):=⟨hn,h⟩
end
section
variable {E:Env} {Q:DQ} {N K:Nat} {O:TS} {L:Hp} {o:Oper} {all:List Oper} {k:List It} {x:CV}
theorem bA.toP (h:bA E N o O x):bh E N o O L x:=λZ s LB hs _=>h Z s LB hs
theorem bA.eK {y:AV} (h:eK E.P E.T (dK O) o.op=some y):bA E N o O (.d y):=λZ s LB hs=>⟨y,rfl,(bZ.eK h).mono λ_ _ _ hy=>lb hs hy⟩
def oH (O:TS) (dflt:Nat):Option Operand->Option Nat
 |none=>some dflt
 |some p=>match aX O p with
  |some (.d y)=>nM (some y)
  |_=>none
theorem TE {d n:Nat} {p:Option Operand} (h:oH O d p=some n):jJ (dK O) d p=some n:=by
 cases p with
 |none=>exact h
 |some p=>
  simp only[oH]at h;split at h
  ·rename_i y hy;show nM (ev (dK O) p)=some n;rw[kx hy];exact h
  ·cases h
theorem bA.part {t:TypeId} {p:Operand} {lo hi:Option Operand} {e kk sz by':Nat} {z:List Value} {rows:List (List AV)} (l h:Nat) (ho:o.op= .slice t p lo hi none) (hp:aX O p=some (.d (.sl kk rows))) (ht:bc E.T t=some ⟨.slice e kk,sz,by',z⟩)
  (hl:oH O 0 lo=some l) (hh:oH O rows.length hi=some h) (h1:l<=h) (h2:h<=rows.length):bA E N o O (.d (.sl kk ((rows.take h).drop l))):=
 bA.eK (by
  rw[ho];simp only[Bw.eK,kx hp,ht,TE hl,TE hh];have:(Nat.beq kk kk&&Nat.ble l h&&Nat.ble h rows.length)=true:=by simp[h1,h2]
  rw[this])
theorem bA.VM {t:TypeId} {p ix:Operand} {b:ByteArray} {c:UInt8} {sz by':Nat} {z:List Value} {kd:IntKind} {m:Int} (j:Nat) (ho:o.op= .index t p ix) (hp:aX O p=some (.d (.v (.string b))))
  (ht:bc E.T t=some ⟨.str,sz,by',z⟩) (hix:aX O ix=some (.d (.v (.int kd m)))) (hm:m=(j:Int)) (hr:b.data.toList[j]? =some c):bA E N o O (.d (.v (.int .u8 c.toNat))):=
 bA.eK (by
  subst hm;rw[ho];simp only[Bw.eK,kx hp,kx hix,ht];have:nM (some (.v (.int kd (j:Int))))=some j:=rfl;rw[this];have h2:nth b.data.toList j=some c:=by rw[cG];exact hr
  show(match nth b.data.toList j with|some c=>some (AV.v (.int .u8 (c.toNat:Int)))|none=>none)=_;rw[h2])
theorem bA.Z1 {t:TypeId} {p q:Operand} {yt:TypeId} {xs ys:List AV} {fs:Array Field} {c:Bool} (ho:o.op= .binOp .eql t p q yt) (hp:aX O p=some (.d (.agg xs))) (hq:aX O q=some (.d (.agg ys))) (ht:Au E.P t xs.length=true) (hu:E.P.underlying t=some (.struct fs)) (hc:qg E.P fs.toList xs ys=some c):bA E N o O (.d (.v (.bool c))):=
 bA.eK (by rw[ho];simp only[Bw.eK,kx hp,kx hq,ht,hu,hc])
theorem bA.aga {t:TypeId} {p q:Operand} {yt:TypeId} {a b:Bool} (ho:o.op= .binOp .neq t p q yt) (hu:E.P.underlying t=some .bool) (hp:aX O p=some (.d (.v (.bool a)))) (hq:aX O q=some (.d (.v (.bool b)))):bA E N o O (.d (.v (.bool (!(a==b))))):=
 bA.eX (by rw[ho];simp only[Bw.eX,hu,kx hp,kx hq,uW,qb])
theorem bA.max2 {p q:Operand} {tys:Array TypeId} {kd kd':IntKind} {a b:Int} (ho:o.op= .call {callee:= .builtin .max,args:= #[p,q],argTypes:=tys}) (hp:aX O p=some (.d (.v (.int kd a)))) (hq:aX O q=some (.d (.v (.int kd' b)))):bA E N o O (.d (.v (.int kd (if b>a then b else a)))):=
 bA.eX (by rw[ho];simp only[Bw.eX,kx hp,kx hq,qh])
theorem bA.min2 {p q:Operand} {tys:Array TypeId} {kd kd':IntKind} {a b:Int} (ho:o.op= .call {callee:= .builtin .min,args:= #[p,q],argTypes:=tys}) (hp:aX O p=some (.d (.v (.int kd a)))) (hq:aX O q=some (.d (.v (.int kd' b)))):bA E N o O (.d (.v (.int kd (if b<a then b else a)))):=
 bA.eX (by rw[ho];simp only[Bw.eX,kx hp,kx hq,qh])
