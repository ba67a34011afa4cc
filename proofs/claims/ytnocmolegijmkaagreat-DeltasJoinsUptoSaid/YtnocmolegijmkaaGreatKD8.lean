/- The abstract machine, eighth part: the driver's lemmas for walks with open values. -/
import Derived.Test.YtnocmolegijmkaaGreatKD7
set_option linter.all false
noncomputable section
namespace Go.Bw
open Go
def pc:gz:=⟨false,λ_=>false,λ_=>false,λ_=>false,λ_=>none,λ_=>none,[]⟩
section
variable {E:Env} {Q:DQ} {N K N' K':Nat} {todo todo' t1 t2:List It} {O O' s1 s2:TS} {L L':Hp} {ns:List (Nat×Nat)}
def Ws:gz:=⟨true,λ_=>false,λ_=>false,λ_=>false,λ_=>none,λ_=>none,[]⟩
theorem aeK (hm:E.P.follows .mixedOrders=true) (f:Nat) {e:DE} (h:dx E.P E.G E.T Ws f N K todo O L []= .fin e O' L' []) (k:Q e O' L'):ao E N K todo Q O L:=
 (Kr hm Ws (λf hf=>by cases hf) (λf ty z h=>by cases h) (λg x h=>by cases h) f Q N K todo O L [] (by rw[h];exact⟨trivial,k⟩)).2
theorem Pure.walk {g:FuncId} {fn:Func} {c:Code} {xs:List AV} {rs:List ResultVar} {nt:Nat} {res:AR} (hf:E.P.funcs[g]? =some fn) (hb:fn.body=some c) (hname:(fn.name== "runtime.NumGoroutine")=false) (hrs:fn.results=rs.toArray) (hnt:fn.ntmps=nt) (hn:Nat.ble xs.length nt=true)
  (h:ao E nt 0 [.code c] (RD E.T rs (Ends 60 res)) (jy 0 (xs.map .d)) Hp.nil):Pure E.toCx g xs res:=Pure.YX 60 (gm.enter hf hb hname rs hrs nt hnt (by simpa using hn) h)
end
section
variable {E:Env} {Q:DQ} {N K:Nat} {O:TS} {L:Hp} {o:Oper} {all rest:List Oper} {k:List It} {x:CV}
theorem ao.val (hg:o.guard=none) (hd:cP N o.dst=true) (h:bl E N o O L x) (hk:ao E N K (.ops all rest::k) Q (cv O o.dst x) L):ao E N K (.ops all (o::rest)::k) Q O L:=DO.qW hg hd h hk
theorem ao.agC {id:Nat} {l:List Oper} (pre:List Nat) (tl:List (Nat×TK)) (al:List Nat) (A:b6) (hm:E.P.follows .mixedOrders=true) (hA:oy E.T l.toArray N al=some A) (hB:qd l.toArray pre tl al=true) (hl:Nat.beq (gT l.toArray pre).length pre.length=true)
  (h:ao E N K (.lex l (kU l.toArray tl) A (gT l.toArray pre) []::k) Q O L):ao E N K (.code (.region id l.toArray true)::k) Q O L:=DC.open pre tl al A hm hA hB hl h
theorem ao.Fz {A:b6} {tl:List (Nat×Oper×TK)} {pre:List Oper} {W:List (Nat×List CV)} (hd:cP N o.dst=true) (hw:cZ all o O=some true) (hf:mT o W=true) (h:bl E N o O L x) (hk:ao E N K (.lex all tl A pre W::k) Q (cv O o.dst x) L):ao E N K (.lex all tl A (o::pre) W::k) Q O L:=eP.val hd hw hf h hk
theorem kS {p:Operand} {y:AV} (h:aY O p=some (.d y)):ev (dS O) p=some y:=by
 cases p with
 |tmp t=>
  have h:O.get t=some (.d y):=h;show dS O t=some y;unfold dS;rw[h]
 |const v=>cases h;rfl
 |global g=>cases h;rfl
 |func f=>cases h;rfl
end
section
variable {E:Env} {Q:DQ} {N K:Nat} {O:TS} {L:Hp} {o:Oper} {all rest:List Oper} {k:List It}
end
theorem get_map {D β:Type} {f:D->β} {xs:List D} {i:Nat} {x:D} (h:xs[i]? =some x):(xs.map f)[i]? =some (f x):=by rw[iL,h];rfl
section
variable {E:Env} {Q:DQ} {N K:Nat} {O:TS} {L:Hp} {k:List It} {S:Type}
end
theorem cz.of {x y:AV} (h:x=y):cz x y:=h▸cz.refl x
section
variable {E:Env} {Q:DQ} {N K:Nat} {O:TS} {L:Hp} {o:Oper} {all rest:List Oper} {k:List It} {x:CV} {c:Code}
theorem RD.aim {rs:List ResultVar} {xs:List CV} {z y:AV} {ns:List (Nat×Nat)} {ms:List (Nat×bC)} (h:eX E.T O L rs=some xs) (hf:cF L.e 60 [fY xs]=some ([z],ns,ms)) (hn:eqs ns) (e:cz z y):RD E.T rs (Ends 60 (.ret y)) .ret O L:=⟨xs,h,z,ns,ms,hf,hn,y,rfl,e⟩
theorem RD.agA {rs:List ResultVar} {xs:List CV} {z y:AV} {ns:List (Nat×Nat)} {ms:List (Nat×bC)} (h:eX E.T O L rs=some xs) (hf:cF L.e 60 [fY xs]=some ([z],ns,ms)) (hn:eqs ns) (e:cz z y):RD E.T rs (Ends 60 (.ret y)) .norm O L:=⟨xs,h,z,ns,ms,hf,hn,y,rfl,e⟩
theorem RD.ain {rs:List ResultVar} {x:CV} {z y:AV} {ns:List (Nat×Nat)} {ms:List (Nat×bC)} (hf:cF L.e 60 [x]=some ([z],ns,ms)) (hn:eqs ns) (e:cz z y):RD E.T rs (Ends 60 (.aT y)) (.aT x) O L:=⟨z,ns,ms,hf,hn,y,rfl,e⟩
theorem fm.slot {G:Gl} {O:Sg} {L:List aq} {N:Nat} (t:Nat) {x y:AV} (ht:look O t=some x) (hi:cz x y):fm G N O L ((t,y)::O) L:=λF w a hs=>by
 obtain⟨hlt,hv⟩:=hs.sg.2 t _ ht;refine⟨⟨⟨hs.sg.1,λs z hz=>?_⟩,hs.hp,hs.df⟩,λ_ h=>h⟩;simp only[look]at hz;cases hb:Nat.beq t s with
 |true=>rw[hb]at hz;simp only[aE]at hz;subst hz;rw[<-bQ hb];exact⟨hlt,hi _ _ _ hv⟩
 |false=>rw[hb]at hz;exact hs.sg.2 s z hz
theorem fm.qU {G:Gl} {O:Sg} {L:List aq} {N:Nat} (i:Nat) {x y:aq} (hi:nth L i=some x) (hids:y.ids=x.ids) (hok:∀w A,x.ok w A->y.ok w A):fm G N O L O (L.set i y):=λF w a hs=>by
 have hsplit:L=L.take i++x::L.drop (i+1):=by
  rw[cM]at hi;obtain⟨hlt,hx⟩:=cr.1 hi;rw[<-hx,List.getElem_cons_drop hlt,Dx]
 have hset:L.set i y=L.take i++y::L.drop (i+1):=by
  rw[cM]at hi;obtain⟨hlt,hx⟩:=cr.1 hi;rw[List.set_eq_take_append_cons_drop,bg hlt]
 have hI:ids (L.set i y)=ids L:=by
  rw[hset]
  conv=>rhs;rw[hsplit]
  simp only[cB,cJ,hids]
 have hA:Al F (L.set i y)=Al F L:=by funext b;simp only[Al,hI]
 refine⟨⟨by rw[hA];exact hs.sg,⟨λz hz=>?_,by rw[hI];exact hs.hp.nodup,by rw[hI];exact hs.hp.free,hs.hp.bound,by rw[hA];exact hs.hp.gK⟩,hs.df⟩,by rw[hI];exactλ_ h=>h⟩;rw[hA];rw[hset]at hz;have hmem:∀z,z∈L↔z∈L.take i++x::L.drop (i+1):=λz=>by rw[<-hsplit]
 simp only[b7,cq]at hz hmem;rcases hz with hz|rfl|hz
 ·exact hs.hp.eG z ((hmem z).2 (.inl hz))
 ·exact hok _ _ (hs.hp.eG x ((hmem x).2 (.inr (.inl rfl))))
 ·exact hs.hp.eG z ((hmem z).2 (.inr (.inr hz)))
theorem DC.v7 (t:Nat) {x y:AV} (ht:O.get t=some (.d x)) (hi:cz x y) (h:DC E N K c Q (Tr.put 24 O t (some (.d y))) L):DC E N K c Q O L:=λZ σB LB hs hh=>by
 obtain⟨z,h1,h2⟩:=hs t _ ht;simp only[aK]at h2;subst h2;exact cm.lQ (fm.slot t h1 hi) (h Z _ LB (hs.put (some t) (x:= .d y) (y:=y) rfl) hh)
theorem ao.v7 (t:Nat) {x y:AV} (ht:O.get t=some (.d x)) (hi:cz x y) (h:ao E N K (.code c::k) Q (Tr.put 24 O t (some (.d y))) L):ao E N K (.code c::k) Q O L:=by
 unfold ao at h⊢;simp only[dq]at h⊢;exact DC.v7 t ht hi h
theorem DC.jW (t e kk:Nat) (ht:O.get t=some (.d (.v (.slice none 0 0)))) (h:DC E N K c Q (Tr.put 24 O t (some (.os L.n 0))) (L.push (.row e kk []))):DC E N K c Q O L:=λZ σB LB hs hh=>by
 obtain⟨y,h1,h2⟩:=hs t _ ht;simp only[aK]at h2;subst h2;refine cm.jW t e kk h1 ?_;have hdom:=hh.iX L.n (bX _);have hl:Z.le (Z.bm L.n 0 (none,0)):=aN.mb λy hy=>by rw[hdom.2]at hy;cases hy
 have hbn:(Z.bm L.n 0 (none,0)).s L.n 0=some (none,0):=by simp[aN.bm]
 refine cm.mono (h _ _ _ ((hs.mono hl).put (some t) (by simp only[aK];exact⟨_,_,LB.length,hbn,rfl⟩)) ?_) λ_ _ _ hq=>rm (hl.toK K) (λ_ _ _ h=>h) hq;refine hh.push hl (λi hi=>by funext m;simp[aN.bm,hi]) (λ_ _=>rfl) ⟨⟨none,0,by simpa using hbn,by simp⟩,λm hm=>?_⟩;have:m≠0:=by simp at hm;omega
 simp only[aN.bm,this,and_false,if_false];exact hdom.2 m
theorem ao.jW (t e kk:Nat) (ht:O.get t=some (.d (.v (.slice none 0 0)))) (h:ao E N K (.code c::k) Q (Tr.put 24 O t (some (.os L.n 0))) (L.push (.row e kk []))):ao E N K (.code c::k) Q O L:=by
 unfold ao at h⊢;simp only[dq]at h⊢;exact DC.jW t e kk ht h
def kA:List bC->List (Nat×bC)->List bC
 |es,[]=>es
 |es,(i,x)::r=>kA (fh es i x) r
where fh:List bC->Nat->bC->List bC
 |[],_,_=>[]
 |_::l,0,x=>x::l
 |y::l,i+1,x=>y::fh l i x
theorem HT {m:Nat} {O:TS}:∀{ts us:List Nat} {l r:List (Nat×CV)},fC m ts O=some l->fC m us O=some r->fC m (ts++us) O=some (l++r)
 |[],_,_,_,h,g=>by simp only[fC,aE]at h;subst h;exact g
 |t::ts,us,l,r,h,g=>by
  simp only[fC]at h;split at h
  ·rename_i x l' h1 h2;split at h
   ·rename_i h0;simp only[aE]at h;subst h;simp only[ko,fC,h1,HT h2 g,h0]
   ·cases h
  ·cases h
def AF {S:Type} (m:Nat) (ts ks:List Nat) (l0:List (Nat×CV)) (es0:List bC) (vs:S->List (Nat×CV)) (hs:S->List (Nat×bC)) (J:Nat->S->Prop) (n:Nat) (O1:TS) (L1:Hp):Prop:=
 ∃n',n'<n/\∃l' es',m<=L1.n/\fC m (ts++ks) O1=some l'/\mf m L1=some es'/\∃s:S,l'=l0++vs s/\es'=kA es0 (hs s)/\J n' s
theorem ach {m:Nat} {l:List bC} (h:mf m L=some l):l.length=m:=(D5 h).1
theorem um:∀(l:List bC) (i:Nat) (x:bC),(kA.fh l i x).length=l.length
 |[],_,_=>rfl
 |_::l,0,_=>rfl
 |y::l,i+1,x=>by simp[kA.fh,um l i x]
theorem Ra:∀(r:List (Nat×bC)) (l:List bC),(kA l r).length=l.length
 |[],_=>rfl
 |(i,x)::r,l=>by rw[kA,Ra r,um]
theorem ao.agD {S:Type} (m:Nat) (ts ks:List Nat) (vs:S->List (Nat×CV)) (hs:S->List (Nat×bC)) (J:Nat->S->Prop) (n:Nat) (s0:S) {l0:List (Nat×CV)} {es:List bC} (hm:L.n=m) (hK:Nat.ble K m=true) (hp0:fC m ts O=some l0) (hp:fC m ks O=some (vs s0)) (he:mf m L=some es) (hes:es=kA es (hs s0)) (h0:J n s0)
  (round:∀n s,J n s->ao E N K (.code c:: .lp (AF m ts ks l0 es vs hs J n)::k) Q (qV (l0++vs s)) ⟨qT 0 (kA es (hs s)),m⟩):ao E N K (.code (.loop c)::k) Q O L:=by
 subst hm;exact ao.loop (ts++ks) L.n (λq l' es'=>∃s:S,l'=l0++vs s/\es'=kA es (hs s)/\J q s) n (eH hK) (bX _) (HT hp0 hp) he ⟨s0,rfl,hes,h0⟩ (by
  rintro q l' es' ⟨s,rfl,rfl,hj⟩;have:=round q s hj;have hl:(kA es (hs s)).length=L.n:=by rw[Ra,ach he]
  unfold jH;rw[hl];exact this)
theorem ao.agE {S:Type} {m:Nat} {ts ks:List Nat} {l0:List (Nat×CV)} {es0:List bC} {vs:S->List (Nat×CV)} {hs:S->List (Nat×bC)} {J:Nat->S->Prop} {n:Nat} (s':S) (n':Nat) (hm:Nat.ble m L.n=true) (hp0:fC m ts O=some l0) (hp:fC m ks O=some (vs s')) (he:mf m L=some (kA es0 (hs s'))) (hn:n'<n) (hj:J n' s'):
  ao E N K (.lp (AF m ts ks l0 es0 vs hs J n)::k) Q O L:=
 ao.lp ⟨n',hn,_,_,eH hm,HT hp0 hp,he,s',rfl,rfl,hj⟩
end
theorem aW:eqs []:=trivial
theorem gR {a b:Nat} {r:List (Nat×Nat)} (h:a=b) (k:eqs r):eqs ((a,b)::r):=⟨h,k⟩
def Wr (O:TS):Op->Bool
 | .call {callee:= .builtin .append,args:=as,argTypes:=_}=>match as.toList with
  | .tmp t::_=>match O.get t with
   |some (.os _ _)=>true
   |_=>false
  |_=>false
 |_=>false
def th (O:TS):List It->Bool
 | .code (.region _ _ true)::_=>true
 | .ops _ (o::_)::_=>Wr O o.op
 | .tl _ ((_,o,.one)::_) _ _ _::_=>Wr O o.op
 |_=>false
def ds (P:Program) (G:Gl) (T:cn):Nat->Nat->Nat->List It->TS->Hp->List (Nat×Nat)->Out
 |0,N,K,todo,O,L,ns=> .stuck N K todo O L ns
 |f+1,N,K,todo,O,L,ns=>match th O todo with
  |true=> .stuck N K todo O L ns
  |false=>match step P G T pc (λ_ _=>none) f N K todo O L ns with
   | .go N' K' todo' O' L' ns'=>ds P G T f N' K' todo' O' L' ns'
   | .out o=>o
section
variable {E:Env}
variable {Q:DQ} {N K N' K':Nat} {todo todo' t1 t2:List It} {O O' s1 s2:TS} {L L':Hp} {ns:List (Nat×Nat)}
theorem Ok.stuck (hn:eqs ns) (k:ao E N' K' todo' Q O' L'):Out.ok E Q (.stuck N' K' todo' O' L' ns):=⟨hn,k⟩
theorem Ok.fin {e:DE} (hn:eqs ns) (k:Q e O' L'):Out.ok E Q (.fin e O' L' ns):=⟨hn,k⟩
theorem Ok.val {o:Oper} {all rest:List Oper} {k:List It} {x:CV} (hn:eqs ns) (hg:o.guard=none) (hd:cP N' o.dst=true) (h:bl E N' o O' L' x) (hk:ao E N' K' (.ops all rest::k) Q (cv O' o.dst x) L'):Out.ok E Q (.stuck N' K' (.ops all (o::rest)::k) O' L' ns):=
 ⟨hn,ao.val hg hd h hk⟩
theorem Ok.Fz {o:Oper} {all pre:List Oper} {tl:List (Nat×Oper×TK)} {A:b6} {W:List (Nat×List CV)} {k:List It} {x:CV} (hn:eqs ns) (hd:cP N' o.dst=true) (hw:cZ all o O'=some true) (hf:mT o W=true) (h:bl E N' o O' L' x) (hk:ao E N' K' (.lex all tl A pre W::k) Q (cv O' o.dst x) L'):
  Out.ok E Q (.stuck N' K' (.lex all tl A (o::pre) W::k) O' L' ns):=⟨hn,ao.Fz hd hw hf h hk⟩
theorem Ok.open {id:Nat} {l:List Oper} {k:List It} (pre:List Nat) (tl:List (Nat×TK)) (al:List Nat) {A:b6} (hn:eqs ns) (hm:E.P.follows .mixedOrders=true) (hA:oy E.T l.toArray N' al=some A) (hB:qd l.toArray pre tl al=true) (hl:Nat.beq (gT l.toArray pre).length pre.length=true)
  (h:ao E N' K' (.lex l (kU l.toArray tl) A (gT l.toArray pre) []::k) Q O' L'):Out.ok E Q (.stuck N' K' (.code (.region id l.toArray true)::k) O' L' ns):=⟨hn,ao.agC pre tl al A hm hA hB hl h⟩
end
section
variable {E:Env} {Q:DQ} {N K:Nat} {O:TS} {L:Hp} {o:Oper} {all:List Oper} {k:List It} {x:CV} {l:List (Nat×Oper×TK)} {A:b6} {pend:List (Nat×Oper×CV)} {fs:List (Nat×List AV×AV)} {i:Nat} {ns:List (Nat×Nat)}
theorem bE.call {dst:Option Nat} {f:Operand} {args:List Operand} {g:FuncId} {cs:List CV} {xs:List AV} {res:AV} {tys:Array TypeId} {ty:TypeId} {pos:String} {after:Array Edge} {gd:Option (Nat×Bool)} (h:Pure E.toCx g xs (.ret res)) (hc:eI O f args=some (g,cs)) (hx:iT cs=some xs):
  bE E N ⟨dst,.call {callee:= .value f,args:=args.toArray,argTypes:=tys},ty,pos,after,gd⟩ O (.d res):=λZ s LB hs=>by
 obtain⟨ys,h1,h2⟩:=rb hs hc;have:=pK hx h2;subst this;exact⟨res,rfl,ck.pure rfl h h1⟩
theorem bE.idx {t:TypeId} {p ix:Operand} {e kk sz by':Nat} {z:List Value} {rows:List (List AV)} {r:List AV} {kd:IntKind} {m:Int} (j:Nat) (ho:o.op= .indexAddr t p ix) (hp:aY O p=some (.d (.sl kk rows)))
  (ht:bc E.T t=some ⟨.slice e kk,sz,by',z⟩) (hix:aY O ix=some (.d (.v (.int kd m)))) (hm:m=(j:Int)) (hr:rows[j]? =some r):bE E N o O (.d (.ip r)):=λZ s LB hs=>by
 obtain⟨y,h1,h2⟩:=cu hs hp;simp only[aK]at h2;subst h2;obtain⟨y',h4,h5⟩:=cu hs hix;simp only[aK]at h5;subst h5;subst hm;refine⟨.ip r,rfl,ck.eS (E:=E) ?_⟩;have hnat:ox (some (.v (.int kd (j:Int))))=some j:=rfl;rw[ho];simp only[Bw.eS,h1,h4,hnat,ht,DF,cM,hr]
theorem bE.fi {y:AV} (h:fi E.P (dS O) o.op=some y):bE E N o O (.d y):=λZ s LB hs=>⟨y,rfl,(ck.fi h).mono λ_ _ _ hy=>lL hs hy⟩
theorem aJ.nil:aJ E N all [] O L:=λp hp=>by cases hp
theorem aJ.cons {r:List (Nat×Oper×CV)} (hw:cZ all o O=some true) (h:bl E N o O L x) (hr:aJ E N all r O L):aJ E N all ((i,o,x)::r) O L:=λp hp=>by
 rcases cq.1 hp with rfl|hp
 ·exact .inl ⟨hw,h⟩
 ·exact hr p hp
theorem aJ.skip {r:List (Nat×Oper×CV)} (hw:cZ all o O=some false) (hr:aJ E N all r O L):aJ E N all ((i,o,.d (.v undef))::r) O L:=λp hp=>by
 rcases cq.1 hp with rfl|hp
 ·exact .inr ⟨hw,rfl⟩
 ·exact hr p hp
theorem bl.eA {cl:Bool} (h:eA E.P E.G E.T cl O L o.op=some (x,ns)) (hn:eqs ns):bl E N o O L x:=Af h hn
theorem ao.aip (hp:aJ E N all pend O L) (hd:cP N o.dst=true) (hw:cZ all o O=some true) (hv:bE E N o O x) (h:ao E N K (.tl all l A pend fs::k) Q (cv O o.dst x) L):ao E N K (.tl all ((i,o,.fl)::l) A pend fs::k) Q O L:=
 λhf=>cV.st hp hd (.inl ⟨hw,hv⟩) (h hf)
theorem ao.aiq (hp:aJ E N all pend O L) (hd:cP N o.dst=true) (hw:cZ all o O=some true) (hv:bl E N o O L x) (h:ao E N K (.tl all l A ((i,o,x)::pend) fs::k) Q (cv O o.dst x) L):ao E N K (.tl all ((i,o,.fl)::l) A pend fs::k) Q O L:=
 λhf=>cV.fl hp hd (.inl ⟨hw,hv⟩) (h hf)
theorem ao.af6 (hm:E.P.follows .mixedOrders=true) (hp:aJ E N all pend O L) (h:Nx.ok E Q (Ah E.P E.G E.T pc (λ_ _=>none) N K all l A pend fs k O L [] (.out (.stuck N K (.tl all l A pend fs::k) O L [])))):ao E N K (.tl all l A pend fs::k) Q O L:=
 (Qh (c:=pc) (nest:=λ_ _=>none) (λg xs z hz=>by cases hz) (λg x h=>by cases h) (λ_=>hp) h (λh=>h)).2
theorem O0 {D:Type} {f:D->List AV}:∀{l:List D},(∀x∈l,fU [f x]=true)->fU (l.map f)=true
 |[],_=>rfl
 |x::l,h=>by
  have h1:=h x (by simp);have h2:=O0 (l:=l) λy hy=>h y (by simp[hy]);simp only[fU,lx,List.all_nil,q8,dp]at h1 h2⊢;rw[h1,h2];rfl
theorem DO.dV {rest:List Oper} {i d n j m:Nat} {s p:Operand} {t:TypeId} {ty:TypeId} {pos:String} {after:Array Edge} {e e' kk sz by' sz' by'':Nat} {z z':List Value} {td':TD} {rows rows2:List (List AV)}
  (hs':aY O s=some (.os i n)) (hi:L.e.get i=some (.row e kk rows)) (hn:n=rows.length) (hx:aY O p=some (.os j m)) (hj:L.e.get j=some (.row e' kk rows2)) (hm:m=rows2.length) (ht:bc E.T t=some ⟨.slice e kk,sz,by',z⟩) (hte:bc E.T e=some ⟨td',sz',by'',z'⟩) (h1:fU rows2=true)
  (hk:Nat.ble 1 kk=true) (hby:Nat.ble 1 by''=true) (hd:Nat.blt d N=true) (hb:(rows++rows2).length*by''<=140737488355328)
  (k1:ao E N K (.ops all rest::k) Q (cv O (some d) (.os i (rows++rows2).length)) (L.set i (.row e kk (rows++rows2)))):
  ao E N K (.ops all (⟨some d,.call {callee:= .builtin .append,args:= #[s,p],argTypes:= #[t,t]},ty,pos,after,none⟩::rest)::k) Q O L:=
 DO.append hb hs' hi hn (.row hx hj hm) ht hte h1 hk hby hd k1
theorem ao.sr {R:DR->Hp->Prop} {O1:TS} {L1:Hp} (hp:aJ E N all pend O L) (hnd:fW ((eh (cD all.toArray i A)).map (·.1))=true) (hd:cP N o.dst=true) (cU:fB (eh (cD all.toArray i A)) O L=(O1,L1)) (hw:cZ all o O1=some true) (h:b5 E N o O1 L1 R)
  (k1:∀x L',R (.ret x) L'->ao E N K (.tl all l (cO all.toArray i A) (dg all i pend) fs::k) Q (cv O1 o.dst x) L') (k2:∀x L',R (.aT x) L'->False):ao E N K (.tl all ((i,o,.one)::l) A pend fs::k) Q O L:=
 λhf=>cV.pw hp hnd hd cU hw h (λx L' hR=>k1 x L' hR hf) (λx L' hR=>(k2 x L' hR).elim)
variable {N' K':Nat} {todo':List It} {O':TS} {L':Hp}
theorem Nx.agB (hn:eqs ns) (h:ao E N' K' todo' Q O' L'):Nx.ok E Q (.go N' K' todo' O' L' ns):=⟨hn,h⟩
end
section
variable {E:Env} {Q:DQ} {N K:Nat} {O:TS} {L:Hp} {o:Oper} {all:List Oper} {k:List It} {x:CV}
theorem bE.toP (h:bE E N o O x):bl E N o O L x:=λZ s LB hs _=>h Z s LB hs
theorem bE.eS {y:AV} (h:eS E.P E.T (dS O) o.op=some y):bE E N o O (.d y):=λZ s LB hs=>⟨y,rfl,(ck.eS h).mono λ_ _ _ hy=>lL hs hy⟩
def pd (O:TS) (dflt:Nat):Option Operand->Option Nat
 |none=>some dflt
 |some p=>match aY O p with
  |some (.d y)=>ox (some y)
  |_=>none
theorem Ss {d n:Nat} {p:Option Operand} (h:pd O d p=some n):jZ (dS O) d p=some n:=by
 cases p with
 |none=>exact h
 |some p=>
  simp only[pd]at h;split at h
  ·rename_i y hy;show ox (ev (dS O) p)=some n;rw[kS hy];exact h
  ·cases h
theorem bE.part {t:TypeId} {p:Operand} {lo hi:Option Operand} {e kk sz by':Nat} {z:List Value} {rows:List (List AV)} (l h:Nat) (ho:o.op= .slice t p lo hi none) (hp:aY O p=some (.d (.sl kk rows))) (ht:bc E.T t=some ⟨.slice e kk,sz,by',z⟩)
  (hl:pd O 0 lo=some l) (hh:pd O rows.length hi=some h) (h1:l<=h) (h2:h<=rows.length):bE E N o O (.d (.sl kk ((rows.take h).drop l))):=
 bE.eS (by
  rw[ho];simp only[Bw.eS,kS hp,ht,Ss hl,Ss hh];have:(Nat.beq kk kk&&Nat.ble l h&&Nat.ble h rows.length)=true:=by simp[h1,h2]
  rw[this])
theorem bE.UH {t:TypeId} {p ix:Operand} {b:ByteArray} {c:UInt8} {sz by':Nat} {z:List Value} {kd:IntKind} {m:Int} (j:Nat) (ho:o.op= .index t p ix) (hp:aY O p=some (.d (.v (.string b))))
  (ht:bc E.T t=some ⟨.str,sz,by',z⟩) (hix:aY O ix=some (.d (.v (.int kd m)))) (hm:m=(j:Int)) (hr:b.data.toList[j]? =some c):bE E N o O (.d (.v (.int .u8 c.toNat))):=
 bE.eS (by
  subst hm;rw[ho];simp only[Bw.eS,kS hp,kS hix,ht];have:ox (some (.v (.int kd (j:Int))))=some j:=rfl;rw[this];have h2:nth b.data.toList j=some c:=by rw[cM];exact hr
  show(match nth b.data.toList j with|some c=>some (AV.v (.int .u8 (c.toNat:Int)))|none=>none)=_;rw[h2])
theorem bE.YW {t:TypeId} {p q:Operand} {yt:TypeId} {xs ys:List AV} {fs:Array Field} {c:Bool} (ho:o.op= .binOp .eql t p q yt) (hp:aY O p=some (.d (.agg xs))) (hq:aY O q=some (.d (.agg ys))) (ht:AS E.P t xs.length=true) (hu:E.P.underlying t=some (.struct fs)) (hc:qF E.P fs.toList xs ys=some c):bE E N o O (.d (.v (.bool c))):=
 bE.eS (by rw[ho];simp only[Bw.eS,kS hp,kS hq,ht,hu,hc])
theorem bE.af5 {t:TypeId} {p q:Operand} {yt:TypeId} {a b:Bool} (ho:o.op= .binOp .neq t p q yt) (hu:E.P.underlying t=some .bool) (hp:aY O p=some (.d (.v (.bool a)))) (hq:aY O q=some (.d (.v (.bool b)))):bE E N o O (.d (.v (.bool (!(a==b))))):=
 bE.fi (by rw[ho];simp only[Bw.fi,hu,kS hp,kS hq,vq,qB])
theorem bE.max2 {p q:Operand} {tys:Array TypeId} {kd kd':IntKind} {a b:Int} (ho:o.op= .call {callee:= .builtin .max,args:= #[p,q],argTypes:=tys}) (hp:aY O p=some (.d (.v (.int kd a)))) (hq:aY O q=some (.d (.v (.int kd' b)))):bE E N o O (.d (.v (.int kd (if b>a then b else a)))):=
 bE.fi (by rw[ho];simp only[Bw.fi,kS hp,kS hq,qG])
theorem bE.min2 {p q:Operand} {tys:Array TypeId} {kd kd':IntKind} {a b:Int} (ho:o.op= .call {callee:= .builtin .min,args:= #[p,q],argTypes:=tys}) (hp:aY O p=some (.d (.v (.int kd a)))) (hq:aY O q=some (.d (.v (.int kd' b)))):bE E N o O (.d (.v (.int kd (if b<a then b else a)))):=
 bE.fi (by rw[ho];simp only[Bw.fi,kS hp,kS hq,qG])
