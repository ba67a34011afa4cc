/- The abstract machine, eighth part: the driver's lemmas for walks with open values. -/
import Derived.Test.YtnocmolegijmkaaGreatKD7
set_option linter.all false
noncomputable section
namespace Go.Bw
open Go
def mB:eP:=⟨false,λ_=>false,λ_=>false,λ_=>false,λ_=>none,λ_=>none,[]⟩
section
variable {E:Env} {Q:DQ} {N K N' K':Nat} {todo todo' t1 t2:List It} {O O' s1 s2:TS} {L L':Hp} {ns:List (Nat×Nat)}
def KK:eP:=⟨true,λ_=>false,λ_=>false,λ_=>false,λ_=>none,λ_=>none,[]⟩
theorem Qj (hm:E.P.follows .mixedOrders=true) (f:Nat) {e:DE} (h:dx E.P E.G E.T KK f N K todo O L []= .fin e O' L' []) (k:Q e O' L'):ao E N K todo Q O L:=
 (CW hm KK (λf hf=>by cases hf) (λf ty z h=>by cases h) (λg x h=>by cases h) f Q N K todo O L [] (by rw[h];exact⟨trivial,k⟩)).2
theorem Pure.walk {g:FuncId} {fn:Func} {c:Code} {xs:List AV} {rs:List ResultVar} {nt:Nat} {res:AR} (hf:E.P.funcs[g]? =some fn) (hb:fn.body=some c) (hname:(fn.name== "runtime.NumGoroutine")=false) (hrs:fn.results=rs.toArray) (hnt:fn.ntmps=nt) (hn:Nat.ble xs.length nt=true)
  (h:ao E nt 0 [.code c] (RD E.T rs (Ends 60 res)) (gx 0 (xs.map .d)) Hp.nil):Pure E.toCx g xs res:=Pure.LZ 60 (eK.enter hf hb hname rs hrs nt hnt (by simpa using hn) h)
end
section
variable {E:Env} {Q:DQ} {N K:Nat} {O:TS} {L:Hp} {o:Oper} {all rest:List Oper} {k:List It} {x:CV}
theorem ao.val (hg:o.guard=none) (hd:b8 N o.dst=true) (h:aR E N o O L x) (hk:ao E N K (.ops all rest::k) Q (bK O o.dst x) L):ao E N K (.ops all (o::rest)::k) Q O L:=DO.nY hg hd h hk
theorem ao.Tw {id:Nat} {l:List Oper} (pre:List Nat) (tl:List (Nat×TK)) (al:List Nat) (A:bp) (hm:E.P.follows .mixedOrders=true) (hA:lY E.T l.toArray N al=some A) (hB:nw l.toArray pre tl al=true) (hl:Nat.beq (fi l.toArray pre).length pre.length=true)
  (h:ao E N K (.lex l (iW l.toArray tl) A (fi l.toArray pre) []::k) Q O L):ao E N K (.code (.region id l.toArray true)::k) Q O L:=DC.open pre tl al A hm hA hB hl h
theorem ao.xq {A:bp} {tl:List (Nat×Oper×TK)} {pre:List Oper} {W:List (Nat×List CV)} (hd:b8 N o.dst=true) (hw:cv all o O=some true) (hf:kQ o W=true) (h:aR E N o O L x) (hk:ao E N K (.lex all tl A pre W::k) Q (bK O o.dst x) L):ao E N K (.lex all tl A (o::pre) W::k) Q O L:=dB.val hd hw hf h hk
theorem nb {p:Operand} {y:AV} (h:aO O p=some (.d y)):ev (dE O) p=some y:=by
 cases p with
 |tmp t=>
  have h:O.get t=some (.d y):=h;show dE O t=some y;unfold dE;rw[h]
 |const v=>cases h;rfl
 |global g=>cases h;rfl
 |func f=>cases h;rfl
end
section
variable {E:Env} {Q:DQ} {N K:Nat} {O:TS} {L:Hp} {o:Oper} {all rest:List Oper} {k:List It}
end
theorem get_map {D β:Type} {f:D->β} {xs:List D} {i:Nat} {x:D} (h:xs[i]? =some x):(xs.map f)[i]? =some (f x):=by rw[pU,h];rfl
section
variable {E:Env} {Q:DQ} {N K:Nat} {O:TS} {L:Hp} {k:List It} {S:Type}
end
theorem bO.of {x y:AV} (h:x=y):bO x y:=h▸bO.refl x
theorem Pure.args {C:Cx} {g:FuncId} {xs ys:List AV} {res:AR} (hi:bS xs ys) (h:Pure C g ys res):Pure C g xs res:=
 ⟨h.1,λF w vs h1 h2=>h.2 F w vs h1 (hi.rel h2)⟩
section
variable {E:Env} {Q:DQ} {N K:Nat} {O:TS} {L:Hp} {o:Oper} {all rest:List Oper} {k:List It} {x:CV} {c:Code}
theorem RD.Ux {rs:List ResultVar} {xs:List CV} {z y:AV} {ns:List (Nat×Nat)} {ms:List (Nat×aT)} (h:dG E.T O L rs=some xs) (hf:bU L.e 60 [ez xs]=some ([z],ns,ms)) (hn:eqs ns) (e:bO z y):RD E.T rs (Ends 60 (.ret y)) .ret O L:=⟨xs,h,z,ns,ms,hf,hn,y,rfl,e⟩
theorem RD.Tu {rs:List ResultVar} {xs:List CV} {z y:AV} {ns:List (Nat×Nat)} {ms:List (Nat×aT)} (h:dG E.T O L rs=some xs) (hf:bU L.e 60 [ez xs]=some ([z],ns,ms)) (hn:eqs ns) (e:bO z y):RD E.T rs (Ends 60 (.ret y)) .norm O L:=⟨xs,h,z,ns,ms,hf,hn,y,rfl,e⟩
theorem RD.Uy {rs:List ResultVar} {x:CV} {z y:AV} {ns:List (Nat×Nat)} {ms:List (Nat×aT)} (hf:bU L.e 60 [x]=some ([z],ns,ms)) (hn:eqs ns) (e:bO z y):RD E.T rs (Ends 60 (.aJ y)) (.aJ x) O L:=⟨z,ns,ms,hf,hn,y,rfl,e⟩
theorem gT.LY {G:Gl} {O:Sg} {L:List aj} {N:Nat} (i:Nat) {x y:aj} (hi:nth L i=some x) (hids:y.ids=x.ids) (hok:∀w A,x.ok w A->y.ok w A):gT G N O L O (L.set i y):=λF w a hs=>by
 have hsplit:L=L.take i++x::L.drop (i+1):=by
  rw[b7]at hi;obtain⟨hlt,hx⟩:=cX.1 hi;rw[<-hx,List.getElem_cons_drop hlt,z6]
 have hset:L.set i y=L.take i++y::L.drop (i+1):=by
  rw[b7]at hi;obtain⟨hlt,hx⟩:=cX.1 hi;rw[List.set_eq_take_append_cons_drop,ck hlt]
 have hI:ids (L.set i y)=ids L:=by
  rw[hset]
  conv=>rhs;rw[hsplit]
  simp only[b5,cy,hids]
 have hA:Al F (L.set i y)=Al F L:=by funext b;simp only[Al,hI]
 refine⟨⟨by rw[hA];exact hs.sg,⟨λz hz=>?_,by rw[hI];exact hs.hp.nodup,by rw[hI];exact hs.hp.free,hs.hp.bound,by rw[hA];exact hs.hp.b0⟩,hs.df⟩,by rw[hI];exactλ_ h=>h⟩;rw[hA];rw[hset]at hz;have hmem:∀z,z∈L↔z∈L.take i++x::L.drop (i+1):=λz=>by rw[<-hsplit]
 simp only[cD,cu]at hz hmem;rcases hz with hz|rfl|hz
 ·exact hs.hp.ec z ((hmem z).2 (.inl hz))
 ·exact hok _ _ (hs.hp.ec x ((hmem x).2 (.inr (.inl rfl))))
 ·exact hs.hp.ec z ((hmem z).2 (.inr (.inr hz)))
theorem DC.gR (t e kk:Nat) (ht:O.get t=some (.d (.v (.slice none 0 0)))) (h:DC E N K c Q (Tr.put 24 O t (some (.os L.n 0))) (L.push (.row e kk []))):DC E N K c Q O L:=λZ OB LB hs hh=>by
 obtain⟨y,h1,h2⟩:=hs t _ ht;simp only[aC]at h2;subst h2;refine bH.gR t e kk h1 ?_;have hdom:=hh.gb L.n (bC _);have hl:Z.le (Z.aQ L.n 0 (none,0)):=aD.ka λy hy=>by rw[hdom.2]at hy;cases hy
 have hbn:(Z.aQ L.n 0 (none,0)).s L.n 0=some (none,0):=by simp[aD.aQ]
 refine bH.mono (h _ _ _ ((hs.mono hl).put (some t) (by simp only[aC];exact⟨_,_,LB.length,hbn,rfl⟩)) ?_) λ_ _ _ hq=>oz (hl.toK K) (λ_ _ _ h=>h) hq;refine hh.push hl (λi hi=>by funext m;simp[aD.aQ,hi]) (λ_ _=>rfl) ⟨⟨none,0,by simpa using hbn,by simp⟩,λm hm=>?_⟩;have:m≠0:=by simp at hm;omega
 simp only[aD.aQ,this,and_false,if_false];exact hdom.2 m
theorem ao.gR (t e kk:Nat) (ht:O.get t=some (.d (.v (.slice none 0 0)))) (h:ao E N K (.code c::k) Q (Tr.put 24 O t (some (.os L.n 0))) (L.push (.row e kk []))):ao E N K (.code c::k) Q O L:=by
 unfold ao at h⊢;simp only[dq]at h⊢;exact DC.gR t e kk ht h
def je:List aT->List (Nat×aT)->List aT
 |es,[]=>es
 |es,(i,x)::r=>je (xX es i x) r
where xX:List aT->Nat->aT->List aT
 |[],_,_=>[]
 |_::l,0,x=>x::l
 |y::l,i+1,x=>y::xX l i x
theorem Ak {m:Nat} {O:TS}:∀{ts us:List Nat} {l r:List (Nat×CV)},eA m ts O=some l->eA m us O=some r->eA m (ts++us) O=some (l++r)
 |[],_,_,_,h,g=>by simp only[eA,ax]at h;subst h;exact g
 |t::ts,us,l,r,h,g=>by
  simp only[eA]at h;split at h
  ·rename_i x l' h1 h2;split at h
   ·rename_i h0;simp only[ax]at h;subst h;simp only[iO,eA,h1,Ak h2 g,h0]
   ·cases h
  ·cases h
def xK {S:Type} (m:Nat) (ts ks:List Nat) (l0:List (Nat×CV)) (es0:List aT) (vs:S->List (Nat×CV)) (hs:S->List (Nat×aT)) (J:Nat->S->Prop) (n:Nat) (O1:TS) (η1:Hp):Prop:=
 ∃n',n'<n/\∃l' es',m<=η1.n/\eA m (ts++ks) O1=some l'/\kV m η1=some es'/\∃s:S,l'=l0++vs s/\es'=je es0 (hs s)/\J n' s
theorem OL {m:Nat} {l:List aT} (h:kV m L=some l):l.length=m:=(vP h).1
theorem Hs:∀(l:List aT) (i:Nat) (x:aT),(je.xX l i x).length=l.length
 |[],_,_=>rfl
 |_::l,0,_=>rfl
 |y::l,i+1,x=>by simp[je.xX,Hs l i x]
theorem Ht:∀(r:List (Nat×aT)) (l:List aT),(je l r).length=l.length
 |[],_=>rfl
 |(i,x)::r,l=>by rw[je,Ht r,Hs]
theorem ao.Tx {S:Type} (m:Nat) (ts ks:List Nat) (vs:S->List (Nat×CV)) (hs:S->List (Nat×aT)) (J:Nat->S->Prop) (n:Nat) (s0:S) {l0:List (Nat×CV)} {es:List aT} (hm:L.n=m) (hK:Nat.ble K m=true) (hp0:eA m ts O=some l0) (hp:eA m ks O=some (vs s0)) (he:kV m L=some es) (hes:es=je es (hs s0)) (h0:J n s0)
  (round:∀n s,J n s->ao E N K (.code c:: .lp (xK m ts ks l0 es vs hs J n)::k) Q (nX (l0++vs s)) ⟨nW 0 (je es (hs s)),m⟩):ao E N K (.code (.loop c)::k) Q O L:=by
 subst hm;exact ao.loop (ts++ks) L.n (λq l' es'=>∃s:S,l'=l0++vs s/\es'=je es (hs s)/\J q s) n (dj hK) (bC _) (Ak hp0 hp) he ⟨s0,rfl,hes,h0⟩ (by
  rintro q l' es' ⟨s,rfl,rfl,hj⟩;have:=round q s hj;have hl:(je es (hs s)).length=L.n:=by rw[Ht,OL he]
  unfold jP;rw[hl];exact this)
theorem ao.Ty {S:Type} {m:Nat} {ts ks:List Nat} {l0:List (Nat×CV)} {es0:List aT} {vs:S->List (Nat×CV)} {hs:S->List (Nat×aT)} {J:Nat->S->Prop} {n:Nat} (s':S) (n':Nat) (hm:Nat.ble m L.n=true) (hp0:eA m ts O=some l0) (hp:eA m ks O=some (vs s')) (he:kV m L=some (je es0 (hs s'))) (hn:n'<n) (hj:J n' s'):
  ao E N K (.lp (xK m ts ks l0 es0 vs hs J n)::k) Q O L:=
 ao.lp ⟨n',hn,_,_,dj hm,Ak hp0 hp,he,s',rfl,rfl,hj⟩
end
theorem aV:eqs []:=trivial
theorem gL {a b:Nat} {r:List (Nat×Nat)} (h:a=b) (k:eqs r):eqs ((a,b)::r):=⟨h,k⟩
def KJ (O:TS):Op->Bool
 | .call {callee:= .builtin .append,args:=as,argTypes:=_}=>match as.toList with
  | .tmp t::_=>match O.get t with
   |some (.os _ _)=>true
   |_=>false
  |_=>false
 |_=>false
def pJ (O:TS):List It->Bool
 | .code (.region _ _ true)::_=>true
 | .ops _ (o::_)::_=>KJ O o.op
 | .tl _ ((_,o,.one)::_) _ _ _::_=>KJ O o.op
 |_=>false
def ds (P:Program) (G:Gl) (T:bD):Nat->Nat->Nat->List It->TS->Hp->List (Nat×Nat)->Out
 |0,N,K,todo,O,L,ns=> .stuck N K todo O L ns
 |f+1,N,K,todo,O,L,ns=>match pJ O todo with
  |true=> .stuck N K todo O L ns
  |false=>match step P G T mB (λ_ _=>none) f N K todo O L ns with
   | .go N' K' todo' O' L' ns'=>ds P G T f N' K' todo' O' L' ns'
   | .out o=>o
section
variable {E:Env}
variable {Q:DQ} {N K N' K':Nat} {todo todo' t1 t2:List It} {O O' s1 s2:TS} {L L':Hp} {ns:List (Nat×Nat)}
theorem Ok.stuck (hn:eqs ns) (k:ao E N' K' todo' Q O' L'):Out.ok E Q (.stuck N' K' todo' O' L' ns):=⟨hn,k⟩
theorem Ok.fin {e:DE} (hn:eqs ns) (k:Q e O' L'):Out.ok E Q (.fin e O' L' ns):=⟨hn,k⟩
theorem Ok.val {o:Oper} {all rest:List Oper} {k:List It} {x:CV} (hn:eqs ns) (hg:o.guard=none) (hd:b8 N' o.dst=true) (h:aR E N' o O' L' x) (hk:ao E N' K' (.ops all rest::k) Q (bK O' o.dst x) L'):Out.ok E Q (.stuck N' K' (.ops all (o::rest)::k) O' L' ns):=
 ⟨hn,ao.val hg hd h hk⟩
theorem Ok.xq {o:Oper} {all pre:List Oper} {tl:List (Nat×Oper×TK)} {A:bp} {W:List (Nat×List CV)} {k:List It} {x:CV} (hn:eqs ns) (hd:b8 N' o.dst=true) (hw:cv all o O'=some true) (hf:kQ o W=true) (h:aR E N' o O' L' x) (hk:ao E N' K' (.lex all tl A pre W::k) Q (bK O' o.dst x) L'):
  Out.ok E Q (.stuck N' K' (.lex all tl A (o::pre) W::k) O' L' ns):=⟨hn,ao.xq hd hw hf h hk⟩
theorem Ok.open {id:Nat} {l:List Oper} {k:List It} (pre:List Nat) (tl:List (Nat×TK)) (al:List Nat) {A:bp} (hn:eqs ns) (hm:E.P.follows .mixedOrders=true) (hA:lY E.T l.toArray N' al=some A) (hB:nw l.toArray pre tl al=true) (hl:Nat.beq (fi l.toArray pre).length pre.length=true)
  (h:ao E N' K' (.lex l (iW l.toArray tl) A (fi l.toArray pre) []::k) Q O' L'):Out.ok E Q (.stuck N' K' (.code (.region id l.toArray true)::k) O' L' ns):=⟨hn,ao.Tw pre tl al A hm hA hB hl h⟩
end
section
variable {E:Env} {Q:DQ} {N K:Nat} {O:TS} {L:Hp} {o:Oper} {all:List Oper} {k:List It} {x:CV} {l:List (Nat×Oper×TK)} {A:bp} {pend:List (Nat×Oper×CV)} {fs:List (Nat×List AV×AV)} {i:Nat} {ns:List (Nat×Nat)}
theorem bG.call {dst:Option Nat} {f:Operand} {args:List Operand} {g:FuncId} {cs:List CV} {xs:List AV} {res:AV} {tys:Array TypeId} {ty:TypeId} {pos:String} {after:Array Edge} {gd:Option (Nat×Bool)} (h:Pure E.toCx g xs (.ret res)) (hc:dm O f args=some (g,cs)) (hx:fM cs=some xs):
  bG E N ⟨dst,.call {callee:= .value f,args:=args.toArray,argTypes:=tys},ty,pos,after,gd⟩ O (.d res):=λZ s LB hs=>by
 obtain⟨ys,h1,h2⟩:=ou hs hc;have:=mU hx h2;subst this;exact⟨res,rfl,bB.pure rfl h h1⟩
theorem bG.idx {t:TypeId} {p ix:Operand} {e kk sz by':Nat} {z:List Value} {rows:List (List AV)} {r:List AV} {kd:IntKind} {m:Int} (j:Nat) (ho:o.op= .indexAddr t p ix) (hp:aO O p=some (.d (.sl kk rows)))
  (ht:aP E.T t=some ⟨.slice e kk,sz,by',z⟩) (hix:aO O ix=some (.d (.v (.int kd m)))) (hm:m=(j:Int)) (hr:rows[j]? =some r):bG E N o O (.d (.ip r)):=λZ s LB hs=>by
 obtain⟨y,h1,h2⟩:=bR hs hp;simp only[aC]at h2;subst h2;obtain⟨y',h4,h5⟩:=bR hs hix;simp only[aC]at h5;subst h5;subst hm;refine⟨.ip r,rfl,bB.dD (E:=E) ?_⟩;have hnat:lX (some (.v (.int kd (j:Int))))=some j:=rfl;rw[ho];simp only[Bw.dD,h1,h4,hnat,ht,vv,b7,hr]
theorem bG.fh {y:AV} (h:fh E.P (dE O) o.op=some y):bG E N o O (.d y):=λZ s LB hs=>⟨y,rfl,(bB.fh h).mono λ_ _ _ hy=>jF hs hy⟩
theorem az.nil:az E N all [] O L:=λp hp=>by cases hp
theorem az.cons {r:List (Nat×Oper×CV)} (hw:cv all o O=some true) (h:aR E N o O L x) (hr:az E N all r O L):az E N all ((i,o,x)::r) O L:=λp hp=>by
 rcases cu.1 hp with rfl|hp
 ·exact .inl ⟨hw,h⟩
 ·exact hr p hp
theorem az.skip {r:List (Nat×Oper×CV)} (hw:cv all o O=some false) (hr:az E N all r O L):az E N all ((i,o,.d (.v undef))::r) O L:=λp hp=>by
 rcases cu.1 hp with rfl|hp
 ·exact .inr ⟨hw,rfl⟩
 ·exact hr p hp
theorem aR.dc {cl:Bool} (h:dc E.P E.G E.T cl O L o.op=some (x,ns)) (hn:eqs ns):aR E N o O L x:=tA h hn
theorem ao.UA (hp:az E N all pend O L) (hd:b8 N o.dst=true) (hw:cv all o O=some true) (hv:bG E N o O x) (h:ao E N K (.tl all l A pend fs::k) Q (bK O o.dst x) L):ao E N K (.tl all ((i,o,.fl)::l) A pend fs::k) Q O L:=
 λhf=>cg.st hp hd (.inl ⟨hw,hv⟩) (h hf)
theorem ao.UB (hp:az E N all pend O L) (hd:b8 N o.dst=true) (hw:cv all o O=some true) (hv:aR E N o O L x) (h:ao E N K (.tl all l A ((i,o,x)::pend) fs::k) Q (bK O o.dst x) L):ao E N K (.tl all ((i,o,.fl)::l) A pend fs::k) Q O L:=
 λhf=>cg.fl hp hd (.inl ⟨hw,hv⟩) (h hf)
theorem ao.Rr (hm:E.P.follows .mixedOrders=true) (hp:az E N all pend O L) (h:Nx.ok E Q (tB E.P E.G E.T mB (λ_ _=>none) N K all l A pend fs k O L [] (.out (.stuck N K (.tl all l A pend fs::k) O L [])))):ao E N K (.tl all l A pend fs::k) Q O L:=
 (GJ (c:=mB) (nest:=λ_ _=>none) (λg xs z hz=>by cases hz) (λg x h=>by cases h) (λ_=>hp) h (λh=>h)).2
theorem FP {D:Type} {f:D->List AV}:∀{l:List D},(∀x∈l,fI [f x]=true)->fI (l.map f)=true
 |[],_=>rfl
 |x::l,h=>by
  have h1:=h x (by simp);have h2:=FP (l:=l) λy hy=>h y (by simp[hy]);simp only[fI,jw,List.all_nil,od,dA]at h1 h2⊢;rw[h1,h2];rfl
theorem DO.I8 {rest:List Oper} {i d n j m:Nat} {s p:Operand} {t:TypeId} {ty:TypeId} {pos:String} {after:Array Edge} {e e' kk sz by' sz' by'':Nat} {z z':List Value} {td':TD} {rows rows2:List (List AV)}
  (hs':aO O s=some (.os i n)) (hi:L.e.get i=some (.row e kk rows)) (hn:n=rows.length) (hx:aO O p=some (.os j m)) (hj:L.e.get j=some (.row e' kk rows2)) (hm:m=rows2.length) (ht:aP E.T t=some ⟨.slice e kk,sz,by',z⟩) (hte:aP E.T e=some ⟨td',sz',by'',z'⟩) (h1:fI rows2=true)
  (hk:Nat.ble 1 kk=true) (hby:Nat.ble 1 by''=true) (hd:Nat.blt d N=true) (hb:(rows++rows2).length*by''<=140737488355328)
  (k1:ao E N K (.ops all rest::k) Q (bK O (some d) (.os i (rows++rows2).length)) (L.set i (.row e kk (rows++rows2)))):
  ao E N K (.ops all (⟨some d,.call {callee:= .builtin .append,args:= #[s,p],argTypes:= #[t,t]},ty,pos,after,none⟩::rest)::k) Q O L:=
 DO.append hb hs' hi hn (.row hx hj hm) ht hte h1 hk hby hd k1
theorem ao.rb {R:DR->Hp->Prop} {O1:TS} {η1:Hp} (hp:az E N all pend O L) (hnd:eH ((dh (bQ all.toArray i A)).map (·.1))=true) (hd:b8 N o.dst=true) (cm:ei (dh (bQ all.toArray i A)) O L=(O1,η1)) (hw:cv all o O1=some true) (h:bo E N o O1 η1 R)
  (k1:∀x L',R (.ret x) L'->ao E N K (.tl all l (b4 all.toArray i A) (cx all i pend) fs::k) Q (bK O1 o.dst x) L') (k2:∀x L',R (.aJ x) L'->False):ao E N K (.tl all ((i,o,.one)::l) A pend fs::k) Q O L:=
 λhf=>cg.mF hp hnd hd cm hw h (λx L' hR=>k1 x L' hR hf) (λx L' hR=>(k2 x L' hR).elim)
variable {N' K':Nat} {todo':List It} {O':TS} {L':Hp}
theorem Nx.Tv (hn:eqs ns) (h:ao E N' K' todo' Q O' L'):Nx.ok E Q (.go N' K' todo' O' L' ns):=⟨hn,h⟩
end
section
variable {E:Env} {Q:DQ} {N K:Nat} {O:TS} {L:Hp} {o:Oper} {all:List Oper} {k:List It} {x:CV}
theorem bG.toP (h:bG E N o O x):aR E N o O L x:=λZ s LB hs _=>h Z s LB hs
theorem bG.dD {y:AV} (h:dD E.P E.T (dE O) o.op=some y):bG E N o O (.d y):=λZ s LB hs=>⟨y,rfl,(bB.dD h).mono λ_ _ _ hy=>jF hs hy⟩
def mC (O:TS) (dflt:Nat):Option Operand->Option Nat
 |none=>some dflt
 |some p=>match aO O p with
  |some (.d y)=>lX (some y)
  |_=>none
theorem Ia {d n:Nat} {p:Option Operand} (h:mC O d p=some n):gU (dE O) d p=some n:=by
 cases p with
 |none=>exact h
 |some p=>
  simp only[mC]at h;split at h
  ·rename_i y hy;show lX (ev (dE O) p)=some n;rw[nb hy];exact h
  ·cases h
theorem bG.part {t:TypeId} {p:Operand} {lo hi:Option Operand} {e kk sz by':Nat} {z:List Value} {rows:List (List AV)} (l h:Nat) (ho:o.op= .slice t p lo hi none) (hp:aO O p=some (.d (.sl kk rows))) (ht:aP E.T t=some ⟨.slice e kk,sz,by',z⟩)
  (hl:mC O 0 lo=some l) (hh:mC O rows.length hi=some h) (h1:l<=h) (h2:h<=rows.length):bG E N o O (.d (.sl kk ((rows.take h).drop l))):=
 bG.dD (by
  rw[ho];simp only[Bw.dD,nb hp,ht,Ia hl,Ia hh];have:(Nat.beq kk kk&&Nat.ble l h&&Nat.ble h rows.length)=true:=by simp[h1,h2]
  rw[this])
theorem bG.xp {t:TypeId} {p ix:Operand} {b:ByteArray} {c:UInt8} {sz by':Nat} {z:List Value} {kd:IntKind} {m:Int} (j:Nat) (ho:o.op= .index t p ix) (hp:aO O p=some (.d (.v (.string b))))
  (ht:aP E.T t=some ⟨.str,sz,by',z⟩) (hix:aO O ix=some (.d (.v (.int kd m)))) (hm:m=(j:Int)) (hr:b.data.toList[j]? =some c):bG E N o O (.d (.v (.int .u8 c.toNat))):=
 bG.dD (by
  subst hm;rw[ho];simp only[Bw.dD,nb hp,nb hix,ht];have:lX (some (.v (.int kd (j:Int))))=some j:=rfl;rw[this];have h2:nth b.data.toList j=some c:=by rw[b7];exact hr
  show(match nth b.data.toList j with|some c=>some (AV.v (.int .u8 (c.toNat:Int)))|none=>none)=_;rw[h2])
theorem bG.Wm {t:TypeId} {p q:Operand} {yt:TypeId} {xs ys:List AV} {fs:Array Field} {c:Bool} (ho:o.op= .binOp .neq t p q yt) (hp:aO O p=some (.d (.agg xs))) (hq:aO O q=some (.d (.agg ys))) (ht:um E.P t xs.length=true) (hu:E.P.underlying t=some (.struct fs)) (hc:nO E.P fs.toList xs ys=some c):bG E N o O (.d (.v (.bool (!c)))):=
 bG.dD (by rw[ho];simp only[Bw.dD,nb hp,nb hq,ht,hu,hc])
