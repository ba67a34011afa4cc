/- The abstract machine, eighth part: the driver's lemmas for walks with open values. -/
import Derived.Test.YtnocmolegijmkaaGreatKD7
set_option linter.all false
noncomputable section
namespace Go.Bw
open Go
def oG:fD:=⟨false,λ_=>false,λ_=>false,λ_=>false,λ_=>none,λ_=>none,[]⟩
section
variable {E:Env} {Q:DQ} {N K N' K':Nat} {todo todo' t1 t2:List It} {O O' s1 s2:TS} {L L':Hp} {ns:List (Nat×Nat)}
def PT:fD:=⟨true,λ_=>false,λ_=>false,λ_=>false,λ_=>none,λ_=>none,[]⟩
theorem Wx (hm:E.P.follows .mixedOrders=true) (f:Nat) {e:DE} (h:dx E.P E.G E.T PT f N K todo O L []= .fin e O' L' []) (k:Q e O' L'):az E N K todo Q O L:=
 (GB hm PT (λf hf=>by cases hf) (λf ty z h=>by cases h) (λg x h=>by cases h) f Q N K todo O L [] (by rw[h];exact⟨trivial,k⟩)).2
theorem Pure.walk {g:FuncId} {fn:Func} {c:Code} {xs:List AV} {rs:List ResultVar} {nt:Nat} {res:AR} (hf:E.P.funcs[g]? =some fn) (hb:fn.body=some c) (hname:(fn.name== "runtime.NumGoroutine")=false) (hrs:fn.results=rs.toArray) (hnt:fn.ntmps=nt) (hn:Nat.ble xs.length nt=true)
  (h:az E nt 0 [.code c] (RD E.T rs (Ends 60 res)) (iz 0 (xs.map .d)) Hp.nil):Pure E.toCx g xs res:=Pure.Rw 60 (fA.enter hf hb hname rs hrs nt hnt (by simpa using hn) h)
end
section
variable {E:Env} {Q:DQ} {N K:Nat} {O:TS} {L:Hp} {o:Oper} {all rest:List Oper} {k:List It} {x:CV}
theorem az.val (hg:o.guard=none) (hd:cx N o.dst=true) (h:ba E N o O L x) (hk:az E N K (.ops all rest::k) Q (bY O o.dst x) L):az E N K (.ops all (o::rest)::k) Q O L:=DO.qm hg hd h hk
theorem az.Zs {id:Nat} {l:List Oper} (pre:List Nat) (tl:List (Nat×TK)) (al:List Nat) (A:bM) (hm:E.P.follows .mixedOrders=true) (hA:nK E.T l.toArray N al=some A) (hB:pH l.toArray pre tl al=true) (hl:Nat.beq (fS l.toArray pre).length pre.length=true)
  (h:az E N K (.lex l (jQ l.toArray tl) A (fS l.toArray pre) []::k) Q O L):az E N K (.code (.region id l.toArray true)::k) Q O L:=DC.open pre tl al A hm hA hB hl h
theorem az.BT {A:bM} {tl:List (Nat×Oper×TK)} {pre:List Oper} {W:List (Nat×List CV)} (hd:cx N o.dst=true) (hw:cG all o O=some true) (hf:mh o W=true) (h:ba E N o O L x) (hk:az E N K (.lex all tl A pre W::k) Q (bY O o.dst x) L):az E N K (.lex all tl A (o::pre) W::k) Q O L:=ea.val hd hw hf h hk
theorem pr {p:Operand} {y:AV} (h:aV O p=some (.d y)):ev (ee O) p=some y:=by
 cases p with
 |tmp t=>
  have h:O.get t=some (.d y):=h;show ee O t=some y;unfold ee;rw[h]
 |const v=>cases h;rfl
 |global g=>cases h;rfl
 |func f=>cases h;rfl
end
section
variable {E:Env} {Q:DQ} {N K:Nat} {O:TS} {L:Hp} {o:Oper} {all rest:List Oper} {k:List It}
end
theorem get_map {D β:Type} {f:D->β} {xs:List D} {i:Nat} {x:D} (h:xs[i]? =some x):(xs.map f)[i]? =some (f x):=by rw[qu,h];rfl
section
variable {E:Env} {Q:DQ} {N K:Nat} {O:TS} {L:Hp} {k:List It} {S:Type}
end
theorem bX.of {x y:AV} (h:x=y):bX x y:=h▸bX.refl x
theorem Pure.args {C:Cx} {g:FuncId} {xs ys:List AV} {res:AR} (hi:b7 xs ys) (h:Pure C g ys res):Pure C g xs res:=
 ⟨h.1,λF w vs h1 h2=>h.2 F w vs h1 (hi.rel h2)⟩
section
variable {E:Env} {Q:DQ} {N K:Nat} {O:TS} {L:Hp} {o:Oper} {all rest:List Oper} {k:List It} {x:CV} {c:Code}
theorem RD.aak {rs:List ResultVar} {xs:List CV} {z y:AV} {ns:List (Nat×Nat)} {ms:List (Nat×bl)} (h:ei E.T O L rs=some xs) (hf:cd L.e 60 [fe xs]=some ([z],ns,ms)) (hn:eqs ns) (e:bX z y):RD E.T rs (Ends 60 (.ret y)) .ret O L:=⟨xs,h,z,ns,ms,hf,hn,y,rfl,e⟩
theorem RD.Zq {rs:List ResultVar} {xs:List CV} {z y:AV} {ns:List (Nat×Nat)} {ms:List (Nat×bl)} (h:ei E.T O L rs=some xs) (hf:cd L.e 60 [fe xs]=some ([z],ns,ms)) (hn:eqs ns) (e:bX z y):RD E.T rs (Ends 60 (.ret y)) .norm O L:=⟨xs,h,z,ns,ms,hf,hn,y,rfl,e⟩
theorem RD.aal {rs:List ResultVar} {x:CV} {z y:AV} {ns:List (Nat×Nat)} {ms:List (Nat×bl)} (hf:cd L.e 60 [x]=some ([z],ns,ms)) (hn:eqs ns) (e:bX z y):RD E.T rs (Ends 60 (.aM y)) (.aM x) O L:=⟨z,ns,ms,hf,hn,y,rfl,e⟩
theorem iU.Rv {G:Gl} {O:Sg} {L:List au} {N:Nat} (i:Nat) {x y:au} (hi:nth L i=some x) (hids:y.ids=x.ids) (hok:∀w A,x.ok w A->y.ok w A):iU G N O L O (L.set i y):=λF w a hs=>by
 have hsplit:L=L.take i++x::L.drop (i+1):=by
  rw[cw]at hi;obtain⟨hlt,hx⟩:=cy.1 hi;rw[<-hx,List.getElem_cons_drop hlt,JU]
 have hset:L.set i y=L.take i++y::L.drop (i+1):=by
  rw[cw]at hi;obtain⟨hlt,hx⟩:=cy.1 hi;rw[List.set_eq_take_append_cons_drop,cj hlt]
 have hI:ids (L.set i y)=ids L:=by
  rw[hset]
  conv=>rhs;rw[hsplit]
  simp only[cp,cJ,hids]
 have hA:Al F (L.set i y)=Al F L:=by funext b;simp only[Al,hI]
 refine⟨⟨by rw[hA];exact hs.sg,⟨λz hz=>?_,by rw[hI];exact hs.hp.nodup,by rw[hI];exact hs.hp.free,hs.hp.bound,by rw[hA];exact hs.hp.cm⟩,hs.df⟩,by rw[hI];exactλ_ h=>h⟩;rw[hA];rw[hset]at hz;have hmem:∀z,z∈L↔z∈L.take i++x::L.drop (i+1):=λz=>by rw[<-hsplit]
 simp only[cL,cu]at hz hmem;rcases hz with hz|rfl|hz
 ·exact hs.hp.eN z ((hmem z).2 (.inl hz))
 ·exact hok _ _ (hs.hp.eN x ((hmem x).2 (.inr (.inl rfl))))
 ·exact hs.hp.eN z ((hmem z).2 (.inr (.inr hz)))
theorem DC.iS (t e kk:Nat) (ht:O.get t=some (.d (.v (.slice none 0 0)))) (h:DC E N K c Q (Tr.put 24 O t (some (.os L.n 0))) (L.push (.row e kk []))):DC E N K c Q O L:=λZ OB LB hs hh=>by
 obtain⟨y,h1,h2⟩:=hs t _ ht;simp only[aG]at h2;subst h2;refine bV.iS t e kk h1 ?_;have hdom:=hh.gV L.n (bU _);have hl:Z.le (Z.a8 L.n 0 (none,0)):=aH.lr λy hy=>by rw[hdom.2]at hy;cases hy
 have hbn:(Z.a8 L.n 0 (none,0)).s L.n 0=some (none,0):=by simp[aH.a8]
 refine bV.mono (h _ _ _ ((hs.mono hl).put (some t) (by simp only[aG];exact⟨_,_,LB.length,hbn,rfl⟩)) ?_) λ_ _ _ hq=>qE (hl.toK K) (λ_ _ _ h=>h) hq;refine hh.push hl (λi hi=>by funext m;simp[aH.a8,hi]) (λ_ _=>rfl) ⟨⟨none,0,by simpa using hbn,by simp⟩,λm hm=>?_⟩;have:m≠0:=by simp at hm;omega
 simp only[aH.a8,this,and_false,if_false];exact hdom.2 m
theorem az.iS (t e kk:Nat) (ht:O.get t=some (.d (.v (.slice none 0 0)))) (h:az E N K (.code c::k) Q (Tr.put 24 O t (some (.os L.n 0))) (L.push (.row e kk []))):az E N K (.code c::k) Q O L:=by
 unfold az at h⊢;simp only[dq]at h⊢;exact DC.iS t e kk ht h
def jX:List bl->List (Nat×bl)->List bl
 |es,[]=>es
 |es,(i,x)::r=>jX (Cs es i x) r
where Cs:List bl->Nat->bl->List bl
 |[],_,_=>[]
 |_::l,0,x=>x::l
 |y::l,i+1,x=>y::Cs l i x
theorem DY {m:Nat} {O:TS}:∀{ts us:List Nat} {l r:List (Nat×CV)},fh m ts O=some l->fh m us O=some r->fh m (ts++us) O=some (l++r)
 |[],_,_,_,h,g=>by simp only[fh,aE]at h;subst h;exact g
 |t::ts,us,l,r,h,g=>by
  simp only[fh]at h;split at h
  ·rename_i x l' h1 h2;split at h
   ·rename_i h0;simp only[aE]at h;subst h;simp only[jJ,fh,h1,DY h2 g,h0]
   ·cases h
  ·cases h
def Ce {S:Type} (m:Nat) (ts ks:List Nat) (l0:List (Nat×CV)) (es0:List bl) (vs:S->List (Nat×CV)) (hs:S->List (Nat×bl)) (J:Nat->S->Prop) (n:Nat) (O1:TS) (η1:Hp):Prop:=
 ∃n',n'<n/\∃l' es',m<=η1.n/\fh m (ts++ks) O1=some l'/\mr m η1=some es'/\∃s:S,l'=l0++vs s/\es'=jX es0 (hs s)/\J n' s
theorem UT {m:Nat} {l:List bl} (h:mr m L=some l):l.length=m:=(AG h).1
theorem LX:∀(l:List bl) (i:Nat) (x:bl),(jX.Cs l i x).length=l.length
 |[],_,_=>rfl
 |_::l,0,_=>rfl
 |y::l,i+1,x=>by simp[jX.Cs,LX l i x]
theorem LY:∀(r:List (Nat×bl)) (l:List bl),(jX l r).length=l.length
 |[],_=>rfl
 |(i,x)::r,l=>by rw[jX,LY r,LX]
theorem az.Zt {S:Type} (m:Nat) (ts ks:List Nat) (vs:S->List (Nat×CV)) (hs:S->List (Nat×bl)) (J:Nat->S->Prop) (n:Nat) (s0:S) {l0:List (Nat×CV)} {es:List bl} (hm:L.n=m) (hK:Nat.ble K m=true) (hp0:fh m ts O=some l0) (hp:fh m ks O=some (vs s0)) (he:mr m L=some es) (hes:es=jX es (hs s0)) (h0:J n s0)
  (round:∀n s,J n s->az E N K (.code c:: .lp (Ce m ts ks l0 es vs hs J n)::k) Q (ql (l0++vs s)) ⟨qk 0 (jX es (hs s)),m⟩):az E N K (.code (.loop c)::k) Q O L:=by
 subst hm;exact az.loop (ts++ks) L.n (λq l' es'=>∃s:S,l'=l0++vs s/\es'=jX es (hs s)/\J q s) n (dJ hK) (bU _) (DY hp0 hp) he ⟨s0,rfl,hes,h0⟩ (by
  rintro q l' es' ⟨s,rfl,rfl,hj⟩;have:=round q s hj;have hl:(jX es (hs s)).length=L.n:=by rw[LY,UT he]
  unfold la;rw[hl];exact this)
theorem az.Zu {S:Type} {m:Nat} {ts ks:List Nat} {l0:List (Nat×CV)} {es0:List bl} {vs:S->List (Nat×CV)} {hs:S->List (Nat×bl)} {J:Nat->S->Prop} {n:Nat} (s':S) (n':Nat) (hm:Nat.ble m L.n=true) (hp0:fh m ts O=some l0) (hp:fh m ks O=some (vs s')) (he:mr m L=some (jX es0 (hs s'))) (hn:n'<n) (hj:J n' s'):
  az E N K (.lp (Ce m ts ks l0 es0 vs hs J n)::k) Q O L:=
 az.lp ⟨n',hn,_,_,dJ hm,DY hp0 hp,he,s',rfl,rfl,hj⟩
end
theorem aW:eqs []:=trivial
theorem eg {a b:Nat} {r:List (Nat×Nat)} (h:a=b) (k:eqs r):eqs ((a,b)::r):=⟨h,k⟩
def PS (O:TS):Op->Bool
 | .call {callee:= .builtin .append,args:=as,argTypes:=_}=>match as.toList with
  | .tmp t::_=>match O.get t with
   |some (.os _ _)=>true
   |_=>false
  |_=>false
 |_=>false
def sq (O:TS):List It->Bool
 | .code (.region _ _ true)::_=>true
 | .ops _ (o::_)::_=>PS O o.op
 | .tl _ ((_,o,.one)::_) _ _ _::_=>PS O o.op
 |_=>false
def ds (P:Program) (G:Gl) (T:bQ):Nat->Nat->Nat->List It->TS->Hp->List (Nat×Nat)->Out
 |0,N,K,todo,O,L,ns=> .stuck N K todo O L ns
 |f+1,N,K,todo,O,L,ns=>match sq O todo with
  |true=> .stuck N K todo O L ns
  |false=>match step P G T oG (λ_ _=>none) f N K todo O L ns with
   | .go N' K' todo' O' L' ns'=>ds P G T f N' K' todo' O' L' ns'
   | .out o=>o
section
variable {E:Env}
variable {Q:DQ} {N K N' K':Nat} {todo todo' t1 t2:List It} {O O' s1 s2:TS} {L L':Hp} {ns:List (Nat×Nat)}
theorem Ok.stuck (hn:eqs ns) (k:az E N' K' todo' Q O' L'):Out.ok E Q (.stuck N' K' todo' O' L' ns):=⟨hn,k⟩
theorem Ok.fin {e:DE} (hn:eqs ns) (k:Q e O' L'):Out.ok E Q (.fin e O' L' ns):=⟨hn,k⟩
theorem Ok.val {o:Oper} {all rest:List Oper} {k:List It} {x:CV} (hn:eqs ns) (hg:o.guard=none) (hd:cx N' o.dst=true) (h:ba E N' o O' L' x) (hk:az E N' K' (.ops all rest::k) Q (bY O' o.dst x) L'):Out.ok E Q (.stuck N' K' (.ops all (o::rest)::k) O' L' ns):=
 ⟨hn,az.val hg hd h hk⟩
theorem Ok.BT {o:Oper} {all pre:List Oper} {tl:List (Nat×Oper×TK)} {A:bM} {W:List (Nat×List CV)} {k:List It} {x:CV} (hn:eqs ns) (hd:cx N' o.dst=true) (hw:cG all o O'=some true) (hf:mh o W=true) (h:ba E N' o O' L' x) (hk:az E N' K' (.lex all tl A pre W::k) Q (bY O' o.dst x) L'):
  Out.ok E Q (.stuck N' K' (.lex all tl A (o::pre) W::k) O' L' ns):=⟨hn,az.BT hd hw hf h hk⟩
theorem Ok.open {id:Nat} {l:List Oper} {k:List It} (pre:List Nat) (tl:List (Nat×TK)) (al:List Nat) {A:bM} (hn:eqs ns) (hm:E.P.follows .mixedOrders=true) (hA:nK E.T l.toArray N' al=some A) (hB:pH l.toArray pre tl al=true) (hl:Nat.beq (fS l.toArray pre).length pre.length=true)
  (h:az E N' K' (.lex l (jQ l.toArray tl) A (fS l.toArray pre) []::k) Q O' L'):Out.ok E Q (.stuck N' K' (.code (.region id l.toArray true)::k) O' L' ns):=⟨hn,az.Zs pre tl al A hm hA hB hl h⟩
end
section
variable {E:Env} {Q:DQ} {N K:Nat} {O:TS} {L:Hp} {o:Oper} {all:List Oper} {k:List It} {x:CV} {l:List (Nat×Oper×TK)} {A:bM} {pend:List (Nat×Oper×CV)} {fs:List (Nat×List AV×AV)} {i:Nat} {ns:List (Nat×Nat)}
theorem bm.call {dst:Option Nat} {f:Operand} {args:List Operand} {g:FuncId} {cs:List CV} {xs:List AV} {res:AV} {tys:Array TypeId} {ty:TypeId} {pos:String} {after:Array Edge} {gd:Option (Nat×Bool)} (h:Pure E.toCx g xs (.ret res)) (hc:dE O f args=some (g,cs)) (hx:fU cs=some xs):
  bm E N ⟨dst,.call {callee:= .value f,args:=args.toArray,argTypes:=tys},ty,pos,after,gd⟩ O (.d res):=λZ s LB hs=>by
 obtain⟨ys,h1,h2⟩:=qy hs hc;have:=pg hx h2;subst this;exact⟨res,rfl,bP.pure rfl h h1⟩
theorem bm.idx {t:TypeId} {p ix:Operand} {e kk sz by':Nat} {z:List Value} {rows:List (List AV)} {r:List AV} {kd:IntKind} {m:Int} (j:Nat) (ho:o.op= .indexAddr t p ix) (hp:aV O p=some (.d (.sl kk rows)))
  (ht:aY E.T t=some ⟨.slice e kk,sz,by',z⟩) (hix:aV O ix=some (.d (.v (.int kd m)))) (hm:m=(j:Int)) (hr:rows[j]? =some r):bm E N o O (.d (.ip r)):=λZ s LB hs=>by
 obtain⟨y,h1,h2⟩:=b9 hs hp;simp only[aG]at h2;subst h2;obtain⟨y',h4,h5⟩:=b9 hs hix;simp only[aG]at h5;subst h5;subst hm;refine⟨.ip r,rfl,bP.ec (E:=E) ?_⟩;have hnat:nJ (some (.v (.int kd (j:Int))))=some j:=rfl;rw[ho];simp only[Bw.ec,h1,h4,hnat,ht,Ah,cw,hr]
theorem bm.fP {y:AV} (h:fP E.P (ee O) o.op=some y):bm E N o O (.d y):=λZ s LB hs=>⟨y,rfl,(bP.fP h).mono λ_ _ _ hy=>kL hs hy⟩
theorem aF.nil:aF E N all [] O L:=λp hp=>by cases hp
theorem aF.cons {r:List (Nat×Oper×CV)} (hw:cG all o O=some true) (h:ba E N o O L x) (hr:aF E N all r O L):aF E N all ((i,o,x)::r) O L:=λp hp=>by
 rcases cu.1 hp with rfl|hp
 ·exact .inl ⟨hw,h⟩
 ·exact hr p hp
theorem aF.skip {r:List (Nat×Oper×CV)} (hw:cG all o O=some false) (hr:aF E N all r O L):aF E N all ((i,o,.d (.v undef))::r) O L:=λp hp=>by
 rcases cu.1 hp with rfl|hp
 ·exact .inr ⟨hw,rfl⟩
 ·exact hr p hp
theorem ba.dt {cl:Bool} (h:dt E.P E.G E.T cl O L o.op=some (x,ns)) (hn:eqs ns):ba E N o O L x:=wW h hn
theorem az.aan (hp:aF E N all pend O L) (hd:cx N o.dst=true) (hw:cG all o O=some true) (hv:bm E N o O x) (h:az E N K (.tl all l A pend fs::k) Q (bY O o.dst x) L):az E N K (.tl all ((i,o,.fl)::l) A pend fs::k) Q O L:=
 λhf=>cA.st hp hd (.inl ⟨hw,hv⟩) (h hf)
theorem az.aao (hp:aF E N all pend O L) (hd:cx N o.dst=true) (hw:cG all o O=some true) (hv:ba E N o O L x) (h:az E N K (.tl all l A ((i,o,x)::pend) fs::k) Q (bY O o.dst x) L):az E N K (.tl all ((i,o,.fl)::l) A pend fs::k) Q O L:=
 λhf=>cA.fl hp hd (.inl ⟨hw,hv⟩) (h hf)
theorem az.XG (hm:E.P.follows .mixedOrders=true) (hp:aF E N all pend O L) (h:Nx.ok E Q (wX E.P E.G E.T oG (λ_ _=>none) N K all l A pend fs k O L [] (.out (.stuck N K (.tl all l A pend fs::k) O L [])))):az E N K (.tl all l A pend fs::k) Q O L:=
 (K6 (c:=oG) (nest:=λ_ _=>none) (λg xs z hz=>by cases hz) (λg x h=>by cases h) (λ_=>hp) h (λh=>h)).2
theorem Ke {D:Type} {f:D->List AV}:∀{l:List D},(∀x∈l,gC [f x]=true)->gC (l.map f)=true
 |[],_=>rfl
 |x::l,h=>by
  have h1:=h x (by simp);have h2:=Ke (l:=l) λy hy=>h y (by simp[hy]);simp only[gC,kx,List.all_nil,oY,dY]at h1 h2⊢;rw[h1,h2];rfl
theorem DO.re {rest:List Oper} {i d n j m:Nat} {s p:Operand} {t:TypeId} {ty:TypeId} {pos:String} {after:Array Edge} {e e' kk sz by' sz' by'':Nat} {z z':List Value} {td':TD} {rows rows2:List (List AV)}
  (hs':aV O s=some (.os i n)) (hi:L.e.get i=some (.row e kk rows)) (hn:n=rows.length) (hx:aV O p=some (.os j m)) (hj:L.e.get j=some (.row e' kk rows2)) (hm:m=rows2.length) (ht:aY E.T t=some ⟨.slice e kk,sz,by',z⟩) (hte:aY E.T e=some ⟨td',sz',by'',z'⟩) (h1:gC rows2=true)
  (hk:Nat.ble 1 kk=true) (hby:Nat.ble 1 by''=true) (hd:Nat.blt d N=true) (hb:(rows++rows2).length*by''<=140737488355328)
  (k1:az E N K (.ops all rest::k) Q (bY O (some d) (.os i (rows++rows2).length)) (L.set i (.row e kk (rows++rows2)))):
  az E N K (.ops all (⟨some d,.call {callee:= .builtin .append,args:= #[s,p],argTypes:= #[t,t]},ty,pos,after,none⟩::rest)::k) Q O L:=
 DO.append hb hs' hi hn (.row hx hj hm) ht hte h1 hk hby hd k1
theorem az.uy {R:DR->Hp->Prop} {O1:TS} {η1:Hp} (hp:aF E N all pend O L) (hnd:fw ((dH (b8 all.toArray i A)).map (·.1))=true) (hd:cx N o.dst=true) (cz:eU (dH (b8 all.toArray i A)) O L=(O1,η1)) (hw:cG all o O1=some true) (h:bL E N o O1 η1 R)
  (k1:∀x L',R (.ret x) L'->az E N K (.tl all l (cn all.toArray i A) (cI all i pend) fs::k) Q (bY O1 o.dst x) L') (k2:∀x L',R (.aM x) L'->False):az E N K (.tl all ((i,o,.one)::l) A pend fs::k) Q O L:=
 λhf=>cA.oN hp hnd hd cz hw h (λx L' hR=>k1 x L' hR hf) (λx L' hR=>(k2 x L' hR).elim)
variable {N' K':Nat} {todo':List It} {O':TS} {L':Hp}
theorem Nx.Zr (hn:eqs ns) (h:az E N' K' todo' Q O' L'):Nx.ok E Q (.go N' K' todo' O' L' ns):=⟨hn,h⟩
end
section
variable {E:Env} {Q:DQ} {N K:Nat} {O:TS} {L:Hp} {o:Oper} {all:List Oper} {k:List It} {x:CV}
theorem bm.toP (h:bm E N o O x):ba E N o O L x:=λZ s LB hs _=>h Z s LB hs
theorem bm.ec {y:AV} (h:ec E.P E.T (ee O) o.op=some y):bm E N o O (.d y):=λZ s LB hs=>⟨y,rfl,(bP.ec h).mono λ_ _ _ hy=>kL hs hy⟩
def oH (O:TS) (dflt:Nat):Option Operand->Option Nat
 |none=>some dflt
 |some p=>match aV O p with
  |some (.d y)=>nJ (some y)
  |_=>none
theorem MC {d n:Nat} {p:Option Operand} (h:oH O d p=some n):iV (ee O) d p=some n:=by
 cases p with
 |none=>exact h
 |some p=>
  simp only[oH]at h;split at h
  ·rename_i y hy;show nJ (ev (ee O) p)=some n;rw[pr hy];exact h
  ·cases h
theorem bm.part {t:TypeId} {p:Operand} {lo hi:Option Operand} {e kk sz by':Nat} {z:List Value} {rows:List (List AV)} (l h:Nat) (ho:o.op= .slice t p lo hi none) (hp:aV O p=some (.d (.sl kk rows))) (ht:aY E.T t=some ⟨.slice e kk,sz,by',z⟩)
  (hl:oH O 0 lo=some l) (hh:oH O rows.length hi=some h) (h1:l<=h) (h2:h<=rows.length):bm E N o O (.d (.sl kk ((rows.take h).drop l))):=
 bm.ec (by
  rw[ho];simp only[Bw.ec,pr hp,ht,MC hl,MC hh];have:(Nat.beq kk kk&&Nat.ble l h&&Nat.ble h rows.length)=true:=by simp[h1,h2]
  rw[this])
theorem bm.ou {t:TypeId} {p ix:Operand} {b:ByteArray} {c:UInt8} {sz by':Nat} {z:List Value} {kd:IntKind} {m:Int} (j:Nat) (ho:o.op= .index t p ix) (hp:aV O p=some (.d (.v (.string b))))
  (ht:aY E.T t=some ⟨.str,sz,by',z⟩) (hix:aV O ix=some (.d (.v (.int kd m)))) (hm:m=(j:Int)) (hr:b.data.toList[j]? =some c):bm E N o O (.d (.v (.int .u8 c.toNat))):=
 bm.ec (by
  subst hm;rw[ho];simp only[Bw.ec,pr hp,pr hix,ht];have:nJ (some (.v (.int kd (j:Int))))=some j:=rfl;rw[this];have h2:nth b.data.toList j=some c:=by rw[cw];exact hr
  show(match nth b.data.toList j with|some c=>some (AV.v (.int .u8 (c.toNat:Int)))|none=>none)=_;rw[h2])
theorem bm.neS {t:TypeId} {p q:Operand} {yt:TypeId} {xs ys:List AV} {fs:Array Field} {c:Bool} (ho:o.op= .binOp .neq t p q yt) (hp:aV O p=some (.d (.agg xs))) (hq:aV O q=some (.d (.agg ys))) (ht:xF E.P t xs.length=true) (hu:E.P.underlying t=some (.struct fs)) (hc:p4 E.P fs.toList xs ys=some c):bm E N o O (.d (.v (.bool (!c)))):=
 bm.ec (by rw[ho];simp only[Bw.ec,pr hp,pr hq,ht,hu,hc])
