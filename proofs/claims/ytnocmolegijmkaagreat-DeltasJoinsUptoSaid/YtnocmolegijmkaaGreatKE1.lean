/- Walks by program: functions that answer as the code does; first part: what the texts that a program prints lean on. -/
import Derived.Test.YtnocmolegijmkaaGreatKD8
set_option linter.all false
noncomputable section
namespace Go.Bw
open Go
inductive bG (D:Type) where
 |ret (x:D)
 |aT (x:AV)
def bG.ar {D:Type} (f:D->AV):bG D->AR
 | .ret x=> .ret (f x)
 | .aT y=> .aT y
def aj {D:Type} (l:List D) (m:Int):Option D:=match m with
 | .ofNat j=>l[j]?
 | .negSucc _=>none
theorem acg {D:Type} {l:List D} {m:Int} {x:D} (h:aj l m=some x):∃j:Nat,m=(j:Int)/\l[j]? =some x:=by
 cases m with
 |ofNat j=>exact⟨j,rfl,h⟩
 |negSucc j=>cases h
theorem IP {D:Type} {l:List D} {m:Int} {x:D} (h:aj l m=some x):m=((m.toNat:Nat):Int)/\l[m.toNat]? =some x:=by
 obtain⟨j,rfl,h⟩:=acg h;exact⟨rfl,h⟩
theorem cE {D β:Type} {o:Option D} {f:D->Option β} {r:β} (h:o.bind f=some r):∃x,o=some x/\f x=some r:=by
 cases o with
 |none=>cases h
 |some x=>exact⟨x,rfl,h⟩
theorem bR {D:Type} {c:Bool} {a:Option D} {r:D} (h:(bif c then a else none)=some r):c=true/\a=some r:=by
 cases c with
 |true=>exact⟨rfl,h⟩
 |false=>cases h
def dX (k:IntKind) (l:List Int):List (List AV):=l.map λx=>[.v (.int k x)]
def dA (l:List Bool):List (List AV):=l.map λx=>[.v (.bool x)]
def aG (l:List (List UInt8)):List (List AV):=l.map λx=>[.v (.string ⟨⟨x⟩⟩)]
theorem oK {k:IntKind} {l:List Int}:(dX k l).length=l.length:=ja _
theorem tV {l:List Bool}:(dA l).length=l.length:=ja _
theorem bN {l:List (List UInt8)}:(aG l).length=l.length:=ja _
theorem Ec {k:IntKind} {l:List Int} {i:Nat} {x:Int} (h:l[i]? =some x):(dX k l)[i]? =some [.v (.int k x)]:=get_map h
theorem pM {l:List Bool} {i:Nat} {x:Bool} (h:l[i]? =some x):(dA l)[i]? =some [.v (.bool x)]:=get_map h
theorem dJ {l:List (List UInt8)} {i:Nat} {x:List UInt8} (h:l[i]? =some x):(aG l)[i]? =some [.v (.string ⟨⟨x⟩⟩)]:=get_map h
theorem ab8 {k:IntKind} {a b:List Int}:dX k (a++b)=dX k a++dX k b:=qY
theorem ab9 {a b:List Bool}:dA (a++b)=dA a++dA b:=qY
theorem ab7 {a b:List (List UInt8)}:aG (a++b)=aG a++aG b:=qY
theorem PH {n:Nat} {l:List (List UInt8)}:aG (l.drop n)=(aG l).drop n:=aab
theorem PI {n:Nat} {l:List (List UInt8)}:aG (l.take n)=(aG l).take n:=Hx
def aU {D β:Type} (o:Option (bG D)) (f:D->Option (bG β)):Option (bG β):=match o with
 |some (.ret x)=>f x
 |some (.aT z)=>some (.aT z)
 |none=>none
theorem tQ {D β:Type} {o:Option (bG D)} {f:D->Option (bG β)} {r:bG β} (h:aU o f=some r):(∃z,o=some (.aT z)/\r= .aT z)\/∃x,o=some (.ret x)/\f x=some r:=by
 cases o with
 |none=>cases h
 |some x=>cases x with
  |ret x=>exact .inr ⟨x,rfl,h⟩
  |aT z=>cases h;exact .inl ⟨z,rfl,rfl⟩
def cy {D:Type} (l:List D) (lo hi:Int):Option (List D):=match lo,hi with
 | .ofNat a,.ofNat b=>bif Nat.ble a b&&Nat.ble b l.length then some ((l.take b).drop a)else none
 |_,_=>none
theorem PM {D:Type} {l x:List D} {lo hi:Int} (h:cy l lo hi=some x):∃a b:Nat,lo=(a:Int)/\hi=(b:Int)/\a<=b/\b<=l.length/\(l.take b).drop a=x:=by
 unfold cy at h;split at h
 ·rename_i a b;revert h;cases hc:(Nat.ble a b&&Nat.ble b l.length)with
  |false=>intro h;cases h
  |true=>
   intro h;simp only[bS,Nat.ble_eq]at hc;exact⟨a,b,rfl,rfl,hc.1,hc.2,pC h⟩
 ·cases h
theorem HZ {D:Type} {f:D->List AV} (hf:∀x,fU [f x]=true) (l:List D):fU (l.map f)=true:=O0 λx _=>hf x
theorem abB (l:List Bool):fU (dA l)=true:=HZ (λ_=>rfl) l
theorem Ig (l:List (List UInt8)):fU (aG l)=true:=HZ (λ_=>rfl) l
section
variable {E:Env} {Q:DQ} {N K:Nat} {O:TS} {L:Hp} {o:Oper} {all rest:List Oper} {k:List It} {x:CV} {c:Code}
theorem RD.leaf {rs:List ResultVar} {xs:List CV} {z y:AV} {res:AR} {ns:List (Nat×Nat)} {ms:List (Nat×bC)} (h:eX E.T O L rs=some xs) (hf:cF L.e 60 [fY xs]=some ([z],ns,ms)) (hn:eqs ns) (hr:res= .ret y) (e:cz z y):RD E.T rs (Ends 60 res) .ret O L:=by
 subst hr;exact RD.aim h hf hn e
theorem RD.su {rs:List ResultVar} {xs:List CV} {z y:AV} {res:AR} {ns:List (Nat×Nat)} {ms:List (Nat×bC)} (h:eX E.T O L rs=some xs) (hf:cF L.e 60 [fY xs]=some ([z],ns,ms)) (hn:eqs ns) (hr:res= .ret y) (e:cz z y):RD E.T rs (Ends 60 res) .norm O L:=by
 subst hr;exact RD.agA h hf hn e
theorem RD.AB {rs:List ResultVar} {x:CV} {z y:AV} {res:AR} {ns:List (Nat×Nat)} {ms:List (Nat×bC)} (hf:cF L.e 60 [x]=some ([z],ns,ms)) (hn:eqs ns) (hr:res= .aT y) (e:cz z y):RD E.T rs (Ends 60 res) (.aT x) O L:=by
 subst hr;exact RD.ain hf hn e
theorem bE.conv {y z:CV} (h:bE E N o O y) (e:y=z):bE E N o O z:=e▸h
theorem qA {c:Bool} (h:(!c)=false):c=true:=by cases c<;>simp_all
theorem AD {c:Bool} (h:(!c)=true):c=false:=by cases c<;>simp_all
def mY (b:Bool) (A B:Out):Out:=match b with
 |true=>A
 |false=>B
theorem Ok.lJ {b:Bool} {A B:Out} (hb:b=true) (h1:Out.ok E Q A):Out.ok E Q (mY b A B):=by subst hb;exact h1
theorem Ok.lK {b:Bool} {A B:Out} (hb:b=false) (h2:Out.ok E Q B):Out.ok E Q (mY b A B):=by subst hb;exact h2
def F7 (all:List Oper) (o:Oper) (O:TS):Option (Nat×Bool):=match o.guard with
 |none=>none
 |some (j,_)=>match(nth all j).bind (·.dst)with
  |none=>none
  |some d=>match O.get d with
   |some (.d (.v (.bool t)))=>some (d,t)
   |_=>none
def Kq (O:TS):List It->Option (Nat×Bool)
 | .lex all _ _ (o::_) _::_=>F7 all o O
 | .tl all ((_,o,_)::_) _ _ _::_=>F7 all o O
 |_=>none
theorem SS.Cw {Z:aN} {s:Sl} (hs:SS Z O s) {d:Nat} {t b:Bool} (hd:O.get d=some (.d (.v (.bool t)))) (ht:t=b):SS Z (Tr.put 24 O d (some (.d (.v (.bool b))))) s:=by
 subst ht;intro u z hz;rcases Tr.fy 24 O d u _ z hz with⟨rfl,h3⟩|⟨_,h3⟩
 ·cases h3;exact hs _ _ hd
 ·exact hs _ _ h3
theorem Q9 {all:List Oper} {o:Oper} {d:Nat} {t:Bool} (h:F7 all o O=some (d,t)):O.get d=some (.d (.v (.bool t))):=by
 unfold F7 at h;split at h
 ·cases h
 ·split at h
  ·cases h
  ·split at h
   ·rename_i h1;simp only[aE,cR]at h;obtain⟨rfl,rfl⟩:=h;exact h1
   ·cases h
theorem ao.Cw {todo:List It} {d:Nat} {t b:Bool} (ha:Kq O todo=some (d,t)) (ht:t=b) (h:ao E N K todo Q (Tr.put 24 O d (some (.d (.v (.bool b))))) L):ao E N K todo Q O L:=by
 unfold Kq at ha;split at ha
 ·unfold ao at h⊢;simp only[dq]at h⊢;exactλZ s LB WB hs=>h Z s LB WB (hs.Cw (Q9 ha) ht)
 ·unfold ao at h⊢;simp only[dq]at h⊢;exactλhf Z s LB pb hs=>h hf Z s LB pb (hs.Cw (Q9 ha) ht)
 ·cases ha
def KK (O:TS):Op->Bool
 | .indexAddr _ (.tmp t) _=>match O.get t with
  |some (.os _ _)=>true
  |_=>false
 | .load _ (.tmp t)=>match O.get t with
  |some (.oe _ _ _)=>true
  |_=>false
 | .store _ (.tmp t) _=>match O.get t with
  |some (.oe _ _ _)=>true
  |_=>false
 |_=>false
def aio (O:TS):List It->Bool
 | .ops _ (o::_)::_=>match o.guard with
  |none=>KK O o.op
  |some _=>false
 | .lex _ _ _ (o::_) _::_=>KK O o.op
 | .tl _ ((_,o,_)::_) _ _ _::_=>KK O o.op
 |_=>false
def xw (rec:Nat->Nat->List It->TS->Hp->List (Nat×Nat)->Out):Nx->Out
 | .go N' K' todo' O' L' ns'=>match L' with
  |⟨e,m⟩=>vZ 1000 m 0 λn=>rec N' K' todo' O' ⟨e,n⟩ ns'
 | .out (.cond b N' K' t1 s1 t2 s2 L' ns')=>mY b (rec N' K' t1 s1 L' ns') (rec N' K' t2 s2 L' ns')
 | .out o=>o
def dr (P:Program) (G:Gl) (T:cn):Nat->Nat->Nat->List It->TS->Hp->List (Nat×Nat)->Out
 |0,N,K,todo,O,L,ns=> .stuck N K todo O L ns
 |f+1,N,K,todo,O,L,ns=>match th O todo with
  |true=> .stuck N K todo O L ns
  |false=>match aio O todo with
   |true=> .stuck N K todo O L ns
   |false=>match Kq O todo with
    |none=>xw (dr P G T f) (step P G T pc (λ_ _=>none) f N K todo O L ns)
    |some (d,t)=>mY t (xw (dr P G T f) (step P G T pc (λ_ _=>none) f N K todo (Tr.put 24 O d (some (.d (.v (.bool true))))) L ns)) (xw (dr P G T f) (step P G T pc (λ_ _=>none) f N K todo (Tr.put 24 O d (some (.d (.v (.bool false))))) L ns))
theorem af3 {Q:DQ} {rec:Nat->Nat->List It->TS->Hp->List (Nat×Nat)->Out} (hr:∀N K todo O L ns,Out.ok E Q (rec N K todo O L ns)->eqs ns/\ao E N K todo Q O L):∀{x:Nx},Out.ok E Q (xw rec x)->Nx.ok E Q x
 | .go N' K' todo' O' L' ns',h=>by
  dsimp only[xw]at h;rw[Es]at h;exact hr _ _ _ _ _ _ h
 | .out (.stuck ..),h=>h
 | .out (.fin ..),h=>h
 | .out (.cond b N' K' t1 s1 t2 s2 L' ns'),h=>by
  cases b with
  |true=>
   have:=hr _ _ _ _ _ _ h;exact⟨this.1,λ_=>this.2,(λh=>nomatch h)⟩
  |false=>
   have:=hr _ _ _ _ _ _ h;exact⟨this.1,(λh=>nomatch h),λ_=>this.2⟩
theorem VY (hm:E.P.follows .mixedOrders=true):∀(f:Nat) (Q:DQ) (N K:Nat) (todo:List It) (O:TS) (L:Hp) (ns:List (Nat×Nat)),Out.ok E Q (dr E.P E.G E.T f N K todo O L ns)->eqs ns/\ao E N K todo Q O L
 |0,_,_,_,_,_,_,_,h=>h
 |f+1,Q,N,K,todo,O,L,ns,h=>by
  have one:∀O,Out.ok E Q (xw (dr E.P E.G E.T f) (step E.P E.G E.T pc (λ_ _=>none) f N K todo O L ns))->eqs ns/\ao E N K todo Q O L:=λO h=>
   Sr (c:=pc) (fl:=f) hm (λf hf=>by cases hf) (λf ty z h=>by cases h) (λg x h=>by cases h) (nest:=λ_ _=>none) (λg xs z hz=>by cases hz) (af3 (λN K todo O L ns h=>VY hm f Q N K todo O L ns h) h)
  unfold dr at h;split at h
  ·exact h
  ·split at h
   ·exact h
   ·split at h
    ·exact one O h
    ·rename_i d t ha;cases t with
     |true=>have:=one _ h;exact⟨this.1,ao.Cw ha rfl this.2⟩
     |false=>have:=one _ h;exact⟨this.1,ao.Cw ha rfl this.2⟩
theorem af1 (hm:E.P.follows .mixedOrders=true) (f:Nat) (h:Out.ok E Q (match L with|⟨e,m⟩=>vZ 1000 m 0 λn=>dr E.P E.G E.T f N K k O ⟨e,n⟩ [])):ao E N K k Q O L:=by
 obtain⟨e,m⟩:=L;dsimp only at h;rw[Es]at h;exact(VY hm f Q N K k O ⟨e,m⟩ [] h).2
theorem bl.sn {f:Operand} {args:List Operand} {g:FuncId} {cs:List CV} {xs' xs:List AV} {ns:List (Nat×Nat)} {ms:List (Nat×bC)} {res:AV} {tys:Array TypeId} (h:Pure E.toCx g xs (.ret res)) (ho:o.op= .call {callee:= .value f,args:=args.toArray,argTypes:=tys})
  (hc:eI O f args=some (g,cs)) (hf:cF L.e 60 cs=some (xs',ns,ms)) (hn:eqs ns) (hi:cN xs' xs) (hl:ms=[]\/dD res=true):bl E N o O L (.d res):=bl.pure 60 ho h hc hf hn hi hl
theorem ao.uD {dst:Option Nat} {f:Operand} {args:List Operand} {g:FuncId} {cs:List CV} {xs' xs:List AV} {ns:List (Nat×Nat)} {ms:List (Nat×bC)} {y:AV} {tys:Array TypeId} {ty:TypeId} {pos:String} {after:Array Edge} (h:Pure E.toCx g xs (.aT y)) (hc:eI O f args=some (g,cs)) (hf:cF L.e 60 cs=some (xs',ns,ms)) (hn:eqs ns) (hi:cN xs' xs) (hl:ms=[]\/dD y=true) (hp:kW k=none)
  (hq:Q (.aT (.d y)) .lf L):ao E N K (.ops all (⟨dst,.call {callee:= .value f,args:=args.toArray,argTypes:=tys},ty,pos,after,none⟩::rest)::k) Q O L:=by
 show DO E N K all _ (dq E N K k Q) O L;exact DO.uD 60 h hc hf hn hi hl (mS k N K .lf hp hq)
theorem ao.cT {t:Nat} {z:AV} {ns:List (Nat×Nat)} {ms:List (Nat×bC)} (hx:O.get t=some x) (hf:cF L.e 60 [x]=some ([z],ns,ms)) (hn:eqs ns) (h:ao E N K (.ops all rest::k) Q (Tr.put 24 O t (some (.d z))) (jz ms L)):ao E N K (.ops all rest::k) Q O L:=DO.cT 60 hx hf hn h
theorem ao.sI {t:Nat} {z:AV} {ns:List (Nat×Nat)} {ms:List (Nat×bC)} (hx:O.get t=some x) (hf:cF L.e 60 [x]=some ([z],ns,ms)) (hn:eqs ns) (h:ao E N K (.code c::k) Q (Tr.put 24 O t (some (.d z))) (jz ms L)):ao E N K (.code c::k) Q O L:=by
 unfold ao at h⊢;simp only[dq]at h⊢;exact DC.cT 60 hx hf hn h
theorem ao.l9 {t:TypeId} {p v:Operand} {i n m e kk:Nat} {rows:List (List AV)} {r r':List AV} {y:AV} {ti:TI} (j off:Nat) (ho:o.op= .store t p v) (hg:o.guard=none) (hd:o.dst=none) (hp:aY O p=some (.oe i n m)) (hv:aY O v=some (.d y)) (hi:L.e.get i=some (.row e kk rows)) (hn:n=rows.length)
  (hm:m=j*kk+off) (hr:rows[j]? =some r) (ht:bc E.T t=some ti) (hk:Nat.beq (cH y).length ti.size=true) (h1:fc (cH y)=true) (hl:fN r off (cH y)=some r') (h:ao E N K (.ops all rest::k) Q O (L.set i (.row e kk (rows.set j r')))):ao E N K (.ops all (o::rest)::k) Q O L:=
 DO.l9 j off hg ho hd hp hv hi hn hm hr ht hk h1 hl h
theorem ao.D4 {l:List (Nat×Oper×TK)} {A:b6} {pend:List (Nat×Oper×CV)} {fs:List (Nat×List AV×AV)} {q:Nat} {t:TypeId} {p v:Operand} {i n m e kk:Nat} {rows:List (List AV)} {r r':List AV} {y:AV} {ti:TI} {O1:TS} {L1:Hp} (j off:Nat) (hpd:aJ E N all pend O L) (hnd:fW ((eh (cD all.toArray q A)).map (·.1))=true) (hd:o.dst=none) (cU:fB (eh (cD all.toArray q A)) O L=(O1,L1)) (hw:cZ all o O1=some true)
  (ho:o.op= .store t p v) (hp:aY O1 p=some (.oe i n m)) (hv:aY O1 v=some (.d y)) (hi:L1.e.get i=some (.row e kk rows)) (hn:n=rows.length)
  (hm:m=j*kk+off) (hr:rows[j]? =some r) (ht:bc E.T t=some ti) (hk:Nat.beq (cH y).length ti.size=true) (h1:fc (cH y)=true) (hl:fN r off (cH y)=some r')
  (h:ao E N K (.tl all l (cO all.toArray q A) (dg all q pend) fs::k) Q O1 (L1.set i (.row e kk (rows.set j r')))):ao E N K (.tl all ((q,o,.one)::l) A pend fs::k) Q O L:=
 ao.sr hpd hnd (by rw[hd];rfl) cU hw (b5.l9 j off ho hp hv hi hn hm hr ht hk h1 hl) (λx L' hR=>by obtain⟨h2,rfl⟩:=hR;rw[hd];exact h) (λx L' hR=>by cases hR.1)
theorem fm.aeP {G:Gl} {N:Nat} {O:Sg} {L:List aq} (e:TypeId) (k:Nat):fm G N O L O (L++[.row (.slice none 0 0) e k []]):=λF w a hs=>by
 have hkeep:dF w (Al F L) w (Al F (L++[aq.row (.slice none 0 0) e k []])):=⟨bX _,λb _ ha=>⟨by simpa[Al,cB,cJ,aq.ids,Value.ownBlock,ids]using ha,rfl⟩⟩;refine⟨⟨⟨hs.sg.1,λs x hx=>⟨(hs.sg.2 s x hx).1,(hs.sg.2 s x hx).2.keep hkeep⟩⟩,?_,hs.df⟩,λb hb=>?_⟩
 ·refine hs.hp.push (bX _) (λ_ _=>rfl) (by simp[aq.ids,Value.ownBlock]) (by simp[aq.ids,Value.ownBlock]) ?_;exact⟨[],by simp[bq],by simp,.inl ⟨rfl,rfl⟩⟩
 ·simpa[cB,cJ,aq.ids,Value.ownBlock,ids]using hb
theorem aL.VZ {w:World} {A:Nat->Prop} {t:Nat}:∀{xs:List AV} {vs:List Value} {c:Nat},xs[c]? =some (.v (.slice none 0 0))->aL w A xs vs->aL w A (xs.set c (.os t none 0 0)) vs
 |x::xs,vs,0,hc,h=>by
  simp only[jP,aE]at hc;subst hc;simp only[aL]at h;obtain⟨v,r,rfl,h1,h2⟩:=h;simp only[DD,aL];exact⟨v,r,rfl,by simp only[Rel]at h1⊢;exact h1,h2⟩
 |x::xs,vs,c+1,hc,h=>by
  simp only[aL]at h;obtain⟨v,r,rfl,h1,h2⟩:=h;simp only[q7,aL];exact⟨v,r,rfl,h1,aL.VZ (by simpa using hc) h2⟩
theorem aS.getD {Z:aN}:∀{xs:List CV} {ys:List AV} {c:Nat} {x:AV},aS Z xs ys->xs[c]? =some (.d x)->ys[c]? =some x
 |y::xs,ys,0,x,h,hc=>by
  simp only[jP,aE]at hc;subst hc;simp only[aS]at h;obtain⟨u,r,rfl,h1,_⟩:=h;simp only[aK]at h1;subst h1;rfl
 |y::xs,ys,c+1,x,h,hc=>by
  simp only[aS]at h;obtain⟨u,r,rfl,_,h2⟩:=h;simpa using aS.getD h2 (by simpa using hc)
theorem aS.Fy {Z:aN} {x:CV} {y:AV} (hxy:aK Z x y):∀{xs:List CV} {ys:List AV} {c:Nat},aS Z xs ys->aS Z (xs.set c x) (ys.set c y)
 |[],ys,_,h=>by simp only[aS]at h;subst h;simp[aS]
 |_::xs,ys,0,h=>by
  simp only[aS]at h;obtain⟨u,r,rfl,_,h2⟩:=h;simp only[DD,aS];exact⟨_,_,rfl,hxy,h2⟩
 |_::xs,ys,c+1,h=>by
  simp only[aS]at h;obtain⟨u,r,rfl,h1,h2⟩:=h;simp only[q7,aS];exact⟨_,_,rfl,h1,aS.Fy hxy h2⟩
theorem DC.gS (i c' e kk:Nat) {cs:List CV} (hi:L.e.get i=some (.box cs)) (hc:cs[c']? =some (.d (.v (.slice none 0 0)))) (h:DC E N K c Q O ((L.push (.row e kk [])).set i (.box (cs.set c' (.os L.n 0))))):DC E N K c Q O L:=λZ σB LB hs hh=>by
 obtain⟨y,hy,hE⟩:=hh.en i _ hi;obtain⟨b,cs',hb,rfl,hcs⟩:=hE;have hilt:i<LB.length:=by rw[cM]at hy;exact(cr.1 hy).1
 have hdom:=hh.iX L.n (bX _);have hl:Z.le (Z.bm L.n 0 (none,0)):=aN.mb λy hy=>by rw[hdom.2]at hy;cases hy
 have hbn:(Z.bm L.n 0 (none,0)).s L.n 0=some (none,0):=by simp[aN.bm]
 have hy':nth (LB++[aq.row (.slice none 0 0) e kk []]) i=some (.box b cs'):=by rw[cM]at hy⊢;rw[mF hilt];exact hy
 have hc2:cs'[c']? =some (.v (.slice none 0 0)):=hcs.getD hc;refine cm.lQ (fm.aeP e kk) (cm.lQ (fm.qU i (y:= .box b (cs'.set c' (.os LB.length none 0 0))) hy' rfl (λw A h=>?_)) ?_)
 ·obtain⟨e',vs,h1,h2⟩:=h;exact⟨e',vs,h1,h2.VZ hc2⟩
 refine cm.mono (h _ _ _ (hs.mono hl) ?_) λ_ _ _ hq=>rm (hl.toK K) (λ_ _ _ h=>h) hq;have hp:HS (Z.bm L.n 0 (none,0)) (L.push (.row e kk [])) (LB++[aq.row (.slice none 0 0) e kk []]):=by
  refine hh.push hl (λi hi=>by funext m;simp[aN.bm,hi]) (λ_ _=>rfl) ⟨⟨none,0,by simpa using hbn,by simp⟩,λm hm=>?_⟩;have:m≠0:=by simp at hm;omega
  simp only[aN.bm,this,and_false,if_false];exact hdom.2 m
 refine hp.set (.refl _) (λ_ _=>rfl) (λ_ _=>rfl) ?_ ⟨b,_,hl.1 _ _ hb,rfl,(hcs.mono hl).Fy ?_⟩
 ·have:=hh.lt hi;simp only[Hp.push];omega
 ·simp only[aK];exact⟨none,0,LB.length,hbn,rfl⟩
theorem ao.gS (i c' e kk n:Nat) {cs:List CV} (hn:L.n=n) (hi:L.e.get i=some (.box cs)) (hc:cs[c']? =some (.d (.v (.slice none 0 0)))) (h:ao E N K (.code c::k) Q O ⟨Tr.put 24 (Tr.put 24 L.e n (some (.row e kk []))) i (some (.box (cs.set c' (.os n 0)))),n+1⟩):ao E N K (.code c::k) Q O L:=by
 subst hn;unfold ao at h⊢;simp only[dq]at h⊢;exact DC.gS i c' e kk hi hc h
theorem ao.kR (t e kk n:Nat) (hn:L.n=n) (ht:O.get t=some (.d (.v (.slice none 0 0)))) (h:ao E N K (.code c::k) Q (Tr.put 24 O t (some (.os n 0))) ⟨Tr.put 24 L.e n (some (.row e kk [])),n+1⟩):ao E N K (.code c::k) Q O L:=by
 subst hn;exact ao.jW t e kk ht h
theorem ao.pS (n:Nat) {l:List (Nat×Oper×TK)} {A:b6} {pend:List (Nat×Oper×CV)} {fs:List (Nat×List AV×AV)} {q d u:Nat} {p:Operand} {t:TypeId} {ty:TypeId} {pos:String} {after:Array Edge} {e kk sz by' sz' by'':Nat} {z z':List Value} {td':TD} {rows2:List (List AV)} {O1:TS} {L1:Hp} (hp:aJ E N all pend O L) (hnd:fW ((eh (cD all.toArray q A)).map (·.1))=true) (hd:Nat.blt d N=true) (cU:fB (eh (cD all.toArray q A)) O L=(O1,L1)) (hn:L1.n=n)
  (hu:O1.get u=some (.d (.v (.slice none 0 0)))) (hx:aY (Tr.put 24 O1 u (some (.os n 0))) p=some (.d (.sl kk rows2))) (ht:bc E.T t=some ⟨.slice e kk,sz,by',z⟩) (hte:bc E.T e=some ⟨td',sz',by'',z'⟩)
  (hs':aY (Tr.put 24 O1 u (some (.os n 0))) (.tmp u)=some (.os n 0)) (hi:(Tr.put 24 L1.e n (some (.row e kk []))).get n=some (.row e kk [])) (h1:fU rows2=true)
  (hk:Nat.ble 1 kk=true) (hby:Nat.ble 1 by''=true) (hb:rows2.length*by''<=140737488355328)
  (k1:ao E N K (.tl all l (cO all.toArray q A) (dg all q pend) fs::k) Q (cv O1 (some d) (.os n rows2.length)) ⟨Tr.put 24 (Tr.put 24 L1.e n (some (.row e kk []))) n (some (.row e kk rows2)),n+1⟩):
  ao E N K (.tl all ((q,⟨some d,.call {callee:= .builtin .append,args:= #[.tmp u,p],argTypes:= #[t,t]},ty,pos,after,none⟩,.one)::l) A pend fs::k) Q O L:=by
 subst hn;exact ao.sr hp hnd hd cU rfl (b5.jW u e kk hu (b5.append (rows:=[]) rfl hb hs' hi rfl (.sl hx) ht hte h1 hk hby)) (λx L' hR=>by obtain⟨h2,rfl⟩:=hR;cases h2;exact k1) (λx L' hR=>by cases hR.1)
theorem ao.af4 {l:List (Nat×Oper×TK)} {A:b6} {pend:List (Nat×Oper×CV)} {fs:List (Nat×List AV×AV)} {i j:Nat} {o':Oper} {y:TK} {L1 L2 L3:Hp} (hp:aJ E N all pend O L) (hd:o.dst=none) (hd':o'.dst=none) (hw:cZ all o O=some true) (hw':cZ all o' O=some true)
  (h1:b5 E N o O L (λr L'=>r= .ret (.d (.v undef))/\L'=L1)) (p1:aJ E N all (dg all i pend) O L1) (h2:b5 E N o' O L1 (λr L'=>r= .ret (.d (.v undef))/\L'=L3))
  (h3:b5 E N o' O L (λr L'=>r= .ret (.d (.v undef))/\L'=L2)) (p2:aJ E N all (dg all j pend) O L2) (h4:b5 E N o O L2 (λr L'=>r= .ret (.d (.v undef))/\L'=L3))
  (k1:ao E N K (.tl all l A (dg all j (dg all i pend)) fs::k) Q O L3):ao E N K (.tl all ((i,o,.two)::(j,o',y)::l) A pend fs::k) Q O L:=
 λhf=>cV.pair hp hd hd' hw hw' h1 p1 h2 h3 p2 h4 (k1 hf)
theorem ao.Et {l:List (Nat×Oper×TK)} {A:b6} {pend:List (Nat×Oper×CV)} {fs:List (Nat×List AV×AV)} {qi qj:Nat} {o':Oper} {ytk:TK} {t t2:TypeId} {p v p2 v2:Operand} {i n m e kk b off2:Nat} {rows:List (List AV)} {r r':List AV} {y:AV} {x2:CV} {cs cs':List CV} {ti ti2:TI} (jn off:Nat) (hpd:aJ E N all pend O L) (hd:o.dst=none) (hd':o'.dst=none) (hw:cZ all o O=some true) (hw':cZ all o' O=some true)
  (ho:o.op= .store t p v) (hpv:aY O p=some (.oe i n m)) (hv:aY O v=some (.d y)) (hi:L.e.get i=some (.row e kk rows)) (hn:n=rows.length) (hm:m=jn*kk+off) (hr:rows[jn]? =some r) (ht:bc E.T t=some ti) (hk:Nat.beq (cH y).length ti.size=true) (h1:fc (cH y)=true) (hl:fN r off (cH y)=some r')
  (ho':o'.op= .store t2 p2 v2) (hp2:aY O p2=some (.own b off2)) (hv2:aY O v2=some x2) (hb:L.e.get b=some (.box cs)) (ht2:bc E.T t2=some ti2) (hk2:Nat.beq (eC x2).length ti2.size=true) (h12:nb (eC x2)=true) (hl2:mK cs off2 (eC x2)=some cs')
  (hi':(L.set b (.box cs')).e.get i=some (.row e kk rows)) (hb':(L.set i (.row e kk (rows.set jn r'))).e.get b=some (.box cs)) (he:(L.set b (.box cs')).set i (.row e kk (rows.set jn r'))=(L.set i (.row e kk (rows.set jn r'))).set b (.box cs'))
  (q1:aJ E N all (dg all qi pend) O (L.set i (.row e kk (rows.set jn r')))) (q2:aJ E N all (dg all qj pend) O (L.set b (.box cs')))
  (k1:ao E N K (.tl all l A (dg all qj (dg all qi pend)) fs::k) Q O ((L.set i (.row e kk (rows.set jn r'))).set b (.box cs'))):ao E N K (.tl all ((qi,o,.two)::(qj,o',ytk)::l) A pend fs::k) Q O L:=
 ao.af4 hpd hd hd' hw hw' (b5.l9 jn off ho hpv hv hi hn hm hr ht hk h1 hl) q1 (b5.store ho' hp2 hv2 hb' ht2 hk2 h12 hl2) (b5.store ho' hp2 hv2 hb ht2 hk2 h12 hl2) q2
  ((b5.l9 jn off ho hpv hv hi' hn hm hr ht hk h1 hl).mono λr1 L' hR=>⟨hR.1,hR.2.trans he⟩) k1
theorem Ju {d n:Nat} {q:Operand} {kd:IntKind} {m:Int} (hm:m=(n:Int)) (h:aY O q=some (.d (.v (.int kd m)))):pd O d (some q)=some n:=by
 subst hm;simp only[pd,h];rfl
theorem Jv {d n:Nat} (h:d=n):pd O d none=some n:=by subst h;rfl
theorem ao.eM {l:List (Nat×Oper×TK)} {A:b6} {pend:List (Nat×Oper×CV)} {fs:List (Nat×List AV×AV)} {i q n d:Nat} {s p:Operand} {x:AV} {t:TypeId} {ty:TypeId} {pos:String} {after:Array Edge} {e kk sz by' sz' by'':Nat} {z z':List Value} {td':TD} {rows rows2:List (List AV)} {O1:TS} {L1:Hp} (hp:aJ E N all pend O L) (hnd:fW ((eh (cD all.toArray i A)).map (·.1))=true) (hd:Nat.blt d N=true) (cU:fB (eh (cD all.toArray i A)) O L=(O1,L1))
  (hs':aY O1 s=some (.os q n)) (hi:L1.e.get q=some (.row e kk rows)) (hn:n=rows.length) (hx:aY O1 p=some (.d x)) (hI:cz x (.sl kk rows2)) (ht:bc E.T t=some ⟨.slice e kk,sz,by',z⟩) (hte:bc E.T e=some ⟨td',sz',by'',z'⟩) (h1:fU rows2=true)
  (hk:Nat.ble 1 kk=true) (hby:Nat.ble 1 by''=true) (hb:(rows++rows2).length*by''<=140737488355328)
  (k1:ao E N K (.tl all l (cO all.toArray i A) (dg all i pend) fs::k) Q (cv O1 (some d) (.os q (rows++rows2).length)) (L1.set q (.row e kk (rows++rows2)))):
  ao E N K (.tl all ((i,⟨some d,.call {callee:= .builtin .append,args:= #[s,p],argTypes:= #[t,t]},ty,pos,after,none⟩,.one)::l) A pend fs::k) Q O L:=
 ao.sr hp hnd hd cU rfl (b5.append rfl hb hs' hi hn (.GP hx hI) ht hte h1 hk hby) (λx L' hR=>by obtain⟨h2,rfl⟩:=hR;cases h2;exact k1) (λx L' hR=>by cases hR.1)
theorem DO.sJ {i d n:Nat} {s p:Operand} {x:AV} {t:TypeId} {ty:TypeId} {pos:String} {after:Array Edge} {e kk sz by' sz' by'':Nat} {z z':List Value} {td':TD} {rows rows2:List (List AV)}
  (hs':aY O s=some (.os i n)) (hi:L.e.get i=some (.row e kk rows)) (hn:n=rows.length) (hx:aY O p=some (.d x)) (hI:cz x (.sl kk rows2)) (ht:bc E.T t=some ⟨.slice e kk,sz,by',z⟩) (hte:bc E.T e=some ⟨td',sz',by'',z'⟩) (h1:fU rows2=true)
  (hk:Nat.ble 1 kk=true) (hby:Nat.ble 1 by''=true) (hd:Nat.blt d N=true) (hb:(rows++rows2).length*by''<=140737488355328)
  (k1:ao E N K (.ops all rest::k) Q (cv O (some d) (.os i (rows++rows2).length)) (L.set i (.row e kk (rows++rows2)))):
  ao E N K (.ops all (⟨some d,.call {callee:= .builtin .append,args:= #[s,p],argTypes:= #[t,t]},ty,pos,after,none⟩::rest)::k) Q O L:=
 DO.append hb hs' hi hn (.GP hx hI) ht hte h1 hk hby hd k1
theorem aL.gq {w:World} {A:Nat->Prop} {kk:Nat}:∀{xs:List AV} {vs:List Value} {c:Nat},xs[c]? =some (.v (.slice none 0 0))->aL w A xs vs->aL w A (xs.set c (.sl kk [])) vs
 |x::xs,vs,0,hc,h=>by
  simp only[jP,aE]at hc;subst hc;simp only[aL]at h;obtain⟨v,r,rfl,h1,h2⟩:=h;simp only[DD,aL];exact⟨v,r,rfl,cz.nil kk _ _ _ h1,h2⟩
 |x::xs,vs,c+1,hc,h=>by
  simp only[aL]at h;obtain⟨v,r,rfl,h1,h2⟩:=h;simp only[q7,aL];exact⟨v,r,rfl,h1,aL.gq (by simpa using hc) h2⟩
theorem DC.y4 (i c' kk:Nat) {cs:List CV} (hi:L.e.get i=some (.box cs)) (hc:cs[c']? =some (.d (.v (.slice none 0 0)))) (h:DC E N K c Q O (L.set i (.box (cs.set c' (.d (.sl kk [])))))):DC E N K c Q O L:=λZ σB LB hs hh=>by
 obtain⟨y,hy,hE⟩:=hh.en i _ hi;obtain⟨b,cs',hb,rfl,hcs⟩:=hE;have hc2:cs'[c']? =some (.v (.slice none 0 0)):=hcs.getD hc;refine cm.lQ (fm.qU i (y:= .box b (cs'.set c' (.sl kk []))) hy rfl (λw A h=>?_)) ?_
 ·obtain⟨e',vs,h1,h2⟩:=h;exact⟨e',vs,h1,h2.gq hc2⟩
 exact h Z _ _ hs (hh.set (.refl Z) (λ_ _=>rfl) (λ_ _=>rfl) (hh.lt hi) ⟨b,_,hb,rfl,hcs.Fy (by simp only[aK])⟩)
theorem ao.y4 (i c' kk:Nat) {cs:List CV} (hi:L.e.get i=some (.box cs)) (hc:cs[c']? =some (.d (.v (.slice none 0 0)))) (h:ao E N K (.code c::k) Q O (L.set i (.box (cs.set c' (.d (.sl kk [])))))):ao E N K (.code c::k) Q O L:=by
 unfold ao at h⊢;simp only[dq]at h⊢;exact DC.y4 i c' kk hi hc h
theorem DO.jA (t:Nat) {kk:Nat} {rows:List (List AV)} (ht:O.get t=some (.d (.sl kk rows))) (h1:∀cap,rows=[]->DO E N K all rest Q (Tr.put 24 O t (some (.d (.v (.slice none 0 cap))))) L) (h2:∀ad n cap,DO E N K all rest Q (Tr.put 24 O t (some (.d (.v (.slice (some ad) n cap))))) L):DO E N K all rest Q O L:=λZ σB LB hs hh=>by
 obtain⟨y,g1,g2⟩:=hs t _ ht;simp only[aK]at g2;subst g2;intro F w0 L0 a w hst hxt;obtain⟨hlt,hv⟩:=hst.sg.2 t _ g1;have go:∀x:Value,Rel w (Al F LB) (.v x) _->DO E N K all rest Q (Tr.put 24 O t (some (.d (.v x)))) L->_:=λx hx hd=>
  hd Z ((t,.v x)::σB) LB (hs.put (some t) (x:= .d (.v x)) (y:= .v x) rfl) hh F w0 L0 a w ⟨⟨hst.sg.1,λu q hq=>by
   simp only[look]at hq;cases hb:Nat.beq t u with
   |true=>
    rw[hb]at hq;simp only[aE]at hq;subst hq;rw[<-bQ hb];exact⟨hlt,hx⟩
   |false=>rw[hb]at hq;exact hst.sg.2 u q hq⟩,hst.hp,hst.df⟩ hxt
 simp only[Rel]at hv;rcases hv with⟨hr,ad,cap,he⟩|⟨b,o,cap,vs,he,_⟩
 ·cases ad with
  |none=>exact go _ (by simp only[Rel];exact he) (h1 cap hr)
  |some ad=>exact go _ (by simp only[Rel];exact he) (h2 ad 0 cap)
 ·exact go _ (by simp only[Rel];exact he) (h2 _ _ cap)
theorem ao.jA (t:Nat) {kk:Nat} {rows:List (List AV)} (ht:O.get t=some (.d (.sl kk rows))) (h1:∀cap,rows=[]->ao E N K (.ops all rest::k) Q (Tr.put 24 O t (some (.d (.v (.slice none 0 cap))))) L) (h2:∀ad n cap,ao E N K (.ops all rest::k) Q (Tr.put 24 O t (some (.d (.v (.slice (some ad) n cap))))) L):ao E N K (.ops all rest::k) Q O L:=DO.jA t ht h1 h2
theorem bE.mo {t et:TypeId} {p q:Operand} {yt:TypeId} {ad:Option Addr} {n cap:Nat} (ho:o.op= .binOp .eql t p q yt) (hu:E.P.underlying t=some (.slice et)) (hp:aY O p=some (.d (.v (.slice ad n cap)))) (hq:aY O q=some (.d (.v (.slice none 0 0)))):bE E N o O (.d (.v (.bool ad.isNone))):=
 bE.fi (by rw[ho];cases ad<;>simp[Bw.fi,hu,kS hp,kS hq,vq,qB])
