/- Walks by program: functions that answer as the code does; first part: what the texts that a program prints lean on. -/
import Derived.Test.YtmbalfjhlngncaaGreatKD8
set_option linter.all false
noncomputable section
namespace Go.Bw
open Go
inductive bx (α:Type) where
 |ret (x:α)
 |aO (x:AV)
def bx.ar {α:Type} (f:α->AV):bx α->AR
 | .ret x=> .ret (f x)
 | .aO y=> .aO y
def ao {α:Type} (l:List α) (m:Int):Option α:=match m with
 | .ofNat j=>l[j]?
 | .negSucc _=>none
theorem aaq {α:Type} {l:List α} {m:Int} {x:α} (h:ao l m=some x):∃j:Nat,m=(j:Int)/\l[j]? =some x:=by
 cases m with
 |ofNat j=>exact⟨j,rfl,h⟩
 |negSucc j=>cases h
theorem Pm {α:Type} {l:List α} {m:Int} {x:α} (h:ao l m=some x):m=((m.toNat:Nat):Int)/\l[m.toNat]? =some x:=by
 obtain⟨j,rfl,h⟩:=aaq h;exact⟨rfl,h⟩
theorem ck {α β:Type} {o:Option α} {f:α->Option β} {r:β} (h:o.bind f=some r):∃x,o=some x/\f x=some r:=by
 cases o with
 |none=>cases h
 |some x=>exact⟨x,rfl,h⟩
theorem bE {α:Type} {c:Bool} {a:Option α} {r:α} (h:(bif c then a else none)=some r):c=true/\a=some r:=by
 cases c with
 |true=>exact⟨rfl,h⟩
 |false=>cases h
def dJ (k:IntKind) (l:List Int):List (List AV):=l.map λx=>[.v (.int k x)]
def c9 (l:List Bool):List (List AV):=l.map λx=>[.v (.bool x)]
def aB (l:List (List UInt8)):List (List AV):=l.map λx=>[.v (.string ⟨⟨x⟩⟩)]
theorem nj {k:IntKind} {l:List Int}:(dJ k l).length=l.length:=iK _
theorem sx {l:List Bool}:(c9 l).length=l.length:=iK _
theorem bD {l:List (List UInt8)}:(aB l).length=l.length:=iK _
theorem Cm {k:IntKind} {l:List Int} {i:Nat} {x:Int} (h:l[i]? =some x):(dJ k l)[i]? =some [.v (.int k x)]:=get_map h
theorem oB {l:List Bool} {i:Nat} {x:Bool} (h:l[i]? =some x):(c9 l)[i]? =some [.v (.bool x)]:=get_map h
theorem cL {l:List (List UInt8)} {i:Nat} {x:List UInt8} (h:l[i]? =some x):(aB l)[i]? =some [.v (.string ⟨⟨x⟩⟩)]:=get_map h
theorem aah {k:IntKind} {a b:List Int}:dJ k (a++b)=dJ k a++dJ k b:=pP
theorem aai {a b:List Bool}:c9 (a++b)=c9 a++c9 b:=pP
theorem aag {a b:List (List UInt8)}:aB (a++b)=aB a++aB b:=pP
theorem NP {n:Nat} {l:List (List UInt8)}:aB (l.drop n)=(aB l).drop n:=Yq
theorem NQ {n:Nat} {l:List (List UInt8)}:aB (l.take n)=(aB l).take n:=Fu
def aT {α β:Type} (o:Option (bx α)) (f:α->Option (bx β)):Option (bx β):=match o with
 |some (.ret x)=>f x
 |some (.aO z)=>some (.aO z)
 |none=>none
theorem se {α β:Type} {o:Option (bx α)} {f:α->Option (bx β)} {r:bx β} (h:aT o f=some r):(∃z,o=some (.aO z)/\r= .aO z)\/∃x,o=some (.ret x)/\f x=some r:=by
 cases o with
 |none=>cases h
 |some x=>cases x with
  |ret x=>exact .inr ⟨x,rfl,h⟩
  |aO z=>cases h;exact .inl ⟨z,rfl,rfl⟩
def b7 {α:Type} (l:List α) (lo hi:Int):Option (List α):=match lo,hi with
 | .ofNat a,.ofNat b=>bif Nat.ble a b&&Nat.ble b l.length then some ((l.take b).drop a)else none
 |_,_=>none
theorem NU {α:Type} {l x:List α} {lo hi:Int} (h:b7 l lo hi=some x):∃a b:Nat,lo=(a:Int)/\hi=(b:Int)/\a<=b/\b<=l.length/\(l.take b).drop a=x:=by
 unfold b7 at h;split at h
 ·rename_i a b;revert h;cases hc:(Nat.ble a b&&Nat.ble b l.length)with
  |false=>intro h;cases h
  |true=>
   intro h;simp only[bJ,Nat.ble_eq]at hc;exact⟨a,b,rfl,rfl,hc.1,hc.2,pS h⟩
 ·cases h
theorem FW {α:Type} {f:α->List AV} (hf:∀x,fb [f x]=true) (l:List α):fb (l.map f)=true:=M7 λx _=>hf x
theorem ZN (l:List Bool):fb (c9 l)=true:=FW (λ_=>rfl) l
theorem Cd (l:List (List UInt8)):fb (aB l)=true:=FW (λ_=>rfl) l
section
variable {E:Env} {Q:DQ} {N K:Nat} {Z:TS} {O:Hp} {o:Oper} {all rest:List Oper} {k:List It} {x:CV} {c:Code}
theorem RD.leaf {rs:List ResultVar} {xs:List CV} {z y:AV} {res:AR} {ns:List (Nat×Nat)} {ms:List (Nat×br)} (h:eh E.T Z O rs=some xs) (hf:cr O.e 60 [ff xs]=some ([z],ns,ms)) (hn:eqs ns) (hr:res= .ret y) (e:bV z y):RD E.T rs (Ends 60 res) .ret Z O:=by
 subst hr;exact RD.afh h hf hn e
theorem RD.qX {rs:List ResultVar} {xs:List CV} {z y:AV} {res:AR} {ns:List (Nat×Nat)} {ms:List (Nat×br)} (h:eh E.T Z O rs=some xs) (hf:cr O.e 60 [ff xs]=some ([z],ns,ms)) (hn:eqs ns) (hr:res= .ret y) (e:bV z y):RD E.T rs (Ends 60 res) .norm Z O:=by
 subst hr;exact RD.aeM h hf hn e
theorem RD.xV {rs:List ResultVar} {x:CV} {z y:AV} {res:AR} {ns:List (Nat×Nat)} {ms:List (Nat×br)} (hf:cr O.e 60 [x]=some ([z],ns,ms)) (hn:eqs ns) (hr:res= .aO y) (e:bV z y):RD E.T rs (Ends 60 res) (.aO x) Z O:=by
 subst hr;exact RD.afi hf hn e
theorem bp.conv {y z:CV} (h:bp E N o Z y) (e:y=z):bp E N o Z z:=e▸h
theorem pq {c:Bool} (h:(!c)=false):c=true:=by cases c<;>simp_all
theorem xW {c:Bool} (h:(!c)=true):c=false:=by cases c<;>simp_all
def kW (b:Bool) (A B:Out):Out:=match b with
 |true=>A
 |false=>B
theorem Ok.split {b:Bool} {A B:Out} (h1:b=true->Out.ok E Q A) (h2:b=false->Out.ok E Q B):Out.ok E Q (kW b A B):=by
 cases b with
 |true=>exact h1 rfl
 |false=>exact h2 rfl
theorem Ok.iQ {b:Bool} {A B:Out} (hb:b=true) (h1:Out.ok E Q A):Out.ok E Q (kW b A B):=by subst hb;exact h1
theorem Ok.jI {b:Bool} {A B:Out} (hb:b=false) (h2:Out.ok E Q B):Out.ok E Q (kW b A B):=by subst hb;exact h2
def Eb (all:List Oper) (o:Oper) (Z:TS):Option (Nat×Bool):=match o.guard with
 |none=>none
 |some (j,_)=>match(nth all j).bind (·.dst)with
  |none=>none
  |some d=>match Z.get d with
   |some (.d (.v (.bool t)))=>some (d,t)
   |_=>none
def Ip (Z:TS):List It->Option (Nat×Bool)
 | .lex all _ _ (o::_) _::_=>Eb all o Z
 | .tl all ((_,o,_)::_) _ _ _::_=>Eb all o Z
 |_=>none
theorem SS.Ba {W:aJ} {s:Sl} (hs:SS W Z s) {d:Nat} {t b:Bool} (hd:Z.get d=some (.d (.v (.bool t)))) (ht:t=b):SS W (Tr.put 24 Z d (some (.d (.v (.bool b))))) s:=by
 subst ht;intro u z hz;rcases Tr.eB 24 Z d u _ z hz with⟨rfl,h3⟩|⟨_,h3⟩
 ·cases h3;exact hs _ _ hd
 ·exact hs _ _ h3
theorem Pn {all:List Oper} {o:Oper} {d:Nat} {t:Bool} (h:Eb all o Z=some (d,t)):Z.get d=some (.d (.v (.bool t))):=by
 unfold Eb at h;split at h
 ·cases h
 ·split at h
  ·cases h
  ·split at h
   ·rename_i h1;simp only[aC,cF]at h;obtain⟨rfl,rfl⟩:=h;exact h1
   ·cases h
theorem ak.Ba {todo:List It} {d:Nat} {t b:Bool} (ha:Ip Z todo=some (d,t)) (ht:t=b) (h:ak E N K todo Q (Tr.put 24 Z d (some (.d (.v (.bool b))))) O):ak E N K todo Q Z O:=by
 unfold Ip at ha;split at ha
 ·unfold ak at h⊢;simp only[dq]at h⊢;exactλW s ηB LB hs=>h W s ηB LB (hs.Ba (Pn ha) ht)
 ·unfold ak at h⊢;simp only[dq]at h⊢;exactλhf W s ηB pb hs=>h hf W s ηB pb (hs.Ba (Pn ha) ht)
 ·cases ha
def IK (Z:TS):Op->Bool
 | .indexAddr _ (.tmp t) _=>match Z.get t with
  |some (.os _ _)=>true
  |_=>false
 | .load _ (.tmp t)=>match Z.get t with
  |some (.oe _ _ _)=>true
  |_=>false
 | .store _ (.tmp t) _=>match Z.get t with
  |some (.oe _ _ _)=>true
  |_=>false
 |_=>false
def afj (Z:TS):List It->Bool
 | .ops _ (o::_)::_=>match o.guard with
  |none=>IK Z o.op
  |some _=>false
 | .lex _ _ _ (o::_) _::_=>IK Z o.op
 | .tl _ ((_,o,_)::_) _ _ _::_=>IK Z o.op
 |_=>false
def vH (rec:Nat->Nat->List It->TS->Hp->List (Nat×Nat)->Out):Nx->Out
 | .go N' K' todo' Z' O' ns'=>match O' with
  |⟨e,m⟩=>uF 1000 m 0 λn=>rec N' K' todo' Z' ⟨e,n⟩ ns'
 | .out (.cond b N' K' t1 s1 t2 s2 O' ns')=>kW b (rec N' K' t1 s1 O' ns') (rec N' K' t2 s2 O' ns')
 | .out o=>o
def dr (P:Program) (G:Gl) (T:bZ):Nat->Nat->Nat->List It->TS->Hp->List (Nat×Nat)->Out
 |0,N,K,todo,Z,O,ns=> .stuck N K todo Z O ns
 |f+1,N,K,todo,Z,O,ns=>match rF Z todo with
  |true=> .stuck N K todo Z O ns
  |false=>match afj Z todo with
   |true=> .stuck N K todo Z O ns
   |false=>match Ip Z todo with
    |none=>vH (dr P G T f) (step P G T nL (λ_ _=>none) f N K todo Z O ns)
    |some (d,t)=>kW t (vH (dr P G T f) (step P G T nL (λ_ _=>none) f N K todo (Tr.put 24 Z d (some (.d (.v (.bool true))))) O ns)) (vH (dr P G T f) (step P G T nL (λ_ _=>none) f N K todo (Tr.put 24 Z d (some (.d (.v (.bool false))))) O ns))
theorem aen {Q:DQ} {rec:Nat->Nat->List It->TS->Hp->List (Nat×Nat)->Out} (hr:∀N K todo Z O ns,Out.ok E Q (rec N K todo Z O ns)->eqs ns/\ak E N K todo Q Z O):∀{x:Nx},Out.ok E Q (vH rec x)->Nx.ok E Q x
 | .go N' K' todo' Z' O' ns',h=>by
  dsimp only[vH]at h;rw[CG]at h;exact hr _ _ _ _ _ _ h
 | .out (.stuck ..),h=>h
 | .out (.fin ..),h=>h
 | .out (.cond b N' K' t1 s1 t2 s2 O' ns'),h=>by
  cases b with
  |true=>
   have:=hr _ _ _ _ _ _ h;exact⟨this.1,λ_=>this.2,(λh=>nomatch h)⟩
  |false=>
   have:=hr _ _ _ _ _ _ h;exact⟨this.1,(λh=>nomatch h),λ_=>this.2⟩
theorem T' (hm:E.P.follows .mixedOrders=true):∀(f:Nat) (Q:DQ) (N K:Nat) (todo:List It) (Z:TS) (O:Hp) (ns:List (Nat×Nat)),Out.ok E Q (dr E.P E.G E.T f N K todo Z O ns)->eqs ns/\ak E N K todo Q Z O
 |0,_,_,_,_,_,_,_,h=>h
 |f+1,Q,N,K,todo,Z,O,ns,h=>by
  have one:∀Z,Out.ok E Q (vH (dr E.P E.G E.T f) (step E.P E.G E.T nL (λ_ _=>none) f N K todo Z O ns))->eqs ns/\ak E N K todo Q Z O:=λZ h=>
   Qv (c:=nL) (fl:=f) hm (λf hf=>by cases hf) (λf ty z h=>by cases h) (λg x h=>by cases h) (nest:=λ_ _=>none) (λg xs z hz=>by cases hz) (aen (λN K todo Z O ns h=>T' hm f Q N K todo Z O ns h) h)
  unfold dr at h;split at h
  ·exact h
  ·split at h
   ·exact h
   ·split at h
    ·exact one Z h
    ·rename_i d t ha;cases t with
     |true=>have:=one _ h;exact⟨this.1,ak.Ba ha rfl this.2⟩
     |false=>have:=one _ h;exact⟨this.1,ak.Ba ha rfl this.2⟩
theorem ael (hm:E.P.follows .mixedOrders=true) (f:Nat) (h:Out.ok E Q (match O with|⟨e,m⟩=>uF 1000 m 0 λn=>dr E.P E.G E.T f N K k Z ⟨e,n⟩ [])):ak E N K k Q Z O:=by
 obtain⟨e,m⟩:=O;dsimp only at h;rw[CG]at h;exact(T' hm f Q N K k Z ⟨e,m⟩ [] h).2
theorem bd.qV {f:Operand} {args:List Operand} {g:FuncId} {cs:List CV} {xs' xs:List AV} {ns:List (Nat×Nat)} {ms:List (Nat×br)} {res:AV} {tys:Array TypeId} (h:Pure E.toCx g xs (.ret res)) (ho:o.op= .call {callee:= .value f,args:=args.toArray,argTypes:=tys})
  (hc:dz Z f args=some (g,cs)) (hf:cr O.e 60 cs=some (xs',ns,ms)) (hn:eqs ns) (hi:b8 xs' xs) (hl:ms=[]\/cZ res=true):bd E N o Z O (.d res):=bd.pure 60 ho h hc hf hn hi hl
theorem ak.sR {dst:Option Nat} {f:Operand} {args:List Operand} {g:FuncId} {cs:List CV} {xs' xs:List AV} {ns:List (Nat×Nat)} {ms:List (Nat×br)} {y:AV} {tys:Array TypeId} {ty:TypeId} {pos:String} {after:Array Edge} (h:Pure E.toCx g xs (.aO y)) (hc:dz Z f args=some (g,cs)) (hf:cr O.e 60 cs=some (xs',ns,ms)) (hn:eqs ns) (hi:b8 xs' xs) (hl:ms=[]\/cZ y=true) (hp:jL k=none)
  (hq:Q (.aO (.d y)) .lf O):ak E N K (.ops all (⟨dst,.call {callee:= .value f,args:=args.toArray,argTypes:=tys},ty,pos,after,none⟩::rest)::k) Q Z O:=by
 show DO E N K all _ (dq E N K k Q) Z O;exact DO.sR 60 h hc hf hn hi hl (lO k N K .lf hp hq)
theorem ak.cC {t:Nat} {z:AV} {ns:List (Nat×Nat)} {ms:List (Nat×br)} (hx:Z.get t=some x) (hf:cr O.e 60 [x]=some ([z],ns,ms)) (hn:eqs ns) (h:ak E N K (.ops all rest::k) Q (Tr.put 24 Z t (some (.d z))) (iw ms O)):ak E N K (.ops all rest::k) Q Z O:=DO.cC 60 hx hf hn h
theorem ak.re {t:Nat} {z:AV} {ns:List (Nat×Nat)} {ms:List (Nat×br)} (hx:Z.get t=some x) (hf:cr O.e 60 [x]=some ([z],ns,ms)) (hn:eqs ns) (h:ak E N K (.code c::k) Q (Tr.put 24 Z t (some (.d z))) (iw ms O)):ak E N K (.code c::k) Q Z O:=by
 unfold ak at h⊢;simp only[dq]at h⊢;exact DC.cC 60 hx hf hn h
theorem ak.kp {t:TypeId} {p v:Operand} {i n m e kk:Nat} {rows:List (List AV)} {r r':List AV} {y:AV} {ti:TI} (j off:Nat) (ho:o.op= .store t p v) (hg:o.guard=none) (hd:o.dst=none) (hp:aW Z p=some (.oe i n m)) (hv:aW Z v=some (.d y)) (hi:O.e.get i=some (.row e kk rows)) (hn:n=rows.length)
  (hm:m=j*kk+off) (hr:rows[j]? =some r) (ht:aZ E.T t=some ti) (hk:Nat.beq (cg y).length ti.size=true) (h1:eg (cg y)=true) (hl:eE r off (cg y)=some r') (h:ak E N K (.ops all rest::k) Q Z (O.set i (.row e kk (rows.set j r')))):ak E N K (.ops all (o::rest)::k) Q Z O:=
 DO.kp j off hg ho hd hp hv hi hn hm hr ht hk h1 hl h
theorem ak.Ce {l:List (Nat×Oper×TK)} {A:bN} {pend:List (Nat×Oper×CV)} {fs:List (Nat×List AV×AV)} {q:Nat} {t:TypeId} {p v:Operand} {i n m e kk:Nat} {rows:List (List AV)} {r r':List AV} {y:AV} {ti:TI} {Z1:TS} {O1:Hp} (j off:Nat) (hpd:aE E N all pend Z O) (hnd:fe ((dH (cq all.toArray q A)).map (·.1))=true) (hd:o.dst=none) (cI:eG (dH (cq all.toArray q A)) Z O=(Z1,O1)) (hw:cM all o Z1=some true)
  (ho:o.op= .store t p v) (hp:aW Z1 p=some (.oe i n m)) (hv:aW Z1 v=some (.d y)) (hi:O1.e.get i=some (.row e kk rows)) (hn:n=rows.length)
  (hm:m=j*kk+off) (hr:rows[j]? =some r) (ht:aZ E.T t=some ti) (hk:Nat.beq (cg y).length ti.size=true) (h1:eg (cg y)=true) (hl:eE r off (cg y)=some r')
  (h:ak E N K (.tl all l (cB all.toArray q A) (cP all q pend) fs::k) Q Z1 (O1.set i (.row e kk (rows.set j r')))):ak E N K (.tl all ((q,o,.one)::l) A pend fs::k) Q Z O:=
 ak.qW hpd hnd (by rw[hd];rfl) cI hw (bK.kp j off ho hp hv hi hn hm hr ht hk h1 hl) (λx O' hR=>by obtain⟨h2,rfl⟩:=hR;rw[hd];exact h) (λx O' hR=>by cases hR.1)
theorem dB.ac8 {G:Gl} {N:Nat} {Z:Sg} {O:List aq} (e:TypeId) (k:Nat):dB G N Z O Z (O++[.row (.slice none 0 0) e k []]):=λF w a hs=>by
 have hkeep:cS w (Al F O) w (Al F (O++[aq.row (.slice none 0 0) e k []])):=⟨bS _,λb _ ha=>⟨by simpa[Al,cd,cv,aq.ids,Value.ownBlock,ids]using ha,rfl⟩⟩;refine⟨⟨⟨hs.sg.1,λs x hx=>⟨(hs.sg.2 s x hx).1,(hs.sg.2 s x hx).2.keep hkeep⟩⟩,?_,hs.df⟩,λb hb=>?_⟩
 ·refine hs.hp.push (bS _) (λ_ _=>rfl) (by simp[aq.ids,Value.ownBlock]) (by simp[aq.ids,Value.ownBlock]) ?_;exact⟨[],by simp[bo],by simp,.inl ⟨rfl,rfl⟩⟩
 ·simpa[cd,cv,aq.ids,Value.ownBlock,ids]using hb
theorem aH.Ua {w:World} {A:Nat->Prop} {t:Nat}:∀{xs:List AV} {vs:List Value} {c:Nat},xs[c]? =some (.v (.slice none 0 0))->aH w A xs vs->aH w A (xs.set c (.os t none 0 0)) vs
 |x::xs,vs,0,hc,h=>by
  simp only[jj,aC]at hc;subst hc;simp only[aH]at h;obtain⟨v,r,rfl,h1,h2⟩:=h;simp only[BS,aH];exact⟨v,r,rfl,by simp only[Rel]at h1⊢;exact h1,h2⟩
 |x::xs,vs,c+1,hc,h=>by
  simp only[aH]at h;obtain⟨v,r,rfl,h1,h2⟩:=h;simp only[pT,aH];exact⟨v,r,rfl,h1,aH.Ua (by simpa using hc) h2⟩
theorem aQ.getD {W:aJ}:∀{xs:List CV} {ys:List AV} {c:Nat} {x:AV},aQ W xs ys->xs[c]? =some (.d x)->ys[c]? =some x
 |y::xs,ys,0,x,h,hc=>by
  simp only[jj,aC]at hc;subst hc;simp only[aQ]at h;obtain⟨u,r,rfl,h1,_⟩:=h;simp only[aG]at h1;subst h1;rfl
 |y::xs,ys,c+1,x,h,hc=>by
  simp only[aQ]at h;obtain⟨u,r,rfl,_,h2⟩:=h;simpa using aQ.getD h2 (by simpa using hc)
theorem aQ.DJ {W:aJ} {x:CV} {y:AV} (hxy:aG W x y):∀{xs:List CV} {ys:List AV} {c:Nat},aQ W xs ys->aQ W (xs.set c x) (ys.set c y)
 |[],ys,_,h=>by simp only[aQ]at h;subst h;simp[aQ]
 |_::xs,ys,0,h=>by
  simp only[aQ]at h;obtain⟨u,r,rfl,_,h2⟩:=h;simp only[BS,aQ];exact⟨_,_,rfl,hxy,h2⟩
 |_::xs,ys,c+1,h=>by
  simp only[aQ]at h;obtain⟨u,r,rfl,h1,h2⟩:=h;simp only[pT,aQ];exact⟨_,_,rfl,h1,aQ.DJ hxy h2⟩
theorem DC.gK (i c' e kk:Nat) {cs:List CV} (hi:O.e.get i=some (.box cs)) (hc:cs[c']? =some (.d (.v (.slice none 0 0)))) (h:DC E N K c Q Z ((O.push (.row e kk [])).set i (.box (cs.set c' (.os O.n 0))))):DC E N K c Q Z O:=λW ZB ηB hs hh=>by
 obtain⟨y,hy,hE⟩:=hh.en i _ hi;obtain⟨b,cs',hb,rfl,hcs⟩:=hE;have hilt:i<ηB.length:=by rw[cA]at hy;exact(b9.1 hy).1
 have hdom:=hh.gQ O.n (bS _);have hl:W.le (W.bj O.n 0 (none,0)):=aJ.kP λy hy=>by rw[hdom.2]at hy;cases hy
 have hbn:(W.bj O.n 0 (none,0)).s O.n 0=some (none,0):=by simp[aJ.bj]
 have hy':nth (ηB++[aq.row (.slice none 0 0) e kk []]) i=some (.box b cs'):=by rw[cA]at hy⊢;rw[lz hilt];exact hy
 have hc2:cs'[c']? =some (.v (.slice none 0 0)):=hcs.getD hc;refine bH.iW (dB.ac8 e kk) (bH.iW (dB.A9 i (y:= .box b (cs'.set c' (.os ηB.length none 0 0))) hy' rfl (λw A h=>?_)) ?_)
 ·obtain⟨e',vs,h1,h2⟩:=h;exact⟨e',vs,h1,h2.Ua hc2⟩
 refine bH.mono (h _ _ _ (hs.mono hl) ?_) λ_ _ _ hq=>p9 (hl.toK K) (λ_ _ _ h=>h) hq;have hp:HS (W.bj O.n 0 (none,0)) (O.push (.row e kk [])) (ηB++[aq.row (.slice none 0 0) e kk []]):=by
  refine hh.push hl (λi hi=>by funext m;simp[aJ.bj,hi]) (λ_ _=>rfl) ⟨⟨none,0,by simpa using hbn,by simp⟩,λm hm=>?_⟩;have:m≠0:=by simp at hm;omega
  simp only[aJ.bj,this,and_false,if_false];exact hdom.2 m
 refine hp.set (.refl _) (λ_ _=>rfl) (λ_ _=>rfl) ?_ ⟨b,_,hl.1 _ _ hb,rfl,(hcs.mono hl).DJ ?_⟩
 ·have:=hh.lt hi;simp only[Hp.push];omega
 ·simp only[aG];exact⟨none,0,ηB.length,hbn,rfl⟩
theorem ak.gK (i c' e kk n:Nat) {cs:List CV} (hn:O.n=n) (hi:O.e.get i=some (.box cs)) (hc:cs[c']? =some (.d (.v (.slice none 0 0)))) (h:ak E N K (.code c::k) Q Z ⟨Tr.put 24 (Tr.put 24 O.e n (some (.row e kk []))) i (some (.box (cs.set c' (.os n 0)))),n+1⟩):ak E N K (.code c::k) Q Z O:=by
 subst hn;unfold ak at h⊢;simp only[dq]at h⊢;exact DC.gK i c' e kk hi hc h
theorem ak.kQ (t e kk n:Nat) (hn:O.n=n) (ht:Z.get t=some (.d (.v (.slice none 0 0)))) (h:ak E N K (.code c::k) Q (Tr.put 24 Z t (some (.os n 0))) ⟨Tr.put 24 O.e n (some (.row e kk [])),n+1⟩):ak E N K (.code c::k) Q Z O:=by
 subst hn;exact ak.iR t e kk ht h
theorem ak.mB (n:Nat) {l:List (Nat×Oper×TK)} {A:bN} {pend:List (Nat×Oper×CV)} {fs:List (Nat×List AV×AV)} {q d u:Nat} {p:Operand} {t:TypeId} {ty:TypeId} {pos:String} {after:Array Edge} {e kk sz by' sz' by'':Nat} {z z':List Value} {td':TD} {rows2:List (List AV)} {Z1:TS} {O1:Hp} (hp:aE E N all pend Z O) (hnd:fe ((dH (cq all.toArray q A)).map (·.1))=true) (hd:Nat.blt d N=true) (cI:eG (dH (cq all.toArray q A)) Z O=(Z1,O1)) (hn:O1.n=n)
  (hu:Z1.get u=some (.d (.v (.slice none 0 0)))) (hx:aW (Tr.put 24 Z1 u (some (.os n 0))) p=some (.d (.sl kk rows2))) (ht:aZ E.T t=some ⟨.slice e kk,sz,by',z⟩) (hte:aZ E.T e=some ⟨td',sz',by'',z'⟩)
  (hs':aW (Tr.put 24 Z1 u (some (.os n 0))) (.tmp u)=some (.os n 0)) (hi:(Tr.put 24 O1.e n (some (.row e kk []))).get n=some (.row e kk [])) (h1:fb rows2=true)
  (hk:Nat.ble 1 kk=true) (hby:Nat.ble 1 by''=true) (hb:rows2.length*by''<=140737488355328)
  (k1:ak E N K (.tl all l (cB all.toArray q A) (cP all q pend) fs::k) Q (bW Z1 (some d) (.os n rows2.length)) ⟨Tr.put 24 (Tr.put 24 O1.e n (some (.row e kk []))) n (some (.row e kk rows2)),n+1⟩):
  ak E N K (.tl all ((q,⟨some d,.call {callee:= .builtin .append,args:= #[.tmp u,p],argTypes:= #[t,t]},ty,pos,after,none⟩,.one)::l) A pend fs::k) Q Z O:=by
 subst hn;exact ak.qW hp hnd hd cI rfl (bK.iR u e kk hu (bK.append (rows:=[]) rfl hb hs' hi rfl (.sl hx) ht hte h1 hk hby)) (λx O' hR=>by obtain⟨h2,rfl⟩:=hR;cases h2;exact k1) (λx O' hR=>by cases hR.1)
theorem ak.aeo {l:List (Nat×Oper×TK)} {A:bN} {pend:List (Nat×Oper×CV)} {fs:List (Nat×List AV×AV)} {i j:Nat} {o':Oper} {y:TK} {O1 O2 O3:Hp} (hp:aE E N all pend Z O) (hd:o.dst=none) (hd':o'.dst=none) (hw:cM all o Z=some true) (hw':cM all o' Z=some true)
  (h1:bK E N o Z O (λr O'=>r= .ret (.d (.v undef))/\O'=O1)) (p1:aE E N all (cP all i pend) Z O1) (h2:bK E N o' Z O1 (λr O'=>r= .ret (.d (.v undef))/\O'=O3))
  (h3:bK E N o' Z O (λr O'=>r= .ret (.d (.v undef))/\O'=O2)) (p2:aE E N all (cP all j pend) Z O2) (h4:bK E N o Z O2 (λr O'=>r= .ret (.d (.v undef))/\O'=O3))
  (k1:ak E N K (.tl all l A (cP all j (cP all i pend)) fs::k) Q Z O3):ak E N K (.tl all ((i,o,.two)::(j,o',y)::l) A pend fs::k) Q Z O:=
 λhf=>cE.pair hp hd hd' hw hw' h1 p1 h2 h3 p2 h4 (k1 hf)
theorem ak.CH {l:List (Nat×Oper×TK)} {A:bN} {pend:List (Nat×Oper×CV)} {fs:List (Nat×List AV×AV)} {qi qj:Nat} {o':Oper} {ytk:TK} {t t2:TypeId} {p v p2 v2:Operand} {i n m e kk b off2:Nat} {rows:List (List AV)} {r r':List AV} {y:AV} {x2:CV} {cs cs':List CV} {ti ti2:TI} (jn off:Nat) (hpd:aE E N all pend Z O) (hd:o.dst=none) (hd':o'.dst=none) (hw:cM all o Z=some true) (hw':cM all o' Z=some true)
  (ho:o.op= .store t p v) (hpv:aW Z p=some (.oe i n m)) (hv:aW Z v=some (.d y)) (hi:O.e.get i=some (.row e kk rows)) (hn:n=rows.length) (hm:m=jn*kk+off) (hr:rows[jn]? =some r) (ht:aZ E.T t=some ti) (hk:Nat.beq (cg y).length ti.size=true) (h1:eg (cg y)=true) (hl:eE r off (cg y)=some r')
  (ho':o'.op= .store t2 p2 v2) (hp2:aW Z p2=some (.own b off2)) (hv2:aW Z v2=some x2) (hb:O.e.get b=some (.box cs)) (ht2:aZ E.T t2=some ti2) (hk2:Nat.beq (dP x2).length ti2.size=true) (h12:lU (dP x2)=true) (hl2:lH cs off2 (dP x2)=some cs')
  (hi':(O.set b (.box cs')).e.get i=some (.row e kk rows)) (hb':(O.set i (.row e kk (rows.set jn r'))).e.get b=some (.box cs)) (he:(O.set b (.box cs')).set i (.row e kk (rows.set jn r'))=(O.set i (.row e kk (rows.set jn r'))).set b (.box cs'))
  (q1:aE E N all (cP all qi pend) Z (O.set i (.row e kk (rows.set jn r')))) (q2:aE E N all (cP all qj pend) Z (O.set b (.box cs')))
  (k1:ak E N K (.tl all l A (cP all qj (cP all qi pend)) fs::k) Q Z ((O.set i (.row e kk (rows.set jn r'))).set b (.box cs'))):ak E N K (.tl all ((qi,o,.two)::(qj,o',ytk)::l) A pend fs::k) Q Z O:=
 ak.aeo hpd hd hd' hw hw' (bK.kp jn off ho hpv hv hi hn hm hr ht hk h1 hl) q1 (bK.store ho' hp2 hv2 hb' ht2 hk2 h12 hl2) (bK.store ho' hp2 hv2 hb ht2 hk2 h12 hl2) q2
  ((bK.kp jn off ho hpv hv hi' hn hm hr ht hk h1 hl).mono λr1 O' hR=>⟨hR.1,hR.2.trans he⟩) k1
theorem Hr {d n:Nat} {q:Operand} {kd:IntKind} {m:Int} (hm:m=(n:Int)) (h:aW Z q=some (.d (.v (.int kd m)))):nM Z d (some q)=some n:=by
 subst hm;simp only[nM,h];rfl
theorem Hs {d n:Nat} (h:d=n):nM Z d none=some n:=by subst h;rfl
theorem ak.dY {l:List (Nat×Oper×TK)} {A:bN} {pend:List (Nat×Oper×CV)} {fs:List (Nat×List AV×AV)} {i q n d:Nat} {s p:Operand} {x:AV} {t:TypeId} {ty:TypeId} {pos:String} {after:Array Edge} {e kk sz by' sz' by'':Nat} {z z':List Value} {td':TD} {rows rows2:List (List AV)} {Z1:TS} {O1:Hp} (hp:aE E N all pend Z O) (hnd:fe ((dH (cq all.toArray i A)).map (·.1))=true) (hd:Nat.blt d N=true) (cI:eG (dH (cq all.toArray i A)) Z O=(Z1,O1))
  (hs':aW Z1 s=some (.os q n)) (hi:O1.e.get q=some (.row e kk rows)) (hn:n=rows.length) (hx:aW Z1 p=some (.d x)) (hI:bV x (.sl kk rows2)) (ht:aZ E.T t=some ⟨.slice e kk,sz,by',z⟩) (hte:aZ E.T e=some ⟨td',sz',by'',z'⟩) (h1:fb rows2=true)
  (hk:Nat.ble 1 kk=true) (hby:Nat.ble 1 by''=true) (hb:(rows++rows2).length*by''<=140737488355328)
  (k1:ak E N K (.tl all l (cB all.toArray i A) (cP all i pend) fs::k) Q (bW Z1 (some d) (.os q (rows++rows2).length)) (O1.set q (.row e kk (rows++rows2)))):
  ak E N K (.tl all ((i,⟨some d,.call {callee:= .builtin .append,args:= #[s,p],argTypes:= #[t,t]},ty,pos,after,none⟩,.one)::l) A pend fs::k) Q Z O:=
 ak.qW hp hnd hd cI rfl (bK.append rfl hb hs' hi hn (.EZ hx hI) ht hte h1 hk hby) (λx O' hR=>by obtain⟨h2,rfl⟩:=hR;cases h2;exact k1) (λx O' hR=>by cases hR.1)
theorem DO.pw {i d n:Nat} {s p:Operand} {x:AV} {t:TypeId} {ty:TypeId} {pos:String} {after:Array Edge} {e kk sz by' sz' by'':Nat} {z z':List Value} {td':TD} {rows rows2:List (List AV)}
  (hs':aW Z s=some (.os i n)) (hi:O.e.get i=some (.row e kk rows)) (hn:n=rows.length) (hx:aW Z p=some (.d x)) (hI:bV x (.sl kk rows2)) (ht:aZ E.T t=some ⟨.slice e kk,sz,by',z⟩) (hte:aZ E.T e=some ⟨td',sz',by'',z'⟩) (h1:fb rows2=true)
  (hk:Nat.ble 1 kk=true) (hby:Nat.ble 1 by''=true) (hd:Nat.blt d N=true) (hb:(rows++rows2).length*by''<=140737488355328)
  (k1:ak E N K (.ops all rest::k) Q (bW Z (some d) (.os i (rows++rows2).length)) (O.set i (.row e kk (rows++rows2)))):
  ak E N K (.ops all (⟨some d,.call {callee:= .builtin .append,args:= #[s,p],argTypes:= #[t,t]},ty,pos,after,none⟩::rest)::k) Q Z O:=
 DO.append hb hs' hi hn (.EZ hx hI) ht hte h1 hk hby hd k1
theorem aH.fw {w:World} {A:Nat->Prop} {kk:Nat}:∀{xs:List AV} {vs:List Value} {c:Nat},xs[c]? =some (.v (.slice none 0 0))->aH w A xs vs->aH w A (xs.set c (.sl kk [])) vs
 |x::xs,vs,0,hc,h=>by
  simp only[jj,aC]at hc;subst hc;simp only[aH]at h;obtain⟨v,r,rfl,h1,h2⟩:=h;simp only[BS,aH];exact⟨v,r,rfl,bV.nil kk _ _ _ h1,h2⟩
 |x::xs,vs,c+1,hc,h=>by
  simp only[aH]at h;obtain⟨v,r,rfl,h1,h2⟩:=h;simp only[pT,aH];exact⟨v,r,rfl,h1,aH.fw (by simpa using hc) h2⟩
theorem DC.wT (i c' kk:Nat) {cs:List CV} (hi:O.e.get i=some (.box cs)) (hc:cs[c']? =some (.d (.v (.slice none 0 0)))) (h:DC E N K c Q Z (O.set i (.box (cs.set c' (.d (.sl kk [])))))):DC E N K c Q Z O:=λW ZB ηB hs hh=>by
 obtain⟨y,hy,hE⟩:=hh.en i _ hi;obtain⟨b,cs',hb,rfl,hcs⟩:=hE;have hc2:cs'[c']? =some (.v (.slice none 0 0)):=hcs.getD hc;refine bH.iW (dB.A9 i (y:= .box b (cs'.set c' (.sl kk []))) hy rfl (λw A h=>?_)) ?_
 ·obtain⟨e',vs,h1,h2⟩:=h;exact⟨e',vs,h1,h2.fw hc2⟩
 exact h W _ _ hs (hh.set (.refl W) (λ_ _=>rfl) (λ_ _=>rfl) (hh.lt hi) ⟨b,_,hb,rfl,hcs.DJ (by simp only[aG])⟩)
theorem ak.wT (i c' kk:Nat) {cs:List CV} (hi:O.e.get i=some (.box cs)) (hc:cs[c']? =some (.d (.v (.slice none 0 0)))) (h:ak E N K (.code c::k) Q Z (O.set i (.box (cs.set c' (.d (.sl kk [])))))):ak E N K (.code c::k) Q Z O:=by
 unfold ak at h⊢;simp only[dq]at h⊢;exact DC.wT i c' kk hi hc h
theorem DO.iU (t:Nat) {kk:Nat} {rows:List (List AV)} (ht:Z.get t=some (.d (.sl kk rows))) (h1:∀cap,rows=[]->DO E N K all rest Q (Tr.put 24 Z t (some (.d (.v (.slice none 0 cap))))) O) (h2:∀ad n cap,DO E N K all rest Q (Tr.put 24 Z t (some (.d (.v (.slice (some ad) n cap))))) O):DO E N K all rest Q Z O:=λW ZB ηB hs hh=>by
 obtain⟨y,g1,g2⟩:=hs t _ ht;simp only[aG]at g2;subst g2;intro F w0 O0 a w hst hxt;obtain⟨hlt,hv⟩:=hst.sg.2 t _ g1;have go:∀x:Value,Rel w (Al F ηB) (.v x) _->DO E N K all rest Q (Tr.put 24 Z t (some (.d (.v x)))) O->_:=λx hx hd=>
  hd W ((t,.v x)::ZB) ηB (hs.put (some t) (x:= .d (.v x)) (y:= .v x) rfl) hh F w0 O0 a w ⟨⟨hst.sg.1,λu q hq=>by
   simp only[look]at hq;cases hb:Nat.beq t u with
   |true=>
    rw[hb]at hq;simp only[aC]at hq;subst hq;rw[<-bI hb];exact⟨hlt,hx⟩
   |false=>rw[hb]at hq;exact hst.sg.2 u q hq⟩,hst.hp,hst.df⟩ hxt
 simp only[Rel]at hv;rcases hv with⟨hr,ad,cap,he⟩|⟨b,o,cap,vs,he,_⟩
 ·cases ad with
  |none=>exact go _ (by simp only[Rel];exact he) (h1 cap hr)
  |some ad=>exact go _ (by simp only[Rel];exact he) (h2 ad 0 cap)
 ·exact go _ (by simp only[Rel];exact he) (h2 _ _ cap)
theorem ak.iU (t:Nat) {kk:Nat} {rows:List (List AV)} (ht:Z.get t=some (.d (.sl kk rows))) (h1:∀cap,rows=[]->ak E N K (.ops all rest::k) Q (Tr.put 24 Z t (some (.d (.v (.slice none 0 cap))))) O) (h2:∀ad n cap,ak E N K (.ops all rest::k) Q (Tr.put 24 Z t (some (.d (.v (.slice (some ad) n cap))))) O):ak E N K (.ops all rest::k) Q Z O:=DO.iU t ht h1 h2
theorem bp.mS {t et:TypeId} {p q:Operand} {yt:TypeId} {ad:Option Addr} {n cap:Nat} (ho:o.op= .binOp .eql t p q yt) (hu:E.P.underlying t=some (.slice et)) (hp:aW Z p=some (.d (.v (.slice ad n cap)))) (hq:aW Z q=some (.d (.v (.slice none 0 0)))):bp E N o Z (.d (.v (.bool ad.isNone))):=
 bp.ew (by rw[ho];cases ad<;>simp[Bw.ew,hu,jH hp,jH hq,ub,pr])
