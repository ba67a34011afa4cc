/- Walks by program: functions that answer as the code does; first part: what the texts that a program prints lean on. -/
import Derived.Test.YtnocmolegijmkaaGreatKD8
set_option linter.all false
noncomputable section
namespace Go.Bw
open Go
inductive bB (D:Type) where
 |ret (x:D)
 |aS (x:AV)
def bB.ar {D:Type} (f:D->AV):bB D->AR
 | .ret x=> .ret (f x)
 | .aS y=> .aS y
def aq {D:Type} (l:List D) (m:Int):Option D:=match m with
 | .ofNat j=>l[j]?
 | .negSucc _=>none
theorem ach {D:Type} {l:List D} {m:Int} {x:D} (h:aq l m=some x):∃j:Nat,m=(j:Int)/\l[j]? =some x:=by
 cases m with
 |ofNat j=>exact⟨j,rfl,h⟩
 |negSucc j=>cases h
theorem ado {D:Type} {l:List D} {m:Int} {x:D} (h:aq l m=some x):m=((m.toNat:Nat):Int)/\l[m.toNat]? =some x:=by
 obtain⟨j,rfl,h⟩:=ach h;exact⟨rfl,h⟩
theorem cy {D β:Type} {o:Option D} {f:D->Option β} {r:β} (h:o.bind f=some r):∃x,o=some x/\f x=some r:=by
 cases o with
 |none=>cases h
 |some x=>exact⟨x,rfl,h⟩
theorem bL {D:Type} {c:Bool} {a:Option D} {r:D} (h:(bif c then a else none)=some r):c=true/\a=some r:=by
 cases c with
 |true=>exact⟨rfl,h⟩
 |false=>cases h
def dS (k:IntKind) (l:List Int):List (List AV):=l.map λx=>[.v (.int k x)]
def du (l:List Bool):List (List AV):=l.map λx=>[.v (.bool x)]
def aG (l:List (List UInt8)):List (List AV):=l.map λx=>[.v (.string ⟨⟨x⟩⟩)]
theorem n9 {k:IntKind} {l:List Int}:(dS k l).length=l.length:=jy _
theorem tp {l:List Bool}:(du l).length=l.length:=jy _
theorem bH {l:List (List UInt8)}:(aG l).length=l.length:=jy _
theorem D4 {k:IntKind} {l:List Int} {i:Nat} {x:Int} (h:l[i]? =some x):(dS k l)[i]? =some [.v (.int k x)]:=get_map h
theorem pf {l:List Bool} {i:Nat} {x:Bool} (h:l[i]? =some x):(du l)[i]? =some [.v (.bool x)]:=get_map h
theorem dF {l:List (List UInt8)} {i:Nat} {x:List UInt8} (h:l[i]? =some x):(aG l)[i]? =some [.v (.string ⟨⟨x⟩⟩)]:=get_map h
theorem ab9 {k:IntKind} {a b:List Int}:dS k (a++b)=dS k a++dS k b:=oX
theorem ab' {a b:List Bool}:du (a++b)=du a++du b:=oX
theorem ab8 {a b:List (List UInt8)}:aG (a++b)=aG a++aG b:=oX
theorem QT {n:Nat} {l:List (List UInt8)}:aG (l.drop n)=(aG l).drop n:=aab
theorem QU {n:Nat} {l:List (List UInt8)}:aG (l.take n)=(aG l).take n:=Hb
def aT {D β:Type} (o:Option (bB D)) (f:D->Option (bB β)):Option (bB β):=match o with
 |some (.ret x)=>f x
 |some (.aS z)=>some (.aS z)
 |none=>none
theorem th {D β:Type} {o:Option (bB D)} {f:D->Option (bB β)} {r:bB β} (h:aT o f=some r):(∃z,o=some (.aS z)/\r= .aS z)\/∃x,o=some (.ret x)/\f x=some r:=by
 cases o with
 |none=>cases h
 |some x=>cases x with
  |ret x=>exact .inr ⟨x,rfl,h⟩
  |aS z=>cases h;exact .inl ⟨z,rfl,rfl⟩
def cn {D:Type} (l:List D) (lo hi:Int):Option (List D):=match lo,hi with
 | .ofNat a,.ofNat b=>bif Nat.ble a b&&Nat.ble b l.length then some ((l.take b).drop a)else none
 |_,_=>none
theorem QY {D:Type} {l x:List D} {lo hi:Int} (h:cn l lo hi=some x):∃a b:Nat,lo=(a:Int)/\hi=(b:Int)/\a<=b/\b<=l.length/\(l.take b).drop a=x:=by
 unfold cn at h;split at h
 ·rename_i a b;revert h;cases hc:(Nat.ble a b&&Nat.ble b l.length)with
  |false=>intro h;cases h
  |true=>
   intro h;simp only[bN,Nat.ble_eq]at hc;exact⟨a,b,rfl,rfl,hc.1,hc.2,oZ h⟩
 ·cases h
theorem HE {D:Type} {f:D->List AV} (hf:∀x,fJ [f x]=true) (l:List D):fJ (l.map f)=true:=Qa λx _=>hf x
theorem abC (l:List Bool):fJ (du l)=true:=HE (λ_=>rfl) l
theorem HU (l:List (List UInt8)):fJ (aG l)=true:=HE (λ_=>rfl) l
section
variable {E:Env} {Q:DQ} {N K:Nat} {O:TS} {L:Hp} {o:Oper} {all rest:List Oper} {k:List It} {x:CV} {c:Code}
theorem RD.leaf {rs:List ResultVar} {xs:List CV} {z y:AV} {res:AR} {ns:List (Nat×Nat)} {ms:List (Nat×bz)} (h:eP E.T O L rs=some xs) (hf:cz L.e 60 [fN xs]=some ([z],ns,ms)) (hn:eqs ns) (hr:res= .ret y) (e:cq z y):RD E.T rs (Ends 60 res) .ret O L:=by
 subst hr;exact RD.aiq h hf hn e
theorem RD.rS {rs:List ResultVar} {xs:List CV} {z y:AV} {res:AR} {ns:List (Nat×Nat)} {ms:List (Nat×bz)} (h:eP E.T O L rs=some xs) (hf:cz L.e 60 [fN xs]=some ([z],ns,ms)) (hn:eqs ns) (hr:res= .ret y) (e:cq z y):RD E.T rs (Ends 60 res) .norm O L:=by
 subst hr;exact RD.agO h hf hn e
theorem RD.Af {rs:List ResultVar} {x:CV} {z y:AV} {res:AR} {ns:List (Nat×Nat)} {ms:List (Nat×bz)} (hf:cz L.e 60 [x]=some ([z],ns,ms)) (hn:eqs ns) (hr:res= .aS y) (e:cq z y):RD E.T rs (Ends 60 res) (.aS x) O L:=by
 subst hr;exact RD.air hf hn e
theorem bA.conv {y z:CV} (h:bA E N o O y) (e:y=z):bA E N o O z:=e▸h
theorem qa {c:Bool} (h:(!c)=false):c=true:=by cases c<;>simp_all
theorem Ah {c:Bool} (h:(!c)=true):c=false:=by cases c<;>simp_all
def mD (b:Bool) (A B:Out):Out:=match b with
 |true=>A
 |false=>B
theorem Ok.kZ {b:Bool} {A B:Out} (hb:b=true) (h1:Out.ok E Q A):Out.ok E Q (mD b A B):=by subst hb;exact h1
theorem Ok.la {b:Bool} {A B:Out} (hb:b=false) (h2:Out.ok E Q B):Out.ok E Q (mD b A B):=by subst hb;exact h2
def FT (all:List Oper) (o:Oper) (O:TS):Option (Nat×Bool):=match o.guard with
 |none=>none
 |some (j,_)=>match(nth all j).bind (·.dst)with
  |none=>none
  |some d=>match O.get d with
   |some (.d (.v (.bool t)))=>some (d,t)
   |_=>none
def J4 (O:TS):List It->Option (Nat×Bool)
 | .lex all _ _ (o::_) _::_=>FT all o O
 | .tl all ((_,o,_)::_) _ _ _::_=>FT all o O
 |_=>none
theorem SS.Cm {Z:aN} {s:Sl} (hs:SS Z O s) {d:Nat} {t b:Bool} (hd:O.get d=some (.d (.v (.bool t)))) (ht:t=b):SS Z (Tr.put 24 O d (some (.d (.v (.bool b))))) s:=by
 subst ht;intro u z hz;rcases Tr.fi 24 O d u _ z hz with⟨rfl,h3⟩|⟨_,h3⟩
 ·cases h3;exact hs _ _ hd
 ·exact hs _ _ h3
theorem Sq {all:List Oper} {o:Oper} {d:Nat} {t:Bool} (h:FT all o O=some (d,t)):O.get d=some (.d (.v (.bool t))):=by
 unfold FT at h;split at h
 ·cases h
 ·split at h
  ·cases h
  ·split at h
   ·rename_i h1;simp only[aD,cM]at h;obtain⟨rfl,rfl⟩:=h;exact h1
   ·cases h
theorem au.Cm {todo:List It} {d:Nat} {t b:Bool} (ha:J4 O todo=some (d,t)) (ht:t=b) (h:au E N K todo Q (Tr.put 24 O d (some (.d (.v (.bool b))))) L):au E N K todo Q O L:=by
 unfold J4 at ha;split at ha
 ·unfold au at h⊢;simp only[dq]at h⊢;exactλZ s LB WB hs=>h Z s LB WB (hs.Cm (Sq ha) ht)
 ·unfold au at h⊢;simp only[dq]at h⊢;exactλhf Z s LB pb hs=>h hf Z s LB pb (hs.Cm (Sq ha) ht)
 ·cases ha
def Lf (O:TS):Op->Bool
 | .indexAddr _ (.tmp t) _=>match O.get t with
  |some (.os _ _)=>true
  |_=>false
 | .load _ (.tmp t)=>match O.get t with
  |some (.oe _ _ _)=>true
  |_=>false
 | .store _ (.tmp t) _=>match O.get t with
  |some (.oe _ _ _)=>true
  |_=>false
 |_=>false
def ais (O:TS):List It->Bool
 | .ops _ (o::_)::_=>match o.guard with
  |none=>Lf O o.op
  |some _=>false
 | .lex _ _ _ (o::_) _::_=>Lf O o.op
 | .tl _ ((_,o,_)::_) _ _ _::_=>Lf O o.op
 |_=>false
def xb (rec:Nat->Nat->List It->TS->Hp->List (Nat×Nat)->Out):Nx->Out
 | .go N' K' todo' O' L' ns'=>match L' with
  |⟨e,m⟩=>vB 1000 m 0 λn=>rec N' K' todo' O' ⟨e,n⟩ ns'
 | .out (.cond b N' K' t1 s1 t2 s2 L' ns')=>mD b (rec N' K' t1 s1 L' ns') (rec N' K' t2 s2 L' ns')
 | .out o=>o
def dr (P:Program) (G:Gl) (T:b8):Nat->Nat->Nat->List It->TS->Hp->List (Nat×Nat)->Out
 |0,N,K,todo,O,L,ns=> .stuck N K todo O L ns
 |f+1,N,K,todo,O,L,ns=>match sH O todo with
  |true=> .stuck N K todo O L ns
  |false=>match ais O todo with
   |true=> .stuck N K todo O L ns
   |false=>match J4 O todo with
    |none=>xb (dr P G T f) (step P G T oG (λ_ _=>none) f N K todo O L ns)
    |some (d,t)=>mD t (xb (dr P G T f) (step P G T oG (λ_ _=>none) f N K todo (Tr.put 24 O d (some (.d (.v (.bool true))))) L ns)) (xb (dr P G T f) (step P G T oG (λ_ _=>none) f N K todo (Tr.put 24 O d (some (.d (.v (.bool false))))) L ns))
theorem af9 {Q:DQ} {rec:Nat->Nat->List It->TS->Hp->List (Nat×Nat)->Out} (hr:∀N K todo O L ns,Out.ok E Q (rec N K todo O L ns)->eqs ns/\au E N K todo Q O L):∀{x:Nx},Out.ok E Q (xb rec x)->Nx.ok E Q x
 | .go N' K' todo' O' L' ns',h=>by
  dsimp only[xb]at h;rw[Ek]at h;exact hr _ _ _ _ _ _ h
 | .out (.stuck ..),h=>h
 | .out (.fin ..),h=>h
 | .out (.cond b N' K' t1 s1 t2 s2 L' ns'),h=>by
  cases b with
  |true=>
   have:=hr _ _ _ _ _ _ h;exact⟨this.1,λ_=>this.2,(λh=>nomatch h)⟩
  |false=>
   have:=hr _ _ _ _ _ _ h;exact⟨this.1,(λh=>nomatch h),λ_=>this.2⟩
theorem W6 (hm:E.P.follows .mixedOrders=true):∀(f:Nat) (Q:DQ) (N K:Nat) (todo:List It) (O:TS) (L:Hp) (ns:List (Nat×Nat)),Out.ok E Q (dr E.P E.G E.T f N K todo O L ns)->eqs ns/\au E N K todo Q O L
 |0,_,_,_,_,_,_,_,h=>h
 |f+1,Q,N,K,todo,O,L,ns,h=>by
  have one:∀O,Out.ok E Q (xb (dr E.P E.G E.T f) (step E.P E.G E.T oG (λ_ _=>none) f N K todo O L ns))->eqs ns/\au E N K todo Q O L:=λO h=>
   TC (c:=oG) (fl:=f) hm (λf hf=>by cases hf) (λf ty z h=>by cases h) (λg x h=>by cases h) (nest:=λ_ _=>none) (λg xs z hz=>by cases hz) (af9 (λN K todo O L ns h=>W6 hm f Q N K todo O L ns h) h)
  unfold dr at h;split at h
  ·exact h
  ·split at h
   ·exact h
   ·split at h
    ·exact one O h
    ·rename_i d t ha;cases t with
     |true=>have:=one _ h;exact⟨this.1,au.Cm ha rfl this.2⟩
     |false=>have:=one _ h;exact⟨this.1,au.Cm ha rfl this.2⟩
theorem af7 (hm:E.P.follows .mixedOrders=true) (f:Nat) (h:Out.ok E Q (match L with|⟨e,m⟩=>vB 1000 m 0 λn=>dr E.P E.G E.T f N K k O ⟨e,n⟩ [])):au E N K k Q O L:=by
 obtain⟨e,m⟩:=L;dsimp only at h;rw[Ek]at h;exact(W6 hm f Q N K k O ⟨e,m⟩ [] h).2
theorem bh.rP {f:Operand} {args:List Operand} {g:FuncId} {cs:List CV} {xs' xs:List AV} {ns:List (Nat×Nat)} {ms:List (Nat×bz)} {res:AV} {tys:Array TypeId} (h:Pure E.toCx g xs (.ret res)) (ho:o.op= .call {callee:= .value f,args:=args.toArray,argTypes:=tys})
  (hc:ew O f args=some (g,cs)) (hf:cz L.e 60 cs=some (xs',ns,ms)) (hn:eqs ns) (hi:cH xs' xs) (hl:ms=[]\/dz res=true):bh E N o O L (.d res):=bh.pure 60 ho h hc hf hn hi hl
theorem au.tX {dst:Option Nat} {f:Operand} {args:List Operand} {g:FuncId} {cs:List CV} {xs' xs:List AV} {ns:List (Nat×Nat)} {ms:List (Nat×bz)} {y:AV} {tys:Array TypeId} {ty:TypeId} {pos:String} {after:Array Edge} (h:Pure E.toCx g xs (.aS y)) (hc:ew O f args=some (g,cs)) (hf:cz L.e 60 cs=some (xs',ns,ms)) (hn:eqs ns) (hi:cH xs' xs) (hl:ms=[]\/dz y=true) (hp:kA k=none)
  (hq:Q (.aS (.d y)) .lf L):au E N K (.ops all (⟨dst,.call {callee:= .value f,args:=args.toArray,argTypes:=tys},ty,pos,after,none⟩::rest)::k) Q O L:=by
 show DO E N K all _ (dq E N K k Q) O L;exact DO.tX 60 h hc hf hn hi hl (mw k N K .lf hp hq)
theorem au.cO {t:Nat} {z:AV} {ns:List (Nat×Nat)} {ms:List (Nat×bz)} (hx:O.get t=some x) (hf:cz L.e 60 [x]=some ([z],ns,ms)) (hn:eqs ns) (h:au E N K (.ops all rest::k) Q (Tr.put 24 O t (some (.d z))) (je ms L)):au E N K (.ops all rest::k) Q O L:=DO.cO 60 hx hf hn h
theorem au.r8 {t:Nat} {z:AV} {ns:List (Nat×Nat)} {ms:List (Nat×bz)} (hx:O.get t=some x) (hf:cz L.e 60 [x]=some ([z],ns,ms)) (hn:eqs ns) (h:au E N K (.code c::k) Q (Tr.put 24 O t (some (.d z))) (je ms L)):au E N K (.code c::k) Q O L:=by
 unfold au at h⊢;simp only[dq]at h⊢;exact DC.cO 60 hx hf hn h
theorem au.lL {t:TypeId} {p v:Operand} {i n m e kk:Nat} {rows:List (List AV)} {r r':List AV} {y:AV} {ti:TI} (j off:Nat) (ho:o.op= .store t p v) (hg:o.guard=none) (hd:o.dst=none) (hp:aX O p=some (.oe i n m)) (hv:aX O v=some (.d y)) (hi:L.e.get i=some (.row e kk rows)) (hn:n=rows.length)
  (hm:m=j*kk+off) (hr:rows[j]? =some r) (ht:bc E.T t=some ti) (hk:Nat.beq (cA y).length ti.size=true) (h1:eT (cA y)=true) (hl:fC r off (cA y)=some r') (h:au E N K (.ops all rest::k) Q O (L.set i (.row e kk (rows.set j r')))):au E N K (.ops all (o::rest)::k) Q O L:=
 DO.lL j off hg ho hd hp hv hi hn hm hr ht hk h1 hl h
theorem au.DT {l:List (Nat×Oper×TK)} {A:bS} {pend:List (Nat×Oper×CV)} {fs:List (Nat×List AV×AV)} {q:Nat} {t:TypeId} {p v:Operand} {i n m e kk:Nat} {rows:List (List AV)} {r r':List AV} {y:AV} {ti:TI} {O1:TS} {L1:Hp} (j off:Nat) (hpd:aI E N all pend O L) (hnd:fL ((dX (cw all.toArray q A)).map (·.1))=true) (hd:o.dst=none) (cR:fm (dX (cw all.toArray q A)) O L=(O1,L1)) (hw:cX all o O1=some true)
  (ho:o.op= .store t p v) (hp:aX O1 p=some (.oe i n m)) (hv:aX O1 v=some (.d y)) (hi:L1.e.get i=some (.row e kk rows)) (hn:n=rows.length)
  (hm:m=j*kk+off) (hr:rows[j]? =some r) (ht:bc E.T t=some ti) (hk:Nat.beq (cA y).length ti.size=true) (h1:eT (cA y)=true) (hl:fC r off (cA y)=some r')
  (h:au E N K (.tl all l (cJ all.toArray q A) (de all q pend) fs::k) Q O1 (L1.set i (.row e kk (rows.set j r')))):au E N K (.tl all ((q,o,.one)::l) A pend fs::k) Q O L:=
 au.rR hpd hnd (by rw[hd];rfl) cR hw (bR.lL j off ho hp hv hi hn hm hr ht hk h1 hl) (λx L' hR=>by obtain⟨h2,rfl⟩:=hR;rw[hd];exact h) (λx L' hR=>by cases hR.1)
theorem eZ.aeX {G:Gl} {N:Nat} {O:Sg} {L:List aw} (e:TypeId) (k:Nat):eZ G N O L O (L++[.row (.slice none 0 0) e k []]):=λF w a hs=>by
 have hkeep:dC w (Al F L) w (Al F (L++[aw.row (.slice none 0 0) e k []])):=⟨bW _,λb _ ha=>⟨by simpa[Al,cu,cC,aw.ids,Value.ownBlock,ids]using ha,rfl⟩⟩;refine⟨⟨⟨hs.sg.1,λs x hx=>⟨(hs.sg.2 s x hx).1,(hs.sg.2 s x hx).2.keep hkeep⟩⟩,?_,hs.df⟩,λb hb=>?_⟩
 ·refine hs.hp.push (bW _) (λ_ _=>rfl) (by simp[aw.ids,Value.ownBlock]) (by simp[aw.ids,Value.ownBlock]) ?_;exact⟨[],by simp[bl],by simp,.inl ⟨rfl,rfl⟩⟩
 ·simpa[cu,cC,aw.ids,Value.ownBlock,ids]using hb
theorem aL.W7 {w:World} {A:Nat->Prop} {t:Nat}:∀{xs:List AV} {vs:List Value} {c:Nat},xs[c]? =some (.v (.slice none 0 0))->aL w A xs vs->aL w A (xs.set c (.os t none 0 0)) vs
 |x::xs,vs,0,hc,h=>by
  simp only[jz,aD]at hc;subst hc;simp only[aL]at h;obtain⟨v,r,rfl,h1,h2⟩:=h;simp only[Dq,aL];exact⟨v,r,rfl,by simp only[Rel]at h1⊢;exact h1,h2⟩
 |x::xs,vs,c+1,hc,h=>by
  simp only[aL]at h;obtain⟨v,r,rfl,h1,h2⟩:=h;simp only[qB,aL];exact⟨v,r,rfl,h1,aL.W7 (by simpa using hc) h2⟩
theorem aR.getD {Z:aN}:∀{xs:List CV} {ys:List AV} {c:Nat} {x:AV},aR Z xs ys->xs[c]? =some (.d x)->ys[c]? =some x
 |y::xs,ys,0,x,h,hc=>by
  simp only[jz,aD]at hc;subst hc;simp only[aR]at h;obtain⟨u,r,rfl,h1,_⟩:=h;simp only[aK]at h1;subst h1;rfl
 |y::xs,ys,c+1,x,h,hc=>by
  simp only[aR]at h;obtain⟨u,r,rfl,_,h2⟩:=h;simpa using aR.getD h2 (by simpa using hc)
theorem aR.Fj {Z:aN} {x:CV} {y:AV} (hxy:aK Z x y):∀{xs:List CV} {ys:List AV} {c:Nat},aR Z xs ys->aR Z (xs.set c x) (ys.set c y)
 |[],ys,_,h=>by simp only[aR]at h;subst h;simp[aR]
 |_::xs,ys,0,h=>by
  simp only[aR]at h;obtain⟨u,r,rfl,_,h2⟩:=h;simp only[Dq,aR];exact⟨_,_,rfl,hxy,h2⟩
 |_::xs,ys,c+1,h=>by
  simp only[aR]at h;obtain⟨u,r,rfl,h1,h2⟩:=h;simp only[qB,aR];exact⟨_,_,rfl,h1,aR.Fj hxy h2⟩
theorem DC.gH (i c' e kk:Nat) {cs:List CV} (hi:L.e.get i=some (.box cs)) (hc:cs[c']? =some (.d (.v (.slice none 0 0)))) (h:DC E N K c Q O ((L.push (.row e kk [])).set i (.box (cs.set c' (.os L.n 0))))):DC E N K c Q O L:=λZ OB LB hs hh=>by
 obtain⟨y,hy,hE⟩:=hh.en i _ hi;obtain⟨b,cs',hb,rfl,hcs⟩:=hE;have hilt:i<LB.length:=by rw[cG]at hy;exact(cr.1 hy).1
 have hdom:=hh.iJ L.n (bW _);have hl:Z.le (Z.bj L.n 0 (none,0)):=aN.lO λy hy=>by rw[hdom.2]at hy;cases hy
 have hbn:(Z.bj L.n 0 (none,0)).s L.n 0=some (none,0):=by simp[aN.bj]
 have hy':nth (LB++[aw.row (.slice none 0 0) e kk []]) i=some (.box b cs'):=by rw[cG]at hy⊢;rw[mh hilt];exact hy
 have hc2:cs'[c']? =some (.v (.slice none 0 0)):=hcs.getD hc;refine b7.ln (eZ.aeX e kk) (b7.ln (eZ.Cl i (y:= .box b (cs'.set c' (.os LB.length none 0 0))) hy' rfl (λw A h=>?_)) ?_)
 ·obtain⟨e',vs,h1,h2⟩:=h;exact⟨e',vs,h1,h2.W7 hc2⟩
 refine b7.mono (h _ _ _ (hs.mono hl) ?_) λ_ _ _ hq=>qP (hl.toK K) (λ_ _ _ h=>h) hq;have hp:HS (Z.bj L.n 0 (none,0)) (L.push (.row e kk [])) (LB++[aw.row (.slice none 0 0) e kk []]):=by
  refine hh.push hl (λi hi=>by funext m;simp[aN.bj,hi]) (λ_ _=>rfl) ⟨⟨none,0,by simpa using hbn,by simp⟩,λm hm=>?_⟩;have:m≠0:=by simp at hm;omega
  simp only[aN.bj,this,and_false,if_false];exact hdom.2 m
 refine hp.set (.refl _) (λ_ _=>rfl) (λ_ _=>rfl) ?_ ⟨b,_,hl.1 _ _ hb,rfl,(hcs.mono hl).Fj ?_⟩
 ·have:=hh.lt hi;simp only[Hp.push];omega
 ·simp only[aK];exact⟨none,0,LB.length,hbn,rfl⟩
theorem au.gH (i c' e kk n:Nat) {cs:List CV} (hn:L.n=n) (hi:L.e.get i=some (.box cs)) (hc:cs[c']? =some (.d (.v (.slice none 0 0)))) (h:au E N K (.code c::k) Q O ⟨Tr.put 24 (Tr.put 24 L.e n (some (.row e kk []))) i (some (.box (cs.set c' (.os n 0)))),n+1⟩):au E N K (.code c::k) Q O L:=by
 subst hn;unfold au at h⊢;simp only[dq]at h⊢;exact DC.gH i c' e kk hi hc h
theorem au.kv (t e kk n:Nat) (hn:L.n=n) (ht:O.get t=some (.d (.v (.slice none 0 0)))) (h:au E N K (.code c::k) Q (Tr.put 24 O t (some (.os n 0))) ⟨Tr.put 24 L.e n (some (.row e kk [])),n+1⟩):au E N K (.code c::k) Q O L:=by
 subst hn;exact au.jF t e kk ht h
theorem au.pr (n:Nat) {l:List (Nat×Oper×TK)} {A:bS} {pend:List (Nat×Oper×CV)} {fs:List (Nat×List AV×AV)} {q d u:Nat} {p:Operand} {t:TypeId} {ty:TypeId} {pos:String} {after:Array Edge} {e kk sz by' sz' by'':Nat} {z z':List Value} {td':TD} {rows2:List (List AV)} {O1:TS} {L1:Hp} (hp:aI E N all pend O L) (hnd:fL ((dX (cw all.toArray q A)).map (·.1))=true) (hd:Nat.blt d N=true) (cR:fm (dX (cw all.toArray q A)) O L=(O1,L1)) (hn:L1.n=n)
  (hu:O1.get u=some (.d (.v (.slice none 0 0)))) (hx:aX (Tr.put 24 O1 u (some (.os n 0))) p=some (.d (.sl kk rows2))) (ht:bc E.T t=some ⟨.slice e kk,sz,by',z⟩) (hte:bc E.T e=some ⟨td',sz',by'',z'⟩)
  (hs':aX (Tr.put 24 O1 u (some (.os n 0))) (.tmp u)=some (.os n 0)) (hi:(Tr.put 24 L1.e n (some (.row e kk []))).get n=some (.row e kk [])) (h1:fJ rows2=true)
  (hk:Nat.ble 1 kk=true) (hby:Nat.ble 1 by''=true) (hb:rows2.length*by''<=140737488355328)
  (k1:au E N K (.tl all l (cJ all.toArray q A) (de all q pend) fs::k) Q (cj O1 (some d) (.os n rows2.length)) ⟨Tr.put 24 (Tr.put 24 L1.e n (some (.row e kk []))) n (some (.row e kk rows2)),n+1⟩):
  au E N K (.tl all ((q,⟨some d,.call {callee:= .builtin .append,args:= #[.tmp u,p],argTypes:= #[t,t]},ty,pos,after,none⟩,.one)::l) A pend fs::k) Q O L:=by
 subst hn;exact au.rR hp hnd hd cR rfl (bR.jF u e kk hu (bR.append (rows:=[]) rfl hb hs' hi rfl (.sl hx) ht hte h1 hk hby)) (λx L' hR=>by obtain⟨h2,rfl⟩:=hR;cases h2;exact k1) (λx L' hR=>by cases hR.1)
theorem au.af' {l:List (Nat×Oper×TK)} {A:bS} {pend:List (Nat×Oper×CV)} {fs:List (Nat×List AV×AV)} {i j:Nat} {o':Oper} {y:TK} {L1 L2 L3:Hp} (hp:aI E N all pend O L) (hd:o.dst=none) (hd':o'.dst=none) (hw:cX all o O=some true) (hw':cX all o' O=some true)
  (h1:bR E N o O L (λr L'=>r= .ret (.d (.v undef))/\L'=L1)) (p1:aI E N all (de all i pend) O L1) (h2:bR E N o' O L1 (λr L'=>r= .ret (.d (.v undef))/\L'=L3))
  (h3:bR E N o' O L (λr L'=>r= .ret (.d (.v undef))/\L'=L2)) (p2:aI E N all (de all j pend) O L2) (h4:bR E N o O L2 (λr L'=>r= .ret (.d (.v undef))/\L'=L3))
  (k1:au E N K (.tl all l A (de all j (de all i pend)) fs::k) Q O L3):au E N K (.tl all ((i,o,.two)::(j,o',y)::l) A pend fs::k) Q O L:=
 λhf=>cT.pair hp hd hd' hw hw' h1 p1 h2 h3 p2 h4 (k1 hf)
theorem au.El {l:List (Nat×Oper×TK)} {A:bS} {pend:List (Nat×Oper×CV)} {fs:List (Nat×List AV×AV)} {qi qj:Nat} {o':Oper} {ytk:TK} {t t2:TypeId} {p v p2 v2:Operand} {i n m e kk b off2:Nat} {rows:List (List AV)} {r r':List AV} {y:AV} {x2:CV} {cs cs':List CV} {ti ti2:TI} (jn off:Nat) (hpd:aI E N all pend O L) (hd:o.dst=none) (hd':o'.dst=none) (hw:cX all o O=some true) (hw':cX all o' O=some true)
  (ho:o.op= .store t p v) (hpv:aX O p=some (.oe i n m)) (hv:aX O v=some (.d y)) (hi:L.e.get i=some (.row e kk rows)) (hn:n=rows.length) (hm:m=jn*kk+off) (hr:rows[jn]? =some r) (ht:bc E.T t=some ti) (hk:Nat.beq (cA y).length ti.size=true) (h1:eT (cA y)=true) (hl:fC r off (cA y)=some r')
  (ho':o'.op= .store t2 p2 v2) (hp2:aX O p2=some (.own b off2)) (hv2:aX O v2=some x2) (hb:L.e.get b=some (.box cs)) (ht2:bc E.T t2=some ti2) (hk2:Nat.beq (eh x2).length ti2.size=true) (h12:mG (eh x2)=true) (hl2:mm cs off2 (eh x2)=some cs')
  (hi':(L.set b (.box cs')).e.get i=some (.row e kk rows)) (hb':(L.set i (.row e kk (rows.set jn r'))).e.get b=some (.box cs)) (he:(L.set b (.box cs')).set i (.row e kk (rows.set jn r'))=(L.set i (.row e kk (rows.set jn r'))).set b (.box cs'))
  (q1:aI E N all (de all qi pend) O (L.set i (.row e kk (rows.set jn r')))) (q2:aI E N all (de all qj pend) O (L.set b (.box cs')))
  (k1:au E N K (.tl all l A (de all qj (de all qi pend)) fs::k) Q O ((L.set i (.row e kk (rows.set jn r'))).set b (.box cs'))):au E N K (.tl all ((qi,o,.two)::(qj,o',ytk)::l) A pend fs::k) Q O L:=
 au.af' hpd hd hd' hw hw' (bR.lL jn off ho hpv hv hi hn hm hr ht hk h1 hl) q1 (bR.store ho' hp2 hv2 hb' ht2 hk2 h12 hl2) (bR.store ho' hp2 hv2 hb ht2 hk2 h12 hl2) q2
  ((bR.lL jn off ho hpv hv hi' hn hm hr ht hk h1 hl).mono λr1 L' hR=>⟨hR.1,hR.2.trans he⟩) k1
theorem I9 {d n:Nat} {q:Operand} {kd:IntKind} {m:Int} (hm:m=(n:Int)) (h:aX O q=some (.d (.v (.int kd m)))):oH O d (some q)=some n:=by
 subst hm;simp only[oH,h];rfl
theorem I' {d n:Nat} (h:d=n):oH O d none=some n:=by subst h;rfl
theorem au.eG {l:List (Nat×Oper×TK)} {A:bS} {pend:List (Nat×Oper×CV)} {fs:List (Nat×List AV×AV)} {i q n d:Nat} {s p:Operand} {x:AV} {t:TypeId} {ty:TypeId} {pos:String} {after:Array Edge} {e kk sz by' sz' by'':Nat} {z z':List Value} {td':TD} {rows rows2:List (List AV)} {O1:TS} {L1:Hp} (hp:aI E N all pend O L) (hnd:fL ((dX (cw all.toArray i A)).map (·.1))=true) (hd:Nat.blt d N=true) (cR:fm (dX (cw all.toArray i A)) O L=(O1,L1))
  (hs':aX O1 s=some (.os q n)) (hi:L1.e.get q=some (.row e kk rows)) (hn:n=rows.length) (hx:aX O1 p=some (.d x)) (hI:cq x (.sl kk rows2)) (ht:bc E.T t=some ⟨.slice e kk,sz,by',z⟩) (hte:bc E.T e=some ⟨td',sz',by'',z'⟩) (h1:fJ rows2=true)
  (hk:Nat.ble 1 kk=true) (hby:Nat.ble 1 by''=true) (hb:(rows++rows2).length*by''<=140737488355328)
  (k1:au E N K (.tl all l (cJ all.toArray i A) (de all i pend) fs::k) Q (cj O1 (some d) (.os q (rows++rows2).length)) (L1.set q (.row e kk (rows++rows2)))):
  au E N K (.tl all ((i,⟨some d,.call {callee:= .builtin .append,args:= #[s,p],argTypes:= #[t,t]},ty,pos,after,none⟩,.one)::l) A pend fs::k) Q O L:=
 au.rR hp hnd hd cR rfl (bR.append rfl hb hs' hi hn (.GC hx hI) ht hte h1 hk hby) (λx L' hR=>by obtain⟨h2,rfl⟩:=hR;cases h2;exact k1) (λx L' hR=>by cases hR.1)
theorem DO.r9 {i d n:Nat} {s p:Operand} {x:AV} {t:TypeId} {ty:TypeId} {pos:String} {after:Array Edge} {e kk sz by' sz' by'':Nat} {z z':List Value} {td':TD} {rows rows2:List (List AV)}
  (hs':aX O s=some (.os i n)) (hi:L.e.get i=some (.row e kk rows)) (hn:n=rows.length) (hx:aX O p=some (.d x)) (hI:cq x (.sl kk rows2)) (ht:bc E.T t=some ⟨.slice e kk,sz,by',z⟩) (hte:bc E.T e=some ⟨td',sz',by'',z'⟩) (h1:fJ rows2=true)
  (hk:Nat.ble 1 kk=true) (hby:Nat.ble 1 by''=true) (hd:Nat.blt d N=true) (hb:(rows++rows2).length*by''<=140737488355328)
  (k1:au E N K (.ops all rest::k) Q (cj O (some d) (.os i (rows++rows2).length)) (L.set i (.row e kk (rows++rows2)))):
  au E N K (.ops all (⟨some d,.call {callee:= .builtin .append,args:= #[s,p],argTypes:= #[t,t]},ty,pos,after,none⟩::rest)::k) Q O L:=
 DO.append hb hs' hi hn (.GC hx hI) ht hte h1 hk hby hd k1
theorem aL.fZ {w:World} {A:Nat->Prop} {kk:Nat}:∀{xs:List AV} {vs:List Value} {c:Nat},xs[c]? =some (.v (.slice none 0 0))->aL w A xs vs->aL w A (xs.set c (.sl kk [])) vs
 |x::xs,vs,0,hc,h=>by
  simp only[jz,aD]at hc;subst hc;simp only[aL]at h;obtain⟨v,r,rfl,h1,h2⟩:=h;simp only[Dq,aL];exact⟨v,r,rfl,cq.nil kk _ _ _ h1,h2⟩
 |x::xs,vs,c+1,hc,h=>by
  simp only[aL]at h;obtain⟨v,r,rfl,h1,h2⟩:=h;simp only[qB,aL];exact⟨v,r,rfl,h1,aL.fZ (by simpa using hc) h2⟩
theorem DC.xZ (i c' kk:Nat) {cs:List CV} (hi:L.e.get i=some (.box cs)) (hc:cs[c']? =some (.d (.v (.slice none 0 0)))) (h:DC E N K c Q O (L.set i (.box (cs.set c' (.d (.sl kk [])))))):DC E N K c Q O L:=λZ OB LB hs hh=>by
 obtain⟨y,hy,hE⟩:=hh.en i _ hi;obtain⟨b,cs',hb,rfl,hcs⟩:=hE;have hc2:cs'[c']? =some (.v (.slice none 0 0)):=hcs.getD hc;refine b7.ln (eZ.Cl i (y:= .box b (cs'.set c' (.sl kk []))) hy rfl (λw A h=>?_)) ?_
 ·obtain⟨e',vs,h1,h2⟩:=h;exact⟨e',vs,h1,h2.fZ hc2⟩
 exact h Z _ _ hs (hh.set (.refl Z) (λ_ _=>rfl) (λ_ _=>rfl) (hh.lt hi) ⟨b,_,hb,rfl,hcs.Fj (by simp only[aK])⟩)
theorem au.xZ (i c' kk:Nat) {cs:List CV} (hi:L.e.get i=some (.box cs)) (hc:cs[c']? =some (.d (.v (.slice none 0 0)))) (h:au E N K (.code c::k) Q O (L.set i (.box (cs.set c' (.d (.sl kk [])))))):au E N K (.code c::k) Q O L:=by
 unfold au at h⊢;simp only[dq]at h⊢;exact DC.xZ i c' kk hi hc h
theorem DO.jg (t:Nat) {kk:Nat} {rows:List (List AV)} (ht:O.get t=some (.d (.sl kk rows))) (h1:∀cap,rows=[]->DO E N K all rest Q (Tr.put 24 O t (some (.d (.v (.slice none 0 cap))))) L) (h2:∀ad n cap,DO E N K all rest Q (Tr.put 24 O t (some (.d (.v (.slice (some ad) n cap))))) L):DO E N K all rest Q O L:=λZ OB LB hs hh=>by
 obtain⟨y,g1,g2⟩:=hs t _ ht;simp only[aK]at g2;subst g2;intro F w0 L0 a w hst hxt;obtain⟨hlt,hv⟩:=hst.sg.2 t _ g1;have go:∀x:Value,Rel w (Al F LB) (.v x) _->DO E N K all rest Q (Tr.put 24 O t (some (.d (.v x)))) L->_:=λx hx hd=>
  hd Z ((t,.v x)::OB) LB (hs.put (some t) (x:= .d (.v x)) (y:= .v x) rfl) hh F w0 L0 a w ⟨⟨hst.sg.1,λu q hq=>by
   simp only[look]at hq;cases hb:Nat.beq t u with
   |true=>
    rw[hb]at hq;simp only[aD]at hq;subst hq;rw[<-bK hb];exact⟨hlt,hx⟩
   |false=>rw[hb]at hq;exact hst.sg.2 u q hq⟩,hst.hp,hst.df⟩ hxt
 simp only[Rel]at hv;rcases hv with⟨hr,ad,cap,he⟩|⟨b,o,cap,vs,he,_⟩
 ·cases ad with
  |none=>exact go _ (by simp only[Rel];exact he) (h1 cap hr)
  |some ad=>exact go _ (by simp only[Rel];exact he) (h2 ad 0 cap)
 ·exact go _ (by simp only[Rel];exact he) (h2 _ _ cap)
theorem au.jg (t:Nat) {kk:Nat} {rows:List (List AV)} (ht:O.get t=some (.d (.sl kk rows))) (h1:∀cap,rows=[]->au E N K (.ops all rest::k) Q (Tr.put 24 O t (some (.d (.v (.slice none 0 cap))))) L) (h2:∀ad n cap,au E N K (.ops all rest::k) Q (Tr.put 24 O t (some (.d (.v (.slice (some ad) n cap))))) L):au E N K (.ops all rest::k) Q O L:=DO.jg t ht h1 h2
theorem bA.lY {t et:TypeId} {p q:Operand} {yt:TypeId} {ad:Option Addr} {n cap:Nat} (ho:o.op= .binOp .eql t p q yt) (hu:E.P.underlying t=some (.slice et)) (hp:aX O p=some (.d (.v (.slice ad n cap)))) (hq:aX O q=some (.d (.v (.slice none 0 0)))):bA E N o O (.d (.v (.bool ad.isNone))):=
 bA.eX (by rw[ho];cases ad<;>simp[Bw.eX,hu,kx hp,kx hq,uW,qb])
