/- Walks by program: functions that answer as the code does; first part: what the texts that a program prints lean on. -/
import Derived.Test.YtnocmolegijmkaaGreatKD8
set_option linter.all false
noncomputable section
namespace Go.Bw
open Go
inductive aR (D:Type) where
 |ret (x:D)
 |aM (x:AV)
def aR.ar {D:Type} (f:D->AV):aR D->AR
 | .ret x=> .ret (f x)
 | .aM y=> .aM y
def ao {D:Type} (l:List D) (m:Int):Option D:=match m with
 | .ofNat j=>l[j]?
 | .negSucc _=>none
theorem UO {D:Type} {l:List D} {m:Int} {x:D} (h:ao l m=some x):∃j:Nat,m=(j:Int)/\l[j]? =some x:=by
 cases m with
 |ofNat j=>exact⟨j,rfl,h⟩
 |negSucc j=>cases h
theorem VG {D:Type} {l:List D} {m:Int} {x:D} (h:ao l m=some x):m=((m.toNat:Nat):Int)/\l[m.toNat]? =some x:=by
 obtain⟨j,rfl,h⟩:=UO h;exact⟨rfl,h⟩
theorem iC {D β:Type} {o:Option D} {f:D->Option β} {r:β} (h:o.bind f=some r):∃x,o=some x/\f x=some r:=by
 cases o with
 |none=>cases h
 |some x=>exact⟨x,rfl,h⟩
theorem cD {D:Type} {c:Bool} {a:Option D} {r:D} (h:(bif c then a else none)=some r):c=true/\a=some r:=by
 cases c with
 |true=>exact⟨rfl,h⟩
 |false=>cases h
def ep (k:IntKind) (l:List Int):List (List AV):=l.map λx=>[.v (.int k x)]
def jm (l:List Bool):List (List AV):=l.map λx=>[.v (.bool x)]
def aT (l:List (List UInt8)):List (List AV):=l.map λx=>[.v (.string ⟨⟨x⟩⟩)]
theorem qD {k:IntKind} {l:List Int}:(ep k l).length=l.length:=jI _
theorem UP {l:List Bool}:(jm l).length=l.length:=jI _
theorem cv {l:List (List UInt8)}:(aT l).length=l.length:=jI _
theorem K5 {k:IntKind} {l:List Int} {i:Nat} {x:Int} (h:l[i]? =some x):(ep k l)[i]? =some [.v (.int k x)]:=get_map h
theorem Ek {l:List Bool} {i:Nat} {x:Bool} (h:l[i]? =some x):(jm l)[i]? =some [.v (.bool x)]:=get_map h
theorem gB {l:List (List UInt8)} {i:Nat} {x:List UInt8} (h:l[i]? =some x):(aT l)[i]? =some [.v (.string ⟨⟨x⟩⟩)]:=get_map h
theorem UQ {k:IntKind} {a b:List Int}:ep k (a++b)=ep k a++ep k b:=Ag
theorem UR {a b:List Bool}:jm (a++b)=jm a++jm b:=Ag
theorem US {a b:List (List UInt8)}:aT (a++b)=aT a++aT b:=Ag
theorem T5 {n:Nat} {l:List (List UInt8)}:aT (l.drop n)=(aT l).drop n:=SX
theorem T6 {n:Nat} {l:List (List UInt8)}:aT (l.take n)=(aT l).take n:=SY
def aA {D β:Type} (o:Option (aR D)) (f:D->Option (aR β)):Option (aR β):=match o with
 |some (.ret x)=>f x
 |some (.aM z)=>some (.aM z)
 |none=>none
theorem sO {D β:Type} {o:Option (aR D)} {f:D->Option (aR β)} {r:aR β} (h:aA o f=some r):(∃z,o=some (.aM z)/\r= .aM z)\/∃x,o=some (.ret x)/\f x=some r:=by
 cases o with
 |none=>cases h
 |some x=>cases x with
  |ret x=>exact .inr ⟨x,rfl,h⟩
  |aM z=>cases h;exact .inl ⟨z,rfl,rfl⟩
def oB {D:Type} (l:List D) (lo hi:Int):Option (List D):=match lo,hi with
 | .ofNat a,.ofNat b=>bif Nat.ble a b&&Nat.ble b l.length then some ((l.take b).drop a)else none
 |_,_=>none
theorem T' {D:Type} {l x:List D} {lo hi:Int} (h:oB l lo hi=some x):∃a b:Nat,lo=(a:Int)/\hi=(b:Int)/\a<=b/\b<=l.length/\(l.take b).drop a=x:=by
 unfold oB at h;split at h
 ·rename_i a b;revert h;cases hc:(Nat.ble a b&&Nat.ble b l.length)with
  |false=>intro h;cases h
  |true=>
   intro h;simp only[bG,Nat.ble_eq]at hc;exact⟨a,b,rfl,rfl,hc.1,hc.2,vH h⟩
 ·cases h
theorem Ko {D:Type} {f:D->List AV} (hf:∀x,gC [f x]=true) (l:List D):gC (l.map f)=true:=Ke λx _=>hf x
theorem Ua (l:List (List UInt8)):gC (aT l)=true:=Ko (λ_=>rfl) l
section
variable {E:Env} {Q:DQ} {N K:Nat} {O:TS} {L:Hp} {o:Oper} {all rest:List Oper} {k:List It} {x:CV} {c:Code}
theorem RD.leaf {rs:List ResultVar} {xs:List CV} {z y:AV} {res:AR} {ns:List (Nat×Nat)} {ms:List (Nat×bl)} (h:ei E.T O L rs=some xs) (hf:cd L.e 60 [fe xs]=some ([z],ns,ms)) (hn:eqs ns) (hr:res= .ret y) (e:bX z y):RD E.T rs (Ends 60 res) .ret O L:=by
 subst hr;exact RD.aak h hf hn e
theorem RD.rA {rs:List ResultVar} {xs:List CV} {z y:AV} {res:AR} {ns:List (Nat×Nat)} {ms:List (Nat×bl)} (h:ei E.T O L rs=some xs) (hf:cd L.e 60 [fe xs]=some ([z],ns,ms)) (hn:eqs ns) (hr:res= .ret y) (e:bX z y):RD E.T rs (Ends 60 res) .norm O L:=by
 subst hr;exact RD.Zq h hf hn e
theorem RD.xo {rs:List ResultVar} {x:CV} {z y:AV} {res:AR} {ns:List (Nat×Nat)} {ms:List (Nat×bl)} (hf:cd L.e 60 [x]=some ([z],ns,ms)) (hn:eqs ns) (hr:res= .aM y) (e:bX z y):RD E.T rs (Ends 60 res) (.aM x) O L:=by
 subst hr;exact RD.aal hf hn e
theorem bm.xp {dst:Option Nat} {f:Operand} {args:List Operand} {g:FuncId} {cs:List CV} {xs ys:List AV} {res:AV} {tys:Array TypeId} {ty:TypeId} {pos:String} {after:Array Edge} {gd:Option (Nat×Bool)} (h:Pure E.toCx g ys (.ret res)) (hc:dE O f args=some (g,cs)) (hx:fU cs=some xs) (hi:b7 xs ys):
  bm E N ⟨dst,.call {callee:= .value f,args:=args.toArray,argTypes:=tys},ty,pos,after,gd⟩ O (.d res):=bm.call (h.args hi) hc hx
theorem bm.conv {y z:CV} (h:bm E N o O y) (e:y=z):bm E N o O z:=e▸h
theorem PQ {c:Bool} (h:c=false):(!c)=true:=by rw[h];rfl
theorem PR {c:Bool} (h:c=true):(!c)=false:=by rw[h];rfl
theorem uz {c:Bool} (h:(!c)=false):c=true:=by cases c<;>simp_all
theorem Gz {c:Bool} (h:(!c)=true):c=false:=by cases c<;>simp_all
def mn (b:Bool) (A B:Out):Out:=match b with
 |true=>A
 |false=>B
theorem Ok.mg {b:Bool} {A B:Out} (hb:b=true) (h1:Out.ok E Q A):Out.ok E Q (mn b A B):=by subst hb;exact h1
theorem Ok.lz {b:Bool} {A B:Out} (hb:b=false) (h2:Out.ok E Q B):Out.ok E Q (mn b A B):=by subst hb;exact h2
def Cq (all:List Oper) (o:Oper) (O:TS):Option (Nat×Bool):=match o.guard with
 |none=>none
 |some (j,_)=>match(nth all j).bind (·.dst)with
  |none=>none
  |some d=>match O.get d with
   |some (.d (.v (.bool t)))=>some (d,t)
   |_=>none
def GA (O:TS):List It->Option (Nat×Bool)
 | .lex all _ _ (o::_) _::_=>Cq all o O
 | .tl all ((_,o,_)::_) _ _ _::_=>Cq all o O
 |_=>none
theorem SS.za {Z:aH} {s:Sl} (hs:SS Z O s) {d:Nat} {t b:Bool} (hd:O.get d=some (.d (.v (.bool t)))) (ht:t=b):SS Z (Tr.put 24 O d (some (.d (.v (.bool b))))) s:=by
 subst ht;intro u z hz;rcases Tr.fb 24 O d u _ z hz with⟨rfl,h3⟩|⟨_,h3⟩
 ·cases h3;exact hs _ _ hd
 ·exact hs _ _ h3
theorem LW {all:List Oper} {o:Oper} {d:Nat} {t:Bool} (h:Cq all o O=some (d,t)):O.get d=some (.d (.v (.bool t))):=by
 unfold Cq at h;split at h
 ·cases h
 ·split at h
  ·cases h
  ·split at h
   ·rename_i h1;simp only[aE,ck]at h;obtain⟨rfl,rfl⟩:=h;exact h1
   ·cases h
theorem az.za {todo:List It} {d:Nat} {t b:Bool} (ha:GA O todo=some (d,t)) (ht:t=b) (h:az E N K todo Q (Tr.put 24 O d (some (.d (.v (.bool b))))) L):az E N K todo Q O L:=by
 unfold GA at ha;split at ha
 ·unfold az at h⊢;simp only[dq]at h⊢;exactλZ s LB WB hs=>h Z s LB WB (hs.za (LW ha) ht)
 ·unfold az at h⊢;simp only[dq]at h⊢;exactλhf Z s LB pb hs=>h hf Z s LB pb (hs.za (LW ha) ht)
 ·cases ha
def G' (O:TS):Op->Bool
 | .indexAddr _ (.tmp t) _=>match O.get t with
  |some (.os _ _)=>true
  |_=>false
 | .load _ (.tmp t)=>match O.get t with
  |some (.oe _ _ _)=>true
  |_=>false
 | .store _ (.tmp t) _=>match O.get t with
  |some (.oe _ _ _)=>true
  |_=>false
 |_=>false
def aam (O:TS):List It->Bool
 | .ops _ (o::_)::_=>match o.guard with
  |none=>G' O o.op
  |some _=>false
 | .lex _ _ _ (o::_) _::_=>G' O o.op
 | .tl _ ((_,o,_)::_) _ _ _::_=>G' O o.op
 |_=>false
def vf (rec:Nat->Nat->List It->TS->Hp->List (Nat×Nat)->Out):Nx->Out
 | .go N' K' todo' O' L' ns'=>match L' with
  |⟨e,m⟩=>ux 1000 m 0 λn=>rec N' K' todo' O' ⟨e,n⟩ ns'
 | .out (.cond b N' K' t1 s1 t2 s2 L' ns')=>mn b (rec N' K' t1 s1 L' ns') (rec N' K' t2 s2 L' ns')
 | .out o=>o
def dr (P:Program) (G:Gl) (T:bQ):Nat->Nat->Nat->List It->TS->Hp->List (Nat×Nat)->Out
 |0,N,K,todo,O,L,ns=> .stuck N K todo O L ns
 |f+1,N,K,todo,O,L,ns=>match sq O todo with
  |true=> .stuck N K todo O L ns
  |false=>match aam O todo with
   |true=> .stuck N K todo O L ns
   |false=>match GA O todo with
    |none=>vf (dr P G T f) (step P G T oG (λ_ _=>none) f N K todo O L ns)
    |some (d,t)=>mn t (vf (dr P G T f) (step P G T oG (λ_ _=>none) f N K todo (Tr.put 24 O d (some (.d (.v (.bool true))))) L ns)) (vf (dr P G T f) (step P G T oG (λ_ _=>none) f N K todo (Tr.put 24 O d (some (.d (.v (.bool false))))) L ns))
theorem XE {Q:DQ} {rec:Nat->Nat->List It->TS->Hp->List (Nat×Nat)->Out} (hr:∀N K todo O L ns,Out.ok E Q (rec N K todo O L ns)->eqs ns/\az E N K todo Q O L):∀{x:Nx},Out.ok E Q (vf rec x)->Nx.ok E Q x
 | .go N' K' todo' O' L' ns',h=>by
  dsimp only[vf]at h;rw[A2]at h;exact hr _ _ _ _ _ _ h
 | .out (.stuck ..),h=>h
 | .out (.fin ..),h=>h
 | .out (.cond b N' K' t1 s1 t2 s2 L' ns'),h=>by
  cases b with
  |true=>
   have:=hr _ _ _ _ _ _ h;exact⟨this.1,λ_=>this.2,(λh=>nomatch h)⟩
  |false=>
   have:=hr _ _ _ _ _ _ h;exact⟨this.1,(λh=>nomatch h),λ_=>this.2⟩
theorem Po (hm:E.P.follows .mixedOrders=true):∀(f:Nat) (Q:DQ) (N K:Nat) (todo:List It) (O:TS) (L:Hp) (ns:List (Nat×Nat)),Out.ok E Q (dr E.P E.G E.T f N K todo O L ns)->eqs ns/\az E N K todo Q O L
 |0,_,_,_,_,_,_,_,h=>h
 |f+1,Q,N,K,todo,O,L,ns,h=>by
  have one:∀O,Out.ok E Q (vf (dr E.P E.G E.T f) (step E.P E.G E.T oG (λ_ _=>none) f N K todo O L ns))->eqs ns/\az E N K todo Q O L:=λO h=>
   Mz (c:=oG) (fl:=f) hm (λf hf=>by cases hf) (λf ty z h=>by cases h) (λg x h=>by cases h) (nest:=λ_ _=>none) (λg xs z hz=>by cases hz) (XE (λN K todo O L ns h=>Po hm f Q N K todo O L ns h) h)
  unfold dr at h;split at h
  ·exact h
  ·split at h
   ·exact h
   ·split at h
    ·exact one O h
    ·rename_i d t ha;cases t with
     |true=>have:=one _ h;exact⟨this.1,az.za ha rfl this.2⟩
     |false=>have:=one _ h;exact⟨this.1,az.za ha rfl this.2⟩
theorem XC (hm:E.P.follows .mixedOrders=true) (f:Nat) (h:Out.ok E Q (match L with|⟨e,m⟩=>ux 1000 m 0 λn=>dr E.P E.G E.T f N K k O ⟨e,n⟩ [])):az E N K k Q O L:=by
 obtain⟨e,m⟩:=L;dsimp only at h;rw[A2]at h;exact(Po hm f Q N K k O ⟨e,m⟩ [] h).2
theorem ba.rv {f:Operand} {args:List Operand} {g:FuncId} {cs:List CV} {xs' xs:List AV} {ns:List (Nat×Nat)} {ms:List (Nat×bl)} {res:AV} {tys:Array TypeId} (h:Pure E.toCx g xs (.ret res)) (ho:o.op= .call {callee:= .value f,args:=args.toArray,argTypes:=tys})
  (hc:dE O f args=some (g,cs)) (hf:cd L.e 60 cs=some (xs',ns,ms)) (hn:eqs ns) (hi:b7 xs' xs) (hl:ms=[]\/cR res=true):ba E N o O L (.d res):=ba.pure 60 ho h hc hf hn hi hl
theorem az.tm {dst:Option Nat} {f:Operand} {args:List Operand} {g:FuncId} {cs:List CV} {xs' xs:List AV} {ns:List (Nat×Nat)} {ms:List (Nat×bl)} {y:AV} {tys:Array TypeId} {ty:TypeId} {pos:String} {after:Array Edge} (h:Pure E.toCx g xs (.aM y)) (hc:dE O f args=some (g,cs)) (hf:cd L.e 60 cs=some (xs',ns,ms)) (hn:eqs ns) (hi:b7 xs' xs) (hl:ms=[]\/cR y=true) (hp:jS k=none)
  (hq:Q (.aM (.d y)) .lf L):az E N K (.ops all (⟨dst,.call {callee:= .value f,args:=args.toArray,argTypes:=tys},ty,pos,after,none⟩::rest)::k) Q O L:=by
 show DO E N K all _ (dq E N K k Q) O L;exact DO.tm 60 h hc hf hn hi hl (mf k N K .lf hp hq)
theorem az.cH {t:Nat} {z:AV} {ns:List (Nat×Nat)} {ms:List (Nat×bl)} (hx:O.get t=some x) (hf:cd L.e 60 [x]=some ([z],ns,ms)) (hn:eqs ns) (h:az E N K (.ops all rest::k) Q (Tr.put 24 O t (some (.d z))) (iR ms L)):az E N K (.ops all rest::k) Q O L:=DO.cH 60 hx hf hn h
theorem az.qA {l:List (Nat×Oper×TK)} {A:bM} {pend:List (Nat×Oper×CV)} {fs:List (Nat×List AV×AV)} {q:Nat} {t:TypeId} {p v:Operand} {i n m e kk:Nat} {rows:List (List AV)} {r r':List AV} {y:AV} {ti:TI} {O1:TS} {η1:Hp} (j off:Nat) (hpd:aF E N all pend O L) (hnd:fw ((dH (b8 all.toArray q A)).map (·.1))=true) (hd:o.dst=none) (cz:eU (dH (b8 all.toArray q A)) O L=(O1,η1)) (hw:cG all o O1=some true)
  (ho:o.op= .store t p v) (hp:aV O1 p=some (.oe i n m)) (hv:aV O1 v=some (.d y)) (hi:η1.e.get i=some (.row e kk rows)) (hn:n=rows.length)
  (hm:m=j*kk+off) (hr:rows[j]? =some r) (ht:aY E.T t=some ti) (hk:Nat.beq (cg y).length ti.size=true) (h1:eV (cg y)=true) (hl:fc r off (cg y)=some r')
  (h:az E N K (.tl all l (cn all.toArray q A) (cI all q pend) fs::k) Q O1 (η1.set i (.row e kk (rows.set j r')))):az E N K (.tl all ((q,o,.one)::l) A pend fs::k) Q O L:=
 az.uy hpd hnd (by rw[hd];rfl) cz hw (bL.qJ j off ho hp hv hi hn hm hr ht hk h1 hl) (λx L' hR=>by obtain⟨h2,rfl⟩:=hR;rw[hd];exact h) (λx L' hR=>by cases hR.1)
theorem iU.WA {G:Gl} {N:Nat} {O:Sg} {L:List au} (e:TypeId) (k:Nat):iU G N O L O (L++[.row (.slice none 0 0) e k []]):=λF w a hs=>by
 have hkeep:dm w (Al F L) w (Al F (L++[au.row (.slice none 0 0) e k []])):=⟨bU _,λb _ ha=>⟨by simpa[Al,cp,cJ,au.ids,Value.ownBlock,ids]using ha,rfl⟩⟩;refine⟨⟨⟨hs.sg.1,λs x hx=>⟨(hs.sg.2 s x hx).1,(hs.sg.2 s x hx).2.bo hkeep⟩⟩,?_,hs.df⟩,λb hb=>?_⟩
 ·refine hs.hp.push (bU _) (λ_ _=>rfl) (by simp[au.ids,Value.ownBlock]) (by simp[au.ids,Value.ownBlock]) ?_;exact⟨[],by simp[bz],by simp,.inl ⟨rfl,rfl⟩⟩
 ·simpa[cp,cJ,au.ids,Value.ownBlock,ids]using hb
theorem aJ.Pp {w:World} {A:Nat->Prop} {t:Nat}:∀{xs:List AV} {vs:List Value} {c:Nat},xs[c]? =some (.v (.slice none 0 0))->aJ w A xs vs->aJ w A (xs.set c (.os t none 0 0)) vs
 |x::xs,vs,0,hc,h=>by
  simp only[mO,aE]at hc;subst hc;simp only[aJ]at h;obtain⟨v,r,rfl,h1,h2⟩:=h;simp only[JT,aJ];exact⟨v,r,rfl,by simp only[Rel]at h1⊢;exact h1,h2⟩
 |x::xs,vs,c+1,hc,h=>by
  simp only[aJ]at h;obtain⟨v,r,rfl,h1,h2⟩:=h;simp only[vI,aJ];exact⟨v,r,rfl,h1,aJ.Pp (by simpa using hc) h2⟩
theorem aN.getD {Z:aH}:∀{xs:List CV} {ys:List AV} {c:Nat} {x:AV},aN Z xs ys->xs[c]? =some (.d x)->ys[c]? =some x
 |y::xs,ys,0,x,h,hc=>by
  simp only[mO,aE]at hc;subst hc;simp only[aN]at h;obtain⟨u,r,rfl,h1,_⟩:=h;simp only[aG]at h1;subst h1;rfl
 |y::xs,ys,c+1,x,h,hc=>by
  simp only[aN]at h;obtain⟨u,r,rfl,_,h2⟩:=h;simpa using aN.getD h2 (by simpa using hc)
theorem aN.NY {Z:aH} {x:CV} {y:AV} (hxy:aG Z x y):∀{xs:List CV} {ys:List AV} {c:Nat},aN Z xs ys->aN Z (xs.set c x) (ys.set c y)
 |[],ys,_,h=>by simp only[aN]at h;subst h;simp[aN]
 |_::xs,ys,0,h=>by
  simp only[aN]at h;obtain⟨u,r,rfl,_,h2⟩:=h;simp only[JT,aN];exact⟨_,_,rfl,hxy,h2⟩
 |_::xs,ys,c+1,h=>by
  simp only[aN]at h;obtain⟨u,r,rfl,h1,h2⟩:=h;simp only[vI,aN];exact⟨_,_,rfl,h1,aN.NY hxy h2⟩
theorem DC.jN (i c' e kk:Nat) {cs:List CV} (hi:L.e.get i=some (.box cs)) (hc:cs[c']? =some (.d (.v (.slice none 0 0)))) (h:DC E N K c Q O ((L.push (.row e kk [])).set i (.box (cs.set c' (.os L.n 0))))):DC E N K c Q O L:=λZ OB LB hs hh=>by
 obtain⟨y,hy,hE⟩:=hh.en i _ hi;obtain⟨b,cs',hb,rfl,hcs⟩:=hE;have hilt:i<LB.length:=by rw[cw]at hy;exact(cy.1 hy).1
 have hdom:=hh.gV L.n (bU _);have hl:Z.le (Z.a8 L.n 0 (none,0)):=aH.lr λy hy=>by rw[hdom.2]at hy;cases hy
 have hbn:(Z.a8 L.n 0 (none,0)).s L.n 0=some (none,0):=by simp[aH.a8]
 have hy':nth (LB++[au.row (.slice none 0 0) e kk []]) i=some (.box b cs'):=by rw[cw]at hy⊢;rw[sC hilt];exact hy
 have hc2:cs'[c']? =some (.v (.slice none 0 0)):=hcs.getD hc;refine bV.nI (iU.WA e kk) (bV.nI (iU.Rv i (y:= .box b (cs'.set c' (.os LB.length none 0 0))) hy' rfl (λw A h=>?_)) ?_)
 ·obtain⟨e',vs,h1,h2⟩:=h;exact⟨e',vs,h1,h2.Pp hc2⟩
 refine bV.mono (h _ _ _ (hs.mono hl) ?_) λ_ _ _ hq=>qE (hl.toK K) (λ_ _ _ h=>h) hq;have hp:HS (Z.a8 L.n 0 (none,0)) (L.push (.row e kk [])) (LB++[au.row (.slice none 0 0) e kk []]):=by
  refine hh.push hl (λi hi=>by funext m;simp[aH.a8,hi]) (λ_ _=>rfl) ⟨⟨none,0,by simpa using hbn,by simp⟩,λm hm=>?_⟩;have:m≠0:=by simp at hm;omega
  simp only[aH.a8,this,and_false,if_false];exact hdom.2 m
 refine hp.set (.refl _) (λ_ _=>rfl) (λ_ _=>rfl) ?_ ⟨b,_,hl.1 _ _ hb,rfl,(hcs.mono hl).NY ?_⟩
 ·have:=hh.lt hi;simp only[Hp.push];omega
 ·simp only[aG];exact⟨none,0,LB.length,hbn,rfl⟩
theorem az.jN (i c' e kk n:Nat) {cs:List CV} (hn:L.n=n) (hi:L.e.get i=some (.box cs)) (hc:cs[c']? =some (.d (.v (.slice none 0 0)))) (h:az E N K (.code c::k) Q O ⟨Tr.put 24 (Tr.put 24 L.e n (some (.row e kk []))) i (some (.box (cs.set c' (.os n 0)))),n+1⟩):az E N K (.code c::k) Q O L:=by
 subst hn;unfold az at h⊢;simp only[dq]at h⊢;exact DC.jN i c' e kk hi hc h
theorem az.qO (t e kk n:Nat) (hn:L.n=n) (ht:O.get t=some (.d (.v (.slice none 0 0)))) (h:az E N K (.code c::k) Q (Tr.put 24 O t (some (.os n 0))) ⟨Tr.put 24 L.e n (some (.row e kk [])),n+1⟩):az E N K (.code c::k) Q O L:=by
 subst hn;exact az.iS t e kk ht h
theorem az.pq (n:Nat) {l:List (Nat×Oper×TK)} {A:bM} {pend:List (Nat×Oper×CV)} {fs:List (Nat×List AV×AV)} {q d u:Nat} {p:Operand} {t:TypeId} {ty:TypeId} {pos:String} {after:Array Edge} {e kk sz by' sz' by'':Nat} {z z':List Value} {td':TD} {rows2:List (List AV)} {O1:TS} {η1:Hp} (hp:aF E N all pend O L) (hnd:fw ((dH (b8 all.toArray q A)).map (·.1))=true) (hd:Nat.blt d N=true) (cz:eU (dH (b8 all.toArray q A)) O L=(O1,η1)) (hn:η1.n=n)
  (hu:O1.get u=some (.d (.v (.slice none 0 0)))) (hx:aV (Tr.put 24 O1 u (some (.os n 0))) p=some (.d (.sl kk rows2))) (ht:aY E.T t=some ⟨.slice e kk,sz,by',z⟩) (hte:aY E.T e=some ⟨td',sz',by'',z'⟩)
  (hs':aV (Tr.put 24 O1 u (some (.os n 0))) (.tmp u)=some (.os n 0)) (hi:(Tr.put 24 η1.e n (some (.row e kk []))).get n=some (.row e kk [])) (h1:gC rows2=true)
  (hk:Nat.ble 1 kk=true) (hby:Nat.ble 1 by''=true) (hb:rows2.length*by''<=140737488355328)
  (k1:az E N K (.tl all l (cn all.toArray q A) (cI all q pend) fs::k) Q (bY O1 (some d) (.os n rows2.length)) ⟨Tr.put 24 (Tr.put 24 η1.e n (some (.row e kk []))) n (some (.row e kk rows2)),n+1⟩):
  az E N K (.tl all ((q,⟨some d,.call {callee:= .builtin .append,args:= #[.tmp u,p],argTypes:= #[t,t]},ty,pos,after,none⟩,.one)::l) A pend fs::k) Q O L:=by
 subst hn;exact az.uy hp hnd hd cz rfl (bL.iS u e kk hu (bL.append (rows:=[]) rfl hb hs' hi rfl (.sl hx) ht hte h1 hk hby)) (λx L' hR=>by obtain⟨h2,rfl⟩:=hR;cases h2;exact k1) (λx L' hR=>by cases hR.1)
theorem az.XF {l:List (Nat×Oper×TK)} {A:bM} {pend:List (Nat×Oper×CV)} {fs:List (Nat×List AV×AV)} {i j:Nat} {o':Oper} {y:TK} {η1 L2 L3:Hp} (hp:aF E N all pend O L) (hd:o.dst=none) (hd':o'.dst=none) (hw:cG all o O=some true) (hw':cG all o' O=some true)
  (h1:bL E N o O L (λr L'=>r= .ret (.d (.v undef))/\L'=η1)) (p1:aF E N all (cI all i pend) O η1) (h2:bL E N o' O η1 (λr L'=>r= .ret (.d (.v undef))/\L'=L3))
  (h3:bL E N o' O L (λr L'=>r= .ret (.d (.v undef))/\L'=L2)) (p2:aF E N all (cI all j pend) O L2) (h4:bL E N o O L2 (λr L'=>r= .ret (.d (.v undef))/\L'=L3))
  (k1:az E N K (.tl all l A (cI all j (cI all i pend)) fs::k) Q O L3):az E N K (.tl all ((i,o,.two)::(j,o',y)::l) A pend fs::k) Q O L:=
 λhf=>cA.pair hp hd hd' hw hw' h1 p1 h2 h3 p2 h4 (k1 hf)
theorem az.A3 {l:List (Nat×Oper×TK)} {A:bM} {pend:List (Nat×Oper×CV)} {fs:List (Nat×List AV×AV)} {qi qj:Nat} {o':Oper} {ytk:TK} {t t2:TypeId} {p v p2 v2:Operand} {i n m e kk b off2:Nat} {rows:List (List AV)} {r r':List AV} {y:AV} {x2:CV} {cs cs':List CV} {ti ti2:TI} (jn off:Nat) (hpd:aF E N all pend O L) (hd:o.dst=none) (hd':o'.dst=none) (hw:cG all o O=some true) (hw':cG all o' O=some true)
  (ho:o.op= .store t p v) (hpv:aV O p=some (.oe i n m)) (hv:aV O v=some (.d y)) (hi:L.e.get i=some (.row e kk rows)) (hn:n=rows.length) (hm:m=jn*kk+off) (hr:rows[jn]? =some r) (ht:aY E.T t=some ti) (hk:Nat.beq (cg y).length ti.size=true) (h1:eV (cg y)=true) (hl:fc r off (cg y)=some r')
  (ho':o'.op= .store t2 p2 v2) (hp2:aV O p2=some (.own b off2)) (hv2:aV O v2=some x2) (hb:L.e.get b=some (.box cs)) (ht2:aY E.T t2=some ti2) (hk2:Nat.beq (dG x2).length ti2.size=true) (h12:mq (dG x2)=true) (hl2:l5 cs off2 (dG x2)=some cs')
  (hi':(L.set b (.box cs')).e.get i=some (.row e kk rows)) (hb':(L.set i (.row e kk (rows.set jn r'))).e.get b=some (.box cs)) (he:(L.set b (.box cs')).set i (.row e kk (rows.set jn r'))=(L.set i (.row e kk (rows.set jn r'))).set b (.box cs'))
  (q1:aF E N all (cI all qi pend) O (L.set i (.row e kk (rows.set jn r')))) (q2:aF E N all (cI all qj pend) O (L.set b (.box cs')))
  (k1:az E N K (.tl all l A (cI all qj (cI all qi pend)) fs::k) Q O ((L.set i (.row e kk (rows.set jn r'))).set b (.box cs'))):az E N K (.tl all ((qi,o,.two)::(qj,o',ytk)::l) A pend fs::k) Q O L:=
 az.XF hpd hd hd' hw hw' (bL.qJ jn off ho hpv hv hi hn hm hr ht hk h1 hl) q1 (bL.store ho' hp2 hv2 hb' ht2 hk2 h12 hl2) (bL.store ho' hp2 hv2 hb ht2 hk2 h12 hl2) q2
  ((bL.qJ jn off ho hpv hv hi' hn hm hr ht hk h1 hl).mono λr1 L' hR=>⟨hR.1,hR.2.trans he⟩) k1
theorem MA {d n:Nat} {q:Operand} {kd:IntKind} {m:Int} (hm:m=(n:Int)) (h:aV O q=some (.d (.v (.int kd m)))):oH O d (some q)=some n:=by
 subst hm;simp only[oH,h];rfl
theorem MB {d n:Nat} (h:d=n):oH O d none=some n:=by subst h;rfl
theorem az.eJ {l:List (Nat×Oper×TK)} {A:bM} {pend:List (Nat×Oper×CV)} {fs:List (Nat×List AV×AV)} {i q n d:Nat} {s p:Operand} {x:AV} {t:TypeId} {ty:TypeId} {pos:String} {after:Array Edge} {e kk sz by' sz' by'':Nat} {z z':List Value} {td':TD} {rows rows2:List (List AV)} {O1:TS} {η1:Hp} (hp:aF E N all pend O L) (hnd:fw ((dH (b8 all.toArray i A)).map (·.1))=true) (hd:Nat.blt d N=true) (cz:eU (dH (b8 all.toArray i A)) O L=(O1,η1))
  (hs':aV O1 s=some (.os q n)) (hi:η1.e.get q=some (.row e kk rows)) (hn:n=rows.length) (hx:aV O1 p=some (.d x)) (hI:bX x (.sl kk rows2)) (ht:aY E.T t=some ⟨.slice e kk,sz,by',z⟩) (hte:aY E.T e=some ⟨td',sz',by'',z'⟩) (h1:gC rows2=true)
  (hk:Nat.ble 1 kk=true) (hby:Nat.ble 1 by''=true) (hb:(rows++rows2).length*by''<=140737488355328)
  (k1:az E N K (.tl all l (cn all.toArray i A) (cI all i pend) fs::k) Q (bY O1 (some d) (.os q (rows++rows2).length)) (η1.set q (.row e kk (rows++rows2)))):
  az E N K (.tl all ((i,⟨some d,.call {callee:= .builtin .append,args:= #[s,p],argTypes:= #[t,t]},ty,pos,after,none⟩,.one)::l) A pend fs::k) Q O L:=
 az.uy hp hnd hd cz rfl (bL.append rfl hb hs' hi hn (.CP hx hI) ht hte h1 hk hby) (λx L' hR=>by obtain⟨h2,rfl⟩:=hR;cases h2;exact k1) (λx L' hR=>by cases hR.1)
theorem DO.Cr {i d n:Nat} {s p:Operand} {x:AV} {t:TypeId} {ty:TypeId} {pos:String} {after:Array Edge} {e kk sz by' sz' by'':Nat} {z z':List Value} {td':TD} {rows rows2:List (List AV)}
  (hs':aV O s=some (.os i n)) (hi:L.e.get i=some (.row e kk rows)) (hn:n=rows.length) (hx:aV O p=some (.d x)) (hI:bX x (.sl kk rows2)) (ht:aY E.T t=some ⟨.slice e kk,sz,by',z⟩) (hte:aY E.T e=some ⟨td',sz',by'',z'⟩) (h1:gC rows2=true)
  (hk:Nat.ble 1 kk=true) (hby:Nat.ble 1 by''=true) (hd:Nat.blt d N=true) (hb:(rows++rows2).length*by''<=140737488355328)
  (k1:az E N K (.ops all rest::k) Q (bY O (some d) (.os i (rows++rows2).length)) (L.set i (.row e kk (rows++rows2)))):
  az E N K (.ops all (⟨some d,.call {callee:= .builtin .append,args:= #[s,p],argTypes:= #[t,t]},ty,pos,after,none⟩::rest)::k) Q O L:=
 DO.append hb hs' hi hn (.CP hx hI) ht hte h1 hk hby hd k1
theorem DO.uA (t:Nat) {kk:Nat} {rows:List (List AV)} (ht:O.get t=some (.d (.sl kk rows))) (h1:∀cap,rows=[]->DO E N K all rest Q (Tr.put 24 O t (some (.d (.v (.slice none 0 cap))))) L) (h2:∀ad n cap,DO E N K all rest Q (Tr.put 24 O t (some (.d (.v (.slice (some ad) n cap))))) L):DO E N K all rest Q O L:=λZ OB LB hs hh=>by
 obtain⟨y,g1,g2⟩:=hs t _ ht;simp only[aG]at g2;subst g2;intro F w0 η0 a w hst hxt;obtain⟨hlt,hv⟩:=hst.sg.2 t _ g1;have go:∀x:Value,Rel w (Al F LB) (.v x) _->DO E N K all rest Q (Tr.put 24 O t (some (.d (.v x)))) L->_:=λx hx hd=>
  hd Z ((t,.v x)::OB) LB (hs.put (some t) (x:= .d (.v x)) (y:= .v x) rfl) hh F w0 η0 a w ⟨⟨hst.sg.1,λu q hq=>by
   simp only[look]at hq;cases hb:Nat.beq t u with
   |true=>
    rw[hb]at hq;simp only[aE]at hq;subst hq;rw[<-bC hb];exact⟨hlt,hx⟩
   |false=>rw[hb]at hq;exact hst.sg.2 u q hq⟩,hst.hp,hst.df⟩ hxt
 simp only[Rel]at hv;rcases hv with⟨hr,ad,cap,he⟩|⟨b,o,cap,vs,he,_⟩
 ·cases ad with
  |none=>exact go _ (by simp only[Rel];exact he) (h1 cap hr)
  |some ad=>exact go _ (by simp only[Rel];exact he) (h2 ad 0 cap)
 ·exact go _ (by simp only[Rel];exact he) (h2 _ _ cap)
theorem az.uA (t:Nat) {kk:Nat} {rows:List (List AV)} (ht:O.get t=some (.d (.sl kk rows))) (h1:∀cap,rows=[]->az E N K (.ops all rest::k) Q (Tr.put 24 O t (some (.d (.v (.slice none 0 cap))))) L) (h2:∀ad n cap,az E N K (.ops all rest::k) Q (Tr.put 24 O t (some (.d (.v (.slice (some ad) n cap))))) L):az E N K (.ops all rest::k) Q O L:=DO.uA t ht h1 h2
theorem bm.p0 {t et:TypeId} {p q:Operand} {yt:TypeId} {ad:Option Addr} {n cap:Nat} (ho:o.op= .binOp .eql t p q yt) (hu:E.P.underlying t=some (.slice et)) (hp:aV O p=some (.d (.v (.slice ad n cap)))) (hq:aV O q=some (.d (.v (.slice none 0 0)))):bm E N o O (.d (.v (.bool ad.isNone))):=
 bm.fP (by rw[ho];cases ad<;>simp[Bw.fP,hu,pr hp,pr hq,wV,rB])
