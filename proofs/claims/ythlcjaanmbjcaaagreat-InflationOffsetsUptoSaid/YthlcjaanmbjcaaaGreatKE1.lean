/- Walks by program: functions that answer as the code does; first part: what the texts that a program prints lean on. -/
import Derived.Test.YthlcjaanmbjcaaaGreatKD8
set_option linter.all false
noncomputable section
namespace Go.Bw
open Go
inductive aT (D:Type) where
 |ret (x:D)
 |aD (x:AV)
def aT.ar {D:Type} (f:D->AV):aT D->AR
 | .ret x=> .ret (f x)
 | .aD y=> .aD y
def aq {D:Type} (l:List D) (m:Int):Option D:=match m with
 | .ofNat j=>l[j]?
 | .negSucc _=>none
theorem Lf {D:Type} {l:List D} {m:Int} {x:D} (h:aq l m=some x):∃j:Nat,m=(j:Int)/\l[j]? =some x:=by
 cases m with
 |ofNat j=>exact⟨j,rfl,h⟩
 |negSucc j=>cases h
theorem LK {D:Type} {l:List D} {m:Int} {x:D} (h:aq l m=some x):m=((m.toNat:Nat):Int)/\l[m.toNat]? =some x:=by
 obtain⟨j,rfl,h⟩:=Lf h;exact⟨rfl,h⟩
theorem fm {D β:Type} {o:Option D} {f:D->Option β} {r:β} (h:o.bind f=some r):∃x,o=some x/\f x=some r:=by
 cases o with
 |none=>cases h
 |some x=>exact⟨x,rfl,h⟩
theorem cx {D:Type} {c:Bool} {a:Option D} {r:D} (h:(bif c then a else none)=some r):c=true/\a=some r:=by
 cases c with
 |true=>exact⟨rfl,h⟩
 |false=>cases h
def bM (k:IntKind) (l:List Int):List (List AV):=l.map λx=>[.v (.int k x)]
def fP (l:List Bool):List (List AV):=l.map λx=>[.v (.bool x)]
def aW (l:List (List UInt8)):List (List AV):=l.map λx=>[.v (.string ⟨⟨x⟩⟩)]
theorem kI {k:IntKind} {l:List Int}:(bM k l).length=l.length:=mK _
theorem K9 {l:List Bool}:(fP l).length=l.length:=mK _
theorem cX {l:List (List UInt8)}:(aW l).length=l.length:=mK _
theorem jl {k:IntKind} {l:List Int} {i:Nat} {x:Int} (h:l[i]? =some x):(bM k l)[i]? =some [.v (.int k x)]:=get_map h
theorem vG {l:List Bool} {i:Nat} {x:Bool} (h:l[i]? =some x):(fP l)[i]? =some [.v (.bool x)]:=get_map h
theorem ff {l:List (List UInt8)} {i:Nat} {x:List UInt8} (h:l[i]? =some x):(aW l)[i]? =some [.v (.string ⟨⟨x⟩⟩)]:=get_map h
theorem K7 {k:IntKind} {a b:List Int}:bM k (a++b)=bM k a++bM k b:=rL
theorem K8 {a b:List Bool}:fP (a++b)=fP a++fP b:=rL
theorem K6 {a b:List (List UInt8)}:aW (a++b)=aW a++aW b:=rL
theorem KD {k:IntKind} {n:Nat} {l:List Int}:bM k (l.drop n)=(bM k l).drop n:=BD
theorem KA {n:Nat} {l:List (List UInt8)}:aW (l.drop n)=(aW l).drop n:=BD
theorem KE {k:IntKind} {n:Nat} {l:List Int}:bM k (l.take n)=(bM k l).take n:=BE
theorem KB {n:Nat} {l:List (List UInt8)}:aW (l.take n)=(aW l).take n:=BE
def aG {D β:Type} (o:Option (aT D)) (f:D->Option (aT β)):Option (aT β):=match o with
 |some (.ret x)=>f x
 |some (.aD z)=>some (.aD z)
 |none=>none
theorem mP {D β:Type} {o:Option (aT D)} {f:D->Option (aT β)} {r:aT β} (h:aG o f=some r):(∃z,o=some (.aD z)/\r= .aD z)\/∃x,o=some (.ret x)/\f x=some r:=by
 cases o with
 |none=>cases h
 |some x=>cases x with
  |ret x=>exact .inr ⟨x,rfl,h⟩
  |aD z=>cases h;exact .inl ⟨z,rfl,rfl⟩
def jU {D:Type} (l:List D) (lo hi:Int):Option (List D):=match lo,hi with
 | .ofNat a,.ofNat b=>bif Nat.ble a b&&Nat.ble b l.length then some ((l.take b).drop a)else none
 |_,_=>none
theorem CD {D:Type} {l x:List D} {lo hi:Int} (h:jU l lo hi=some x):∃a b:Nat,lo=(a:Int)/\hi=(b:Int)/\a<=b/\b<=l.length/\(l.take b).drop a=x:=by
 unfold jU at h;split at h
 ·rename_i a b;revert h;cases hc:(Nat.ble a b&&Nat.ble b l.length)with
  |false=>intro h;cases h
  |true=>
   intro h;simp only[bn,Nat.ble_eq]at hc;exact⟨a,b,rfl,rfl,hc.1,hc.2,cQ h⟩
 ·cases h
theorem vh {D:Type} {f:D->List AV} (hf:∀x,eo [f x]=true) (l:List D):eo (l.map f)=true:=Cb λx _=>hf x
theorem KF {k:IntKind} (l:List Int):eo (bM k l)=true:=vh (λ_=>rfl) l
theorem KG (l:List (List UInt8)):eo (aW l)=true:=vh (λ_=>rfl) l
section
variable {E:Env} {Q:DQ} {N K:Nat} {Z:TS} {O:Hp} {o:Oper} {all rest:List Oper} {k:List It} {x:CV} {c:Code}
theorem RD.leaf {rs:List ResultVar} {xs:List CV} {z y:AV} {res:AR} {ns:List (Nat×Nat)} {ms:List (Nat×aR)} (h:cU E.T Z O rs=some xs) (hf:bA O.e 60 [dC xs]=some ([z],ns,ms)) (hn:eqs ns) (hr:res= .ret y) (e:bw z y):RD E.T rs (Ends 60 res) .ret Z O:=by
 subst hr;exact RD.Ow h hf hn e
theorem RD.mb {rs:List ResultVar} {xs:List CV} {z y:AV} {res:AR} {ns:List (Nat×Nat)} {ms:List (Nat×aR)} (h:cU E.T Z O rs=some xs) (hf:bA O.e 60 [dC xs]=some ([z],ns,ms)) (hn:eqs ns) (hr:res= .ret y) (e:bw z y):RD E.T rs (Ends 60 res) .norm Z O:=by
 subst hr;exact RD.NX h hf hn e
theorem RD.p7 {rs:List ResultVar} {x:CV} {z y:AV} {res:AR} {ns:List (Nat×Nat)} {ms:List (Nat×aR)} (hf:bA O.e 60 [x]=some ([z],ns,ms)) (hn:eqs ns) (hr:res= .aD y) (e:bw z y):RD E.T rs (Ends 60 res) (.aD x) Z O:=by
 subst hr;exact RD.Ox hf hn e
theorem aV.conv {y z:CV} (h:aV E N o Z y) (e:y=z):aV E N o Z z:=e▸h
theorem xW {c:Bool} (h:c=false):(!c)=true:=by rw[h];rfl
theorem tR {c:Bool} (h:c=true):(!c)=false:=by rw[h];rfl
theorem nX {c:Bool} (h:(!c)=false):c=true:=by cases c<;>simp_all
theorem xD {c:Bool} (h:(!c)=true):c=false:=by cases c<;>simp_all
def gZ (b:Bool) (A B:Out):Out:=match b with
 |true=>A
 |false=>B
theorem Ok.split {b:Bool} {A B:Out} (h1:b=true->Out.ok E Q A) (h2:b=false->Out.ok E Q B):Out.ok E Q (gZ b A B):=by
 cases b with
 |true=>exact h1 rfl
 |false=>exact h2 rfl
theorem Ok.fL {b:Bool} {A B:Out} (hb:b=true) (h1:Out.ok E Q A):Out.ok E Q (gZ b A B):=by subst hb;exact h1
theorem Ok.fM {b:Bool} {A B:Out} (hb:b=false) (h2:Out.ok E Q B):Out.ok E Q (gZ b A B):=by subst hb;exact h2
def tT (all:List Oper) (o:Oper) (Z:TS):Option (Nat×Bool):=match o.guard with
 |none=>none
 |some (j,_)=>match(nth all j).bind (·.dst)with
  |none=>none
  |some d=>match Z.get d with
   |some (.d (.v (.bool t)))=>some (d,t)
   |_=>none
def xE (Z:TS):List It->Option (Nat×Bool)
 | .lex all _ _ (o::_) _::_=>tT all o Z
 | .tl all ((_,o,_)::_) _ _ _::_=>tT all o Z
 |_=>none
theorem SS.qP {L:au} {s:Sl} (hs:SS L Z s) {d:Nat} {t b:Bool} (hd:Z.get d=some (.d (.v (.bool t)))) (ht:t=b):SS L (Tr.put 24 Z d (some (.d (.v (.bool b))))) s:=by
 subst ht;intro u z hz;rcases Tr.dA 24 Z d u _ z hz with⟨rfl,h3⟩|⟨_,h3⟩
 ·cases h3;exact hs _ _ hd
 ·exact hs _ _ h3
theorem DZ {all:List Oper} {o:Oper} {d:Nat} {t:Bool} (h:tT all o Z=some (d,t)):Z.get d=some (.d (.v (.bool t))):=by
 unfold tT at h;split at h
 ·cases h
 ·split at h
  ·cases h
  ·split at h
   ·rename_i h1;simp only[ao,bW]at h;obtain⟨rfl,rfl⟩:=h;exact h1
   ·cases h
theorem ai.qP {todo:List It} {d:Nat} {t b:Bool} (ha:xE Z todo=some (d,t)) (ht:t=b) (h:ai E N K todo Q (Tr.put 24 Z d (some (.d (.v (.bool b))))) O):ai E N K todo Q Z O:=by
 unfold xE at ha;split at ha
 ·unfold ai at h⊢;simp only[dq]at h⊢;exactλL s ηB WB hs=>h L s ηB WB (hs.qP (DZ ha) ht)
 ·unfold ai at h⊢;simp only[dq]at h⊢;exactλhf L s ηB pb hs=>h hf L s ηB pb (hs.qP (DZ ha) ht)
 ·cases ha
def xX (Z:TS):Op->Bool
 | .indexAddr _ (.tmp t) _=>match Z.get t with
  |some (.os _ _)=>true
  |_=>false
 | .load _ (.tmp t)=>match Z.get t with
  |some (.oe _ _ _)=>true
  |_=>false
 | .store _ (.tmp t) _=>match Z.get t with
  |some (.oe _ _ _)=>true
  |_=>false
 |_=>false
def Oy (Z:TS):List It->Bool
 | .ops _ (o::_)::_=>match o.guard with
  |none=>xX Z o.op
  |some _=>false
 | .lex _ _ _ (o::_) _::_=>xX Z o.op
 | .tl _ ((_,o,_)::_) _ _ _::_=>xX Z o.op
 |_=>false
def oH (rec:Nat->Nat->List It->TS->Hp->List (Nat×Nat)->Out):Nx->Out
 | .go N' K' todo' Z' O' ns'=>match O' with
  |⟨e,m⟩=>nW 1000 m 0 λn=>rec N' K' todo' Z' ⟨e,n⟩ ns'
 | .out (.cond b N' K' t1 s1 t2 s2 O' ns')=>gZ b (rec N' K' t1 s1 O' ns') (rec N' K' t2 s2 O' ns')
 | .out o=>o
def dr (P:Program) (G:Gl) (T:bt):Nat->Nat->Nat->List It->TS->Hp->List (Nat×Nat)->Out
 |0,N,K,todo,Z,O,ns=> .stuck N K todo Z O ns
 |f+1,N,K,todo,Z,O,ns=>match my Z todo with
  |true=> .stuck N K todo Z O ns
  |false=>match Oy Z todo with
   |true=> .stuck N K todo Z O ns
   |false=>match xE Z todo with
    |none=>oH (dr P G T f) (step P G T jZ (λ_ _=>none) f N K todo Z O ns)
    |some (d,t)=>gZ t (oH (dr P G T f) (step P G T jZ (λ_ _=>none) f N K todo (Tr.put 24 Z d (some (.d (.v (.bool true))))) O ns)) (oH (dr P G T f) (step P G T jZ (λ_ _=>none) f N K todo (Tr.put 24 Z d (some (.d (.v (.bool false))))) O ns))
theorem Nr {Q:DQ} {rec:Nat->Nat->List It->TS->Hp->List (Nat×Nat)->Out} (hr:∀N K todo Z O ns,Out.ok E Q (rec N K todo Z O ns)->eqs ns/\ai E N K todo Q Z O):∀{x:Nx},Out.ok E Q (oH rec x)->Nx.ok E Q x
 | .go N' K' todo' Z' O' ns',h=>by
  dsimp only[oH]at h;rw[sv]at h;exact hr _ _ _ _ _ _ h
 | .out (.stuck ..),h=>h
 | .out (.fin ..),h=>h
 | .out (.cond b N' K' t1 s1 t2 s2 O' ns'),h=>by
  cases b with
  |true=>
   have:=hr _ _ _ _ _ _ h;exact⟨this.1,λ_=>this.2,(λh=>nomatch h)⟩
  |false=>
   have:=hr _ _ _ _ _ _ h;exact⟨this.1,(λh=>nomatch h),λ_=>this.2⟩
theorem GA (hm:E.P.follows .mixedOrders=true):∀(f:Nat) (Q:DQ) (N K:Nat) (todo:List It) (Z:TS) (O:Hp) (ns:List (Nat×Nat)),Out.ok E Q (dr E.P E.G E.T f N K todo Z O ns)->eqs ns/\ai E N K todo Q Z O
 |0,_,_,_,_,_,_,_,h=>h
 |f+1,Q,N,K,todo,Z,O,ns,h=>by
  have one:∀Z,Out.ok E Q (oH (dr E.P E.G E.T f) (step E.P E.G E.T jZ (λ_ _=>none) f N K todo Z O ns))->eqs ns/\ai E N K todo Q Z O:=λZ h=>
   Et (c:=jZ) (fl:=f) hm (λf hf=>by cases hf) (λf ty z h=>by cases h) (λg x h=>by cases h) (nest:=λ_ _=>none) (λg xs z hz=>by cases hz) (Nr (λN K todo Z O ns h=>GA hm f Q N K todo Z O ns h) h)
  unfold dr at h;split at h
  ·exact h
  ·split at h
   ·exact h
   ·split at h
    ·exact one Z h
    ·rename_i d t ha;cases t with
     |true=>have:=one _ h;exact⟨this.1,ai.qP ha rfl this.2⟩
     |false=>have:=one _ h;exact⟨this.1,ai.qP ha rfl this.2⟩
theorem Nn (hm:E.P.follows .mixedOrders=true) (f:Nat) (h:Out.ok E Q (match O with|⟨e,m⟩=>nW 1000 m 0 λn=>dr E.P E.G E.T f N K k Z ⟨e,n⟩ [])):ai E N K k Q Z O:=by
 obtain⟨e,m⟩:=O;dsimp only at h;rw[sv]at h;exact(GA hm f Q N K k Z ⟨e,m⟩ [] h).2
theorem aN.l8 {f:Operand} {args:List Operand} {g:FuncId} {cs:List CV} {xs' xs:List AV} {ns:List (Nat×Nat)} {ms:List (Nat×aR)} {res:AV} {tys:Array TypeId} (h:Pure E.toCx g xs (.ret res)) (ho:o.op= .call {callee:= .value f,args:=args.toArray,argTypes:=tys})
  (hc:cu Z f args=some (g,cs)) (hf:bA O.e 60 cs=some (xs',ns,ms)) (hn:eqs ns) (hi:bx xs' xs) (hl:ms=[]\/cn res=true):aN E N o Z O (.d res):=aN.pure 60 ho h hc hf hn hi hl
theorem ai.nf {dst:Option Nat} {f:Operand} {args:List Operand} {g:FuncId} {cs:List CV} {xs' xs:List AV} {ns:List (Nat×Nat)} {ms:List (Nat×aR)} {y:AV} {tys:Array TypeId} {ty:TypeId} {pos:String} {after:Array Edge} (h:Pure E.toCx g xs (.aD y)) (hc:cu Z f args=some (g,cs)) (hf:bA O.e 60 cs=some (xs',ns,ms)) (hn:eqs ns) (hi:bx xs' xs) (hl:ms=[]\/cn y=true) (hp:gm k=none)
  (hq:Q (.aD (.d y)) .lf O):ai E N K (.ops all (⟨dst,.call {callee:= .value f,args:=args.toArray,argTypes:=tys},ty,pos,after,none⟩::rest)::k) Q Z O:=by
 show DO E N K all _ (dq E N K k Q) Z O;exact DO.nf 60 h hc hf hn hi hl (iI k N K .lf hp hq)
theorem ai.cz {t:Nat} {z:AV} {ns:List (Nat×Nat)} {ms:List (Nat×aR)} (hx:Z.get t=some x) (hf:bA O.e 60 [x]=some ([z],ns,ms)) (hn:eqs ns) (h:ai E N K (.ops all rest::k) Q (Tr.put 24 Z t (some (.d z))) (fA ms O)):ai E N K (.ops all rest::k) Q Z O:=DO.cz 60 hx hf hn h
theorem ai.r9 {l:List (Nat×Oper×TK)} {A:bo} {pend:List (Nat×Oper×CV)} {fs:List (Nat×List AV×AV)} {q:Nat} {t:TypeId} {p v:Operand} {i n m e kk:Nat} {rows:List (List AV)} {r r':List AV} {y:AV} {ti:TI} {Z1:TS} {O1:Hp} (j off:Nat) (hpd:ak E N all pend Z O) (hnd:dP ((cG (bC all.toArray q A)).map (·.1))=true) (hd:o.dst=none) (bQ:dD (cG (bC all.toArray q A)) Z O=(Z1,O1)) (hw:bX all o Z1=some true)
  (ho:o.op= .store t p v) (hp:aL Z1 p=some (.oe i n m)) (hv:aL Z1 v=some (.d y)) (hi:O1.e.get i=some (.row e kk rows)) (hn:n=rows.length)
  (hm:m=j*kk+off) (hr:rows[j]? =some r) (ht:aM E.T t=some ti) (hk:Nat.beq (bD y).length ti.size=true) (h1:dE (bD y)=true) (hl:dM r off (bD y)=some r')
  (h:ai E N K (.tl all l (bJ all.toArray q A) (b6 all q pend) fs::k) Q Z1 (O1.set i (.row e kk (rows.set j r')))):ai E N K (.tl all ((q,o,.one)::l) A pend fs::k) Q Z O:=
 ai.ma hpd hnd (by rw[hd];rfl) bQ hw (bm.lL j off ho hp hv hi hn hm hr ht hk h1 hl) (λx O' hR=>by obtain⟨h2,rfl⟩:=hR;rw[hd];exact h) (λx O' hR=>by cases hR.1)
theorem dm.Mp {G:Gl} {N:Nat} {Z:Sg} {O:List ag} (e:TypeId) (k:Nat):dm G N Z O Z (O++[.row (.slice none 0 0) e k []]):=λF w a hs=>by
 have hkeep:b9 w (Al F O) w (Al F (O++[ag.row (.slice none 0 0) e k []])):=⟨bq _,λb _ ha=>⟨by simpa[Al,bI,b4,ag.ids,Value.ownBlock,ids]using ha,rfl⟩⟩;refine⟨⟨⟨hs.sg.1,λs x hx=>⟨(hs.sg.2 s x hx).1,(hs.sg.2 s x hx).2.aU hkeep⟩⟩,?_,hs.df⟩,λb hb=>?_⟩
 ·refine hs.hp.push (bq _) (λ_ _=>rfl) (by simp[ag.ids,Value.ownBlock]) (by simp[ag.ids,Value.ownBlock]) ?_;exact⟨[],by simp[aX],by simp,.inl ⟨rfl,rfl⟩⟩
 ·simpa[bI,b4,ag.ids,Value.ownBlock,ids]using hb
theorem ax.GB {w:World} {A:Nat->Prop} {t:Nat}:∀{xs:List AV} {vs:List Value} {c:Nat},xs[c]? =some (.v (.slice none 0 0))->ax w A xs vs->ax w A (xs.set c (.os t none 0 0)) vs
 |x::xs,vs,0,hc,h=>by
  simp only[o7,ao]at hc;subst hc;simp only[ax]at h;obtain⟨v,r,rfl,h1,h2⟩:=h;simp only[rQ,ax];exact⟨v,r,rfl,by simp only[Rel]at h1⊢;exact h1,h2⟩
 |x::xs,vs,c+1,hc,h=>by
  simp only[ax]at h;obtain⟨v,r,rfl,h1,h2⟩:=h;simp only[lA,ax];exact⟨v,r,rfl,h1,ax.GB (by simpa using hc) h2⟩
theorem aC.getD {L:au}:∀{xs:List CV} {ys:List AV} {c:Nat} {x:AV},aC L xs ys->xs[c]? =some (.d x)->ys[c]? =some x
 |y::xs,ys,0,x,h,hc=>by
  simp only[o7,ao]at hc;subst hc;simp only[aC]at h;obtain⟨u,r,rfl,h1,_⟩:=h;simp only[aw]at h1;subst h1;rfl
 |y::xs,ys,c+1,x,h,hc=>by
  simp only[aC]at h;obtain⟨u,r,rfl,_,h2⟩:=h;simpa using aC.getD h2 (by simpa using hc)
theorem aC.Fq {L:au} {x:CV} {y:AV} (hxy:aw L x y):∀{xs:List CV} {ys:List AV} {c:Nat},aC L xs ys->aC L (xs.set c x) (ys.set c y)
 |[],ys,_,h=>by simp only[aC]at h;subst h;simp[aC]
 |_::xs,ys,0,h=>by
  simp only[aC]at h;obtain⟨u,r,rfl,_,h2⟩:=h;simp only[rQ,aC];exact⟨_,_,rfl,hxy,h2⟩
 |_::xs,ys,c+1,h=>by
  simp only[aC]at h;obtain⟨u,r,rfl,h1,h2⟩:=h;simp only[lA,aC];exact⟨_,_,rfl,h1,aC.Fq hxy h2⟩
theorem DC.lN (i c' e kk:Nat) {cs:List CV} (hi:O.e.get i=some (.box cs)) (hc:cs[c']? =some (.d (.v (.slice none 0 0)))) (h:DC E N K c Q Z ((O.push (.row e kk [])).set i (.box (cs.set c' (.os O.n 0))))):DC E N K c Q Z O:=λL ZB ηB hs hh=>by
 obtain⟨y,hy,hE⟩:=hh.en i _ hi;obtain⟨b,cs',hb,rfl,hcs⟩:=hE;have hilt:i<ηB.length:=by rw[bP]at hy;exact(cT.1 hy).1
 have hdom:=hh.eC O.n (bq _);have hl:L.le (L.aO O.n 0 (none,0)):=au.gX λy hy=>by rw[hdom.2]at hy;cases hy
 have hbn:(L.aO O.n 0 (none,0)).s O.n 0=some (none,0):=by simp[au.aO]
 have hy':nth (ηB++[ag.row (.slice none 0 0) e kk []]) i=some (.box b cs'):=by rw[bP]at hy⊢;rw[mJ hilt];exact hy
 have hc2:cs'[c']? =some (.v (.slice none 0 0)):=hcs.getD hc;refine bg.gM (dm.Mp e kk) (bg.gM (dm.H7 i (y:= .box b (cs'.set c' (.os ηB.length none 0 0))) hy' rfl (λw A h=>?_)) ?_)
 ·obtain⟨e',vs,h1,h2⟩:=h;exact⟨e',vs,h1,h2.GB hc2⟩
 refine bg.mono (h _ _ _ (hs.mono hl) ?_) λ_ _ _ hq=>lH (hl.toK K) (λ_ _ _ h=>h) hq;have hp:HS (L.aO O.n 0 (none,0)) (O.push (.row e kk [])) (ηB++[ag.row (.slice none 0 0) e kk []]):=by
  refine hh.push hl (λi hi=>by funext m;simp[au.aO,hi]) (λ_ _=>rfl) ⟨⟨none,0,by simpa using hbn,by simp⟩,λm hm=>?_⟩;have:m≠0:=by simp at hm;omega
  simp only[au.aO,this,and_false,if_false];exact hdom.2 m
 refine hp.set (.refl _) (λ_ _=>rfl) (λ_ _=>rfl) ?_ ⟨b,_,hl.1 _ _ hb,rfl,(hcs.mono hl).Fq ?_⟩
 ·have:=hh.lt hi;simp only[Hp.push];omega
 ·simp only[aw];exact⟨none,0,ηB.length,hbn,rfl⟩
theorem ai.lN (i c' e kk n:Nat) {cs:List CV} (hn:O.n=n) (hi:O.e.get i=some (.box cs)) (hc:cs[c']? =some (.d (.v (.slice none 0 0)))) (h:ai E N K (.code c::k) Q Z ⟨Tr.put 24 (Tr.put 24 O.e n (some (.row e kk []))) i (some (.box (cs.set c' (.os n 0)))),n+1⟩):ai E N K (.code c::k) Q Z O:=by
 subst hn;unfold ai at h⊢;simp only[dq]at h⊢;exact DC.lN i c' e kk hi hc h
theorem ai.Eu (t e kk n:Nat) (hn:O.n=n) (ht:Z.get t=some (.d (.v (.slice none 0 0)))) (h:ai E N K (.code c::k) Q (Tr.put 24 Z t (some (.os n 0))) ⟨Tr.put 24 O.e n (some (.row e kk [])),n+1⟩):ai E N K (.code c::k) Q Z O:=by
 subst hn;exact ai.fB t e kk ht h
theorem ai.jt (n:Nat) {l:List (Nat×Oper×TK)} {A:bo} {pend:List (Nat×Oper×CV)} {fs:List (Nat×List AV×AV)} {q d u:Nat} {p:Operand} {t:TypeId} {ty:TypeId} {pos:String} {after:Array Edge} {e kk sz by' sz' by'':Nat} {z z':List Value} {td':TD} {rows2:List (List AV)} {Z1:TS} {O1:Hp} (hp:ak E N all pend Z O) (hnd:dP ((cG (bC all.toArray q A)).map (·.1))=true) (hd:Nat.blt d N=true) (bQ:dD (cG (bC all.toArray q A)) Z O=(Z1,O1)) (hn:O1.n=n)
  (hu:Z1.get u=some (.d (.v (.slice none 0 0)))) (hx:aL (Tr.put 24 Z1 u (some (.os n 0))) p=some (.d (.sl kk rows2))) (ht:aM E.T t=some ⟨.slice e kk,sz,by',z⟩) (hte:aM E.T e=some ⟨td',sz',by'',z'⟩)
  (hs':aL (Tr.put 24 Z1 u (some (.os n 0))) (.tmp u)=some (.os n 0)) (hi:(Tr.put 24 O1.e n (some (.row e kk []))).get n=some (.row e kk [])) (h1:eo rows2=true)
  (hk:Nat.ble 1 kk=true) (hby:Nat.ble 1 by''=true) (hb:rows2.length*by''<=140737488355328)
  (k1:ai E N K (.tl all l (bJ all.toArray q A) (b6 all q pend) fs::k) Q (br Z1 (some d) (.os n rows2.length)) ⟨Tr.put 24 (Tr.put 24 O1.e n (some (.row e kk []))) n (some (.row e kk rows2)),n+1⟩):
  ai E N K (.tl all ((q,⟨some d,.call {callee:= .builtin .append,args:= #[.tmp u,p],argTypes:= #[t,t]},ty,pos,after,none⟩,.one)::l) A pend fs::k) Q Z O:=by
 subst hn;exact ai.ma hp hnd hd bQ rfl (bm.fB u e kk hu (bm.append (rows:=[]) rfl hb hs' hi rfl (.sl hx) ht hte h1 hk hby)) (λx O' hR=>by obtain⟨h2,rfl⟩:=hR;cases h2;exact k1) (λx O' hR=>by cases hR.1)
theorem ai.Ns {l:List (Nat×Oper×TK)} {A:bo} {pend:List (Nat×Oper×CV)} {fs:List (Nat×List AV×AV)} {i j:Nat} {o':Oper} {y:TK} {O1 O2 O3:Hp} (hp:ak E N all pend Z O) (hd:o.dst=none) (hd':o'.dst=none) (hw:bX all o Z=some true) (hw':bX all o' Z=some true)
  (h1:bm E N o Z O (λr O'=>r= .ret (.d (.v undef))/\O'=O1)) (p1:ak E N all (b6 all i pend) Z O1) (h2:bm E N o' Z O1 (λr O'=>r= .ret (.d (.v undef))/\O'=O3))
  (h3:bm E N o' Z O (λr O'=>r= .ret (.d (.v undef))/\O'=O2)) (p2:ak E N all (b6 all j pend) Z O2) (h4:bm E N o Z O2 (λr O'=>r= .ret (.d (.v undef))/\O'=O3))
  (k1:ai E N K (.tl all l A (b6 all j (b6 all i pend)) fs::k) Q Z O3):ai E N K (.tl all ((i,o,.two)::(j,o',y)::l) A pend fs::k) Q Z O:=
 λhf=>bN.pair hp hd hd' hw hw' h1 p1 h2 h3 p2 h4 (k1 hf)
theorem ai.sw {l:List (Nat×Oper×TK)} {A:bo} {pend:List (Nat×Oper×CV)} {fs:List (Nat×List AV×AV)} {qi qj:Nat} {o':Oper} {ytk:TK} {t t2:TypeId} {p v p2 v2:Operand} {i n m e kk b off2:Nat} {rows:List (List AV)} {r r':List AV} {y:AV} {x2:CV} {cs cs':List CV} {ti ti2:TI} (jn off:Nat) (hpd:ak E N all pend Z O) (hd:o.dst=none) (hd':o'.dst=none) (hw:bX all o Z=some true) (hw':bX all o' Z=some true)
  (ho:o.op= .store t p v) (hpv:aL Z p=some (.oe i n m)) (hv:aL Z v=some (.d y)) (hi:O.e.get i=some (.row e kk rows)) (hn:n=rows.length) (hm:m=jn*kk+off) (hr:rows[jn]? =some r) (ht:aM E.T t=some ti) (hk:Nat.beq (bD y).length ti.size=true) (h1:dE (bD y)=true) (hl:dM r off (bD y)=some r')
  (ho':o'.op= .store t2 p2 v2) (hp2:aL Z p2=some (.own b off2)) (hv2:aL Z v2=some x2) (hb:O.e.get b=some (.box cs)) (ht2:aM E.T t2=some ti2) (hk2:Nat.beq (cO x2).length ti2.size=true) (h12:iR (cO x2)=true) (hl2:iD cs off2 (cO x2)=some cs')
  (hi':(O.set b (.box cs')).e.get i=some (.row e kk rows)) (hb':(O.set i (.row e kk (rows.set jn r'))).e.get b=some (.box cs)) (he:(O.set b (.box cs')).set i (.row e kk (rows.set jn r'))=(O.set i (.row e kk (rows.set jn r'))).set b (.box cs'))
  (q1:ak E N all (b6 all qi pend) Z (O.set i (.row e kk (rows.set jn r')))) (q2:ak E N all (b6 all qj pend) Z (O.set b (.box cs')))
  (k1:ai E N K (.tl all l A (b6 all qj (b6 all qi pend)) fs::k) Q Z ((O.set i (.row e kk (rows.set jn r'))).set b (.box cs'))):ai E N K (.tl all ((qi,o,.two)::(qj,o',ytk)::l) A pend fs::k) Q Z O:=
 ai.Ns hpd hd hd' hw hw' (bm.lL jn off ho hpv hv hi hn hm hr ht hk h1 hl) q1 (bm.store ho' hp2 hv2 hb' ht2 hk2 h12 hl2) (bm.store ho' hp2 hv2 hb ht2 hk2 h12 hl2) q2
  ((bm.lL jn off ho hpv hv hi' hn hm hr ht hk h1 hl).mono λr1 O' hR=>⟨hR.1,hR.2.trans he⟩) k1
theorem wA {d n:Nat} {q:Operand} {kd:IntKind} {m:Int} (hm:m=(n:Int)) (h:aL Z q=some (.d (.v (.int kd m)))):kb Z d (some q)=some n:=by
 subst hm;simp only[kb,h];rfl
theorem wC {d n:Nat} (h:d=n):kb Z d none=some n:=by subst h;rfl
theorem ai.fC {l:List (Nat×Oper×TK)} {A:bo} {pend:List (Nat×Oper×CV)} {fs:List (Nat×List AV×AV)} {i q n d:Nat} {s p:Operand} {x:AV} {t:TypeId} {ty:TypeId} {pos:String} {after:Array Edge} {e kk sz by' sz' by'':Nat} {z z':List Value} {td':TD} {rows rows2:List (List AV)} {Z1:TS} {O1:Hp} (hp:ak E N all pend Z O) (hnd:dP ((cG (bC all.toArray i A)).map (·.1))=true) (hd:Nat.blt d N=true) (bQ:dD (cG (bC all.toArray i A)) Z O=(Z1,O1))
  (hs':aL Z1 s=some (.os q n)) (hi:O1.e.get q=some (.row e kk rows)) (hn:n=rows.length) (hx:aL Z1 p=some (.d x)) (hI:bw x (.sl kk rows2)) (ht:aM E.T t=some ⟨.slice e kk,sz,by',z⟩) (hte:aM E.T e=some ⟨td',sz',by'',z'⟩) (h1:eo rows2=true)
  (hk:Nat.ble 1 kk=true) (hby:Nat.ble 1 by''=true) (hb:(rows++rows2).length*by''<=140737488355328)
  (k1:ai E N K (.tl all l (bJ all.toArray i A) (b6 all i pend) fs::k) Q (br Z1 (some d) (.os q (rows++rows2).length)) (O1.set q (.row e kk (rows++rows2)))):
  ai E N K (.tl all ((i,⟨some d,.call {callee:= .builtin .append,args:= #[s,p],argTypes:= #[t,t]},ty,pos,after,none⟩,.one)::l) A pend fs::k) Q Z O:=
 ai.ma hp hnd hd bQ rfl (bm.append rfl hb hs' hi hn (.uf hx hI) ht hte h1 hk hby) (λx O' hR=>by obtain⟨h2,rfl⟩:=hR;cases h2;exact k1) (λx O' hR=>by cases hR.1)
theorem DO.qm {i d n:Nat} {s p:Operand} {x:AV} {t:TypeId} {ty:TypeId} {pos:String} {after:Array Edge} {e kk sz by' sz' by'':Nat} {z z':List Value} {td':TD} {rows rows2:List (List AV)}
  (hs':aL Z s=some (.os i n)) (hi:O.e.get i=some (.row e kk rows)) (hn:n=rows.length) (hx:aL Z p=some (.d x)) (hI:bw x (.sl kk rows2)) (ht:aM E.T t=some ⟨.slice e kk,sz,by',z⟩) (hte:aM E.T e=some ⟨td',sz',by'',z'⟩) (h1:eo rows2=true)
  (hk:Nat.ble 1 kk=true) (hby:Nat.ble 1 by''=true) (hd:Nat.blt d N=true) (hb:(rows++rows2).length*by''<=140737488355328)
  (k1:ai E N K (.ops all rest::k) Q (br Z (some d) (.os i (rows++rows2).length)) (O.set i (.row e kk (rows++rows2)))):
  ai E N K (.ops all (⟨some d,.call {callee:= .builtin .append,args:= #[s,p],argTypes:= #[t,t]},ty,pos,after,none⟩::rest)::k) Q Z O:=
 DO.append hb hs' hi hn (.uf hx hI) ht hte h1 hk hby hd k1
theorem ax.ee {w:World} {A:Nat->Prop} {kk:Nat}:∀{xs:List AV} {vs:List Value} {c:Nat},xs[c]? =some (.v (.slice none 0 0))->ax w A xs vs->ax w A (xs.set c (.sl kk [])) vs
 |x::xs,vs,0,hc,h=>by
  simp only[o7,ao]at hc;subst hc;simp only[ax]at h;obtain⟨v,r,rfl,h1,h2⟩:=h;simp only[rQ,ax];exact⟨v,r,rfl,bw.nil kk _ _ _ h1,h2⟩
 |x::xs,vs,c+1,hc,h=>by
  simp only[ax]at h;obtain⟨v,r,rfl,h1,h2⟩:=h;simp only[lA,ax];exact⟨v,r,rfl,h1,ax.ee (by simpa using hc) h2⟩
theorem DO.nY (t:Nat) {kk:Nat} {rows:List (List AV)} (ht:Z.get t=some (.d (.sl kk rows))) (h1:∀cap,rows=[]->DO E N K all rest Q (Tr.put 24 Z t (some (.d (.v (.slice none 0 cap))))) O) (h2:∀ad n cap,DO E N K all rest Q (Tr.put 24 Z t (some (.d (.v (.slice (some ad) n cap))))) O):DO E N K all rest Q Z O:=λL ZB ηB hs hh=>by
 obtain⟨y,g1,g2⟩:=hs t _ ht;simp only[aw]at g2;subst g2;intro F w0 O0 a w hst hxt;obtain⟨hlt,hv⟩:=hst.sg.2 t _ g1;have go:∀x:Value,Rel w (Al F ηB) (.v x) _->DO E N K all rest Q (Tr.put 24 Z t (some (.d (.v x)))) O->_:=λx hx hd=>
  hd L ((t,.v x)::ZB) ηB (hs.put (some t) (x:= .d (.v x)) (y:= .v x) rfl) hh F w0 O0 a w ⟨⟨hst.sg.1,λu q hq=>by
   simp only[look]at hq;cases hb:Nat.beq t u with
   |true=>
    rw[hb]at hq;simp only[ao]at hq;subst hq;rw[<-bf hb];exact⟨hlt,hx⟩
   |false=>rw[hb]at hq;exact hst.sg.2 u q hq⟩,hst.hp,hst.df⟩ hxt
 simp only[Rel]at hv;rcases hv with⟨hr,ad,cap,he⟩|⟨b,o,cap,vs,he,_⟩
 ·cases ad with
  |none=>exact go _ (by simp only[Rel];exact he) (h1 cap hr)
  |some ad=>exact go _ (by simp only[Rel];exact he) (h2 ad 0 cap)
 ·exact go _ (by simp only[Rel];exact he) (h2 _ _ cap)
theorem ai.nY (t:Nat) {kk:Nat} {rows:List (List AV)} (ht:Z.get t=some (.d (.sl kk rows))) (h1:∀cap,rows=[]->ai E N K (.ops all rest::k) Q (Tr.put 24 Z t (some (.d (.v (.slice none 0 cap))))) O) (h2:∀ad n cap,ai E N K (.ops all rest::k) Q (Tr.put 24 Z t (some (.d (.v (.slice (some ad) n cap))))) O):ai E N K (.ops all rest::k) Q Z O:=DO.nY t ht h1 h2
theorem aV.lg {t et:TypeId} {p q:Operand} {yt:TypeId} {ad:Option Addr} {n cap:Nat} (ho:o.op= .binOp .eql t p q yt) (hu:E.P.underlying t=some (.slice et)) (hp:aL Z p=some (.d (.v (.slice ad n cap)))) (hq:aL Z q=some (.d (.v (.slice none 0 0)))):aV E N o Z (.d (.v (.bool ad.isNone))):=
 aV.dS (by rw[ho];cases ad<;>simp[Bw.dS,hu,kM hp,kM hq,nC,k8])
