/- Walks by program: functions that answer as the code does; first part: what the texts that a program prints lean on. -/
import Derived.Test.YtfgnmgbiijpkiaaGreatKD8
set_option linter.all false
noncomputable section
namespace Go.Bw
open Go
inductive aX (D:Type) where
 |ret (x:D)
 |aO (x:AV)
def aX.ar {D:Type} (f:D->AV):aX D->AR
 | .ret x=> .ret (f x)
 | .aO y=> .aO y
def au {D:Type} (l:List D) (m:Int):Option D:=match m with
 | .ofNat j=>l[j]?
 | .negSucc _=>none
theorem Wg {D:Type} {l:List D} {m:Int} {x:D} (h:au l m=some x):∃j:Nat,m=(j:Int)/\l[j]? =some x:=by
 cases m with
 |ofNat j=>exact⟨j,rfl,h⟩
 |negSucc j=>cases h
theorem W8 {D:Type} {l:List D} {m:Int} {x:D} (h:au l m=some x):m=((m.toNat:Nat):Int)/\l[m.toNat]? =some x:=by
 obtain⟨j,rfl,h⟩:=Wg h;exact⟨rfl,h⟩
theorem fb {D β:Type} {o:Option D} {f:D->Option β} {r:β} (h:o.bind f=some r):∃x,o=some x/\f x=some r:=by
 cases o with
 |none=>cases h
 |some x=>exact⟨x,rfl,h⟩
theorem bz {D:Type} {c:Bool} {a:Option D} {r:D} (h:(bif c then a else none)=some r):c=true/\a=some r:=by
 cases c with
 |true=>exact⟨rfl,h⟩
 |false=>cases h
def eW (k:IntKind) (l:List Int):List (List AV):=l.map λx=>[.v (.int k x)]
def iW (l:List Bool):List (List AV):=l.map λx=>[.v (.bool x)]
def aN (l:List (List UInt8)):List (List AV):=l.map λx=>[.v (.string ⟨⟨x⟩⟩)]
theorem ql {k:IntKind} {l:List Int}:(eW k l).length=l.length:=jt _
theorem Wd {l:List Bool}:(iW l).length=l.length:=jt _
theorem cj {l:List (List UInt8)}:(aN l).length=l.length:=jt _
theorem KQ {k:IntKind} {l:List Int} {i:Nat} {x:Int} (h:l[i]? =some x):(eW k l)[i]? =some [.v (.int k x)]:=get_map h
theorem CW {l:List Bool} {i:Nat} {x:Bool} (h:l[i]? =some x):(iW l)[i]? =some [.v (.bool x)]:=get_map h
theorem dQ {l:List (List UInt8)} {i:Nat} {x:List UInt8} (h:l[i]? =some x):(aN l)[i]? =some [.v (.string ⟨⟨x⟩⟩)]:=get_map h
theorem Wb {k:IntKind} {a b:List Int}:eW k (a++b)=eW k a++eW k b:=oQ
theorem Wc {a b:List Bool}:iW (a++b)=iW a++iW b:=oQ
theorem Wa {a b:List (List UInt8)}:aN (a++b)=aN a++aN b:=oQ
theorem Vt {n:Nat} {l:List (List UInt8)}:aN (l.drop n)=(aN l).drop n:=Uj
theorem Vu {n:Nat} {l:List (List UInt8)}:aN (l.take n)=(aN l).take n:=Uk
def aA {D β:Type} (o:Option (aX D)) (f:D->Option (aX β)):Option (aX β):=match o with
 |some (.ret x)=>f x
 |some (.aO z)=>some (.aO z)
 |none=>none
theorem sn {D β:Type} {o:Option (aX D)} {f:D->Option (aX β)} {r:aX β} (h:aA o f=some r):(∃z,o=some (.aO z)/\r= .aO z)\/∃x,o=some (.ret x)/\f x=some r:=by
 cases o with
 |none=>cases h
 |some x=>cases x with
  |ret x=>exact .inr ⟨x,rfl,h⟩
  |aO z=>cases h;exact .inl ⟨z,rfl,rfl⟩
def iV {D:Type} (l:List D) (lo hi:Int):Option (List D):=match lo,hi with
 | .ofNat a,.ofNat b=>bif Nat.ble a b&&Nat.ble b l.length then some ((l.take b).drop a)else none
 |_,_=>none
theorem qh {D:Type} {l x:List D} {lo hi:Int} (h:iV l lo hi=some x):∃a b:Nat,lo=(a:Int)/\hi=(b:Int)/\a<=b/\b<=l.length/\(l.take b).drop a=x:=by
 unfold iV at h;split at h
 ·rename_i a b;revert h;cases hc:(Nat.ble a b&&Nat.ble b l.length)with
  |false=>intro h;cases h
  |true=>
   intro h;simp only[bL,Nat.ble_eq]at hc;exact⟨a,b,rfl,rfl,hc.1,hc.2,jm h⟩
 ·cases h
theorem J9 {D:Type} {f:D->List AV} (hf:∀x,gy [f x]=true) (l:List D):gy (l.map f)=true:=JV λx _=>hf x
theorem Kk (l:List (List UInt8)):gy (aN l)=true:=J9 (λ_=>rfl) l
section
variable {E:Env} {Q:DQ} {N K:Nat} {Z:TS} {O:Hp} {o:Oper} {all rest:List Oper} {k:List It} {x:CV} {c:Code}
theorem RD.leaf {rs:List ResultVar} {xs:List CV} {z y:AV} {res:AR} {ns:List (Nat×Nat)} {ms:List (Nat×bm)} (h:dT E.T Z O rs=some xs) (hf:b5 O.e 60 [eI xs]=some ([z],ns,ms)) (hn:eqs ns) (hr:res= .ret y) (e:b4 z y):RD E.T rs (Ends 60 res) .ret Z O:=by
 subst hr;exact RD.aco h hf hn e
theorem RD.q0 {rs:List ResultVar} {xs:List CV} {z y:AV} {res:AR} {ns:List (Nat×Nat)} {ms:List (Nat×bm)} (h:dT E.T Z O rs=some xs) (hf:b5 O.e 60 [eI xs]=some ([z],ns,ms)) (hn:eqs ns) (hr:res= .ret y) (e:b4 z y):RD E.T rs (Ends 60 res) .norm Z O:=by
 subst hr;exact RD.Z5 h hf hn e
theorem RD.wm {rs:List ResultVar} {x:CV} {z y:AV} {res:AR} {ns:List (Nat×Nat)} {ms:List (Nat×bm)} (hf:b5 O.e 60 [x]=some ([z],ns,ms)) (hn:eqs ns) (hr:res= .aO y) (e:b4 z y):RD E.T rs (Ends 60 res) (.aO x) Z O:=by
 subst hr;exact RD.acp hf hn e
theorem aQ.wB {dst:Option Nat} {f:Operand} {args:List Operand} {g:FuncId} {cs:List CV} {xs ys:List AV} {res:AV} {tys:Array TypeId} {ty:TypeId} {pos:String} {after:Array Edge} {gd:Option (Nat×Bool)} (h:Pure E.toCx g ys (.ret res)) (hc:cT Z f args=some (g,cs)) (hx:fq cs=some xs) (hi:bZ xs ys):
  aQ E N ⟨dst,.call {callee:= .value f,args:=args.toArray,argTypes:=tys},ty,pos,after,gd⟩ Z (.d res):=aQ.call (h.args hi) hc hx
theorem aQ.conv {y z:CV} (h:aQ E N o Z y) (e:y=z):aQ E N o Z z:=e▸h
theorem Be {c:Bool} (h:c=false):(!c)=true:=by rw[h];rfl
theorem w4 {c:Bool} (h:c=true):(!c)=false:=by rw[h];rfl
theorem nc {c:Bool} (h:(!c)=false):c=true:=by cases c<;>simp_all
theorem ra {c:Bool} (h:(!c)=true):c=false:=by cases c<;>simp_all
def k8 (b:Bool) (A B:Out):Out:=match b with
 |true=>A
 |false=>B
theorem Ok.split {b:Bool} {A B:Out} (h1:b=true->Out.ok E Q A) (h2:b=false->Out.ok E Q B):Out.ok E Q (k8 b A B):=by
 cases b with
 |true=>exact h1 rfl
 |false=>exact h2 rfl
theorem Ok.eH {b:Bool} {A B:Out} (hb:b=true) (h1:Out.ok E Q A):Out.ok E Q (k8 b A B):=by subst hb;exact h1
theorem Ok.fm {b:Bool} {A B:Out} (hb:b=false) (h2:Out.ok E Q B):Out.ok E Q (k8 b A B):=by subst hb;exact h2
def Bf (all:List Oper) (o:Oper) (Z:TS):Option (Nat×Bool):=match o.guard with
 |none=>none
 |some (j,_)=>match(nth all j).bind (·.dst)with
  |none=>none
  |some d=>match Z.get d with
   |some (.d (.v (.bool t)))=>some (d,t)
   |_=>none
def Fc (Z:TS):List It->Option (Nat×Bool)
 | .lex all _ _ (o::_) _::_=>Bf all o Z
 | .tl all ((_,o,_)::_) _ _ _::_=>Bf all o Z
 |_=>none
theorem SS.xz {L:aH} {s:Sl} (hs:SS L Z s) {d:Nat} {t b:Bool} (hd:Z.get d=some (.d (.v (.bool t)))) (ht:t=b):SS L (Tr.put 24 Z d (some (.d (.v (.bool b))))) s:=by
 subst ht;intro u z hz;rcases Tr.ep 24 Z d u _ z hz with⟨rfl,h3⟩|⟨_,h3⟩
 ·cases h3;exact hs _ _ hd
 ·exact hs _ _ h3
theorem LK {all:List Oper} {o:Oper} {d:Nat} {t:Bool} (h:Bf all o Z=some (d,t)):Z.get d=some (.d (.v (.bool t))):=by
 unfold Bf at h;split at h
 ·cases h
 ·split at h
  ·cases h
  ·split at h
   ·rename_i h1;simp only[aE,cu]at h;obtain⟨rfl,rfl⟩:=h;exact h1
   ·cases h
theorem ak.xz {todo:List It} {d:Nat} {t b:Bool} (ha:Fc Z todo=some (d,t)) (ht:t=b) (h:ak E N K todo Q (Tr.put 24 Z d (some (.d (.v (.bool b))))) O):ak E N K todo Q Z O:=by
 unfold Fc at ha;split at ha
 ·unfold ak at h⊢;simp only[dq]at h⊢;exactλL s OB WB hs=>h L s OB WB (hs.xz (LK ha) ht)
 ·unfold ak at h⊢;simp only[dq]at h⊢;exactλhf L s OB pb hs=>h hf L s OB pb (hs.xz (LK ha) ht)
 ·cases ha
def GS (Z:TS):Op->Bool
 | .indexAddr _ (.tmp t) _=>match Z.get t with
  |some (.os _ _)=>true
  |_=>false
 | .load _ (.tmp t)=>match Z.get t with
  |some (.oe _ _ _)=>true
  |_=>false
 | .store _ (.tmp t) _=>match Z.get t with
  |some (.oe _ _ _)=>true
  |_=>false
 |_=>false
def acq (Z:TS):List It->Bool
 | .ops _ (o::_)::_=>match o.guard with
  |none=>GS Z o.op
  |some _=>false
 | .lex _ _ _ (o::_) _::_=>GS Z o.op
 | .tl _ ((_,o,_)::_) _ _ _::_=>GS Z o.op
 |_=>false
def uZ (rec:Nat->Nat->List It->TS->Hp->List (Nat×Nat)->Out):Nx->Out
 | .go N' K' todo' σ' O' ns'=>match O' with
  |⟨e,m⟩=>uc 1000 m 0 λn=>rec N' K' todo' σ' ⟨e,n⟩ ns'
 | .out (.cond b N' K' t1 s1 t2 s2 O' ns')=>k8 b (rec N' K' t1 s1 O' ns') (rec N' K' t2 s2 O' ns')
 | .out o=>o
def dr (P:Program) (G:Gl) (T:bX):Nat->Nat->Nat->List It->TS->Hp->List (Nat×Nat)->Out
 |0,N,K,todo,Z,O,ns=> .stuck N K todo Z O ns
 |f+1,N,K,todo,Z,O,ns=>match rV Z todo with
  |true=> .stuck N K todo Z O ns
  |false=>match acq Z todo with
   |true=> .stuck N K todo Z O ns
   |false=>match Fc Z todo with
    |none=>uZ (dr P G T f) (step P G T ow (λ_ _=>none) f N K todo Z O ns)
    |some (d,t)=>k8 t (uZ (dr P G T f) (step P G T ow (λ_ _=>none) f N K todo (Tr.put 24 Z d (some (.d (.v (.bool true))))) O ns)) (uZ (dr P G T f) (step P G T ow (λ_ _=>none) f N K todo (Tr.put 24 Z d (some (.d (.v (.bool false))))) O ns))
theorem Y1 {Q:DQ} {rec:Nat->Nat->List It->TS->Hp->List (Nat×Nat)->Out} (hr:∀N K todo Z O ns,Out.ok E Q (rec N K todo Z O ns)->eqs ns/\ak E N K todo Q Z O):∀{x:Nx},Out.ok E Q (uZ rec x)->Nx.ok E Q x
 | .go N' K' todo' σ' O' ns',h=>by
  dsimp only[uZ]at h;rw[zw]at h;exact hr _ _ _ _ _ _ h
 | .out (.stuck ..),h=>h
 | .out (.fin ..),h=>h
 | .out (.cond b N' K' t1 s1 t2 s2 O' ns'),h=>by
  cases b with
  |true=>
   have:=hr _ _ _ _ _ _ h;exact⟨this.1,λ_=>this.2,(λh=>nomatch h)⟩
  |false=>
   have:=hr _ _ _ _ _ _ h;exact⟨this.1,(λh=>nomatch h),λ_=>this.2⟩
theorem PO (hm:E.P.follows .mixedOrders=true):∀(f:Nat) (Q:DQ) (N K:Nat) (todo:List It) (Z:TS) (O:Hp) (ns:List (Nat×Nat)),Out.ok E Q (dr E.P E.G E.T f N K todo Z O ns)->eqs ns/\ak E N K todo Q Z O
 |0,_,_,_,_,_,_,_,h=>h
 |f+1,Q,N,K,todo,Z,O,ns,h=>by
  have one:∀Z,Out.ok E Q (uZ (dr E.P E.G E.T f) (step E.P E.G E.T ow (λ_ _=>none) f N K todo Z O ns))->eqs ns/\ak E N K todo Q Z O:=λZ h=>
   M7 (c:=ow) (fl:=f) hm (λf hf=>by cases hf) (λf ty z h=>by cases h) (λg x h=>by cases h) (nest:=λ_ _=>none) (λg xs z hz=>by cases hz) (Y1 (λN K todo Z O ns h=>PO hm f Q N K todo Z O ns h) h)
  unfold dr at h;split at h
  ·exact h
  ·split at h
   ·exact h
   ·split at h
    ·exact one Z h
    ·rename_i d t ha;cases t with
     |true=>have:=one _ h;exact⟨this.1,ak.xz ha rfl this.2⟩
     |false=>have:=one _ h;exact⟨this.1,ak.xz ha rfl this.2⟩
theorem YZ (hm:E.P.follows .mixedOrders=true) (f:Nat) (h:Out.ok E Q (match O with|⟨e,m⟩=>uc 1000 m 0 λn=>dr E.P E.G E.T f N K k Z ⟨e,n⟩ [])):ak E N K k Q Z O:=by
 obtain⟨e,m⟩:=O;dsimp only at h;rw[zw]at h;exact(PO hm f Q N K k Z ⟨e,m⟩ [] h).2
theorem bg.q7 {f:Operand} {args:List Operand} {g:FuncId} {cs:List CV} {xs' xs:List AV} {ns:List (Nat×Nat)} {ms:List (Nat×bm)} {res:AV} {tys:Array TypeId} (h:Pure E.toCx g xs (.ret res)) (ho:o.op= .call {callee:= .value f,args:=args.toArray,argTypes:=tys})
  (hc:cT Z f args=some (g,cs)) (hf:b5 O.e 60 cs=some (xs',ns,ms)) (hn:eqs ns) (hi:bZ xs' xs) (hl:ms=[]\/cU res=true):bg E N o Z O (.d res):=bg.pure 60 ho h hc hf hn hi hl
theorem ak.sY {dst:Option Nat} {f:Operand} {args:List Operand} {g:FuncId} {cs:List CV} {xs' xs:List AV} {ns:List (Nat×Nat)} {ms:List (Nat×bm)} {y:AV} {tys:Array TypeId} {ty:TypeId} {pos:String} {after:Array Edge} (h:Pure E.toCx g xs (.aO y)) (hc:cT Z f args=some (g,cs)) (hf:b5 O.e 60 cs=some (xs',ns,ms)) (hn:eqs ns) (hi:bZ xs' xs) (hl:ms=[]\/cU y=true) (hp:jF k=none)
  (hq:Q (.aO (.d y)) .lf O):ak E N K (.ops all (⟨dst,.call {callee:= .value f,args:=args.toArray,argTypes:=tys},ty,pos,after,none⟩::rest)::k) Q Z O:=by
 show DO E N K all _ (dq E N K k Q) Z O;exact DO.sY 60 h hc hf hn hi hl (l3 k N K .lf hp hq)
theorem ak.cH {t:Nat} {z:AV} {ns:List (Nat×Nat)} {ms:List (Nat×bm)} (hx:Z.get t=some x) (hf:b5 O.e 60 [x]=some ([z],ns,ms)) (hn:eqs ns) (h:ak E N K (.ops all rest::k) Q (Tr.put 24 Z t (some (.d z))) (iE ms O)):ak E N K (.ops all rest::k) Q Z O:=DO.cH 60 hx hf hn h
theorem ak.qg {l:List (Nat×Oper×TK)} {A:bR} {pend:List (Nat×Oper×CV)} {fs:List (Nat×List AV×AV)} {q:Nat} {t:TypeId} {p v:Operand} {i n m e kk:Nat} {rows:List (List AV)} {r r':List AV} {y:AV} {ti:TI} {σ1:TS} {η1:Hp} (j off:Nat) (hpd:aG E N all pend Z O) (hnd:e9 ((dB (cd all.toArray q A)).map (·.1))=true) (hd:o.dst=none) (cz:eJ (dB (cd all.toArray q A)) Z O=(σ1,η1)) (hw:cC all o σ1=some true)
  (ho:o.op= .store t p v) (hp:a6 σ1 p=some (.oe i n m)) (hv:a6 σ1 v=some (.d y)) (hi:η1.e.get i=some (.row e kk rows)) (hn:n=rows.length)
  (hm:m=j*kk+off) (hr:rows[j]? =some r) (ht:a7 E.T t=some ti) (hk:Nat.beq (cf y).length ti.size=true) (h1:eK (cf y)=true) (hl:eU r off (cf y)=some r')
  (h:ak E N K (.tl all l (cv all.toArray q A) (cG all q pend) fs::k) Q σ1 (η1.set i (.row e kk (rows.set j r')))):ak E N K (.tl all ((q,o,.one)::l) A pend fs::k) Q Z O:=
 ak.q8 hpd hnd (by rw[hd];rfl) cz hw (bM.qq j off ho hp hv hi hn hm hr ht hk h1 hl) (λx O' hR=>by obtain⟨h2,rfl⟩:=hR;rw[hd];exact h) (λx O' hR=>by cases hR.1)
theorem ez.Ya {G:Gl} {N:Nat} {Z:Sg} {O:List aq} (e:TypeId) (k:Nat):ez G N Z O Z (O++[.row (.slice none 0 0) e k []]):=λF w a hs=>by
 have hkeep:cL w (Al F O) w (Al F (O++[aq.row (.slice none 0 0) e k []])):=⟨bQ _,λb _ ha=>⟨by simpa[Al,cn,cF,aq.ids,Value.ownBlock,ids]using ha,rfl⟩⟩;refine⟨⟨⟨hs.sg.1,λs x hx=>⟨(hs.sg.2 s x hx).1,(hs.sg.2 s x hx).2.keep hkeep⟩⟩,?_,hs.df⟩,λb hb=>?_⟩
 ·refine hs.hp.push (bQ _) (λ_ _=>rfl) (by simp[aq.ids,Value.ownBlock]) (by simp[aq.ids,Value.ownBlock]) ?_;exact⟨[],by simp[bu],by simp,.inl ⟨rfl,rfl⟩⟩
 ·simpa[cn,cF,aq.ids,Value.ownBlock,ids]using hb
theorem aJ.PQ {w:World} {A:Nat->Prop} {t:Nat}:∀{xs:List AV} {vs:List Value} {c:Nat},xs[c]? =some (.v (.slice none 0 0))->aJ w A xs vs->aJ w A (xs.set c (.os t none 0 0)) vs
 |x::xs,vs,0,hc,h=>by
  simp only[lD,aE]at hc;subst hc;simp only[aJ]at h;obtain⟨v,r,rfl,h1,h2⟩:=h;simp only[xI,aJ];exact⟨v,r,rfl,by simp only[Rel]at h1⊢;exact h1,h2⟩
 |x::xs,vs,c+1,hc,h=>by
  simp only[aJ]at h;obtain⟨v,r,rfl,h1,h2⟩:=h;simp only[qe,aJ];exact⟨v,r,rfl,h1,aJ.PQ (by simpa using hc) h2⟩
theorem aS.getD {L:aH}:∀{xs:List CV} {ys:List AV} {c:Nat} {x:AV},aS L xs ys->xs[c]? =some (.d x)->ys[c]? =some x
 |y::xs,ys,0,x,h,hc=>by
  simp only[lD,aE]at hc;subst hc;simp only[aS]at h;obtain⟨u,r,rfl,h1,_⟩:=h;simp only[aI]at h1;subst h1;rfl
 |y::xs,ys,c+1,x,h,hc=>by
  simp only[aS]at h;obtain⟨u,r,rfl,_,h2⟩:=h;simpa using aS.getD h2 (by simpa using hc)
theorem aS.OS {L:aH} {x:CV} {y:AV} (hxy:aI L x y):∀{xs:List CV} {ys:List AV} {c:Nat},aS L xs ys->aS L (xs.set c x) (ys.set c y)
 |[],ys,_,h=>by simp only[aS]at h;subst h;simp[aS]
 |_::xs,ys,0,h=>by
  simp only[aS]at h;obtain⟨u,r,rfl,_,h2⟩:=h;simp only[xI,aS];exact⟨_,_,rfl,hxy,h2⟩
 |_::xs,ys,c+1,h=>by
  simp only[aS]at h;obtain⟨u,r,rfl,h1,h2⟩:=h;simp only[qe,aS];exact⟨_,_,rfl,h1,aS.OS hxy h2⟩
theorem DC.fP (i c' e kk:Nat) {cs:List CV} (hi:O.e.get i=some (.box cs)) (hc:cs[c']? =some (.d (.v (.slice none 0 0)))) (h:DC E N K c Q Z ((O.push (.row e kk [])).set i (.box (cs.set c' (.os O.n 0))))):DC E N K c Q Z O:=λL ZB OB hs hh=>by
 obtain⟨y,hy,hE⟩:=hh.en i _ hi;obtain⟨b,cs',hb,rfl,hcs⟩:=hE;have hilt:i<OB.length:=by rw[cq]at hy;exact(cr.1 hy).1
 have hdom:=hh.fJ O.n (bQ _);have hl:L.le (L.ba O.n 0 (none,0)):=aH.ko λy hy=>by rw[hdom.2]at hy;cases hy
 have hbn:(L.ba O.n 0 (none,0)).s O.n 0=some (none,0):=by simp[aH.ba]
 have hy':nth (OB++[aq.row (.slice none 0 0) e kk []]) i=some (.box b cs'):=by rw[cq]at hy⊢;rw[rY hilt];exact hy
 have hc2:cs'[c']? =some (.v (.slice none 0 0)):=hcs.getD hc;refine bK.kE (ez.Ya e kk) (bK.kE (ez.TY i (y:= .box b (cs'.set c' (.os OB.length none 0 0))) hy' rfl (λw A h=>?_)) ?_)
 ·obtain⟨e',vs,h1,h2⟩:=h;exact⟨e',vs,h1,h2.PQ hc2⟩
 refine bK.mono (h _ _ _ (hs.mono hl) ?_) λ_ _ _ hq=>qm (hl.toK K) (λ_ _ _ h=>h) hq;have hp:HS (L.ba O.n 0 (none,0)) (O.push (.row e kk [])) (OB++[aq.row (.slice none 0 0) e kk []]):=by
  refine hh.push hl (λi hi=>by funext m;simp[aH.ba,hi]) (λ_ _=>rfl) ⟨⟨none,0,by simpa using hbn,by simp⟩,λm hm=>?_⟩;have:m≠0:=by simp at hm;omega
  simp only[aH.ba,this,and_false,if_false];exact hdom.2 m
 refine hp.set (.refl _) (λ_ _=>rfl) (λ_ _=>rfl) ?_ ⟨b,_,hl.1 _ _ hb,rfl,(hcs.mono hl).OS ?_⟩
 ·have:=hh.lt hi;simp only[Hp.push];omega
 ·simp only[aI];exact⟨none,0,OB.length,hbn,rfl⟩
theorem ak.fP (i c' e kk n:Nat) {cs:List CV} (hn:O.n=n) (hi:O.e.get i=some (.box cs)) (hc:cs[c']? =some (.d (.v (.slice none 0 0)))) (h:ak E N K (.code c::k) Q Z ⟨Tr.put 24 (Tr.put 24 O.e n (some (.row e kk []))) i (some (.box (cs.set c' (.os n 0)))),n+1⟩):ak E N K (.code c::k) Q Z O:=by
 subst hn;unfold ak at h⊢;simp only[dq]at h⊢;exact DC.fP i c' e kk hi hc h
theorem ak.km (t e kk n:Nat) (hn:O.n=n) (ht:Z.get t=some (.d (.v (.slice none 0 0)))) (h:ak E N K (.code c::k) Q (Tr.put 24 Z t (some (.os n 0))) ⟨Tr.put 24 O.e n (some (.row e kk [])),n+1⟩):ak E N K (.code c::k) Q Z O:=by
 subst hn;exact ak.iF t e kk ht h
theorem ak.lP (n:Nat) {l:List (Nat×Oper×TK)} {A:bR} {pend:List (Nat×Oper×CV)} {fs:List (Nat×List AV×AV)} {q d u:Nat} {p:Operand} {t:TypeId} {ty:TypeId} {pos:String} {after:Array Edge} {e kk sz by' sz' by'':Nat} {z z':List Value} {td':TD} {rows2:List (List AV)} {σ1:TS} {η1:Hp} (hp:aG E N all pend Z O) (hnd:e9 ((dB (cd all.toArray q A)).map (·.1))=true) (hd:Nat.blt d N=true) (cz:eJ (dB (cd all.toArray q A)) Z O=(σ1,η1)) (hn:η1.n=n)
  (hu:σ1.get u=some (.d (.v (.slice none 0 0)))) (hx:a6 (Tr.put 24 σ1 u (some (.os n 0))) p=some (.d (.sl kk rows2))) (ht:a7 E.T t=some ⟨.slice e kk,sz,by',z⟩) (hte:a7 E.T e=some ⟨td',sz',by'',z'⟩)
  (hs':a6 (Tr.put 24 σ1 u (some (.os n 0))) (.tmp u)=some (.os n 0)) (hi:(Tr.put 24 η1.e n (some (.row e kk []))).get n=some (.row e kk [])) (h1:gy rows2=true)
  (hk:Nat.ble 1 kk=true) (hby:Nat.ble 1 by''=true) (hb:rows2.length*by''<=140737488355328)
  (k1:ak E N K (.tl all l (cv all.toArray q A) (cG all q pend) fs::k) Q (bW σ1 (some d) (.os n rows2.length)) ⟨Tr.put 24 (Tr.put 24 η1.e n (some (.row e kk []))) n (some (.row e kk rows2)),n+1⟩):
  ak E N K (.tl all ((q,⟨some d,.call {callee:= .builtin .append,args:= #[.tmp u,p],argTypes:= #[t,t]},ty,pos,after,none⟩,.one)::l) A pend fs::k) Q Z O:=by
 subst hn;exact ak.q8 hp hnd hd cz rfl (bM.iF u e kk hu (bM.append (rows:=[]) rfl hb hs' hi rfl (.sl hx) ht hte h1 hk hby)) (λx O' hR=>by obtain⟨h2,rfl⟩:=hR;cases h2;exact k1) (λx O' hR=>by cases hR.1)
theorem ak.Y2 {l:List (Nat×Oper×TK)} {A:bR} {pend:List (Nat×Oper×CV)} {fs:List (Nat×List AV×AV)} {i j:Nat} {o':Oper} {y:TK} {η1 η2 η3:Hp} (hp:aG E N all pend Z O) (hd:o.dst=none) (hd':o'.dst=none) (hw:cC all o Z=some true) (hw':cC all o' Z=some true)
  (h1:bM E N o Z O (λr O'=>r= .ret (.d (.v undef))/\O'=η1)) (p1:aG E N all (cG all i pend) Z η1) (h2:bM E N o' Z η1 (λr O'=>r= .ret (.d (.v undef))/\O'=η3))
  (h3:bM E N o' Z O (λr O'=>r= .ret (.d (.v undef))/\O'=η2)) (p2:aG E N all (cG all j pend) Z η2) (h4:bM E N o Z η2 (λr O'=>r= .ret (.d (.v undef))/\O'=η3))
  (k1:ak E N K (.tl all l A (cG all j (cG all i pend)) fs::k) Q Z η3):ak E N K (.tl all ((i,o,.two)::(j,o',y)::l) A pend fs::k) Q Z O:=
 λhf=>cy.pair hp hd hd' hw hw' h1 p1 h2 h3 p2 h4 (k1 hf)
theorem ak.zm {l:List (Nat×Oper×TK)} {A:bR} {pend:List (Nat×Oper×CV)} {fs:List (Nat×List AV×AV)} {qi qj:Nat} {o':Oper} {ytk:TK} {t t2:TypeId} {p v p2 v2:Operand} {i n m e kk b off2:Nat} {rows:List (List AV)} {r r':List AV} {y:AV} {x2:CV} {cs cs':List CV} {ti ti2:TI} (jn off:Nat) (hpd:aG E N all pend Z O) (hd:o.dst=none) (hd':o'.dst=none) (hw:cC all o Z=some true) (hw':cC all o' Z=some true)
  (ho:o.op= .store t p v) (hpv:a6 Z p=some (.oe i n m)) (hv:a6 Z v=some (.d y)) (hi:O.e.get i=some (.row e kk rows)) (hn:n=rows.length) (hm:m=jn*kk+off) (hr:rows[jn]? =some r) (ht:a7 E.T t=some ti) (hk:Nat.beq (cf y).length ti.size=true) (h1:eK (cf y)=true) (hl:eU r off (cf y)=some r')
  (ho':o'.op= .store t2 p2 v2) (hp2:a6 Z p2=some (.own b off2)) (hv2:a6 Z v2=some x2) (hb:O.e.get b=some (.box cs)) (ht2:a7 E.T t2=some ti2) (hk2:Nat.beq (dF x2).length ti2.size=true) (h12:l7 (dF x2)=true) (hl2:lU cs off2 (dF x2)=some cs')
  (hi':(O.set b (.box cs')).e.get i=some (.row e kk rows)) (hb':(O.set i (.row e kk (rows.set jn r'))).e.get b=some (.box cs)) (he:(O.set b (.box cs')).set i (.row e kk (rows.set jn r'))=(O.set i (.row e kk (rows.set jn r'))).set b (.box cs'))
  (q1:aG E N all (cG all qi pend) Z (O.set i (.row e kk (rows.set jn r')))) (q2:aG E N all (cG all qj pend) Z (O.set b (.box cs')))
  (k1:ak E N K (.tl all l A (cG all qj (cG all qi pend)) fs::k) Q Z ((O.set i (.row e kk (rows.set jn r'))).set b (.box cs'))):ak E N K (.tl all ((qi,o,.two)::(qj,o',ytk)::l) A pend fs::k) Q Z O:=
 ak.Y2 hpd hd hd' hw hw' (bM.qq jn off ho hpv hv hi hn hm hr ht hk h1 hl) q1 (bM.store ho' hp2 hv2 hb' ht2 hk2 h12 hl2) (bM.store ho' hp2 hv2 hb ht2 hk2 h12 hl2) q2
  ((bM.qq jn off ho hpv hv hi' hn hm hr ht hk h1 hl).mono λr1 O' hR=>⟨hR.1,hR.2.trans he⟩) k1
theorem jB {d n:Nat} {q:Operand} {kd:IntKind} {m:Int} (hm:m=(n:Int)) (h:a6 Z q=some (.d (.v (.int kd m)))):mf Z d (some q)=some n:=by
 subst hm;simp only[mf,h];rfl
theorem M5 {d n:Nat} (h:d=n):mf Z d none=some n:=by subst h;rfl
theorem ak.cR {l:List (Nat×Oper×TK)} {A:bR} {pend:List (Nat×Oper×CV)} {fs:List (Nat×List AV×AV)} {i q n d:Nat} {s p:Operand} {x:AV} {t:TypeId} {ty:TypeId} {pos:String} {after:Array Edge} {e kk sz by' sz' by'':Nat} {z z':List Value} {td':TD} {rows rows2:List (List AV)} {σ1:TS} {η1:Hp} (hp:aG E N all pend Z O) (hnd:e9 ((dB (cd all.toArray i A)).map (·.1))=true) (hd:Nat.blt d N=true) (cz:eJ (dB (cd all.toArray i A)) Z O=(σ1,η1))
  (hs':a6 σ1 s=some (.os q n)) (hi:η1.e.get q=some (.row e kk rows)) (hn:n=rows.length) (hx:a6 σ1 p=some (.d x)) (hI:b4 x (.sl kk rows2)) (ht:a7 E.T t=some ⟨.slice e kk,sz,by',z⟩) (hte:a7 E.T e=some ⟨td',sz',by'',z'⟩) (h1:gy rows2=true)
  (hk:Nat.ble 1 kk=true) (hby:Nat.ble 1 by''=true) (hb:(rows++rows2).length*by''<=140737488355328)
  (k1:ak E N K (.tl all l (cv all.toArray i A) (cG all i pend) fs::k) Q (bW σ1 (some d) (.os q (rows++rows2).length)) (η1.set q (.row e kk (rows++rows2)))):
  ak E N K (.tl all ((i,⟨some d,.call {callee:= .builtin .append,args:= #[s,p],argTypes:= #[t,t]},ty,pos,after,none⟩,.one)::l) A pend fs::k) Q Z O:=
 ak.q8 hp hnd hd cz rfl (bM.append rfl hb hs' hi hn (.BU hx hI) ht hte h1 hk hby) (λx O' hR=>by obtain⟨h2,rfl⟩:=hR;cases h2;exact k1) (λx O' hR=>by cases hR.1)
theorem DO.Ba {i d n:Nat} {s p:Operand} {x:AV} {t:TypeId} {ty:TypeId} {pos:String} {after:Array Edge} {e kk sz by' sz' by'':Nat} {z z':List Value} {td':TD} {rows rows2:List (List AV)}
  (hs':a6 Z s=some (.os i n)) (hi:O.e.get i=some (.row e kk rows)) (hn:n=rows.length) (hx:a6 Z p=some (.d x)) (hI:b4 x (.sl kk rows2)) (ht:a7 E.T t=some ⟨.slice e kk,sz,by',z⟩) (hte:a7 E.T e=some ⟨td',sz',by'',z'⟩) (h1:gy rows2=true)
  (hk:Nat.ble 1 kk=true) (hby:Nat.ble 1 by''=true) (hd:Nat.blt d N=true) (hb:(rows++rows2).length*by''<=140737488355328)
  (k1:ak E N K (.ops all rest::k) Q (bW Z (some d) (.os i (rows++rows2).length)) (O.set i (.row e kk (rows++rows2)))):
  ak E N K (.ops all (⟨some d,.call {callee:= .builtin .append,args:= #[s,p],argTypes:= #[t,t]},ty,pos,after,none⟩::rest)::k) Q Z O:=
 DO.append hb hs' hi hn (.BU hx hI) ht hte h1 hk hby hd k1
theorem aJ.fF {w:World} {A:Nat->Prop} {kk:Nat}:∀{xs:List AV} {vs:List Value} {c:Nat},xs[c]? =some (.v (.slice none 0 0))->aJ w A xs vs->aJ w A (xs.set c (.sl kk [])) vs
 |x::xs,vs,0,hc,h=>by
  simp only[lD,aE]at hc;subst hc;simp only[aJ]at h;obtain⟨v,r,rfl,h1,h2⟩:=h;simp only[xI,aJ];exact⟨v,r,rfl,b4.nil kk _ _ _ h1,h2⟩
 |x::xs,vs,c+1,hc,h=>by
  simp only[aJ]at h;obtain⟨v,r,rfl,h1,h2⟩:=h;simp only[qe,aJ];exact⟨v,r,rfl,h1,aJ.fF (by simpa using hc) h2⟩
theorem DO.ua (t:Nat) {kk:Nat} {rows:List (List AV)} (ht:Z.get t=some (.d (.sl kk rows))) (h1:∀cap,rows=[]->DO E N K all rest Q (Tr.put 24 Z t (some (.d (.v (.slice none 0 cap))))) O) (h2:∀ad n cap,DO E N K all rest Q (Tr.put 24 Z t (some (.d (.v (.slice (some ad) n cap))))) O):DO E N K all rest Q Z O:=λL ZB OB hs hh=>by
 obtain⟨y,g1,g2⟩:=hs t _ ht;simp only[aI]at g2;subst g2;intro F w0 η0 a w hst hxt;obtain⟨hlt,hv⟩:=hst.sg.2 t _ g1;have go:∀x:Value,Rel w (Al F OB) (.v x) _->DO E N K all rest Q (Tr.put 24 Z t (some (.d (.v x)))) O->_:=λx hx hd=>
  hd L ((t,.v x)::ZB) OB (hs.put (some t) (x:= .d (.v x)) (y:= .v x) rfl) hh F w0 η0 a w ⟨⟨hst.sg.1,λu q hq=>by
   simp only[look]at hq;cases hb:Nat.beq t u with
   |true=>
    rw[hb]at hq;simp only[aE]at hq;subst hq;rw[<-bE hb];exact⟨hlt,hx⟩
   |false=>rw[hb]at hq;exact hst.sg.2 u q hq⟩,hst.hp,hst.df⟩ hxt
 simp only[Rel]at hv;rcases hv with⟨hr,ad,cap,he⟩|⟨b,o,cap,vs,he,_⟩
 ·cases ad with
  |none=>exact go _ (by simp only[Rel];exact he) (h1 cap hr)
  |some ad=>exact go _ (by simp only[Rel];exact he) (h2 ad 0 cap)
 ·exact go _ (by simp only[Rel];exact he) (h2 _ _ cap)
theorem ak.ua (t:Nat) {kk:Nat} {rows:List (List AV)} (ht:Z.get t=some (.d (.sl kk rows))) (h1:∀cap,rows=[]->ak E N K (.ops all rest::k) Q (Tr.put 24 Z t (some (.d (.v (.slice none 0 cap))))) O) (h2:∀ad n cap,ak E N K (.ops all rest::k) Q (Tr.put 24 Z t (some (.d (.v (.slice (some ad) n cap))))) O):ak E N K (.ops all rest::k) Q Z O:=DO.ua t ht h1 h2
theorem aQ.pQ {t et:TypeId} {p q:Operand} {yt:TypeId} {ad:Option Addr} {n cap:Nat} (ho:o.op= .binOp .eql t p q yt) (hu:E.P.underlying t=some (.slice et)) (hp:a6 Z p=some (.d (.v (.slice ad n cap)))) (hq:a6 Z q=some (.d (.v (.slice none 0 0)))):aQ E N o Z (.d (.v (.bool ad.isNone))):=
 aQ.eS (by rw[ho];cases ad<;>simp[Bw.eS,hu,lV hp,lV hq,qX,nX])
