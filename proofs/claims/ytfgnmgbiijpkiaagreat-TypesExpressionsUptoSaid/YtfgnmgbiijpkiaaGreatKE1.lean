/- Walks by program: functions that answer as the code does; first part: what the texts that a program prints lean on. -/
import Derived.Test.YtfgnmgbiijpkiaaGreatKD8
set_option linter.all false
noncomputable section
namespace Go.Bw
open Go
inductive aU (D:Type) where
 |ret (x:D)
 |aO (x:AV)
def aU.ar {D:Type} (f:D->AV):aU D->AR
 | .ret x=> .ret (f x)
 | .aO y=> .aO y
def ax {D:Type} (l:List D) (m:Int):Option D:=match m with
 | .ofNat j=>l[j]?
 | .negSucc _=>none
theorem NR {D:Type} {l:List D} {m:Int} {x:D} (h:ax l m=some x):∃j:Nat,m=(j:Int)/\l[j]? =some x:=by
 cases m with
 |ofNat j=>exact⟨j,rfl,h⟩
 |negSucc j=>cases h
theorem Ox {D:Type} {l:List D} {m:Int} {x:D} (h:ax l m=some x):m=((m.toNat:Nat):Int)/\l[m.toNat]? =some x:=by
 obtain⟨j,rfl,h⟩:=NR h;exact⟨rfl,h⟩
theorem eQ {D β:Type} {o:Option D} {f:D->Option β} {r:β} (h:o.bind f=some r):∃x,o=some x/\f x=some r:=by
 cases o with
 |none=>cases h
 |some x=>exact⟨x,rfl,h⟩
theorem bG {D:Type} {c:Bool} {a:Option D} {r:D} (h:(bif c then a else none)=some r):c=true/\a=some r:=by
 cases c with
 |true=>exact⟨rfl,h⟩
 |false=>cases h
def eC (k:IntKind) (l:List Int):List (List AV):=l.map λx=>[.v (.int k x)]
def gL (l:List Bool):List (List AV):=l.map λx=>[.v (.bool x)]
def bn (l:List (List UInt8)):List (List AV):=l.map λx=>[.v (.string ⟨⟨x⟩⟩)]
theorem xX {k:IntKind} {l:List Int}:(eC k l).length=l.length:=oM _
theorem NO {l:List Bool}:(gL l).length=l.length:=oM _
theorem du {l:List (List UInt8)}:(bn l).length=l.length:=oM _
theorem NH {k:IntKind} {l:List Int} {i:Nat} {x:Int} (h:l[i]? =some x):(eC k l)[i]? =some [.v (.int k x)]:=get_map h
theorem xV {l:List Bool} {i:Nat} {x:Bool} (h:l[i]? =some x):(gL l)[i]? =some [.v (.bool x)]:=get_map h
theorem eM {l:List (List UInt8)} {i:Nat} {x:List UInt8} (h:l[i]? =some x):(bn l)[i]? =some [.v (.string ⟨⟨x⟩⟩)]:=get_map h
theorem NM {k:IntKind} {a b:List Int}:eC k (a++b)=eC k a++eC k b:=xh
theorem NN {a b:List Bool}:gL (a++b)=gL a++gL b:=xh
theorem NL {a b:List (List UInt8)}:bn (a++b)=bn a++bn b:=xh
theorem Ng {n:Nat} {l:List (List UInt8)}:bn (l.drop n)=(bn l).drop n:=Ml
theorem Nh {n:Nat} {l:List (List UInt8)}:bn (l.take n)=(bn l).take n:=Mm
def aH {D β:Type} (o:Option (aU D)) (f:D->Option (aU β)):Option (aU β):=match o with
 |some (.ret x)=>f x
 |some (.aO z)=>some (.aO z)
 |none=>none
theorem oY {D β:Type} {o:Option (aU D)} {f:D->Option (aU β)} {r:aU β} (h:aH o f=some r):(∃z,o=some (.aO z)/\r= .aO z)\/∃x,o=some (.ret x)/\f x=some r:=by
 cases o with
 |none=>cases h
 |some x=>cases x with
  |ret x=>exact .inr ⟨x,rfl,h⟩
  |aO z=>cases h;exact .inl ⟨z,rfl,rfl⟩
def ij {D:Type} (l:List D) (lo hi:Int):Option (List D):=match lo,hi with
 | .ofNat a,.ofNat b=>bif Nat.ble a b&&Nat.ble b l.length then some ((l.take b).drop a)else none
 |_,_=>none
theorem mX {D:Type} {l x:List D} {lo hi:Int} (h:ij l lo hi=some x):∃a b:Nat,lo=(a:Int)/\hi=(b:Int)/\a<=b/\b<=l.length/\(l.take b).drop a=x:=by
 unfold ij at h;split at h
 ·rename_i a b;revert h;cases hc:(Nat.ble a b&&Nat.ble b l.length)with
  |false=>intro h;cases h
  |true=>
   intro h;simp only[bI,Nat.ble_eq]at hc;exact⟨a,b,rfl,rfl,hc.1,hc.2,gV h⟩
 ·cases h
theorem Ey {D:Type} {f:D->List AV} (hf:∀x,fF [f x]=true) (l:List D):fF (l.map f)=true:=Em λx _=>hf x
theorem EI (l:List (List UInt8)):fF (bn l)=true:=Ey (λ_=>rfl) l
section
variable {E:Env} {Q:DQ} {N K:Nat} {Z:TS} {O:Hp} {o:Oper} {all rest:List Oper} {k:List It} {x:CV} {c:Code}
theorem RD.leaf {rs:List ResultVar} {xs:List CV} {z y:AV} {res:AR} {ns:List (Nat×Nat)} {ms:List (Nat×bg)} (h:dH E.T Z O rs=some xs) (hf:bY O.e 60 [ed xs]=some ([z],ns,ms)) (hn:eqs ns) (hr:res= .ret y) (e:bQ z y):RD E.T rs (Ends 60 res) .ret Z O:=by
 subst hr;exact RD.SZ h hf hn e
theorem RD.vH {rs:List ResultVar} {xs:List CV} {z y:AV} {res:AR} {ns:List (Nat×Nat)} {ms:List (Nat×bg)} (h:dH E.T Z O rs=some xs) (hf:bY O.e 60 [ed xs]=some ([z],ns,ms)) (hn:eqs ns) (hr:res= .ret y) (e:bQ z y):RD E.T rs (Ends 60 res) .norm Z O:=by
 subst hr;exact RD.Q4 h hf hn e
theorem RD.sB {rs:List ResultVar} {x:CV} {z y:AV} {res:AR} {ns:List (Nat×Nat)} {ms:List (Nat×bg)} (hf:bY O.e 60 [x]=some ([z],ns,ms)) (hn:eqs ns) (hr:res= .aO y) (e:bQ z y):RD E.T rs (Ends 60 res) (.aO x) Z O:=by
 subst hr;exact RD.S0 hf hn e
theorem aR.sG {dst:Option Nat} {f:Operand} {args:List Operand} {g:FuncId} {cs:List CV} {xs ys:List AV} {res:AV} {tys:Array TypeId} {ty:TypeId} {pos:String} {after:Array Edge} {gd:Option (Nat×Bool)} (h:Pure E.toCx g ys (.ret res)) (hc:cT Z f args=some (g,cs)) (hx:eF cs=some xs) (hi:bP xs ys):
  aR E N ⟨dst,.call {callee:= .value f,args:=args.toArray,argTypes:=tys},ty,pos,after,gd⟩ Z (.d res):=aR.call (h.args hi) hc hx
theorem aR.conv {y z:CV} (h:aR E N o Z y) (e:y=z):aR E N o Z z:=e▸h
theorem v7 {c:Bool} (h:c=false):(!c)=true:=by rw[h];rfl
theorem s6 {c:Bool} (h:c=true):(!c)=false:=by rw[h];rfl
theorem kS {c:Bool} (h:(!c)=false):c=true:=by cases c<;>simp_all
theorem nS {c:Bool} (h:(!c)=true):c=false:=by cases c<;>simp_all
def jt (b:Bool) (A B:Out):Out:=match b with
 |true=>A
 |false=>B
theorem Ok.split {b:Bool} {A B:Out} (h1:b=true->Out.ok E Q A) (h2:b=false->Out.ok E Q B):Out.ok E Q (jt b A B):=by
 cases b with
 |true=>exact h1 rfl
 |false=>exact h2 rfl
theorem Ok.fY {b:Bool} {A B:Out} (hb:b=true) (h1:Out.ok E Q A):Out.ok E Q (jt b A B):=by subst hb;exact h1
theorem Ok.fO {b:Bool} {A B:Out} (hb:b=false) (h2:Out.ok E Q B):Out.ok E Q (jt b A B):=by subst hb;exact h2
def v8 (all:List Oper) (o:Oper) (Z:TS):Option (Nat×Bool):=match o.guard with
 |none=>none
 |some (j,_)=>match(nth all j).bind (·.dst)with
  |none=>none
  |some d=>match Z.get d with
   |some (.d (.v (.bool t)))=>some (d,t)
   |_=>none
def A2 (Z:TS):List It->Option (Nat×Bool)
 | .lex all _ _ (o::_) _::_=>v8 all o Z
 | .tl all ((_,o,_)::_) _ _ _::_=>v8 all o Z
 |_=>none
theorem SS.ub {L:aC} {s:Sl} (hs:SS L Z s) {d:Nat} {t b:Bool} (hd:Z.get d=some (.d (.v (.bool t)))) (ht:t=b):SS L (Tr.put 24 Z d (some (.d (.v (.bool b))))) s:=by
 subst ht;intro u z hz;rcases Tr.dU 24 Z d u _ z hz with⟨rfl,h3⟩|⟨_,h3⟩
 ·cases h3;exact hs _ _ hd
 ·exact hs _ _ h3
theorem FM {all:List Oper} {o:Oper} {d:Nat} {t:Bool} (h:v8 all o Z=some (d,t)):Z.get d=some (.d (.v (.bool t))):=by
 unfold v8 at h;split at h
 ·cases h
 ·split at h
  ·cases h
  ·split at h
   ·rename_i h1;simp only[aA,cv]at h;obtain⟨rfl,rfl⟩:=h;exact h1
   ·cases h
theorem af.ub {todo:List It} {d:Nat} {t b:Bool} (ha:A2 Z todo=some (d,t)) (ht:t=b) (h:af E N K todo Q (Tr.put 24 Z d (some (.d (.v (.bool b))))) O):af E N K todo Q Z O:=by
 unfold A2 at ha;split at ha
 ·unfold af at h⊢;simp only[dq]at h⊢;exactλL s ηB WB hs=>h L s ηB WB (hs.ub (FM ha) ht)
 ·unfold af at h⊢;simp only[dq]at h⊢;exactλhf L s ηB pb hs=>h hf L s ηB pb (hs.ub (FM ha) ht)
 ·cases ha
def B2 (Z:TS):Op->Bool
 | .indexAddr _ (.tmp t) _=>match Z.get t with
  |some (.os _ _)=>true
  |_=>false
 | .load _ (.tmp t)=>match Z.get t with
  |some (.oe _ _ _)=>true
  |_=>false
 | .store _ (.tmp t) _=>match Z.get t with
  |some (.oe _ _ _)=>true
  |_=>false
 |_=>false
def S1 (Z:TS):List It->Bool
 | .ops _ (o::_)::_=>match o.guard with
  |none=>B2 Z o.op
  |some _=>false
 | .lex _ _ _ (o::_) _::_=>B2 Z o.op
 | .tl _ ((_,o,_)::_) _ _ _::_=>B2 Z o.op
 |_=>false
def q9 (rec:Nat->Nat->List It->TS->Hp->List (Nat×Nat)->Out):Nx->Out
 | .go N' K' todo' Z' η' ns'=>match η' with
  |⟨e,m⟩=>qk 1000 m 0 λn=>rec N' K' todo' Z' ⟨e,n⟩ ns'
 | .out (.cond b N' K' t1 s1 t2 s2 η' ns')=>jt b (rec N' K' t1 s1 η' ns') (rec N' K' t2 s2 η' ns')
 | .out o=>o
def dr (P:Program) (G:Gl) (T:bO):Nat->Nat->Nat->List It->TS->Hp->List (Nat×Nat)->Out
 |0,N,K,todo,Z,O,ns=> .stuck N K todo Z O ns
 |f+1,N,K,todo,Z,O,ns=>match oI Z todo with
  |true=> .stuck N K todo Z O ns
  |false=>match S1 Z todo with
   |true=> .stuck N K todo Z O ns
   |false=>match A2 Z todo with
    |none=>q9 (dr P G T f) (step P G T lJ (λ_ _=>none) f N K todo Z O ns)
    |some (d,t)=>jt t (q9 (dr P G T f) (step P G T lJ (λ_ _=>none) f N K todo (Tr.put 24 Z d (some (.d (.v (.bool true))))) O ns)) (q9 (dr P G T f) (step P G T lJ (λ_ _=>none) f N K todo (Tr.put 24 Z d (some (.d (.v (.bool false))))) O ns))
theorem Qa {Q:DQ} {rec:Nat->Nat->List It->TS->Hp->List (Nat×Nat)->Out} (hr:∀N K todo Z O ns,Out.ok E Q (rec N K todo Z O ns)->eqs ns/\af E N K todo Q Z O):∀{x:Nx},Out.ok E Q (q9 rec x)->Nx.ok E Q x
 | .go N' K' todo' Z' η' ns',h=>by
  dsimp only[q9]at h;rw[u3]at h;exact hr _ _ _ _ _ _ h
 | .out (.stuck ..),h=>h
 | .out (.fin ..),h=>h
 | .out (.cond b N' K' t1 s1 t2 s2 η' ns'),h=>by
  cases b with
  |true=>
   have:=hr _ _ _ _ _ _ h;exact⟨this.1,λ_=>this.2,(λh=>nomatch h)⟩
  |false=>
   have:=hr _ _ _ _ _ _ h;exact⟨this.1,(λh=>nomatch h),λ_=>this.2⟩
theorem Jb (hm:E.P.follows .mixedOrders=true):∀(f:Nat) (Q:DQ) (N K:Nat) (todo:List It) (Z:TS) (O:Hp) (ns:List (Nat×Nat)),Out.ok E Q (dr E.P E.G E.T f N K todo Z O ns)->eqs ns/\af E N K todo Q Z O
 |0,_,_,_,_,_,_,_,h=>h
 |f+1,Q,N,K,todo,Z,O,ns,h=>by
  have one:∀Z,Out.ok E Q (q9 (dr E.P E.G E.T f) (step E.P E.G E.T lJ (λ_ _=>none) f N K todo Z O ns))->eqs ns/\af E N K todo Q Z O:=λZ h=>
   G3 (c:=lJ) (fl:=f) hm (λf hf=>by cases hf) (λf ty z h=>by cases h) (λg x h=>by cases h) (nest:=λ_ _=>none) (λg xs z hz=>by cases hz) (Qa (λN K todo Z O ns h=>Jb hm f Q N K todo Z O ns h) h)
  unfold dr at h;split at h
  ·exact h
  ·split at h
   ·exact h
   ·split at h
    ·exact one Z h
    ·rename_i d t ha;cases t with
     |true=>have:=one _ h;exact⟨this.1,af.ub ha rfl this.2⟩
     |false=>have:=one _ h;exact⟨this.1,af.ub ha rfl this.2⟩
theorem P7 (hm:E.P.follows .mixedOrders=true) (f:Nat) (h:Out.ok E Q (match O with|⟨e,m⟩=>qk 1000 m 0 λn=>dr E.P E.G E.T f N K k Z ⟨e,n⟩ [])):af E N K k Q Z O:=by
 obtain⟨e,m⟩:=O;dsimp only at h;rw[u3]at h;exact(Jb hm f Q N K k Z ⟨e,m⟩ [] h).2
theorem a8.nP {f:Operand} {args:List Operand} {g:FuncId} {cs:List CV} {xs' xs:List AV} {ns:List (Nat×Nat)} {ms:List (Nat×bg)} {res:AV} {tys:Array TypeId} (h:Pure E.toCx g xs (.ret res)) (ho:o.op= .call {callee:= .value f,args:=args.toArray,argTypes:=tys})
  (hc:cT Z f args=some (g,cs)) (hf:bY O.e 60 cs=some (xs',ns,ms)) (hn:eqs ns) (hi:bP xs' xs) (hl:ms=[]\/cR res=true):a8 E N o Z O (.d res):=a8.pure 60 ho h hc hf hn hi hl
theorem af.pH {dst:Option Nat} {f:Operand} {args:List Operand} {g:FuncId} {cs:List CV} {xs' xs:List AV} {ns:List (Nat×Nat)} {ms:List (Nat×bg)} {y:AV} {tys:Array TypeId} {ty:TypeId} {pos:String} {after:Array Edge} (h:Pure E.toCx g xs (.aO y)) (hc:cT Z f args=some (g,cs)) (hf:bY O.e 60 cs=some (xs',ns,ms)) (hn:eqs ns) (hi:bP xs' xs) (hl:ms=[]\/cR y=true) (hp:ik k=none)
  (hq:Q (.aO (.d y)) .lf O):af E N K (.ops all (⟨dst,.call {callee:= .value f,args:=args.toArray,argTypes:=tys},ty,pos,after,none⟩::rest)::k) Q Z O:=by
 show DO E N K all _ (dq E N K k Q) Z O;exact DO.pH 60 h hc hf hn hi hl (kg k N K .lf hp hq)
theorem af.cH {t:Nat} {z:AV} {ns:List (Nat×Nat)} {ms:List (Nat×bg)} (hx:Z.get t=some x) (hf:bY O.e 60 [x]=some ([z],ns,ms)) (hn:eqs ns) (h:af E N K (.ops all rest::k) Q (Tr.put 24 Z t (some (.d z))) (gz ms O)):af E N K (.ops all rest::k) Q Z O:=DO.cH 60 hx hf hn h
theorem af.oX {l:List (Nat×Oper×TK)} {A:bJ} {pend:List (Nat×Oper×CV)} {fs:List (Nat×List AV×AV)} {q:Nat} {t:TypeId} {p v:Operand} {i n m e kk:Nat} {rows:List (List AV)} {r r':List AV} {y:AV} {ti:TI} {Z1:TS} {O1:Hp} (j off:Nat) (hpd:aD E N all pend Z O) (hnd:ez ((dp (b8 all.toArray q A)).map (·.1))=true) (hd:o.dst=none) (cu:ee (dp (b8 all.toArray q A)) Z O=(Z1,O1)) (hw:cA all o Z1=some true)
  (ho:o.op= .store t p v) (hp:aW Z1 p=some (.oe i n m)) (hv:aW Z1 v=some (.d y)) (hi:O1.e.get i=some (.row e kk rows)) (hn:n=rows.length)
  (hm:m=j*kk+off) (hr:rows[j]? =some r) (ht:aX E.T t=some ti) (hk:Nat.beq (b9 y).length ti.size=true) (h1:ef (b9 y)=true) (hl:eo r off (b9 y)=some r')
  (h:af E N K (.tl all l (cm all.toArray q A) (cF all q pend) fs::k) Q Z1 (O1.set i (.row e kk (rows.set j r')))):af E N K (.tl all ((q,o,.one)::l) A pend fs::k) Q Z O:=
 af.nQ hpd hnd (by rw[hd];rfl) cu hw (bH.nf j off ho hp hv hi hn hm hr ht hk h1 hl) (λx η' hR=>by obtain⟨h2,rfl⟩:=hR;rw[hd];exact h) (λx η' hR=>by cases hR.1)
theorem dV.Pd {G:Gl} {N:Nat} {Z:Sg} {O:List ah} (e:TypeId) (k:Nat):dV G N Z O Z (O++[.row (.slice none 0 0) e k []]):=λF w a hs=>by
 have hkeep:cK w (Al F O) w (Al F (O++[ah.row (.slice none 0 0) e k []])):=⟨bA _,λb _ ha=>⟨by simpa[Al,cg,cE,ah.ids,Value.ownBlock,ids]using ha,rfl⟩⟩;refine⟨⟨⟨hs.sg.1,λs x hx=>⟨(hs.sg.2 s x hx).1,(hs.sg.2 s x hx).2.bm hkeep⟩⟩,?_,hs.df⟩,λb hb=>?_⟩
 ·refine hs.hp.push (bA _) (λ_ _=>rfl) (by simp[ah.ids,Value.ownBlock]) (by simp[ah.ids,Value.ownBlock]) ?_;exact⟨[],by simp[br],by simp,.inl ⟨rfl,rfl⟩⟩
 ·simpa[cg,cE,ah.ids,Value.ownBlock,ids]using hb
theorem aF.Jc {w:World} {A:Nat->Prop} {t:Nat}:∀{xs:List AV} {vs:List Value} {c:Nat},xs[c]? =some (.v (.slice none 0 0))->aF w A xs vs->aF w A (xs.set c (.os t none 0 0)) vs
 |x::xs,vs,0,hc,h=>by
  simp only[oN,aA]at hc;subst hc;simp only[aF]at h;obtain⟨v,r,rfl,h1,h2⟩:=h;simp only[uq,aF];exact⟨v,r,rfl,by simp only[Rel]at h1⊢;exact h1,h2⟩
 |x::xs,vs,c+1,hc,h=>by
  simp only[aF]at h;obtain⟨v,r,rfl,h1,h2⟩:=h;simp only[mT,aF];exact⟨v,r,rfl,h1,aF.Jc (by simpa using hc) h2⟩
theorem aQ.getD {L:aC}:∀{xs:List CV} {ys:List AV} {c:Nat} {x:AV},aQ L xs ys->xs[c]? =some (.d x)->ys[c]? =some x
 |y::xs,ys,0,x,h,hc=>by
  simp only[oN,aA]at hc;subst hc;simp only[aQ]at h;obtain⟨u,r,rfl,h1,_⟩:=h;simp only[aE]at h1;subst h1;rfl
 |y::xs,ys,c+1,x,h,hc=>by
  simp only[aQ]at h;obtain⟨u,r,rfl,_,h2⟩:=h;simpa using aQ.getD h2 (by simpa using hc)
theorem aQ.Ik {L:aC} {x:CV} {y:AV} (hxy:aE L x y):∀{xs:List CV} {ys:List AV} {c:Nat},aQ L xs ys->aQ L (xs.set c x) (ys.set c y)
 |[],ys,_,h=>by simp only[aQ]at h;subst h;simp[aQ]
 |_::xs,ys,0,h=>by
  simp only[aQ]at h;obtain⟨u,r,rfl,_,h2⟩:=h;simp only[uq,aQ];exact⟨_,_,rfl,hxy,h2⟩
 |_::xs,ys,c+1,h=>by
  simp only[aQ]at h;obtain⟨u,r,rfl,h1,h2⟩:=h;simp only[mT,aQ];exact⟨_,_,rfl,h1,aQ.Ik hxy h2⟩
theorem DC.fW (i c' e kk:Nat) {cs:List CV} (hi:O.e.get i=some (.box cs)) (hc:cs[c']? =some (.d (.v (.slice none 0 0)))) (h:DC E N K c Q Z ((O.push (.row e kk [])).set i (.box (cs.set c' (.os O.n 0))))):DC E N K c Q Z O:=λL ZB ηB hs hh=>by
 obtain⟨y,hy,hE⟩:=hh.en i _ hi;obtain⟨b,cs',hb,rfl,hcs⟩:=hE;have hilt:i<ηB.length:=by rw[ck]at hy;exact(c8.1 hy).1
 have hdom:=hh.eY O.n (bA _);have hl:L.le (L.aY O.n 0 (none,0)):=aC.iQ λy hy=>by rw[hdom.2]at hy;cases hy
 have hbn:(L.aY O.n 0 (none,0)).s O.n 0=some (none,0):=by simp[aC.aY]
 have hy':nth (ηB++[ah.row (.slice none 0 0) e kk []]) i=some (.box b cs'):=by rw[ck]at hy⊢;rw[mR hilt];exact hy
 have hc2:cs'[c']? =some (.v (.slice none 0 0)):=hcs.getD hc;refine bD.i' (dV.Pd e kk) (bD.i' (dV.L3 i (y:= .box b (cs'.set c' (.os ηB.length none 0 0))) hy' rfl (λw A h=>?_)) ?_)
 ·obtain⟨e',vs,h1,h2⟩:=h;exact⟨e',vs,h1,h2.Jc hc2⟩
 refine bD.mono (h _ _ _ (hs.mono hl) ?_) λ_ _ _ hq=>mZ (hl.toK K) (λ_ _ _ h=>h) hq;have hp:HS (L.aY O.n 0 (none,0)) (O.push (.row e kk [])) (ηB++[ah.row (.slice none 0 0) e kk []]):=by
  refine hh.push hl (λi hi=>by funext m;simp[aC.aY,hi]) (λ_ _=>rfl) ⟨⟨none,0,by simpa using hbn,by simp⟩,λm hm=>?_⟩;have:m≠0:=by simp at hm;omega
  simp only[aC.aY,this,and_false,if_false];exact hdom.2 m
 refine hp.set (.refl _) (λ_ _=>rfl) (λ_ _=>rfl) ?_ ⟨b,_,hl.1 _ _ hb,rfl,(hcs.mono hl).Ik ?_⟩
 ·have:=hh.lt hi;simp only[Hp.push];omega
 ·simp only[aE];exact⟨none,0,ηB.length,hbn,rfl⟩
theorem af.fW (i c' e kk n:Nat) {cs:List CV} (hn:O.n=n) (hi:O.e.get i=some (.box cs)) (hc:cs[c']? =some (.d (.v (.slice none 0 0)))) (h:af E N K (.code c::k) Q Z ⟨Tr.put 24 (Tr.put 24 O.e n (some (.row e kk []))) i (some (.box (cs.set c' (.os n 0)))),n+1⟩):af E N K (.code c::k) Q Z O:=by
 subst hn;unfold af at h⊢;simp only[dq]at h⊢;exact DC.fW i c' e kk hi hc h
theorem af.kM (t e kk n:Nat) (hn:O.n=n) (ht:Z.get t=some (.d (.v (.slice none 0 0)))) (h:af E N K (.code c::k) Q (Tr.put 24 Z t (some (.os n 0))) ⟨Tr.put 24 O.e n (some (.row e kk [])),n+1⟩):af E N K (.code c::k) Q Z O:=by
 subst hn;exact af.gA t e kk ht h
theorem af.jW (n:Nat) {l:List (Nat×Oper×TK)} {A:bJ} {pend:List (Nat×Oper×CV)} {fs:List (Nat×List AV×AV)} {q d u:Nat} {p:Operand} {t:TypeId} {ty:TypeId} {pos:String} {after:Array Edge} {e kk sz by' sz' by'':Nat} {z z':List Value} {td':TD} {rows2:List (List AV)} {Z1:TS} {O1:Hp} (hp:aD E N all pend Z O) (hnd:ez ((dp (b8 all.toArray q A)).map (·.1))=true) (hd:Nat.blt d N=true) (cu:ee (dp (b8 all.toArray q A)) Z O=(Z1,O1)) (hn:O1.n=n)
  (hu:Z1.get u=some (.d (.v (.slice none 0 0)))) (hx:aW (Tr.put 24 Z1 u (some (.os n 0))) p=some (.d (.sl kk rows2))) (ht:aX E.T t=some ⟨.slice e kk,sz,by',z⟩) (hte:aX E.T e=some ⟨td',sz',by'',z'⟩)
  (hs':aW (Tr.put 24 Z1 u (some (.os n 0))) (.tmp u)=some (.os n 0)) (hi:(Tr.put 24 O1.e n (some (.row e kk []))).get n=some (.row e kk [])) (h1:fF rows2=true)
  (hk:Nat.ble 1 kk=true) (hby:Nat.ble 1 by''=true) (hb:rows2.length*by''<=140737488355328)
  (k1:af E N K (.tl all l (cm all.toArray q A) (cF all q pend) fs::k) Q (bN Z1 (some d) (.os n rows2.length)) ⟨Tr.put 24 (Tr.put 24 O1.e n (some (.row e kk []))) n (some (.row e kk rows2)),n+1⟩):
  af E N K (.tl all ((q,⟨some d,.call {callee:= .builtin .append,args:= #[.tmp u,p],argTypes:= #[t,t]},ty,pos,after,none⟩,.one)::l) A pend fs::k) Q Z O:=by
 subst hn;exact af.nQ hp hnd hd cu rfl (bH.gA u e kk hu (bH.append (rows:=[]) rfl hb hs' hi rfl (.sl hx) ht hte h1 hk hby)) (λx η' hR=>by obtain⟨h2,rfl⟩:=hR;cases h2;exact k1) (λx η' hR=>by cases hR.1)
theorem af.Qb {l:List (Nat×Oper×TK)} {A:bJ} {pend:List (Nat×Oper×CV)} {fs:List (Nat×List AV×AV)} {i j:Nat} {o':Oper} {y:TK} {O1 O2 O3:Hp} (hp:aD E N all pend Z O) (hd:o.dst=none) (hd':o'.dst=none) (hw:cA all o Z=some true) (hw':cA all o' Z=some true)
  (h1:bH E N o Z O (λr η'=>r= .ret (.d (.v undef))/\η'=O1)) (p1:aD E N all (cF all i pend) Z O1) (h2:bH E N o' Z O1 (λr η'=>r= .ret (.d (.v undef))/\η'=O3))
  (h3:bH E N o' Z O (λr η'=>r= .ret (.d (.v undef))/\η'=O2)) (p2:aD E N all (cF all j pend) Z O2) (h4:bH E N o Z O2 (λr η'=>r= .ret (.d (.v undef))/\η'=O3))
  (k1:af E N K (.tl all l A (cF all j (cF all i pend)) fs::k) Q Z O3):af E N K (.tl all ((i,o,.two)::(j,o',y)::l) A pend fs::k) Q Z O:=
 λhf=>cq.pair hp hd hd' hw hw' h1 p1 h2 h3 p2 h4 (k1 hf)
theorem af.u0 {l:List (Nat×Oper×TK)} {A:bJ} {pend:List (Nat×Oper×CV)} {fs:List (Nat×List AV×AV)} {qi qj:Nat} {o':Oper} {ytk:TK} {t t2:TypeId} {p v p2 v2:Operand} {i n m e kk b off2:Nat} {rows:List (List AV)} {r r':List AV} {y:AV} {x2:CV} {cs cs':List CV} {ti ti2:TI} (jn off:Nat) (hpd:aD E N all pend Z O) (hd:o.dst=none) (hd':o'.dst=none) (hw:cA all o Z=some true) (hw':cA all o' Z=some true)
  (ho:o.op= .store t p v) (hpv:aW Z p=some (.oe i n m)) (hv:aW Z v=some (.d y)) (hi:O.e.get i=some (.row e kk rows)) (hn:n=rows.length) (hm:m=jn*kk+off) (hr:rows[jn]? =some r) (ht:aX E.T t=some ti) (hk:Nat.beq (b9 y).length ti.size=true) (h1:ef (b9 y)=true) (hl:eo r off (b9 y)=some r')
  (ho':o'.op= .store t2 p2 v2) (hp2:aW Z p2=some (.own b off2)) (hv2:aW Z v2=some x2) (hb:O.e.get b=some (.box cs)) (ht2:aX E.T t2=some ti2) (hk2:Nat.beq (dA x2).length ti2.size=true) (h12:kj (dA x2)=true) (hl2:jY cs off2 (dA x2)=some cs')
  (hi':(O.set b (.box cs')).e.get i=some (.row e kk rows)) (hb':(O.set i (.row e kk (rows.set jn r'))).e.get b=some (.box cs)) (he:(O.set b (.box cs')).set i (.row e kk (rows.set jn r'))=(O.set i (.row e kk (rows.set jn r'))).set b (.box cs'))
  (q1:aD E N all (cF all qi pend) Z (O.set i (.row e kk (rows.set jn r')))) (q2:aD E N all (cF all qj pend) Z (O.set b (.box cs')))
  (k1:af E N K (.tl all l A (cF all qj (cF all qi pend)) fs::k) Q Z ((O.set i (.row e kk (rows.set jn r'))).set b (.box cs'))):af E N K (.tl all ((qi,o,.two)::(qj,o',ytk)::l) A pend fs::k) Q Z O:=
 af.Qb hpd hd hd' hw hw' (bH.nf jn off ho hpv hv hi hn hm hr ht hk h1 hl) q1 (bH.store ho' hp2 hv2 hb' ht2 hk2 h12 hl2) (bH.store ho' hp2 hv2 hb ht2 hk2 h12 hl2) q2
  ((bH.nf jn off ho hpv hv hi' hn hm hr ht hk h1 hl).mono λr1 η' hR=>⟨hR.1,hR.2.trans he⟩) k1
theorem ib {d n:Nat} {q:Operand} {kd:IntKind} {m:Int} (hm:m=(n:Int)) (h:aW Z q=some (.d (.v (.int kd m)))):ko Z d (some q)=some n:=by
 subst hm;simp only[ko,h];rfl
theorem G1 {d n:Nat} (h:d=n):ko Z d none=some n:=by subst h;rfl
theorem af.di {l:List (Nat×Oper×TK)} {A:bJ} {pend:List (Nat×Oper×CV)} {fs:List (Nat×List AV×AV)} {i q n d:Nat} {s p:Operand} {x:AV} {t:TypeId} {ty:TypeId} {pos:String} {after:Array Edge} {e kk sz by' sz' by'':Nat} {z z':List Value} {td':TD} {rows rows2:List (List AV)} {Z1:TS} {O1:Hp} (hp:aD E N all pend Z O) (hnd:ez ((dp (b8 all.toArray i A)).map (·.1))=true) (hd:Nat.blt d N=true) (cu:ee (dp (b8 all.toArray i A)) Z O=(Z1,O1))
  (hs':aW Z1 s=some (.os q n)) (hi:O1.e.get q=some (.row e kk rows)) (hn:n=rows.length) (hx:aW Z1 p=some (.d x)) (hI:bQ x (.sl kk rows2)) (ht:aX E.T t=some ⟨.slice e kk,sz,by',z⟩) (hte:aX E.T e=some ⟨td',sz',by'',z'⟩) (h1:fF rows2=true)
  (hk:Nat.ble 1 kk=true) (hby:Nat.ble 1 by''=true) (hb:(rows++rows2).length*by''<=140737488355328)
  (k1:af E N K (.tl all l (cm all.toArray i A) (cF all i pend) fs::k) Q (bN Z1 (some d) (.os q (rows++rows2).length)) (O1.set q (.row e kk (rows++rows2)))):
  af E N K (.tl all ((i,⟨some d,.call {callee:= .builtin .append,args:= #[s,p],argTypes:= #[t,t]},ty,pos,after,none⟩,.one)::l) A pend fs::k) Q Z O:=
 af.nQ hp hnd hd cu rfl (bH.append rfl hb hs' hi hn (.wZ hx hI) ht hte h1 hk hby) (λx η' hR=>by obtain⟨h2,rfl⟩:=hR;cases h2;exact k1) (λx η' hR=>by cases hR.1)
theorem DO.vX {i d n:Nat} {s p:Operand} {x:AV} {t:TypeId} {ty:TypeId} {pos:String} {after:Array Edge} {e kk sz by' sz' by'':Nat} {z z':List Value} {td':TD} {rows rows2:List (List AV)}
  (hs':aW Z s=some (.os i n)) (hi:O.e.get i=some (.row e kk rows)) (hn:n=rows.length) (hx:aW Z p=some (.d x)) (hI:bQ x (.sl kk rows2)) (ht:aX E.T t=some ⟨.slice e kk,sz,by',z⟩) (hte:aX E.T e=some ⟨td',sz',by'',z'⟩) (h1:fF rows2=true)
  (hk:Nat.ble 1 kk=true) (hby:Nat.ble 1 by''=true) (hd:Nat.blt d N=true) (hb:(rows++rows2).length*by''<=140737488355328)
  (k1:af E N K (.ops all rest::k) Q (bN Z (some d) (.os i (rows++rows2).length)) (O.set i (.row e kk (rows++rows2)))):
  af E N K (.ops all (⟨some d,.call {callee:= .builtin .append,args:= #[s,p],argTypes:= #[t,t]},ty,pos,after,none⟩::rest)::k) Q Z O:=
 DO.append hb hs' hi hn (.wZ hx hI) ht hte h1 hk hby hd k1
theorem aF.eR {w:World} {A:Nat->Prop} {kk:Nat}:∀{xs:List AV} {vs:List Value} {c:Nat},xs[c]? =some (.v (.slice none 0 0))->aF w A xs vs->aF w A (xs.set c (.sl kk [])) vs
 |x::xs,vs,0,hc,h=>by
  simp only[oN,aA]at hc;subst hc;simp only[aF]at h;obtain⟨v,r,rfl,h1,h2⟩:=h;simp only[uq,aF];exact⟨v,r,rfl,bQ.nil kk _ _ _ h1,h2⟩
 |x::xs,vs,c+1,hc,h=>by
  simp only[aF]at h;obtain⟨v,r,rfl,h1,h2⟩:=h;simp only[mT,aF];exact⟨v,r,rfl,h1,aF.eR (by simpa using hc) h2⟩
theorem DO.qg (t:Nat) {kk:Nat} {rows:List (List AV)} (ht:Z.get t=some (.d (.sl kk rows))) (h1:∀cap,rows=[]->DO E N K all rest Q (Tr.put 24 Z t (some (.d (.v (.slice none 0 cap))))) O) (h2:∀ad n cap,DO E N K all rest Q (Tr.put 24 Z t (some (.d (.v (.slice (some ad) n cap))))) O):DO E N K all rest Q Z O:=λL ZB ηB hs hh=>by
 obtain⟨y,g1,g2⟩:=hs t _ ht;simp only[aE]at g2;subst g2;intro F w0 O0 a w hst hxt;obtain⟨hlt,hv⟩:=hst.sg.2 t _ g1;have go:∀x:Value,Rel w (Al F ηB) (.v x) _->DO E N K all rest Q (Tr.put 24 Z t (some (.d (.v x)))) O->_:=λx hx hd=>
  hd L ((t,.v x)::ZB) ηB (hs.put (some t) (x:= .d (.v x)) (y:= .v x) rfl) hh F w0 O0 a w ⟨⟨hst.sg.1,λu q hq=>by
   simp only[look]at hq;cases hb:Nat.beq t u with
   |true=>
    rw[hb]at hq;simp only[aA]at hq;subst hq;rw[<-bB hb];exact⟨hlt,hx⟩
   |false=>rw[hb]at hq;exact hst.sg.2 u q hq⟩,hst.hp,hst.df⟩ hxt
 simp only[Rel]at hv;rcases hv with⟨hr,ad,cap,he⟩|⟨b,o,cap,vs,he,_⟩
 ·cases ad with
  |none=>exact go _ (by simp only[Rel];exact he) (h1 cap hr)
  |some ad=>exact go _ (by simp only[Rel];exact he) (h2 ad 0 cap)
 ·exact go _ (by simp only[Rel];exact he) (h2 _ _ cap)
theorem af.qg (t:Nat) {kk:Nat} {rows:List (List AV)} (ht:Z.get t=some (.d (.sl kk rows))) (h1:∀cap,rows=[]->af E N K (.ops all rest::k) Q (Tr.put 24 Z t (some (.d (.v (.slice none 0 cap))))) O) (h2:∀ad n cap,af E N K (.ops all rest::k) Q (Tr.put 24 Z t (some (.d (.v (.slice (some ad) n cap))))) O):af E N K (.ops all rest::k) Q Z O:=DO.qg t ht h1 h2
theorem aR.mB {t et:TypeId} {p q:Operand} {yt:TypeId} {ad:Option Addr} {n cap:Nat} (ho:o.op= .binOp .eql t p q yt) (hu:E.P.underlying t=some (.slice et)) (hp:aW Z p=some (.d (.v (.slice ad n cap)))) (hq:aW Z q=some (.d (.v (.slice none 0 0)))):aR E N o Z (.d (.v (.bool ad.isNone))):=
 aR.eZ (by rw[ho];cases ad<;>simp[Bw.eZ,hu,lB hp,lB hq,sk,nT])
