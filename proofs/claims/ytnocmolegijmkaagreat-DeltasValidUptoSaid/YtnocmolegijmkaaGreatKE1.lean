/- Walks by program: functions that answer as the code does; first part: what the texts that a program prints lean on. -/
import Derived.Test.YtnocmolegijmkaaGreatKD8
set_option linter.all false
noncomputable section
namespace Go.Bw
open Go
inductive aU (D:Type) where
 |ret (x:D)
 |aJ (x:AV)
def aU.ar {D:Type} (f:D->AV):aU D->AR
 | .ret x=> .ret (f x)
 | .aJ y=> .aJ y
def aA {D:Type} (l:List D) (m:Int):Option D:=match m with
 | .ofNat j=>l[j]?
 | .negSucc _=>none
theorem OG {D:Type} {l:List D} {m:Int} {x:D} (h:aA l m=some x):∃j:Nat,m=(j:Int)/\l[j]? =some x:=by
 cases m with
 |ofNat j=>exact⟨j,rfl,h⟩
 |negSucc j=>cases h
theorem Px {D:Type} {l:List D} {m:Int} {x:D} (h:aA l m=some x):m=((m.toNat:Nat):Int)/\l[m.toNat]? =some x:=by
 obtain⟨j,rfl,h⟩:=OG h;exact⟨rfl,h⟩
theorem iw {D β:Type} {o:Option D} {f:D->Option β} {r:β} (h:o.bind f=some r):∃x,o=some x/\f x=some r:=by
 cases o with
 |none=>cases h
 |some x=>exact⟨x,rfl,h⟩
theorem cP {D:Type} {c:Bool} {a:Option D} {r:D} (h:(bif c then a else none)=some r):c=true/\a=some r:=by
 cases c with
 |true=>exact⟨rfl,h⟩
 |false=>cases h
def dL (k:IntKind) (l:List Int):List (List AV):=l.map λx=>[.v (.int k x)]
def iz (l:List Bool):List (List AV):=l.map λx=>[.v (.bool x)]
def aW (l:List (List UInt8)):List (List AV):=l.map λx=>[.v (.string ⟨⟨x⟩⟩)]
theorem oy {k:IntKind} {l:List Int}:(dL k l).length=l.length:=jv _
theorem OH {l:List Bool}:(iz l).length=l.length:=jv _
theorem eh {l:List (List UInt8)}:(aW l).length=l.length:=jv _
theorem GI {k:IntKind} {l:List Int} {i:Nat} {x:Int} (h:l[i]? =some x):(dL k l)[i]? =some [.v (.int k x)]:=get_map h
theorem AI {l:List Bool} {i:Nat} {x:Bool} (h:l[i]? =some x):(iz l)[i]? =some [.v (.bool x)]:=get_map h
theorem lC {l:List (List UInt8)} {i:Nat} {x:List UInt8} (h:l[i]? =some x):(aW l)[i]? =some [.v (.string ⟨⟨x⟩⟩)]:=get_map h
theorem OI {k:IntKind} {a b:List Int}:dL k (a++b)=dL k a++dL k b:=zZ
theorem OJ {a b:List Bool}:iz (a++b)=iz a++iz b:=zZ
theorem OK {a b:List (List UInt8)}:aW (a++b)=aW a++aW b:=zZ
theorem N3 {n:Nat} {l:List (List UInt8)}:aW (l.drop n)=(aW l).drop n:=MT
theorem N4 {n:Nat} {l:List (List UInt8)}:aW (l.take n)=(aW l).take n:=MU
def aF {D β:Type} (o:Option (aU D)) (f:D->Option (aU β)):Option (aU β):=match o with
 |some (.ret x)=>f x
 |some (.aJ z)=>some (.aJ z)
 |none=>none
theorem qd {D β:Type} {o:Option (aU D)} {f:D->Option (aU β)} {r:aU β} (h:aF o f=some r):(∃z,o=some (.aJ z)/\r= .aJ z)\/∃x,o=some (.ret x)/\f x=some r:=by
 cases o with
 |none=>cases h
 |some x=>cases x with
  |ret x=>exact .inr ⟨x,rfl,h⟩
  |aJ z=>cases h;exact .inl ⟨z,rfl,rfl⟩
def oW {D:Type} (l:List D) (lo hi:Int):Option (List D):=match lo,hi with
 | .ofNat a,.ofNat b=>bif Nat.ble a b&&Nat.ble b l.length then some ((l.take b).drop a)else none
 |_,_=>none
theorem N5 {D:Type} {l x:List D} {lo hi:Int} (h:oW l lo hi=some x):∃a b:Nat,lo=(a:Int)/\hi=(b:Int)/\a<=b/\b<=l.length/\(l.take b).drop a=x:=by
 unfold oW at h;split at h
 ·rename_i a b;revert h;cases hc:(Nat.ble a b&&Nat.ble b l.length)with
  |false=>intro h;cases h
  |true=>
   intro h;simp only[bj,Nat.ble_eq]at hc;exact⟨a,b,rfl,rfl,hc.1,hc.2,sq h⟩
 ·cases h
theorem F1 {D:Type} {f:D->List AV} (hf:∀x,fI [f x]=true) (l:List D):fI (l.map f)=true:=FP λx _=>hf x
theorem N6 (l:List (List UInt8)):fI (aW l)=true:=F1 (λ_=>rfl) l
section
variable {E:Env} {Q:DQ} {N K:Nat} {O:TS} {L:Hp} {o:Oper} {all rest:List Oper} {k:List It} {x:CV} {c:Code}
theorem RD.leaf {rs:List ResultVar} {xs:List CV} {z y:AV} {res:AR} {ns:List (Nat×Nat)} {ms:List (Nat×aT)} (h:dG E.T O L rs=some xs) (hf:bU L.e 60 [ez xs]=some ([z],ns,ms)) (hn:eqs ns) (hr:res= .ret y) (e:bO z y):RD E.T rs (Ends 60 res) .ret O L:=by
 subst hr;exact RD.Ux h hf hn e
theorem RD.oX {rs:List ResultVar} {xs:List CV} {z y:AV} {res:AR} {ns:List (Nat×Nat)} {ms:List (Nat×aT)} (h:dG E.T O L rs=some xs) (hf:bU L.e 60 [ez xs]=some ([z],ns,ms)) (hn:eqs ns) (hr:res= .ret y) (e:bO z y):RD E.T rs (Ends 60 res) .norm O L:=by
 subst hr;exact RD.Tu h hf hn e
theorem RD.tW {rs:List ResultVar} {x:CV} {z y:AV} {res:AR} {ns:List (Nat×Nat)} {ms:List (Nat×aT)} (hf:bU L.e 60 [x]=some ([z],ns,ms)) (hn:eqs ns) (hr:res= .aJ y) (e:bO z y):RD E.T rs (Ends 60 res) (.aJ x) O L:=by
 subst hr;exact RD.Uy hf hn e
theorem bG.conv {y z:CV} (h:bG E N o O y) (e:y=z):bG E N o O z:=e▸h
def lR (b:Bool) (A B:Out):Out:=match b with
 |true=>A
 |false=>B
theorem Ok.tq {b:Bool} {A B:Out} (hb:b=true) (h1:Out.ok E Q A):Out.ok E Q (lR b A B):=by subst hb;exact h1
theorem Ok.xo {b:Bool} {A B:Out} (hb:b=false) (h2:Out.ok E Q B):Out.ok E Q (lR b A B):=by subst hb;exact h2
def xV (all:List Oper) (o:Oper) (O:TS):Option (Nat×Bool):=match o.guard with
 |none=>none
 |some (j,_)=>match(nth all j).bind (·.dst)with
  |none=>none
  |some d=>match O.get d with
   |some (.d (.v (.bool t)))=>some (d,t)
   |_=>none
def CU (O:TS):List It->Option (Nat×Bool)
 | .lex all _ _ (o::_) _::_=>xV all o O
 | .tl all ((_,o,_)::_) _ _ _::_=>xV all o O
 |_=>none
theorem SS.uZ {Z:aD} {s:Sl} (hs:SS Z O s) {d:Nat} {t b:Bool} (hd:O.get d=some (.d (.v (.bool t)))) (ht:t=b):SS Z (Tr.put 24 O d (some (.d (.v (.bool b))))) s:=by
 subst ht;intro u z hz;rcases Tr.eu 24 O d u _ z hz with⟨rfl,h3⟩|⟨_,h3⟩
 ·cases h3;exact hs _ _ hd
 ·exact hs _ _ h3
theorem Hr {all:List Oper} {o:Oper} {d:Nat} {t:Bool} (h:xV all o O=some (d,t)):O.get d=some (.d (.v (.bool t))):=by
 unfold xV at h;split at h
 ·cases h
 ·split at h
  ·cases h
  ·split at h
   ·rename_i h1;simp only[ax,bZ]at h;obtain⟨rfl,rfl⟩:=h;exact h1
   ·cases h
theorem ao.uZ {todo:List It} {d:Nat} {t b:Bool} (ha:CU O todo=some (d,t)) (ht:t=b) (h:ao E N K todo Q (Tr.put 24 O d (some (.d (.v (.bool b))))) L):ao E N K todo Q O L:=by
 unfold CU at ha;split at ha
 ·unfold ao at h⊢;simp only[dq]at h⊢;exactλZ s LB WB hs=>h Z s LB WB (hs.uZ (Hr ha) ht)
 ·unfold ao at h⊢;simp only[dq]at h⊢;exactλhf Z s LB pb hs=>h hf Z s LB pb (hs.uZ (Hr ha) ht)
 ·cases ha
def Dy (O:TS):Op->Bool
 | .indexAddr _ (.tmp t) _=>match O.get t with
  |some (.os _ _)=>true
  |_=>false
 | .load _ (.tmp t)=>match O.get t with
  |some (.oe _ _ _)=>true
  |_=>false
 | .store _ (.tmp t) _=>match O.get t with
  |some (.oe _ _ _)=>true
  |_=>false
 |_=>false
def Uz (O:TS):List It->Bool
 | .ops _ (o::_)::_=>match o.guard with
  |none=>Dy O o.op
  |some _=>false
 | .lex _ _ _ (o::_) _::_=>Dy O o.op
 | .tl _ ((_,o,_)::_) _ _ _::_=>Dy O o.op
 |_=>false
def rU (rec:Nat->Nat->List It->TS->Hp->List (Nat×Nat)->Out):Nx->Out
 | .go N' K' todo' O' L' ns'=>match L' with
  |⟨e,m⟩=>ra 1000 m 0 λn=>rec N' K' todo' O' ⟨e,n⟩ ns'
 | .out (.cond b N' K' t1 s1 t2 s2 L' ns')=>lR b (rec N' K' t1 s1 L' ns') (rec N' K' t2 s2 L' ns')
 | .out o=>o
def dr (P:Program) (G:Gl) (T:bD):Nat->Nat->Nat->List It->TS->Hp->List (Nat×Nat)->Out
 |0,N,K,todo,O,L,ns=> .stuck N K todo O L ns
 |f+1,N,K,todo,O,L,ns=>match pJ O todo with
  |true=> .stuck N K todo O L ns
  |false=>match Uz O todo with
   |true=> .stuck N K todo O L ns
   |false=>match CU O todo with
    |none=>rU (dr P G T f) (step P G T mB (λ_ _=>none) f N K todo O L ns)
    |some (d,t)=>lR t (rU (dr P G T f) (step P G T mB (λ_ _=>none) f N K todo (Tr.put 24 O d (some (.d (.v (.bool true))))) L ns)) (rU (dr P G T f) (step P G T mB (λ_ _=>none) f N K todo (Tr.put 24 O d (some (.d (.v (.bool false))))) L ns))
theorem Rp {Q:DQ} {rec:Nat->Nat->List It->TS->Hp->List (Nat×Nat)->Out} (hr:∀N K todo O L ns,Out.ok E Q (rec N K todo O L ns)->eqs ns/\ao E N K todo Q O L):∀{x:Nx},Out.ok E Q (rU rec x)->Nx.ok E Q x
 | .go N' K' todo' O' L' ns',h=>by
  dsimp only[rU]at h;rw[wj]at h;exact hr _ _ _ _ _ _ h
 | .out (.stuck ..),h=>h
 | .out (.fin ..),h=>h
 | .out (.cond b N' K' t1 s1 t2 s2 L' ns'),h=>by
  cases b with
  |true=>
   have:=hr _ _ _ _ _ _ h;exact⟨this.1,λ_=>this.2,(λh=>nomatch h)⟩
  |false=>
   have:=hr _ _ _ _ _ _ h;exact⟨this.1,(λh=>nomatch h),λ_=>this.2⟩
theorem Kh (hm:E.P.follows .mixedOrders=true):∀(f:Nat) (Q:DQ) (N K:Nat) (todo:List It) (O:TS) (L:Hp) (ns:List (Nat×Nat)),Out.ok E Q (dr E.P E.G E.T f N K todo O L ns)->eqs ns/\ao E N K todo Q O L
 |0,_,_,_,_,_,_,_,h=>h
 |f+1,Q,N,K,todo,O,L,ns,h=>by
  have one:∀O,Out.ok E Q (rU (dr E.P E.G E.T f) (step E.P E.G E.T mB (λ_ _=>none) f N K todo O L ns))->eqs ns/\ao E N K todo Q O L:=λO h=>
   H8 (c:=mB) (fl:=f) hm (λf hf=>by cases hf) (λf ty z h=>by cases h) (λg x h=>by cases h) (nest:=λ_ _=>none) (λg xs z hz=>by cases hz) (Rp (λN K todo O L ns h=>Kh hm f Q N K todo O L ns h) h)
  unfold dr at h;split at h
  ·exact h
  ·split at h
   ·exact h
   ·split at h
    ·exact one O h
    ·rename_i d t ha;cases t with
     |true=>have:=one _ h;exact⟨this.1,ao.uZ ha rfl this.2⟩
     |false=>have:=one _ h;exact⟨this.1,ao.uZ ha rfl this.2⟩
theorem Rn (hm:E.P.follows .mixedOrders=true) (f:Nat) (h:Out.ok E Q (match L with|⟨e,m⟩=>ra 1000 m 0 λn=>dr E.P E.G E.T f N K k O ⟨e,n⟩ [])):ao E N K k Q O L:=by
 obtain⟨e,m⟩:=L;dsimp only at h;rw[wj]at h;exact(Kh hm f Q N K k O ⟨e,m⟩ [] h).2
theorem aR.oT {f:Operand} {args:List Operand} {g:FuncId} {cs:List CV} {xs' xs:List AV} {ns:List (Nat×Nat)} {ms:List (Nat×aT)} {res:AV} {tys:Array TypeId} (h:Pure E.toCx g xs (.ret res)) (ho:o.op= .call {callee:= .value f,args:=args.toArray,argTypes:=tys})
  (hc:dm O f args=some (g,cs)) (hf:bU L.e 60 cs=some (xs',ns,ms)) (hn:eqs ns) (hi:bS xs' xs) (hl:ms=[]\/cE res=true):aR E N o O L (.d res):=aR.pure 60 ho h hc hf hn hi hl
theorem ao.qA {dst:Option Nat} {f:Operand} {args:List Operand} {g:FuncId} {cs:List CV} {xs' xs:List AV} {ns:List (Nat×Nat)} {ms:List (Nat×aT)} {y:AV} {tys:Array TypeId} {ty:TypeId} {pos:String} {after:Array Edge} (h:Pure E.toCx g xs (.aJ y)) (hc:dm O f args=some (g,cs)) (hf:bU L.e 60 cs=some (xs',ns,ms)) (hn:eqs ns) (hi:bS xs' xs) (hl:ms=[]\/cE y=true) (hp:iY k=none)
  (hq:Q (.aJ (.d y)) .lf L):ao E N K (.ops all (⟨dst,.call {callee:= .value f,args:=args.toArray,argTypes:=tys},ty,pos,after,none⟩::rest)::k) Q O L:=by
 show DO E N K all _ (dq E N K k Q) O L;exact DO.qA 60 h hc hf hn hi hl (kP k N K .lf hp hq)
theorem ao.cZ {t:Nat} {z:AV} {ns:List (Nat×Nat)} {ms:List (Nat×aT)} (hx:O.get t=some x) (hf:bU L.e 60 [x]=some ([z],ns,ms)) (hn:eqs ns) (h:ao E N K (.ops all rest::k) Q (Tr.put 24 O t (some (.d z))) (gQ ms L)):ao E N K (.ops all rest::k) Q O L:=DO.cZ 60 hx hf hn h
theorem ao.sE {l:List (Nat×Oper×TK)} {A:bp} {pend:List (Nat×Oper×CV)} {fs:List (Nat×List AV×AV)} {q:Nat} {t:TypeId} {p v:Operand} {i n m e kk:Nat} {rows:List (List AV)} {r r':List AV} {y:AV} {ti:TI} {O1:TS} {η1:Hp} (j off:Nat) (hpd:az E N all pend O L) (hnd:eH ((dh (bQ all.toArray q A)).map (·.1))=true) (hd:o.dst=none) (cm:ei (dh (bQ all.toArray q A)) O L=(O1,η1)) (hw:cv all o O1=some true)
  (ho:o.op= .store t p v) (hp:aO O1 p=some (.oe i n m)) (hv:aO O1 v=some (.d y)) (hi:η1.e.get i=some (.row e kk rows)) (hn:n=rows.length)
  (hm:m=j*kk+off) (hr:rows[j]? =some r) (ht:aP E.T t=some ti) (hk:Nat.beq (bW y).length ti.size=true) (h1:ek (bW y)=true) (hl:ew r off (bW y)=some r')
  (h:ao E N K (.tl all l (b4 all.toArray q A) (cx all q pend) fs::k) Q O1 (η1.set i (.row e kk (rows.set j r')))):ao E N K (.tl all ((q,o,.one)::l) A pend fs::k) Q O L:=
 ao.rb hpd hnd (by rw[hd];rfl) cm hw (bo.oC j off ho hp hv hi hn hm hr ht hk h1 hl) (λx L' hR=>by obtain⟨h2,rfl⟩:=hR;rw[hd];exact h) (λx L' hR=>by cases hR.1)
theorem gT.Qm {G:Gl} {N:Nat} {O:Sg} {L:List aj} (e:TypeId) (k:Nat):gT G N O L O (L++[.row (.slice none 0 0) e k []]):=λF w a hs=>by
 have hkeep:cR w (Al F L) w (Al F (L++[aj.row (.slice none 0 0) e k []])):=⟨bC _,λb _ ha=>⟨by simpa[Al,b5,cy,aj.ids,Value.ownBlock,ids]using ha,rfl⟩⟩;refine⟨⟨⟨hs.sg.1,λs x hx=>⟨(hs.sg.2 s x hx).1,(hs.sg.2 s x hx).2.aX hkeep⟩⟩,?_,hs.df⟩,λb hb=>?_⟩
 ·refine hs.hp.push (bC _) (λ_ _=>rfl) (by simp[aj.ids,Value.ownBlock]) (by simp[aj.ids,Value.ownBlock]) ?_;exact⟨[],by simp[bc],by simp,.inl ⟨rfl,rfl⟩⟩
 ·simpa[b5,cy,aj.ids,Value.ownBlock,ids]using hb
theorem aG.Ki {w:World} {A:Nat->Prop} {t:Nat}:∀{xs:List AV} {vs:List Value} {c:Nat},xs[c]? =some (.v (.slice none 0 0))->aG w A xs vs->aG w A (xs.set c (.os t none 0 0)) vs
 |x::xs,vs,0,hc,h=>by
  simp only[mf,ax]at hc;subst hc;simp only[aG]at h;obtain⟨v,r,rfl,h1,h2⟩:=h;simp only[Fv,aG];exact⟨v,r,rfl,by simp only[Rel]at h1⊢;exact h1,h2⟩
 |x::xs,vs,c+1,hc,h=>by
  simp only[aG]at h;obtain⟨v,r,rfl,h1,h2⟩:=h;simp only[sr,aG];exact⟨v,r,rfl,h1,aG.Ki (by simpa using hc) h2⟩
theorem aI.getD {Z:aD}:∀{xs:List CV} {ys:List AV} {c:Nat} {x:AV},aI Z xs ys->xs[c]? =some (.d x)->ys[c]? =some x
 |y::xs,ys,0,x,h,hc=>by
  simp only[mf,ax]at hc;subst hc;simp only[aI]at h;obtain⟨u,r,rfl,h1,_⟩:=h;simp only[aC]at h1;subst h1;rfl
 |y::xs,ys,c+1,x,h,hc=>by
  simp only[aI]at h;obtain⟨u,r,rfl,_,h2⟩:=h;simpa using aI.getD h2 (by simpa using hc)
theorem aI.I7 {Z:aD} {x:CV} {y:AV} (hxy:aC Z x y):∀{xs:List CV} {ys:List AV} {c:Nat},aI Z xs ys->aI Z (xs.set c x) (ys.set c y)
 |[],ys,_,h=>by simp only[aI]at h;subst h;simp[aI]
 |_::xs,ys,0,h=>by
  simp only[aI]at h;obtain⟨u,r,rfl,_,h2⟩:=h;simp only[Fv,aI];exact⟨_,_,rfl,hxy,h2⟩
 |_::xs,ys,c+1,h=>by
  simp only[aI]at h;obtain⟨u,r,rfl,h1,h2⟩:=h;simp only[sr,aI];exact⟨_,_,rfl,h1,aI.I7 hxy h2⟩
theorem DC.lG (i c' e kk:Nat) {cs:List CV} (hi:L.e.get i=some (.box cs)) (hc:cs[c']? =some (.d (.v (.slice none 0 0)))) (h:DC E N K c Q O ((L.push (.row e kk [])).set i (.box (cs.set c' (.os L.n 0))))):DC E N K c Q O L:=λZ OB LB hs hh=>by
 obtain⟨y,hy,hE⟩:=hh.en i _ hi;obtain⟨b,cs',hb,rfl,hcs⟩:=hE;have hilt:i<LB.length:=by rw[b7]at hy;exact(cX.1 hy).1
 have hdom:=hh.gb L.n (bC _);have hl:Z.le (Z.aQ L.n 0 (none,0)):=aD.ka λy hy=>by rw[hdom.2]at hy;cases hy
 have hbn:(Z.aQ L.n 0 (none,0)).s L.n 0=some (none,0):=by simp[aD.aQ]
 have hy':nth (LB++[aj.row (.slice none 0 0) e kk []]) i=some (.box b cs'):=by rw[b7]at hy⊢;rw[pT hilt];exact hy
 have hc2:cs'[c']? =some (.v (.slice none 0 0)):=hcs.getD hc;refine bH.lW (gT.Qm e kk) (bH.lW (gT.LY i (y:= .box b (cs'.set c' (.os LB.length none 0 0))) hy' rfl (λw A h=>?_)) ?_)
 ·obtain⟨e',vs,h1,h2⟩:=h;exact⟨e',vs,h1,h2.Ki hc2⟩
 refine bH.mono (h _ _ _ (hs.mono hl) ?_) λ_ _ _ hq=>oz (hl.toK K) (λ_ _ _ h=>h) hq;have hp:HS (Z.aQ L.n 0 (none,0)) (L.push (.row e kk [])) (LB++[aj.row (.slice none 0 0) e kk []]):=by
  refine hh.push hl (λi hi=>by funext m;simp[aD.aQ,hi]) (λ_ _=>rfl) ⟨⟨none,0,by simpa using hbn,by simp⟩,λm hm=>?_⟩;have:m≠0:=by simp at hm;omega
  simp only[aD.aQ,this,and_false,if_false];exact hdom.2 m
 refine hp.set (.refl _) (λ_ _=>rfl) (λ_ _=>rfl) ?_ ⟨b,_,hl.1 _ _ hb,rfl,(hcs.mono hl).I7 ?_⟩
 ·have:=hh.lt hi;simp only[Hp.push];omega
 ·simp only[aC];exact⟨none,0,LB.length,hbn,rfl⟩
theorem ao.lG (i c' e kk n:Nat) {cs:List CV} (hn:L.n=n) (hi:L.e.get i=some (.box cs)) (hc:cs[c']? =some (.d (.v (.slice none 0 0)))) (h:ao E N K (.code c::k) Q O ⟨Tr.put 24 (Tr.put 24 L.e n (some (.row e kk []))) i (some (.box (cs.set c' (.os n 0)))),n+1⟩):ao E N K (.code c::k) Q O L:=by
 subst hn;unfold ao at h⊢;simp only[dq]at h⊢;exact DC.lG i c' e kk hi hc h
theorem ao.wQ (t e kk n:Nat) (hn:L.n=n) (ht:O.get t=some (.d (.v (.slice none 0 0)))) (h:ao E N K (.code c::k) Q (Tr.put 24 O t (some (.os n 0))) ⟨Tr.put 24 L.e n (some (.row e kk [])),n+1⟩):ao E N K (.code c::k) Q O L:=by
 subst hn;exact ao.gR t e kk ht h
theorem ao.na (n:Nat) {l:List (Nat×Oper×TK)} {A:bp} {pend:List (Nat×Oper×CV)} {fs:List (Nat×List AV×AV)} {q d u:Nat} {p:Operand} {t:TypeId} {ty:TypeId} {pos:String} {after:Array Edge} {e kk sz by' sz' by'':Nat} {z z':List Value} {td':TD} {rows2:List (List AV)} {O1:TS} {η1:Hp} (hp:az E N all pend O L) (hnd:eH ((dh (bQ all.toArray q A)).map (·.1))=true) (hd:Nat.blt d N=true) (cm:ei (dh (bQ all.toArray q A)) O L=(O1,η1)) (hn:η1.n=n)
  (hu:O1.get u=some (.d (.v (.slice none 0 0)))) (hx:aO (Tr.put 24 O1 u (some (.os n 0))) p=some (.d (.sl kk rows2))) (ht:aP E.T t=some ⟨.slice e kk,sz,by',z⟩) (hte:aP E.T e=some ⟨td',sz',by'',z'⟩)
  (hs':aO (Tr.put 24 O1 u (some (.os n 0))) (.tmp u)=some (.os n 0)) (hi:(Tr.put 24 η1.e n (some (.row e kk []))).get n=some (.row e kk [])) (h1:fI rows2=true)
  (hk:Nat.ble 1 kk=true) (hby:Nat.ble 1 by''=true) (hb:rows2.length*by''<=140737488355328)
  (k1:ao E N K (.tl all l (b4 all.toArray q A) (cx all q pend) fs::k) Q (bK O1 (some d) (.os n rows2.length)) ⟨Tr.put 24 (Tr.put 24 η1.e n (some (.row e kk []))) n (some (.row e kk rows2)),n+1⟩):
  ao E N K (.tl all ((q,⟨some d,.call {callee:= .builtin .append,args:= #[.tmp u,p],argTypes:= #[t,t]},ty,pos,after,none⟩,.one)::l) A pend fs::k) Q O L:=by
 subst hn;exact ao.rb hp hnd hd cm rfl (bo.gR u e kk hu (bo.append (rows:=[]) rfl hb hs' hi rfl (.sl hx) ht hte h1 hk hby)) (λx L' hR=>by obtain⟨h2,rfl⟩:=hR;cases h2;exact k1) (λx L' hR=>by cases hR.1)
theorem ao.Rq {l:List (Nat×Oper×TK)} {A:bp} {pend:List (Nat×Oper×CV)} {fs:List (Nat×List AV×AV)} {i j:Nat} {o':Oper} {y:TK} {η1 L2 L3:Hp} (hp:az E N all pend O L) (hd:o.dst=none) (hd':o'.dst=none) (hw:cv all o O=some true) (hw':cv all o' O=some true)
  (h1:bo E N o O L (λr L'=>r= .ret (.d (.v undef))/\L'=η1)) (p1:az E N all (cx all i pend) O η1) (h2:bo E N o' O η1 (λr L'=>r= .ret (.d (.v undef))/\L'=L3))
  (h3:bo E N o' O L (λr L'=>r= .ret (.d (.v undef))/\L'=L2)) (p2:az E N all (cx all j pend) O L2) (h4:bo E N o O L2 (λr L'=>r= .ret (.d (.v undef))/\L'=L3))
  (k1:ao E N K (.tl all l A (cx all j (cx all i pend)) fs::k) Q O L3):ao E N K (.tl all ((i,o,.two)::(j,o',y)::l) A pend fs::k) Q O L:=
 λhf=>cg.pair hp hd hd' hw hw' h1 p1 h2 h3 p2 h4 (k1 hf)
theorem ao.wm {l:List (Nat×Oper×TK)} {A:bp} {pend:List (Nat×Oper×CV)} {fs:List (Nat×List AV×AV)} {qi qj:Nat} {o':Oper} {ytk:TK} {t t2:TypeId} {p v p2 v2:Operand} {i n m e kk b off2:Nat} {rows:List (List AV)} {r r':List AV} {y:AV} {x2:CV} {cs cs':List CV} {ti ti2:TI} (jn off:Nat) (hpd:az E N all pend O L) (hd:o.dst=none) (hd':o'.dst=none) (hw:cv all o O=some true) (hw':cv all o' O=some true)
  (ho:o.op= .store t p v) (hpv:aO O p=some (.oe i n m)) (hv:aO O v=some (.d y)) (hi:L.e.get i=some (.row e kk rows)) (hn:n=rows.length) (hm:m=jn*kk+off) (hr:rows[jn]? =some r) (ht:aP E.T t=some ti) (hk:Nat.beq (bW y).length ti.size=true) (h1:ek (bW y)=true) (hl:ew r off (bW y)=some r')
  (ho':o'.op= .store t2 p2 v2) (hp2:aO O p2=some (.own b off2)) (hv2:aO O v2=some x2) (hb:L.e.get b=some (.box cs)) (ht2:aP E.T t2=some ti2) (hk2:Nat.beq (de x2).length ti2.size=true) (h12:kU (de x2)=true) (hl2:kL cs off2 (de x2)=some cs')
  (hi':(L.set b (.box cs')).e.get i=some (.row e kk rows)) (hb':(L.set i (.row e kk (rows.set jn r'))).e.get b=some (.box cs)) (he:(L.set b (.box cs')).set i (.row e kk (rows.set jn r'))=(L.set i (.row e kk (rows.set jn r'))).set b (.box cs'))
  (q1:az E N all (cx all qi pend) O (L.set i (.row e kk (rows.set jn r')))) (q2:az E N all (cx all qj pend) O (L.set b (.box cs')))
  (k1:ao E N K (.tl all l A (cx all qj (cx all qi pend)) fs::k) Q O ((L.set i (.row e kk (rows.set jn r'))).set b (.box cs'))):ao E N K (.tl all ((qi,o,.two)::(qj,o',ytk)::l) A pend fs::k) Q O L:=
 ao.Rq hpd hd hd' hw hw' (bo.oC jn off ho hpv hv hi hn hm hr ht hk h1 hl) q1 (bo.store ho' hp2 hv2 hb' ht2 hk2 h12 hl2) (bo.store ho' hp2 hv2 hb ht2 hk2 h12 hl2) q2
  ((bo.oC jn off ho hpv hv hi' hn hm hr ht hk h1 hl).mono λr1 L' hR=>⟨hR.1,hR.2.trans he⟩) k1
theorem H9 {d n:Nat} {q:Operand} {kd:IntKind} {m:Int} (hm:m=(n:Int)) (h:aO O q=some (.d (.v (.int kd m)))):mC O d (some q)=some n:=by
 subst hm;simp only[mC,h];rfl
theorem H' {d n:Nat} (h:d=n):mC O d none=some n:=by subst h;rfl
theorem ao.fV {l:List (Nat×Oper×TK)} {A:bp} {pend:List (Nat×Oper×CV)} {fs:List (Nat×List AV×AV)} {i q n d:Nat} {s p:Operand} {x:AV} {t:TypeId} {ty:TypeId} {pos:String} {after:Array Edge} {e kk sz by' sz' by'':Nat} {z z':List Value} {td':TD} {rows rows2:List (List AV)} {O1:TS} {η1:Hp} (hp:az E N all pend O L) (hnd:eH ((dh (bQ all.toArray i A)).map (·.1))=true) (hd:Nat.blt d N=true) (cm:ei (dh (bQ all.toArray i A)) O L=(O1,η1))
  (hs':aO O1 s=some (.os q n)) (hi:η1.e.get q=some (.row e kk rows)) (hn:n=rows.length) (hx:aO O1 p=some (.d x)) (hI:bO x (.sl kk rows2)) (ht:aP E.T t=some ⟨.slice e kk,sz,by',z⟩) (hte:aP E.T e=some ⟨td',sz',by'',z'⟩) (h1:fI rows2=true)
  (hk:Nat.ble 1 kk=true) (hby:Nat.ble 1 by''=true) (hb:(rows++rows2).length*by''<=140737488355328)
  (k1:ao E N K (.tl all l (b4 all.toArray i A) (cx all i pend) fs::k) Q (bK O1 (some d) (.os q (rows++rows2).length)) (η1.set q (.row e kk (rows++rows2)))):
  ao E N K (.tl all ((i,⟨some d,.call {callee:= .builtin .append,args:= #[s,p],argTypes:= #[t,t]},ty,pos,after,none⟩,.one)::l) A pend fs::k) Q O L:=
 ao.rb hp hnd hd cm rfl (bo.append rfl hb hs' hi hn (.yW hx hI) ht hte h1 hk hby) (λx L' hR=>by obtain⟨h2,rfl⟩:=hR;cases h2;exact k1) (λx L' hR=>by cases hR.1)
theorem DO.xW {i d n:Nat} {s p:Operand} {x:AV} {t:TypeId} {ty:TypeId} {pos:String} {after:Array Edge} {e kk sz by' sz' by'':Nat} {z z':List Value} {td':TD} {rows rows2:List (List AV)}
  (hs':aO O s=some (.os i n)) (hi:L.e.get i=some (.row e kk rows)) (hn:n=rows.length) (hx:aO O p=some (.d x)) (hI:bO x (.sl kk rows2)) (ht:aP E.T t=some ⟨.slice e kk,sz,by',z⟩) (hte:aP E.T e=some ⟨td',sz',by'',z'⟩) (h1:fI rows2=true)
  (hk:Nat.ble 1 kk=true) (hby:Nat.ble 1 by''=true) (hd:Nat.blt d N=true) (hb:(rows++rows2).length*by''<=140737488355328)
  (k1:ao E N K (.ops all rest::k) Q (bK O (some d) (.os i (rows++rows2).length)) (L.set i (.row e kk (rows++rows2)))):
  ao E N K (.ops all (⟨some d,.call {callee:= .builtin .append,args:= #[s,p],argTypes:= #[t,t]},ty,pos,after,none⟩::rest)::k) Q O L:=
 DO.append hb hs' hi hn (.yW hx hI) ht hte h1 hk hby hd k1
theorem DO.re (t:Nat) {kk:Nat} {rows:List (List AV)} (ht:O.get t=some (.d (.sl kk rows))) (h1:∀cap,rows=[]->DO E N K all rest Q (Tr.put 24 O t (some (.d (.v (.slice none 0 cap))))) L) (h2:∀ad n cap,DO E N K all rest Q (Tr.put 24 O t (some (.d (.v (.slice (some ad) n cap))))) L):DO E N K all rest Q O L:=λZ OB LB hs hh=>by
 obtain⟨y,g1,g2⟩:=hs t _ ht;simp only[aC]at g2;subst g2;intro F w0 η0 a w hst hxt;obtain⟨hlt,hv⟩:=hst.sg.2 t _ g1;have go:∀x:Value,Rel w (Al F LB) (.v x) _->DO E N K all rest Q (Tr.put 24 O t (some (.d (.v x)))) L->_:=λx hx hd=>
  hd Z ((t,.v x)::OB) LB (hs.put (some t) (x:= .d (.v x)) (y:= .v x) rfl) hh F w0 η0 a w ⟨⟨hst.sg.1,λu q hq=>by
   simp only[look]at hq;cases hb:Nat.beq t u with
   |true=>
    rw[hb]at hq;simp only[ax]at hq;subst hq;rw[<-bg hb];exact⟨hlt,hx⟩
   |false=>rw[hb]at hq;exact hst.sg.2 u q hq⟩,hst.hp,hst.df⟩ hxt
 simp only[Rel]at hv;rcases hv with⟨hr,ad,cap,he⟩|⟨b,o,cap,vs,he,_⟩
 ·cases ad with
  |none=>exact go _ (by simp only[Rel];exact he) (h1 cap hr)
  |some ad=>exact go _ (by simp only[Rel];exact he) (h2 ad 0 cap)
 ·exact go _ (by simp only[Rel];exact he) (h2 _ _ cap)
theorem ao.re (t:Nat) {kk:Nat} {rows:List (List AV)} (ht:O.get t=some (.d (.sl kk rows))) (h1:∀cap,rows=[]->ao E N K (.ops all rest::k) Q (Tr.put 24 O t (some (.d (.v (.slice none 0 cap))))) L) (h2:∀ad n cap,ao E N K (.ops all rest::k) Q (Tr.put 24 O t (some (.d (.v (.slice (some ad) n cap))))) L):ao E N K (.ops all rest::k) Q O L:=DO.re t ht h1 h2
theorem bG.nN {t et:TypeId} {p q:Operand} {yt:TypeId} {ad:Option Addr} {n cap:Nat} (ho:o.op= .binOp .eql t p q yt) (hu:E.P.underlying t=some (.slice et)) (hp:aO O p=some (.d (.v (.slice ad n cap)))) (hq:aO O q=some (.d (.v (.slice none 0 0)))):bG E N o O (.d (.v (.bool ad.isNone))):=
 bG.fh (by rw[ho];cases ad<;>simp[Bw.fh,hu,nb hp,nb hq,tz,oY])
