/- The abstract machine, sixth part: its step, as a function. -/
import Derived.Test.YtnocmolegijmkaaGreatKD5
import Derived.KernelRfl
set_option linter.all false
noncomputable section
namespace Go.Bw
open Go
def ru (a b:Nat):Nat:=Nat.div a b
def uq (a b:Nat):Nat:=Nat.mod a b
def rV (cl:Bool) (T:bD) (O:TS) (L:Hp):Op->Option (CV×List (Nat×Nat))
 | .load t p=>match aO O p with
  |some (.own i off)=>match L.e.get i with
   |some (.box cs)=>match xO T t cs off with
    |some x=>some (x,[])
    |none=>none
   |some (.kB cs)=>match iA T t (cs.drop off) 0 with
    |some y=>some (.d y,[])
    |none=>none
   |_=>none
  |some (.oe i n m)=>match cl with
   |false=>none
   |true=>match L.e.get i with
    |some (.row _ k rows)=>match nth rows (ru m k)with
     |some r=>match iA T t r (uq m k)with
      |some y=>some (.d y,[(n,rows.length)])
      |none=>none
     |none=>none
    |_=>none
  |_=>none
 | .indexAddr t p ix=>match cl with
  |false=>none
  |true=>match aO O p,aO O ix,aP T t with
   |some (.os i n),some (.d (.v (.int _ (.ofNat j)))),some ⟨.slice e k,_,_,_⟩=>match L.e.get i with
    |some (.row e' k' rows)=>match Nat.beq e e'&&Nat.beq k k'&&Nat.blt j rows.length with
     |true=>some (.oe i n (j*k),[(n,rows.length)])
     |false=>none
    |some (.gH k' rows)=>match Nat.beq k k',nth rows j with
     |true,some r=>some (.d (.ip r),[(n,rows.length)])
     |_,_=>none
    |_=>none
   |_,_,_=>none
 | .call {callee:= .builtin .len,args:=as,argTypes:=ts}=>match as.toList,ts.toList with
  |[p],[t]=>match aO O p,aP T t with
   |some (.os _ n),some ⟨.slice _ _,_,_,_⟩=>some (.d (.v (.int .i64 (n:Int))),[])
   |some (.d y),_=>match rv T t y with
    |some n=>some (.d (.v (.int .i64 n)),[])
    |none=>none
   |_,_=>none
  |_,_=>none
 |_=>none
def Wo (op:Op):Nat:= @Op.rec (λ_=>Nat) (λ_=>0) (λ_=>1) (λ_ _ _=>2) (λ_=>3) (λ_ _=>4) (λ_ _=>5) (λ_ _ _=>6) (λ_ _ _ _=>7) (λ_ _=>8) (λ_ _ _=>9) (λ_=>10) (λ_=>11) (λ_=>12) (λ_ _ _ _ _=>13) (λ_ _ _=>14) (λ_ _ _=>15) (λ_ _=>16) (λ_ _=>17) (λ_ _ _=>18) (λ_ _=>19) (λ_ _=>20) (λ_ _ _=>21) (λ_ _ _ _ _=>22) (λ_ _ _=>23) (λ_ _ _=>24) (λ_ _ _=>25) (λ_ _ _=>26) (λ_ _ _ _=>27) (λ_ _ _ _=>28) (λ_ _ _=>29) (λ_ _ _ _=>30) (λ_ _=>31) (λ_ _=>32) (λ_=>33) (λ_ _ _ _=>34) (λ_ _=>35) (λ_=>36) (λ_=>37) (λ_=>38) (λ_=>39) (λ_ _=>40) (λ_ _ _=>41) (λ_ _=>42) op
def Wp (m:Nat) (op:Op):Bool:=Nat.beq (Nat.land (Nat.shiftRight m (Wo op)) 1) 1
def dT {D:Type} (m:Nat) (op:Op) (x:Option D):Option D:= @Bool.rec (λ_=>Option D) none x (Wp m op)
theorem Kl {T:bD} {s:Sl} {op:Op}:dT 51565228327 op (cj T s op)=cj T s op:=by cases op<;>kernel_rfl
theorem Km {T:bD} {O:TS} {op:Op}:dT 51565170727 op (mH T O op)=mH T O op:=by cases op<;>kernel_rfl
theorem TF {cl:Bool} {T:bD} {O:TS} {L:Hp} {op:Op}:dT 68753031424 op (rV cl T O L op)=rV cl T O L op:=by cases op<;>kernel_rfl
theorem Kn {G:Gl} {T:bD} {s:Sl} {op:Op}:dT 33024 op (kA G T s op)=kA G T s op:=by cases op<;>kernel_rfl
theorem Ko {P:Program} {T:bD} {s:Sl} {op:Op}:dT 104865792 op (dD P T s op)=dD P T s op:=by cases op<;>kernel_rfl
theorem Kp {P:Program} {s:Sl} {op:Op}:dT 68719484928 op (fh P s op)=fh P s op:=by cases op<;>kernel_rfl
theorem Rv {P:Program} {O:TS} {L:Hp} {op:Op}:dT 8192 op (ph P O L op)=ph P O L op:=by cases op<;>kernel_rfl
def DF (T:bD) (O:Sl) (op:Op):Option AV:=cj T O op
def DG (T:bD) (O:TS) (op:Op):Option CV:=mH T O op
def KP (cl:Bool) (T:bD) (O:TS) (L:Hp) (op:Op):Option (CV×List (Nat×Nat)):=rV cl T O L op
theorem Ib {T:bD} {O:Sl} {op:Op}:DF T O op=cj T O op:=by cases op<;>kernel_rfl
theorem Ic {T:bD} {O:TS} {op:Op}:DG T O op=mH T O op:=by cases op<;>kernel_rfl
theorem Qt {cl:Bool} {T:bD} {O:TS} {L:Hp} {op:Op}:KP cl T O L op=rV cl T O L op:=by cases op<;>kernel_rfl
def dc (P:Program) (G:Gl) (T:bD) (cl:Bool) (O:TS) (L:Hp) (op:Op):Option (CV×List (Nat×Nat)):=
 match dT 51565228327 op (DF T (dE O) op)with
 |some y=>some (.d y,[])
 |none=>match dT 51565170727 op (DG T O op)with
  |some x=>some (x,[])
  |none=>match dT 68753031424 op (KP cl T O L op)with
   |some p=>some p
   |none=>match dT 33024 op (kA G T (dE O) op)with
    |some y=>some (.d y,[])
    |none=>match cl with
     |false=>none
     |true=>match dT 104865792 op (dD P T (dE O) op)with
      |some y=>some (.d y,[])
      |none=>match dT 68719484928 op (fh P (dE O) op)with
       |some y=>some (.d y,[])
       |none=>dT 8192 op (ph P O L op)
section
variable {E:Env} {N K:Nat} {Q:DQ} {O:TS} {L:Hp} {o:Oper} {x:CV} {all rest:List Oper} {cl:Bool}
theorem Rw {ns:List (Nat×Nat)} (h:rV cl E.T O L o.op=some (x,ns)) (hn:eqs ns):aR E N o O L x:=by
 unfold rV at h;split at h
 ·rename_i t p ho;split at h
  ·rename_i i off hp;split at h
   ·rename_i cs hi;split at h
    ·rename_i y hl;simp only[ax,bZ]at h;obtain⟨rfl,rfl⟩:=h;exact aR.load ho hp hi hl
    ·cases h
   ·rename_i cs hi;split at h
    ·rename_i y hl;simp only[ax,bZ]at h;obtain⟨rfl,rfl⟩:=h;exact aR.TG ho hp hi hl
    ·cases h
   ·cases h
  ·rename_i i n m hp;split at h
   ·cases h
   ·split at h
    ·rename_i e k rows hi;split at h
     ·rename_i r hr;split at h
      ·rename_i y hl;simp only[ax,bZ]at h;obtain⟨rfl,rfl⟩:=h;refine aR.Ig (ru m k) (uq m k) ho hp hi hn.1 ?_ (by rw[<-b7];exact hr) hl;have:=MW m k;rw[vw]at this;exact this.symm
      ·cases h
     ·cases h
    ·cases h
  ·cases h
 ·rename_i t p ix ho;split at h
  ·cases h
  ·split at h
   ·rename_i i n kd j e k _ _ _ hp hix ht;split at h
    ·rename_i e' k' rows hi;split at h
     ·rename_i hB;simp only[ax,bZ]at h;obtain⟨rfl,rfl⟩:=h;simp only[bj,kG]at hB;have h1:=bg hB.1.1;have h2:=bg hB.1.2;subst h1;subst h2;exact aR.Ji j ho hp hi hn.1 ht hix rfl hB.2
     ·cases h
    ·rename_i k' rows hi;split at h
     ·rename_i r hk hr;simp only[ax,bZ]at h;obtain⟨rfl,rfl⟩:=h;have hk:=bg hk;subst hk;exact aR.UD j ho hp hi hn.1 ht hix rfl (by rw[<-b7];exact hr)
     ·cases h
    ·cases h
   ·cases h
 ·rename_i as ts ho;split at h
  ·rename_i p t h1 h2;obtain⟨as⟩:=as;obtain⟨ts⟩:=ts;simp only at h1 h2;subst h1;subst h2;split at h
   ·rename_i i n e k _ _ _ hp ht;simp only[ax,bZ]at h;obtain⟨rfl,rfl⟩:=h;exact aR.len ho hp ht
   ·rename_i y _ hp;split at h
    ·rename_i n hl;simp only[ax,bZ]at h;obtain⟨rfl,rfl⟩:=h;exact aR.UE ho hp hl
    ·cases h
   ·cases h
  ·cases h
 ·cases h
theorem tA {ns:List (Nat×Nat)} (h:dc E.P E.G E.T cl O L o.op=some (x,ns)) (hn:eqs ns):aR E N o O L x:=by
 unfold dc at h;simp only[Ib,Ic,Qt,Kl,Km,TF,Kn,Ko,Kp,Rv]at h;split at h
 ·rename_i y hy;simp only[ax,bZ]at h;obtain⟨rfl,rfl⟩:=h;exact aR.cj hy
 ·split at h
  ·rename_i y hy;simp only[ax,bZ]at h;obtain⟨rfl,rfl⟩:=h;exact aR.mH hy
  ·split at h
   ·rename_i p hp;simp only[ax]at h;subst h;exact Rw hp hn
   ·split at h
    ·rename_i y hy;simp only[ax,bZ]at h;obtain⟨rfl,rfl⟩:=h;exact aR.kA hy
    ·split at h
     ·cases h
     ·split at h
      ·rename_i y hy;simp only[ax,bZ]at h;obtain⟨rfl,rfl⟩:=h;exact aR.dD hy
      ·split at h
       ·rename_i y hy;simp only[ax,bZ]at h;obtain⟨rfl,rfl⟩:=h;exact aR.fh hy
       ·exact aR.ph h hn
inductive gI where
 |push (d:Nat) (x:CV) (c:aT)
 |set (i:Nat) (c:aT) (ns:List (Nat×Nat))
 |app (i d:Nat) (x:CV) (c:aT) (ns:List (Nat×Nat))
 |qK (t e k:Nat)
 |cZ (t:Nat) (z:AV) (ns:List (Nat×Nat)) (ms:List (Nat×aT))
def Bo (O:TS):List (Nat×Operand)->Option Nat
 |[]=>none
 |(_,.tmp t)::r=>match O.get t with
  |some (.d _)=>Bo O r
  |_=>some t
 |_::r=>Bo O r
def Bj (O:TS):List (Nat×Operand)->Option Nat
 |[]=>none
 |(_,.tmp t)::r=>match O.get t with
  |some (.os _ _)=>some t
  |_=>Bj O r
 |_::r=>Bj O r
mutual
def TH:CV->Bool
 | .os _ _=>true
 | .agg xs=>BO xs
 |_=>false
def BO:List CV->Bool
 |[]=>false
 |x::r=>TH x||BO r
end
def BP (O:TS):Operand->Option (Nat×CV)
 | .tmp u=>match O.get u with
  |some (.agg xs)=>match BO xs with
   |true=>some (u,.agg xs)
   |false=>none
  |_=>none
 |_=>none
def DH (O:TS) (L:Hp) (k:Nat) (p:Operand):Option (List (List AV)×List (Nat×Nat)):=match aO O p with
 |some (.d (.sl k' rows))=>match Nat.beq k k' with
  |true=>some (rows,[])
  |false=>none
 |some (.d (.v (.slice none 0 0)))=>some ([],[])
 |some (.os j n)=>match L.e.get j with
  |some (.row _ k' rows)=>match Nat.beq k k' with
   |true=>some (rows,[(n,rows.length)])
   |false=>none
  |some (.gH k' rows)=>match Nat.beq k k' with
   |true=>some (rows,[(n,rows.length)])
   |false=>none
  |_=>none
 |_=>none
theorem Ih {k:Nat} {p:Operand} {rows:List (List AV)} {ns:List (Nat×Nat)} (h:DH O L k p=some (rows,ns)) (hn:eqs ns):ko E O L k p rows:=by
 unfold DH at h;split at h
 ·rename_i k' rows' hp;split at h
  ·rename_i hk;simp only[ax,bZ]at h;obtain⟨rfl,rfl⟩:=h;have:=bg hk;subst this;exact .sl hp
  ·cases h
 ·rename_i hp;simp only[ax,bZ]at h;obtain⟨rfl,rfl⟩:=h;exact .nil hp
 ·rename_i j n hp;split at h
  ·rename_i e k' rows' hi;split at h
   ·rename_i hk;simp only[ax,bZ]at h;obtain⟨rfl,rfl⟩:=h;have:=bg hk;subst this;exact .row hp hi hn.1
   ·cases h
  ·rename_i k' rows' hi;split at h
   ·rename_i hk;simp only[ax,bZ]at h;obtain⟨rfl,rfl⟩:=h;have:=bg hk;subst this;exact .fz hp hi hn.1
   ·cases h
  ·cases h
 ·cases h
def cm (cl:Bool) (T:bD) (N:Nat) (O:TS) (L:Hp) (o:Oper):Option gI:=
 match o.op with
 | .box _ p=>match o.dst,aO O p with
  |some d,some x=>match Nat.blt d N with
    |true=>some (.push d (.own L.n 0) (.box (de x)))
    |false=>none
  |_,_=>none
 | .alloc t=>match o.dst,aP T t with
  |some d,some ⟨_,_,_,z⟩=>match Nat.blt d N with
    |true=>some (.push d (.own L.n 0) (.box ((z.map .v).map .d)))
    |false=>none
  |_,_=>none
 | .buildSlice t n parts=>match Bo O parts.toList with
  |some u=>match O.get u with
    |some x=>match bU L.e 60 [x]with
     |some ([z],ns,ms)=>some (.cZ u z ns ms)
     |_=>none
    |none=>none
  |none=>match o.dst,aP T t with
    |some d,some ⟨.slice e k,_,_,_⟩=>match aP T e with
     |some ⟨_,_,_,z'⟩=>match dY k (dE O) (fN n (z'.map .v)) parts.toList with
      |some cells=>match Nat.blt d N&&Nat.ble (n*k) 16777216&&Nat.ble 1 k with
       |true=>some (.push d (.os L.n n) (.row e k (chunk n k cells)))
       |false=>none
      |none=>none
     |none=>none
    |_,_=>none
 | .store t p v=>match o.dst with
  |some _=>none
  |none=>match BP O v with
   |some (u,x)=>match bU L.e 60 [x]with
    |some ([z],ns,ms)=>some (.cZ u z ns ms)
    |_=>none
   |none=>match aO O p,aO O v,aP T t with
    |some (.own i off),some x,some ti=>match L.e.get i with
     |some (.box cs)=>match Nat.beq (de x).length ti.size&&kU (de x),kL cs off (de x)with
      |true,some cs'=>some (.set i (.box cs') [])
      |_,_=>none
     |_=>none
    |some (.oe i n m),some (.d y),some ti=>match cl with
     |false=>none
     |true=>match L.e.get i with
      |some (.row e k rows)=>match nth rows (ru m k)with
       |some r=>match Nat.beq (bW y).length ti.size&&ek (bW y),ew r (uq m k) (bW y)with
        |true,some r'=>some (.set i (.row e k (rows.set (ru m k) r')) [(n,rows.length)])
        |_,_=>none
       |none=>none
      |_=>none
    |some (.oe _ _ _),some x,_=>match v with
     | .tmp u=>match bU L.e 60 [x]with
      |some ([z],ns,ms)=>some (.cZ u z ns ms)
      |_=>none
     |_=>none
    |_,_,_=>none
 | .makeSlice t p q=>match cl with
  |false=>none
  |true=>match o.dst,aP T t with
    |some d,some ⟨.slice e k,_,_,_⟩=>match aP T e,aO O p,aO O q with
     |some ⟨_,_,by'',z'⟩,some (.d (.v (.int _ (.ofNat l)))),some (.d (.v (.int _ (.ofNat c))))=>match Nat.blt d N&&Nat.ble (c*by'') 140737488355328&&Nat.ble l c&&Nat.ble 1 k&&Nat.ble 1 by'' with
      |true=>some (.push d (.os L.n l) (.row e k (List.replicate l (z'.map .v))))
      |false=>none
     |_,_,_=>none
    |_,_=>none
 | .call {callee:= .builtin .append,args:=as,argTypes:=ts}=>match o.dst,as.toList,ts.toList with
  |some d,[s,p],[t,t']=>match Nat.beq t t',aP T t with
    |true,some ⟨.slice e k,_,_,_⟩=>match aO O s with
     |some (.d (.v (.slice none 0 0)))=>match s with
      | .tmp u=>some (.qK u e k)
      |_=>none
     |some (.os i n)=>match cl with
      |false=>none
      |true=>match L.e.get i,DH O L k p,aP T e with
       |some (.row e' k' rows),some (rows2,ns),some ⟨_,_,by'',_⟩=>match Nat.beq e e'&&Nat.beq k k'&&Nat.ble ((rows++rows2).length*by'') 140737488355328&&fI rows2&&Nat.ble 1 k&&Nat.ble 1 by''&&Nat.blt d N with
        |true=>some (.app i d (.os i (rows++rows2).length) (.row e k (rows++rows2)) ((n,rows.length)::ns))
        |false=>none
       |_,_,_=>none
     |_=>none
    |false,some ⟨.slice e k,_,_,_⟩=>match aP T t' with
     |some ⟨.str,_,_,_⟩=>match aO O s with
      |some (.d (.v (.slice none 0 0)))=>match s with
       | .tmp u=>some (.qK u e k)
       |_=>none
      |some (.os i n)=>match cl with
       |false=>none
       |true=>match L.e.get i,aO O p,aP T e with
        |some (.row e' k' rows),some (.d (.v (.string b))),some ⟨_,_,by'',_⟩=>match Nat.beq e e'&&Nat.beq k k'&&Nat.ble ((rows++cQ b).length*by'') 140737488355328&&Nat.beq k 1&&Nat.beq by'' 1&&Nat.blt d N with
         |true=>some (.app i d (.os i (rows++cQ b).length) (.row e k (rows++cQ b)) [(n,rows.length)])
         |false=>none
        |_,_,_=>none
      |_=>none
     |_=>none
    |_,_=>none
  |_,_,_=>none
 |_=>none
theorem ON {v:Operand} {u:Nat} (h:BP O v=some (u,x)):O.get u=some x:=by
 unfold BP at h;split at h
 ·split at h
  ·rename_i hx;split at h
   ·simp only[ax,bZ]at h;obtain⟨rfl,rfl⟩:=h;exact hx
   ·cases h
  ·cases h
 ·cases h
def gI.ok (E:Env) (N K:Nat) (all rest:List Oper) (Q:DQ) (o:Oper) (O:TS) (L:Hp):gI->Prop
 | .push d x c=>DO E N K all rest Q (Tr.put 24 O d (some x)) (L.push c)
 | .set i c ns=>eqs ns/\DO E N K all rest Q O (L.set i c)
 | .app i d x c ns=>eqs ns/\DO E N K all rest Q (Tr.put 24 O d (some x)) (L.set i c)
 | .qK t e k=>DO E N K all (o::rest) Q (Tr.put 24 O t (some (.os L.n 0))) (L.push (.row e k []))
 | .cZ t z ns ms=>eqs ns/\DO E N K all (o::rest) Q (Tr.put 24 O t (some (.d z))) (gQ ms L)
theorem tD {h:gI} (hg:o.guard=none) (hh:cm cl E.T N O L o=some h) (hk:h.ok E N K all rest Q o O L):DO E N K all (o::rest) Q O L:=by
 obtain⟨dst,op,ty,pos,after,gd⟩:=o;simp only at hg;subst hg;unfold cm at hh;simp only at hh;split at hh
 ·split at hh
  ·rename_i d x hp;split at hh
   ·rename_i hlt;simp only[ax]at hh;subst hh;exact DO.rW rfl rfl hlt (wR rfl hp) hk
   ·cases hh
  ·cases hh
 ·split at hh
  ·rename_i d _ _ _ z ht;split at hh
   ·rename_i hlt;simp only[ax]at hh;subst hh;exact DO.rW rfl rfl hlt (vS rfl ht) hk
   ·cases hh
  ·cases hh
 ·rename_i t n parts;split at hh
  ·rename_i u hu;split at hh
   ·rename_i x hx;split at hh
    ·rename_i z ns ms hf;simp only[ax]at hh;subst hh;exact DO.cZ 60 hx hf hk.1 hk.2
    ·cases hh
   ·cases hh
  ·split at hh
   ·rename_i d e k _ _ _ ht;split at hh
    ·rename_i _ _ _ z' hte;split at hh
     ·rename_i cells hf;split at hh
      ·rename_i hB;simp only[ax]at hh;subst hh;simp only[bj]at hB;exact DO.lit ht hte hf hB.1.2 hB.2 hB.1.1 hk
      ·cases hh
     ·cases hh
    ·cases hh
   ·cases hh
 ·rename_i t p v;split at hh
  ·cases hh
  split at hh
  ·rename_i u x hu;split at hh
   ·rename_i z ns ms hf;simp only[ax]at hh;subst hh;exact DO.cZ 60 (ON hu) hf hk.1 hk.2
   ·cases hh
  ·split at hh
   ·rename_i i off x ti hp hv ht;split at hh
    ·rename_i cs hi;split at hh
     ·rename_i cs' hB hs;simp only[ax]at hh;subst hh;simp only[bj]at hB;exact DO.store rfl rfl rfl hp hv hi ht hB.1 hB.2 hs hk.2
     ·cases hh
    ·cases hh
   ·rename_i i n m y ti hp hv ht;split at hh
    ·cases hh
    ·split at hh
     ·rename_i e k rows hi;split at hh
      ·rename_i r hr;split at hh
       ·rename_i r' hB hs;simp only[ax]at hh;subst hh;simp only[bj]at hB;refine DO.oC (ru m k) (uq m k) rfl rfl rfl hp hv hi hk.1.1 ?_ (by rw[<-b7];exact hr) ht hB.1 hB.2 hs hk.2;have:=MW m k;rw[vw]at this;exact this.symm
       ·cases hh
      ·cases hh
     ·cases hh
   ·rename_i hp hv _;split at hh
    ·split at hh
     ·rename_i u z ns ms hf;simp only[ax]at hh;subst hh;exact DO.cZ 60 hv hf hk.1 hk.2
     ·cases hh
    ·cases hh
   ·cases hh
 ·rename_i t p q;split at hh
  ·cases hh
  ·split at hh
   ·rename_i d e k _ _ _ ht;split at hh
    ·rename_i _ _ by'' z' _ l _ c hte hp hq;split at hh
     ·rename_i hB;simp only[ax]at hh;subst hh;simp only[bj]at hB;obtain⟨⟨⟨⟨h1,h2⟩,h3⟩,h4⟩,h5⟩:=hB;exact DO.make l c (dj h2) (dj h3) hp rfl hq rfl ht hte h4 h5 h1 hk
     ·cases hh
    ·cases hh
   ·cases hh
 ·rename_i as ts;split at hh
  ·rename_i d s p t t' ha ht;obtain⟨as⟩:=as;obtain⟨ts⟩:=ts;simp only at ha ht;subst ha;subst ht;split at hh
   ·rename_i e k _ _ _ htt ht;have htt:=bg htt;subst htt;split at hh
    ·rename_i hs;split at hh
     ·rename_i u;simp only[ax]at hh;subst hh;exact DO.gR u e k hs hk
     ·cases hh
    ·rename_i i n hs;split at hh
     ·cases hh
     ·split at hh
      ·rename_i e' k' rows rows2 ns _ _ by'' _ hi hsrc hte;split at hh
       ·rename_i hB;simp only[ax]at hh;subst hh;simp only[bj]at hB;obtain⟨⟨⟨⟨⟨⟨h1,h2⟩,h3⟩,h4⟩,h5⟩,h6⟩,h7⟩:=hB;have h1:=bg h1;have h2:=bg h2;subst h1;subst h2;exact DO.append (dj h3) hs hi hk.1.1 (Ih hsrc hk.1.2) ht hte h4 h5 h6 h7 hk.2
       ·cases hh
      ·cases hh
    ·cases hh
   ·rename_i e k _ _ _ htt ht;split at hh
    ·rename_i hu;split at hh
     ·rename_i hs;split at hh
      ·rename_i u;simp only[ax]at hh;subst hh;exact DO.gR u e k hs hk
      ·cases hh
     ·rename_i i n hs;split at hh
      ·cases hh
      ·split at hh
       ·rename_i e' k' rows b _ _ by'' _ hi hsrc hte;split at hh
        ·rename_i hB;simp only[ax]at hh;subst hh;simp only[bj]at hB;obtain⟨⟨⟨⟨⟨h1,h2⟩,h3⟩,h4⟩,h5⟩,h6⟩:=hB;have h1:=bg h1;have h2:=bg h2;subst h1;subst h2;exact DO.Bp (dj h3) hs hi hk.1.1 hsrc ht hu hte h4 h5 h6 hk.2
        ·cases hh
       ·cases hh
     ·cases hh
    ·cases hh
   ·cases hh
  ·cases hh
 ·cases hh
def gI.R (L:Hp):gI->DR->Hp->Prop
 | .push _ x c=>λr L'=>r= .ret x/\L'=L.push c
 | .set i c _=>λr L'=>r= .ret (.d (.v undef))/\L'=L.set i c
 | .app i _ x c _=>λr L'=>r= .ret x/\L'=L.set i c
 | .qK _ _ _=>λ_ _=>False
 | .cZ _ _ _ _=>λ_ _=>False
def gI.KQ:gI->List (Nat×Nat)
 | .set _ _ ns=>ns
 | .app _ _ _ _ ns=>ns
 |_=>[]
def gI.fits (o:Oper):gI->Bool
 | .push d _ _=>match o.dst with
  |some d'=>Nat.beq d d'
  |none=>false
 | .set _ _ _=>o.dst.isNone
 | .app _ d _ _ _=>match o.dst with
  |some d'=>Nat.beq d d'
  |none=>false
 |_=>false
def tE:Op->Bool
 | .makeSlice _ _ _=>true
 |_=>false
theorem sY {h:gI} (hmk:tE o.op=false) (hh:cm cl E.T N O L o=some h) (hn:eqs h.KQ) (hf:h.fits o=true):bo E N o O L (h.R L):=by
 obtain⟨dst,op,ty,pos,after,gd⟩:=o;unfold cm at hh;simp only at hh;split at hh
 ·split at hh
  ·rename_i d x hp;split at hh
   ·simp only[ax]at hh;subst hh;exact bo.new rfl (wR rfl hp)
   ·cases hh
  ·cases hh
 ·split at hh
  ·rename_i d _ _ _ z ht;split at hh
   ·simp only[ax]at hh;subst hh;exact bo.new rfl (vS rfl ht)
   ·cases hh
  ·cases hh
 ·rename_i t n parts;split at hh
  ·split at hh
   ·split at hh
    ·simp only[ax]at hh;subst hh;cases hf
    ·cases hh
   ·cases hh
  ·split at hh
   ·rename_i d e k _ _ _ ht;split at hh
    ·rename_i _ _ _ z' hte;split at hh
     ·rename_i cells hfi;split at hh
      ·rename_i hB;simp only[ax]at hh;subst hh;simp only[bj]at hB;exact bo.lit rfl ht hte hfi hB.1.2 hB.2
      ·cases hh
     ·cases hh
    ·cases hh
   ·cases hh
 ·rename_i t p v;split at hh
  ·cases hh
  split at hh
  ·split at hh
   ·simp only[ax]at hh;subst hh;cases hf
   ·cases hh
  ·split at hh
   ·rename_i i off x ti hp hv ht;split at hh
    ·rename_i cs hi;split at hh
     ·rename_i cs' hB hs;simp only[ax]at hh;subst hh;simp only[bj]at hB;exact bo.store rfl hp hv hi ht hB.1 hB.2 hs
     ·cases hh
    ·cases hh
   ·rename_i i n m y ti hp hv ht;split at hh
    ·cases hh
    ·split at hh
     ·rename_i e k rows hi;split at hh
      ·rename_i r hr;split at hh
       ·rename_i r' hB hs;simp only[ax]at hh;subst hh;simp only[bj]at hB;refine bo.oC (ru m k) (uq m k) rfl hp hv hi hn.1 ?_ (by rw[<-b7];exact hr) ht hB.1 hB.2 hs;have:=MW m k;rw[vw]at this;exact this.symm
       ·cases hh
      ·cases hh
     ·cases hh
   ·split at hh
    ·split at hh
     ·simp only[ax]at hh;subst hh;cases hf
     ·cases hh
    ·cases hh
   ·cases hh
 ·simp[tE]at hmk
 ·rename_i as ts;split at hh
  ·rename_i d s p t t' ha ht;obtain⟨as⟩:=as;obtain⟨ts⟩:=ts;simp only at ha ht;subst ha;subst ht;split at hh
   ·rename_i e k _ _ _ htt ht;have htt:=bg htt;subst htt;split at hh
    ·split at hh
     ·simp only[ax]at hh;subst hh;cases hf
     ·cases hh
    ·rename_i i n hs;split at hh
     ·cases hh
     ·split at hh
      ·rename_i e' k' rows rows2 ns _ _ by'' _ hi hsrc hte;split at hh
       ·rename_i hB;simp only[ax]at hh;subst hh;simp only[bj]at hB;obtain⟨⟨⟨⟨⟨⟨h1,h2⟩,h3⟩,h4⟩,h5⟩,h6⟩,h7⟩:=hB;have h1:=bg h1;have h2:=bg h2;subst h1;subst h2;exact bo.append rfl (dj h3) hs hi hn.1 (Ih hsrc hn.2) ht hte h4 h5 h6
       ·cases hh
      ·cases hh
    ·cases hh
   ·rename_i e k _ _ _ htt ht;split at hh
    ·rename_i hu;split at hh
     ·split at hh
      ·simp only[ax]at hh;subst hh;cases hf
      ·cases hh
     ·rename_i i n hs;split at hh
      ·cases hh
      ·split at hh
       ·rename_i e' k' rows b _ _ by'' _ hi hsrc hte;split at hh
        ·rename_i hB;simp only[ax]at hh;subst hh;simp only[bj]at hB;obtain⟨⟨⟨⟨⟨h1,h2⟩,h3⟩,h4⟩,h5⟩,h6⟩:=hB;have h1:=bg h1;have h2:=bg h2;subst h1;subst h2;exact bo.Bp rfl (dj h3) hs hi hn.1 hsrc ht hu hte h4 h5
        ·cases hh
       ·cases hh
     ·cases hh
    ·cases hh
   ·cases hh
  ·cases hh
 ·cases hh
def qL (cl:Bool) (T:bD) (N:Nat):Nat->TS->Hp->Oper->Option (gI×Hp×List (Nat×Nat))
 |0,_,_,_=>none
 |f+1,O,L,o=>match cm cl T N O L o with
  |some (.qK t e k)=>match O.get t with
   |some (.d (.v (.slice none 0 0)))=>qL cl T N f (Tr.put 24 O t (some (.os L.n 0))) (L.push (.row e k [])) o
   |_=>none
  |some (.cZ t _ _ _)=>match O.get t,(tmpsOf o).contains t with
   |some x,true=>match bU L.e 60 [x]with
    |some ([z],ns,ms)=>match qL cl T N f (Tr.put 24 O t (some (.d z))) (gQ ms L) o with
     |some (h,η1,ns1)=>some (h,η1,ns++ns1)
     |none=>none
    |_=>none
   |_,_=>none
  |some h=>match h.fits o&& !tE o.op with
   |true=>some (h,L,h.KQ)
   |false=>none
  |none=>none
theorem sK:∀{f:Nat} {O:TS} {L:Hp} {h:gI} {η1:Hp} {ns:List (Nat×Nat)},qL cl E.T N f O L o=some (h,η1,ns)->eqs ns->bo E N o O L (h.R η1)
 |0,_,_,_,_,_,h,_=>by simp[qL]at h
 |f+1,O,L,h,η1,ns,hp,hn=>by
  simp only[qL]at hp;split at hp
  ·rename_i t e k hh;split at hp
   ·rename_i ht;exact bo.gR t e k ht (sK hp hn)
   ·cases hp
  ·rename_i t z' ns' ms' hh;split at hp
   ·rename_i x hx hc;split at hp
    ·rename_i z ns2 ms hfz;split at hp
     ·rename_i h' L' ns1 hp';simp only[ax,bZ]at hp;obtain⟨rfl,rfl,rfl⟩:=hp;obtain⟨g1,g2⟩:=lA hn;exact bo.cZ 60 hx hfz g1 (by simpa using hc) (sK hp' g2)
     ·cases hp
    ·cases hp
   ·cases hp
  ·rename_i h' hh;split at hp
   ·rename_i hf;simp only[ax,bZ]at hp;obtain⟨rfl,rfl,rfl⟩:=hp;simp only[bj,lu]at hf;exact sY hf.2 hh hn hf.1
   ·cases hp
  ·cases hp
mutual
def iD:AV->AV->Bool
 | .v x,.v y=>x6 x y
 | .sl k r,.sl k' r'=>Nat.beq k k'&&ri r r'
 | .agg x,.agg y=>kW x y
 | .bX x,.bX y=>kW x y
 | .ip x,.ip y=>kW x y
 | .fn f a b,.fn f' a' b'=>Nat.beq f f'&&kW a a'&&kW b b'
 | .bd t x,.bd t' y=>Nat.beq t t'&&iD x y
 |_,_=>false
def kW:List AV->List AV->Bool
 |[],[]=>true
 |x::xs,y::ys=>iD x y&&kW xs ys
 |_,_=>false
def ri:List (List AV)->List (List AV)->Bool
 |[],[]=>true
 |x::xs,y::ys=>kW x y&&ri xs ys
 |_,_=>false
end
mutual
theorem Bq:∀{x y:AV},iD x y=true->x=y
 | .v x,y,h=>by cases y<;>simp[iD]at h;rw[Ii h]
 | .sl k r,y,h=>by
  cases y<;>simp[iD]at h;rw[h.1,A1 h.2]
 | .agg x,y,h=>by cases y<;>simp[iD]at h;rw[mX h]
 | .bX x,y,h=>by cases y<;>simp[iD]at h;rw[mX h]
 | .ip x,y,h=>by cases y<;>simp[iD]at h;rw[mX h]
 | .own _ _ _,y,h=>by cases y<;>simp[iD]at h
 | .os _ _ _ _,y,h=>by cases y<;>simp[iD]at h
 | .oe _ _ _,y,h=>by cases y<;>simp[iD]at h
 | .om _ _,y,h=>by cases y<;>simp[iD]at h
 | .fn f a b,y,h=>by
  cases y<;>simp[iD]at h;rw[h.1.1,mX h.1.2,mX h.2]
 | .bd t x,y,h=>by
  cases y<;>simp[iD]at h;rw[h.1,Bq h.2]
theorem mX:∀{x y:List AV},kW x y=true->x=y
 |[],y,h=>by cases y<;>simp[kW]at h;rfl
 |x::xs,y,h=>by
  cases y<;>simp[kW]at h;rw[Bq h.1,mX h.2]
theorem A1:∀{x y:List (List AV)},ri x y=true->x=y
 |[],y,h=>by cases y<;>simp[ri]at h;rfl
 |x::xs,y,h=>by
  cases y<;>simp[ri]at h;rw[mX h.1,A1 h.2]
end
mutual
def jL:CV->CV->Bool
 | .d x,.d y=>iD x y
 | .agg x,.agg y=>my x y
 | .bX x,.bX y=>my x y
 | .own t o,.own t' o'=>Nat.beq t t'&&Nat.beq o o'
 | .os t n,.os t' n'=>Nat.beq t t'&&Nat.beq n n'
 | .oe t n o,.oe t' n' o'=>Nat.beq t t'&&Nat.beq n n'&&Nat.beq o o'
 | .om t,.om t'=>Nat.beq t t'
 | .fn f a b,.fn f' a' b'=>Nat.beq f f'&&my a a'&&my b b'
 | .bd t x,.bd t' y=>Nat.beq t t'&&jL x y
 |_,_=>false
def my:List CV->List CV->Bool
 |[],[]=>true
 |x::xs,y::ys=>jL x y&&my xs ys
 |_,_=>false
end
mutual
theorem Bn:∀{x y:CV},jL x y=true->x=y
 | .d x,y,h=>by cases y<;>simp[jL]at h;rw[Bq h]
 | .agg x,y,h=>by cases y<;>simp[jL]at h;rw[qw h]
 | .bX x,y,h=>by cases y<;>simp[jL]at h;rw[qw h]
 | .own t o,y,h=>by cases y<;>simp[jL]at h;rw[h.1,h.2]
 | .os t o,y,h=>by cases y<;>simp[jL]at h;rw[h.1,h.2]
 | .oe t n o,y,h=>by cases y<;>simp[jL]at h;rw[h.1.1,h.1.2,h.2]
 | .om t,y,h=>by cases y<;>simp[jL]at h;rw[h]
 | .fn f a b,y,h=>by cases y<;>simp[jL]at h;rw[h.1.1,qw h.1.2,qw h.2]
 | .bd t x,y,h=>by cases y<;>simp[jL]at h;rw[h.1,Bn h.2]
theorem qw:∀{x y:List CV},my x y=true->x=y
 |[],y,h=>by cases y<;>simp[my]at h;rfl
 |x::xs,y,h=>by cases y<;>simp[my]at h;rw[Bn h.1,qw h.2]
end
def kZ:aT->aT->Bool
 | .box x,.box y=>my x y
 | .row e k r,.row e' k' r'=>Nat.beq e e'&&Nat.beq k k'&&ri r r'
 |_,_=>false
theorem Ij:∀{x y:aT},kZ x y=true->x=y
 | .box x,y,h=>by cases y<;>simp[kZ]at h;rw[qw h]
 | .row e k r,y,h=>by cases y<;>simp[kZ]at h;rw[h.1.1,h.1.2,A1 h.2]
 | .map _,y,h=>by cases y<;>simp[kZ]at h
 | .kB _,y,h=>by cases y<;>simp[kZ]at h
 | .gH _ _,y,h=>by cases y<;>simp[kZ]at h
 | .set _,y,h=>by cases y<;>simp[kZ]at h
 | .jd _,y,h=>by cases y<;>simp[kZ]at h
 | .gone,y,h=>by cases y<;>simp[kZ]at h
def CX (cl:Bool) (T:bD) (N:Nat) (O:TS) (L:Hp) (o o':Oper):Option (Nat×aT×Nat×aT):=match o.dst,o'.dst,tE o.op||tE o'.op with
 |none,none,false=>match cm cl T N O L o,cm cl T N O L o' with
  |some (.set a ca n1),some (.set b cb n2)=>match cm cl T N O (L.set a ca) o',cm cl T N O (L.set b cb) o with
   |some (.set b' cb' n3),some (.set a' ca' n4)=>match Nat.beq a a'&&Nat.beq b b'&& !Nat.beq a b&&kZ ca ca'&&kZ cb cb'&&(n1++n2++n3++n4).all λp=>Nat.beq p.1 p.2 with
    |true=>some (a,ca,b,cb)
    |false=>none
   |_,_=>none
  |_,_=>none
 |_,_,_=>none
theorem sR:∀{ns:List (Nat×Nat)},(ns.all λp=>Nat.beq p.1 p.2)=true->eqs ns
 |[],_=>trivial
 |p::r,h=>by simp only[jw,bj]at h;exact⟨bg h.1,sR h.2⟩
theorem Pz {o':Oper} {a b:Nat} {ca cb:aT} (h:CX cl E.T N O L o o'=some (a,ca,b,cb)):o.dst=none/\o'.dst=none/\bo E N o O L (λr L'=>r= .ret (.d (.v undef))/\L'=L.set a ca)/\bo E N o' O (L.set a ca) (λr L'=>r= .ret (.d (.v undef))/\L'=(L.set a ca).set b cb)/\
  bo E N o' O L (λr L'=>r= .ret (.d (.v undef))/\L'=L.set b cb)/\bo E N o O (L.set b cb) (λr L'=>r= .ret (.d (.v undef))/\L'=(L.set a ca).set b cb):=by
 unfold CX at h;split at h
 ·rename_i hd hd' hm;simp only[Bool.or_eq_false_iff]at hm;split at h
  ·rename_i a1 ca1 n1 b1 cb1 n2 h1 h2;split at h
   ·rename_i b2 cb2 n3 a2 ca2 n4 h3 h4;split at h
    ·rename_i hB;simp only[ax,bZ]at h;obtain⟨rfl,rfl,rfl,rfl⟩:=h;simp only[bj,lu]at hB;obtain⟨⟨⟨⟨⟨e1,e2⟩,e3⟩,e4⟩,e5⟩,e6⟩:=hB;have e1:=bg e1;have e2:=bg e2;have e4:=Ij e4;have e5:=Ij e5;subst e1;subst e2;subst e4;subst e5;have hne:a1≠b1:=fG e3;simp only[List.all_append,bj]at e6;obtain⟨⟨⟨q1,q2⟩,q3⟩,q4⟩:=e6;refine⟨hd,hd',sY hm.1 h1 (sR q1) (by simp[gI.fits,hd]),sY hm.2 h3 (sR q3) (by simp[gI.fits,hd']),sY hm.2 h2 (sR q2) (by simp[gI.fits,hd']),(sY hm.1 h4 (sR q4) (by simp[gI.fits,hd])).mono ?_⟩;rintro r L' ⟨g1,g2⟩;refine⟨g1,g2.trans ?_⟩;simp only[Hp.set];rw[Tr.put_comm 24 L.e b1 a1 _ _ (iP hne)]
    ·cases h
   ·cases h
  ·cases h
 ·cases h
