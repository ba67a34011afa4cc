/- The abstract machine, sixth part: its step, as a function. -/
import Derived.Test.YtnocmolegijmkaaGreatKD5
import Derived.KernelRfl
set_option linter.all false
noncomputable section
namespace Go.Bw
open Go
def vT (a b:Nat):Nat:=Nat.div a b
def Aw (a b:Nat):Nat:=Nat.mod a b
def xc (cl:Bool) (T:b8) (O:TS) (L:Hp):Op->Option (CV×List (Nat×Nat))
 | .load t p=>match aX O p with
  |some (.own i off)=>match L.e.get i with
   |some (.box cs)=>match FI T t cs off with
    |some x=>some (x,[])
    |none=>none
   |some (.l8 cs)=>match jX T t (cs.drop off) 0 with
    |some y=>some (.d y,[])
    |none=>none
   |_=>none
  |some (.oe i n m)=>match cl with
   |false=>none
   |true=>match L.e.get i with
    |some (.row _ k rows)=>match nth rows (vT m k)with
     |some r=>match jX T t r (Aw m k)with
      |some y=>some (.d y,[(n,rows.length)])
      |none=>none
     |none=>none
    |_=>none
  |_=>none
 | .indexAddr t p ix=>match cl with
  |false=>none
  |true=>match aX O p,aX O ix,bc T t with
   |some (.os i n),some (.d (.v (.int _ (.ofNat j)))),some ⟨.slice e k,_,_,_⟩=>match L.e.get i with
    |some (.row e' k' rows)=>match Nat.beq e e'&&Nat.beq k k'&&Nat.blt j rows.length with
     |true=>some (.oe i n (j*k),[(n,rows.length)])
     |false=>none
    |some (.ju k' rows)=>match Nat.beq k k',nth rows j with
     |true,some r=>some (.d (.ip r),[(n,rows.length)])
     |_,_=>none
    |_=>none
   |_,_,_=>none
 | .call {callee:= .builtin .len,args:=as,argTypes:=ts}=>match as.toList,ts.toList with
  |[p],[t]=>match aX O p,bc T t with
   |some (.os _ n),some ⟨.slice _ _,_,_,_⟩=>some (.d (.v (.int .i64 (n:Int))),[])
   |some (.d y),_=>match vU T t y with
    |some n=>some (.d (.v (.int .i64 n)),[])
    |none=>none
   |_,_=>none
  |_,_=>none
 |_=>none
def opI (op:Op):Nat:= @Op.rec (λ_=>Nat) (λ_=>0) (λ_=>1) (λ_ _ _=>2) (λ_=>3) (λ_ _=>4) (λ_ _=>5) (λ_ _ _=>6) (λ_ _ _ _=>7) (λ_ _=>8) (λ_ _ _=>9) (λ_=>10) (λ_=>11) (λ_=>12) (λ_ _ _ _ _=>13) (λ_ _ _=>14) (λ_ _ _=>15) (λ_ _=>16) (λ_ _=>17) (λ_ _ _=>18) (λ_ _=>19) (λ_ _=>20) (λ_ _ _=>21) (λ_ _ _ _ _=>22) (λ_ _ _=>23) (λ_ _ _=>24) (λ_ _ _=>25) (λ_ _ _=>26) (λ_ _ _ _=>27) (λ_ _ _ _=>28) (λ_ _ _=>29) (λ_ _ _ _=>30) (λ_ _=>31) (λ_ _=>32) (λ_=>33) (λ_ _ _ _=>34) (λ_ _=>35) (λ_=>36) (λ_=>37) (λ_=>38) (λ_=>39) (λ_ _=>40) (λ_ _ _=>41) (λ_ _=>42) op
def inM (m:Nat) (op:Op):Bool:=Nat.beq (Nat.land (Nat.shiftRight m (opI op)) 1) 1
def fc {D:Type} (m:Nat) (op:Op) (x:Option D):Option D:= @Bool.rec (λ_=>Option D) none x (inM m op)
theorem Xa {T:b8} {s:Sl} {op:Op}:fc 51565228327 op (cU T s op)=cU T s op:=by cases op<;>kernel_rfl
theorem Xb {T:b8} {O:TS} {op:Op}:fc 51565170727 op (oT T O op)=oT T O op:=by cases op<;>kernel_rfl
theorem agX {cl:Bool} {T:b8} {O:TS} {L:Hp} {op:Op}:fc 68753031424 op (xc cl T O L op)=xc cl T O L op:=by cases op<;>kernel_rfl
theorem Xc {G:Gl} {T:b8} {s:Sl} {op:Op}:fc 33024 op (l7 G T s op)=l7 G T s op:=by cases op<;>kernel_rfl
theorem Xd {P:Program} {T:b8} {s:Sl} {op:Op}:fc 104865792 op (eK P T s op)=eK P T s op:=by cases op<;>kernel_rfl
theorem Xe {P:Program} {s:Sl} {op:Op}:fc 68719484928 op (eX P s op)=eX P s op:=by cases op<;>kernel_rfl
theorem agf {P:Program} {O:TS} {L:Hp} {op:Op}:fc 8192 op (sc P O L op)=sc P O L op:=by cases op<;>kernel_rfl
def Lk (T:b8) (O:Sl) (op:Op):Option AV:=cU T O op
def Ll (T:b8) (O:TS) (op:Op):Option CV:=oT T O op
def XP (cl:Bool) (T:b8) (O:TS) (L:Hp) (op:Op):Option (CV×List (Nat×Nat)):=xc cl T O L op
theorem TF {T:b8} {O:Sl} {op:Op}:Lk T O op=cU T O op:=by cases op<;>kernel_rfl
theorem TG {T:b8} {O:TS} {op:Op}:Ll T O op=oT T O op:=by cases op<;>kernel_rfl
theorem ae3 {cl:Bool} {T:b8} {O:TS} {L:Hp} {op:Op}:XP cl T O L op=xc cl T O L op:=by cases op<;>kernel_rfl
def eb (P:Program) (G:Gl) (T:b8) (cl:Bool) (O:TS) (L:Hp) (op:Op):Option (CV×List (Nat×Nat)):=
 match fc 51565228327 op (Lk T (dK O) op)with
 |some y=>some (.d y,[])
 |none=>match fc 51565170727 op (Ll T O op)with
  |some x=>some (x,[])
  |none=>match fc 68753031424 op (XP cl T O L op)with
   |some p=>some p
   |none=>match fc 33024 op (l7 G T (dK O) op)with
    |some y=>some (.d y,[])
    |none=>match cl with
     |false=>none
     |true=>match fc 104865792 op (eK P T (dK O) op)with
      |some y=>some (.d y,[])
      |none=>match fc 68719484928 op (eX P (dK O) op)with
       |some y=>some (.d y,[])
       |none=>fc 8192 op (sc P O L op)
section
variable {E:Env} {N K:Nat} {Q:DQ} {O:TS} {L:Hp} {o:Oper} {x:CV} {all rest:List Oper} {cl:Bool}
theorem agh {ns:List (Nat×Nat)} (h:xc cl E.T O L o.op=some (x,ns)) (hn:eqs ns):bh E N o O L x:=by
 unfold xc at h;split at h
 ·rename_i t p ho;split at h
  ·rename_i i off hp;split at h
   ·rename_i cs hi;split at h
    ·rename_i y hl;simp only[aD,cM]at h;obtain⟨rfl,rfl⟩:=h;exact bh.load ho hp hi hl
    ·cases h
   ·rename_i cs hi;split at h
    ·rename_i y hl;simp only[aD,cM]at h;obtain⟨rfl,rfl⟩:=h;exact bh.agY ho hp hi hl
    ·cases h
   ·cases h
  ·rename_i i n m hp;split at h
   ·cases h
   ·split at h
    ·rename_i e k rows hi;split at h
     ·rename_i r hr;split at h
      ·rename_i y hl;simp only[aD,cM]at h;obtain⟨rfl,rfl⟩:=h;refine bh.TJ (vT m k) (Aw m k) ho hp hi hn.1 ?_ (by rw[<-cG];exact hr) hl;have:=aal m k;rw[Ds]at this;exact this.symm
      ·cases h
     ·cases h
    ·cases h
  ·cases h
 ·rename_i t p ix ho;split at h
  ·cases h
  ·split at h
   ·rename_i i n kd j e k _ _ _ hp hix ht;split at h
    ·rename_i e' k' rows hi;split at h
     ·rename_i hB;simp only[aD,cM]at h;obtain⟨rfl,rfl⟩:=h;simp only[bN,mf]at hB;have h1:=bK hB.1.1;have h2:=bK hB.1.2;subst h1;subst h2;exact bh.VX j ho hp hi hn.1 ht hix rfl hB.2
     ·cases h
    ·rename_i k' rows hi;split at h
     ·rename_i r hk hr;simp only[aD,cM]at h;obtain⟨rfl,rfl⟩:=h;have hk:=bK hk;subst hk;exact bh.aiw j ho hp hi hn.1 ht hix rfl (by rw[<-cG];exact hr)
     ·cases h
    ·cases h
   ·cases h
 ·rename_i as ts ho;split at h
  ·rename_i p t h1 h2;obtain⟨as⟩:=as;obtain⟨ts⟩:=ts;simp only at h1 h2;subst h1;subst h2;split at h
   ·rename_i i n e k _ _ _ hp ht;simp only[aD,cM]at h;obtain⟨rfl,rfl⟩:=h;exact bh.len ho hp ht
   ·rename_i y _ hp;split at h
    ·rename_i n hl;simp only[aD,cM]at h;obtain⟨rfl,rfl⟩:=h;exact bh.aix ho hp hl
    ·cases h
   ·cases h
  ·cases h
 ·cases h
theorem zI {ns:List (Nat×Nat)} (h:eb E.P E.G E.T cl O L o.op=some (x,ns)) (hn:eqs ns):bh E N o O L x:=by
 unfold eb at h;simp only[TF,TG,ae3,Xa,Xb,agX,Xc,Xd,Xe,agf]at h;split at h
 ·rename_i y hy;simp only[aD,cM]at h;obtain⟨rfl,rfl⟩:=h;exact bh.cU hy
 ·split at h
  ·rename_i y hy;simp only[aD,cM]at h;obtain⟨rfl,rfl⟩:=h;exact bh.oT hy
  ·split at h
   ·rename_i p hp;simp only[aD]at h;subst h;exact agh hp hn
   ·split at h
    ·rename_i y hy;simp only[aD,cM]at h;obtain⟨rfl,rfl⟩:=h;exact bh.l7 hy
    ·split at h
     ·cases h
     ·split at h
      ·rename_i y hy;simp only[aD,cM]at h;obtain⟨rfl,rfl⟩:=h;exact bh.eK hy
      ·split at h
       ·rename_i y hy;simp only[aD,cM]at h;obtain⟨rfl,rfl⟩:=h;exact bh.eX hy
       ·exact bh.sc h hn
inductive jv where
 |push (d:Nat) (x:CV) (c:bz)
 |set (i:Nat) (c:bz) (ns:List (Nat×Nat))
 |app (i d:Nat) (x:CV) (c:bz) (ns:List (Nat×Nat))
 |uX (t e k:Nat)
 |cO (t:Nat) (z:AV) (ns:List (Nat×Nat)) (ms:List (Nat×bz))
def Jf (O:TS):List (Nat×Operand)->Option Nat
 |[]=>none
 |(_,.tmp t)::r=>match O.get t with
  |some (.d _)=>Jf O r
  |_=>some t
 |_::r=>Jf O r
def Ja (O:TS):List (Nat×Operand)->Option Nat
 |[]=>none
 |(_,.tmp t)::r=>match O.get t with
  |some (.os _ _)=>some t
  |_=>Ja O r
 |_::r=>Ja O r
mutual
def agZ:CV->Bool
 | .os _ _=>true
 | .agg xs=>JF xs
 |_=>false
def JF:List CV->Bool
 |[]=>false
 |x::r=>agZ x||JF r
end
def JG (O:TS):Operand->Option (Nat×CV)
 | .tmp u=>match O.get u with
  |some (.agg xs)=>match JF xs with
   |true=>some (u,.agg xs)
   |false=>none
  |_=>none
 |_=>none
def Ln (O:TS) (L:Hp) (k:Nat) (p:Operand):Option (List (List AV)×List (Nat×Nat)):=match aX O p with
 |some (.d (.sl k' rows))=>match Nat.beq k k' with
  |true=>some (rows,[])
  |false=>none
 |some (.d (.v (.slice none 0 0)))=>some ([],[])
 |some (.os j n)=>match L.e.get j with
  |some (.row _ k' rows)=>match Nat.beq k k' with
   |true=>some (rows,[(n,rows.length)])
   |false=>none
  |some (.ju k' rows)=>match Nat.beq k k' with
   |true=>some (rows,[(n,rows.length)])
   |false=>none
  |_=>none
 |_=>none
theorem TL {k:Nat} {p:Operand} {rows:List (List AV)} {ns:List (Nat×Nat)} (h:Ln O L k p=some (rows,ns)) (hn:eqs ns):kE E O L k p rows:=by
 unfold Ln at h;split at h
 ·rename_i k' rows' hp;split at h
  ·rename_i hk;simp only[aD,cM]at h;obtain⟨rfl,rfl⟩:=h;have:=bK hk;subst this;exact .sl hp
  ·cases h
 ·rename_i hp;simp only[aD,cM]at h;obtain⟨rfl,rfl⟩:=h;exact .nil hp
 ·rename_i j n hp;split at h
  ·rename_i e k' rows' hi;split at h
   ·rename_i hk;simp only[aD,cM]at h;obtain⟨rfl,rfl⟩:=h;have:=bK hk;subst this;exact .row hp hi hn.1
   ·cases h
  ·rename_i k' rows' hi;split at h
   ·rename_i hk;simp only[aD,cM]at h;obtain⟨rfl,rfl⟩:=h;have:=bK hk;subst this;exact .fz hp hi hn.1
   ·cases h
  ·cases h
 ·cases h
def cR (cl:Bool) (T:b8) (N:Nat) (O:TS) (L:Hp) (o:Oper):Option jv:=
 match o.op with
 | .box _ p=>match o.dst,aX O p with
  |some d,some x=>match Nat.blt d N with
    |true=>some (.push d (.own L.n 0) (.box (eh x)))
    |false=>none
  |_,_=>none
 | .alloc t=>match o.dst,bc T t with
  |some d,some ⟨_,_,_,z⟩=>match Nat.blt d N with
    |true=>some (.push d (.own L.n 0) (.box ((z.map .v).map .d)))
    |false=>none
  |_,_=>none
 | .buildSlice t n parts=>match Jf O parts.toList with
  |some u=>match O.get u with
    |some x=>match cz L.e 60 [x]with
     |some ([z],ns,ms)=>some (.cO u z ns ms)
     |_=>none
    |none=>none
  |none=>match o.dst,bc T t with
    |some d,some ⟨.slice e k,_,_,_⟩=>match bc T e with
     |some ⟨_,_,_,z'⟩=>match fp k (dK O) (iH n (z'.map .v)) parts.toList with
      |some cells=>match Nat.blt d N&&Nat.ble (n*k) 16777216&&Nat.ble 1 k with
       |true=>some (.push d (.os L.n n) (.row e k (chunk n k cells)))
       |false=>none
      |none=>none
     |none=>none
    |_,_=>none
 | .store t p v=>match o.dst with
  |some _=>none
  |none=>match JG O v with
   |some (u,x)=>match cz L.e 60 [x]with
    |some ([z],ns,ms)=>some (.cO u z ns ms)
    |_=>none
   |none=>match aX O p,aX O v,bc T t with
    |some (.own i off),some x,some ti=>match L.e.get i with
     |some (.box cs)=>match Nat.beq (eh x).length ti.size&&mG (eh x),mm cs off (eh x)with
      |true,some cs'=>some (.set i (.box cs') [])
      |_,_=>none
     |_=>none
    |some (.oe i n m),some (.d y),some ti=>match cl with
     |false=>none
     |true=>match L.e.get i with
      |some (.row e k rows)=>match nth rows (vT m k)with
       |some r=>match Nat.beq (cA y).length ti.size&&eT (cA y),fC r (Aw m k) (cA y)with
        |true,some r'=>some (.set i (.row e k (rows.set (vT m k) r')) [(n,rows.length)])
        |_,_=>none
       |none=>none
      |_=>none
    |some (.oe _ _ _),some x,_=>match v with
     | .tmp u=>match cz L.e 60 [x]with
      |some ([z],ns,ms)=>some (.cO u z ns ms)
      |_=>none
     |_=>none
    |_,_,_=>none
 | .makeSlice t p q=>match cl with
  |false=>none
  |true=>match o.dst,bc T t with
    |some d,some ⟨.slice e k,_,_,_⟩=>match bc T e,aX O p,aX O q with
     |some ⟨_,_,by'',z'⟩,some (.d (.v (.int _ (.ofNat l)))),some (.d (.v (.int _ (.ofNat c))))=>match Nat.blt d N&&Nat.ble (c*by'') 140737488355328&&Nat.ble l c&&Nat.ble 1 k&&Nat.ble 1 by'' with
      |true=>some (.push d (.os L.n l) (.row e k (List.replicate l (z'.map .v))))
      |false=>none
     |_,_,_=>none
    |_,_=>none
 | .call {callee:= .builtin .append,args:=as,argTypes:=ts}=>match o.dst,as.toList,ts.toList with
  |some d,[s,p],[t,t']=>match Nat.beq t t',bc T t with
    |true,some ⟨.slice e k,_,_,_⟩=>match aX O s with
     |some (.d (.v (.slice none 0 0)))=>match s with
      | .tmp u=>some (.uX u e k)
      |_=>none
     |some (.os i n)=>match cl with
      |false=>none
      |true=>match L.e.get i,Ln O L k p,bc T e with
       |some (.row e' k' rows),some (rows2,ns),some ⟨_,_,by'',_⟩=>match Nat.beq e e'&&Nat.beq k k'&&Nat.ble ((rows++rows2).length*by'') 140737488355328&&fJ rows2&&Nat.ble 1 k&&Nat.ble 1 by''&&Nat.blt d N with
        |true=>some (.app i d (.os i (rows++rows2).length) (.row e k (rows++rows2)) ((n,rows.length)::ns))
        |false=>none
       |_,_,_=>none
     |_=>none
    |false,some ⟨.slice e k,_,_,_⟩=>match bc T t' with
     |some ⟨.str,_,_,_⟩=>match aX O s with
      |some (.d (.v (.slice none 0 0)))=>match s with
       | .tmp u=>some (.uX u e k)
       |_=>none
      |some (.os i n)=>match cl with
       |false=>none
       |true=>match L.e.get i,aX O p,bc T e with
        |some (.row e' k' rows),some (.d (.v (.string b))),some ⟨_,_,by'',_⟩=>match Nat.beq e e'&&Nat.beq k k'&&Nat.ble ((rows++dR b).length*by'') 140737488355328&&Nat.beq k 1&&Nat.beq by'' 1&&Nat.blt d N with
         |true=>some (.app i d (.os i (rows++dR b).length) (.row e k (rows++dR b)) [(n,rows.length)])
         |false=>none
        |_,_,_=>none
      |_=>none
     |_=>none
    |_,_=>none
  |_,_,_=>none
 |_=>none
theorem ack {v:Operand} {u:Nat} (h:JG O v=some (u,x)):O.get u=some x:=by
 unfold JG at h;split at h
 ·split at h
  ·rename_i hx;split at h
   ·simp only[aD,cM]at h;obtain⟨rfl,rfl⟩:=h;exact hx
   ·cases h
  ·cases h
 ·cases h
def jv.ok (E:Env) (N K:Nat) (all rest:List Oper) (Q:DQ) (o:Oper) (O:TS) (L:Hp):jv->Prop
 | .push d x c=>DO E N K all rest Q (Tr.put 24 O d (some x)) (L.push c)
 | .set i c ns=>eqs ns/\DO E N K all rest Q O (L.set i c)
 | .app i d x c ns=>eqs ns/\DO E N K all rest Q (Tr.put 24 O d (some x)) (L.set i c)
 | .uX t e k=>DO E N K all (o::rest) Q (Tr.put 24 O t (some (.os L.n 0))) (L.push (.row e k []))
 | .cO t z ns ms=>eqs ns/\DO E N K all (o::rest) Q (Tr.put 24 O t (some (.d z))) (je ms L)
theorem zN {h:jv} (hg:o.guard=none) (hh:cR cl E.T N O L o=some h) (hk:h.ok E N K all rest Q o O L):DO E N K all (o::rest) Q O L:=by
 obtain⟨dst,op,ty,pos,after,gd⟩:=o;simp only at hg;subst hg;unfold cR at hh;simp only at hh;split at hh
 ·split at hh
  ·rename_i d x hp;split at hh
   ·rename_i hlt;simp only[aD]at hh;subst hh;exact DO.xd rfl rfl hlt (EM rfl hp) hk
   ·cases hh
  ·cases hh
 ·split at hh
  ·rename_i d _ _ _ z ht;split at hh
   ·rename_i hlt;simp only[aD]at hh;subst hh;exact DO.xd rfl rfl hlt (DY rfl ht) hk
   ·cases hh
  ·cases hh
 ·rename_i t n parts;split at hh
  ·rename_i u hu;split at hh
   ·rename_i x hx;split at hh
    ·rename_i z ns ms hf;simp only[aD]at hh;subst hh;exact DO.cO 60 hx hf hk.1 hk.2
    ·cases hh
   ·cases hh
  ·split at hh
   ·rename_i d e k _ _ _ ht;split at hh
    ·rename_i _ _ _ z' hte;split at hh
     ·rename_i cells hf;split at hh
      ·rename_i hB;simp only[aD]at hh;subst hh;simp only[bN]at hB;exact DO.lit ht hte hf hB.1.2 hB.2 hB.1.1 hk
      ·cases hh
     ·cases hh
    ·cases hh
   ·cases hh
 ·rename_i t p v;split at hh
  ·cases hh
  split at hh
  ·rename_i u x hu;split at hh
   ·rename_i z ns ms hf;simp only[aD]at hh;subst hh;exact DO.cO 60 (ack hu) hf hk.1 hk.2
   ·cases hh
  ·split at hh
   ·rename_i i off x ti hp hv ht;split at hh
    ·rename_i cs hi;split at hh
     ·rename_i cs' hB hs;simp only[aD]at hh;subst hh;simp only[bN]at hB;exact DO.store rfl rfl rfl hp hv hi ht hB.1 hB.2 hs hk.2
     ·cases hh
    ·cases hh
   ·rename_i i n m y ti hp hv ht;split at hh
    ·cases hh
    ·split at hh
     ·rename_i e k rows hi;split at hh
      ·rename_i r hr;split at hh
       ·rename_i r' hB hs;simp only[aD]at hh;subst hh;simp only[bN]at hB;refine DO.lL (vT m k) (Aw m k) rfl rfl rfl hp hv hi hk.1.1 ?_ (by rw[<-cG];exact hr) ht hB.1 hB.2 hs hk.2;have:=aal m k;rw[Ds]at this;exact this.symm
       ·cases hh
      ·cases hh
     ·cases hh
   ·rename_i hp hv _;split at hh
    ·split at hh
     ·rename_i u z ns ms hf;simp only[aD]at hh;subst hh;exact DO.cO 60 hv hf hk.1 hk.2
     ·cases hh
    ·cases hh
   ·cases hh
 ·rename_i t p q;split at hh
  ·cases hh
  ·split at hh
   ·rename_i d e k _ _ _ ht;split at hh
    ·rename_i _ _ by'' z' _ l _ c hte hp hq;split at hh
     ·rename_i hB;simp only[aD]at hh;subst hh;simp only[bN]at hB;obtain⟨⟨⟨⟨h1,h2⟩,h3⟩,h4⟩,h5⟩:=hB;exact DO.make l c (ep h2) (ep h3) hp rfl hq rfl ht hte h4 h5 h1 hk
     ·cases hh
    ·cases hh
   ·cases hh
 ·rename_i as ts;split at hh
  ·rename_i d s p t t' ha ht;obtain⟨as⟩:=as;obtain⟨ts⟩:=ts;simp only at ha ht;subst ha;subst ht;split at hh
   ·rename_i e k _ _ _ htt ht;have htt:=bK htt;subst htt;split at hh
    ·rename_i hs;split at hh
     ·rename_i u;simp only[aD]at hh;subst hh;exact DO.jF u e k hs hk
     ·cases hh
    ·rename_i i n hs;split at hh
     ·cases hh
     ·split at hh
      ·rename_i e' k' rows rows2 ns _ _ by'' _ hi hsrc hte;split at hh
       ·rename_i hB;simp only[aD]at hh;subst hh;simp only[bN]at hB;obtain⟨⟨⟨⟨⟨⟨h1,h2⟩,h3⟩,h4⟩,h5⟩,h6⟩,h7⟩:=hB;have h1:=bK h1;have h2:=bK h2;subst h1;subst h2;exact DO.append (ep h3) hs hi hk.1.1 (TL hsrc hk.1.2) ht hte h4 h5 h6 h7 hk.2
       ·cases hh
      ·cases hh
    ·cases hh
   ·rename_i e k _ _ _ htt ht;split at hh
    ·rename_i hu;split at hh
     ·rename_i hs;split at hh
      ·rename_i u;simp only[aD]at hh;subst hh;exact DO.jF u e k hs hk
      ·cases hh
     ·rename_i i n hs;split at hh
      ·cases hh
      ·split at hh
       ·rename_i e' k' rows b _ _ by'' _ hi hsrc hte;split at hh
        ·rename_i hB;simp only[aD]at hh;subst hh;simp only[bN]at hB;obtain⟨⟨⟨⟨⟨h1,h2⟩,h3⟩,h4⟩,h5⟩,h6⟩:=hB;have h1:=bK h1;have h2:=bK h2;subst h1;subst h2;exact DO.Jg (ep h3) hs hi hk.1.1 hsrc ht hu hte h4 h5 h6 hk.2
        ·cases hh
       ·cases hh
     ·cases hh
    ·cases hh
   ·cases hh
  ·cases hh
 ·cases hh
def jv.R (L:Hp):jv->DR->Hp->Prop
 | .push _ x c=>λr L'=>r= .ret x/\L'=L.push c
 | .set i c _=>λr L'=>r= .ret (.d (.v undef))/\L'=L.set i c
 | .app i _ x c _=>λr L'=>r= .ret x/\L'=L.set i c
 | .uX _ _ _=>λ_ _=>False
 | .cO _ _ _ _=>λ_ _=>False
def jv.XQ:jv->List (Nat×Nat)
 | .set _ _ ns=>ns
 | .app _ _ _ _ ns=>ns
 |_=>[]
def jv.fits (o:Oper):jv->Bool
 | .push d _ _=>match o.dst with
  |some d'=>Nat.beq d d'
  |none=>false
 | .set _ _ _=>o.dst.isNone
 | .app _ d _ _ _=>match o.dst with
  |some d'=>Nat.beq d d'
  |none=>false
 |_=>false
def zO:Op->Bool
 | .makeSlice _ _ _=>true
 |_=>false
theorem yW {h:jv} (hmk:zO o.op=false) (hh:cR cl E.T N O L o=some h) (hn:eqs h.XQ) (hf:h.fits o=true):bR E N o O L (h.R L):=by
 obtain⟨dst,op,ty,pos,after,gd⟩:=o;unfold cR at hh;simp only at hh;split at hh
 ·split at hh
  ·rename_i d x hp;split at hh
   ·simp only[aD]at hh;subst hh;exact bR.new rfl (EM rfl hp)
   ·cases hh
  ·cases hh
 ·split at hh
  ·rename_i d _ _ _ z ht;split at hh
   ·simp only[aD]at hh;subst hh;exact bR.new rfl (DY rfl ht)
   ·cases hh
  ·cases hh
 ·rename_i t n parts;split at hh
  ·split at hh
   ·split at hh
    ·simp only[aD]at hh;subst hh;cases hf
    ·cases hh
   ·cases hh
  ·split at hh
   ·rename_i d e k _ _ _ ht;split at hh
    ·rename_i _ _ _ z' hte;split at hh
     ·rename_i cells hfi;split at hh
      ·rename_i hB;simp only[aD]at hh;subst hh;simp only[bN]at hB;exact bR.lit rfl ht hte hfi hB.1.2 hB.2
      ·cases hh
     ·cases hh
    ·cases hh
   ·cases hh
 ·rename_i t p v;split at hh
  ·cases hh
  split at hh
  ·split at hh
   ·simp only[aD]at hh;subst hh;cases hf
   ·cases hh
  ·split at hh
   ·rename_i i off x ti hp hv ht;split at hh
    ·rename_i cs hi;split at hh
     ·rename_i cs' hB hs;simp only[aD]at hh;subst hh;simp only[bN]at hB;exact bR.store rfl hp hv hi ht hB.1 hB.2 hs
     ·cases hh
    ·cases hh
   ·rename_i i n m y ti hp hv ht;split at hh
    ·cases hh
    ·split at hh
     ·rename_i e k rows hi;split at hh
      ·rename_i r hr;split at hh
       ·rename_i r' hB hs;simp only[aD]at hh;subst hh;simp only[bN]at hB;refine bR.lL (vT m k) (Aw m k) rfl hp hv hi hn.1 ?_ (by rw[<-cG];exact hr) ht hB.1 hB.2 hs;have:=aal m k;rw[Ds]at this;exact this.symm
       ·cases hh
      ·cases hh
     ·cases hh
   ·split at hh
    ·split at hh
     ·simp only[aD]at hh;subst hh;cases hf
     ·cases hh
    ·cases hh
   ·cases hh
 ·simp[zO]at hmk
 ·rename_i as ts;split at hh
  ·rename_i d s p t t' ha ht;obtain⟨as⟩:=as;obtain⟨ts⟩:=ts;simp only at ha ht;subst ha;subst ht;split at hh
   ·rename_i e k _ _ _ htt ht;have htt:=bK htt;subst htt;split at hh
    ·split at hh
     ·simp only[aD]at hh;subst hh;cases hf
     ·cases hh
    ·rename_i i n hs;split at hh
     ·cases hh
     ·split at hh
      ·rename_i e' k' rows rows2 ns _ _ by'' _ hi hsrc hte;split at hh
       ·rename_i hB;simp only[aD]at hh;subst hh;simp only[bN]at hB;obtain⟨⟨⟨⟨⟨⟨h1,h2⟩,h3⟩,h4⟩,h5⟩,h6⟩,h7⟩:=hB;have h1:=bK h1;have h2:=bK h2;subst h1;subst h2;exact bR.append rfl (ep h3) hs hi hn.1 (TL hsrc hn.2) ht hte h4 h5 h6
       ·cases hh
      ·cases hh
    ·cases hh
   ·rename_i e k _ _ _ htt ht;split at hh
    ·rename_i hu;split at hh
     ·split at hh
      ·simp only[aD]at hh;subst hh;cases hf
      ·cases hh
     ·rename_i i n hs;split at hh
      ·cases hh
      ·split at hh
       ·rename_i e' k' rows b _ _ by'' _ hi hsrc hte;split at hh
        ·rename_i hB;simp only[aD]at hh;subst hh;simp only[bN]at hB;obtain⟨⟨⟨⟨⟨h1,h2⟩,h3⟩,h4⟩,h5⟩,h6⟩:=hB;have h1:=bK h1;have h2:=bK h2;subst h1;subst h2;exact bR.Jg rfl (ep h3) hs hi hn.1 hsrc ht hu hte h4 h5
        ·cases hh
       ·cases hh
     ·cases hh
    ·cases hh
   ·cases hh
  ·cases hh
 ·cases hh
def uY (cl:Bool) (T:b8) (N:Nat):Nat->TS->Hp->Oper->Option (jv×Hp×List (Nat×Nat))
 |0,_,_,_=>none
 |f+1,O,L,o=>match cR cl T N O L o with
  |some (.uX t e k)=>match O.get t with
   |some (.d (.v (.slice none 0 0)))=>uY cl T N f (Tr.put 24 O t (some (.os L.n 0))) (L.push (.row e k [])) o
   |_=>none
  |some (.cO t _ _ _)=>match O.get t,(tmpsOf o).contains t with
   |some x,true=>match cz L.e 60 [x]with
    |some ([z],ns,ms)=>match uY cl T N f (Tr.put 24 O t (some (.d z))) (je ms L) o with
     |some (h,L1,ns1)=>some (h,L1,ns++ns1)
     |none=>none
    |_=>none
   |_,_=>none
  |some h=>match h.fits o&& !zO o.op with
   |true=>some (h,L,h.XQ)
   |false=>none
  |none=>none
theorem xP:∀{f:Nat} {O:TS} {L:Hp} {h:jv} {L1:Hp} {ns:List (Nat×Nat)},uY cl E.T N f O L o=some (h,L1,ns)->eqs ns->bR E N o O L (h.R L1)
 |0,_,_,_,_,_,h,_=>by simp[uY]at h
 |f+1,O,L,h,L1,ns,hp,hn=>by
  simp only[uY]at hp;split at hp
  ·rename_i t e k hh;split at hp
   ·rename_i ht;exact bR.jF t e k ht (xP hp hn)
   ·cases hp
  ·rename_i t z' ns' ms' hh;split at hp
   ·rename_i x hx hc;split at hp
    ·rename_i z ns2 ms hfz;split at hp
     ·rename_i h' L' ns1 hp';simp only[aD,cM]at hp;obtain⟨rfl,rfl,rfl⟩:=hp;obtain⟨g1,g2⟩:=mY hn;exact bR.cO 60 hx hfz g1 (by simpa using hc) (xP hp' g2)
     ·cases hp
    ·cases hp
   ·cases hp
  ·rename_i h' hh;split at hp
   ·rename_i hf;simp only[aD,cM]at hp;obtain⟨rfl,rfl,rfl⟩:=hp;simp only[bN,kn]at hf;exact yW hf.2 hh hn hf.1
   ·cases hp
  ·cases hp
mutual
def ka:AV->AV->Bool
 | .v x,.v y=>FW x y
 | .sl k r,.sl k' r'=>Nat.beq k k'&&vF r r'
 | .agg x,.agg y=>mI x y
 | .bQ x,.bQ y=>mI x y
 | .ip x,.ip y=>mI x y
 | .fn f a b,.fn f' a' b'=>Nat.beq f f'&&mI a a'&&mI b b'
 | .bJ t x,.bJ t' y=>Nat.beq t t'&&ka x y
 |_,_=>false
def mI:List AV->List AV->Bool
 |[],[]=>true
 |x::xs,y::ys=>ka x y&&mI xs ys
 |_,_=>false
def vF:List (List AV)->List (List AV)->Bool
 |[],[]=>true
 |x::xs,y::ys=>mI x y&&vF xs ys
 |_,_=>false
end
mutual
theorem Jh:∀{x y:AV},ka x y=true->x=y
 | .v x,y,h=>by cases y<;>simp[ka]at h;rw[TM h]
 | .sl k r,y,h=>by
  cases y<;>simp[ka]at h;rw[h.1,Iw h.2]
 | .agg x,y,h=>by cases y<;>simp[ka]at h;rw[pj h]
 | .bQ x,y,h=>by cases y<;>simp[ka]at h;rw[pj h]
 | .ip x,y,h=>by cases y<;>simp[ka]at h;rw[pj h]
 | .own _ _ _,y,h=>by cases y<;>simp[ka]at h
 | .os _ _ _ _,y,h=>by cases y<;>simp[ka]at h
 | .oe _ _ _,y,h=>by cases y<;>simp[ka]at h
 | .om _ _,y,h=>by cases y<;>simp[ka]at h
 | .fn f a b,y,h=>by
  cases y<;>simp[ka]at h;rw[h.1.1,pj h.1.2,pj h.2]
 | .bJ t x,y,h=>by
  cases y<;>simp[ka]at h;rw[h.1,Jh h.2]
theorem pj:∀{x y:List AV},mI x y=true->x=y
 |[],y,h=>by cases y<;>simp[mI]at h;rfl
 |x::xs,y,h=>by
  cases y<;>simp[mI]at h;rw[Jh h.1,pj h.2]
theorem Iw:∀{x y:List (List AV)},vF x y=true->x=y
 |[],y,h=>by cases y<;>simp[vF]at h;rfl
 |x::xs,y,h=>by
  cases y<;>simp[vF]at h;rw[pj h.1,Iw h.2]
end
mutual
def lu:CV->CV->Bool
 | .d x,.d y=>ka x y
 | .agg x,.agg y=>oE x y
 | .bQ x,.bQ y=>oE x y
 | .own t o,.own t' o'=>Nat.beq t t'&&Nat.beq o o'
 | .os t n,.os t' n'=>Nat.beq t t'&&Nat.beq n n'
 | .oe t n o,.oe t' n' o'=>Nat.beq t t'&&Nat.beq n n'&&Nat.beq o o'
 | .om t,.om t'=>Nat.beq t t'
 | .fn f a b,.fn f' a' b'=>Nat.beq f f'&&oE a a'&&oE b b'
 | .bJ t x,.bJ t' y=>Nat.beq t t'&&lu x y
 |_,_=>false
def oE:List CV->List CV->Bool
 |[],[]=>true
 |x::xs,y::ys=>lu x y&&oE xs ys
 |_,_=>false
end
mutual
theorem Je:∀{x y:CV},lu x y=true->x=y
 | .d x,y,h=>by cases y<;>simp[lu]at h;rw[Jh h]
 | .agg x,y,h=>by cases y<;>simp[lu]at h;rw[tN h]
 | .bQ x,y,h=>by cases y<;>simp[lu]at h;rw[tN h]
 | .own t o,y,h=>by cases y<;>simp[lu]at h;rw[h.1,h.2]
 | .os t o,y,h=>by cases y<;>simp[lu]at h;rw[h.1,h.2]
 | .oe t n o,y,h=>by cases y<;>simp[lu]at h;rw[h.1.1,h.1.2,h.2]
 | .om t,y,h=>by cases y<;>simp[lu]at h;rw[h]
 | .fn f a b,y,h=>by cases y<;>simp[lu]at h;rw[h.1.1,tN h.1.2,tN h.2]
 | .bJ t x,y,h=>by cases y<;>simp[lu]at h;rw[h.1,Je h.2]
theorem tN:∀{x y:List CV},oE x y=true->x=y
 |[],y,h=>by cases y<;>simp[oE]at h;rfl
 |x::xs,y,h=>by cases y<;>simp[oE]at h;rw[Je h.1,tN h.2]
end
def mJ:bz->bz->Bool
 | .box x,.box y=>oE x y
 | .row e k r,.row e' k' r'=>Nat.beq e e'&&Nat.beq k k'&&vF r r'
 |_,_=>false
theorem TN:∀{x y:bz},mJ x y=true->x=y
 | .box x,y,h=>by cases y<;>simp[mJ]at h;rw[tN h]
 | .row e k r,y,h=>by cases y<;>simp[mJ]at h;rw[h.1.1,h.1.2,Iw h.2]
 | .map _,y,h=>by cases y<;>simp[mJ]at h
 | .l8 _,y,h=>by cases y<;>simp[mJ]at h
 | .ju _ _,y,h=>by cases y<;>simp[mJ]at h
 | .set _,y,h=>by cases y<;>simp[mJ]at h
 | .kF _,y,h=>by cases y<;>simp[mJ]at h
 | .gone,y,h=>by cases y<;>simp[mJ]at h
def J7 (cl:Bool) (T:b8) (N:Nat) (O:TS) (L:Hp) (o o':Oper):Option (Nat×bz×Nat×bz):=match o.dst,o'.dst,zO o.op||zO o'.op with
 |none,none,false=>match cR cl T N O L o,cR cl T N O L o' with
  |some (.set a ca n1),some (.set b cb n2)=>match cR cl T N O (L.set a ca) o',cR cl T N O (L.set b cb) o with
   |some (.set b' cb' n3),some (.set a' ca' n4)=>match Nat.beq a a'&&Nat.beq b b'&& !Nat.beq a b&&mJ ca ca'&&mJ cb cb'&&(n1++n2++n3++n4).all λp=>Nat.beq p.1 p.2 with
    |true=>some (a,ca,b,cb)
    |false=>none
   |_,_=>none
  |_,_=>none
 |_,_,_=>none
theorem yb:∀{ns:List (Nat×Nat)},(ns.all λp=>Nat.beq p.1 p.2)=true->eqs ns
 |[],_=>trivial
 |p::r,h=>by simp only[kP,bN]at h;exact⟨bK h.1,yb h.2⟩
theorem adq {o':Oper} {a b:Nat} {ca cb:bz} (h:J7 cl E.T N O L o o'=some (a,ca,b,cb)):o.dst=none/\o'.dst=none/\bR E N o O L (λr L'=>r= .ret (.d (.v undef))/\L'=L.set a ca)/\bR E N o' O (L.set a ca) (λr L'=>r= .ret (.d (.v undef))/\L'=(L.set a ca).set b cb)/\
  bR E N o' O L (λr L'=>r= .ret (.d (.v undef))/\L'=L.set b cb)/\bR E N o O (L.set b cb) (λr L'=>r= .ret (.d (.v undef))/\L'=(L.set a ca).set b cb):=by
 unfold J7 at h;split at h
 ·rename_i hd hd' hm;simp only[Bool.or_eq_false_iff]at hm;split at h
  ·rename_i a1 ca1 n1 b1 cb1 n2 h1 h2;split at h
   ·rename_i b2 cb2 n3 a2 ca2 n4 h3 h4;split at h
    ·rename_i hB;simp only[aD,cM]at h;obtain⟨rfl,rfl,rfl,rfl⟩:=h;simp only[bN,kn]at hB;obtain⟨⟨⟨⟨⟨e1,e2⟩,e3⟩,e4⟩,e5⟩,e6⟩:=hB;have e1:=bK e1;have e2:=bK e2;have e4:=TN e4;have e5:=TN e5;subst e1;subst e2;subst e4;subst e5;have hne:a1≠b1:=iB e3;simp only[List.all_append,bN]at e6;obtain⟨⟨⟨q1,q2⟩,q3⟩,q4⟩:=e6;refine⟨hd,hd',yW hm.1 h1 (yb q1) (by simp[jv.fits,hd]),yW hm.2 h3 (yb q3) (by simp[jv.fits,hd']),yW hm.2 h2 (yb q2) (by simp[jv.fits,hd']),(yW hm.1 h4 (yb q4) (by simp[jv.fits,hd])).mono ?_⟩;rintro r L' ⟨g1,g2⟩;refine⟨g1,g2.trans ?_⟩;simp only[Hp.set];rw[Tr.put_comm 24 L.e b1 a1 _ _ (iW hne)]
    ·cases h
   ·cases h
  ·cases h
 ·cases h
