/- The abstract machine, sixth part: its step, as a function. -/
import Derived.Test.YtnocmolegijmkaaGreatKD5
import Derived.KernelRfl
set_option linter.all false
noncomputable section
namespace Go.Bw
open Go
def wF (a b:Nat):Nat:=Nat.div a b
def AU (a b:Nat):Nat:=Nat.mod a b
def xx (cl:Bool) (T:cn) (O:TS) (L:Hp):Op->Option (CV×List (Nat×Nat))
 | .load t p=>match aY O p with
  |some (.own i off)=>match L.e.get i with
   |some (.box cs)=>match FU T t cs off with
    |some x=>some (x,[])
    |none=>none
   |some (.mx cs)=>match kx T t (cs.drop off) 0 with
    |some y=>some (.d y,[])
    |none=>none
   |_=>none
  |some (.oe i n m)=>match cl with
   |false=>none
   |true=>match L.e.get i with
    |some (.row _ k rows)=>match nth rows (wF m k)with
     |some r=>match kx T t r (AU m k)with
      |some y=>some (.d y,[(n,rows.length)])
      |none=>none
     |none=>none
    |_=>none
  |_=>none
 | .indexAddr t p ix=>match cl with
  |false=>none
  |true=>match aY O p,aY O ix,bc T t with
   |some (.os i n),some (.d (.v (.int _ (.ofNat j)))),some ⟨.slice e k,_,_,_⟩=>match L.e.get i with
    |some (.row e' k' rows)=>match Nat.beq e e'&&Nat.beq k k'&&Nat.blt j rows.length with
     |true=>some (.oe i n (j*k),[(n,rows.length)])
     |false=>none
    |some (.jJ k' rows)=>match Nat.beq k k',nth rows j with
     |true,some r=>some (.d (.ip r),[(n,rows.length)])
     |_,_=>none
    |_=>none
   |_,_,_=>none
 | .call {callee:= .builtin .len,args:=as,argTypes:=ts}=>match as.toList,ts.toList with
  |[p],[t]=>match aY O p,bc T t with
   |some (.os _ n),some ⟨.slice _ _,_,_,_⟩=>some (.d (.v (.int .i64 (n:Int))),[])
   |some (.d y),_=>match wG T t y with
    |some n=>some (.d (.v (.int .i64 n)),[])
    |none=>none
   |_,_=>none
  |_,_=>none
 |_=>none
def opI (op:Op):Nat:= @Op.rec (λ_=>Nat) (λ_=>0) (λ_=>1) (λ_ _ _=>2) (λ_=>3) (λ_ _=>4) (λ_ _=>5) (λ_ _ _=>6) (λ_ _ _ _=>7) (λ_ _=>8) (λ_ _ _=>9) (λ_=>10) (λ_=>11) (λ_=>12) (λ_ _ _ _ _=>13) (λ_ _ _=>14) (λ_ _ _=>15) (λ_ _=>16) (λ_ _=>17) (λ_ _ _=>18) (λ_ _=>19) (λ_ _=>20) (λ_ _ _=>21) (λ_ _ _ _ _=>22) (λ_ _ _=>23) (λ_ _ _=>24) (λ_ _ _=>25) (λ_ _ _=>26) (λ_ _ _ _=>27) (λ_ _ _ _=>28) (λ_ _ _=>29) (λ_ _ _ _=>30) (λ_ _=>31) (λ_ _=>32) (λ_=>33) (λ_ _ _ _=>34) (λ_ _=>35) (λ_=>36) (λ_=>37) (λ_=>38) (λ_=>39) (λ_ _=>40) (λ_ _ _=>41) (λ_ _=>42) op
def inM (m:Nat) (op:Op):Bool:=Nat.beq (Nat.land (Nat.shiftRight m (opI op)) 1) 1
def fq {D:Type} (m:Nat) (op:Op) (x:Option D):Option D:= @Bool.rec (λ_=>Option D) none x (inM m op)
theorem V2 {T:cn} {s:Sl} {op:Op}:fq 51565228327 op (cW T s op)=cW T s op:=by cases op<;>kernel_rfl
theorem V3 {T:cn} {O:TS} {op:Op}:fq 51565170727 op (px T O op)=px T O op:=by cases op<;>kernel_rfl
theorem agJ {cl:Bool} {T:cn} {O:TS} {L:Hp} {op:Op}:fq 68753031424 op (xx cl T O L op)=xx cl T O L op:=by cases op<;>kernel_rfl
theorem V4 {G:Gl} {T:cn} {s:Sl} {op:Op}:fq 33024 op (mw G T s op)=mw G T s op:=by cases op<;>kernel_rfl
theorem V5 {P:Program} {T:cn} {s:Sl} {op:Op}:fq 104865792 op (eS P T s op)=eS P T s op:=by cases op<;>kernel_rfl
theorem V6 {P:Program} {s:Sl} {op:Op}:fq 68719484928 op (fi P s op)=fi P s op:=by cases op<;>kernel_rfl
theorem af' {P:Program} {O:TS} {L:Hp} {op:Op}:fq 8192 op (sK P O L op)=sK P O L op:=by cases op<;>kernel_rfl
def KP (T:cn) (O:Sl) (op:Op):Option AV:=cW T O op
def KQ (T:cn) (O:TS) (op:Op):Option CV:=px T O op
def Wy (cl:Bool) (T:cn) (O:TS) (L:Hp) (op:Op):Option (CV×List (Nat×Nat)):=xx cl T O L op
theorem Su {T:cn} {O:Sl} {op:Op}:KP T O op=cW T O op:=by cases op<;>kernel_rfl
theorem Sv {T:cn} {O:TS} {op:Op}:KQ T O op=px T O op:=by cases op<;>kernel_rfl
theorem aeV {cl:Bool} {T:cn} {O:TS} {L:Hp} {op:Op}:Wy cl T O L op=xx cl T O L op:=by cases op<;>kernel_rfl
def eA (P:Program) (G:Gl) (T:cn) (cl:Bool) (O:TS) (L:Hp) (op:Op):Option (CV×List (Nat×Nat)):=
 match fq 51565228327 op (KP T (dS O) op)with
 |some y=>some (.d y,[])
 |none=>match fq 51565170727 op (KQ T O op)with
  |some x=>some (x,[])
  |none=>match fq 68753031424 op (Wy cl T O L op)with
   |some p=>some p
   |none=>match fq 33024 op (mw G T (dS O) op)with
    |some y=>some (.d y,[])
    |none=>match cl with
     |false=>none
     |true=>match fq 104865792 op (eS P T (dS O) op)with
      |some y=>some (.d y,[])
      |none=>match fq 68719484928 op (fi P (dS O) op)with
       |some y=>some (.d y,[])
       |none=>fq 8192 op (sK P O L op)
section
variable {E:Env} {N K:Nat} {Q:DQ} {O:TS} {L:Hp} {o:Oper} {x:CV} {all rest:List Oper} {cl:Bool}
theorem aga {ns:List (Nat×Nat)} (h:xx cl E.T O L o.op=some (x,ns)) (hn:eqs ns):bl E N o O L x:=by
 unfold xx at h;split at h
 ·rename_i t p ho;split at h
  ·rename_i i off hp;split at h
   ·rename_i cs hi;split at h
    ·rename_i y hl;simp only[aE,cR]at h;obtain⟨rfl,rfl⟩:=h;exact bl.load ho hp hi hl
    ·cases h
   ·rename_i cs hi;split at h
    ·rename_i y hl;simp only[aE,cR]at h;obtain⟨rfl,rfl⟩:=h;exact bl.agK ho hp hi hl
    ·cases h
   ·cases h
  ·rename_i i n m hp;split at h
   ·cases h
   ·split at h
    ·rename_i e k rows hi;split at h
     ·rename_i r hr;split at h
      ·rename_i y hl;simp only[aE,cR]at h;obtain⟨rfl,rfl⟩:=h;refine bl.Sx (wF m k) (AU m k) ho hp hi hn.1 ?_ (by rw[<-cM];exact hr) hl;have:=aal m k;rw[DG]at this;exact this.symm
      ·cases h
     ·cases h
    ·cases h
  ·cases h
 ·rename_i t p ix ho;split at h
  ·cases h
  ·split at h
   ·rename_i i n kd j e k _ _ _ hp hix ht;split at h
    ·rename_i e' k' rows hi;split at h
     ·rename_i hB;simp only[aE,cR]at h;obtain⟨rfl,rfl⟩:=h;simp only[bS,mD]at hB;have h1:=bQ hB.1.1;have h2:=bQ hB.1.2;subst h1;subst h2;exact bl.US j ho hp hi hn.1 ht hix rfl hB.2
     ·cases h
    ·rename_i k' rows hi;split at h
     ·rename_i r hk hr;simp only[aE,cR]at h;obtain⟨rfl,rfl⟩:=h;have hk:=bQ hk;subst hk;exact bl.ais j ho hp hi hn.1 ht hix rfl (by rw[<-cM];exact hr)
     ·cases h
    ·cases h
   ·cases h
 ·rename_i as ts ho;split at h
  ·rename_i p t h1 h2;obtain⟨as⟩:=as;obtain⟨ts⟩:=ts;simp only at h1 h2;subst h1;subst h2;split at h
   ·rename_i i n e k _ _ _ hp ht;simp only[aE,cR]at h;obtain⟨rfl,rfl⟩:=h;exact bl.len ho hp ht
   ·rename_i y _ hp;split at h
    ·rename_i n hl;simp only[aE,cR]at h;obtain⟨rfl,rfl⟩:=h;exact bl.ait ho hp hl
    ·cases h
   ·cases h
  ·cases h
 ·cases h
theorem Af {ns:List (Nat×Nat)} (h:eA E.P E.G E.T cl O L o.op=some (x,ns)) (hn:eqs ns):bl E N o O L x:=by
 unfold eA at h;simp only[Su,Sv,aeV,V2,V3,agJ,V4,V5,V6,af']at h;split at h
 ·rename_i y hy;simp only[aE,cR]at h;obtain⟨rfl,rfl⟩:=h;exact bl.cW hy
 ·split at h
  ·rename_i y hy;simp only[aE,cR]at h;obtain⟨rfl,rfl⟩:=h;exact bl.px hy
  ·split at h
   ·rename_i p hp;simp only[aE]at h;subst h;exact aga hp hn
   ·split at h
    ·rename_i y hy;simp only[aE,cR]at h;obtain⟨rfl,rfl⟩:=h;exact bl.mw hy
    ·split at h
     ·cases h
     ·split at h
      ·rename_i y hy;simp only[aE,cR]at h;obtain⟨rfl,rfl⟩:=h;exact bl.eS hy
      ·split at h
       ·rename_i y hy;simp only[aE,cR]at h;obtain⟨rfl,rfl⟩:=h;exact bl.fi hy
       ·exact bl.sK h hn
inductive jK where
 |push (d:Nat) (x:CV) (c:bC)
 |set (i:Nat) (c:bC) (ns:List (Nat×Nat))
 |app (i d:Nat) (x:CV) (c:bC) (ns:List (Nat×Nat))
 |vu (t e k:Nat)
 |cT (t:Nat) (z:AV) (ns:List (Nat×Nat)) (ms:List (Nat×bC))
def JD (O:TS):List (Nat×Operand)->Option Nat
 |[]=>none
 |(_,.tmp t)::r=>match O.get t with
  |some (.d _)=>JD O r
  |_=>some t
 |_::r=>JD O r
def Jw (O:TS):List (Nat×Operand)->Option Nat
 |[]=>none
 |(_,.tmp t)::r=>match O.get t with
  |some (.os _ _)=>some t
  |_=>Jw O r
 |_::r=>Jw O r
mutual
def agL:CV->Bool
 | .os _ _=>true
 | .agg xs=>J4 xs
 |_=>false
def J4:List CV->Bool
 |[]=>false
 |x::r=>agL x||J4 r
end
def J5 (O:TS):Operand->Option (Nat×CV)
 | .tmp u=>match O.get u with
  |some (.agg xs)=>match J4 xs with
   |true=>some (u,.agg xs)
   |false=>none
  |_=>none
 |_=>none
def KR (O:TS) (L:Hp) (k:Nat) (p:Operand):Option (List (List AV)×List (Nat×Nat)):=match aY O p with
 |some (.d (.sl k' rows))=>match Nat.beq k k' with
  |true=>some (rows,[])
  |false=>none
 |some (.d (.v (.slice none 0 0)))=>some ([],[])
 |some (.os j n)=>match L.e.get j with
  |some (.row _ k' rows)=>match Nat.beq k k' with
   |true=>some (rows,[(n,rows.length)])
   |false=>none
  |some (.jJ k' rows)=>match Nat.beq k k' with
   |true=>some (rows,[(n,rows.length)])
   |false=>none
  |_=>none
 |_=>none
theorem Sy {k:Nat} {p:Operand} {rows:List (List AV)} {ns:List (Nat×Nat)} (h:KR O L k p=some (rows,ns)) (hn:eqs ns):la E O L k p rows:=by
 unfold KR at h;split at h
 ·rename_i k' rows' hp;split at h
  ·rename_i hk;simp only[aE,cR]at h;obtain⟨rfl,rfl⟩:=h;have:=bQ hk;subst this;exact .sl hp
  ·cases h
 ·rename_i hp;simp only[aE,cR]at h;obtain⟨rfl,rfl⟩:=h;exact .nil hp
 ·rename_i j n hp;split at h
  ·rename_i e k' rows' hi;split at h
   ·rename_i hk;simp only[aE,cR]at h;obtain⟨rfl,rfl⟩:=h;have:=bQ hk;subst this;exact .row hp hi hn.1
   ·cases h
  ·rename_i k' rows' hi;split at h
   ·rename_i hk;simp only[aE,cR]at h;obtain⟨rfl,rfl⟩:=h;have:=bQ hk;subst this;exact .fz hp hi hn.1
   ·cases h
  ·cases h
 ·cases h
def cU (cl:Bool) (T:cn) (N:Nat) (O:TS) (L:Hp) (o:Oper):Option jK:=
 match o.op with
 | .box _ p=>match o.dst,aY O p with
  |some d,some x=>match Nat.blt d N with
    |true=>some (.push d (.own L.n 0) (.box (eC x)))
    |false=>none
  |_,_=>none
 | .alloc t=>match o.dst,bc T t with
  |some d,some ⟨_,_,_,z⟩=>match Nat.blt d N with
    |true=>some (.push d (.own L.n 0) (.box ((z.map .v).map .d)))
    |false=>none
  |_,_=>none
 | .buildSlice t n parts=>match JD O parts.toList with
  |some u=>match O.get u with
    |some x=>match cF L.e 60 [x]with
     |some ([z],ns,ms)=>some (.cT u z ns ms)
     |_=>none
    |none=>none
  |none=>match o.dst,bc T t with
    |some d,some ⟨.slice e k,_,_,_⟩=>match bc T e with
     |some ⟨_,_,_,z'⟩=>match fD k (dS O) (iU n (z'.map .v)) parts.toList with
      |some cells=>match Nat.blt d N&&Nat.ble (n*k) 16777216&&Nat.ble 1 k with
       |true=>some (.push d (.os L.n n) (.row e k (chunk n k cells)))
       |false=>none
      |none=>none
     |none=>none
    |_,_=>none
 | .store t p v=>match o.dst with
  |some _=>none
  |none=>match J5 O v with
   |some (u,x)=>match cF L.e 60 [x]with
    |some ([z],ns,ms)=>some (.cT u z ns ms)
    |_=>none
   |none=>match aY O p,aY O v,bc T t with
    |some (.own i off),some x,some ti=>match L.e.get i with
     |some (.box cs)=>match Nat.beq (eC x).length ti.size&&nb (eC x),mK cs off (eC x)with
      |true,some cs'=>some (.set i (.box cs') [])
      |_,_=>none
     |_=>none
    |some (.oe i n m),some (.d y),some ti=>match cl with
     |false=>none
     |true=>match L.e.get i with
      |some (.row e k rows)=>match nth rows (wF m k)with
       |some r=>match Nat.beq (cH y).length ti.size&&fc (cH y),fN r (AU m k) (cH y)with
        |true,some r'=>some (.set i (.row e k (rows.set (wF m k) r')) [(n,rows.length)])
        |_,_=>none
       |none=>none
      |_=>none
    |some (.oe _ _ _),some x,_=>match v with
     | .tmp u=>match cF L.e 60 [x]with
      |some ([z],ns,ms)=>some (.cT u z ns ms)
      |_=>none
     |_=>none
    |_,_,_=>none
 | .makeSlice t p q=>match cl with
  |false=>none
  |true=>match o.dst,bc T t with
    |some d,some ⟨.slice e k,_,_,_⟩=>match bc T e,aY O p,aY O q with
     |some ⟨_,_,by'',z'⟩,some (.d (.v (.int _ (.ofNat l)))),some (.d (.v (.int _ (.ofNat c))))=>match Nat.blt d N&&Nat.ble (c*by'') 140737488355328&&Nat.ble l c&&Nat.ble 1 k&&Nat.ble 1 by'' with
      |true=>some (.push d (.os L.n l) (.row e k (List.replicate l (z'.map .v))))
      |false=>none
     |_,_,_=>none
    |_,_=>none
 | .call {callee:= .builtin .append,args:=as,argTypes:=ts}=>match o.dst,as.toList,ts.toList with
  |some d,[s,p],[t,t']=>match Nat.beq t t',bc T t with
    |true,some ⟨.slice e k,_,_,_⟩=>match aY O s with
     |some (.d (.v (.slice none 0 0)))=>match s with
      | .tmp u=>some (.vu u e k)
      |_=>none
     |some (.os i n)=>match cl with
      |false=>none
      |true=>match L.e.get i,KR O L k p,bc T e with
       |some (.row e' k' rows),some (rows2,ns),some ⟨_,_,by'',_⟩=>match Nat.beq e e'&&Nat.beq k k'&&Nat.ble ((rows++rows2).length*by'') 140737488355328&&fU rows2&&Nat.ble 1 k&&Nat.ble 1 by''&&Nat.blt d N with
        |true=>some (.app i d (.os i (rows++rows2).length) (.row e k (rows++rows2)) ((n,rows.length)::ns))
        |false=>none
       |_,_,_=>none
     |_=>none
    |false,some ⟨.slice e k,_,_,_⟩=>match bc T t' with
     |some ⟨.str,_,_,_⟩=>match aY O s with
      |some (.d (.v (.slice none 0 0)))=>match s with
       | .tmp u=>some (.vu u e k)
       |_=>none
      |some (.os i n)=>match cl with
       |false=>none
       |true=>match L.e.get i,aY O p,bc T e with
        |some (.row e' k' rows),some (.d (.v (.string b))),some ⟨_,_,by'',_⟩=>match Nat.beq e e'&&Nat.beq k k'&&Nat.ble ((rows++dW b).length*by'') 140737488355328&&Nat.beq k 1&&Nat.beq by'' 1&&Nat.blt d N with
         |true=>some (.app i d (.os i (rows++dW b).length) (.row e k (rows++dW b)) [(n,rows.length)])
         |false=>none
        |_,_,_=>none
      |_=>none
     |_=>none
    |_,_=>none
  |_,_,_=>none
 |_=>none
theorem acj {v:Operand} {u:Nat} (h:J5 O v=some (u,x)):O.get u=some x:=by
 unfold J5 at h;split at h
 ·split at h
  ·rename_i hx;split at h
   ·simp only[aE,cR]at h;obtain⟨rfl,rfl⟩:=h;exact hx
   ·cases h
  ·cases h
 ·cases h
def jK.ok (E:Env) (N K:Nat) (all rest:List Oper) (Q:DQ) (o:Oper) (O:TS) (L:Hp):jK->Prop
 | .push d x c=>DO E N K all rest Q (Tr.put 24 O d (some x)) (L.push c)
 | .set i c ns=>eqs ns/\DO E N K all rest Q O (L.set i c)
 | .app i d x c ns=>eqs ns/\DO E N K all rest Q (Tr.put 24 O d (some x)) (L.set i c)
 | .vu t e k=>DO E N K all (o::rest) Q (Tr.put 24 O t (some (.os L.n 0))) (L.push (.row e k []))
 | .cT t z ns ms=>eqs ns/\DO E N K all (o::rest) Q (Tr.put 24 O t (some (.d z))) (jz ms L)
theorem Aj {h:jK} (hg:o.guard=none) (hh:cU cl E.T N O L o=some h) (hk:h.ok E N K all rest Q o O L):DO E N K all (o::rest) Q O L:=by
 obtain⟨dst,op,ty,pos,after,gd⟩:=o;simp only at hg;subst hg;unfold cU at hh;simp only at hh;split at hh
 ·split at hh
  ·rename_i d x hp;split at hh
   ·rename_i hlt;simp only[aE]at hh;subst hh;exact DO.xy rfl rfl hlt (EX rfl hp) hk
   ·cases hh
  ·cases hh
 ·split at hh
  ·rename_i d _ _ _ z ht;split at hh
   ·rename_i hlt;simp only[aE]at hh;subst hh;exact DO.xy rfl rfl hlt (D8 rfl ht) hk
   ·cases hh
  ·cases hh
 ·rename_i t n parts;split at hh
  ·rename_i u hu;split at hh
   ·rename_i x hx;split at hh
    ·rename_i z ns ms hf;simp only[aE]at hh;subst hh;exact DO.cT 60 hx hf hk.1 hk.2
    ·cases hh
   ·cases hh
  ·split at hh
   ·rename_i d e k _ _ _ ht;split at hh
    ·rename_i _ _ _ z' hte;split at hh
     ·rename_i cells hf;split at hh
      ·rename_i hB;simp only[aE]at hh;subst hh;simp only[bS]at hB;exact DO.lit ht hte hf hB.1.2 hB.2 hB.1.1 hk
      ·cases hh
     ·cases hh
    ·cases hh
   ·cases hh
 ·rename_i t p v;split at hh
  ·cases hh
  split at hh
  ·rename_i u x hu;split at hh
   ·rename_i z ns ms hf;simp only[aE]at hh;subst hh;exact DO.cT 60 (acj hu) hf hk.1 hk.2
   ·cases hh
  ·split at hh
   ·rename_i i off x ti hp hv ht;split at hh
    ·rename_i cs hi;split at hh
     ·rename_i cs' hB hs;simp only[aE]at hh;subst hh;simp only[bS]at hB;exact DO.store rfl rfl rfl hp hv hi ht hB.1 hB.2 hs hk.2
     ·cases hh
    ·cases hh
   ·rename_i i n m y ti hp hv ht;split at hh
    ·cases hh
    ·split at hh
     ·rename_i e k rows hi;split at hh
      ·rename_i r hr;split at hh
       ·rename_i r' hB hs;simp only[aE]at hh;subst hh;simp only[bS]at hB;refine DO.l9 (wF m k) (AU m k) rfl rfl rfl hp hv hi hk.1.1 ?_ (by rw[<-cM];exact hr) ht hB.1 hB.2 hs hk.2;have:=aal m k;rw[DG]at this;exact this.symm
       ·cases hh
      ·cases hh
     ·cases hh
   ·rename_i hp hv _;split at hh
    ·split at hh
     ·rename_i u z ns ms hf;simp only[aE]at hh;subst hh;exact DO.cT 60 hv hf hk.1 hk.2
     ·cases hh
    ·cases hh
   ·cases hh
 ·rename_i t p q;split at hh
  ·cases hh
  ·split at hh
   ·rename_i d e k _ _ _ ht;split at hh
    ·rename_i _ _ by'' z' _ l _ c hte hp hq;split at hh
     ·rename_i hB;simp only[aE]at hh;subst hh;simp only[bS]at hB;obtain⟨⟨⟨⟨h1,h2⟩,h3⟩,h4⟩,h5⟩:=hB;exact DO.make l c (eH h2) (eH h3) hp rfl hq rfl ht hte h4 h5 h1 hk
     ·cases hh
    ·cases hh
   ·cases hh
 ·rename_i as ts;split at hh
  ·rename_i d s p t t' ha ht;obtain⟨as⟩:=as;obtain⟨ts⟩:=ts;simp only at ha ht;subst ha;subst ht;split at hh
   ·rename_i e k _ _ _ htt ht;have htt:=bQ htt;subst htt;split at hh
    ·rename_i hs;split at hh
     ·rename_i u;simp only[aE]at hh;subst hh;exact DO.jW u e k hs hk
     ·cases hh
    ·rename_i i n hs;split at hh
     ·cases hh
     ·split at hh
      ·rename_i e' k' rows rows2 ns _ _ by'' _ hi hsrc hte;split at hh
       ·rename_i hB;simp only[aE]at hh;subst hh;simp only[bS]at hB;obtain⟨⟨⟨⟨⟨⟨h1,h2⟩,h3⟩,h4⟩,h5⟩,h6⟩,h7⟩:=hB;have h1:=bQ h1;have h2:=bQ h2;subst h1;subst h2;exact DO.append (eH h3) hs hi hk.1.1 (Sy hsrc hk.1.2) ht hte h4 h5 h6 h7 hk.2
       ·cases hh
      ·cases hh
    ·cases hh
   ·rename_i e k _ _ _ htt ht;split at hh
    ·rename_i hu;split at hh
     ·rename_i hs;split at hh
      ·rename_i u;simp only[aE]at hh;subst hh;exact DO.jW u e k hs hk
      ·cases hh
     ·rename_i i n hs;split at hh
      ·cases hh
      ·split at hh
       ·rename_i e' k' rows b _ _ by'' _ hi hsrc hte;split at hh
        ·rename_i hB;simp only[aE]at hh;subst hh;simp only[bS]at hB;obtain⟨⟨⟨⟨⟨h1,h2⟩,h3⟩,h4⟩,h5⟩,h6⟩:=hB;have h1:=bQ h1;have h2:=bQ h2;subst h1;subst h2;exact DO.JE (eH h3) hs hi hk.1.1 hsrc ht hu hte h4 h5 h6 hk.2
        ·cases hh
       ·cases hh
     ·cases hh
    ·cases hh
   ·cases hh
  ·cases hh
 ·cases hh
def jK.R (L:Hp):jK->DR->Hp->Prop
 | .push _ x c=>λr L'=>r= .ret x/\L'=L.push c
 | .set i c _=>λr L'=>r= .ret (.d (.v undef))/\L'=L.set i c
 | .app i _ x c _=>λr L'=>r= .ret x/\L'=L.set i c
 | .vu _ _ _=>λ_ _=>False
 | .cT _ _ _ _=>λ_ _=>False
def jK.Wz:jK->List (Nat×Nat)
 | .set _ _ ns=>ns
 | .app _ _ _ _ ns=>ns
 |_=>[]
def jK.fits (o:Oper):jK->Bool
 | .push d _ _=>match o.dst with
  |some d'=>Nat.beq d d'
  |none=>false
 | .set _ _ _=>o.dst.isNone
 | .app _ d _ _ _=>match o.dst with
  |some d'=>Nat.beq d d'
  |none=>false
 |_=>false
def Ak:Op->Bool
 | .makeSlice _ _ _=>true
 |_=>false
theorem zJ {h:jK} (hmk:Ak o.op=false) (hh:cU cl E.T N O L o=some h) (hn:eqs h.Wz) (hf:h.fits o=true):b5 E N o O L (h.R L):=by
 obtain⟨dst,op,ty,pos,after,gd⟩:=o;unfold cU at hh;simp only at hh;split at hh
 ·split at hh
  ·rename_i d x hp;split at hh
   ·simp only[aE]at hh;subst hh;exact b5.new rfl (EX rfl hp)
   ·cases hh
  ·cases hh
 ·split at hh
  ·rename_i d _ _ _ z ht;split at hh
   ·simp only[aE]at hh;subst hh;exact b5.new rfl (D8 rfl ht)
   ·cases hh
  ·cases hh
 ·rename_i t n parts;split at hh
  ·split at hh
   ·split at hh
    ·simp only[aE]at hh;subst hh;cases hf
    ·cases hh
   ·cases hh
  ·split at hh
   ·rename_i d e k _ _ _ ht;split at hh
    ·rename_i _ _ _ z' hte;split at hh
     ·rename_i cells hfi;split at hh
      ·rename_i hB;simp only[aE]at hh;subst hh;simp only[bS]at hB;exact b5.lit rfl ht hte hfi hB.1.2 hB.2
      ·cases hh
     ·cases hh
    ·cases hh
   ·cases hh
 ·rename_i t p v;split at hh
  ·cases hh
  split at hh
  ·split at hh
   ·simp only[aE]at hh;subst hh;cases hf
   ·cases hh
  ·split at hh
   ·rename_i i off x ti hp hv ht;split at hh
    ·rename_i cs hi;split at hh
     ·rename_i cs' hB hs;simp only[aE]at hh;subst hh;simp only[bS]at hB;exact b5.store rfl hp hv hi ht hB.1 hB.2 hs
     ·cases hh
    ·cases hh
   ·rename_i i n m y ti hp hv ht;split at hh
    ·cases hh
    ·split at hh
     ·rename_i e k rows hi;split at hh
      ·rename_i r hr;split at hh
       ·rename_i r' hB hs;simp only[aE]at hh;subst hh;simp only[bS]at hB;refine b5.l9 (wF m k) (AU m k) rfl hp hv hi hn.1 ?_ (by rw[<-cM];exact hr) ht hB.1 hB.2 hs;have:=aal m k;rw[DG]at this;exact this.symm
       ·cases hh
      ·cases hh
     ·cases hh
   ·split at hh
    ·split at hh
     ·simp only[aE]at hh;subst hh;cases hf
     ·cases hh
    ·cases hh
   ·cases hh
 ·simp[Ak]at hmk
 ·rename_i as ts;split at hh
  ·rename_i d s p t t' ha ht;obtain⟨as⟩:=as;obtain⟨ts⟩:=ts;simp only at ha ht;subst ha;subst ht;split at hh
   ·rename_i e k _ _ _ htt ht;have htt:=bQ htt;subst htt;split at hh
    ·split at hh
     ·simp only[aE]at hh;subst hh;cases hf
     ·cases hh
    ·rename_i i n hs;split at hh
     ·cases hh
     ·split at hh
      ·rename_i e' k' rows rows2 ns _ _ by'' _ hi hsrc hte;split at hh
       ·rename_i hB;simp only[aE]at hh;subst hh;simp only[bS]at hB;obtain⟨⟨⟨⟨⟨⟨h1,h2⟩,h3⟩,h4⟩,h5⟩,h6⟩,h7⟩:=hB;have h1:=bQ h1;have h2:=bQ h2;subst h1;subst h2;exact b5.append rfl (eH h3) hs hi hn.1 (Sy hsrc hn.2) ht hte h4 h5 h6
       ·cases hh
      ·cases hh
    ·cases hh
   ·rename_i e k _ _ _ htt ht;split at hh
    ·rename_i hu;split at hh
     ·split at hh
      ·simp only[aE]at hh;subst hh;cases hf
      ·cases hh
     ·rename_i i n hs;split at hh
      ·cases hh
      ·split at hh
       ·rename_i e' k' rows b _ _ by'' _ hi hsrc hte;split at hh
        ·rename_i hB;simp only[aE]at hh;subst hh;simp only[bS]at hB;obtain⟨⟨⟨⟨⟨h1,h2⟩,h3⟩,h4⟩,h5⟩,h6⟩:=hB;have h1:=bQ h1;have h2:=bQ h2;subst h1;subst h2;exact b5.JE rfl (eH h3) hs hi hn.1 hsrc ht hu hte h4 h5
        ·cases hh
       ·cases hh
     ·cases hh
    ·cases hh
   ·cases hh
  ·cases hh
 ·cases hh
def vw (cl:Bool) (T:cn) (N:Nat):Nat->TS->Hp->Oper->Option (jK×Hp×List (Nat×Nat))
 |0,_,_,_=>none
 |f+1,O,L,o=>match cU cl T N O L o with
  |some (.vu t e k)=>match O.get t with
   |some (.d (.v (.slice none 0 0)))=>vw cl T N f (Tr.put 24 O t (some (.os L.n 0))) (L.push (.row e k [])) o
   |_=>none
  |some (.cT t _ _ _)=>match O.get t,(tmpsOf o).contains t with
   |some x,true=>match cF L.e 60 [x]with
    |some ([z],ns,ms)=>match vw cl T N f (Tr.put 24 O t (some (.d z))) (jz ms L) o with
     |some (h,L1,ns1)=>some (h,L1,ns++ns1)
     |none=>none
    |_=>none
   |_,_=>none
  |some h=>match h.fits o&& !Ak o.op with
   |true=>some (h,L,h.Wz)
   |false=>none
  |none=>none
theorem yE:∀{f:Nat} {O:TS} {L:Hp} {h:jK} {L1:Hp} {ns:List (Nat×Nat)},vw cl E.T N f O L o=some (h,L1,ns)->eqs ns->b5 E N o O L (h.R L1)
 |0,_,_,_,_,_,h,_=>by simp[vw]at h
 |f+1,O,L,h,L1,ns,hp,hn=>by
  simp only[vw]at hp;split at hp
  ·rename_i t e k hh;split at hp
   ·rename_i ht;exact b5.jW t e k ht (yE hp hn)
   ·cases hp
  ·rename_i t z' ns' ms' hh;split at hp
   ·rename_i x hx hc;split at hp
    ·rename_i z ns2 ms hfz;split at hp
     ·rename_i h' L' ns1 hp';simp only[aE,cR]at hp;obtain⟨rfl,rfl,rfl⟩:=hp;obtain⟨g1,g2⟩:=nH hn;exact b5.cT 60 hx hfz g1 (by simpa using hc) (yE hp' g2)
     ·cases hp
    ·cases hp
   ·cases hp
  ·rename_i h' hh;split at hp
   ·rename_i hf;simp only[aE,cR]at hp;obtain⟨rfl,rfl,rfl⟩:=hp;simp only[bS,kL]at hf;exact zJ hf.2 hh hn hf.1
   ·cases hp
  ·cases hp
mutual
def kB:AV->AV->Bool
 | .v x,.v y=>F' x y
 | .sl k r,.sl k' r'=>Nat.beq k k'&&wg r r'
 | .agg x,.agg y=>nc x y
 | .bY x,.bY y=>nc x y
 | .ip x,.ip y=>nc x y
 | .fn f a b,.fn f' a' b'=>Nat.beq f f'&&nc a a'&&nc b b'
 | .bP t x,.bP t' y=>Nat.beq t t'&&kB x y
 |_,_=>false
def nc:List AV->List AV->Bool
 |[],[]=>true
 |x::xs,y::ys=>kB x y&&nc xs ys
 |_,_=>false
def wg:List (List AV)->List (List AV)->Bool
 |[],[]=>true
 |x::xs,y::ys=>nc x y&&wg xs ys
 |_,_=>false
end
mutual
theorem JF:∀{x y:AV},kB x y=true->x=y
 | .v x,y,h=>by cases y<;>simp[kB]at h;rw[Sz h]
 | .sl k r,y,h=>by
  cases y<;>simp[kB]at h;rw[h.1,IT h.2]
 | .agg x,y,h=>by cases y<;>simp[kB]at h;rw[pO h]
 | .bY x,y,h=>by cases y<;>simp[kB]at h;rw[pO h]
 | .ip x,y,h=>by cases y<;>simp[kB]at h;rw[pO h]
 | .own _ _ _,y,h=>by cases y<;>simp[kB]at h
 | .os _ _ _ _,y,h=>by cases y<;>simp[kB]at h
 | .oe _ _ _,y,h=>by cases y<;>simp[kB]at h
 | .om _ _,y,h=>by cases y<;>simp[kB]at h
 | .fn f a b,y,h=>by
  cases y<;>simp[kB]at h;rw[h.1.1,pO h.1.2,pO h.2]
 | .bP t x,y,h=>by
  cases y<;>simp[kB]at h;rw[h.1,JF h.2]
theorem pO:∀{x y:List AV},nc x y=true->x=y
 |[],y,h=>by cases y<;>simp[nc]at h;rfl
 |x::xs,y,h=>by
  cases y<;>simp[nc]at h;rw[JF h.1,pO h.2]
theorem IT:∀{x y:List (List AV)},wg x y=true->x=y
 |[],y,h=>by cases y<;>simp[wg]at h;rfl
 |x::xs,y,h=>by
  cases y<;>simp[wg]at h;rw[pO h.1,IT h.2]
end
mutual
def lS:CV->CV->Bool
 | .d x,.d y=>kB x y
 | .agg x,.agg y=>o8 x y
 | .bY x,.bY y=>o8 x y
 | .own t o,.own t' o'=>Nat.beq t t'&&Nat.beq o o'
 | .os t n,.os t' n'=>Nat.beq t t'&&Nat.beq n n'
 | .oe t n o,.oe t' n' o'=>Nat.beq t t'&&Nat.beq n n'&&Nat.beq o o'
 | .om t,.om t'=>Nat.beq t t'
 | .fn f a b,.fn f' a' b'=>Nat.beq f f'&&o8 a a'&&o8 b b'
 | .bP t x,.bP t' y=>Nat.beq t t'&&lS x y
 |_,_=>false
def o8:List CV->List CV->Bool
 |[],[]=>true
 |x::xs,y::ys=>lS x y&&o8 xs ys
 |_,_=>false
end
mutual
theorem JC:∀{x y:CV},lS x y=true->x=y
 | .d x,y,h=>by cases y<;>simp[lS]at h;rw[JF h]
 | .agg x,y,h=>by cases y<;>simp[lS]at h;rw[uq h]
 | .bY x,y,h=>by cases y<;>simp[lS]at h;rw[uq h]
 | .own t o,y,h=>by cases y<;>simp[lS]at h;rw[h.1,h.2]
 | .os t o,y,h=>by cases y<;>simp[lS]at h;rw[h.1,h.2]
 | .oe t n o,y,h=>by cases y<;>simp[lS]at h;rw[h.1.1,h.1.2,h.2]
 | .om t,y,h=>by cases y<;>simp[lS]at h;rw[h]
 | .fn f a b,y,h=>by cases y<;>simp[lS]at h;rw[h.1.1,uq h.1.2,uq h.2]
 | .bP t x,y,h=>by cases y<;>simp[lS]at h;rw[h.1,JC h.2]
theorem uq:∀{x y:List CV},o8 x y=true->x=y
 |[],y,h=>by cases y<;>simp[o8]at h;rfl
 |x::xs,y,h=>by cases y<;>simp[o8]at h;rw[JC h.1,uq h.2]
end
def nf:bC->bC->Bool
 | .box x,.box y=>o8 x y
 | .row e k r,.row e' k' r'=>Nat.beq e e'&&Nat.beq k k'&&wg r r'
 |_,_=>false
theorem SA:∀{x y:bC},nf x y=true->x=y
 | .box x,y,h=>by cases y<;>simp[nf]at h;rw[uq h]
 | .row e k r,y,h=>by cases y<;>simp[nf]at h;rw[h.1.1,h.1.2,IT h.2]
 | .map _,y,h=>by cases y<;>simp[nf]at h
 | .mx _,y,h=>by cases y<;>simp[nf]at h
 | .jJ _ _,y,h=>by cases y<;>simp[nf]at h
 | .set _,y,h=>by cases y<;>simp[nf]at h
 | .lb _,y,h=>by cases y<;>simp[nf]at h
 | .gone,y,h=>by cases y<;>simp[nf]at h
def Kt (cl:Bool) (T:cn) (N:Nat) (O:TS) (L:Hp) (o o':Oper):Option (Nat×bC×Nat×bC):=match o.dst,o'.dst,Ak o.op||Ak o'.op with
 |none,none,false=>match cU cl T N O L o,cU cl T N O L o' with
  |some (.set a ca n1),some (.set b cb n2)=>match cU cl T N O (L.set a ca) o',cU cl T N O (L.set b cb) o with
   |some (.set b' cb' n3),some (.set a' ca' n4)=>match Nat.beq a a'&&Nat.beq b b'&& !Nat.beq a b&&nf ca ca'&&nf cb cb'&&(n1++n2++n3++n4).all λp=>Nat.beq p.1 p.2 with
    |true=>some (a,ca,b,cb)
    |false=>none
   |_,_=>none
  |_,_=>none
 |_,_,_=>none
theorem zc:∀{ns:List (Nat×Nat)},(ns.all λp=>Nat.beq p.1 p.2)=true->eqs ns
 |[],_=>trivial
 |p::r,h=>by simp only[lx,bS]at h;exact⟨bQ h.1,zc h.2⟩
theorem adl {o':Oper} {a b:Nat} {ca cb:bC} (h:Kt cl E.T N O L o o'=some (a,ca,b,cb)):o.dst=none/\o'.dst=none/\b5 E N o O L (λr L'=>r= .ret (.d (.v undef))/\L'=L.set a ca)/\b5 E N o' O (L.set a ca) (λr L'=>r= .ret (.d (.v undef))/\L'=(L.set a ca).set b cb)/\
  b5 E N o' O L (λr L'=>r= .ret (.d (.v undef))/\L'=L.set b cb)/\b5 E N o O (L.set b cb) (λr L'=>r= .ret (.d (.v undef))/\L'=(L.set a ca).set b cb):=by
 unfold Kt at h;split at h
 ·rename_i hd hd' hm;simp only[Bool.or_eq_false_iff]at hm;split at h
  ·rename_i a1 ca1 n1 b1 cb1 n2 h1 h2;split at h
   ·rename_i b2 cb2 n3 a2 ca2 n4 h3 h4;split at h
    ·rename_i hB;simp only[aE,cR]at h;obtain⟨rfl,rfl,rfl,rfl⟩:=h;simp only[bS,kL]at hB;obtain⟨⟨⟨⟨⟨e1,e2⟩,e3⟩,e4⟩,e5⟩,e6⟩:=hB;have e1:=bQ e1;have e2:=bQ e2;have e4:=SA e4;have e5:=SA e5;subst e1;subst e2;subst e4;subst e5;have hne:a1≠b1:=iP e3;simp only[List.all_append,bS]at e6;obtain⟨⟨⟨q1,q2⟩,q3⟩,q4⟩:=e6;refine⟨hd,hd',zJ hm.1 h1 (zc q1) (by simp[jK.fits,hd]),zJ hm.2 h3 (zc q3) (by simp[jK.fits,hd']),zJ hm.2 h2 (zc q2) (by simp[jK.fits,hd']),(zJ hm.1 h4 (zc q4) (by simp[jK.fits,hd])).mono ?_⟩;rintro r L' ⟨g1,g2⟩;refine⟨g1,g2.trans ?_⟩;simp only[Hp.set];rw[Tr.put_comm 24 L.e b1 a1 _ _ (jm hne)]
    ·cases h
   ·cases h
  ·cases h
 ·cases h
