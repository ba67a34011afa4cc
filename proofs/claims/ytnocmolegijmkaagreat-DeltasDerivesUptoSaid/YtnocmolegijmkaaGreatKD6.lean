/- The abstract machine, sixth part: its step, as a function. -/
import Derived.Test.YtnocmolegijmkaaGreatKD5
import Derived.KernelRfl
set_option linter.all false
noncomputable section
namespace Go.Bw
open Go
def uM (a b:Nat):Nat:=Nat.div a b
def xH (a b:Nat):Nat:=Nat.mod a b
def vg (cl:Bool) (T:bQ) (O:TS) (L:Hp):Op->Option (CV×List (Nat×Nat))
 | .load t p=>match aV O p with
  |some (.own i off)=>match L.e.get i with
   |some (.box cs)=>match Ci T t cs off with
    |some x=>some (x,[])
    |none=>none
   |some (.lO cs)=>match jo T t (cs.drop off) 0 with
    |some y=>some (.d y,[])
    |none=>none
   |_=>none
  |some (.oe i n m)=>match cl with
   |false=>none
   |true=>match L.e.get i with
    |some (.row _ k rows)=>match nth rows (uM m k)with
     |some r=>match jo T t r (xH m k)with
      |some y=>some (.d y,[(n,rows.length)])
      |none=>none
     |none=>none
    |_=>none
  |_=>none
 | .indexAddr t p ix=>match cl with
  |false=>none
  |true=>match aV O p,aV O ix,aY T t with
   |some (.os i n),some (.d (.v (.int _ (.ofNat j)))),some ⟨.slice e k,_,_,_⟩=>match L.e.get i with
    |some (.row e' k' rows)=>match Nat.beq e e'&&Nat.beq k k'&&Nat.blt j rows.length with
     |true=>some (.oe i n (j*k),[(n,rows.length)])
     |false=>none
    |some (.iL k' rows)=>match Nat.beq k k',nth rows j with
     |true,some r=>some (.d (.ip r),[(n,rows.length)])
     |_,_=>none
    |_=>none
   |_,_,_=>none
 | .call {callee:= .builtin .len,args:=as,argTypes:=ts}=>match as.toList,ts.toList with
  |[p],[t]=>match aV O p,aY T t with
   |some (.os _ n),some ⟨.slice _ _,_,_,_⟩=>some (.d (.v (.int .i64 (n:Int))),[])
   |some (.d y),_=>match uN T t y with
    |some n=>some (.d (.v (.int .i64 n)),[])
    |none=>none
   |_,_=>none
  |_,_=>none
 |_=>none
def opI (op:Op):Nat:= @Op.rec (λ_=>Nat) (λ_=>0) (λ_=>1) (λ_ _ _=>2) (λ_=>3) (λ_ _=>4) (λ_ _=>5) (λ_ _ _=>6) (λ_ _ _ _=>7) (λ_ _=>8) (λ_ _ _=>9) (λ_=>10) (λ_=>11) (λ_=>12) (λ_ _ _ _ _=>13) (λ_ _ _=>14) (λ_ _ _=>15) (λ_ _=>16) (λ_ _=>17) (λ_ _ _=>18) (λ_ _=>19) (λ_ _=>20) (λ_ _ _=>21) (λ_ _ _ _ _=>22) (λ_ _ _=>23) (λ_ _ _=>24) (λ_ _ _=>25) (λ_ _ _=>26) (λ_ _ _ _=>27) (λ_ _ _ _=>28) (λ_ _ _=>29) (λ_ _ _ _=>30) (λ_ _=>31) (λ_ _=>32) (λ_=>33) (λ_ _ _ _=>34) (λ_ _=>35) (λ_=>36) (λ_=>37) (λ_=>38) (λ_=>39) (λ_ _=>40) (λ_ _ _=>41) (λ_ _=>42) op
def inM (m:Nat) (op:Op):Bool:=Nat.beq (Nat.land (Nat.shiftRight m (opI op)) 1) 1
def eG {D:Type} (m:Nat) (op:Op) (x:Option D):Option D:= @Bool.rec (λ_=>Option D) none x (inM m op)
theorem Ps {T:bQ} {s:Sl} {op:Op}:eG 51565228327 op (cB T s op)=cB T s op:=by cases op<;>kernel_rfl
theorem Pt {T:bQ} {O:TS} {op:Op}:eG 51565170727 op (oP T O op)=oP T O op:=by cases op<;>kernel_rfl
theorem Zz {cl:Bool} {T:bQ} {O:TS} {L:Hp} {op:Op}:eG 68753031424 op (vg cl T O L op)=vg cl T O L op:=by cases op<;>kernel_rfl
theorem Pv {G:Gl} {T:bQ} {s:Sl} {op:Op}:eG 33024 op (lN G T s op)=lN G T s op:=by cases op<;>kernel_rfl
theorem Pw {P:Program} {T:bQ} {s:Sl} {op:Op}:eG 104865792 op (ec P T s op)=ec P T s op:=by cases op<;>kernel_rfl
theorem Px {P:Program} {s:Sl} {op:Op}:eG 68719484928 op (fP P s op)=fP P s op:=by cases op<;>kernel_rfl
theorem XK {P:Program} {O:TS} {L:Hp} {op:Op}:eG 8192 op (rK P O L op)=rK P O L op:=by cases op<;>kernel_rfl
def He (T:bQ) (O:Sl) (op:Op):Option AV:=cB T O op
def Hf (T:bQ) (O:TS) (op:Op):Option CV:=oP T O op
def PY (cl:Bool) (T:bQ) (O:TS) (L:Hp) (op:Op):Option (CV×List (Nat×Nat)):=vg cl T O L op
theorem MD {T:bQ} {O:Sl} {op:Op}:He T O op=cB T O op:=by cases op<;>kernel_rfl
theorem ME {T:bQ} {O:TS} {op:Op}:Hf T O op=oP T O op:=by cases op<;>kernel_rfl
theorem WG {cl:Bool} {T:bQ} {O:TS} {L:Hp} {op:Op}:PY cl T O L op=vg cl T O L op:=by cases op<;>kernel_rfl
def dt (P:Program) (G:Gl) (T:bQ) (cl:Bool) (O:TS) (L:Hp) (op:Op):Option (CV×List (Nat×Nat)):=
 match eG 51565228327 op (He T (ee O) op)with
 |some y=>some (.d y,[])
 |none=>match eG 51565170727 op (Hf T O op)with
  |some x=>some (x,[])
  |none=>match eG 68753031424 op (PY cl T O L op)with
   |some p=>some p
   |none=>match eG 33024 op (lN G T (ee O) op)with
    |some y=>some (.d y,[])
    |none=>match cl with
     |false=>none
     |true=>match eG 104865792 op (ec P T (ee O) op)with
      |some y=>some (.d y,[])
      |none=>match eG 68719484928 op (fP P (ee O) op)with
       |some y=>some (.d y,[])
       |none=>eG 8192 op (rK P O L op)
section
variable {E:Env} {N K:Nat} {Q:DQ} {O:TS} {L:Hp} {o:Oper} {x:CV} {all rest:List Oper} {cl:Bool}
theorem XL {ns:List (Nat×Nat)} (h:vg cl E.T O L o.op=some (x,ns)) (hn:eqs ns):ba E N o O L x:=by
 unfold vg at h;split at h
 ·rename_i t p ho;split at h
  ·rename_i i off hp;split at h
   ·rename_i cs hi;split at h
    ·rename_i y hl;simp only[aE,ck]at h;obtain⟨rfl,rfl⟩:=h;exact ba.load ho hp hi hl
    ·cases h
   ·rename_i cs hi;split at h
    ·rename_i y hl;simp only[aE,ck]at h;obtain⟨rfl,rfl⟩:=h;exact ba.ZA ho hp hi hl
    ·cases h
   ·cases h
  ·rename_i i n m hp;split at h
   ·cases h
   ·split at h
    ·rename_i e k rows hi;split at h
     ·rename_i r hr;split at h
      ·rename_i y hl;simp only[aE,ck]at h;obtain⟨rfl,rfl⟩:=h;refine ba.MG (uM m k) (xH m k) ho hp hi hn.1 ?_ (by rw[<-cw];exact hr) hl;have:=S0 m k;rw[Ai]at this;exact this.symm
      ·cases h
     ·cases h
    ·cases h
  ·cases h
 ·rename_i t p ix ho;split at h
  ·cases h
  ·split at h
   ·rename_i i n kd j e k _ _ _ hp hix ht;split at h
    ·rename_i e' k' rows hi;split at h
     ·rename_i hB;simp only[aE,ck]at h;obtain⟨rfl,rfl⟩:=h;simp only[bG,lT]at hB;have h1:=bC hB.1.1;have h2:=bC hB.1.2;subst h1;subst h2;exact ba.Oa j ho hp hi hn.1 ht hix rfl hB.2
     ·cases h
    ·rename_i k' rows hi;split at h
     ·rename_i r hk hr;simp only[aE,ck]at h;obtain⟨rfl,rfl⟩:=h;have hk:=bC hk;subst hk;exact ba.aaq j ho hp hi hn.1 ht hix rfl (by rw[<-cw];exact hr)
     ·cases h
    ·cases h
   ·cases h
 ·rename_i as ts ho;split at h
  ·rename_i p t h1 h2;obtain⟨as⟩:=as;obtain⟨ts⟩:=ts;simp only at h1 h2;subst h1;subst h2;split at h
   ·rename_i i n e k _ _ _ hp ht;simp only[aE,ck]at h;obtain⟨rfl,rfl⟩:=h;exact ba.len ho hp ht
   ·rename_i y _ hp;split at h
    ·rename_i n hl;simp only[aE,ck]at h;obtain⟨rfl,rfl⟩:=h;exact ba.aar ho hp hl
    ·cases h
   ·cases h
  ·cases h
 ·cases h
theorem wW {ns:List (Nat×Nat)} (h:dt E.P E.G E.T cl O L o.op=some (x,ns)) (hn:eqs ns):ba E N o O L x:=by
 unfold dt at h;simp only[MD,ME,WG,Ps,Pt,Zz,Pv,Pw,Px,XK]at h;split at h
 ·rename_i y hy;simp only[aE,ck]at h;obtain⟨rfl,rfl⟩:=h;exact ba.cB hy
 ·split at h
  ·rename_i y hy;simp only[aE,ck]at h;obtain⟨rfl,rfl⟩:=h;exact ba.oP hy
  ·split at h
   ·rename_i p hp;simp only[aE]at h;subst h;exact XL hp hn
   ·split at h
    ·rename_i y hy;simp only[aE,ck]at h;obtain⟨rfl,rfl⟩:=h;exact ba.lN hy
    ·split at h
     ·cases h
     ·split at h
      ·rename_i y hy;simp only[aE,ck]at h;obtain⟨rfl,rfl⟩:=h;exact ba.ec hy
      ·split at h
       ·rename_i y hy;simp only[aE,ck]at h;obtain⟨rfl,rfl⟩:=h;exact ba.fP hy
       ·exact ba.rK h hn
inductive iM where
 |push (d:Nat) (x:CV) (c:bl)
 |set (i:Nat) (c:bl) (ns:List (Nat×Nat))
 |app (i d:Nat) (x:CV) (c:bl) (ns:List (Nat×Nat))
 |tQ (t e k:Nat)
 |cH (t:Nat) (z:AV) (ns:List (Nat×Nat)) (ms:List (Nat×bl))
def EZ (O:TS):List (Nat×Operand)->Option Nat
 |[]=>none
 |(_,.tmp t)::r=>match O.get t with
  |some (.d _)=>EZ O r
  |_=>some t
 |_::r=>EZ O r
def EU (O:TS):List (Nat×Operand)->Option Nat
 |[]=>none
 |(_,.tmp t)::r=>match O.get t with
  |some (.os _ _)=>some t
  |_=>EU O r
 |_::r=>EU O r
mutual
def ZB:CV->Bool
 | .os _ _=>true
 | .agg xs=>Fo xs
 |_=>false
def Fo:List CV->Bool
 |[]=>false
 |x::r=>ZB x||Fo r
end
def Fp (O:TS):Operand->Option (Nat×CV)
 | .tmp u=>match O.get u with
  |some (.agg xs)=>match Fo xs with
   |true=>some (u,.agg xs)
   |false=>none
  |_=>none
 |_=>none
def Hg (O:TS) (L:Hp) (k:Nat) (p:Operand):Option (List (List AV)×List (Nat×Nat)):=match aV O p with
 |some (.d (.sl k' rows))=>match Nat.beq k k' with
  |true=>some (rows,[])
  |false=>none
 |some (.d (.v (.slice none 0 0)))=>some ([],[])
 |some (.os j n)=>match L.e.get j with
  |some (.row _ k' rows)=>match Nat.beq k k' with
   |true=>some (rows,[(n,rows.length)])
   |false=>none
  |some (.iL k' rows)=>match Nat.beq k k' with
   |true=>some (rows,[(n,rows.length)])
   |false=>none
  |_=>none
 |_=>none
theorem MH {k:Nat} {p:Operand} {rows:List (List AV)} {ns:List (Nat×Nat)} (h:Hg O L k p=some (rows,ns)) (hn:eqs ns):lF E O L k p rows:=by
 unfold Hg at h;split at h
 ·rename_i k' rows' hp;split at h
  ·rename_i hk;simp only[aE,ck]at h;obtain⟨rfl,rfl⟩:=h;have:=bC hk;subst this;exact .sl hp
  ·cases h
 ·rename_i hp;simp only[aE,ck]at h;obtain⟨rfl,rfl⟩:=h;exact .nil hp
 ·rename_i j n hp;split at h
  ·rename_i e k' rows' hi;split at h
   ·rename_i hk;simp only[aE,ck]at h;obtain⟨rfl,rfl⟩:=h;have:=bC hk;subst this;exact .row hp hi hn.1
   ·cases h
  ·rename_i k' rows' hi;split at h
   ·rename_i hk;simp only[aE,ck]at h;obtain⟨rfl,rfl⟩:=h;have:=bC hk;subst this;exact .fz hp hi hn.1
   ·cases h
  ·cases h
 ·cases h
def cz (cl:Bool) (T:bQ) (N:Nat) (O:TS) (L:Hp) (o:Oper):Option iM:=
 match o.op with
 | .box _ p=>match o.dst,aV O p with
  |some d,some x=>match Nat.blt d N with
    |true=>some (.push d (.own L.n 0) (.box (dG x)))
    |false=>none
  |_,_=>none
 | .alloc t=>match o.dst,aY T t with
  |some d,some ⟨_,_,_,z⟩=>match Nat.blt d N with
    |true=>some (.push d (.own L.n 0) (.box ((z.map .v).map .d)))
    |false=>none
  |_,_=>none
 | .buildSlice t n parts=>match EZ O parts.toList with
  |some u=>match O.get u with
    |some x=>match cd L.e 60 [x]with
     |some ([z],ns,ms)=>some (.cH u z ns ms)
     |_=>none
    |none=>none
  |none=>match o.dst,aY T t with
    |some d,some ⟨.slice e k,_,_,_⟩=>match aY T e with
     |some ⟨_,_,_,z'⟩=>match eK k (ee O) (gK n (z'.map .v)) parts.toList with
      |some cells=>match Nat.blt d N&&Nat.ble (n*k) 16777216&&Nat.ble 1 k with
       |true=>some (.push d (.os L.n n) (.row e k (chunk n k cells)))
       |false=>none
      |none=>none
     |none=>none
    |_,_=>none
 | .store t p v=>match o.dst with
  |some _=>none
  |none=>match Fp O v with
   |some (u,x)=>match cd L.e 60 [x]with
    |some ([z],ns,ms)=>some (.cH u z ns ms)
    |_=>none
   |none=>match aV O p,aV O v,aY T t with
    |some (.own i off),some x,some ti=>match L.e.get i with
     |some (.box cs)=>match Nat.beq (dG x).length ti.size&&mq (dG x),l5 cs off (dG x)with
      |true,some cs'=>some (.set i (.box cs') [])
      |_,_=>none
     |_=>none
    |some (.oe i n m),some (.d y),some ti=>match cl with
     |false=>none
     |true=>match L.e.get i with
      |some (.row e k rows)=>match nth rows (uM m k)with
       |some r=>match Nat.beq (cg y).length ti.size&&eV (cg y),fc r (xH m k) (cg y)with
        |true,some r'=>some (.set i (.row e k (rows.set (uM m k) r')) [(n,rows.length)])
        |_,_=>none
       |none=>none
      |_=>none
    |some (.oe _ _ _),some x,_=>match v with
     | .tmp u=>match cd L.e 60 [x]with
      |some ([z],ns,ms)=>some (.cH u z ns ms)
      |_=>none
     |_=>none
    |_,_,_=>none
 | .makeSlice t p q=>match cl with
  |false=>none
  |true=>match o.dst,aY T t with
    |some d,some ⟨.slice e k,_,_,_⟩=>match aY T e,aV O p,aV O q with
     |some ⟨_,_,by'',z'⟩,some (.d (.v (.int _ (.ofNat l)))),some (.d (.v (.int _ (.ofNat c))))=>match Nat.blt d N&&Nat.ble (c*by'') 140737488355328&&Nat.ble l c&&Nat.ble 1 k&&Nat.ble 1 by'' with
      |true=>some (.push d (.os L.n l) (.row e k (List.replicate l (z'.map .v))))
      |false=>none
     |_,_,_=>none
    |_,_=>none
 | .call {callee:= .builtin .append,args:=as,argTypes:=ts}=>match o.dst,as.toList,ts.toList with
  |some d,[s,p],[t,t']=>match Nat.beq t t',aY T t with
    |true,some ⟨.slice e k,_,_,_⟩=>match aV O s with
     |some (.d (.v (.slice none 0 0)))=>match s with
      | .tmp u=>some (.tQ u e k)
      |_=>none
     |some (.os i n)=>match cl with
      |false=>none
      |true=>match L.e.get i,Hg O L k p,aY T e with
       |some (.row e' k' rows),some (rows2,ns),some ⟨_,_,by'',_⟩=>match Nat.beq e e'&&Nat.beq k k'&&Nat.ble ((rows++rows2).length*by'') 140737488355328&&gC rows2&&Nat.ble 1 k&&Nat.ble 1 by''&&Nat.blt d N with
        |true=>some (.app i d (.os i (rows++rows2).length) (.row e k (rows++rows2)) ((n,rows.length)::ns))
        |false=>none
       |_,_,_=>none
     |_=>none
    |false,some ⟨.slice e k,_,_,_⟩=>match aY T t' with
     |some ⟨.str,_,_,_⟩=>match aV O s with
      |some (.d (.v (.slice none 0 0)))=>match s with
       | .tmp u=>some (.tQ u e k)
       |_=>none
      |some (.os i n)=>match cl with
       |false=>none
       |true=>match L.e.get i,aV O p,aY T e with
        |some (.row e' k' rows),some (.d (.v (.string b))),some ⟨_,_,by'',_⟩=>match Nat.beq e e'&&Nat.beq k k'&&Nat.ble ((rows++dk b).length*by'') 140737488355328&&Nat.beq k 1&&Nat.beq by'' 1&&Nat.blt d N with
         |true=>some (.app i d (.os i (rows++dk b).length) (.row e k (rows++dk b)) [(n,rows.length)])
         |false=>none
        |_,_,_=>none
      |_=>none
     |_=>none
    |_,_=>none
  |_,_,_=>none
 |_=>none
theorem UW {v:Operand} {u:Nat} (h:Fp O v=some (u,x)):O.get u=some x:=by
 unfold Fp at h;split at h
 ·split at h
  ·rename_i hx;split at h
   ·simp only[aE,ck]at h;obtain⟨rfl,rfl⟩:=h;exact hx
   ·cases h
  ·cases h
 ·cases h
def iM.ok (E:Env) (N K:Nat) (all rest:List Oper) (Q:DQ) (o:Oper) (O:TS) (L:Hp):iM->Prop
 | .push d x c=>DO E N K all rest Q (Tr.put 24 O d (some x)) (L.push c)
 | .set i c ns=>eqs ns/\DO E N K all rest Q O (L.set i c)
 | .app i d x c ns=>eqs ns/\DO E N K all rest Q (Tr.put 24 O d (some x)) (L.set i c)
 | .tQ t e k=>DO E N K all (o::rest) Q (Tr.put 24 O t (some (.os L.n 0))) (L.push (.row e k []))
 | .cH t z ns ms=>eqs ns/\DO E N K all (o::rest) Q (Tr.put 24 O t (some (.d z))) (iR ms L)
theorem wZ {h:iM} (hg:o.guard=none) (hh:cz cl E.T N O L o=some h) (hk:h.ok E N K all rest Q o O L):DO E N K all (o::rest) Q O L:=by
 obtain⟨dst,op,ty,pos,after,gd⟩:=o;simp only at hg;subst hg;unfold cz at hh;simp only at hh;split at hh
 ·split at hh
  ·rename_i d x hp;split at hh
   ·rename_i hlt;simp only[aE]at hh;subst hh;exact DO.vh rfl rfl hlt (Bo rfl hp) hk
   ·cases hh
  ·cases hh
 ·split at hh
  ·rename_i d _ _ _ z ht;split at hh
   ·rename_i hlt;simp only[aE]at hh;subst hh;exact DO.vh rfl rfl hlt (AJ rfl ht) hk
   ·cases hh
  ·cases hh
 ·rename_i t n parts;split at hh
  ·rename_i u hu;split at hh
   ·rename_i x hx;split at hh
    ·rename_i z ns ms hf;simp only[aE]at hh;subst hh;exact DO.cH 60 hx hf hk.1 hk.2
    ·cases hh
   ·cases hh
  ·split at hh
   ·rename_i d e k _ _ _ ht;split at hh
    ·rename_i _ _ _ z' hte;split at hh
     ·rename_i cells hf;split at hh
      ·rename_i hB;simp only[aE]at hh;subst hh;simp only[bG]at hB;exact DO.lit ht hte hf hB.1.2 hB.2 hB.1.1 hk
      ·cases hh
     ·cases hh
    ·cases hh
   ·cases hh
 ·rename_i t p v;split at hh
  ·cases hh
  split at hh
  ·rename_i u x hu;split at hh
   ·rename_i z ns ms hf;simp only[aE]at hh;subst hh;exact DO.cH 60 (UW hu) hf hk.1 hk.2
   ·cases hh
  ·split at hh
   ·rename_i i off x ti hp hv ht;split at hh
    ·rename_i cs hi;split at hh
     ·rename_i cs' hB hs;simp only[aE]at hh;subst hh;simp only[bG]at hB;exact DO.store rfl rfl rfl hp hv hi ht hB.1 hB.2 hs hk.2
     ·cases hh
    ·cases hh
   ·rename_i i n m y ti hp hv ht;split at hh
    ·cases hh
    ·split at hh
     ·rename_i e k rows hi;split at hh
      ·rename_i r hr;split at hh
       ·rename_i r' hB hs;simp only[aE]at hh;subst hh;simp only[bG]at hB;refine DO.qJ (uM m k) (xH m k) rfl rfl rfl hp hv hi hk.1.1 ?_ (by rw[<-cw];exact hr) ht hB.1 hB.2 hs hk.2;have:=S0 m k;rw[Ai]at this;exact this.symm
       ·cases hh
      ·cases hh
     ·cases hh
   ·rename_i hp hv _;split at hh
    ·split at hh
     ·rename_i u z ns ms hf;simp only[aE]at hh;subst hh;exact DO.cH 60 hv hf hk.1 hk.2
     ·cases hh
    ·cases hh
   ·cases hh
 ·rename_i t p q;split at hh
  ·cases hh
  ·split at hh
   ·rename_i d e k _ _ _ ht;split at hh
    ·rename_i _ _ by'' z' _ l _ c hte hp hq;split at hh
     ·rename_i hB;simp only[aE]at hh;subst hh;simp only[bG]at hB;obtain⟨⟨⟨⟨h1,h2⟩,h3⟩,h4⟩,h5⟩:=hB;exact DO.make l c (dJ h2) (dJ h3) hp rfl hq rfl ht hte h4 h5 h1 hk
     ·cases hh
    ·cases hh
   ·cases hh
 ·rename_i as ts;split at hh
  ·rename_i d s p t t' ha ht;obtain⟨as⟩:=as;obtain⟨ts⟩:=ts;simp only at ha ht;subst ha;subst ht;split at hh
   ·rename_i e k _ _ _ htt ht;have htt:=bC htt;subst htt;split at hh
    ·rename_i hs;split at hh
     ·rename_i u;simp only[aE]at hh;subst hh;exact DO.iS u e k hs hk
     ·cases hh
    ·rename_i i n hs;split at hh
     ·cases hh
     ·split at hh
      ·rename_i e' k' rows rows2 ns _ _ by'' _ hi hsrc hte;split at hh
       ·rename_i hB;simp only[aE]at hh;subst hh;simp only[bG]at hB;obtain⟨⟨⟨⟨⟨⟨h1,h2⟩,h3⟩,h4⟩,h5⟩,h6⟩,h7⟩:=hB;have h1:=bC h1;have h2:=bC h2;subst h1;subst h2;exact DO.append (dJ h3) hs hi hk.1.1 (MH hsrc hk.1.2) ht hte h4 h5 h6 h7 hk.2
       ·cases hh
      ·cases hh
    ·cases hh
   ·rename_i e k _ _ _ htt ht;split at hh
    ·rename_i hu;split at hh
     ·rename_i hs;split at hh
      ·rename_i u;simp only[aE]at hh;subst hh;exact DO.iS u e k hs hk
      ·cases hh
     ·rename_i i n hs;split at hh
      ·cases hh
      ·split at hh
       ·rename_i e' k' rows b _ _ by'' _ hi hsrc hte;split at hh
        ·rename_i hB;simp only[aE]at hh;subst hh;simp only[bG]at hB;obtain⟨⟨⟨⟨⟨h1,h2⟩,h3⟩,h4⟩,h5⟩,h6⟩:=hB;have h1:=bC h1;have h2:=bC h2;subst h1;subst h2;exact DO.E0 (dJ h3) hs hi hk.1.1 hsrc ht hu hte h4 h5 h6 hk.2
        ·cases hh
       ·cases hh
     ·cases hh
    ·cases hh
   ·cases hh
  ·cases hh
 ·cases hh
def iM.R (L:Hp):iM->DR->Hp->Prop
 | .push _ x c=>λr L'=>r= .ret x/\L'=L.push c
 | .set i c _=>λr L'=>r= .ret (.d (.v undef))/\L'=L.set i c
 | .app i _ x c _=>λr L'=>r= .ret x/\L'=L.set i c
 | .tQ _ _ _=>λ_ _=>False
 | .cH _ _ _ _=>λ_ _=>False
def iM.PZ:iM->List (Nat×Nat)
 | .set _ _ ns=>ns
 | .app _ _ _ _ ns=>ns
 |_=>[]
def iM.fits (o:Oper):iM->Bool
 | .push d _ _=>match o.dst with
  |some d'=>Nat.beq d d'
  |none=>false
 | .set _ _ _=>o.dst.isNone
 | .app _ d _ _ _=>match o.dst with
  |some d'=>Nat.beq d d'
  |none=>false
 |_=>false
def w4:Op->Bool
 | .makeSlice _ _ _=>true
 |_=>false
theorem wH {h:iM} (hmk:w4 o.op=false) (hh:cz cl E.T N O L o=some h) (hn:eqs h.PZ) (hf:h.fits o=true):bL E N o O L (h.R L):=by
 obtain⟨dst,op,ty,pos,after,gd⟩:=o;unfold cz at hh;simp only at hh;split at hh
 ·split at hh
  ·rename_i d x hp;split at hh
   ·simp only[aE]at hh;subst hh;exact bL.new rfl (Bo rfl hp)
   ·cases hh
  ·cases hh
 ·split at hh
  ·rename_i d _ _ _ z ht;split at hh
   ·simp only[aE]at hh;subst hh;exact bL.new rfl (AJ rfl ht)
   ·cases hh
  ·cases hh
 ·rename_i t n parts;split at hh
  ·split at hh
   ·split at hh
    ·simp only[aE]at hh;subst hh;cases hf
    ·cases hh
   ·cases hh
  ·split at hh
   ·rename_i d e k _ _ _ ht;split at hh
    ·rename_i _ _ _ z' hte;split at hh
     ·rename_i cells hfi;split at hh
      ·rename_i hB;simp only[aE]at hh;subst hh;simp only[bG]at hB;exact bL.lit rfl ht hte hfi hB.1.2 hB.2
      ·cases hh
     ·cases hh
    ·cases hh
   ·cases hh
 ·rename_i t p v;split at hh
  ·cases hh
  split at hh
  ·split at hh
   ·simp only[aE]at hh;subst hh;cases hf
   ·cases hh
  ·split at hh
   ·rename_i i off x ti hp hv ht;split at hh
    ·rename_i cs hi;split at hh
     ·rename_i cs' hB hs;simp only[aE]at hh;subst hh;simp only[bG]at hB;exact bL.store rfl hp hv hi ht hB.1 hB.2 hs
     ·cases hh
    ·cases hh
   ·rename_i i n m y ti hp hv ht;split at hh
    ·cases hh
    ·split at hh
     ·rename_i e k rows hi;split at hh
      ·rename_i r hr;split at hh
       ·rename_i r' hB hs;simp only[aE]at hh;subst hh;simp only[bG]at hB;refine bL.qJ (uM m k) (xH m k) rfl hp hv hi hn.1 ?_ (by rw[<-cw];exact hr) ht hB.1 hB.2 hs;have:=S0 m k;rw[Ai]at this;exact this.symm
       ·cases hh
      ·cases hh
     ·cases hh
   ·split at hh
    ·split at hh
     ·simp only[aE]at hh;subst hh;cases hf
     ·cases hh
    ·cases hh
   ·cases hh
 ·simp[w4]at hmk
 ·rename_i as ts;split at hh
  ·rename_i d s p t t' ha ht;obtain⟨as⟩:=as;obtain⟨ts⟩:=ts;simp only at ha ht;subst ha;subst ht;split at hh
   ·rename_i e k _ _ _ htt ht;have htt:=bC htt;subst htt;split at hh
    ·split at hh
     ·simp only[aE]at hh;subst hh;cases hf
     ·cases hh
    ·rename_i i n hs;split at hh
     ·cases hh
     ·split at hh
      ·rename_i e' k' rows rows2 ns _ _ by'' _ hi hsrc hte;split at hh
       ·rename_i hB;simp only[aE]at hh;subst hh;simp only[bG]at hB;obtain⟨⟨⟨⟨⟨⟨h1,h2⟩,h3⟩,h4⟩,h5⟩,h6⟩,h7⟩:=hB;have h1:=bC h1;have h2:=bC h2;subst h1;subst h2;exact bL.append rfl (dJ h3) hs hi hn.1 (MH hsrc hn.2) ht hte h4 h5 h6
       ·cases hh
      ·cases hh
    ·cases hh
   ·rename_i e k _ _ _ htt ht;split at hh
    ·rename_i hu;split at hh
     ·split at hh
      ·simp only[aE]at hh;subst hh;cases hf
      ·cases hh
     ·rename_i i n hs;split at hh
      ·cases hh
      ·split at hh
       ·rename_i e' k' rows b _ _ by'' _ hi hsrc hte;split at hh
        ·rename_i hB;simp only[aE]at hh;subst hh;simp only[bG]at hB;obtain⟨⟨⟨⟨⟨h1,h2⟩,h3⟩,h4⟩,h5⟩,h6⟩:=hB;have h1:=bC h1;have h2:=bC h2;subst h1;subst h2;exact bL.E0 rfl (dJ h3) hs hi hn.1 hsrc ht hu hte h4 h5
        ·cases hh
       ·cases hh
     ·cases hh
    ·cases hh
   ·cases hh
  ·cases hh
 ·cases hh
def tR (cl:Bool) (T:bQ) (N:Nat):Nat->TS->Hp->Oper->Option (iM×Hp×List (Nat×Nat))
 |0,_,_,_=>none
 |f+1,O,L,o=>match cz cl T N O L o with
  |some (.tQ t e k)=>match O.get t with
   |some (.d (.v (.slice none 0 0)))=>tR cl T N f (Tr.put 24 O t (some (.os L.n 0))) (L.push (.row e k [])) o
   |_=>none
  |some (.cH t _ _ _)=>match O.get t,(tmpsOf o).contains t with
   |some x,true=>match cd L.e 60 [x]with
    |some ([z],ns,ms)=>match tR cl T N f (Tr.put 24 O t (some (.d z))) (iR ms L) o with
     |some (h,η1,ns1)=>some (h,η1,ns++ns1)
     |none=>none
    |_=>none
   |_,_=>none
  |some h=>match h.fits o&& !w4 o.op with
   |true=>some (h,L,h.PZ)
   |false=>none
  |none=>none
theorem vZ:∀{f:Nat} {O:TS} {L:Hp} {h:iM} {η1:Hp} {ns:List (Nat×Nat)},tR cl E.T N f O L o=some (h,η1,ns)->eqs ns->bL E N o O L (h.R η1)
 |0,_,_,_,_,_,h,_=>by simp[tR]at h
 |f+1,O,L,h,η1,ns,hp,hn=>by
  simp only[tR]at hp;split at hp
  ·rename_i t e k hh;split at hp
   ·rename_i ht;exact bL.iS t e k ht (vZ hp hn)
   ·cases hp
  ·rename_i t z' ns' ms' hh;split at hp
   ·rename_i x hx hc;split at hp
    ·rename_i z ns2 ms hfz;split at hp
     ·rename_i h' L' ns1 hp';simp only[aE,ck]at hp;obtain⟨rfl,rfl,rfl⟩:=hp;obtain⟨g1,g2⟩:=mS hn;exact bL.cH 60 hx hfz g1 (by simpa using hc) (vZ hp' g2)
     ·cases hp
    ·cases hp
   ·cases hp
  ·rename_i h' hh;split at hp
   ·rename_i hf;simp only[aE,ck]at hp;obtain⟨rfl,rfl,rfl⟩:=hp;simp only[bG,lU]at hf;exact wH hf.2 hh hn hf.1
   ·cases hp
  ·cases hp
mutual
def jw:AV->AV->Bool
 | .v x,.v y=>Cv x y
 | .sl k r,.sl k' r'=>Nat.beq k k'&&uD r r'
 | .agg x,.agg y=>mu x y
 | .bZ x,.bZ y=>mu x y
 | .ip x,.ip y=>mu x y
 | .fn f a b,.fn f' a' b'=>Nat.beq f f'&&mu a a'&&mu b b'
 | .bA t x,.bA t' y=>Nat.beq t t'&&jw x y
 |_,_=>false
def mu:List AV->List AV->Bool
 |[],[]=>true
 |x::xs,y::ys=>jw x y&&mu xs ys
 |_,_=>false
def uD:List (List AV)->List (List AV)->Bool
 |[],[]=>true
 |x::xs,y::ys=>mu x y&&uD xs ys
 |_,_=>false
end
mutual
theorem E1:∀{x y:AV},jw x y=true->x=y
 | .v x,y,h=>by cases y<;>simp[jw]at h;rw[MI h]
 | .sl k r,y,h=>by
  cases y<;>simp[jw]at h;rw[h.1,Ez h.2]
 | .agg x,y,h=>by cases y<;>simp[jw]at h;rw[pk h]
 | .bZ x,y,h=>by cases y<;>simp[jw]at h;rw[pk h]
 | .ip x,y,h=>by cases y<;>simp[jw]at h;rw[pk h]
 | .own _ _ _,y,h=>by cases y<;>simp[jw]at h
 | .os _ _ _ _,y,h=>by cases y<;>simp[jw]at h
 | .oe _ _ _,y,h=>by cases y<;>simp[jw]at h
 | .om _ _,y,h=>by cases y<;>simp[jw]at h
 | .fn f a b,y,h=>by
  cases y<;>simp[jw]at h;rw[h.1.1,pk h.1.2,pk h.2]
 | .bA t x,y,h=>by
  cases y<;>simp[jw]at h;rw[h.1,E1 h.2]
theorem pk:∀{x y:List AV},mu x y=true->x=y
 |[],y,h=>by cases y<;>simp[mu]at h;rfl
 |x::xs,y,h=>by
  cases y<;>simp[mu]at h;rw[E1 h.1,pk h.2]
theorem Ez:∀{x y:List (List AV)},uD x y=true->x=y
 |[],y,h=>by cases y<;>simp[uD]at h;rfl
 |x::xs,y,h=>by
  cases y<;>simp[uD]at h;rw[pk h.1,Ez h.2]
end
mutual
def kU:CV->CV->Bool
 | .d x,.d y=>jw x y
 | .agg x,.agg y=>oD x y
 | .bZ x,.bZ y=>oD x y
 | .own t o,.own t' o'=>Nat.beq t t'&&Nat.beq o o'
 | .os t n,.os t' n'=>Nat.beq t t'&&Nat.beq n n'
 | .oe t n o,.oe t' n' o'=>Nat.beq t t'&&Nat.beq n n'&&Nat.beq o o'
 | .om t,.om t'=>Nat.beq t t'
 | .fn f a b,.fn f' a' b'=>Nat.beq f f'&&oD a a'&&oD b b'
 | .bA t x,.bA t' y=>Nat.beq t t'&&kU x y
 |_,_=>false
def oD:List CV->List CV->Bool
 |[],[]=>true
 |x::xs,y::ys=>kU x y&&oD xs ys
 |_,_=>false
end
mutual
theorem EY:∀{x y:CV},kU x y=true->x=y
 | .d x,y,h=>by cases y<;>simp[kU]at h;rw[E1 h]
 | .agg x,y,h=>by cases y<;>simp[kU]at h;rw[tf h]
 | .bZ x,y,h=>by cases y<;>simp[kU]at h;rw[tf h]
 | .own t o,y,h=>by cases y<;>simp[kU]at h;rw[h.1,h.2]
 | .os t o,y,h=>by cases y<;>simp[kU]at h;rw[h.1,h.2]
 | .oe t n o,y,h=>by cases y<;>simp[kU]at h;rw[h.1.1,h.1.2,h.2]
 | .om t,y,h=>by cases y<;>simp[kU]at h;rw[h]
 | .fn f a b,y,h=>by cases y<;>simp[kU]at h;rw[h.1.1,tf h.1.2,tf h.2]
 | .bA t x,y,h=>by cases y<;>simp[kU]at h;rw[h.1,EY h.2]
theorem tf:∀{x y:List CV},oD x y=true->x=y
 |[],y,h=>by cases y<;>simp[oD]at h;rfl
 |x::xs,y,h=>by cases y<;>simp[oD]at h;rw[EY h.1,tf h.2]
end
def mx:bl->bl->Bool
 | .box x,.box y=>oD x y
 | .row e k r,.row e' k' r'=>Nat.beq e e'&&Nat.beq k k'&&uD r r'
 |_,_=>false
theorem MJ:∀{x y:bl},mx x y=true->x=y
 | .box x,y,h=>by cases y<;>simp[mx]at h;rw[tf h]
 | .row e k r,y,h=>by cases y<;>simp[mx]at h;rw[h.1.1,h.1.2,Ez h.2]
 | .map _,y,h=>by cases y<;>simp[mx]at h
 | .lO _,y,h=>by cases y<;>simp[mx]at h
 | .iL _ _,y,h=>by cases y<;>simp[mx]at h
 | .set _,y,h=>by cases y<;>simp[mx]at h
 | .jW _,y,h=>by cases y<;>simp[mx]at h
 | .gone,y,h=>by cases y<;>simp[mx]at h
def GC (cl:Bool) (T:bQ) (N:Nat) (O:TS) (L:Hp) (o o':Oper):Option (Nat×bl×Nat×bl):=match o.dst,o'.dst,w4 o.op||w4 o'.op with
 |none,none,false=>match cz cl T N O L o,cz cl T N O L o' with
  |some (.set a ca n1),some (.set b cb n2)=>match cz cl T N O (L.set a ca) o',cz cl T N O (L.set b cb) o with
   |some (.set b' cb' n3),some (.set a' ca' n4)=>match Nat.beq a a'&&Nat.beq b b'&& !Nat.beq a b&&mx ca ca'&&mx cb cb'&&(n1++n2++n3++n4).all λp=>Nat.beq p.1 p.2 with
    |true=>some (a,ca,b,cb)
    |false=>none
   |_,_=>none
  |_,_=>none
 |_,_,_=>none
theorem wo:∀{ns:List (Nat×Nat)},(ns.all λp=>Nat.beq p.1 p.2)=true->eqs ns
 |[],_=>trivial
 |p::r,h=>by simp only[kx,bG]at h;exact⟨bC h.1,wo h.2⟩
theorem VI {o':Oper} {a b:Nat} {ca cb:bl} (h:GC cl E.T N O L o o'=some (a,ca,b,cb)):o.dst=none/\o'.dst=none/\bL E N o O L (λr L'=>r= .ret (.d (.v undef))/\L'=L.set a ca)/\bL E N o' O (L.set a ca) (λr L'=>r= .ret (.d (.v undef))/\L'=(L.set a ca).set b cb)/\
  bL E N o' O L (λr L'=>r= .ret (.d (.v undef))/\L'=L.set b cb)/\bL E N o O (L.set b cb) (λr L'=>r= .ret (.d (.v undef))/\L'=(L.set a ca).set b cb):=by
 unfold GC at h;split at h
 ·rename_i hd hd' hm;simp only[Bool.or_eq_false_iff]at hm;split at h
  ·rename_i a1 ca1 n1 b1 cb1 n2 h1 h2;split at h
   ·rename_i b2 cb2 n3 a2 ca2 n4 h3 h4;split at h
    ·rename_i hB;simp only[aE,ck]at h;obtain⟨rfl,rfl,rfl,rfl⟩:=h;simp only[bG,lU]at hB;obtain⟨⟨⟨⟨⟨e1,e2⟩,e3⟩,e4⟩,e5⟩,e6⟩:=hB;have e1:=bC e1;have e2:=bC e2;have e4:=MJ e4;have e5:=MJ e5;subst e1;subst e2;subst e4;subst e5;have hne:a1≠b1:=gz e3;simp only[List.all_append,bG]at e6;obtain⟨⟨⟨q1,q2⟩,q3⟩,q4⟩:=e6;refine⟨hd,hd',wH hm.1 h1 (wo q1) (by simp[iM.fits,hd]),wH hm.2 h3 (wo q3) (by simp[iM.fits,hd']),wH hm.2 h2 (wo q2) (by simp[iM.fits,hd']),(wH hm.1 h4 (wo q4) (by simp[iM.fits,hd])).mono ?_⟩;rintro r L' ⟨g1,g2⟩;refine⟨g1,g2.trans ?_⟩;simp only[Hp.set];rw[Tr.put_comm 24 L.e b1 a1 _ _ (jK hne)]
    ·cases h
   ·cases h
  ·cases h
 ·cases h
