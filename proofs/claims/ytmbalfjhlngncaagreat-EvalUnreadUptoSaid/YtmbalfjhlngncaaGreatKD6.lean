/- The abstract machine, sixth part: its step, as a function. -/
import Derived.Test.YtmbalfjhlngncaaGreatKD5
import Derived.KernelRfl
set_option linter.all false
noncomputable section
namespace Go.Bw
open Go
def uQ (a b:Nat):Nat:=Nat.div a b
def yH (a b:Nat):Nat:=Nat.mod a b
def vI (cl:Bool) (T:bZ) (Z:TS) (O:Hp):Op->Option (CV×List (Nat×Nat))
 | .load t p=>match aW Z p with
  |some (.own i off)=>match O.e.get i with
   |some (.box cs)=>match D5 T t cs off with
    |some x=>some (x,[])
    |none=>none
   |some (.lj cs)=>match iV T t (cs.drop off) 0 with
    |some y=>some (.d y,[])
    |none=>none
   |_=>none
  |some (.oe i n m)=>match cl with
   |false=>none
   |true=>match O.e.get i with
    |some (.row _ k rows)=>match nth rows (uQ m k)with
     |some r=>match iV T t r (yH m k)with
      |some y=>some (.d y,[(n,rows.length)])
      |none=>none
     |none=>none
    |_=>none
  |_=>none
 | .indexAddr t p ix=>match cl with
  |false=>none
  |true=>match aW Z p,aW Z ix,aZ T t with
   |some (.os i n),some (.d (.v (.int _ (.ofNat j)))),some ⟨.slice e k,_,_,_⟩=>match O.e.get i with
    |some (.row e' k' rows)=>match Nat.beq e e'&&Nat.beq k k'&&Nat.blt j rows.length with
     |true=>some (.oe i n (j*k),[(n,rows.length)])
     |false=>none
    |some (.iH k' rows)=>match Nat.beq k k',nth rows j with
     |true,some r=>some (.d (.ip r),[(n,rows.length)])
     |_,_=>none
    |_=>none
   |_,_,_=>none
 | .call {callee:= .builtin .len,args:=as,argTypes:=ts}=>match as.toList,ts.toList with
  |[p],[t]=>match aW Z p,aZ T t with
   |some (.os _ n),some ⟨.slice _ _,_,_,_⟩=>some (.d (.v (.int .i64 (n:Int))),[])
   |some (.d y),_=>match rf T t y with
    |some n=>some (.d (.v (.int .i64 n)),[])
    |none=>none
   |_,_=>none
  |_,_=>none
 |_=>none
def opI (op:Op):Nat:= @Op.rec (λ_=>Nat) (λ_=>0) (λ_=>1) (λ_ _ _=>2) (λ_=>3) (λ_ _=>4) (λ_ _=>5) (λ_ _ _=>6) (λ_ _ _ _=>7) (λ_ _=>8) (λ_ _ _=>9) (λ_=>10) (λ_=>11) (λ_=>12) (λ_ _ _ _ _=>13) (λ_ _ _=>14) (λ_ _ _=>15) (λ_ _=>16) (λ_ _=>17) (λ_ _ _=>18) (λ_ _=>19) (λ_ _=>20) (λ_ _ _=>21) (λ_ _ _ _ _=>22) (λ_ _ _=>23) (λ_ _ _=>24) (λ_ _ _=>25) (λ_ _ _=>26) (λ_ _ _ _=>27) (λ_ _ _ _=>28) (λ_ _ _=>29) (λ_ _ _ _=>30) (λ_ _=>31) (λ_ _=>32) (λ_=>33) (λ_ _ _ _=>34) (λ_ _=>35) (λ_=>36) (λ_=>37) (λ_=>38) (λ_=>39) (λ_ _=>40) (λ_ _ _=>41) (λ_ _=>42) op
def inM (m:Nat) (op:Op):Bool:=Nat.beq (Nat.land (Nat.shiftRight m (opI op)) 1) 1
def eD {α:Type} (m:Nat) (op:Op) (x:Option α):Option α:= @Bool.rec (λ_=>Option α) none x (inM m op)
theorem Ue {T:bZ} {s:Sl} {op:Op}:eD 51565228327 op (cJ T s op)=cJ T s op:=by cases op<;>kernel_rfl
theorem Uf {T:bZ} {Z:TS} {op:Op}:eD 51565170727 op (nZ T Z op)=nZ T Z op:=by cases op<;>kernel_rfl
theorem aeW {cl:Bool} {T:bZ} {Z:TS} {O:Hp} {op:Op}:eD 68753031424 op (vI cl T Z O op)=vI cl T Z O op:=by cases op<;>kernel_rfl
theorem Ug {G:Gl} {T:bZ} {s:Sl} {op:Op}:eD 33024 op (lh G T s op)=lh G T s op:=by cases op<;>kernel_rfl
theorem Uh {P:Program} {T:bZ} {s:Sl} {op:Op}:eD 104865792 op (dV P T s op)=dV P T s op:=by cases op<;>kernel_rfl
theorem Ui {P:Program} {s:Sl} {op:Op}:eD 68719484928 op (ew P s op)=ew P s op:=by cases op<;>kernel_rfl
theorem aeu {P:Program} {Z:TS} {O:Hp} {op:Op}:eD 8192 op (rh P Z O op)=rh P Z O op:=by cases op<;>kernel_rfl
def IQ (T:bZ) (Z:Sl) (op:Op):Option AV:=cJ T Z op
def IS (T:bZ) (Z:TS) (op:Op):Option CV:=nZ T Z op
def UF (cl:Bool) (T:bZ) (Z:TS) (O:Hp) (op:Op):Option (CV×List (Nat×Nat)):=vI cl T Z O op
theorem Qy {T:bZ} {Z:Sl} {op:Op}:IQ T Z op=cJ T Z op:=by cases op<;>kernel_rfl
theorem Qz {T:bZ} {Z:TS} {op:Op}:IS T Z op=nZ T Z op:=by cases op<;>kernel_rfl
theorem adb {cl:Bool} {T:bZ} {Z:TS} {O:Hp} {op:Op}:UF cl T Z O op=vI cl T Z O op:=by cases op<;>kernel_rfl
def dK (P:Program) (G:Gl) (T:bZ) (cl:Bool) (Z:TS) (O:Hp) (op:Op):Option (CV×List (Nat×Nat)):=
 match eD 51565228327 op (IQ T (dj Z) op)with
 |some y=>some (.d y,[])
 |none=>match eD 51565170727 op (IS T Z op)with
  |some x=>some (x,[])
  |none=>match eD 68753031424 op (UF cl T Z O op)with
   |some p=>some p
   |none=>match eD 33024 op (lh G T (dj Z) op)with
    |some y=>some (.d y,[])
    |none=>match cl with
     |false=>none
     |true=>match eD 104865792 op (dV P T (dj Z) op)with
      |some y=>some (.d y,[])
      |none=>match eD 68719484928 op (ew P (dj Z) op)with
       |some y=>some (.d y,[])
       |none=>eD 8192 op (rh P Z O op)
section
variable {E:Env} {N K:Nat} {Q:DQ} {Z:TS} {O:Hp} {o:Oper} {x:CV} {all rest:List Oper} {cl:Bool}
theorem aev {ns:List (Nat×Nat)} (h:vI cl E.T Z O o.op=some (x,ns)) (hn:eqs ns):bd E N o Z O x:=by
 unfold vI at h;split at h
 ·rename_i t p ho;split at h
  ·rename_i i off hp;split at h
   ·rename_i cs hi;split at h
    ·rename_i y hl;simp only[aC,cF]at h;obtain⟨rfl,rfl⟩:=h;exact bd.load ho hp hi hl
    ·cases h
   ·rename_i cs hi;split at h
    ·rename_i y hl;simp only[aC,cF]at h;obtain⟨rfl,rfl⟩:=h;exact bd.aeX ho hp hi hl
    ·cases h
   ·cases h
  ·rename_i i n m hp;split at h
   ·cases h
   ·split at h
    ·rename_i e k rows hi;split at h
     ·rename_i r hr;split at h
      ·rename_i y hl;simp only[aC,cF]at h;obtain⟨rfl,rfl⟩:=h;refine bd.QB (uQ m k) (yH m k) ho hp hi hn.1 ?_ (by rw[<-cA];exact hr) hl;have:=Yy m k;rw[BT]at this;exact this.symm
      ·cases h
     ·cases h
    ·cases h
  ·cases h
 ·rename_i t p ix ho;split at h
  ·cases h
  ·split at h
   ·rename_i i n kd j e k _ _ _ hp hix ht;split at h
    ·rename_i e' k' rows hi;split at h
     ·rename_i hB;simp only[aC,cF]at h;obtain⟨rfl,rfl⟩:=h;simp only[bJ,lx]at hB;have h1:=bI hB.1.1;have h2:=bI hB.1.2;subst h1;subst h2;exact bd.S6 j ho hp hi hn.1 ht hix rfl hB.2
     ·cases h
    ·rename_i k' rows hi;split at h
     ·rename_i r hk hr;simp only[aC,cF]at h;obtain⟨rfl,rfl⟩:=h;have hk:=bI hk;subst hk;exact bd.afn j ho hp hi hn.1 ht hix rfl (by rw[<-cA];exact hr)
     ·cases h
    ·cases h
   ·cases h
 ·rename_i as ts ho;split at h
  ·rename_i p t h1 h2;obtain⟨as⟩:=as;obtain⟨ts⟩:=ts;simp only at h1 h2;subst h1;subst h2;split at h
   ·rename_i i n e k _ _ _ hp ht;simp only[aC,cF]at h;obtain⟨rfl,rfl⟩:=h;exact bd.len ho hp ht
   ·rename_i y _ hp;split at h
    ·rename_i n hl;simp only[aC,cF]at h;obtain⟨rfl,rfl⟩:=h;exact bd.afo ho hp hl
    ·cases h
   ·cases h
  ·cases h
 ·cases h
theorem xE {ns:List (Nat×Nat)} (h:dK E.P E.G E.T cl Z O o.op=some (x,ns)) (hn:eqs ns):bd E N o Z O x:=by
 unfold dK at h;simp only[Qy,Qz,adb,Ue,Uf,aeW,Ug,Uh,Ui,aeu]at h;split at h
 ·rename_i y hy;simp only[aC,cF]at h;obtain⟨rfl,rfl⟩:=h;exact bd.cJ hy
 ·split at h
  ·rename_i y hy;simp only[aC,cF]at h;obtain⟨rfl,rfl⟩:=h;exact bd.nZ hy
  ·split at h
   ·rename_i p hp;simp only[aC]at h;subst h;exact aev hp hn
   ·split at h
    ·rename_i y hy;simp only[aC,cF]at h;obtain⟨rfl,rfl⟩:=h;exact bd.lh hy
    ·split at h
     ·cases h
     ·split at h
      ·rename_i y hy;simp only[aC,cF]at h;obtain⟨rfl,rfl⟩:=h;exact bd.dV hy
      ·split at h
       ·rename_i y hy;simp only[aC,cF]at h;obtain⟨rfl,rfl⟩:=h;exact bd.ew hy
       ·exact bd.rh h hn
inductive iI where
 |push (d:Nat) (x:CV) (c:br)
 |set (i:Nat) (c:br) (ns:List (Nat×Nat))
 |app (i d:Nat) (x:CV) (c:br) (ns:List (Nat×Nat))
 |uc (t e k:Nat)
 |cC (t:Nat) (z:AV) (ns:List (Nat×Nat)) (ms:List (Nat×br))
def Hy (Z:TS):List (Nat×Operand)->Option Nat
 |[]=>none
 |(_,.tmp t)::r=>match Z.get t with
  |some (.d _)=>Hy Z r
  |_=>some t
 |_::r=>Hy Z r
def Ht (Z:TS):List (Nat×Operand)->Option Nat
 |[]=>none
 |(_,.tmp t)::r=>match Z.get t with
  |some (.os _ _)=>some t
  |_=>Ht Z r
 |_::r=>Ht Z r
mutual
def aeY:CV->Bool
 | .os _ _=>true
 | .agg xs=>H0 xs
 |_=>false
def H0:List CV->Bool
 |[]=>false
 |x::r=>aeY x||H0 r
end
def H2 (Z:TS):Operand->Option (Nat×CV)
 | .tmp u=>match Z.get u with
  |some (.agg xs)=>match H0 xs with
   |true=>some (u,.agg xs)
   |false=>none
  |_=>none
 |_=>none
def IT (Z:TS) (O:Hp) (k:Nat) (p:Operand):Option (List (List AV)×List (Nat×Nat)):=match aW Z p with
 |some (.d (.sl k' rows))=>match Nat.beq k k' with
  |true=>some (rows,[])
  |false=>none
 |some (.d (.v (.slice none 0 0)))=>some ([],[])
 |some (.os j n)=>match O.e.get j with
  |some (.row _ k' rows)=>match Nat.beq k k' with
   |true=>some (rows,[(n,rows.length)])
   |false=>none
  |some (.iH k' rows)=>match Nat.beq k k' with
   |true=>some (rows,[(n,rows.length)])
   |false=>none
  |_=>none
 |_=>none
theorem QC {k:Nat} {p:Operand} {rows:List (List AV)} {ns:List (Nat×Nat)} (h:IT Z O k p=some (rows,ns)) (hn:eqs ns):jR E Z O k p rows:=by
 unfold IT at h;split at h
 ·rename_i k' rows' hp;split at h
  ·rename_i hk;simp only[aC,cF]at h;obtain⟨rfl,rfl⟩:=h;have:=bI hk;subst this;exact .sl hp
  ·cases h
 ·rename_i hp;simp only[aC,cF]at h;obtain⟨rfl,rfl⟩:=h;exact .nil hp
 ·rename_i j n hp;split at h
  ·rename_i e k' rows' hi;split at h
   ·rename_i hk;simp only[aC,cF]at h;obtain⟨rfl,rfl⟩:=h;have:=bI hk;subst this;exact .row hp hi hn.1
   ·cases h
  ·rename_i k' rows' hi;split at h
   ·rename_i hk;simp only[aC,cF]at h;obtain⟨rfl,rfl⟩:=h;have:=bI hk;subst this;exact .fz hp hi hn.1
   ·cases h
  ·cases h
 ·cases h
def cI (cl:Bool) (T:bZ) (N:Nat) (Z:TS) (O:Hp) (o:Oper):Option iI:=
 match o.op with
 | .box _ p=>match o.dst,aW Z p with
  |some d,some x=>match Nat.blt d N with
    |true=>some (.push d (.own O.n 0) (.box (dP x)))
    |false=>none
  |_,_=>none
 | .alloc t=>match o.dst,aZ T t with
  |some d,some ⟨_,_,_,z⟩=>match Nat.blt d N with
    |true=>some (.push d (.own O.n 0) (.box ((z.map .v).map .d)))
    |false=>none
  |_,_=>none
 | .buildSlice t n parts=>match Hy Z parts.toList with
  |some u=>match Z.get u with
    |some x=>match cr O.e 60 [x]with
     |some ([z],ns,ms)=>some (.cC u z ns ms)
     |_=>none
    |none=>none
  |none=>match o.dst,aZ T t with
    |some d,some ⟨.slice e k,_,_,_⟩=>match aZ T e with
     |some ⟨_,_,_,z'⟩=>match eJ k (dj Z) (gP n (z'.map .v)) parts.toList with
      |some cells=>match Nat.blt d N&&Nat.ble (n*k) 16777216&&Nat.ble 1 k with
       |true=>some (.push d (.os O.n n) (.row e k (chunk n k cells)))
       |false=>none
      |none=>none
     |none=>none
    |_,_=>none
 | .store t p v=>match o.dst with
  |some _=>none
  |none=>match H2 Z v with
   |some (u,x)=>match cr O.e 60 [x]with
    |some ([z],ns,ms)=>some (.cC u z ns ms)
    |_=>none
   |none=>match aW Z p,aW Z v,aZ T t with
    |some (.own i off),some x,some ti=>match O.e.get i with
     |some (.box cs)=>match Nat.beq (dP x).length ti.size&&lU (dP x),lH cs off (dP x)with
      |true,some cs'=>some (.set i (.box cs') [])
      |_,_=>none
     |_=>none
    |some (.oe i n m),some (.d y),some ti=>match cl with
     |false=>none
     |true=>match O.e.get i with
      |some (.row e k rows)=>match nth rows (uQ m k)with
       |some r=>match Nat.beq (cg y).length ti.size&&eg (cg y),eE r (yH m k) (cg y)with
        |true,some r'=>some (.set i (.row e k (rows.set (uQ m k) r')) [(n,rows.length)])
        |_,_=>none
       |none=>none
      |_=>none
    |some (.oe _ _ _),some x,_=>match v with
     | .tmp u=>match cr O.e 60 [x]with
      |some ([z],ns,ms)=>some (.cC u z ns ms)
      |_=>none
     |_=>none
    |_,_,_=>none
 | .makeSlice t p q=>match cl with
  |false=>none
  |true=>match o.dst,aZ T t with
    |some d,some ⟨.slice e k,_,_,_⟩=>match aZ T e,aW Z p,aW Z q with
     |some ⟨_,_,by'',z'⟩,some (.d (.v (.int _ (.ofNat l)))),some (.d (.v (.int _ (.ofNat c))))=>match Nat.blt d N&&Nat.ble (c*by'') 140737488355328&&Nat.ble l c&&Nat.ble 1 k&&Nat.ble 1 by'' with
      |true=>some (.push d (.os O.n l) (.row e k (List.replicate l (z'.map .v))))
      |false=>none
     |_,_,_=>none
    |_,_=>none
 | .call {callee:= .builtin .append,args:=as,argTypes:=ts}=>match o.dst,as.toList,ts.toList with
  |some d,[s,p],[t,t']=>match Nat.beq t t',aZ T t with
    |true,some ⟨.slice e k,_,_,_⟩=>match aW Z s with
     |some (.d (.v (.slice none 0 0)))=>match s with
      | .tmp u=>some (.uc u e k)
      |_=>none
     |some (.os i n)=>match cl with
      |false=>none
      |true=>match O.e.get i,IT Z O k p,aZ T e with
       |some (.row e' k' rows),some (rows2,ns),some ⟨_,_,by'',_⟩=>match Nat.beq e e'&&Nat.beq k k'&&Nat.ble ((rows++rows2).length*by'') 140737488355328&&fb rows2&&Nat.ble 1 k&&Nat.ble 1 by''&&Nat.blt d N with
        |true=>some (.app i d (.os i (rows++rows2).length) (.row e k (rows++rows2)) ((n,rows.length)::ns))
        |false=>none
       |_,_,_=>none
     |_=>none
    |false,some ⟨.slice e k,_,_,_⟩=>match aZ T t' with
     |some ⟨.str,_,_,_⟩=>match aW Z s with
      |some (.d (.v (.slice none 0 0)))=>match s with
       | .tmp u=>some (.uc u e k)
       |_=>none
      |some (.os i n)=>match cl with
       |false=>none
       |true=>match O.e.get i,aW Z p,aZ T e with
        |some (.row e' k' rows),some (.d (.v (.string b))),some ⟨_,_,by'',_⟩=>match Nat.beq e e'&&Nat.beq k k'&&Nat.ble ((rows++dA b).length*by'') 140737488355328&&Nat.beq k 1&&Nat.beq by'' 1&&Nat.blt d N with
         |true=>some (.app i d (.os i (rows++dA b).length) (.row e k (rows++dA b)) [(n,rows.length)])
         |false=>none
        |_,_,_=>none
      |_=>none
     |_=>none
    |_,_=>none
  |_,_,_=>none
 |_=>none
theorem aat {v:Operand} {u:Nat} (h:H2 Z v=some (u,x)):Z.get u=some x:=by
 unfold H2 at h;split at h
 ·split at h
  ·rename_i hx;split at h
   ·simp only[aC,cF]at h;obtain⟨rfl,rfl⟩:=h;exact hx
   ·cases h
  ·cases h
 ·cases h
def iI.ok (E:Env) (N K:Nat) (all rest:List Oper) (Q:DQ) (o:Oper) (Z:TS) (O:Hp):iI->Prop
 | .push d x c=>DO E N K all rest Q (Tr.put 24 Z d (some x)) (O.push c)
 | .set i c ns=>eqs ns/\DO E N K all rest Q Z (O.set i c)
 | .app i d x c ns=>eqs ns/\DO E N K all rest Q (Tr.put 24 Z d (some x)) (O.set i c)
 | .uc t e k=>DO E N K all (o::rest) Q (Tr.put 24 Z t (some (.os O.n 0))) (O.push (.row e k []))
 | .cC t z ns ms=>eqs ns/\DO E N K all (o::rest) Q (Tr.put 24 Z t (some (.d z))) (iw ms O)
theorem xH {h:iI} (hg:o.guard=none) (hh:cI cl E.T N Z O o=some h) (hk:h.ok E N K all rest Q o Z O):DO E N K all (o::rest) Q Z O:=by
 obtain⟨dst,op,ty,pos,after,gd⟩:=o;simp only at hg;subst hg;unfold cI at hh;simp only at hh;split at hh
 ·split at hh
  ·rename_i d x hp;split at hh
   ·rename_i hlt;simp only[aC]at hh;subst hh;exact DO.vJ rfl rfl hlt (C5 rfl hp) hk
   ·cases hh
  ·cases hh
 ·split at hh
  ·rename_i d _ _ _ z ht;split at hh
   ·rename_i hlt;simp only[aC]at hh;subst hh;exact DO.vJ rfl rfl hlt (Ci rfl ht) hk
   ·cases hh
  ·cases hh
 ·rename_i t n parts;split at hh
  ·rename_i u hu;split at hh
   ·rename_i x hx;split at hh
    ·rename_i z ns ms hf;simp only[aC]at hh;subst hh;exact DO.cC 60 hx hf hk.1 hk.2
    ·cases hh
   ·cases hh
  ·split at hh
   ·rename_i d e k _ _ _ ht;split at hh
    ·rename_i _ _ _ z' hte;split at hh
     ·rename_i cells hf;split at hh
      ·rename_i hB;simp only[aC]at hh;subst hh;simp only[bJ]at hB;exact DO.lit ht hte hf hB.1.2 hB.2 hB.1.1 hk
      ·cases hh
     ·cases hh
    ·cases hh
   ·cases hh
 ·rename_i t p v;split at hh
  ·cases hh
  split at hh
  ·rename_i u x hu;split at hh
   ·rename_i z ns ms hf;simp only[aC]at hh;subst hh;exact DO.cC 60 (aat hu) hf hk.1 hk.2
   ·cases hh
  ·split at hh
   ·rename_i i off x ti hp hv ht;split at hh
    ·rename_i cs hi;split at hh
     ·rename_i cs' hB hs;simp only[aC]at hh;subst hh;simp only[bJ]at hB;exact DO.store rfl rfl rfl hp hv hi ht hB.1 hB.2 hs hk.2
     ·cases hh
    ·cases hh
   ·rename_i i n m y ti hp hv ht;split at hh
    ·cases hh
    ·split at hh
     ·rename_i e k rows hi;split at hh
      ·rename_i r hr;split at hh
       ·rename_i r' hB hs;simp only[aC]at hh;subst hh;simp only[bJ]at hB;refine DO.kp (uQ m k) (yH m k) rfl rfl rfl hp hv hi hk.1.1 ?_ (by rw[<-cA];exact hr) ht hB.1 hB.2 hs hk.2;have:=Yy m k;rw[BT]at this;exact this.symm
       ·cases hh
      ·cases hh
     ·cases hh
   ·rename_i hp hv _;split at hh
    ·split at hh
     ·rename_i u z ns ms hf;simp only[aC]at hh;subst hh;exact DO.cC 60 hv hf hk.1 hk.2
     ·cases hh
    ·cases hh
   ·cases hh
 ·rename_i t p q;split at hh
  ·cases hh
  ·split at hh
   ·rename_i d e k _ _ _ ht;split at hh
    ·rename_i _ _ by'' z' _ l _ c hte hp hq;split at hh
     ·rename_i hB;simp only[aC]at hh;subst hh;simp only[bJ]at hB;obtain⟨⟨⟨⟨h1,h2⟩,h3⟩,h4⟩,h5⟩:=hB;exact DO.make l c (dL h2) (dL h3) hp rfl hq rfl ht hte h4 h5 h1 hk
     ·cases hh
    ·cases hh
   ·cases hh
 ·rename_i as ts;split at hh
  ·rename_i d s p t t' ha ht;obtain⟨as⟩:=as;obtain⟨ts⟩:=ts;simp only at ha ht;subst ha;subst ht;split at hh
   ·rename_i e k _ _ _ htt ht;have htt:=bI htt;subst htt;split at hh
    ·rename_i hs;split at hh
     ·rename_i u;simp only[aC]at hh;subst hh;exact DO.iR u e k hs hk
     ·cases hh
    ·rename_i i n hs;split at hh
     ·cases hh
     ·split at hh
      ·rename_i e' k' rows rows2 ns _ _ by'' _ hi hsrc hte;split at hh
       ·rename_i hB;simp only[aC]at hh;subst hh;simp only[bJ]at hB;obtain⟨⟨⟨⟨⟨⟨h1,h2⟩,h3⟩,h4⟩,h5⟩,h6⟩,h7⟩:=hB;have h1:=bI h1;have h2:=bI h2;subst h1;subst h2;exact DO.append (dL h3) hs hi hk.1.1 (QC hsrc hk.1.2) ht hte h4 h5 h6 h7 hk.2
       ·cases hh
      ·cases hh
    ·cases hh
   ·rename_i e k _ _ _ htt ht;split at hh
    ·rename_i hu;split at hh
     ·rename_i hs;split at hh
      ·rename_i u;simp only[aC]at hh;subst hh;exact DO.iR u e k hs hk
      ·cases hh
     ·rename_i i n hs;split at hh
      ·cases hh
      ·split at hh
       ·rename_i e' k' rows b _ _ by'' _ hi hsrc hte;split at hh
        ·rename_i hB;simp only[aC]at hh;subst hh;simp only[bJ]at hB;obtain⟨⟨⟨⟨⟨h1,h2⟩,h3⟩,h4⟩,h5⟩,h6⟩:=hB;have h1:=bI h1;have h2:=bI h2;subst h1;subst h2;exact DO.Hz (dL h3) hs hi hk.1.1 hsrc ht hu hte h4 h5 h6 hk.2
        ·cases hh
       ·cases hh
     ·cases hh
    ·cases hh
   ·cases hh
  ·cases hh
 ·cases hh
def iI.R (O:Hp):iI->DR->Hp->Prop
 | .push _ x c=>λr O'=>r= .ret x/\O'=O.push c
 | .set i c _=>λr O'=>r= .ret (.d (.v undef))/\O'=O.set i c
 | .app i _ x c _=>λr O'=>r= .ret x/\O'=O.set i c
 | .uc _ _ _=>λ_ _=>False
 | .cC _ _ _ _=>λ_ _=>False
def iI.UG:iI->List (Nat×Nat)
 | .set _ _ ns=>ns
 | .app _ _ _ _ ns=>ns
 |_=>[]
def iI.fits (o:Oper):iI->Bool
 | .push d _ _=>match o.dst with
  |some d'=>Nat.beq d d'
  |none=>false
 | .set _ _ _=>o.dst.isNone
 | .app _ d _ _ _=>match o.dst with
  |some d'=>Nat.beq d d'
  |none=>false
 |_=>false
def xI:Op->Bool
 | .makeSlice _ _ _=>true
 |_=>false
theorem xj {h:iI} (hmk:xI o.op=false) (hh:cI cl E.T N Z O o=some h) (hn:eqs h.UG) (hf:h.fits o=true):bK E N o Z O (h.R O):=by
 obtain⟨dst,op,ty,pos,after,gd⟩:=o;unfold cI at hh;simp only at hh;split at hh
 ·split at hh
  ·rename_i d x hp;split at hh
   ·simp only[aC]at hh;subst hh;exact bK.new rfl (C5 rfl hp)
   ·cases hh
  ·cases hh
 ·split at hh
  ·rename_i d _ _ _ z ht;split at hh
   ·simp only[aC]at hh;subst hh;exact bK.new rfl (Ci rfl ht)
   ·cases hh
  ·cases hh
 ·rename_i t n parts;split at hh
  ·split at hh
   ·split at hh
    ·simp only[aC]at hh;subst hh;cases hf
    ·cases hh
   ·cases hh
  ·split at hh
   ·rename_i d e k _ _ _ ht;split at hh
    ·rename_i _ _ _ z' hte;split at hh
     ·rename_i cells hfi;split at hh
      ·rename_i hB;simp only[aC]at hh;subst hh;simp only[bJ]at hB;exact bK.lit rfl ht hte hfi hB.1.2 hB.2
      ·cases hh
     ·cases hh
    ·cases hh
   ·cases hh
 ·rename_i t p v;split at hh
  ·cases hh
  split at hh
  ·split at hh
   ·simp only[aC]at hh;subst hh;cases hf
   ·cases hh
  ·split at hh
   ·rename_i i off x ti hp hv ht;split at hh
    ·rename_i cs hi;split at hh
     ·rename_i cs' hB hs;simp only[aC]at hh;subst hh;simp only[bJ]at hB;exact bK.store rfl hp hv hi ht hB.1 hB.2 hs
     ·cases hh
    ·cases hh
   ·rename_i i n m y ti hp hv ht;split at hh
    ·cases hh
    ·split at hh
     ·rename_i e k rows hi;split at hh
      ·rename_i r hr;split at hh
       ·rename_i r' hB hs;simp only[aC]at hh;subst hh;simp only[bJ]at hB;refine bK.kp (uQ m k) (yH m k) rfl hp hv hi hn.1 ?_ (by rw[<-cA];exact hr) ht hB.1 hB.2 hs;have:=Yy m k;rw[BT]at this;exact this.symm
       ·cases hh
      ·cases hh
     ·cases hh
   ·split at hh
    ·split at hh
     ·simp only[aC]at hh;subst hh;cases hf
     ·cases hh
    ·cases hh
   ·cases hh
 ·simp[xI]at hmk
 ·rename_i as ts;split at hh
  ·rename_i d s p t t' ha ht;obtain⟨as⟩:=as;obtain⟨ts⟩:=ts;simp only at ha ht;subst ha;subst ht;split at hh
   ·rename_i e k _ _ _ htt ht;have htt:=bI htt;subst htt;split at hh
    ·split at hh
     ·simp only[aC]at hh;subst hh;cases hf
     ·cases hh
    ·rename_i i n hs;split at hh
     ·cases hh
     ·split at hh
      ·rename_i e' k' rows rows2 ns _ _ by'' _ hi hsrc hte;split at hh
       ·rename_i hB;simp only[aC]at hh;subst hh;simp only[bJ]at hB;obtain⟨⟨⟨⟨⟨⟨h1,h2⟩,h3⟩,h4⟩,h5⟩,h6⟩,h7⟩:=hB;have h1:=bI h1;have h2:=bI h2;subst h1;subst h2;exact bK.append rfl (dL h3) hs hi hn.1 (QC hsrc hn.2) ht hte h4 h5 h6
       ·cases hh
      ·cases hh
    ·cases hh
   ·rename_i e k _ _ _ htt ht;split at hh
    ·rename_i hu;split at hh
     ·split at hh
      ·simp only[aC]at hh;subst hh;cases hf
      ·cases hh
     ·rename_i i n hs;split at hh
      ·cases hh
      ·split at hh
       ·rename_i e' k' rows b _ _ by'' _ hi hsrc hte;split at hh
        ·rename_i hB;simp only[aC]at hh;subst hh;simp only[bJ]at hB;obtain⟨⟨⟨⟨⟨h1,h2⟩,h3⟩,h4⟩,h5⟩,h6⟩:=hB;have h1:=bI h1;have h2:=bI h2;subst h1;subst h2;exact bK.Hz rfl (dL h3) hs hi hn.1 hsrc ht hu hte h4 h5
        ·cases hh
       ·cases hh
     ·cases hh
    ·cases hh
   ·cases hh
  ·cases hh
 ·cases hh
def ue (cl:Bool) (T:bZ) (N:Nat):Nat->TS->Hp->Oper->Option (iI×Hp×List (Nat×Nat))
 |0,_,_,_=>none
 |f+1,Z,O,o=>match cI cl T N Z O o with
  |some (.uc t e k)=>match Z.get t with
   |some (.d (.v (.slice none 0 0)))=>ue cl T N f (Tr.put 24 Z t (some (.os O.n 0))) (O.push (.row e k [])) o
   |_=>none
  |some (.cC t _ _ _)=>match Z.get t,(tmpsOf o).contains t with
   |some x,true=>match cr O.e 60 [x]with
    |some ([z],ns,ms)=>match ue cl T N f (Tr.put 24 Z t (some (.d z))) (iw ms O) o with
     |some (h,O1,ns1)=>some (h,O1,ns++ns1)
     |none=>none
    |_=>none
   |_,_=>none
  |some h=>match h.fits o&& !xI o.op with
   |true=>some (h,O,h.UG)
   |false=>none
  |none=>none
theorem wI:∀{f:Nat} {Z:TS} {O:Hp} {h:iI} {O1:Hp} {ns:List (Nat×Nat)},ue cl E.T N f Z O o=some (h,O1,ns)->eqs ns->bK E N o Z O (h.R O1)
 |0,_,_,_,_,_,h,_=>by simp[ue]at h
 |f+1,Z,O,h,O1,ns,hp,hn=>by
  simp only[ue]at hp;split at hp
  ·rename_i t e k hh;split at hp
   ·rename_i ht;exact bK.iR t e k ht (wI hp hn)
   ·cases hp
  ·rename_i t z' ns' ms' hh;split at hp
   ·rename_i x hx hc;split at hp
    ·rename_i z ns2 ms hfz;split at hp
     ·rename_i h' O' ns1 hp';simp only[aC,cF]at hp;obtain⟨rfl,rfl,rfl⟩:=hp;obtain⟨g1,g2⟩:=mm hn;exact bK.cC 60 hx hfz g1 (by simpa using hc) (wI hp' g2)
     ·cases hp
    ·cases hp
   ·cases hp
  ·rename_i h' hh;split at hp
   ·rename_i hf;simp only[aC,cF]at hp;obtain⟨rfl,rfl,rfl⟩:=hp;simp only[bJ,jC]at hf;exact xj hf.2 hh hn hf.1
   ·cases hp
  ·cases hp
mutual
def jx:AV->AV->Bool
 | .v x,.v y=>Ee x y
 | .sl k r,.sl k' r'=>Nat.beq k k'&&uI r r'
 | .agg x,.agg y=>lV x y
 | .bX x,.bX y=>lV x y
 | .ip x,.ip y=>lV x y
 | .fn f a b,.fn f' a' b'=>Nat.beq f f'&&lV a a'&&lV b b'
 | .bC t x,.bC t' y=>Nat.beq t t'&&jx x y
 |_,_=>false
def lV:List AV->List AV->Bool
 |[],[]=>true
 |x::xs,y::ys=>jx x y&&lV xs ys
 |_,_=>false
def uI:List (List AV)->List (List AV)->Bool
 |[],[]=>true
 |x::xs,y::ys=>lV x y&&uI xs ys
 |_,_=>false
end
mutual
theorem HA:∀{x y:AV},jx x y=true->x=y
 | .v x,y,h=>by cases y<;>simp[jx]at h;rw[QD h]
 | .sl k r,y,h=>by
  cases y<;>simp[jx]at h;rw[h.1,GR h.2]
 | .agg x,y,h=>by cases y<;>simp[jx]at h;rw[oD h]
 | .bX x,y,h=>by cases y<;>simp[jx]at h;rw[oD h]
 | .ip x,y,h=>by cases y<;>simp[jx]at h;rw[oD h]
 | .own _ _ _,y,h=>by cases y<;>simp[jx]at h
 | .os _ _ _ _,y,h=>by cases y<;>simp[jx]at h
 | .oe _ _ _,y,h=>by cases y<;>simp[jx]at h
 | .om _ _,y,h=>by cases y<;>simp[jx]at h
 | .fn f a b,y,h=>by
  cases y<;>simp[jx]at h;rw[h.1.1,oD h.1.2,oD h.2]
 | .bC t x,y,h=>by
  cases y<;>simp[jx]at h;rw[h.1,HA h.2]
theorem oD:∀{x y:List AV},lV x y=true->x=y
 |[],y,h=>by cases y<;>simp[lV]at h;rfl
 |x::xs,y,h=>by
  cases y<;>simp[lV]at h;rw[HA h.1,oD h.2]
theorem GR:∀{x y:List (List AV)},uI x y=true->x=y
 |[],y,h=>by cases y<;>simp[uI]at h;rfl
 |x::xs,y,h=>by
  cases y<;>simp[uI]at h;rw[oD h.1,GR h.2]
end
mutual
def kD:CV->CV->Bool
 | .d x,.d y=>jx x y
 | .agg x,.agg y=>nJ x y
 | .bX x,.bX y=>nJ x y
 | .own t o,.own t' o'=>Nat.beq t t'&&Nat.beq o o'
 | .os t n,.os t' n'=>Nat.beq t t'&&Nat.beq n n'
 | .oe t n o,.oe t' n' o'=>Nat.beq t t'&&Nat.beq n n'&&Nat.beq o o'
 | .om t,.om t'=>Nat.beq t t'
 | .fn f a b,.fn f' a' b'=>Nat.beq f f'&&nJ a a'&&nJ b b'
 | .bC t x,.bC t' y=>Nat.beq t t'&&kD x y
 |_,_=>false
def nJ:List CV->List CV->Bool
 |[],[]=>true
 |x::xs,y::ys=>kD x y&&nJ xs ys
 |_,_=>false
end
mutual
theorem Hx:∀{x y:CV},kD x y=true->x=y
 | .d x,y,h=>by cases y<;>simp[kD]at h;rw[HA h]
 | .agg x,y,h=>by cases y<;>simp[kD]at h;rw[sL h]
 | .bX x,y,h=>by cases y<;>simp[kD]at h;rw[sL h]
 | .own t o,y,h=>by cases y<;>simp[kD]at h;rw[h.1,h.2]
 | .os t o,y,h=>by cases y<;>simp[kD]at h;rw[h.1,h.2]
 | .oe t n o,y,h=>by cases y<;>simp[kD]at h;rw[h.1.1,h.1.2,h.2]
 | .om t,y,h=>by cases y<;>simp[kD]at h;rw[h]
 | .fn f a b,y,h=>by cases y<;>simp[kD]at h;rw[h.1.1,sL h.1.2,sL h.2]
 | .bC t x,y,h=>by cases y<;>simp[kD]at h;rw[h.1,Hx h.2]
theorem sL:∀{x y:List CV},nJ x y=true->x=y
 |[],y,h=>by cases y<;>simp[nJ]at h;rfl
 |x::xs,y,h=>by cases y<;>simp[nJ]at h;rw[Hx h.1,sL h.2]
end
def mU:br->br->Bool
 | .box x,.box y=>nJ x y
 | .row e k r,.row e' k' r'=>Nat.beq e e'&&Nat.beq k k'&&uI r r'
 |_,_=>false
theorem QE:∀{x y:br},mU x y=true->x=y
 | .box x,y,h=>by cases y<;>simp[mU]at h;rw[sL h]
 | .row e k r,y,h=>by cases y<;>simp[mU]at h;rw[h.1.1,h.1.2,GR h.2]
 | .map _,y,h=>by cases y<;>simp[mU]at h
 | .lj _,y,h=>by cases y<;>simp[mU]at h
 | .iH _ _,y,h=>by cases y<;>simp[mU]at h
 | .set _,y,h=>by cases y<;>simp[mU]at h
 | .gone,y,h=>by cases y<;>simp[mU]at h
def Ir (cl:Bool) (T:bZ) (N:Nat) (Z:TS) (O:Hp) (o o':Oper):Option (Nat×br×Nat×br):=match o.dst,o'.dst,xI o.op||xI o'.op with
 |none,none,false=>match cI cl T N Z O o,cI cl T N Z O o' with
  |some (.set a ca n1),some (.set b cb n2)=>match cI cl T N Z (O.set a ca) o',cI cl T N Z (O.set b cb) o with
   |some (.set b' cb' n3),some (.set a' ca' n4)=>match Nat.beq a a'&&Nat.beq b b'&& !Nat.beq a b&&mU ca ca'&&mU cb cb'&&(n1++n2++n3++n4).all λp=>Nat.beq p.1 p.2 with
    |true=>some (a,ca,b,cb)
    |false=>none
   |_,_=>none
  |_,_=>none
 |_,_,_=>none
theorem wV:∀{ns:List (Nat×Nat)},(ns.all λp=>Nat.beq p.1 p.2)=true->eqs ns
 |[],_=>trivial
 |p::r,h=>by simp only[kH,bJ]at h;exact⟨bI h.1,wV h.2⟩
theorem abD {o':Oper} {a b:Nat} {ca cb:br} (h:Ir cl E.T N Z O o o'=some (a,ca,b,cb)):o.dst=none/\o'.dst=none/\bK E N o Z O (λr O'=>r= .ret (.d (.v undef))/\O'=O.set a ca)/\bK E N o' Z (O.set a ca) (λr O'=>r= .ret (.d (.v undef))/\O'=(O.set a ca).set b cb)/\
  bK E N o' Z O (λr O'=>r= .ret (.d (.v undef))/\O'=O.set b cb)/\bK E N o Z (O.set b cb) (λr O'=>r= .ret (.d (.v undef))/\O'=(O.set a ca).set b cb):=by
 unfold Ir at h;split at h
 ·rename_i hd hd' hm;simp only[Bool.or_eq_false_iff]at hm;split at h
  ·rename_i a1 ca1 n1 b1 cb1 n2 h1 h2;split at h
   ·rename_i b2 cb2 n3 a2 ca2 n4 h3 h4;split at h
    ·rename_i hB;simp only[aC,cF]at h;obtain⟨rfl,rfl,rfl,rfl⟩:=h;simp only[bJ,jC]at hB;obtain⟨⟨⟨⟨⟨e1,e2⟩,e3⟩,e4⟩,e5⟩,e6⟩:=hB;have e1:=bI e1;have e2:=bI e2;have e4:=QE e4;have e5:=QE e5;subst e1;subst e2;subst e4;subst e5;have hne:a1≠b1:=gI e3;simp only[List.all_append,bJ]at e6;obtain⟨⟨⟨q1,q2⟩,q3⟩,q4⟩:=e6;refine⟨hd,hd',xj hm.1 h1 (wV q1) (by simp[iI.fits,hd]),xj hm.2 h3 (wV q3) (by simp[iI.fits,hd']),xj hm.2 h2 (wV q2) (by simp[iI.fits,hd']),(xj hm.1 h4 (wV q4) (by simp[iI.fits,hd])).mono ?_⟩;rintro r O' ⟨g1,g2⟩;refine⟨g1,g2.trans ?_⟩;simp only[Hp.set];rw[Tr.put_comm 24 O.e b1 a1 _ _ (ij hne)]
    ·cases h
   ·cases h
  ·cases h
 ·cases h
