/- The abstract machine, sixth part: its step, as a function. -/
import Derived.Test.YtfgnmgbiijpkiaaGreatKD5
import Derived.KernelRfl
set_option linter.all false
noncomputable section
namespace Go.Bw
open Go
def uF (a b:Nat):Nat:=Nat.div a b
def w7 (a b:Nat):Nat:=Nat.mod a b
def u0 (cl:Bool) (T:bX) (Z:TS) (O:Hp):Op->Option (CV×List (Nat×Nat))
 | .load t p=>match a6 Z p with
  |some (.own i off)=>match O.e.get i with
   |some (.box cs)=>match A0 T t cs off with
    |some x=>some (x,[])
    |none=>none
   |some (.lv cs)=>match iG T t (cs.drop off) 0 with
    |some y=>some (.d y,[])
    |none=>none
   |_=>none
  |some (.oe i n m)=>match cl with
   |false=>none
   |true=>match O.e.get i with
    |some (.row _ k rows)=>match nth rows (uF m k)with
     |some r=>match iG T t r (w7 m k)with
      |some y=>some (.d y,[(n,rows.length)])
      |none=>none
     |none=>none
    |_=>none
  |_=>none
 | .indexAddr t p ix=>match cl with
  |false=>none
  |true=>match a6 Z p,a6 Z ix,a7 T t with
   |some (.os i n),some (.d (.v (.int _ (.ofNat j)))),some ⟨.slice e k,_,_,_⟩=>match O.e.get i with
    |some (.row e' k' rows)=>match Nat.beq e e'&&Nat.beq k k'&&Nat.blt j rows.length with
     |true=>some (.oe i n (j*k),[(n,rows.length)])
     |false=>none
    |some (.iq k' rows)=>match Nat.beq k k',nth rows j with
     |true,some r=>some (.d (.ip r),[(n,rows.length)])
     |_,_=>none
    |_=>none
   |_,_,_=>none
 | .call {callee:= .builtin .len,args:=as,argTypes:=ts}=>match as.toList,ts.toList with
  |[p],[t]=>match a6 Z p,a7 T t with
   |some (.os _ n),some ⟨.slice _ _,_,_,_⟩=>some (.d (.v (.int .i64 (n:Int))),[])
   |some (.d y),_=>match rF T t y with
    |some n=>some (.d (.v (.int .i64 n)),[])
    |none=>none
   |_,_=>none
  |_,_=>none
 |_=>none
def opI (op:Op):Nat:= @Op.rec (λ_=>Nat) (λ_=>0) (λ_=>1) (λ_ _ _=>2) (λ_=>3) (λ_ _=>4) (λ_ _=>5) (λ_ _ _=>6) (λ_ _ _ _=>7) (λ_ _=>8) (λ_ _ _=>9) (λ_=>10) (λ_=>11) (λ_=>12) (λ_ _ _ _ _=>13) (λ_ _ _=>14) (λ_ _ _=>15) (λ_ _=>16) (λ_ _=>17) (λ_ _ _=>18) (λ_ _=>19) (λ_ _=>20) (λ_ _ _=>21) (λ_ _ _ _ _=>22) (λ_ _ _=>23) (λ_ _ _=>24) (λ_ _ _=>25) (λ_ _ _=>26) (λ_ _ _ _=>27) (λ_ _ _ _=>28) (λ_ _ _=>29) (λ_ _ _ _=>30) (λ_ _=>31) (λ_ _=>32) (λ_=>33) (λ_ _ _ _=>34) (λ_ _=>35) (λ_=>36) (λ_=>37) (λ_=>38) (λ_=>39) (λ_ _=>40) (λ_ _ _=>41) (λ_ _=>42) op
def inM (m:Nat) (op:Op):Bool:=Nat.beq (Nat.land (Nat.shiftRight m (opI op)) 1) 1
def eG {D:Type} (m:Nat) (op:Op) (x:Option D):Option D:= @Bool.rec (λ_=>Option D) none x (inM m op)
theorem PT {T:bX} {s:Sl} {op:Op}:eG 51565228327 op (cB T s op)=cB T s op:=by cases op<;>kernel_rfl
theorem PU {T:bX} {Z:TS} {op:Op}:eG 51565170727 op (oJ T Z op)=oJ T Z op:=by cases op<;>kernel_rfl
theorem aab {cl:Bool} {T:bX} {Z:TS} {O:Hp} {op:Op}:eG 68753031424 op (u0 cl T Z O op)=u0 cl T Z O op:=by cases op<;>kernel_rfl
theorem PV {G:Gl} {T:bX} {s:Sl} {op:Op}:eG 33024 op (lu G T s op)=lu G T s op:=by cases op<;>kernel_rfl
theorem PW {P:Program} {T:bX} {s:Sl} {op:Op}:eG 104865792 op (ed P T s op)=ed P T s op:=by cases op<;>kernel_rfl
theorem PX {P:Program} {s:Sl} {op:Op}:eG 68719484928 op (eS P s op)=eS P s op:=by cases op<;>kernel_rfl
theorem Y7 {P:Program} {Z:TS} {O:Hp} {op:Op}:eG 8192 op (rG P Z O op)=rG P Z O op:=by cases op<;>kernel_rfl
def GY (T:bX) (Z:Sl) (op:Op):Option AV:=cB T Z op
def GZ (T:bX) (Z:TS) (op:Op):Option CV:=oJ T Z op
def RH (cl:Bool) (T:bX) (Z:TS) (O:Hp) (op:Op):Option (CV×List (Nat×Nat)):=u0 cl T Z O op
theorem M9 {T:bX} {Z:Sl} {op:Op}:GY T Z op=cB T Z op:=by cases op<;>kernel_rfl
theorem M' {T:bX} {Z:TS} {op:Op}:GZ T Z op=oJ T Z op:=by cases op<;>kernel_rfl
theorem Yf {cl:Bool} {T:bX} {Z:TS} {O:Hp} {op:Op}:RH cl T Z O op=u0 cl T Z O op:=by cases op<;>kernel_rfl
def du (P:Program) (G:Gl) (T:bX) (cl:Bool) (Z:TS) (O:Hp) (op:Op):Option (CV×List (Nat×Nat)):=
 match eG 51565228327 op (GY T (ee Z) op)with
 |some y=>some (.d y,[])
 |none=>match eG 51565170727 op (GZ T Z op)with
  |some x=>some (x,[])
  |none=>match eG 68753031424 op (RH cl T Z O op)with
   |some p=>some p
   |none=>match eG 33024 op (lu G T (ee Z) op)with
    |some y=>some (.d y,[])
    |none=>match cl with
     |false=>none
     |true=>match eG 104865792 op (ed P T (ee Z) op)with
      |some y=>some (.d y,[])
      |none=>match eG 68719484928 op (eS P (ee Z) op)with
       |some y=>some (.d y,[])
       |none=>eG 8192 op (rG P Z O op)
section
variable {E:Env} {N K:Nat} {Q:DQ} {Z:TS} {O:Hp} {o:Oper} {x:CV} {all rest:List Oper} {cl:Bool}
theorem Y8 {ns:List (Nat×Nat)} (h:u0 cl E.T Z O o.op=some (x,ns)) (hn:eqs ns):bg E N o Z O x:=by
 unfold u0 at h;split at h
 ·rename_i t p ho;split at h
  ·rename_i i off hp;split at h
   ·rename_i cs hi;split at h
    ·rename_i y hl;simp only[aE,cu]at h;obtain⟨rfl,rfl⟩:=h;exact bg.load ho hp hi hl
    ·cases h
   ·rename_i cs hi;split at h
    ·rename_i y hl;simp only[aE,cu]at h;obtain⟨rfl,rfl⟩:=h;exact bg.aac ho hp hi hl
    ·cases h
   ·cases h
  ·rename_i i n m hp;split at h
   ·cases h
   ·split at h
    ·rename_i e k rows hi;split at h
     ·rename_i r hr;split at h
      ·rename_i y hl;simp only[aE,cu]at h;obtain⟨rfl,rfl⟩:=h;refine bg.M4 (uF m k) (w7 m k) ho hp hi hn.1 ?_ (by rw[<-cq];exact hr) hl;have:=Un m k;rw[xJ]at this;exact this.symm
      ·cases h
     ·cases h
    ·cases h
  ·cases h
 ·rename_i t p ix ho;split at h
  ·cases h
  ·split at h
   ·rename_i i n kd j e k _ _ _ hp hix ht;split at h
    ·rename_i e' k' rows hi;split at h
     ·rename_i hB;simp only[aE,cu]at h;obtain⟨rfl,rfl⟩:=h;simp only[bL,lF]at hB;have h1:=bE hB.1.1;have h2:=bE hB.1.2;subst h1;subst h2;exact bg.OM j ho hp hi hn.1 ht hix rfl hB.2
     ·cases h
    ·rename_i k' rows hi;split at h
     ·rename_i r hk hr;simp only[aE,cu]at h;obtain⟨rfl,rfl⟩:=h;have hk:=bE hk;subst hk;exact bg.acs j ho hp hi hn.1 ht hix rfl (by rw[<-cq];exact hr)
     ·cases h
    ·cases h
   ·cases h
 ·rename_i as ts ho;split at h
  ·rename_i p t h1 h2;obtain⟨as⟩:=as;obtain⟨ts⟩:=ts;simp only at h1 h2;subst h1;subst h2;split at h
   ·rename_i i n e k _ _ _ hp ht;simp only[aE,cu]at h;obtain⟨rfl,rfl⟩:=h;exact bg.len ho hp ht
   ·rename_i y _ hp;split at h
    ·rename_i n hl;simp only[aE,cu]at h;obtain⟨rfl,rfl⟩:=h;exact bg.acu ho hp hl
    ·cases h
   ·cases h
  ·cases h
 ·cases h
theorem v7 {ns:List (Nat×Nat)} (h:du E.P E.G E.T cl Z O o.op=some (x,ns)) (hn:eqs ns):bg E N o Z O x:=by
 unfold du at h;simp only[M9,M',Yf,PT,PU,aab,PV,PW,PX,Y7]at h;split at h
 ·rename_i y hy;simp only[aE,cu]at h;obtain⟨rfl,rfl⟩:=h;exact bg.cB hy
 ·split at h
  ·rename_i y hy;simp only[aE,cu]at h;obtain⟨rfl,rfl⟩:=h;exact bg.oJ hy
  ·split at h
   ·rename_i p hp;simp only[aE]at h;subst h;exact Y8 hp hn
   ·split at h
    ·rename_i y hy;simp only[aE,cu]at h;obtain⟨rfl,rfl⟩:=h;exact bg.lu hy
    ·split at h
     ·cases h
     ·split at h
      ·rename_i y hy;simp only[aE,cu]at h;obtain⟨rfl,rfl⟩:=h;exact bg.ed hy
      ·split at h
       ·rename_i y hy;simp only[aE,cu]at h;obtain⟨rfl,rfl⟩:=h;exact bg.eS hy
       ·exact bg.rG h hn
inductive ir where
 |push (d:Nat) (x:CV) (c:bm)
 |set (i:Nat) (c:bm) (ns:List (Nat×Nat))
 |app (i d:Nat) (x:CV) (c:bm) (ns:List (Nat×Nat))
 |tT (t e k:Nat)
 |cH (t:Nat) (z:AV) (ns:List (Nat×Nat)) (ms:List (Nat×bm))
def DS (Z:TS):List (Nat×Operand)->Option Nat
 |[]=>none
 |(_,.tmp t)::r=>match Z.get t with
  |some (.d _)=>DS Z r
  |_=>some t
 |_::r=>DS Z r
def DK (Z:TS):List (Nat×Operand)->Option Nat
 |[]=>none
 |(_,.tmp t)::r=>match Z.get t with
  |some (.os _ _)=>some t
  |_=>DK Z r
 |_::r=>DK Z r
mutual
def aad:CV->Bool
 | .os _ _=>true
 | .agg xs=>Ez xs
 |_=>false
def Ez:List CV->Bool
 |[]=>false
 |x::r=>aad x||Ez r
end
def EA (Z:TS):Operand->Option (Nat×CV)
 | .tmp u=>match Z.get u with
  |some (.agg xs)=>match Ez xs with
   |true=>some (u,.agg xs)
   |false=>none
  |_=>none
 |_=>none
def G0 (Z:TS) (O:Hp) (k:Nat) (p:Operand):Option (List (List AV)×List (Nat×Nat)):=match a6 Z p with
 |some (.d (.sl k' rows))=>match Nat.beq k k' with
  |true=>some (rows,[])
  |false=>none
 |some (.d (.v (.slice none 0 0)))=>some ([],[])
 |some (.os j n)=>match O.e.get j with
  |some (.row _ k' rows)=>match Nat.beq k k' with
   |true=>some (rows,[(n,rows.length)])
   |false=>none
  |some (.iq k' rows)=>match Nat.beq k k' with
   |true=>some (rows,[(n,rows.length)])
   |false=>none
  |_=>none
 |_=>none
theorem Nb {k:Nat} {p:Operand} {rows:List (List AV)} {ns:List (Nat×Nat)} (h:G0 Z O k p=some (rows,ns)) (hn:eqs ns):lj E Z O k p rows:=by
 unfold G0 at h;split at h
 ·rename_i k' rows' hp;split at h
  ·rename_i hk;simp only[aE,cu]at h;obtain⟨rfl,rfl⟩:=h;have:=bE hk;subst this;exact .sl hp
  ·cases h
 ·rename_i hp;simp only[aE,cu]at h;obtain⟨rfl,rfl⟩:=h;exact .nil hp
 ·rename_i j n hp;split at h
  ·rename_i e k' rows' hi;split at h
   ·rename_i hk;simp only[aE,cu]at h;obtain⟨rfl,rfl⟩:=h;have:=bE hk;subst this;exact .row hp hi hn.1
   ·cases h
  ·rename_i k' rows' hi;split at h
   ·rename_i hk;simp only[aE,cu]at h;obtain⟨rfl,rfl⟩:=h;have:=bE hk;subst this;exact .fz hp hi hn.1
   ·cases h
  ·cases h
 ·cases h
def cz (cl:Bool) (T:bX) (N:Nat) (Z:TS) (O:Hp) (o:Oper):Option ir:=
 match o.op with
 | .box _ p=>match o.dst,a6 Z p with
  |some d,some x=>match Nat.blt d N with
    |true=>some (.push d (.own O.n 0) (.box (dF x)))
    |false=>none
  |_,_=>none
 | .alloc t=>match o.dst,a7 T t with
  |some d,some ⟨_,_,_,z⟩=>match Nat.blt d N with
    |true=>some (.push d (.own O.n 0) (.box ((z.map .v).map .d)))
    |false=>none
  |_,_=>none
 | .buildSlice t n parts=>match DS Z parts.toList with
  |some u=>match Z.get u with
    |some x=>match b5 O.e 60 [x]with
     |some ([z],ns,ms)=>some (.cH u z ns ms)
     |_=>none
    |none=>none
  |none=>match o.dst,a7 T t with
    |some d,some ⟨.slice e k,_,_,_⟩=>match a7 T e with
     |some ⟨_,_,_,z'⟩=>match eM k (ee Z) (gD n (z'.map .v)) parts.toList with
      |some cells=>match Nat.blt d N&&Nat.ble (n*k) 16777216&&Nat.ble 1 k with
       |true=>some (.push d (.os O.n n) (.row e k (chunk n k cells)))
       |false=>none
      |none=>none
     |none=>none
    |_,_=>none
 | .store t p v=>match o.dst with
  |some _=>none
  |none=>match EA Z v with
   |some (u,x)=>match b5 O.e 60 [x]with
    |some ([z],ns,ms)=>some (.cH u z ns ms)
    |_=>none
   |none=>match a6 Z p,a6 Z v,a7 T t with
    |some (.own i off),some x,some ti=>match O.e.get i with
     |some (.box cs)=>match Nat.beq (dF x).length ti.size&&l7 (dF x),lU cs off (dF x)with
      |true,some cs'=>some (.set i (.box cs') [])
      |_,_=>none
     |_=>none
    |some (.oe i n m),some (.d y),some ti=>match cl with
     |false=>none
     |true=>match O.e.get i with
      |some (.row e k rows)=>match nth rows (uF m k)with
       |some r=>match Nat.beq (cf y).length ti.size&&eK (cf y),eU r (w7 m k) (cf y)with
        |true,some r'=>some (.set i (.row e k (rows.set (uF m k) r')) [(n,rows.length)])
        |_,_=>none
       |none=>none
      |_=>none
    |some (.oe _ _ _),some x,_=>match v with
     | .tmp u=>match b5 O.e 60 [x]with
      |some ([z],ns,ms)=>some (.cH u z ns ms)
      |_=>none
     |_=>none
    |_,_,_=>none
 | .makeSlice t p q=>match cl with
  |false=>none
  |true=>match o.dst,a7 T t with
    |some d,some ⟨.slice e k,_,_,_⟩=>match a7 T e,a6 Z p,a6 Z q with
     |some ⟨_,_,by'',z'⟩,some (.d (.v (.int _ (.ofNat l)))),some (.d (.v (.int _ (.ofNat c))))=>match Nat.blt d N&&Nat.ble (c*by'') 140737488355328&&Nat.ble l c&&Nat.ble 1 k&&Nat.ble 1 by'' with
      |true=>some (.push d (.os O.n l) (.row e k (List.replicate l (z'.map .v))))
      |false=>none
     |_,_,_=>none
    |_,_=>none
 | .call {callee:= .builtin .append,args:=as,argTypes:=ts}=>match o.dst,as.toList,ts.toList with
  |some d,[s,p],[t,t']=>match Nat.beq t t',a7 T t with
    |true,some ⟨.slice e k,_,_,_⟩=>match a6 Z s with
     |some (.d (.v (.slice none 0 0)))=>match s with
      | .tmp u=>some (.tT u e k)
      |_=>none
     |some (.os i n)=>match cl with
      |false=>none
      |true=>match O.e.get i,G0 Z O k p,a7 T e with
       |some (.row e' k' rows),some (rows2,ns),some ⟨_,_,by'',_⟩=>match Nat.beq e e'&&Nat.beq k k'&&Nat.ble ((rows++rows2).length*by'') 140737488355328&&gy rows2&&Nat.ble 1 k&&Nat.ble 1 by''&&Nat.blt d N with
        |true=>some (.app i d (.os i (rows++rows2).length) (.row e k (rows++rows2)) ((n,rows.length)::ns))
        |false=>none
       |_,_,_=>none
     |_=>none
    |false,some ⟨.slice e k,_,_,_⟩=>match a7 T t' with
     |some ⟨.str,_,_,_⟩=>match a6 Z s with
      |some (.d (.v (.slice none 0 0)))=>match s with
       | .tmp u=>some (.tT u e k)
       |_=>none
      |some (.os i n)=>match cl with
       |false=>none
       |true=>match O.e.get i,a6 Z p,a7 T e with
        |some (.row e' k' rows),some (.d (.v (.string b))),some ⟨_,_,by'',_⟩=>match Nat.beq e e'&&Nat.beq k k'&&Nat.ble ((rows++dt b).length*by'') 140737488355328&&Nat.beq k 1&&Nat.beq by'' 1&&Nat.blt d N with
         |true=>some (.app i d (.os i (rows++dt b).length) (.row e k (rows++dt b)) [(n,rows.length)])
         |false=>none
        |_,_,_=>none
      |_=>none
     |_=>none
    |_,_=>none
  |_,_,_=>none
 |_=>none
theorem Wj {v:Operand} {u:Nat} (h:EA Z v=some (u,x)):Z.get u=some x:=by
 unfold EA at h;split at h
 ·split at h
  ·rename_i hx;split at h
   ·simp only[aE,cu]at h;obtain⟨rfl,rfl⟩:=h;exact hx
   ·cases h
  ·cases h
 ·cases h
def ir.ok (E:Env) (N K:Nat) (all rest:List Oper) (Q:DQ) (o:Oper) (Z:TS) (O:Hp):ir->Prop
 | .push d x c=>DO E N K all rest Q (Tr.put 24 Z d (some x)) (O.push c)
 | .set i c ns=>eqs ns/\DO E N K all rest Q Z (O.set i c)
 | .app i d x c ns=>eqs ns/\DO E N K all rest Q (Tr.put 24 Z d (some x)) (O.set i c)
 | .tT t e k=>DO E N K all (o::rest) Q (Tr.put 24 Z t (some (.os O.n 0))) (O.push (.row e k []))
 | .cH t z ns ms=>eqs ns/\DO E N K all (o::rest) Q (Tr.put 24 Z t (some (.d z))) (iE ms O)
theorem wc {h:ir} (hg:o.guard=none) (hh:cz cl E.T N Z O o=some h) (hk:h.ok E N K all rest Q o Z O):DO E N K all (o::rest) Q Z O:=by
 obtain⟨dst,op,ty,pos,after,gd⟩:=o;simp only at hg;subst hg;unfold cz at hh;simp only at hh;split at hh
 ·split at hh
  ·rename_i d x hp;split at hh
   ·rename_i hlt;simp only[aE]at hh;subst hh;exact DO.u1 rfl rfl hlt (Am rfl hp) hk
   ·cases hh
  ·cases hh
 ·split at hh
  ·rename_i d _ _ _ z ht;split at hh
   ·rename_i hlt;simp only[aE]at hh;subst hh;exact DO.u1 rfl rfl hlt (yG rfl ht) hk
   ·cases hh
  ·cases hh
 ·rename_i t n parts;split at hh
  ·rename_i u hu;split at hh
   ·rename_i x hx;split at hh
    ·rename_i z ns ms hf;simp only[aE]at hh;subst hh;exact DO.cH 60 hx hf hk.1 hk.2
    ·cases hh
   ·cases hh
  ·split at hh
   ·rename_i d e k _ _ _ ht;split at hh
    ·rename_i _ _ _ z' hte;split at hh
     ·rename_i cells hf;split at hh
      ·rename_i hB;simp only[aE]at hh;subst hh;simp only[bL]at hB;exact DO.lit ht hte hf hB.1.2 hB.2 hB.1.1 hk
      ·cases hh
     ·cases hh
    ·cases hh
   ·cases hh
 ·rename_i t p v;split at hh
  ·cases hh
  split at hh
  ·rename_i u x hu;split at hh
   ·rename_i z ns ms hf;simp only[aE]at hh;subst hh;exact DO.cH 60 (Wj hu) hf hk.1 hk.2
   ·cases hh
  ·split at hh
   ·rename_i i off x ti hp hv ht;split at hh
    ·rename_i cs hi;split at hh
     ·rename_i cs' hB hs;simp only[aE]at hh;subst hh;simp only[bL]at hB;exact DO.store rfl rfl rfl hp hv hi ht hB.1 hB.2 hs hk.2
     ·cases hh
    ·cases hh
   ·rename_i i n m y ti hp hv ht;split at hh
    ·cases hh
    ·split at hh
     ·rename_i e k rows hi;split at hh
      ·rename_i r hr;split at hh
       ·rename_i r' hB hs;simp only[aE]at hh;subst hh;simp only[bL]at hB;refine DO.qq (uF m k) (w7 m k) rfl rfl rfl hp hv hi hk.1.1 ?_ (by rw[<-cq];exact hr) ht hB.1 hB.2 hs hk.2;have:=Un m k;rw[xJ]at this;exact this.symm
       ·cases hh
      ·cases hh
     ·cases hh
   ·rename_i hp hv _;split at hh
    ·split at hh
     ·rename_i u z ns ms hf;simp only[aE]at hh;subst hh;exact DO.cH 60 hv hf hk.1 hk.2
     ·cases hh
    ·cases hh
   ·cases hh
 ·rename_i t p q;split at hh
  ·cases hh
  ·split at hh
   ·rename_i d e k _ _ _ ht;split at hh
    ·rename_i _ _ by'' z' _ l _ c hte hp hq;split at hh
     ·rename_i hB;simp only[aE]at hh;subst hh;simp only[bL]at hB;obtain⟨⟨⟨⟨h1,h2⟩,h3⟩,h4⟩,h5⟩:=hB;exact DO.make l c (dD h2) (dD h3) hp rfl hq rfl ht hte h4 h5 h1 hk
     ·cases hh
    ·cases hh
   ·cases hh
 ·rename_i as ts;split at hh
  ·rename_i d s p t t' ha ht;obtain⟨as⟩:=as;obtain⟨ts⟩:=ts;simp only at ha ht;subst ha;subst ht;split at hh
   ·rename_i e k _ _ _ htt ht;have htt:=bE htt;subst htt;split at hh
    ·rename_i hs;split at hh
     ·rename_i u;simp only[aE]at hh;subst hh;exact DO.iF u e k hs hk
     ·cases hh
    ·rename_i i n hs;split at hh
     ·cases hh
     ·split at hh
      ·rename_i e' k' rows rows2 ns _ _ by'' _ hi hsrc hte;split at hh
       ·rename_i hB;simp only[aE]at hh;subst hh;simp only[bL]at hB;obtain⟨⟨⟨⟨⟨⟨h1,h2⟩,h3⟩,h4⟩,h5⟩,h6⟩,h7⟩:=hB;have h1:=bE h1;have h2:=bE h2;subst h1;subst h2;exact DO.append (dD h3) hs hi hk.1.1 (Nb hsrc hk.1.2) ht hte h4 h5 h6 h7 hk.2
       ·cases hh
      ·cases hh
    ·cases hh
   ·rename_i e k _ _ _ htt ht;split at hh
    ·rename_i hu;split at hh
     ·rename_i hs;split at hh
      ·rename_i u;simp only[aE]at hh;subst hh;exact DO.iF u e k hs hk
      ·cases hh
     ·rename_i i n hs;split at hh
      ·cases hh
      ·split at hh
       ·rename_i e' k' rows b _ _ by'' _ hi hsrc hte;split at hh
        ·rename_i hB;simp only[aE]at hh;subst hh;simp only[bL]at hB;obtain⟨⟨⟨⟨⟨h1,h2⟩,h3⟩,h4⟩,h5⟩,h6⟩:=hB;have h1:=bE h1;have h2:=bE h2;subst h1;subst h2;exact DO.DT (dD h3) hs hi hk.1.1 hsrc ht hu hte h4 h5 h6 hk.2
        ·cases hh
       ·cases hh
     ·cases hh
    ·cases hh
   ·cases hh
  ·cases hh
 ·cases hh
def ir.R (O:Hp):ir->DR->Hp->Prop
 | .push _ x c=>λr O'=>r= .ret x/\O'=O.push c
 | .set i c _=>λr O'=>r= .ret (.d (.v undef))/\O'=O.set i c
 | .app i _ x c _=>λr O'=>r= .ret x/\O'=O.set i c
 | .tT _ _ _=>λ_ _=>False
 | .cH _ _ _ _=>λ_ _=>False
def ir.RI:ir->List (Nat×Nat)
 | .set _ _ ns=>ns
 | .app _ _ _ _ ns=>ns
 |_=>[]
def ir.fits (o:Oper):ir->Bool
 | .push d _ _=>match o.dst with
  |some d'=>Nat.beq d d'
  |none=>false
 | .set _ _ _=>o.dst.isNone
 | .app _ d _ _ _=>match o.dst with
  |some d'=>Nat.beq d d'
  |none=>false
 |_=>false
def we:Op->Bool
 | .makeSlice _ _ _=>true
 |_=>false
theorem vM {h:ir} (hmk:we o.op=false) (hh:cz cl E.T N Z O o=some h) (hn:eqs h.RI) (hf:h.fits o=true):bM E N o Z O (h.R O):=by
 obtain⟨dst,op,ty,pos,after,gd⟩:=o;unfold cz at hh;simp only at hh;split at hh
 ·split at hh
  ·rename_i d x hp;split at hh
   ·simp only[aE]at hh;subst hh;exact bM.new rfl (Am rfl hp)
   ·cases hh
  ·cases hh
 ·split at hh
  ·rename_i d _ _ _ z ht;split at hh
   ·simp only[aE]at hh;subst hh;exact bM.new rfl (yG rfl ht)
   ·cases hh
  ·cases hh
 ·rename_i t n parts;split at hh
  ·split at hh
   ·split at hh
    ·simp only[aE]at hh;subst hh;cases hf
    ·cases hh
   ·cases hh
  ·split at hh
   ·rename_i d e k _ _ _ ht;split at hh
    ·rename_i _ _ _ z' hte;split at hh
     ·rename_i cells hfi;split at hh
      ·rename_i hB;simp only[aE]at hh;subst hh;simp only[bL]at hB;exact bM.lit rfl ht hte hfi hB.1.2 hB.2
      ·cases hh
     ·cases hh
    ·cases hh
   ·cases hh
 ·rename_i t p v;split at hh
  ·cases hh
  split at hh
  ·split at hh
   ·simp only[aE]at hh;subst hh;cases hf
   ·cases hh
  ·split at hh
   ·rename_i i off x ti hp hv ht;split at hh
    ·rename_i cs hi;split at hh
     ·rename_i cs' hB hs;simp only[aE]at hh;subst hh;simp only[bL]at hB;exact bM.store rfl hp hv hi ht hB.1 hB.2 hs
     ·cases hh
    ·cases hh
   ·rename_i i n m y ti hp hv ht;split at hh
    ·cases hh
    ·split at hh
     ·rename_i e k rows hi;split at hh
      ·rename_i r hr;split at hh
       ·rename_i r' hB hs;simp only[aE]at hh;subst hh;simp only[bL]at hB;refine bM.qq (uF m k) (w7 m k) rfl hp hv hi hn.1 ?_ (by rw[<-cq];exact hr) ht hB.1 hB.2 hs;have:=Un m k;rw[xJ]at this;exact this.symm
       ·cases hh
      ·cases hh
     ·cases hh
   ·split at hh
    ·split at hh
     ·simp only[aE]at hh;subst hh;cases hf
     ·cases hh
    ·cases hh
   ·cases hh
 ·simp[we]at hmk
 ·rename_i as ts;split at hh
  ·rename_i d s p t t' ha ht;obtain⟨as⟩:=as;obtain⟨ts⟩:=ts;simp only at ha ht;subst ha;subst ht;split at hh
   ·rename_i e k _ _ _ htt ht;have htt:=bE htt;subst htt;split at hh
    ·split at hh
     ·simp only[aE]at hh;subst hh;cases hf
     ·cases hh
    ·rename_i i n hs;split at hh
     ·cases hh
     ·split at hh
      ·rename_i e' k' rows rows2 ns _ _ by'' _ hi hsrc hte;split at hh
       ·rename_i hB;simp only[aE]at hh;subst hh;simp only[bL]at hB;obtain⟨⟨⟨⟨⟨⟨h1,h2⟩,h3⟩,h4⟩,h5⟩,h6⟩,h7⟩:=hB;have h1:=bE h1;have h2:=bE h2;subst h1;subst h2;exact bM.append rfl (dD h3) hs hi hn.1 (Nb hsrc hn.2) ht hte h4 h5 h6
       ·cases hh
      ·cases hh
    ·cases hh
   ·rename_i e k _ _ _ htt ht;split at hh
    ·rename_i hu;split at hh
     ·split at hh
      ·simp only[aE]at hh;subst hh;cases hf
      ·cases hh
     ·rename_i i n hs;split at hh
      ·cases hh
      ·split at hh
       ·rename_i e' k' rows b _ _ by'' _ hi hsrc hte;split at hh
        ·rename_i hB;simp only[aE]at hh;subst hh;simp only[bL]at hB;obtain⟨⟨⟨⟨⟨h1,h2⟩,h3⟩,h4⟩,h5⟩,h6⟩:=hB;have h1:=bE h1;have h2:=bE h2;subst h1;subst h2;exact bM.DT rfl (dD h3) hs hi hn.1 hsrc ht hu hte h4 h5
        ·cases hh
       ·cases hh
     ·cases hh
    ·cases hh
   ·cases hh
  ·cases hh
 ·cases hh
def tU (cl:Bool) (T:bX) (N:Nat):Nat->TS->Hp->Oper->Option (ir×Hp×List (Nat×Nat))
 |0,_,_,_=>none
 |f+1,Z,O,o=>match cz cl T N Z O o with
  |some (.tT t e k)=>match Z.get t with
   |some (.d (.v (.slice none 0 0)))=>tU cl T N f (Tr.put 24 Z t (some (.os O.n 0))) (O.push (.row e k [])) o
   |_=>none
  |some (.cH t _ _ _)=>match Z.get t,(tmpsOf o).contains t with
   |some x,true=>match b5 O.e 60 [x]with
    |some ([z],ns,ms)=>match tU cl T N f (Tr.put 24 Z t (some (.d z))) (iE ms O) o with
     |some (h,η1,ns1)=>some (h,η1,ns++ns1)
     |none=>none
    |_=>none
   |_,_=>none
  |some h=>match h.fits o&& !we o.op with
   |true=>some (h,O,h.RI)
   |false=>none
  |none=>none
theorem vk:∀{f:Nat} {Z:TS} {O:Hp} {h:ir} {η1:Hp} {ns:List (Nat×Nat)},tU cl E.T N f Z O o=some (h,η1,ns)->eqs ns->bM E N o Z O (h.R η1)
 |0,_,_,_,_,_,h,_=>by simp[tU]at h
 |f+1,Z,O,h,η1,ns,hp,hn=>by
  simp only[tU]at hp;split at hp
  ·rename_i t e k hh;split at hp
   ·rename_i ht;exact bM.iF t e k ht (vk hp hn)
   ·cases hp
  ·rename_i t z' ns' ms' hh;split at hp
   ·rename_i x hx hc;split at hp
    ·rename_i z ns2 ms hfz;split at hp
     ·rename_i h' O' ns1 hp';simp only[aE,cu]at hp;obtain⟨rfl,rfl,rfl⟩:=hp;obtain⟨g1,g2⟩:=mC hn;exact bM.cH 60 hx hfz g1 (by simpa using hc) (vk hp' g2)
     ·cases hp
    ·cases hp
   ·cases hp
  ·rename_i h' hh;split at hp
   ·rename_i hf;simp only[aE,cu]at hp;obtain⟨rfl,rfl,rfl⟩:=hp;simp only[bL,kQ]at hf;exact vM hf.2 hh hn hf.1
   ·cases hp
  ·cases hp
mutual
def je:AV->AV->Bool
 | .v x,.v y=>Bi x y
 | .sl k r,.sl k' r'=>Nat.beq k k'&&ug r r'
 | .agg x,.agg y=>l8 x y
 | .bN x,.bN y=>l8 x y
 | .ip x,.ip y=>l8 x y
 | .fn f a b,.fn f' a' b'=>Nat.beq f f'&&l8 a a'&&l8 b b'
 | .bB t x,.bB t' y=>Nat.beq t t'&&je x y
 |_,_=>false
def l8:List AV->List AV->Bool
 |[],[]=>true
 |x::xs,y::ys=>je x y&&l8 xs ys
 |_,_=>false
def ug:List (List AV)->List (List AV)->Bool
 |[],[]=>true
 |x::xs,y::ys=>l8 x y&&ug xs ys
 |_,_=>false
end
mutual
theorem DU:∀{x y:AV},je x y=true->x=y
 | .v x,y,h=>by cases y<;>simp[je]at h;rw[Nc h]
 | .sl k r,y,h=>by
  cases y<;>simp[je]at h;rw[h.1,Dg h.2]
 | .agg x,y,h=>by cases y<;>simp[je]at h;rw[oZ h]
 | .bN x,y,h=>by cases y<;>simp[je]at h;rw[oZ h]
 | .ip x,y,h=>by cases y<;>simp[je]at h;rw[oZ h]
 | .own _ _ _,y,h=>by cases y<;>simp[je]at h
 | .os _ _ _ _,y,h=>by cases y<;>simp[je]at h
 | .oe _ _ _,y,h=>by cases y<;>simp[je]at h
 | .om _ _,y,h=>by cases y<;>simp[je]at h
 | .fn f a b,y,h=>by
  cases y<;>simp[je]at h;rw[h.1.1,oZ h.1.2,oZ h.2]
 | .bB t x,y,h=>by
  cases y<;>simp[je]at h;rw[h.1,DU h.2]
theorem oZ:∀{x y:List AV},l8 x y=true->x=y
 |[],y,h=>by cases y<;>simp[l8]at h;rfl
 |x::xs,y,h=>by
  cases y<;>simp[l8]at h;rw[DU h.1,oZ h.2]
theorem Dg:∀{x y:List (List AV)},ug x y=true->x=y
 |[],y,h=>by cases y<;>simp[ug]at h;rfl
 |x::xs,y,h=>by
  cases y<;>simp[ug]at h;rw[oZ h.1,Dg h.2]
end
mutual
def kF:CV->CV->Bool
 | .d x,.d y=>je x y
 | .agg x,.agg y=>nZ x y
 | .bN x,.bN y=>nZ x y
 | .own t o,.own t' o'=>Nat.beq t t'&&Nat.beq o o'
 | .os t n,.os t' n'=>Nat.beq t t'&&Nat.beq n n'
 | .oe t n o,.oe t' n' o'=>Nat.beq t t'&&Nat.beq n n'&&Nat.beq o o'
 | .om t,.om t'=>Nat.beq t t'
 | .fn f a b,.fn f' a' b'=>Nat.beq f f'&&nZ a a'&&nZ b b'
 | .bB t x,.bB t' y=>Nat.beq t t'&&kF x y
 |_,_=>false
def nZ:List CV->List CV->Bool
 |[],[]=>true
 |x::xs,y::ys=>kF x y&&nZ xs ys
 |_,_=>false
end
mutual
theorem DP:∀{x y:CV},kF x y=true->x=y
 | .d x,y,h=>by cases y<;>simp[kF]at h;rw[DU h]
 | .agg x,y,h=>by cases y<;>simp[kF]at h;rw[sK h]
 | .bN x,y,h=>by cases y<;>simp[kF]at h;rw[sK h]
 | .own t o,y,h=>by cases y<;>simp[kF]at h;rw[h.1,h.2]
 | .os t o,y,h=>by cases y<;>simp[kF]at h;rw[h.1,h.2]
 | .oe t n o,y,h=>by cases y<;>simp[kF]at h;rw[h.1.1,h.1.2,h.2]
 | .om t,y,h=>by cases y<;>simp[kF]at h;rw[h]
 | .fn f a b,y,h=>by cases y<;>simp[kF]at h;rw[h.1.1,sK h.1.2,sK h.2]
 | .bB t x,y,h=>by cases y<;>simp[kF]at h;rw[h.1,DP h.2]
theorem sK:∀{x y:List CV},nZ x y=true->x=y
 |[],y,h=>by cases y<;>simp[nZ]at h;rfl
 |x::xs,y,h=>by cases y<;>simp[nZ]at h;rw[DP h.1,sK h.2]
end
def mh:bm->bm->Bool
 | .box x,.box y=>nZ x y
 | .row e k r,.row e' k' r'=>Nat.beq e e'&&Nat.beq k k'&&ug r r'
 |_,_=>false
theorem Nd:∀{x y:bm},mh x y=true->x=y
 | .box x,y,h=>by cases y<;>simp[mh]at h;rw[sK h]
 | .row e k r,y,h=>by cases y<;>simp[mh]at h;rw[h.1.1,h.1.2,Dg h.2]
 | .map _,y,h=>by cases y<;>simp[mh]at h
 | .lv _,y,h=>by cases y<;>simp[mh]at h
 | .iq _ _,y,h=>by cases y<;>simp[mh]at h
 | .set _,y,h=>by cases y<;>simp[mh]at h
 | .jL _,y,h=>by cases y<;>simp[mh]at h
 | .gone,y,h=>by cases y<;>simp[mh]at h
def Ff (cl:Bool) (T:bX) (N:Nat) (Z:TS) (O:Hp) (o o':Oper):Option (Nat×bm×Nat×bm):=match o.dst,o'.dst,we o.op||we o'.op with
 |none,none,false=>match cz cl T N Z O o,cz cl T N Z O o' with
  |some (.set a ca n1),some (.set b cb n2)=>match cz cl T N Z (O.set a ca) o',cz cl T N Z (O.set b cb) o with
   |some (.set b' cb' n3),some (.set a' ca' n4)=>match Nat.beq a a'&&Nat.beq b b'&& !Nat.beq a b&&mh ca ca'&&mh cb cb'&&(n1++n2++n3++n4).all λp=>Nat.beq p.1 p.2 with
    |true=>some (a,ca,b,cb)
    |false=>none
   |_,_=>none
  |_,_=>none
 |_,_,_=>none
theorem vv:∀{ns:List (Nat×Nat)},(ns.all λp=>Nat.beq p.1 p.2)=true->eqs ns
 |[],_=>trivial
 |p::r,h=>by simp only[kR,bL]at h;exact⟨bE h.1,vv h.2⟩
theorem Xd {o':Oper} {a b:Nat} {ca cb:bm} (h:Ff cl E.T N Z O o o'=some (a,ca,b,cb)):o.dst=none/\o'.dst=none/\bM E N o Z O (λr O'=>r= .ret (.d (.v undef))/\O'=O.set a ca)/\bM E N o' Z (O.set a ca) (λr O'=>r= .ret (.d (.v undef))/\O'=(O.set a ca).set b cb)/\
  bM E N o' Z O (λr O'=>r= .ret (.d (.v undef))/\O'=O.set b cb)/\bM E N o Z (O.set b cb) (λr O'=>r= .ret (.d (.v undef))/\O'=(O.set a ca).set b cb):=by
 unfold Ff at h;split at h
 ·rename_i hd hd' hm;simp only[Bool.or_eq_false_iff]at hm;split at h
  ·rename_i a1 ca1 n1 b1 cb1 n2 h1 h2;split at h
   ·rename_i b2 cb2 n3 a2 ca2 n4 h3 h4;split at h
    ·rename_i hB;simp only[aE,cu]at h;obtain⟨rfl,rfl,rfl,rfl⟩:=h;simp only[bL,kQ]at hB;obtain⟨⟨⟨⟨⟨e1,e2⟩,e3⟩,e4⟩,e5⟩,e6⟩:=hB;have e1:=bE e1;have e2:=bE e2;have e4:=Nd e4;have e5:=Nd e5;subst e1;subst e2;subst e4;subst e5;have hne:a1≠b1:=gx e3;simp only[List.all_append,bL]at e6;obtain⟨⟨⟨q1,q2⟩,q3⟩,q4⟩:=e6;refine⟨hd,hd',vM hm.1 h1 (vv q1) (by simp[ir.fits,hd]),vM hm.2 h3 (vv q3) (by simp[ir.fits,hd']),vM hm.2 h2 (vv q2) (by simp[ir.fits,hd']),(vM hm.1 h4 (vv q4) (by simp[ir.fits,hd])).mono ?_⟩;rintro r O' ⟨g1,g2⟩;refine⟨g1,g2.trans ?_⟩;simp only[Hp.set];rw[Tr.put_comm 24 O.e b1 a1 _ _ (jv hne)]
    ·cases h
   ·cases h
  ·cases h
 ·cases h
