/- The abstract machine, sixth part: its step, as a function. -/
import Derived.Test.YthlcjaanmbjcaaaGreatKD5
import Derived.KernelRfl
set_option linter.all false
noncomputable section
namespace Go.Bw
open Go
def ou (a b:Nat):Nat:=Nat.div a b
def qo (a b:Nat):Nat:=Nat.mod a b
def oI (cl:Bool) (T:bt) (Z:TS) (O:Hp):Op->Option (CV×List (Nat×Nat))
 | .load t p=>match aL Z p with
  |some (.own i off)=>match O.e.get i with
   |some (.box cs)=>match tI T t cs off with
    |some x=>some (x,[])
    |none=>none
   |some (.ir cs)=>match fD T t (cs.drop off) 0 with
    |some y=>some (.d y,[])
    |none=>none
   |_=>none
  |some (.oe i n m)=>match cl with
   |false=>none
   |true=>match O.e.get i with
    |some (.row _ k rows)=>match nth rows (ou m k)with
     |some r=>match fD T t r (qo m k)with
      |some y=>some (.d y,[(n,rows.length)])
      |none=>none
     |none=>none
    |_=>none
  |_=>none
 | .indexAddr t p ix=>match cl with
  |false=>none
  |true=>match aL Z p,aL Z ix,aM T t with
   |some (.os i n),some (.d (.v (.int _ (.ofNat j)))),some ⟨.slice e k,_,_,_⟩=>match O.e.get i with
    |some (.row e' k' rows)=>match Nat.beq e e'&&Nat.beq k k'&&Nat.blt j rows.length with
     |true=>some (.oe i n (j*k),[(n,rows.length)])
     |false=>none
    |some (.fw k' rows)=>match Nat.beq k k',nth rows j with
     |true,some r=>some (.d (.ip r),[(n,rows.length)])
     |_,_=>none
    |_=>none
   |_,_,_=>none
 | .call {callee:= .builtin .len,args:=as,argTypes:=ts}=>match as.toList,ts.toList with
  |[p],[t]=>match aL Z p,aM T t with
   |some (.os _ n),some ⟨.slice _ _,_,_,_⟩=>some (.d (.v (.int .i64 (n:Int))),[])
   |some (.d y),_=>match mj T t y with
    |some n=>some (.d (.v (.int .i64 n)),[])
    |none=>none
   |_,_=>none
  |_,_=>none
 |_=>none
def PL (op:Op):Nat:= @Op.rec (λ_=>Nat) (λ_=>0) (λ_=>1) (λ_ _ _=>2) (λ_=>3) (λ_ _=>4) (λ_ _=>5) (λ_ _ _=>6) (λ_ _ _ _=>7) (λ_ _=>8) (λ_ _ _=>9) (λ_=>10) (λ_=>11) (λ_=>12) (λ_ _ _ _ _=>13) (λ_ _ _=>14) (λ_ _ _=>15) (λ_ _=>16) (λ_ _=>17) (λ_ _ _=>18) (λ_ _=>19) (λ_ _=>20) (λ_ _ _=>21) (λ_ _ _ _ _=>22) (λ_ _ _=>23) (λ_ _ _=>24) (λ_ _ _=>25) (λ_ _ _=>26) (λ_ _ _ _=>27) (λ_ _ _ _=>28) (λ_ _ _=>29) (λ_ _ _ _=>30) (λ_ _=>31) (λ_ _=>32) (λ_=>33) (λ_ _ _ _=>34) (λ_ _=>35) (λ_=>36) (λ_=>37) (λ_=>38) (λ_=>39) (λ_ _=>40) (λ_ _ _=>41) (λ_ _=>42) op
def PM (m:Nat) (op:Op):Bool:=Nat.beq (Nat.land (Nat.shiftRight m (PL op)) 1) 1
def dz {D:Type} (m:Nat) (op:Op) (x:Option D):Option D:= @Bool.rec (λ_=>Option D) none x (PM m op)
theorem GG {T:bt} {s:Sl} {op:Op}:dz 51565228327 op (bU T s op)=bU T s op:=by cases op<;>kernel_rfl
theorem GH {T:bt} {Z:TS} {op:Op}:dz 51565170727 op (kq T Z op)=kq T Z op:=by cases op<;>kernel_rfl
theorem N8 {cl:Bool} {T:bt} {Z:TS} {O:Hp} {op:Op}:dz 68753031424 op (oI cl T Z O op)=oI cl T Z O op:=by cases op<;>kernel_rfl
theorem GI {G:Gl} {T:bt} {s:Sl} {op:Op}:dz 33024 op (iq G T s op)=iq G T s op:=by cases op<;>kernel_rfl
theorem GJ {P:Program} {T:bt} {s:Sl} {op:Op}:dz 104865792 op (dn P T s op)=dn P T s op:=by cases op<;>kernel_rfl
theorem GK {P:Program} {s:Sl} {op:Op}:dz 68719484928 op (dS P s op)=dS P s op:=by cases op<;>kernel_rfl
theorem NA {P:Program} {Z:TS} {O:Hp} {op:Op}:dz 8192 op (ml P Z O op)=ml P Z O op:=by cases op<;>kernel_rfl
def yh (T:bt) (Z:Sl) (op:Op):Option AV:=bU T Z op
def yn (T:bt) (Z:TS) (op:Op):Option CV:=kq T Z op
def Hb (cl:Bool) (T:bt) (Z:TS) (O:Hp) (op:Op):Option (CV×List (Nat×Nat)):=oI cl T Z O op
theorem Ex {T:bt} {Z:Sl} {op:Op}:yh T Z op=bU T Z op:=by cases op<;>kernel_rfl
theorem Ey {T:bt} {Z:TS} {op:Op}:yn T Z op=kq T Z op:=by cases op<;>kernel_rfl
theorem Mt {cl:Bool} {T:bt} {Z:TS} {O:Hp} {op:Op}:Hb cl T Z O op=oI cl T Z O op:=by cases op<;>kernel_rfl
def cK (P:Program) (G:Gl) (T:bt) (cl:Bool) (Z:TS) (O:Hp) (op:Op):Option (CV×List (Nat×Nat)):=
 match dz 51565228327 op (yh T (cZ Z) op)with
 |some y=>some (.d y,[])
 |none=>match dz 51565170727 op (yn T Z op)with
  |some x=>some (x,[])
  |none=>match dz 68753031424 op (Hb cl T Z O op)with
   |some p=>some p
   |none=>match dz 33024 op (iq G T (cZ Z) op)with
    |some y=>some (.d y,[])
    |none=>match cl with
     |false=>none
     |true=>match dz 104865792 op (dn P T (cZ Z) op)with
      |some y=>some (.d y,[])
      |none=>match dz 68719484928 op (dS P (cZ Z) op)with
       |some y=>some (.d y,[])
       |none=>dz 8192 op (ml P Z O op)
section
variable {E:Env} {N K:Nat} {Q:DQ} {Z:TS} {O:Hp} {o:Oper} {x:CV} {all rest:List Oper} {cl:Bool}
theorem NB {ns:List (Nat×Nat)} (h:oI cl E.T Z O o.op=some (x,ns)) (hn:eqs ns):aN E N o Z O x:=by
 unfold oI at h;split at h
 ·rename_i t p ho;split at h
  ·rename_i i off hp;split at h
   ·rename_i cs hi;split at h
    ·rename_i y hl;simp only[ao,bW]at h;obtain⟨rfl,rfl⟩:=h;exact aN.load ho hp hi hl
    ·cases h
   ·rename_i cs hi;split at h
    ·rename_i y hl;simp only[ao,bW]at h;obtain⟨rfl,rfl⟩:=h;exact aN.N9 ho hp hi hl
    ·cases h
   ·cases h
  ·rename_i i n m hp;split at h
   ·cases h
   ·split at h
    ·rename_i e k rows hi;split at h
     ·rename_i r hr;split at h
      ·rename_i y hl;simp only[ao,bW]at h;obtain⟨rfl,rfl⟩:=h;refine aN.EA (ou m k) (qo m k) ho hp hi hn.1 ?_ (by rw[<-bP];exact hr) hl;have:=JO m k;rw[rS]at this;exact this.symm
      ·cases h
     ·cases h
    ·cases h
  ·cases h
 ·rename_i t p ix ho;split at h
  ·cases h
  ·split at h
   ·rename_i i n kd j e k _ _ _ hp hix ht;split at h
    ·rename_i e' k' rows hi;split at h
     ·rename_i hB;simp only[ao,bW]at h;obtain⟨rfl,rfl⟩:=h;simp only[bn,iy]at hB;have h1:=bf hB.1.1;have h2:=bf hB.1.2;subst h1;subst h2;exact aN.FD j ho hp hi hn.1 ht hix rfl hB.2
     ·cases h
    ·rename_i k' rows hi;split at h
     ·rename_i r hk hr;simp only[ao,bW]at h;obtain⟨rfl,rfl⟩:=h;have hk:=bf hk;subst hk;exact aN.OC j ho hp hi hn.1 ht hix rfl (by rw[<-bP];exact hr)
     ·cases h
    ·cases h
   ·cases h
 ·rename_i as ts ho;split at h
  ·rename_i p t h1 h2;obtain⟨as⟩:=as;obtain⟨ts⟩:=ts;simp only at h1 h2;subst h1;subst h2;split at h
   ·rename_i i n e k _ _ _ hp ht;simp only[ao,bW]at h;obtain⟨rfl,rfl⟩:=h;exact aN.len ho hp ht
   ·rename_i y _ hp;split at h
    ·rename_i n hl;simp only[ao,bW]at h;obtain⟨rfl,rfl⟩:=h;exact aN.OD ho hp hl
    ·cases h
   ·cases h
  ·cases h
 ·cases h
theorem pO {ns:List (Nat×Nat)} (h:cK E.P E.G E.T cl Z O o.op=some (x,ns)) (hn:eqs ns):aN E N o Z O x:=by
 unfold cK at h;simp only[Ex,Ey,Mt,GG,GH,N8,GI,GJ,GK,NA]at h;split at h
 ·rename_i y hy;simp only[ao,bW]at h;obtain⟨rfl,rfl⟩:=h;exact aN.bU hy
 ·split at h
  ·rename_i y hy;simp only[ao,bW]at h;obtain⟨rfl,rfl⟩:=h;exact aN.kq hy
  ·split at h
   ·rename_i p hp;simp only[ao]at h;subst h;exact NB hp hn
   ·split at h
    ·rename_i y hy;simp only[ao,bW]at h;obtain⟨rfl,rfl⟩:=h;exact aN.iq hy
    ·split at h
     ·cases h
     ·split at h
      ·rename_i y hy;simp only[ao,bW]at h;obtain⟨rfl,rfl⟩:=h;exact aN.dn hy
      ·split at h
       ·rename_i y hy;simp only[ao,bW]at h;obtain⟨rfl,rfl⟩:=h;exact aN.dS hy
       ·exact aN.ml h hn
inductive fx where
 |push (d:Nat) (x:CV) (c:aR)
 |set (i:Nat) (c:aR) (ns:List (Nat×Nat))
 |app (i d:Nat) (x:CV) (c:aR) (ns:List (Nat×Nat))
 |nD (t e k:Nat)
 |cz (t:Nat) (z:AV) (ns:List (Nat×Nat)) (ms:List (Nat×aR))
def wI (Z:TS):List (Nat×Operand)->Option Nat
 |[]=>none
 |(_,.tmp t)::r=>match Z.get t with
  |some (.d _)=>wI Z r
  |_=>some t
 |_::r=>wI Z r
def wD (Z:TS):List (Nat×Operand)->Option Nat
 |[]=>none
 |(_,.tmp t)::r=>match Z.get t with
  |some (.os _ _)=>some t
  |_=>wD Z r
 |_::r=>wD Z r
mutual
def Oa:CV->Bool
 | .os _ _=>true
 | .agg xs=>xf xs
 |_=>false
def xf:List CV->Bool
 |[]=>false
 |x::r=>Oa x||xf r
end
def xg (Z:TS):Operand->Option (Nat×CV)
 | .tmp u=>match Z.get u with
  |some (.agg xs)=>match xf xs with
   |true=>some (u,.agg xs)
   |false=>none
  |_=>none
 |_=>none
def yx (Z:TS) (O:Hp) (k:Nat) (p:Operand):Option (List (List AV)×List (Nat×Nat)):=match aL Z p with
 |some (.d (.sl k' rows))=>match Nat.beq k k' with
  |true=>some (rows,[])
  |false=>none
 |some (.d (.v (.slice none 0 0)))=>some ([],[])
 |some (.os j n)=>match O.e.get j with
  |some (.row _ k' rows)=>match Nat.beq k k' with
   |true=>some (rows,[(n,rows.length)])
   |false=>none
  |some (.fw k' rows)=>match Nat.beq k k' with
   |true=>some (rows,[(n,rows.length)])
   |false=>none
  |_=>none
 |_=>none
theorem EB {k:Nat} {p:Operand} {rows:List (List AV)} {ns:List (Nat×Nat)} (h:yx Z O k p=some (rows,ns)) (hn:eqs ns):ij E Z O k p rows:=by
 unfold yx at h;split at h
 ·rename_i k' rows' hp;split at h
  ·rename_i hk;simp only[ao,bW]at h;obtain⟨rfl,rfl⟩:=h;have:=bf hk;subst this;exact .sl hp
  ·cases h
 ·rename_i hp;simp only[ao,bW]at h;obtain⟨rfl,rfl⟩:=h;exact .nil hp
 ·rename_i j n hp;split at h
  ·rename_i e k' rows' hi;split at h
   ·rename_i hk;simp only[ao,bW]at h;obtain⟨rfl,rfl⟩:=h;have:=bf hk;subst this;exact .row hp hi hn.1
   ·cases h
  ·rename_i k' rows' hi;split at h
   ·rename_i hk;simp only[ao,bW]at h;obtain⟨rfl,rfl⟩:=h;have:=bf hk;subst this;exact .fz hp hi hn.1
   ·cases h
  ·cases h
 ·cases h
def bQ (cl:Bool) (T:bt) (N:Nat) (Z:TS) (O:Hp) (o:Oper):Option fx:=
 match o.op with
 | .box _ p=>match o.dst,aL Z p with
  |some d,some x=>match Nat.blt d N with
    |true=>some (.push d (.own O.n 0) (.box (cO x)))
    |false=>none
  |_,_=>none
 | .alloc t=>match o.dst,aM T t with
  |some d,some ⟨_,_,_,z⟩=>match Nat.blt d N with
    |true=>some (.push d (.own O.n 0) (.box ((z.map .v).map .d)))
    |false=>none
  |_,_=>none
 | .buildSlice t n parts=>match wI Z parts.toList with
  |some u=>match Z.get u with
    |some x=>match bA O.e 60 [x]with
     |some ([z],ns,ms)=>some (.cz u z ns ms)
     |_=>none
    |none=>none
  |none=>match o.dst,aM T t with
    |some d,some ⟨.slice e k,_,_,_⟩=>match aM T e with
     |some ⟨_,_,_,z'⟩=>match dG k (cZ Z) (eR n (z'.map .v)) parts.toList with
      |some cells=>match Nat.blt d N&&Nat.ble (n*k) 16777216&&Nat.ble 1 k with
       |true=>some (.push d (.os O.n n) (.row e k (chunk n k cells)))
       |false=>none
      |none=>none
     |none=>none
    |_,_=>none
 | .store t p v=>match o.dst with
  |some _=>none
  |none=>match xg Z v with
   |some (u,x)=>match bA O.e 60 [x]with
    |some ([z],ns,ms)=>some (.cz u z ns ms)
    |_=>none
   |none=>match aL Z p,aL Z v,aM T t with
    |some (.own i off),some x,some ti=>match O.e.get i with
     |some (.box cs)=>match Nat.beq (cO x).length ti.size&&iR (cO x),iD cs off (cO x)with
      |true,some cs'=>some (.set i (.box cs') [])
      |_,_=>none
     |_=>none
    |some (.oe i n m),some (.d y),some ti=>match cl with
     |false=>none
     |true=>match O.e.get i with
      |some (.row e k rows)=>match nth rows (ou m k)with
       |some r=>match Nat.beq (bD y).length ti.size&&dE (bD y),dM r (qo m k) (bD y)with
        |true,some r'=>some (.set i (.row e k (rows.set (ou m k) r')) [(n,rows.length)])
        |_,_=>none
       |none=>none
      |_=>none
    |some (.oe _ _ _),some x,_=>match v with
     | .tmp u=>match bA O.e 60 [x]with
      |some ([z],ns,ms)=>some (.cz u z ns ms)
      |_=>none
     |_=>none
    |_,_,_=>none
 | .makeSlice t p q=>match cl with
  |false=>none
  |true=>match o.dst,aM T t with
    |some d,some ⟨.slice e k,_,_,_⟩=>match aM T e,aL Z p,aL Z q with
     |some ⟨_,_,by'',z'⟩,some (.d (.v (.int _ (.ofNat l)))),some (.d (.v (.int _ (.ofNat c))))=>match Nat.blt d N&&Nat.ble (c*by'') 140737488355328&&Nat.ble l c&&Nat.ble 1 k&&Nat.ble 1 by'' with
      |true=>some (.push d (.os O.n l) (.row e k (List.replicate l (z'.map .v))))
      |false=>none
     |_,_,_=>none
    |_,_=>none
 | .call {callee:= .builtin .append,args:=as,argTypes:=ts}=>match o.dst,as.toList,ts.toList with
  |some d,[s,p],[t,t']=>match Nat.beq t t',aM T t with
    |true,some ⟨.slice e k,_,_,_⟩=>match aL Z s with
     |some (.d (.v (.slice none 0 0)))=>match s with
      | .tmp u=>some (.nD u e k)
      |_=>none
     |some (.os i n)=>match cl with
      |false=>none
      |true=>match O.e.get i,yx Z O k p,aM T e with
       |some (.row e' k' rows),some (rows2,ns),some ⟨_,_,by'',_⟩=>match Nat.beq e e'&&Nat.beq k k'&&Nat.ble ((rows++rows2).length*by'') 140737488355328&&eo rows2&&Nat.ble 1 k&&Nat.ble 1 by''&&Nat.blt d N with
        |true=>some (.app i d (.os i (rows++rows2).length) (.row e k (rows++rows2)) ((n,rows.length)::ns))
        |false=>none
       |_,_,_=>none
     |_=>none
    |false,some ⟨.slice e k,_,_,_⟩=>match aM T t' with
     |some ⟨.str,_,_,_⟩=>match aL Z s with
      |some (.d (.v (.slice none 0 0)))=>match s with
       | .tmp u=>some (.nD u e k)
       |_=>none
      |some (.os i n)=>match cl with
       |false=>none
       |true=>match O.e.get i,aL Z p,aM T e with
        |some (.row e' k' rows),some (.d (.v (.string b))),some ⟨_,_,by'',_⟩=>match Nat.beq e e'&&Nat.beq k k'&&Nat.ble ((rows++cy b).length*by'') 140737488355328&&Nat.beq k 1&&Nat.beq by'' 1&&Nat.blt d N with
         |true=>some (.app i d (.os i (rows++cy b).length) (.row e k (rows++cy b)) [(n,rows.length)])
         |false=>none
        |_,_,_=>none
      |_=>none
     |_=>none
    |_,_=>none
  |_,_,_=>none
 |_=>none
theorem Li {v:Operand} {u:Nat} (h:xg Z v=some (u,x)):Z.get u=some x:=by
 unfold xg at h;split at h
 ·split at h
  ·rename_i hx;split at h
   ·simp only[ao,bW]at h;obtain⟨rfl,rfl⟩:=h;exact hx
   ·cases h
  ·cases h
 ·cases h
def fx.ok (E:Env) (N K:Nat) (all rest:List Oper) (Q:DQ) (o:Oper) (Z:TS) (O:Hp):fx->Prop
 | .push d x c=>DO E N K all rest Q (Tr.put 24 Z d (some x)) (O.push c)
 | .set i c ns=>eqs ns/\DO E N K all rest Q Z (O.set i c)
 | .app i d x c ns=>eqs ns/\DO E N K all rest Q (Tr.put 24 Z d (some x)) (O.set i c)
 | .nD t e k=>DO E N K all (o::rest) Q (Tr.put 24 Z t (some (.os O.n 0))) (O.push (.row e k []))
 | .cz t z ns ms=>eqs ns/\DO E N K all (o::rest) Q (Tr.put 24 Z t (some (.d z))) (fA ms O)
theorem pR {h:fx} (hg:o.guard=none) (hh:bQ cl E.T N Z O o=some h) (hk:h.ok E N K all rest Q o Z O):DO E N K all (o::rest) Q Z O:=by
 obtain⟨dst,op,ty,pos,after,gd⟩:=o;simp only at hg;subst hg;unfold bQ at hh;simp only at hh;split at hh
 ·split at hh
  ·rename_i d x hp;split at hh
   ·rename_i hlt;simp only[ao]at hh;subst hh;exact DO.oJ rfl rfl hlt (sM rfl hp) hk
   ·cases hh
  ·cases hh
 ·split at hh
  ·rename_i d _ _ _ z ht;split at hh
   ·rename_i hlt;simp only[ao]at hh;subst hh;exact DO.oJ rfl rfl hlt (sd rfl ht) hk
   ·cases hh
  ·cases hh
 ·rename_i t n parts;split at hh
  ·rename_i u hu;split at hh
   ·rename_i x hx;split at hh
    ·rename_i z ns ms hf;simp only[ao]at hh;subst hh;exact DO.cz 60 hx hf hk.1 hk.2
    ·cases hh
   ·cases hh
  ·split at hh
   ·rename_i d e k _ _ _ ht;split at hh
    ·rename_i _ _ _ z' hte;split at hh
     ·rename_i cells hf;split at hh
      ·rename_i hB;simp only[ao]at hh;subst hh;simp only[bn]at hB;exact DO.lit ht hte hf hB.1.2 hB.2 hB.1.1 hk
      ·cases hh
     ·cases hh
    ·cases hh
   ·cases hh
 ·rename_i t p v;split at hh
  ·cases hh
  split at hh
  ·rename_i u x hu;split at hh
   ·rename_i z ns ms hf;simp only[ao]at hh;subst hh;exact DO.cz 60 (Li hu) hf hk.1 hk.2
   ·cases hh
  ·split at hh
   ·rename_i i off x ti hp hv ht;split at hh
    ·rename_i cs hi;split at hh
     ·rename_i cs' hB hs;simp only[ao]at hh;subst hh;simp only[bn]at hB;exact DO.store rfl rfl rfl hp hv hi ht hB.1 hB.2 hs hk.2
     ·cases hh
    ·cases hh
   ·rename_i i n m y ti hp hv ht;split at hh
    ·cases hh
    ·split at hh
     ·rename_i e k rows hi;split at hh
      ·rename_i r hr;split at hh
       ·rename_i r' hB hs;simp only[ao]at hh;subst hh;simp only[bn]at hB;refine DO.lL (ou m k) (qo m k) rfl rfl rfl hp hv hi hk.1.1 ?_ (by rw[<-bP];exact hr) ht hB.1 hB.2 hs hk.2;have:=JO m k;rw[rS]at this;exact this.symm
       ·cases hh
      ·cases hh
     ·cases hh
   ·rename_i hp hv _;split at hh
    ·split at hh
     ·rename_i u z ns ms hf;simp only[ao]at hh;subst hh;exact DO.cz 60 hv hf hk.1 hk.2
     ·cases hh
    ·cases hh
   ·cases hh
 ·rename_i t p q;split at hh
  ·cases hh
  ·split at hh
   ·rename_i d e k _ _ _ ht;split at hh
    ·rename_i _ _ by'' z' _ l _ c hte hp hq;split at hh
     ·rename_i hB;simp only[ao]at hh;subst hh;simp only[bn]at hB;obtain⟨⟨⟨⟨h1,h2⟩,h3⟩,h4⟩,h5⟩:=hB;exact DO.make l c (cM h2) (cM h3) hp rfl hq rfl ht hte h4 h5 h1 hk
     ·cases hh
    ·cases hh
   ·cases hh
 ·rename_i as ts;split at hh
  ·rename_i d s p t t' ha ht;obtain⟨as⟩:=as;obtain⟨ts⟩:=ts;simp only at ha ht;subst ha;subst ht;split at hh
   ·rename_i e k _ _ _ htt ht;have htt:=bf htt;subst htt;split at hh
    ·rename_i hs;split at hh
     ·rename_i u;simp only[ao]at hh;subst hh;exact DO.fB u e k hs hk
     ·cases hh
    ·rename_i i n hs;split at hh
     ·cases hh
     ·split at hh
      ·rename_i e' k' rows rows2 ns _ _ by'' _ hi hsrc hte;split at hh
       ·rename_i hB;simp only[ao]at hh;subst hh;simp only[bn]at hB;obtain⟨⟨⟨⟨⟨⟨h1,h2⟩,h3⟩,h4⟩,h5⟩,h6⟩,h7⟩:=hB;have h1:=bf h1;have h2:=bf h2;subst h1;subst h2;exact DO.append (cM h3) hs hi hk.1.1 (EB hsrc hk.1.2) ht hte h4 h5 h6 h7 hk.2
       ·cases hh
      ·cases hh
    ·cases hh
   ·rename_i e k _ _ _ htt ht;split at hh
    ·rename_i hu;split at hh
     ·rename_i hs;split at hh
      ·rename_i u;simp only[ao]at hh;subst hh;exact DO.fB u e k hs hk
      ·cases hh
     ·rename_i i n hs;split at hh
      ·cases hh
      ·split at hh
       ·rename_i e' k' rows b _ _ by'' _ hi hsrc hte;split at hh
        ·rename_i hB;simp only[ao]at hh;subst hh;simp only[bn]at hB;obtain⟨⟨⟨⟨⟨h1,h2⟩,h3⟩,h4⟩,h5⟩,h6⟩:=hB;have h1:=bf h1;have h2:=bf h2;subst h1;subst h2;exact DO.wJ (cM h3) hs hi hk.1.1 hsrc ht hu hte h4 h5 h6 hk.2
        ·cases hh
       ·cases hh
     ·cases hh
    ·cases hh
   ·cases hh
  ·cases hh
 ·cases hh
def fx.R (O:Hp):fx->DR->Hp->Prop
 | .push _ x c=>λr O'=>r= .ret x/\O'=O.push c
 | .set i c _=>λr O'=>r= .ret (.d (.v undef))/\O'=O.set i c
 | .app i _ x c _=>λr O'=>r= .ret x/\O'=O.set i c
 | .nD _ _ _=>λ_ _=>False
 | .cz _ _ _ _=>λ_ _=>False
def fx.Hc:fx->List (Nat×Nat)
 | .set _ _ ns=>ns
 | .app _ _ _ _ ns=>ns
 |_=>[]
def fx.fits (o:Oper):fx->Bool
 | .push d _ _=>match o.dst with
  |some d'=>Nat.beq d d'
  |none=>false
 | .set _ _ _=>o.dst.isNone
 | .app _ d _ _ _=>match o.dst with
  |some d'=>Nat.beq d d'
  |none=>false
 |_=>false
def pS:Op->Bool
 | .makeSlice _ _ _=>true
 |_=>false
theorem pE {h:fx} (hmk:pS o.op=false) (hh:bQ cl E.T N Z O o=some h) (hn:eqs h.Hc) (hf:h.fits o=true):bm E N o Z O (h.R O):=by
 obtain⟨dst,op,ty,pos,after,gd⟩:=o;unfold bQ at hh;simp only at hh;split at hh
 ·split at hh
  ·rename_i d x hp;split at hh
   ·simp only[ao]at hh;subst hh;exact bm.new rfl (sM rfl hp)
   ·cases hh
  ·cases hh
 ·split at hh
  ·rename_i d _ _ _ z ht;split at hh
   ·simp only[ao]at hh;subst hh;exact bm.new rfl (sd rfl ht)
   ·cases hh
  ·cases hh
 ·rename_i t n parts;split at hh
  ·split at hh
   ·split at hh
    ·simp only[ao]at hh;subst hh;cases hf
    ·cases hh
   ·cases hh
  ·split at hh
   ·rename_i d e k _ _ _ ht;split at hh
    ·rename_i _ _ _ z' hte;split at hh
     ·rename_i cells hfi;split at hh
      ·rename_i hB;simp only[ao]at hh;subst hh;simp only[bn]at hB;exact bm.lit rfl ht hte hfi hB.1.2 hB.2
      ·cases hh
     ·cases hh
    ·cases hh
   ·cases hh
 ·rename_i t p v;split at hh
  ·cases hh
  split at hh
  ·split at hh
   ·simp only[ao]at hh;subst hh;cases hf
   ·cases hh
  ·split at hh
   ·rename_i i off x ti hp hv ht;split at hh
    ·rename_i cs hi;split at hh
     ·rename_i cs' hB hs;simp only[ao]at hh;subst hh;simp only[bn]at hB;exact bm.store rfl hp hv hi ht hB.1 hB.2 hs
     ·cases hh
    ·cases hh
   ·rename_i i n m y ti hp hv ht;split at hh
    ·cases hh
    ·split at hh
     ·rename_i e k rows hi;split at hh
      ·rename_i r hr;split at hh
       ·rename_i r' hB hs;simp only[ao]at hh;subst hh;simp only[bn]at hB;refine bm.lL (ou m k) (qo m k) rfl hp hv hi hn.1 ?_ (by rw[<-bP];exact hr) ht hB.1 hB.2 hs;have:=JO m k;rw[rS]at this;exact this.symm
       ·cases hh
      ·cases hh
     ·cases hh
   ·split at hh
    ·split at hh
     ·simp only[ao]at hh;subst hh;cases hf
     ·cases hh
    ·cases hh
   ·cases hh
 ·simp[pS]at hmk
 ·rename_i as ts;split at hh
  ·rename_i d s p t t' ha ht;obtain⟨as⟩:=as;obtain⟨ts⟩:=ts;simp only at ha ht;subst ha;subst ht;split at hh
   ·rename_i e k _ _ _ htt ht;have htt:=bf htt;subst htt;split at hh
    ·split at hh
     ·simp only[ao]at hh;subst hh;cases hf
     ·cases hh
    ·rename_i i n hs;split at hh
     ·cases hh
     ·split at hh
      ·rename_i e' k' rows rows2 ns _ _ by'' _ hi hsrc hte;split at hh
       ·rename_i hB;simp only[ao]at hh;subst hh;simp only[bn]at hB;obtain⟨⟨⟨⟨⟨⟨h1,h2⟩,h3⟩,h4⟩,h5⟩,h6⟩,h7⟩:=hB;have h1:=bf h1;have h2:=bf h2;subst h1;subst h2;exact bm.append rfl (cM h3) hs hi hn.1 (EB hsrc hn.2) ht hte h4 h5 h6
       ·cases hh
      ·cases hh
    ·cases hh
   ·rename_i e k _ _ _ htt ht;split at hh
    ·rename_i hu;split at hh
     ·split at hh
      ·simp only[ao]at hh;subst hh;cases hf
      ·cases hh
     ·rename_i i n hs;split at hh
      ·cases hh
      ·split at hh
       ·rename_i e' k' rows b _ _ by'' _ hi hsrc hte;split at hh
        ·rename_i hB;simp only[ao]at hh;subst hh;simp only[bn]at hB;obtain⟨⟨⟨⟨⟨h1,h2⟩,h3⟩,h4⟩,h5⟩,h6⟩:=hB;have h1:=bf h1;have h2:=bf h2;subst h1;subst h2;exact bm.wJ rfl (cM h3) hs hi hn.1 hsrc ht hu hte h4 h5
        ·cases hh
       ·cases hh
     ·cases hh
    ·cases hh
   ·cases hh
  ·cases hh
 ·cases hh
def nE (cl:Bool) (T:bt) (N:Nat):Nat->TS->Hp->Oper->Option (fx×Hp×List (Nat×Nat))
 |0,_,_,_=>none
 |f+1,Z,O,o=>match bQ cl T N Z O o with
  |some (.nD t e k)=>match Z.get t with
   |some (.d (.v (.slice none 0 0)))=>nE cl T N f (Tr.put 24 Z t (some (.os O.n 0))) (O.push (.row e k [])) o
   |_=>none
  |some (.cz t _ _ _)=>match Z.get t,(tmpsOf o).contains t with
   |some x,true=>match bA O.e 60 [x]with
    |some ([z],ns,ms)=>match nE cl T N f (Tr.put 24 Z t (some (.d z))) (fA ms O) o with
     |some (h,O1,ns1)=>some (h,O1,ns++ns1)
     |none=>none
    |_=>none
   |_,_=>none
  |some h=>match h.fits o&& !pS o.op with
   |true=>some (h,O,h.Hc)
   |false=>none
  |none=>none
theorem pk:∀{f:Nat} {Z:TS} {O:Hp} {h:fx} {O1:Hp} {ns:List (Nat×Nat)},nE cl E.T N f Z O o=some (h,O1,ns)->eqs ns->bm E N o Z O (h.R O1)
 |0,_,_,_,_,_,h,_=>by simp[nE]at h
 |f+1,Z,O,h,O1,ns,hp,hn=>by
  simp only[nE]at hp;split at hp
  ·rename_i t e k hh;split at hp
   ·rename_i ht;exact bm.fB t e k ht (pk hp hn)
   ·cases hp
  ·rename_i t z' ns' ms' hh;split at hp
   ·rename_i x hx hc;split at hp
    ·rename_i z ns2 ms hfz;split at hp
     ·rename_i h' O' ns1 hp';simp only[ao,bW]at hp;obtain⟨rfl,rfl,rfl⟩:=hp;obtain⟨g1,g2⟩:=ji hn;exact bm.cz 60 hx hfz g1 (by simpa using hc) (pk hp' g2)
     ·cases hp
    ·cases hp
   ·cases hp
  ·rename_i h' hh;split at hp
   ·rename_i hf;simp only[ao,bW]at hp;obtain⟨rfl,rfl,rfl⟩:=hp;simp only[bn,iA]at hf;exact pE hf.2 hh hn hf.1
   ·cases hp
  ·cases hp
mutual
def fU:AV->AV->Bool
 | .v x,.v y=>tX x y
 | .sl k r,.sl k' r'=>Nat.beq k k'&&oc r r'
 | .agg x,.agg y=>iS x y
 | .bK x,.bK y=>iS x y
 | .ip x,.ip y=>iS x y
 | .fn f a b,.fn f' a' b'=>Nat.beq f f'&&iS a a'&&iS b b'
 | .ba t x,.ba t' y=>Nat.beq t t'&&fU x y
 |_,_=>false
def iS:List AV->List AV->Bool
 |[],[]=>true
 |x::xs,y::ys=>fU x y&&iS xs ys
 |_,_=>false
def oc:List (List AV)->List (List AV)->Bool
 |[],[]=>true
 |x::xs,y::ys=>iS x y&&oc xs ys
 |_,_=>false
end
mutual
theorem wK:∀{x y:AV},fU x y=true->x=y
 | .v x,y,h=>by cases y<;>simp[fU]at h;rw[EC h]
 | .sl k r,y,h=>by
  cases y<;>simp[fU]at h;rw[h.1,vU h.2]
 | .agg x,y,h=>by cases y<;>simp[fU]at h;rw[kK h]
 | .bK x,y,h=>by cases y<;>simp[fU]at h;rw[kK h]
 | .ip x,y,h=>by cases y<;>simp[fU]at h;rw[kK h]
 | .own _ _ _,y,h=>by cases y<;>simp[fU]at h
 | .os _ _ _ _,y,h=>by cases y<;>simp[fU]at h
 | .oe _ _ _,y,h=>by cases y<;>simp[fU]at h
 | .om _ _,y,h=>by cases y<;>simp[fU]at h
 | .fn f a b,y,h=>by
  cases y<;>simp[fU]at h;rw[h.1.1,kK h.1.2,kK h.2]
 | .ba t x,y,h=>by
  cases y<;>simp[fU]at h;rw[h.1,wK h.2]
theorem kK:∀{x y:List AV},iS x y=true->x=y
 |[],y,h=>by cases y<;>simp[iS]at h;rfl
 |x::xs,y,h=>by
  cases y<;>simp[iS]at h;rw[wK h.1,kK h.2]
theorem vU:∀{x y:List (List AV)},oc x y=true->x=y
 |[],y,h=>by cases y<;>simp[oc]at h;rfl
 |x::xs,y,h=>by
  cases y<;>simp[oc]at h;rw[kK h.1,vU h.2]
end
mutual
def gN:CV->CV->Bool
 | .d x,.d y=>fU x y
 | .agg x,.agg y=>jW x y
 | .bK x,.bK y=>jW x y
 | .own t o,.own t' o'=>Nat.beq t t'&&Nat.beq o o'
 | .os t n,.os t' n'=>Nat.beq t t'&&Nat.beq n n'
 | .oe t n o,.oe t' n' o'=>Nat.beq t t'&&Nat.beq n n'&&Nat.beq o o'
 | .om t,.om t'=>Nat.beq t t'
 | .fn f a b,.fn f' a' b'=>Nat.beq f f'&&jW a a'&&jW b b'
 | .ba t x,.ba t' y=>Nat.beq t t'&&gN x y
 |_,_=>false
def jW:List CV->List CV->Bool
 |[],[]=>true
 |x::xs,y::ys=>gN x y&&jW xs ys
 |_,_=>false
end
mutual
theorem wH:∀{x y:CV},gN x y=true->x=y
 | .d x,y,h=>by cases y<;>simp[gN]at h;rw[wK h]
 | .agg x,y,h=>by cases y<;>simp[gN]at h;rw[m9 h]
 | .bK x,y,h=>by cases y<;>simp[gN]at h;rw[m9 h]
 | .own t o,y,h=>by cases y<;>simp[gN]at h;rw[h.1,h.2]
 | .os t o,y,h=>by cases y<;>simp[gN]at h;rw[h.1,h.2]
 | .oe t n o,y,h=>by cases y<;>simp[gN]at h;rw[h.1.1,h.1.2,h.2]
 | .om t,y,h=>by cases y<;>simp[gN]at h;rw[h]
 | .fn f a b,y,h=>by cases y<;>simp[gN]at h;rw[h.1.1,m9 h.1.2,m9 h.2]
 | .ba t x,y,h=>by cases y<;>simp[gN]at h;rw[h.1,wH h.2]
theorem m9:∀{x y:List CV},jW x y=true->x=y
 |[],y,h=>by cases y<;>simp[jW]at h;rfl
 |x::xs,y,h=>by cases y<;>simp[jW]at h;rw[wH h.1,m9 h.2]
end
def iU:aR->aR->Bool
 | .box x,.box y=>jW x y
 | .row e k r,.row e' k' r'=>Nat.beq e e'&&Nat.beq k k'&&oc r r'
 |_,_=>false
theorem ED:∀{x y:aR},iU x y=true->x=y
 | .box x,y,h=>by cases y<;>simp[iU]at h;rw[m9 h]
 | .row e k r,y,h=>by cases y<;>simp[iU]at h;rw[h.1.1,h.1.2,vU h.2]
 | .map _,y,h=>by cases y<;>simp[iU]at h
 | .ir _,y,h=>by cases y<;>simp[iU]at h
 | .fw _ _,y,h=>by cases y<;>simp[iU]at h
 | .set _,y,h=>by cases y<;>simp[iU]at h
 | .bL _,y,h=>by cases y<;>simp[iU]at h
 | .gone,y,h=>by cases y<;>simp[iU]at h
def xG (cl:Bool) (T:bt) (N:Nat) (Z:TS) (O:Hp) (o o':Oper):Option (Nat×aR×Nat×aR):=match o.dst,o'.dst,pS o.op||pS o'.op with
 |none,none,false=>match bQ cl T N Z O o,bQ cl T N Z O o' with
  |some (.set a ca n1),some (.set b cb n2)=>match bQ cl T N Z (O.set a ca) o',bQ cl T N Z (O.set b cb) o with
   |some (.set b' cb' n3),some (.set a' ca' n4)=>match Nat.beq a a'&&Nat.beq b b'&& !Nat.beq a b&&iU ca ca'&&iU cb cb'&&(n1++n2++n3++n4).all λp=>Nat.beq p.1 p.2 with
    |true=>some (a,ca,b,cb)
    |false=>none
   |_,_=>none
  |_,_=>none
 |_,_,_=>none
theorem pw:∀{ns:List (Nat×Nat)},(ns.all λp=>Nat.beq p.1 p.2)=true->eqs ns
 |[],_=>trivial
 |p::r,h=>by simp only[gS,bn]at h;exact⟨bf h.1,pw h.2⟩
theorem LM {o':Oper} {a b:Nat} {ca cb:aR} (h:xG cl E.T N Z O o o'=some (a,ca,b,cb)):o.dst=none/\o'.dst=none/\bm E N o Z O (λr O'=>r= .ret (.d (.v undef))/\O'=O.set a ca)/\bm E N o' Z (O.set a ca) (λr O'=>r= .ret (.d (.v undef))/\O'=(O.set a ca).set b cb)/\
  bm E N o' Z O (λr O'=>r= .ret (.d (.v undef))/\O'=O.set b cb)/\bm E N o Z (O.set b cb) (λr O'=>r= .ret (.d (.v undef))/\O'=(O.set a ca).set b cb):=by
 unfold xG at h;split at h
 ·rename_i hd hd' hm;simp only[Bool.or_eq_false_iff]at hm;split at h
  ·rename_i a1 ca1 n1 b1 cb1 n2 h1 h2;split at h
   ·rename_i b2 cb2 n3 a2 ca2 n4 h3 h4;split at h
    ·rename_i hB;simp only[ao,bW]at h;obtain⟨rfl,rfl,rfl,rfl⟩:=h;simp only[bn,iA]at hB;obtain⟨⟨⟨⟨⟨e1,e2⟩,e3⟩,e4⟩,e5⟩,e6⟩:=hB;have e1:=bf e1;have e2:=bf e2;have e4:=ED e4;have e5:=ED e5;subst e1;subst e2;subst e4;subst e5;have hne:a1≠b1:=eO e3;simp only[List.all_append,bn]at e6;obtain⟨⟨⟨q1,q2⟩,q3⟩,q4⟩:=e6;refine⟨hd,hd',pE hm.1 h1 (pw q1) (by simp[fx.fits,hd]),pE hm.2 h3 (pw q3) (by simp[fx.fits,hd']),pE hm.2 h2 (pw q2) (by simp[fx.fits,hd']),(pE hm.1 h4 (pw q4) (by simp[fx.fits,hd])).mono ?_⟩;rintro r O' ⟨g1,g2⟩;refine⟨g1,g2.trans ?_⟩;simp only[Hp.set];rw[Tr.put_comm 24 O.e b1 a1 _ _ (ga hne)]
    ·cases h
   ·cases h
  ·cases h
 ·cases h
