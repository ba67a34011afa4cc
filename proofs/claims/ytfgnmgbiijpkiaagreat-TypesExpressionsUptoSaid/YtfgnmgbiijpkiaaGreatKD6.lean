/- The abstract machine, sixth part: its step, as a function. -/
import Derived.Test.YtfgnmgbiijpkiaaGreatKD5
import Derived.KernelRfl
set_option linter.all false
noncomputable section
namespace Go.Bw
open Go
def qI (a b:Nat):Nat:=Nat.div a b
def tc (a b:Nat):Nat:=Nat.mod a b
def ra (cl:Bool) (T:bO) (Z:TS) (O:Hp):Op->Option (CV×List (Nat×Nat))
 | .load t p=>match aW Z p with
  |some (.own i off)=>match O.e.get i with
   |some (.box cs)=>match vO T t cs off with
    |some x=>some (x,[])
    |none=>none
   |some (.jG cs)=>match gB T t (cs.drop off) 0 with
    |some y=>some (.d y,[])
    |none=>none
   |_=>none
  |some (.oe i n m)=>match cl with
   |false=>none
   |true=>match O.e.get i with
    |some (.row _ k rows)=>match nth rows (qI m k)with
     |some r=>match gB T t r (tc m k)with
      |some y=>some (.d y,[(n,rows.length)])
      |none=>none
     |none=>none
    |_=>none
  |_=>none
 | .indexAddr t p ix=>match cl with
  |false=>none
  |true=>match aW Z p,aW Z ix,aX T t with
   |some (.os i n),some (.d (.v (.int _ (.ofNat j)))),some ⟨.slice e k,_,_,_⟩=>match O.e.get i with
    |some (.row e' k' rows)=>match Nat.beq e e'&&Nat.beq k k'&&Nat.blt j rows.length with
     |true=>some (.oe i n (j*k),[(n,rows.length)])
     |false=>none
    |some (.gq k' rows)=>match Nat.beq k k',nth rows j with
     |true,some r=>some (.d (.ip r),[(n,rows.length)])
     |_,_=>none
    |_=>none
   |_,_,_=>none
 | .call {callee:= .builtin .len,args:=as,argTypes:=ts}=>match as.toList,ts.toList with
  |[p],[t]=>match aW Z p,aX T t with
   |some (.os _ n),some ⟨.slice _ _,_,_,_⟩=>some (.d (.v (.int .i64 (n:Int))),[])
   |some (.d y),_=>match n9 T t y with
    |some n=>some (.d (.v (.int .i64 n)),[])
    |none=>none
   |_,_=>none
  |_,_=>none
 |_=>none
def VI (op:Op):Nat:= @Op.rec (λ_=>Nat) (λ_=>0) (λ_=>1) (λ_ _ _=>2) (λ_=>3) (λ_ _=>4) (λ_ _=>5) (λ_ _ _=>6) (λ_ _ _ _=>7) (λ_ _=>8) (λ_ _ _=>9) (λ_=>10) (λ_=>11) (λ_=>12) (λ_ _ _ _ _=>13) (λ_ _ _=>14) (λ_ _ _=>15) (λ_ _=>16) (λ_ _=>17) (λ_ _ _=>18) (λ_ _=>19) (λ_ _=>20) (λ_ _ _=>21) (λ_ _ _ _ _=>22) (λ_ _ _=>23) (λ_ _ _=>24) (λ_ _ _=>25) (λ_ _ _=>26) (λ_ _ _ _=>27) (λ_ _ _ _=>28) (λ_ _ _=>29) (λ_ _ _ _=>30) (λ_ _=>31) (λ_ _=>32) (λ_=>33) (λ_ _ _ _=>34) (λ_ _=>35) (λ_=>36) (λ_=>37) (λ_=>38) (λ_=>39) (λ_ _=>40) (λ_ _ _=>41) (λ_ _=>42) op
def VJ (m:Nat) (op:Op):Bool:=Nat.beq (Nat.land (Nat.shiftRight m (VI op)) 1) 1
def eb {D:Type} (m:Nat) (op:Op) (x:Option D):Option D:= @Bool.rec (λ_=>Option D) none x (VJ m op)
theorem Jf {T:bO} {s:Sl} {op:Op}:eb 51565228327 op (cw T s op)=cw T s op:=by cases op<;>kernel_rfl
theorem Jg {T:bO} {Z:TS} {op:Op}:eb 51565170727 op (lS T Z op)=lS T Z op:=by cases op<;>kernel_rfl
theorem Rb {cl:Bool} {T:bO} {Z:TS} {O:Hp} {op:Op}:eb 68753031424 op (ra cl T Z O op)=ra cl T Z O op:=by cases op<;>kernel_rfl
theorem Jh {G:Gl} {T:bO} {s:Sl} {op:Op}:eb 33024 op (jF G T s op)=jF G T s op:=by cases op<;>kernel_rfl
theorem Ji {P:Program} {T:bO} {s:Sl} {op:Op}:eb 104865792 op (dG P T s op)=dG P T s op:=by cases op<;>kernel_rfl
theorem Jj {P:Program} {s:Sl} {op:Op}:eb 68719484928 op (eZ P s op)=eZ P s op:=by cases op<;>kernel_rfl
theorem Qh {P:Program} {Z:TS} {O:Hp} {op:Op}:eb 8192 op (oc P Z O op)=oc P Z O op:=by cases op<;>kernel_rfl
def B8 (T:bO) (Z:Sl) (op:Op):Option AV:=cw T Z op
def B9 (T:bO) (Z:TS) (op:Op):Option CV:=lS T Z op
def KA (cl:Bool) (T:bO) (Z:TS) (O:Hp) (op:Op):Option (CV×List (Nat×Nat)):=ra cl T Z O op
theorem G5 {T:bO} {Z:Sl} {op:Op}:B8 T Z op=cw T Z op:=by cases op<;>kernel_rfl
theorem G6 {T:bO} {Z:TS} {op:Op}:B9 T Z op=lS T Z op:=by cases op<;>kernel_rfl
theorem Pk {cl:Bool} {T:bO} {Z:TS} {O:Hp} {op:Op}:KA cl T Z O op=ra cl T Z O op:=by cases op<;>kernel_rfl
def dk (P:Program) (G:Gl) (T:bO) (cl:Bool) (Z:TS) (O:Hp) (op:Op):Option (CV×List (Nat×Nat)):=
 match eb 51565228327 op (B8 T (dN Z) op)with
 |some y=>some (.d y,[])
 |none=>match eb 51565170727 op (B9 T Z op)with
  |some x=>some (x,[])
  |none=>match eb 68753031424 op (KA cl T Z O op)with
   |some p=>some p
   |none=>match eb 33024 op (jF G T (dN Z) op)with
    |some y=>some (.d y,[])
    |none=>match cl with
     |false=>none
     |true=>match eb 104865792 op (dG P T (dN Z) op)with
      |some y=>some (.d y,[])
      |none=>match eb 68719484928 op (eZ P (dN Z) op)with
       |some y=>some (.d y,[])
       |none=>eb 8192 op (oc P Z O op)
section
variable {E:Env} {N K:Nat} {Q:DQ} {Z:TS} {O:Hp} {o:Oper} {x:CV} {all rest:List Oper} {cl:Bool}
theorem Qi {ns:List (Nat×Nat)} (h:ra cl E.T Z O o.op=some (x,ns)) (hn:eqs ns):a8 E N o Z O x:=by
 unfold ra at h;split at h
 ·rename_i t p ho;split at h
  ·rename_i i off hp;split at h
   ·rename_i cs hi;split at h
    ·rename_i y hl;simp only[aA,cv]at h;obtain⟨rfl,rfl⟩:=h;exact a8.load ho hp hi hl
    ·cases h
   ·rename_i cs hi;split at h
    ·rename_i y hl;simp only[aA,cv]at h;obtain⟨rfl,rfl⟩:=h;exact a8.Rc ho hp hi hl
    ·cases h
   ·cases h
  ·rename_i i n m hp;split at h
   ·cases h
   ·split at h
    ·rename_i e k rows hi;split at h
     ·rename_i r hr;split at h
      ·rename_i y hl;simp only[aA,cv]at h;obtain⟨rfl,rfl⟩:=h;refine a8.G0 (qI m k) (tc m k) ho hp hi hn.1 ?_ (by rw[<-ck];exact hr) hl;have:=Mo m k;rw[uw]at this;exact this.symm
      ·cases h
     ·cases h
    ·cases h
  ·cases h
 ·rename_i t p ix ho;split at h
  ·cases h
  ·split at h
   ·rename_i i n kd j e k _ _ _ hp hix ht;split at h
    ·rename_i e' k' rows hi;split at h
     ·rename_i hB;simp only[aA,cv]at h;obtain⟨rfl,rfl⟩:=h;simp only[bI,jQ]at hB;have h1:=bB hB.1.1;have h2:=bB hB.1.2;subst h1;subst h2;exact a8.Ie j ho hp hi hn.1 ht hix rfl hB.2
     ·cases h
    ·rename_i k' rows hi;split at h
     ·rename_i r hk hr;simp only[aA,cv]at h;obtain⟨rfl,rfl⟩:=h;have hk:=bB hk;subst hk;exact a8.S3 j ho hp hi hn.1 ht hix rfl (by rw[<-ck];exact hr)
     ·cases h
    ·cases h
   ·cases h
 ·rename_i as ts ho;split at h
  ·rename_i p t h1 h2;obtain⟨as⟩:=as;obtain⟨ts⟩:=ts;simp only at h1 h2;subst h1;subst h2;split at h
   ·rename_i i n e k _ _ _ hp ht;simp only[aA,cv]at h;obtain⟨rfl,rfl⟩:=h;exact a8.len ho hp ht
   ·rename_i y _ hp;split at h
    ·rename_i n hl;simp only[aA,cv]at h;obtain⟨rfl,rfl⟩:=h;exact a8.S4 ho hp hl
    ·cases h
   ·cases h
  ·cases h
 ·cases h
theorem sm {ns:List (Nat×Nat)} (h:dk E.P E.G E.T cl Z O o.op=some (x,ns)) (hn:eqs ns):a8 E N o Z O x:=by
 unfold dk at h;simp only[G5,G6,Pk,Jf,Jg,Rb,Jh,Ji,Jj,Qh]at h;split at h
 ·rename_i y hy;simp only[aA,cv]at h;obtain⟨rfl,rfl⟩:=h;exact a8.cw hy
 ·split at h
  ·rename_i y hy;simp only[aA,cv]at h;obtain⟨rfl,rfl⟩:=h;exact a8.lS hy
  ·split at h
   ·rename_i p hp;simp only[aA]at h;subst h;exact Qi hp hn
   ·split at h
    ·rename_i y hy;simp only[aA,cv]at h;obtain⟨rfl,rfl⟩:=h;exact a8.jF hy
    ·split at h
     ·cases h
     ·split at h
      ·rename_i y hy;simp only[aA,cv]at h;obtain⟨rfl,rfl⟩:=h;exact a8.dG hy
      ·split at h
       ·rename_i y hy;simp only[aA,cv]at h;obtain⟨rfl,rfl⟩:=h;exact a8.eZ hy
       ·exact a8.oc h hn
inductive gr where
 |push (d:Nat) (x:CV) (c:bg)
 |set (i:Nat) (c:bg) (ns:List (Nat×Nat))
 |app (i d:Nat) (x:CV) (c:bg) (ns:List (Nat×Nat))
 |qb (t e k:Nat)
 |cH (t:Nat) (z:AV) (ns:List (Nat×Nat)) (ms:List (Nat×bg))
def zN (Z:TS):List (Nat×Operand)->Option Nat
 |[]=>none
 |(_,.tmp t)::r=>match Z.get t with
  |some (.d _)=>zN Z r
  |_=>some t
 |_::r=>zN Z r
def zG (Z:TS):List (Nat×Operand)->Option Nat
 |[]=>none
 |(_,.tmp t)::r=>match Z.get t with
  |some (.os _ _)=>some t
  |_=>zG Z r
 |_::r=>zG Z r
mutual
def Re:CV->Bool
 | .os _ _=>true
 | .agg xs=>Aj xs
 |_=>false
def Aj:List CV->Bool
 |[]=>false
 |x::r=>Re x||Aj r
end
def Ak (Z:TS):Operand->Option (Nat×CV)
 | .tmp u=>match Z.get u with
  |some (.agg xs)=>match Aj xs with
   |true=>some (u,.agg xs)
   |false=>none
  |_=>none
 |_=>none
def B' (Z:TS) (O:Hp) (k:Nat) (p:Operand):Option (List (List AV)×List (Nat×Nat)):=match aW Z p with
 |some (.d (.sl k' rows))=>match Nat.beq k k' with
  |true=>some (rows,[])
  |false=>none
 |some (.d (.v (.slice none 0 0)))=>some ([],[])
 |some (.os j n)=>match O.e.get j with
  |some (.row _ k' rows)=>match Nat.beq k k' with
   |true=>some (rows,[(n,rows.length)])
   |false=>none
  |some (.gq k' rows)=>match Nat.beq k k' with
   |true=>some (rows,[(n,rows.length)])
   |false=>none
  |_=>none
 |_=>none
theorem G8 {k:Nat} {p:Operand} {rows:List (List AV)} {ns:List (Nat×Nat)} (h:B' Z O k p=some (rows,ns)) (hn:eqs ns):jA E Z O k p rows:=by
 unfold B' at h;split at h
 ·rename_i k' rows' hp;split at h
  ·rename_i hk;simp only[aA,cv]at h;obtain⟨rfl,rfl⟩:=h;have:=bB hk;subst this;exact .sl hp
  ·cases h
 ·rename_i hp;simp only[aA,cv]at h;obtain⟨rfl,rfl⟩:=h;exact .nil hp
 ·rename_i j n hp;split at h
  ·rename_i e k' rows' hi;split at h
   ·rename_i hk;simp only[aA,cv]at h;obtain⟨rfl,rfl⟩:=h;have:=bB hk;subst this;exact .row hp hi hn.1
   ·cases h
  ·rename_i k' rows' hi;split at h
   ·rename_i hk;simp only[aA,cv]at h;obtain⟨rfl,rfl⟩:=h;have:=bB hk;subst this;exact .fz hp hi hn.1
   ·cases h
  ·cases h
 ·cases h
def cu (cl:Bool) (T:bO) (N:Nat) (Z:TS) (O:Hp) (o:Oper):Option gr:=
 match o.op with
 | .box _ p=>match o.dst,aW Z p with
  |some d,some x=>match Nat.blt d N with
    |true=>some (.push d (.own O.n 0) (.box (dA x)))
    |false=>none
  |_,_=>none
 | .alloc t=>match o.dst,aX T t with
  |some d,some ⟨_,_,_,z⟩=>match Nat.blt d N with
    |true=>some (.push d (.own O.n 0) (.box ((z.map .v).map .d)))
    |false=>none
  |_,_=>none
 | .buildSlice t n parts=>match zN Z parts.toList with
  |some u=>match Z.get u with
    |some x=>match bY O.e 60 [x]with
     |some ([z],ns,ms)=>some (.cH u z ns ms)
     |_=>none
    |none=>none
  |none=>match o.dst,aX T t with
    |some d,some ⟨.slice e k,_,_,_⟩=>match aX T e with
     |some ⟨_,_,_,z'⟩=>match eh k (dN Z) (fI n (z'.map .v)) parts.toList with
      |some cells=>match Nat.blt d N&&Nat.ble (n*k) 16777216&&Nat.ble 1 k with
       |true=>some (.push d (.os O.n n) (.row e k (chunk n k cells)))
       |false=>none
      |none=>none
     |none=>none
    |_,_=>none
 | .store t p v=>match o.dst with
  |some _=>none
  |none=>match Ak Z v with
   |some (u,x)=>match bY O.e 60 [x]with
    |some ([z],ns,ms)=>some (.cH u z ns ms)
    |_=>none
   |none=>match aW Z p,aW Z v,aX T t with
    |some (.own i off),some x,some ti=>match O.e.get i with
     |some (.box cs)=>match Nat.beq (dA x).length ti.size&&kj (dA x),jY cs off (dA x)with
      |true,some cs'=>some (.set i (.box cs') [])
      |_,_=>none
     |_=>none
    |some (.oe i n m),some (.d y),some ti=>match cl with
     |false=>none
     |true=>match O.e.get i with
      |some (.row e k rows)=>match nth rows (qI m k)with
       |some r=>match Nat.beq (b9 y).length ti.size&&ef (b9 y),eo r (tc m k) (b9 y)with
        |true,some r'=>some (.set i (.row e k (rows.set (qI m k) r')) [(n,rows.length)])
        |_,_=>none
       |none=>none
      |_=>none
    |some (.oe _ _ _),some x,_=>match v with
     | .tmp u=>match bY O.e 60 [x]with
      |some ([z],ns,ms)=>some (.cH u z ns ms)
      |_=>none
     |_=>none
    |_,_,_=>none
 | .makeSlice t p q=>match cl with
  |false=>none
  |true=>match o.dst,aX T t with
    |some d,some ⟨.slice e k,_,_,_⟩=>match aX T e,aW Z p,aW Z q with
     |some ⟨_,_,by'',z'⟩,some (.d (.v (.int _ (.ofNat l)))),some (.d (.v (.int _ (.ofNat c))))=>match Nat.blt d N&&Nat.ble (c*by'') 140737488355328&&Nat.ble l c&&Nat.ble 1 k&&Nat.ble 1 by'' with
      |true=>some (.push d (.os O.n l) (.row e k (List.replicate l (z'.map .v))))
      |false=>none
     |_,_,_=>none
    |_,_=>none
 | .call {callee:= .builtin .append,args:=as,argTypes:=ts}=>match o.dst,as.toList,ts.toList with
  |some d,[s,p],[t,t']=>match Nat.beq t t',aX T t with
    |true,some ⟨.slice e k,_,_,_⟩=>match aW Z s with
     |some (.d (.v (.slice none 0 0)))=>match s with
      | .tmp u=>some (.qb u e k)
      |_=>none
     |some (.os i n)=>match cl with
      |false=>none
      |true=>match O.e.get i,B' Z O k p,aX T e with
       |some (.row e' k' rows),some (rows2,ns),some ⟨_,_,by'',_⟩=>match Nat.beq e e'&&Nat.beq k k'&&Nat.ble ((rows++rows2).length*by'') 140737488355328&&fF rows2&&Nat.ble 1 k&&Nat.ble 1 by''&&Nat.blt d N with
        |true=>some (.app i d (.os i (rows++rows2).length) (.row e k (rows++rows2)) ((n,rows.length)::ns))
        |false=>none
       |_,_,_=>none
     |_=>none
    |false,some ⟨.slice e k,_,_,_⟩=>match aX T t' with
     |some ⟨.str,_,_,_⟩=>match aW Z s with
      |some (.d (.v (.slice none 0 0)))=>match s with
       | .tmp u=>some (.qb u e k)
       |_=>none
      |some (.os i n)=>match cl with
       |false=>none
       |true=>match O.e.get i,aW Z p,aX T e with
        |some (.row e' k' rows),some (.d (.v (.string b))),some ⟨_,_,by'',_⟩=>match Nat.beq e e'&&Nat.beq k k'&&Nat.ble ((rows++dj b).length*by'') 140737488355328&&Nat.beq k 1&&Nat.beq by'' 1&&Nat.blt d N with
         |true=>some (.app i d (.os i (rows++dj b).length) (.row e k (rows++dj b)) [(n,rows.length)])
         |false=>none
        |_,_,_=>none
      |_=>none
     |_=>none
    |_,_=>none
  |_,_,_=>none
 |_=>none
theorem NU {v:Operand} {u:Nat} (h:Ak Z v=some (u,x)):Z.get u=some x:=by
 unfold Ak at h;split at h
 ·split at h
  ·rename_i hx;split at h
   ·simp only[aA,cv]at h;obtain⟨rfl,rfl⟩:=h;exact hx
   ·cases h
  ·cases h
 ·cases h
def gr.ok (E:Env) (N K:Nat) (all rest:List Oper) (Q:DQ) (o:Oper) (Z:TS) (O:Hp):gr->Prop
 | .push d x c=>DO E N K all rest Q (Tr.put 24 Z d (some x)) (O.push c)
 | .set i c ns=>eqs ns/\DO E N K all rest Q Z (O.set i c)
 | .app i d x c ns=>eqs ns/\DO E N K all rest Q (Tr.put 24 Z d (some x)) (O.set i c)
 | .qb t e k=>DO E N K all (o::rest) Q (Tr.put 24 Z t (some (.os O.n 0))) (O.push (.row e k []))
 | .cH t z ns ms=>eqs ns/\DO E N K all (o::rest) Q (Tr.put 24 Z t (some (.d z))) (gz ms O)
theorem so {h:gr} (hg:o.guard=none) (hh:cu cl E.T N Z O o=some h) (hk:h.ok E N K all rest Q o Z O):DO E N K all (o::rest) Q Z O:=by
 obtain⟨dst,op,ty,pos,after,gd⟩:=o;simp only at hg;subst hg;unfold cu at hh;simp only at hh;split at hh
 ·split at hh
  ·rename_i d x hp;split at hh
   ·rename_i hlt;simp only[aA]at hh;subst hh;exact DO.rb rfl rfl hlt (vo rfl hp) hk
   ·cases hh
  ·cases hh
 ·split at hh
  ·rename_i d _ _ _ z ht;split at hh
   ·rename_i hlt;simp only[aA]at hh;subst hh;exact DO.rb rfl rfl hlt (uP rfl ht) hk
   ·cases hh
  ·cases hh
 ·rename_i t n parts;split at hh
  ·rename_i u hu;split at hh
   ·rename_i x hx;split at hh
    ·rename_i z ns ms hf;simp only[aA]at hh;subst hh;exact DO.cH 60 hx hf hk.1 hk.2
    ·cases hh
   ·cases hh
  ·split at hh
   ·rename_i d e k _ _ _ ht;split at hh
    ·rename_i _ _ _ z' hte;split at hh
     ·rename_i cells hf;split at hh
      ·rename_i hB;simp only[aA]at hh;subst hh;simp only[bI]at hB;exact DO.lit ht hte hf hB.1.2 hB.2 hB.1.1 hk
      ·cases hh
     ·cases hh
    ·cases hh
   ·cases hh
 ·rename_i t p v;split at hh
  ·cases hh
  split at hh
  ·rename_i u x hu;split at hh
   ·rename_i z ns ms hf;simp only[aA]at hh;subst hh;exact DO.cH 60 (NU hu) hf hk.1 hk.2
   ·cases hh
  ·split at hh
   ·rename_i i off x ti hp hv ht;split at hh
    ·rename_i cs hi;split at hh
     ·rename_i cs' hB hs;simp only[aA]at hh;subst hh;simp only[bI]at hB;exact DO.store rfl rfl rfl hp hv hi ht hB.1 hB.2 hs hk.2
     ·cases hh
    ·cases hh
   ·rename_i i n m y ti hp hv ht;split at hh
    ·cases hh
    ·split at hh
     ·rename_i e k rows hi;split at hh
      ·rename_i r hr;split at hh
       ·rename_i r' hB hs;simp only[aA]at hh;subst hh;simp only[bI]at hB;refine DO.nf (qI m k) (tc m k) rfl rfl rfl hp hv hi hk.1.1 ?_ (by rw[<-ck];exact hr) ht hB.1 hB.2 hs hk.2;have:=Mo m k;rw[uw]at this;exact this.symm
       ·cases hh
      ·cases hh
     ·cases hh
   ·rename_i hp hv _;split at hh
    ·split at hh
     ·rename_i u z ns ms hf;simp only[aA]at hh;subst hh;exact DO.cH 60 hv hf hk.1 hk.2
     ·cases hh
    ·cases hh
   ·cases hh
 ·rename_i t p q;split at hh
  ·cases hh
  ·split at hh
   ·rename_i d e k _ _ _ ht;split at hh
    ·rename_i _ _ by'' z' _ l _ c hte hp hq;split at hh
     ·rename_i hB;simp only[aA]at hh;subst hh;simp only[bI]at hB;obtain⟨⟨⟨⟨h1,h2⟩,h3⟩,h4⟩,h5⟩:=hB;exact DO.make l c (dw h2) (dw h3) hp rfl hq rfl ht hte h4 h5 h1 hk
     ·cases hh
    ·cases hh
   ·cases hh
 ·rename_i as ts;split at hh
  ·rename_i d s p t t' ha ht;obtain⟨as⟩:=as;obtain⟨ts⟩:=ts;simp only at ha ht;subst ha;subst ht;split at hh
   ·rename_i e k _ _ _ htt ht;have htt:=bB htt;subst htt;split at hh
    ·rename_i hs;split at hh
     ·rename_i u;simp only[aA]at hh;subst hh;exact DO.gA u e k hs hk
     ·cases hh
    ·rename_i i n hs;split at hh
     ·cases hh
     ·split at hh
      ·rename_i e' k' rows rows2 ns _ _ by'' _ hi hsrc hte;split at hh
       ·rename_i hB;simp only[aA]at hh;subst hh;simp only[bI]at hB;obtain⟨⟨⟨⟨⟨⟨h1,h2⟩,h3⟩,h4⟩,h5⟩,h6⟩,h7⟩:=hB;have h1:=bB h1;have h2:=bB h2;subst h1;subst h2;exact DO.append (dw h3) hs hi hk.1.1 (G8 hsrc hk.1.2) ht hte h4 h5 h6 h7 hk.2
       ·cases hh
      ·cases hh
    ·cases hh
   ·rename_i e k _ _ _ htt ht;split at hh
    ·rename_i hu;split at hh
     ·rename_i hs;split at hh
      ·rename_i u;simp only[aA]at hh;subst hh;exact DO.gA u e k hs hk
      ·cases hh
     ·rename_i i n hs;split at hh
      ·cases hh
      ·split at hh
       ·rename_i e' k' rows b _ _ by'' _ hi hsrc hte;split at hh
        ·rename_i hB;simp only[aA]at hh;subst hh;simp only[bI]at hB;obtain⟨⟨⟨⟨⟨h1,h2⟩,h3⟩,h4⟩,h5⟩,h6⟩:=hB;have h1:=bB h1;have h2:=bB h2;subst h1;subst h2;exact DO.zO (dw h3) hs hi hk.1.1 hsrc ht hu hte h4 h5 h6 hk.2
        ·cases hh
       ·cases hh
     ·cases hh
    ·cases hh
   ·cases hh
  ·cases hh
 ·cases hh
def gr.R (O:Hp):gr->DR->Hp->Prop
 | .push _ x c=>λr η'=>r= .ret x/\η'=O.push c
 | .set i c _=>λr η'=>r= .ret (.d (.v undef))/\η'=O.set i c
 | .app i _ x c _=>λr η'=>r= .ret x/\η'=O.set i c
 | .qb _ _ _=>λ_ _=>False
 | .cH _ _ _ _=>λ_ _=>False
def gr.KC:gr->List (Nat×Nat)
 | .set _ _ ns=>ns
 | .app _ _ _ _ ns=>ns
 |_=>[]
def gr.fits (o:Oper):gr->Bool
 | .push d _ _=>match o.dst with
  |some d'=>Nat.beq d d'
  |none=>false
 | .set _ _ _=>o.dst.isNone
 | .app _ d _ _ _=>match o.dst with
  |some d'=>Nat.beq d d'
  |none=>false
 |_=>false
def sq:Op->Bool
 | .makeSlice _ _ _=>true
 |_=>false
theorem rS {h:gr} (hmk:sq o.op=false) (hh:cu cl E.T N Z O o=some h) (hn:eqs h.KC) (hf:h.fits o=true):bH E N o Z O (h.R O):=by
 obtain⟨dst,op,ty,pos,after,gd⟩:=o;unfold cu at hh;simp only at hh;split at hh
 ·split at hh
  ·rename_i d x hp;split at hh
   ·simp only[aA]at hh;subst hh;exact bH.new rfl (vo rfl hp)
   ·cases hh
  ·cases hh
 ·split at hh
  ·rename_i d _ _ _ z ht;split at hh
   ·simp only[aA]at hh;subst hh;exact bH.new rfl (uP rfl ht)
   ·cases hh
  ·cases hh
 ·rename_i t n parts;split at hh
  ·split at hh
   ·split at hh
    ·simp only[aA]at hh;subst hh;cases hf
    ·cases hh
   ·cases hh
  ·split at hh
   ·rename_i d e k _ _ _ ht;split at hh
    ·rename_i _ _ _ z' hte;split at hh
     ·rename_i cells hfi;split at hh
      ·rename_i hB;simp only[aA]at hh;subst hh;simp only[bI]at hB;exact bH.lit rfl ht hte hfi hB.1.2 hB.2
      ·cases hh
     ·cases hh
    ·cases hh
   ·cases hh
 ·rename_i t p v;split at hh
  ·cases hh
  split at hh
  ·split at hh
   ·simp only[aA]at hh;subst hh;cases hf
   ·cases hh
  ·split at hh
   ·rename_i i off x ti hp hv ht;split at hh
    ·rename_i cs hi;split at hh
     ·rename_i cs' hB hs;simp only[aA]at hh;subst hh;simp only[bI]at hB;exact bH.store rfl hp hv hi ht hB.1 hB.2 hs
     ·cases hh
    ·cases hh
   ·rename_i i n m y ti hp hv ht;split at hh
    ·cases hh
    ·split at hh
     ·rename_i e k rows hi;split at hh
      ·rename_i r hr;split at hh
       ·rename_i r' hB hs;simp only[aA]at hh;subst hh;simp only[bI]at hB;refine bH.nf (qI m k) (tc m k) rfl hp hv hi hn.1 ?_ (by rw[<-ck];exact hr) ht hB.1 hB.2 hs;have:=Mo m k;rw[uw]at this;exact this.symm
       ·cases hh
      ·cases hh
     ·cases hh
   ·split at hh
    ·split at hh
     ·simp only[aA]at hh;subst hh;cases hf
     ·cases hh
    ·cases hh
   ·cases hh
 ·simp[sq]at hmk
 ·rename_i as ts;split at hh
  ·rename_i d s p t t' ha ht;obtain⟨as⟩:=as;obtain⟨ts⟩:=ts;simp only at ha ht;subst ha;subst ht;split at hh
   ·rename_i e k _ _ _ htt ht;have htt:=bB htt;subst htt;split at hh
    ·split at hh
     ·simp only[aA]at hh;subst hh;cases hf
     ·cases hh
    ·rename_i i n hs;split at hh
     ·cases hh
     ·split at hh
      ·rename_i e' k' rows rows2 ns _ _ by'' _ hi hsrc hte;split at hh
       ·rename_i hB;simp only[aA]at hh;subst hh;simp only[bI]at hB;obtain⟨⟨⟨⟨⟨⟨h1,h2⟩,h3⟩,h4⟩,h5⟩,h6⟩,h7⟩:=hB;have h1:=bB h1;have h2:=bB h2;subst h1;subst h2;exact bH.append rfl (dw h3) hs hi hn.1 (G8 hsrc hn.2) ht hte h4 h5 h6
       ·cases hh
      ·cases hh
    ·cases hh
   ·rename_i e k _ _ _ htt ht;split at hh
    ·rename_i hu;split at hh
     ·split at hh
      ·simp only[aA]at hh;subst hh;cases hf
      ·cases hh
     ·rename_i i n hs;split at hh
      ·cases hh
      ·split at hh
       ·rename_i e' k' rows b _ _ by'' _ hi hsrc hte;split at hh
        ·rename_i hB;simp only[aA]at hh;subst hh;simp only[bI]at hB;obtain⟨⟨⟨⟨⟨h1,h2⟩,h3⟩,h4⟩,h5⟩,h6⟩:=hB;have h1:=bB h1;have h2:=bB h2;subst h1;subst h2;exact bH.zO rfl (dw h3) hs hi hn.1 hsrc ht hu hte h4 h5
        ·cases hh
       ·cases hh
     ·cases hh
    ·cases hh
   ·cases hh
  ·cases hh
 ·cases hh
def qc (cl:Bool) (T:bO) (N:Nat):Nat->TS->Hp->Oper->Option (gr×Hp×List (Nat×Nat))
 |0,_,_,_=>none
 |f+1,Z,O,o=>match cu cl T N Z O o with
  |some (.qb t e k)=>match Z.get t with
   |some (.d (.v (.slice none 0 0)))=>qc cl T N f (Tr.put 24 Z t (some (.os O.n 0))) (O.push (.row e k [])) o
   |_=>none
  |some (.cH t _ _ _)=>match Z.get t,(tmpsOf o).contains t with
   |some x,true=>match bY O.e 60 [x]with
    |some ([z],ns,ms)=>match qc cl T N f (Tr.put 24 Z t (some (.d z))) (gz ms O) o with
     |some (h,O1,ns1)=>some (h,O1,ns++ns1)
     |none=>none
    |_=>none
   |_,_=>none
  |some h=>match h.fits o&& !sq o.op with
   |true=>some (h,O,h.KC)
   |false=>none
  |none=>none
theorem rD:∀{f:Nat} {Z:TS} {O:Hp} {h:gr} {O1:Hp} {ns:List (Nat×Nat)},qc cl E.T N f Z O o=some (h,O1,ns)->eqs ns->bH E N o Z O (h.R O1)
 |0,_,_,_,_,_,h,_=>by simp[qc]at h
 |f+1,Z,O,h,O1,ns,hp,hn=>by
  simp only[qc]at hp;split at hp
  ·rename_i t e k hh;split at hp
   ·rename_i ht;exact bH.gA t e k ht (rD hp hn)
   ·cases hp
  ·rename_i t z' ns' ms' hh;split at hp
   ·rename_i x hx hc;split at hp
    ·rename_i z ns2 ms hfz;split at hp
     ·rename_i h' η' ns1 hp';simp only[aA,cv]at hp;obtain⟨rfl,rfl,rfl⟩:=hp;obtain⟨g1,g2⟩:=kA hn;exact bH.cH 60 hx hfz g1 (by simpa using hc) (rD hp' g2)
     ·cases hp
    ·cases hp
   ·cases hp
  ·rename_i h' hh;split at hp
   ·rename_i hf;simp only[aA,cv]at hp;obtain⟨rfl,rfl,rfl⟩:=hp;simp only[bI,je]at hf;exact rS hf.2 hh hn hf.1
   ·cases hp
  ·cases hp
mutual
def gR:AV->AV->Bool
 | .v x,.v y=>wh x y
 | .sl k r,.sl k' r'=>Nat.beq k k'&&qn r r'
 | .agg x,.agg y=>km x y
 | .bK x,.bK y=>km x y
 | .ip x,.ip y=>km x y
 | .fn f a b,.fn f' a' b'=>Nat.beq f f'&&km a a'&&km b b'
 | .bu t x,.bu t' y=>Nat.beq t t'&&gR x y
 |_,_=>false
def km:List AV->List AV->Bool
 |[],[]=>true
 |x::xs,y::ys=>gR x y&&km xs ys
 |_,_=>false
def qn:List (List AV)->List (List AV)->Bool
 |[],[]=>true
 |x::xs,y::ys=>km x y&&qn xs ys
 |_,_=>false
end
mutual
theorem zQ:∀{x y:AV},gR x y=true->x=y
 | .v x,y,h=>by cases y<;>simp[gR]at h;rw[G9 h]
 | .sl k r,y,h=>by
  cases y<;>simp[gR]at h;rw[h.1,yR h.2]
 | .agg x,y,h=>by cases y<;>simp[gR]at h;rw[l8 h]
 | .bK x,y,h=>by cases y<;>simp[gR]at h;rw[l8 h]
 | .ip x,y,h=>by cases y<;>simp[gR]at h;rw[l8 h]
 | .own _ _ _,y,h=>by cases y<;>simp[gR]at h
 | .os _ _ _ _,y,h=>by cases y<;>simp[gR]at h
 | .oe _ _ _,y,h=>by cases y<;>simp[gR]at h
 | .om _ _,y,h=>by cases y<;>simp[gR]at h
 | .fn f a b,y,h=>by
  cases y<;>simp[gR]at h;rw[h.1.1,l8 h.1.2,l8 h.2]
 | .bu t x,y,h=>by
  cases y<;>simp[gR]at h;rw[h.1,zQ h.2]
theorem l8:∀{x y:List AV},km x y=true->x=y
 |[],y,h=>by cases y<;>simp[km]at h;rfl
 |x::xs,y,h=>by
  cases y<;>simp[km]at h;rw[zQ h.1,l8 h.2]
theorem yR:∀{x y:List (List AV)},qn x y=true->x=y
 |[],y,h=>by cases y<;>simp[qn]at h;rfl
 |x::xs,y,h=>by
  cases y<;>simp[qn]at h;rw[l8 h.1,yR h.2]
end
mutual
def ja:CV->CV->Bool
 | .d x,.d y=>gR x y
 | .agg x,.agg y=>lF x y
 | .bK x,.bK y=>lF x y
 | .own t o,.own t' o'=>Nat.beq t t'&&Nat.beq o o'
 | .os t n,.os t' n'=>Nat.beq t t'&&Nat.beq n n'
 | .oe t n o,.oe t' n' o'=>Nat.beq t t'&&Nat.beq n n'&&Nat.beq o o'
 | .om t,.om t'=>Nat.beq t t'
 | .fn f a b,.fn f' a' b'=>Nat.beq f f'&&lF a a'&&lF b b'
 | .bu t x,.bu t' y=>Nat.beq t t'&&ja x y
 |_,_=>false
def lF:List CV->List CV->Bool
 |[],[]=>true
 |x::xs,y::ys=>ja x y&&lF xs ys
 |_,_=>false
end
mutual
theorem zK:∀{x y:CV},ja x y=true->x=y
 | .d x,y,h=>by cases y<;>simp[ja]at h;rw[zQ h]
 | .agg x,y,h=>by cases y<;>simp[ja]at h;rw[po h]
 | .bK x,y,h=>by cases y<;>simp[ja]at h;rw[po h]
 | .own t o,y,h=>by cases y<;>simp[ja]at h;rw[h.1,h.2]
 | .os t o,y,h=>by cases y<;>simp[ja]at h;rw[h.1,h.2]
 | .oe t n o,y,h=>by cases y<;>simp[ja]at h;rw[h.1.1,h.1.2,h.2]
 | .om t,y,h=>by cases y<;>simp[ja]at h;rw[h]
 | .fn f a b,y,h=>by cases y<;>simp[ja]at h;rw[h.1.1,po h.1.2,po h.2]
 | .bu t x,y,h=>by cases y<;>simp[ja]at h;rw[h.1,zK h.2]
theorem po:∀{x y:List CV},lF x y=true->x=y
 |[],y,h=>by cases y<;>simp[lF]at h;rfl
 |x::xs,y,h=>by cases y<;>simp[lF]at h;rw[zK h.1,po h.2]
end
def kp:bg->bg->Bool
 | .box x,.box y=>lF x y
 | .row e k r,.row e' k' r'=>Nat.beq e e'&&Nat.beq k k'&&qn r r'
 |_,_=>false
theorem G':∀{x y:bg},kp x y=true->x=y
 | .box x,y,h=>by cases y<;>simp[kp]at h;rw[po h]
 | .row e k r,y,h=>by cases y<;>simp[kp]at h;rw[h.1.1,h.1.2,yR h.2]
 | .map _,y,h=>by cases y<;>simp[kp]at h
 | .jG _,y,h=>by cases y<;>simp[kp]at h
 | .gq _ _,y,h=>by cases y<;>simp[kp]at h
 | .set _,y,h=>by cases y<;>simp[kp]at h
 | .iy _,y,h=>by cases y<;>simp[kp]at h
 | .gone,y,h=>by cases y<;>simp[kp]at h
def A4 (cl:Bool) (T:bO) (N:Nat) (Z:TS) (O:Hp) (o o':Oper):Option (Nat×bg×Nat×bg):=match o.dst,o'.dst,sq o.op||sq o'.op with
 |none,none,false=>match cu cl T N Z O o,cu cl T N Z O o' with
  |some (.set a ca n1),some (.set b cb n2)=>match cu cl T N Z (O.set a ca) o',cu cl T N Z (O.set b cb) o with
   |some (.set b' cb' n3),some (.set a' ca' n4)=>match Nat.beq a a'&&Nat.beq b b'&& !Nat.beq a b&&kp ca ca'&&kp cb cb'&&(n1++n2++n3++n4).all λp=>Nat.beq p.1 p.2 with
    |true=>some (a,ca,b,cb)
    |false=>none
   |_,_=>none
  |_,_=>none
 |_,_,_=>none
theorem rN:∀{ns:List (Nat×Nat)},(ns.all λp=>Nat.beq p.1 p.2)=true->eqs ns
 |[],_=>trivial
 |p::r,h=>by simp only[jg,bI]at h;exact⟨bB h.1,rN h.2⟩
theorem OC {o':Oper} {a b:Nat} {ca cb:bg} (h:A4 cl E.T N Z O o o'=some (a,ca,b,cb)):o.dst=none/\o'.dst=none/\bH E N o Z O (λr η'=>r= .ret (.d (.v undef))/\η'=O.set a ca)/\bH E N o' Z (O.set a ca) (λr η'=>r= .ret (.d (.v undef))/\η'=(O.set a ca).set b cb)/\
  bH E N o' Z O (λr η'=>r= .ret (.d (.v undef))/\η'=O.set b cb)/\bH E N o Z (O.set b cb) (λr η'=>r= .ret (.d (.v undef))/\η'=(O.set a ca).set b cb):=by
 unfold A4 at h;split at h
 ·rename_i hd hd' hm;simp only[Bool.or_eq_false_iff]at hm;split at h
  ·rename_i a1 ca1 n1 b1 cb1 n2 h1 h2;split at h
   ·rename_i b2 cb2 n3 a2 ca2 n4 h3 h4;split at h
    ·rename_i hB;simp only[aA,cv]at h;obtain⟨rfl,rfl,rfl,rfl⟩:=h;simp only[bI,je]at hB;obtain⟨⟨⟨⟨⟨e1,e2⟩,e3⟩,e4⟩,e5⟩,e6⟩:=hB;have e1:=bB e1;have e2:=bB e2;have e4:=G' e4;have e5:=G' e5;subst e1;subst e2;subst e4;subst e5;have hne:a1≠b1:=fE e3;simp only[List.all_append,bI]at e6;obtain⟨⟨⟨q1,q2⟩,q3⟩,q4⟩:=e6;refine⟨hd,hd',rS hm.1 h1 (rN q1) (by simp[gr.fits,hd]),rS hm.2 h3 (rN q3) (by simp[gr.fits,hd']),rS hm.2 h2 (rN q2) (by simp[gr.fits,hd']),(rS hm.1 h4 (rN q4) (by simp[gr.fits,hd])).mono ?_⟩;rintro r η' ⟨g1,g2⟩;refine⟨g1,g2.trans ?_⟩;simp only[Hp.set];rw[Tr.put_comm 24 O.e b1 a1 _ _ (gX hne)]
    ·cases h
   ·cases h
  ·cases h
 ·cases h
