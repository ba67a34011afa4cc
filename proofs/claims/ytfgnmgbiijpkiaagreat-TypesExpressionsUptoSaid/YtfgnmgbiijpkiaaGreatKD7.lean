/- The abstract machine, seventh part: many steps at once; a run from beginning to end. -/
import Derived.Test.YtfgnmgbiijpkiaaGreatKD6
set_option linter.all false
noncomputable section
namespace Go.Bw
open Go
def Jd (m:List Nat):List Edge->Nat
 |[]=>0
 |e::r=>Nat.lor (Jd m r) (Nat.lor (Nat.shiftLeft 1 e.on) ((nth m e.on).getD 0))
def Kw:List Oper->List Nat->List Nat
 |[],m=>m
 |o::r,m=>Kw r (m++[Jd m (o.after.toList.filter λe=>Region.binds .any e)])
def Kx (imp:Nat->Bool):Op->Bool
 | .store _ _ _=>true
 | .makeSlice _ _ _=>true
 | .mapUpdate _ _ _ _=>true
 | .makeMap _ _=>true
 | .panic _=>true
 | .defer _=>true
 | .range _ _=>true
 | .next _ _=>true
 | .entry _=>true
 | .call c=>match c.callee with
  | .builtin .append=>true
  | .builtin .len=>false
  | .builtin _=>true
  | .value (.func g)=>imp g
  | .value _=>true
  | .invoke _ _=>true
 |_=>false
def we (d:Nat):List Oper->Bool
 |[]=>false
 |o::r=>match o.op with
  | .call {callee:= .builtin .append,args:=as,argTypes:=_}=>match as.toList with
   | .tmp t::_=>match Nat.beq t d with
    |true=>true
    |false=>we d r
   |_=>we d r
  |_=>we d r
def B3 (all:List Oper) (o:Oper):Bool:=match o.op,o.dst with
 | .buildSlice _ _ _,some d=>we d all
 |_,_=>false
def B5 (imp:Nat->Bool) (all:List Oper):Nat->List Oper->List Nat
 |_,[]=>[]
 |i,o::r=>match Kx imp o.op||B3 all o with
  |true=>i::B5 imp all (i+1) r
  |false=>B5 imp all (i+1) r
def Je (m:List Nat):Nat->Nat->List Nat->List Nat
 |0,_,t=>t
 |f+1,n,t=>
  let new:=(List.range n).filter λi=>!t.contains i&&t.any λj=>!Nat.testBit ((nth m j).getD 0) i
  match new with
  |[]=>t
  |_::_=>Je m f n (t++new)
def Il (imp:Nat->Bool) (o:Oper):Bool:=match o.op with
 | .box _ _=>false
 | .alloc _=>false
 | .call c=>match c.callee with
  | .builtin .len=>true
  | .value (.func g)=>!imp g
  | .value _=>false
  |_=>false
 |op=>!Kx imp op
def Q7 (imp:Nat->Bool) (ops:List Oper):List Nat×List (Nat×TK):=
 let t:=Je (Kw ops []) 60 ops.length (B5 imp ops 0 ops)
 ((List.range ops.length).filter λi=>!t.contains i,((List.range ops.length).filter λi=>t.contains i).map λi=>(i,match nth ops i with
  |some o=>match Il imp o&& !B3 ops o with
   |true=> .fl
   |false=> .one
  |none=> .one))
def VH (o:Oper):Bool:=match o.op,o.dst,o.guard with
 | .alloc _,some _,none=>o.after.all λe=>!Region.binds .any e
 |_,_,_=>false
def vK (imp:Nat->Bool) (ops:Array Oper):Nat->Array Bool->List (Nat×TK)
 |0,_=>[]
 |f+1,listed=>match Region.ready .any ops listed with
  |[]=>[]
  |i::r=>match(i::r).find? λi=>match ops[i]? with
    |some o=>Il imp o&& !B3 ops.toList o
    |none=>false with
   |some j=>(j,.fl)::vK imp ops f (listed.setIfInBounds j true)
   |none=>match r with
    |[]=>(i,.one)::vK imp ops f (listed.setIfInBounds i true)
    |[j]=>(i,.two)::(j,.one)::vK imp ops f ((listed.setIfInBounds i true).setIfInBounds j true)
    |_=>[]
def w3:Nat->List Oper->List Nat
 |_,[]=>[]
 |i,o::r=>match VH o with
  |true=>i::w3 (i+1) r
  |false=>w3 (i+1) r
def Q8 (imp:Nat->Bool) (ops:List Oper):List Nat×List (Nat×TK)×List Nat:=match Q7 imp ops with
 |(pre,tl)=>match mr ops.toArray pre tl []with
  |true=>(pre,tl,[])
  |false=>([],vK imp ops.toArray ops.length (iO (w3 0 ops) (Array.replicate ops.length false)),w3 0 ops)
inductive Out where
 |stuck (N K:Nat) (todo:List It) (Z:TS) (O:Hp) (ns:List (Nat×Nat))
 |cond (b:Bool) (N K:Nat) (t1:List It) (s1:TS) (t2:List It) (s2:TS) (O:Hp) (ns:List (Nat×Nat))
 |fin (e:DE) (Z:TS) (O:Hp) (ns:List (Nat×Nat))
inductive Nx where
 |go (N K:Nat) (todo:List It) (Z:TS) (O:Hp) (ns:List (Nat×Nat))
 |out (o:Out)
def Out.ok (E:Env) (Q:DQ):Out->Prop
 | .stuck N K todo Z O ns=>eqs ns/\af E N K todo Q Z O
 | .cond b N K t1 s1 t2 s2 O ns=>eqs ns/\(b=true->af E N K t1 Q s1 O)/\(b=false->af E N K t2 Q s2 O)
 | .fin e Z O ns=>eqs ns/\Q e Z O
def Nx.ok (E:Env) (Q:DQ):Nx->Prop
 | .go N K todo Z O ns=>eqs ns/\af E N K todo Q Z O
 | .out o=>o.ok E Q
structure eJ where
 cl:Bool
 inl:Nat->Bool
 imp:Nat->Bool
 own:Nat->Bool
 fn:Nat->Option Func
 ct:Nat->Option (TypeId×AV)
 fs:List (Nat×List AV×AV)
def Dx (n:Nat) (t:Tr Func) (g:Nat):Option Func:=match Nat.blt g n with
 |true=>t.get g
 |false=>none
theorem P3 {P:Program} {n:Nat} {t:Tr Func} (h:(List.range n).map t.get=P.funcs.toList.map some):∀g x,Dx n t g=some x->P.funcs[g]? =some x:=λg x hx=>by
 unfold Dx at hx;split at hx
 ·rename_i hlt;have hlt:g<n:=by simpa using hlt
  have h1:((List.range n).map t.get)[g]? =some (t.get g):=by simp[hlt]
  rw[h,hx]at h1;simp only[D2,Option.map_eq_some_iff]at h1;obtain⟨y,h2,h3⟩:=h1;cases h3;simpa using h2
 ·cases hx
def ql (F:Nat->Option Func) (g:FuncId):Option (Nat×List ResultVar×Code):=match F g with
 |some fn=>match fn.body,(fn.name== "runtime.NumGoroutine")with
  |some c,false=>some (fn.ntmps,fn.results.toList,c)
  |_,_=>none
 |none=>none
def gf {R:Type} (cl:Bool) (ns' ns:List (Nat×Nat)) (bad:R) (k:List (Nat×Nat)->R):R:=match cl with
 |false=>k (ns'++ns)
 |true=>match ns'.all λp=>Nat.beq p.1 p.2 with
  |true=>k ns
  |false=>bad
def Im (d:Nat) (l:List Oper):Bool:=l.any λo=>o.op.operands.toList.any λ
 | .tmp t=>Nat.beq t d
 |_=>false
def qk {R:Type}:Nat->Nat->Nat->(Nat->R)->R
 |0,n,acc,k=>k (n+acc)
 |f+1,n,acc,k=>match n with
  |0=>k acc
  |m+1=>qk f m (acc+1) k
theorem u3 {R:Type} (k:Nat->R):∀(f n acc:Nat),qk f n acc k=k (n+acc)
 |0,_,_=>rfl
 |f+1,0,acc=>by rw[oO];rfl
 |f+1,m+1,acc=>by
  have:=u3 k f m (acc+1);rw[show m+1+acc=m+(acc+1)by omega,<-this];rfl
def sH {R:Type}:List (Nat×List CV)->TS->Hp->(TS->Hp->R)->R
 |[],Z,O,k=>k Z O
 |(d,cs)::r,Z,O,k=>match O with
  |⟨e,m⟩=>qk 1000 m 0 λn=>Tr.cB 24 Z d (some (.own n 0)) λZ'=>Tr.cB 24 e n (some (.box cs)) λe'=>sH r Z' ⟨e',n+1⟩ k
def preB (Z:TS):Op->Option Nat
 | .build _ parts=>zG Z parts.toList
 | .slice _ (.tmp u) _ _ _=>match Z.get u with
  |some (.os _ _)=>some u
  |_=>none
 | .convert _ _ (.tmp u)=>match Z.get u with
  |some (.os _ _)=>some u
  |_=>none
 |_=>none
def S2 (o:Oper):List Oper->Bool
 |o2::_=>match o.dst,o2.op with
  |some d,.call {callee:= .builtin .clear,args:=as,argTypes:=_}=>match as.toList with
   |[.tmp u]=>Nat.beq d u
   |_=>false
  |_,_=>false
 |[]=>false
def Ag:CV->Option AV
 | .bu _ (.d y)=>match kP y with
  |true=>some y
  |false=>none
 | .d (.bu _ y)=>match kP y with
  |true=>some y
  |false=>none
 |_=>none
def pL (t:TypeId) (x:CV) (k:List It) (O:Hp) (ns:List (Nat×Nat)) (bad:Nx):Nx:=match ik k with
 |none=> .out (.fin (.aO x) .lf O ns)
 |some (N',K',Z',dst,ty,k')=>match Nat.beq t ty,Ag x with
  |true,some y=> .go N' K' k' (bN Z' dst (.d y)) O ns
  |_,_=>bad
def lE:List (Nat×List AV×AV)->Nat->List AV->Option AV
 |[],_,_=>none
 |(g',xs',z)::r,g,xs=>match Nat.beq g g'&&km xs xs' with
  |true=>some z
  |false=>lE r g xs
def aL (nest:Nat->List AV->Option AV) (Z:TS):Op->Option (Option CV)
 | .call {callee:= .value f,args:=as,argTypes:=_}=>match cT Z f as.toList with
  |some (g,cs)=>match eF cs with
   |some xs=>match nest g xs with
    |some z=>some (some (.d z))
    |none=>some none
   |none=>none
  |none=>none
 |_=>none
def vA {R:Type}:bJ->TS->(TS->R)->R
 |[],Z,k=>k Z
 |p::A,Z,k=>Tr.cB 24 Z p.2.1 none λZ1=>vA A Z1 k
theorem Qc {Z:TS} {op:Op}:eb 4227104 op (preB Z op)=preB Z op:=by cases op<;>kernel_rfl
theorem Pe {nest:Nat->List AV->Option AV} {Z:TS} {op:Op}:eb 68719476736 op (aL nest Z op)=aL nest Z op:=by cases op<;>kernel_rfl
theorem Q9 {cl:Bool} {T:bO} {N:Nat} {Z:TS} {O:Hp} {o:Oper}:eb 68721574488 o.op (cu cl T N Z O o)=cu cl T N Z O o:=by
 obtain⟨d,op,_,_,_,_⟩:=o;cases op<;>kernel_rfl
theorem Qd {cl:Bool} {T:bO} {N:Nat} {Z:TS} {O:Hp} {d:Option Nat} {op:Op} {t:TypeId} {p:String} {a:Array Edge} {g:Option (Nat×Bool)}:eb 68721574488 op (cu cl T N Z O ⟨d,op,t,p,a,g⟩)=cu cl T N Z O ⟨d,op,t,p,a,g⟩:=Q9 (o:=⟨d,op,t,p,a,g⟩)
def Io (P:Program) (G:Gl) (T:bO) (c:eJ) (N K:Nat) (all:List Oper) (o:Oper) (r:List Oper) (k:List It) (Z:TS) (O:Hp) (ns:List (Nat×Nat)) (bad:Nx) (j:Nat) (want:Bool):Nx:=match o.dst,nth all j with
 |some e,some oj=>match oj.dst,Nat.blt e N with
  |some d,true=>match Z.get d with
   |some (.d (.v (.bool t)))=>match c.cl with
    |true=>match t,want with
     |true,true=> .go N K (.ops all (⟨some e,o.op,o.type,o.pos,o.after,none⟩::r)::k) Z O ns
     |false,false=> .go N K (.ops all (⟨some e,o.op,o.type,o.pos,o.after,none⟩::r)::k) Z O ns
     |true,false=>Tr.cB 24 Z e (some (.d (.v undef))) λZ1=> .go N K (.ops all r::k) Z1 O ns
     |false,true=>Tr.cB 24 Z e (some (.d (.v undef))) λZ1=> .go N K (.ops all r::k) Z1 O ns
    |false=>Tr.cB 24 Z d (some (.d (.v (.bool true)))) λZt=>Tr.cB 24 Z d (some (.d (.v (.bool false)))) λZf=>match want with
     |true=>Tr.cB 24 Zf e (some (.d (.v undef))) λZn=> .out (.cond t N K (.ops all (⟨some e,o.op,o.type,o.pos,o.after,none⟩::r)::k) Zt (.ops all r::k) Zn O ns)
     |false=>Tr.cB 24 Zt e (some (.d (.v undef))) λZn=> .out (.cond t N K (.ops all r::k) Zn (.ops all (⟨some e,o.op,o.type,o.pos,o.after,none⟩::r)::k) Zf O ns)
   |some (.d (.v (.tuple a)))=>match a.toList with
    |[]=>Tr.cB 24 Z e (some (.d (.v undef))) λZ1=> .go N K (.ops all r::k) Z1 O ns
    |_::_=>bad
   |_=>bad
  |_,_=>bad
 |_,_=>bad
def Ip (P:Program) (G:Gl) (T:bO) (c:eJ) (N K:Nat) (all:List Oper) (o:Oper) (r:List Oper) (k:List It) (Z:TS) (O:Hp) (ns:List (Nat×Nat)) (bad:Nx):Nx:=match o.op with
 | .call {callee:= .value f,args:=as,argTypes:=_}=>match cT Z f as.toList with
  |some (g,cs)=>match c.inl g with
   |false=>bad
   |true=>match c.ct g with
    |some (ty,z)=>match cs with
     |[x]=>match w5 x with
      |some (g',fs',cs')=>match ql c.fn g' with
       |some (nt,rs,b)=>match Nat.ble (fs'++cs').length nt&&cj N o.dst with
        |true=> .go nt O.n (.code b:: .ct N K Z o.dst rs ty z:: .ops all r::k) (fN 0 (fs'++cs')) O ns
        |false=>bad
       |none=>bad
      |none=>bad
     |_=>bad
    |none=>match ql c.fn g with
     |some (nt,rs,b)=>match Nat.ble cs.length nt&&cj N o.dst with
      |true=> .go nt O.n (.code b:: .fr N K Z o.dst rs:: .ops all r::k) (fN 0 cs) O ns
      |false=>bad
     |none=>bad
  |none=>bad
 | .panic p=>match aW Z p with
  |some (.bu t y)=>pL t (.bu t y) k O ns bad
  |some (.d (.bu t y))=>pL t (.d (.bu t y)) k O ns bad
  |_=>bad
 |_=>bad
def Iq (P:Program) (G:Gl) (T:bO) (c:eJ) (N K:Nat) (all:List Oper) (o:Oper) (r:List Oper) (k:List It) (Z:TS) (O:Hp) (ns:List (Nat×Nat)) (bad:Nx):Nx:=match eb 68721574488 o.op (cu c.cl T N Z O o)with
 |some (.push d x ce)=>Tr.cB 24 Z d (some x) λZ1=>Tr.cB 24 O.e O.n (some ce) λe1=> .go N K (.ops all r::k) Z1 ⟨e1,O.n+1⟩ ns
 |some (.set i ce ns')=>gf c.cl ns' ns bad λns1=>Tr.cB 24 O.e i (some ce) λe1=> .go N K (.ops all r::k) Z ⟨e1,O.n⟩ ns1
 |some (.app i d x ce ns')=>gf c.cl ns' ns bad λns1=>Tr.cB 24 Z d (some x) λZ1=>Tr.cB 24 O.e i (some ce) λe1=> .go N K (.ops all r::k) Z1 ⟨e1,O.n⟩ ns1
 |some (.qb t e kk)=>Tr.cB 24 Z t (some (.os O.n 0)) λZ1=>Tr.cB 24 O.e O.n (some (.row e kk [])) λe1=> .go N K (.ops all (o::r)::k) Z1 ⟨e1,O.n+1⟩ ns
 |some (.cH t z ns' ms)=>gf c.cl ns' ns bad λns1=>Tr.cB 24 Z t (some (.d z)) λZ1=> .go N K (.ops all (o::r)::k) Z1 (gz ms O) ns1
 |none=>Ip P G T c N K all o r k Z O ns bad
def Ir (P:Program) (G:Gl) (T:bO) (c:eJ) (N K:Nat) (all:List Oper) (o:Oper) (r:List Oper) (k:List It) (Z:TS) (O:Hp) (ns:List (Nat×Nat)) (bad:Nx):Nx:=match eb 68719476736 o.op (aL (lE c.fs) Z o.op)with
 |some (some x)=>match cj N o.dst with
  |false=>bad
  |true=> .go N K (.ops all r::k) (bN Z o.dst x) O ns
 |_=>Iq P G T c N K all o r k Z O ns bad
def Is (P:Program) (G:Gl) (T:bO) (c:eJ) (N K:Nat) (all:List Oper) (o:Oper) (r:List Oper) (k:List It) (Z:TS) (O:Hp) (ns:List (Nat×Nat)) (bad:Nx):Nx:=match dk P G T c.cl Z O o.op with
 |some (x,ns')=>match o.dst with
  |none=>bad
  |some d=>match Nat.blt d N with
   |false=>bad
   |true=>gf c.cl ns' ns bad λns1=>Tr.cB 24 Z d (some x) λZ1=> .go N K (.ops all r::k) Z1 O ns1
 |none=>Ir P G T c N K all o r k Z O ns bad
def Iu (P:Program) (G:Gl) (T:bO) (c:eJ) (N K:Nat) (all:List Oper) (o:Oper) (r:List Oper) (k:List It) (Z:TS) (O:Hp) (ns:List (Nat×Nat)) (bad:Nx):Nx:=match eb 4227104 o.op (preB Z o.op)with
 |some u=>match S2 o r with
  |true=>bad
  |false=>match Z.get u with
   |some x=>match bY O.e 60 [x]with
    |some ([z],ns',ms)=>gf c.cl ns' ns bad λns1=>Tr.cB 24 Z u (some (.d z)) λZ1=> .go N K (.ops all (o::r)::k) Z1 (gz ms O) ns1
    |_=>bad
   |none=>bad
 |none=>Is P G T c N K all o r k Z O ns bad
def zH (P:Program) (G:Gl) (T:bO) (c:eJ) (N K:Nat) (all:List Oper) (o:Oper) (r:List Oper) (k:List It) (Z:TS) (O:Hp) (ns:List (Nat×Nat)) (bad:Nx):Nx:=match o.guard with
 |some (j,want)=>Io P G T c N K all o r k Z O ns bad j want
 |none=>Iu P G T c N K all o r k Z O ns bad
def zI (P:Program) (G:Gl) (T:bO) (c:eJ) (nest:Nat->List AV->Option AV) (N K:Nat) (all:List Oper) (tl:List (Nat×Oper×TK)) (A:bJ) (o:Oper) (r:List Oper) (W:List (Nat×List CV)) (k:List It) (Z:TS) (O:Hp) (ns:List (Nat×Nat)) (bad:Nx):Nx:=match cA all o Z with
 |some false=>match o.dst,kf o W with
  |some d,true=>match Nat.blt d N with
   |true=>Tr.cB 24 Z d (some (.d (.v undef))) λZ1=> .go N K (.lex all tl A r W::k) Z1 O ns
   |false=>bad
  |_,_=>bad
 |some true=>match o.dst,kf o W with
  |some d,true=>match Nat.blt d N with
   |false=>bad
   |true=>match dk P G T c.cl Z O o.op with
    |some (x,ns')=>gf c.cl ns' ns bad λns1=>Tr.cB 24 Z d (some x) λZ1=> .go N K (.lex all tl A r W::k) Z1 O ns1
    |none=>match o.op with
     | .box _ p=>match aW Z p with
      |some x=>match Im d r&& !c.own d,eF (dA x)with
       |true,some ys=>Tr.cB 24 Z d (some (.d (.ip ys))) λZ1=> .go N K (.lex all tl A r W::k) Z1 O ns
       |_,_=>Tr.cB 24 Z d none λZ1=> .go N K (.lex all tl A r (W++[(d,dA x)])::k) Z1 O ns
      |none=>bad
     | .alloc t=>match aX T t with
      |some ⟨_,_,_,z⟩=>match Im d r&& !c.own d with
       |true=>Tr.cB 24 Z d (some (.d (.ip (z.map .v)))) λZ1=> .go N K (.lex all tl A r W::k) Z1 O ns
       |false=>Tr.cB 24 Z d none λZ1=> .go N K (.lex all tl A r (W++[(d,(z.map .v).map .d)])::k) Z1 O ns
      |none=>bad
     | .buildSlice t n parts=>match aX T t with
      |some ⟨.slice e kk,_,_,_⟩=>match aX T e with
       |some ⟨_,_,_,z'⟩=>match eh kk (dN Z) (fI n (z'.map .v)) parts.toList with
        |some cells=>match Nat.ble (n*kk) 16777216&&Nat.ble 1 kk with
         |true=>Tr.cB 24 Z d (some (.d (.sl kk (chunk n kk cells)))) λZ1=> .go N K (.lex all tl A r W::k) Z1 O ns
         |false=>bad
        |none=>bad
       |none=>bad
      |_=>bad
     | .call {callee:= .value f,args:=as,argTypes:=_}=>match cT Z f as.toList with
      |some (g,cs)=>match c.inl g with
       |false=>bad
       |true=>match bY O.e 60 cs with
        |some (xs,ns',ms)=>match nest g xs with
         |some z=>match ms with
          |[]=>gf c.cl ns' ns bad λns1=>Tr.cB 24 Z d (some (.d z)) λZ1=> .go N K (.lex all tl A r W::k) Z1 O ns1
          |_::_=>match cR z with
           |true=>gf c.cl ns' ns bad λns1=>Tr.cB 24 Z d (some (.d z)) λZ1=> .go N K (.lex all tl A r W::k) Z1 O ns1
           |false=>bad
         |none=>bad
        |none=>bad
      |none=>bad
     |_=>bad
  |_,_=>bad
 |none=>match o.guard with
  |some (j,_)=>match(nth all j).bind (·.dst)with
   |some d=>match Z.get d with
    |some (.d (.v (.bool t)))=>match c.cl with
     |true=>bad
     |false=>Tr.cB 24 Z d (some (.d (.v (.bool true)))) λZt=>Tr.cB 24 Z d (some (.d (.v (.bool false)))) λZf=> .out (.cond t N K (.lex all tl A (o::r) W::k) Zt (.lex all tl A (o::r) W::k) Zf O ns)
    |_=>bad
   |none=>bad
  |none=>bad
def wg (P:Program) (G:Gl) (T:bO) (cl:Bool) (Z:TS) (O:Hp) (op:Op):Option (CV×List (Nat×Nat)):=match dk P G T cl Z O op with
 |some p=>some p
 |none=>match op with
  | .buildSlice t n parts=>match aX T t with
   |some ⟨.slice e kk,_,_,_⟩=>match aX T e with
    |some ⟨_,_,_,z'⟩=>match eh kk (dN Z) (fI n (z'.map .v)) parts.toList with
     |some cells=>match Nat.ble (n*kk) 16777216&&Nat.ble 1 kk with
      |true=>some (.d (.sl kk (chunk n kk cells)),[])
      |false=>none
     |none=>none
    |none=>none
   |_=>none
  |_=>none
def B6 (P:Program) (G:Gl) (T:bO) (nest:Nat->List AV->Option AV) (cl:Bool) (Z:TS) (O:Hp) (op:Op):Option (CV×List (Nat×Nat)):=match wg P G T cl Z O op with
 |some p=>some p
 |none=>match op with
  | .call {callee:= .value f,args:=as,argTypes:=_}=>match cT Z f as.toList with
   |some (g,cs)=>match bY O.e 60 cs with
    |some (xs,ns',ms)=>match nest g xs with
     |some z=>match ms with
      |[]=>some (.d z,ns')
      |_::_=>match cR z with
       |true=>some (.d z,ns')
       |false=>none
     |none=>none
    |none=>none
   |none=>none
  |_=>none
def nU (P:Program) (G:Gl) (T:bO) (nest:Nat->List AV->Option AV) (cl:Bool) (all:List Oper) (Z:TS) (O:Hp):List (Nat×Oper×CV)->Bool
 |[]=>true
 |(_,o,x)::r=>match cl with
  |false=>false
  |true=>match cA all o Z with
   |some true=>match B6 P G T nest true Z O o.op with
    |some (y,ns)=>match ja x y&&ns.all λp=>Nat.beq p.1 p.2 with
     |true=>nU P G T nest cl all Z O r
     |false=>false
    |none=>false
   |some false=>match x with
    | .d (.v (.tuple a))=>match a.toList with
     |[]=>nU P G T nest cl all Z O r
     |_::_=>false
    |_=>false
   |none=>false
def B7 (P:Program) (G:Gl) (T:bO) (cl:Bool) (Z:TS) (op:Op):Option CV:=
 match eb 51565228327 op (B8 T (dN Z) op)with
 |some y=>some (.d y)
 |none=>match eb 51565170727 op (B9 T Z op)with
  |some x=>some x
  |none=>match eb 33024 op (jF G T (dN Z) op)with
   |some y=>some (.d y)
   |none=>match cl with
    |false=>none
    |true=>match eb 104865792 op (dG P T (dN Z) op)with
     |some y=>some (.d y)
     |none=>match eb 68719484928 op (eZ P (dN Z) op)with
      |some y=>some (.d y)
      |none=>none
def jv (nest:Nat->List AV->Option AV) (Z:TS) (O:Hp):Op->Option (AV×List (Nat×Nat)×Nat×List AV)
 | .call {callee:= .value f,args:=as,argTypes:=_}=>match cT Z f as.toList with
  |some (g,cs)=>match bY O.e 60 cs with
   |some (xs,ns',ms)=>match nest g xs with
    |some z=>match ms with
     |[]=>some (z,ns',g,xs)
     |_::_=>match cR z with
      |true=>some (z,ns',g,xs)
      |false=>none
    |none=>none
   |none=>none
  |none=>none
 |_=>none
def sj (P:Program) (G:Gl) (T:bO) (c:eJ) (nest:Nat->List AV->Option AV) (N K:Nat) (all:List Oper) (l:List (Nat×Oper×TK)) (A:bJ) (pend:List (Nat×Oper×CV)) (fs:List (Nat×List AV×AV)) (k:List It) (Z:TS) (O:Hp) (ns:List (Nat×Nat)) (bad:Nx):Nx:=match l with
 |[]=> .go N K k Z O ns
 |[(_,_,.two)]=>bad
 |(i,o,.two)::(j,o',_)::l=>match c.cl,cA all o Z,cA all o' Z with
  |true,some true,some true=>match A4 c.cl T N Z O o o' with
   |some (a,ca,b,cb)=>match nU P G T (lE fs) c.cl all Z (O.set a ca) (cF all i pend)&&nU P G T (lE fs) c.cl all Z (O.set b cb) (cF all j pend)with
    |true=>Tr.cB 24 O.e a (some ca) λe1=>Tr.cB 24 e1 b (some cb) λe2=> .go N K (.tl all l A (cF all j (cF all i pend)) fs::k) Z ⟨e2,O.n⟩ ns
    |false=>bad
   |none=>bad
  |_,_,_=>bad
 |(i,o,.fl)::l=>match cj N o.dst with
  |false=>bad
  |true=>match cA all o Z with
    |some false=> .go N K (.tl all l A pend fs::k) (bN Z o.dst (.d (.v undef))) O ns
    |some true=>match B7 P G T c.cl Z o.op with
     |some x=> .go N K (.tl all l A pend fs::k) (bN Z o.dst x) O ns
     |none=>match aL nest Z o.op with
      |some none=>bad
      |some (some x)=> .go N K (.tl all l A pend fs::k) (bN Z o.dst x) O ns
      |none=>match wg P G T c.cl Z O o.op with
       |some (x,ns')=>gf c.cl ns' ns bad λns1=> .go N K (.tl all l A ((i,o,x)::pend) fs::k) (bN Z o.dst x) O ns1
       |none=>match jv nest Z O o.op with
        |some (z,ns',g,xs)=>gf c.cl ns' ns bad λns1=> .go N K (.tl all l A ((i,o,.d z)::pend) ((g,xs,z)::fs)::k) (bN Z o.dst (.d z)) O ns1
        |none=>bad
    |none=>bad
 |(i,o,.one)::l=>match ez ((dp (b8 all.toArray i A)).map (·.1)),cj N o.dst with
  |true,true=>sH (dp (b8 all.toArray i A)) Z O λZ1 O1=>match cA all o Z1 with
    |some false=> .go N K (.tl all l (cm all.toArray i A) (cF all i pend) fs::k) (bN Z1 o.dst (.d (.v undef))) O1 ns
    |some true=>match dk P G T c.cl Z1 O1 o.op with
     |some (x,ns')=>gf c.cl ns' ns bad λns1=> .go N K (.tl all l (cm all.toArray i A) (cF all i pend) fs::k) (bN Z1 o.dst x) O1 ns1
     |none=>match qc c.cl T N 20 Z1 O1 o with
      |some (.push _ x ce,O2,ns')=>gf c.cl ns' ns bad λns1=>Tr.cB 24 O2.e O2.n (some ce) λe1=> .go N K (.tl all l (cm all.toArray i A) (cF all i pend) fs::k) (bN Z1 o.dst x) ⟨e1,O2.n+1⟩ ns1
      |some (.set j ce _,O2,ns')=>gf c.cl ns' ns bad λns1=>Tr.cB 24 O2.e j (some ce) λe1=> .go N K (.tl all l (cm all.toArray i A) (cF all i pend) fs::k) (bN Z1 o.dst (.d (.v undef))) ⟨e1,O2.n⟩ ns1
      |some (.app j _ x ce _,O2,ns')=>gf c.cl ns' ns bad λns1=>Tr.cB 24 O2.e j (some ce) λe1=> .go N K (.tl all l (cm all.toArray i A) (cF all i pend) fs::k) (bN Z1 o.dst x) ⟨e1,O2.n⟩ ns1
      |some _=>bad
      |none=>match o.op with
       | .call {callee:= .value f,args:=as,argTypes:=_}=>match cT Z1 f as.toList with
        |some (g,cs)=>match c.inl g with
         |false=>bad
         |true=>match ql c.fn g with
          |some (nt,rs,b)=>match Nat.ble cs.length nt with
           |true=> .go nt O1.n (.code b:: .fr N K Z1 o.dst rs:: .tl all l (cm all.toArray i A) (cF all i pend) fs::k) (fN 0 cs) O1 ns
           |false=>bad
          |none=>bad
        |none=>bad
       | .panic p=>match aW Z1 p with
        |some (.bu t y)=>pL t (.bu t y) k O1 ns bad
        |some (.d (.bu t y))=>pL t (.d (.bu t y)) k O1 ns bad
        |_=>bad
       |_=>bad
    |none=>bad
  |_,_=>bad
def vL (Z:TS) (all:List Oper):List Oper->Option Nat
 |[]=>none
 |o::r=>match o.op with
  | .slice _ (.tmp u) _ _ _=>match Z.get u with
   |some (.os _ _)=>some u
   |_=>match all.find? λo'=>match o'.dst with
     |some d=>Nat.beq d u
     |none=>false with
    |some ⟨_,.move (.tmp v),_,_,_,_⟩=>match Z.get v with
     |some (.os _ _)=>some v
     |_=>vL Z all r
    |_=>vL Z all r
  |_=>vL Z all r
def yM (T:bO) (c:eJ) (fl N K:Nat) (b:Code) (k:List It) (Z:TS) (O:Hp) (ns:List (Nat×Nat)) (bad:Nx):Nx:=match b with
 | .skip=> .go N K k Z O ns
 | .label _=> .go N K k Z O ns
 | .seq x y=> .go N K (.code x:: .code y::k) Z O ns
 | .block i x=> .go N K (.code x:: .lR i::k) Z O ns
 | .region _ ops d=>match d with
  |false=> .go N K (.ops ops.toList ops.toList::k) Z O ns
  |true=>match vL Z ops.toList ops.toList with
   |some u=>match Z.get u with
    |some x=>match bY O.e 60 [x]with
     |some ([z],ns',ms)=>gf c.cl ns' ns bad λns1=>Tr.cB 24 Z u (some (.d z)) λZ1=> .go N K (.code b::k) Z1 (gz ms O) ns1
     |_=>bad
    |none=>bad
   |none=>match Q8 c.imp ops.toList with
    |(pre,tl,al)=>match k4 T ops N al with
     |none=>bad
     |some A=>match mr ops pre tl al&&Nat.beq (ff ops pre).length pre.length with
      |true=> .go N K (.lex ops.toList (ic ops tl) A (ff ops pre) []::k) Z O ns
      |false=>bad
 | .exit i=>match iT i k with
  |some k'=> .go N K k' Z O ns
  |none=>bad
 | .ret=>match kT k with
  |[]=> .out (.fin .ret Z O ns)
  | .fr N' K' Z' dst rs::k'=> .go N K (.fr N' K' Z' dst rs::k') Z O ns
  | .ct N' K' Z' dst rs ty z::k'=> .go N K (.ct N' K' Z' dst rs ty z::k') Z O ns
  |_=>bad
 | .scope x=> .go N K (.code x::k) Z O ns
 | .cond (.tmp t) x y=>match Z.get t with
  |some (.d (.v (.bool v)))=>match c.cl with
    |true=>match v with
     |true=> .go N K (.code x::k) Z O ns
     |false=> .go N K (.code y::k) Z O ns
    |false=>Tr.cB 24 Z t (some (.d (.v (.bool true)))) λZt=>Tr.cB 24 Z t (some (.d (.v (.bool false)))) λZf=> .out (.cond v N K (.code x::k) Zt (.code y::k) Zf O ns)
  |_=>bad
 | .cond (.const (.bool v)) x y=>match v with
  |true=> .go N K (.code x::k) Z O ns
  |false=> .go N K (.code y::k) Z O ns
 | .loop x=>match c.cl with
  |true=> .go N K (.code x:: .lk fl x::k) Z O ns
  |false=>bad
 |_=>bad
def sI (P:Program) (G:Gl) (T:bO) (c:eJ) (nest:Nat->List AV->Option AV) (fl N K:Nat) (todo:List It) (Z:TS) (O:Hp) (ns:List (Nat×Nat)) (bad:Nx):Nx:=
 @List.rec It (λ_=>Program->Gl->bO->eJ->(Nat->List AV->Option AV)->Nat->Nat->Nat->TS->Hp->List (Nat×Nat)->Nx->Nx)
  (λ_ _ _ _ _ _ _ _ Z O ns _=> .out (.fin .norm Z O ns))
  (λit k _ P G T c nest fl N K Z O ns bad=> @It.rec (λ_=>List It->Program->Gl->bO->eJ->(Nat->List AV->Option AV)->Nat->Nat->Nat->TS->Hp->List (Nat×Nat)->Nx->Nx)
   (λb k P G T c nest fl N K Z O ns bad=>yM T c fl N K b k Z O ns bad)
   (λ_ k P G T c nest fl N K Z O ns bad=> .go N K k Z O ns)
   (λall l k P G T c nest fl N K Z O ns bad=> @List.rec Oper (λ_=>Nx) (.go N K k Z O ns) (λo r _=>zH P G T c N K all o r k Z O ns bad) l)
   (λall tl A pre W k P G T c nest fl N K Z O ns bad=> @List.rec Oper (λ_=>Nx) (match ez (W.map (·.1))with
    |true=>sH W Z O λZ1 O1=>vA A Z1 λZ2=> .go N K (.tl all tl A [] []::k) Z2 O1 ns
    |false=>bad) (λo r _=>zI P G T c nest N K all tl A o r W k Z O ns bad) pre)
   (λall l A pend fs k P G T c nest fl N K Z O ns bad=>match nU P G T (lE fs) c.cl all Z O pend with
    |true=>sj P G T c nest N K all l A pend fs k Z O ns bad
    |false=>bad)
   (λ_ k P G T c nest fl N K Z O ns bad=>bad)
   (λm b k P G T c nest fl N K Z O ns bad=>match m with
    |0=>bad
    |m'+1=> .go N K (.code b:: .lk m' b::k) Z O ns)
   (λN' K' Z' dst rs k P G T c nest fl N K Z O ns bad=>match dH T Z O rs with
    |none=>bad
    |some xs=>match dst with
     |none=> .go N' K' k Z' O ns
     |some d=>Tr.cB 24 Z' d (some (ed xs)) λZ''=> .go N' K' k Z'' O ns)
   (λN' K' Z' dst rs _ z k P G T c nest fl N K Z O ns bad=>match dH T Z O rs with
    |none=>bad
    |some _=> .go N' K' k (bN Z' dst (.d z)) O ns)
   it k P G T c nest fl N K Z O ns bad) todo P G T c nest fl N K Z O ns bad
def step (P:Program) (G:Gl) (T:bO) (c:eJ) (nest:Nat->List AV->Option AV) (fl N K:Nat) (todo:List It) (Z:TS) (O:Hp) (ns:List (Nat×Nat)):Nx:=sI P G T c nest fl N K todo Z O ns (.out (.stuck N K todo Z O ns))
theorem gK {R:Type} {P:R->Prop} {cl:Bool} {ns' ns:List (Nat×Nat)} {bad:R} {k:List (Nat×Nat)->R} {A:Prop} (h:P (gf cl ns' ns bad k)) (hb:P bad->A) (hk:∀ns1,(eqs ns1->eqs ns'/\eqs ns)->P (k ns1)->A):A:=by
 unfold gf at h;split at h
 ·exact hk _ (λh=>kA h) h
 ·split at h
  ·rename_i hall;refine hk _ (λh=>⟨?_,h⟩) h;clear h hk
   induction ns' with
   |nil=>trivial
   |cons p r ih=>
    simp only[jg,bI]at hall;exact⟨bB hall.1,ih hall.2⟩
  ·exact hb h
theorem yO {R:Type}:∀(W:List (Nat×List CV)) (Z:TS) (O:Hp) (k:TS->Hp->R),sH W Z O k=k (ee W Z O).1 (ee W Z O).2
 |[],_,_,_=>rfl
 |(d,cs)::r,Z,⟨e,m⟩,k=>by simp only[sH,u3,D3,Tr.dy,ee];exact yO r _ _ k
theorem uN {P:Program} {F:Nat->Option Func} (hF:∀g x,F g=some x->P.funcs[g]? =some x) {g:FuncId} {nt:Nat} {rs:List ResultVar} {c:Code} (h:ql F g=some (nt,rs,c)):∃fn,P.funcs[g]? =some fn/\fn.body=some c/\(fn.name== "runtime.NumGoroutine")=false/\fn.results=rs.toArray/\fn.ntmps=nt:=by
 unfold ql at h;split at h
 ·rename_i fn hf;split at h
  ·rename_i b hb hn;simp only[aA,cv]at h;obtain⟨rfl,rfl,rfl⟩:=h;exact⟨fn,hF g fn hf,hb,hn,by simp,rfl⟩
  ·cases h
 ·cases h
section
variable {E:Env} {Q:DQ} {N K:Nat} {Z:TS} {O:Hp} {all:List Oper} {o:Oper} {r:List Oper} {tl:List (Nat×Oper×TK)} {k:List It} {ns:List (Nat×Nat)} {bad:Nx} {c:eJ} {W:List (Nat×List CV)}
theorem DO.vB {rest:List Oper} {j d e:Nat} {want t:Bool} {op:Op} {ty:TypeId} {pos:String} {after:Array Edge} {oj:Oper} (hj:nth all j=some oj) (hjd:oj.dst=some d) (ht:Z.get d=some (.d (.v (.bool t))))
  (h1:t=want->DO E N K all (⟨some e,op,ty,pos,after,none⟩::rest) Q Z O)
  (h2:t= !want->DO E N K all rest Q (Tr.put 24 Z e (some (.d (.v undef)))) O)
  (hd:Nat.blt e N=true):DO E N K all (⟨some e,op,ty,pos,after,some (j,want)⟩::rest) Q Z O:=λL ZB ηB hs hh=>by
 obtain⟨y,h3,h4⟩:=hs d _ ht;simp only[aE]at h4;subst h4;have hjB:(all.toArray[j]?).bind (·.dst)=some d:=by rw[ck]at hj;simp[hj,hjd]
 have same:∀b,t=b->SS L Z (look ((d,.v (.bool b))::ZB)):=λb hb u z hz=>by
  subst hb;obtain⟨q,h5,h6⟩:=hs u z hz;refine⟨q,?_,h6⟩;simp only[look];cases hbq:Nat.beq d u with
  |true=>have:=bB hbq;subst this;rw[h3]at h5;exact h5
  |false=>exact h5
 exact bh.bG hjB h3 (λe=>h1 e L _ ηB (same want e) hh) (λe'=>h2 e' L _ ηB ((same _ e').put (some e) (x:= .d (.v undef)) (y:= .v undef) rfl) hh) hd
theorem NT {t:TypeId} {x:CV} {y:AV} (hx:∃u,x= .bu t u\/∃u',x= .d (.bu t u')) (h:Ag x=some y):(x= .bu t (.d y)\/x= .d (.bu t y))/\kP y=true:=by
 unfold Ag at h;split at h
 ·rename_i t' y';split at h
  ·rename_i hy;cases h;obtain⟨u,hx|⟨u',hx⟩⟩:=hx
   ·cases hx;exact⟨.inl rfl,hy⟩
   ·cases hx
  ·cases h
 ·rename_i t' y';split at h
  ·rename_i hy;cases h;obtain⟨u,hx|⟨u',hx⟩⟩:=hx
   ·cases hx
   ·cases hx;exact⟨.inr rfl,hy⟩
  ·cases h
 ·cases h
theorem uO {t:TypeId} {x:CV} (hx:∃u,x= .bu t u\/∃u',x= .d (.bu t u')) (h:Nx.ok E Q (pL t x k O ns bad)) {A:Prop} (hb:bad.ok E Q->A) (hk:eqs ns->dq E N K k Q (.aO x) .lf O->A):A:=by
 unfold pL at h;split at h
 ·rename_i hp;exact hk h.1 (kg k N K .lf hp h.2)
 ·rename_i N' K' Z' dst ty k' hp;split at h
  ·rename_i y ht hy;have ht:=bB ht;subst ht;obtain⟨h1,h2⟩:=NT hx hy;exact hk h.1 (kL h1 h2 k N K hp h.2)
  ·exact hb h
theorem E9 {R:Type}:∀(A:bJ) (Z:TS) (k:TS->R),vA A Z k=k (sn A Z)
 |[],_,_=>rfl
 |p::A,Z,k=>by simp only[vA,Tr.dy,sn];exact E9 A _ _
theorem pn:∀{fs:List (Nat×List AV×AV)},iD E fs->∀g xs z,lE fs g xs=some z->Pure E.toCx g xs (.ret z)
 |[],_,_,_,_,h=>by simp[lE]at h
 |(g',xs',z')::r,hf,g,xs,z,h=>by
  simp only[lE]at h;split at h
  ·rename_i hB;simp only[bI]at hB;have h1:=bB hB.1;have h2:=l8 hB.2;cases h;subst h1;subst h2;exact hf _ Wh
  ·exact pn (λf hf'=>hf f (by simp[hf'])) g xs z h
theorem FP {nest:Nat->List AV->Option AV} (hnest:∀g xs z,nest g xs=some z->Pure E.toCx g xs (.ret z)) {x:CV} (h:aL nest Z o.op=some (some x)):aR E N o Z x:=by
 unfold aL at h;split at h
 ·rename_i f as tys ho;obtain⟨as⟩:=as;split at h
  ·rename_i g cs hc;split at h
   ·rename_i xs hxs;split at h
    ·rename_i z hz;cases h;exactλL s ηB hs=>by
      obtain⟨ys,h1,h2⟩:=lz hs hc;have:=kD hxs h2;subst this;exact⟨z,rfl,bM.pure ho (hnest g _ z hz) h1⟩
    ·cases h
   ·cases h
  ·cases h
 ·cases h
theorem Nj (hfs:iD E c.fs) (hct:∀f ty z,c.ct f=some (ty,z)->nZ E f ty z) (hF:∀g x,c.fn g=some x->E.P.funcs[g]? =some x) (h:Nx.ok E Q (zH E.P E.G E.T c N K all o r k Z O ns bad)) (hb:bad.ok E Q->eqs ns/\af E N K (.ops all (o::r)::k) Q Z O):eqs ns/\af E N K (.ops all (o::r)::k) Q Z O:=by
 obtain⟨dst,op,ty,pos,after,gd⟩:=o;unfold zH at h;simp only[Io,Iu,Is,Ir,Iq,Ip]at h;simp only[Qc,Pe,Qd]at h;split at h
 ·rename_i j want;split at h
  ·rename_i e oj hj;split at h
   ·rename_i d hjd he;split at h
    ·rename_i t ht;split at h
     ·split at h
      ·exact⟨h.1,DO.vB hj hjd ht (λ_=>h.2) (λe=>by cases e) he⟩
      ·exact⟨h.1,DO.vB hj hjd ht (λ_=>h.2) (λe=>by cases e) he⟩
      ·rw[Tr.dy]at h;exact⟨h.1,DO.vB hj hjd ht (λe=>by cases e) (λ_=>h.2) he⟩
      ·rw[Tr.dy]at h;exact⟨h.1,DO.vB hj hjd ht (λe=>by cases e) (λ_=>h.2) he⟩
     ·simp only[Tr.dy]at h;split at h
      ·exact⟨h.1,DO.Iv hj hjd ht h.2.1 h.2.2 he⟩
      ·exact⟨h.1,DO.Iv hj hjd ht h.2.2 h.2.1 he⟩
    ·rename_i a ha;split at h
     ·rename_i hz;have:a= #[]:=by cases a;simp_all
      subst this;rw[Tr.dy]at h;exact⟨h.1,DO.Ah hj hjd ha h.2 he⟩
     ·exact hb h
    ·exact hb h
   ·exact hb h
  ·exact hb h
 ·split at h
  ·rename_i u hu;split at h
   ·exact hb h
   split at h
   ·rename_i x hx;split at h
    ·rename_i z ns' ms hf;refine gK (P:=Nx.ok E Q) h hb λns1 he h=>?_;rw[Tr.dy]at h;obtain⟨h1,h2⟩:=he h.1;exact⟨h2,DO.cH 60 hx hf h1 h.2⟩
    ·exact hb h
   ·exact hb h
  split at h
  ·rename_i x ns' hv;split at h
   ·exact hb h
   ·rename_i d;split at h
    ·exact hb h
    ·rename_i hd;refine gK (P:=Nx.ok E Q) h hb λns1 he h=>?_;rw[Tr.dy]at h;obtain⟨h1,h2⟩:=he h.1;exact⟨h2,DO.lQ rfl hd (sm (o:=⟨some d,op,ty,pos,after,none⟩) hv h1) h.2⟩
  ·rename_i hv;split at h
   ·rename_i x hcs;split at h
    ·exact hb h
    ·rename_i hd;exact⟨h.1,DO.lQ rfl hd (λL s ηB hs _=>FP (o:=⟨dst,op,ty,pos,after,none⟩) (pn hfs) hcs L s ηB hs) h.2⟩
   rename_i hnc;clear hnc;split at h
   ·rename_i d x ce hh;simp only[Tr.dy]at h;exact⟨h.1,so rfl hh h.2⟩
   ·rename_i i ce ns' hh;refine gK (P:=Nx.ok E Q) h hb λns1 he h=>?_;simp only[Tr.dy]at h;obtain⟨h1,h2⟩:=he h.1;exact⟨h2,so rfl hh ⟨h1,h.2⟩⟩
   ·rename_i i d x ce ns' hh;refine gK (P:=Nx.ok E Q) h hb λns1 he h=>?_;simp only[Tr.dy]at h;obtain⟨h1,h2⟩:=he h.1;exact⟨h2,so rfl hh ⟨h1,h.2⟩⟩
   ·rename_i t e kk hh;simp only[Tr.dy]at h;exact⟨h.1,so rfl hh h.2⟩
   ·rename_i t z ns' ms hh;refine gK (P:=Nx.ok E Q) h hb λns1 he h=>?_;simp only[Tr.dy]at h;obtain⟨h1,h2⟩:=he h.1;exact⟨h2,so rfl hh ⟨h1,h.2⟩⟩
   ·split at h
    ·rename_i f as tys;obtain⟨as⟩:=as;split at h
     ·rename_i g cs hc;split at h
      ·exact hb h
      ·split at h
       ·rename_i ty' z hctg;split at h
        ·rename_i x;split at h
         ·rename_i g' fs' cs' hx;split at h
          ·rename_i nt rs b hf;split at h
           ·rename_i hB;simp only[bI]at hB;obtain⟨fn,h1,h2,h3,h4,h5⟩:=uN hF hf;exact⟨h.1,af.ct (hct _ _ _ hctg) hc hx h1 h2 h3 h4 h5 hB.1 hB.2 h.2⟩
           ·exact hb h
          ·exact hb h
         ·exact hb h
        ·exact hb h
       ·split at h
        ·rename_i nt rs b hf;split at h
         ·rename_i hB;simp only[bI]at hB;obtain⟨fn,h1,h2,h3,h4,h5⟩:=uN hF hf;exact⟨h.1,af.inl hc h1 h2 h3 h4 h5 hB.1 hB.2 h.2⟩
         ·exact hb h
        ·exact hb h
     ·exact hb h
    ·rename_i p;split at h
     ·rename_i t y hp;exact uO (N:=N) (K:=K) ⟨y,.inl rfl⟩ h hb λh1 h2=>⟨h1,DO.panic rfl rfl hp h2⟩
     ·rename_i t y hp;exact uO (N:=N) (K:=K) ⟨.d y,.inr ⟨y,rfl⟩⟩ h hb λh1 h2=>⟨h1,DO.Ai rfl rfl hp h2⟩
     ·exact hb h
    ·exact hb h
theorem Nk {A:bJ} {nest:Nat->List AV->Option AV} (hnest:∀g xs z,nest g xs=some z->Pure E.toCx g xs (.ret z)) (h:Nx.ok E Q (zI E.P E.G E.T c nest N K all tl A o r W k Z O ns bad)) (hb:bad.ok E Q->eqs ns/\af E N K (.lex all tl A (o::r) W::k) Q Z O):
  eqs ns/\af E N K (.lex all tl A (o::r) W::k) Q Z O:=by
 unfold zI at h;split at h
 ·rename_i hw;split at h
  ·rename_i d hd hf;split at h
   ·rename_i hdN;rw[Tr.dy]at h;refine⟨h.1,dM.skip (by rw[hd];exact hdN) hw hf ?_⟩;rw[hd];exact h.2
   ·exact hb h
  ·exact hb h
 ·rename_i hw;split at h
  ·rename_i d hd hf;split at h
   ·exact hb h
   ·rename_i hdN;have hdst:cj N o.dst=true:=by rw[hd];exact hdN
    split at h
    ·rename_i x ns' hv;refine gK (P:=Nx.ok E Q) h hb λns1 he h=>?_;rw[Tr.dy]at h;obtain⟨h1,h2⟩:=he h.1;refine⟨h2,dM.val hdst hw hf (sm hv h1) ?_⟩;rw[hd];exact h.2
    ·split at h
     ·rename_i t p ho;split at h
      ·rename_i x hp;split at h
       ·rename_i ys _ hy;rw[Tr.dy]at h;refine⟨h.1,dM.val hdst hw hf (a8.Ky (cells:=ys) λL s ηB hs hh=>?_) (by rw[hd];exact h.2)⟩;obtain⟨cs,h1,h2⟩:=vo ho hp L s ηB hs hh;have:=kD hy h1;subst this;exact⟨cs,fG _,h2⟩
       ·rw[Tr.dy]at h;exact⟨h.1,dM.new hd hdN hw hf (vo ho hp) h.2⟩
      ·exact hb h
     ·rename_i t ho;split at h
      ·rename_i _ _ _ z ht;split at h
       ·rw[Tr.dy]at h;refine⟨h.1,dM.val hdst hw hf (a8.Ky (cells:=z.map .v) (uP ho ht)) (by rw[hd];exact h.2)⟩
       ·rw[Tr.dy]at h;exact⟨h.1,dM.new hd hdN hw hf (uP ho ht) h.2⟩
      ·exact hb h
     ·rename_i t n parts ho;split at h
      ·rename_i e kk _ _ _ ht;split at h
       ·rename_i _ _ _ z' hte;split at h
        ·rename_i cells hfi;split at h
         ·rename_i hB;simp only[bI]at hB;rw[Tr.dy]at h;exact⟨h.1,dM.val hdst hw hf (a8.lit ho ht hte hfi hB.1 hB.2) (by rw[hd];exact h.2)⟩
         ·exact hb h
        ·exact hb h
       ·exact hb h
      ·exact hb h
     ·rename_i f as tys ho;obtain⟨as⟩:=as;split at h
      ·rename_i g cs hc;split at h
       ·exact hb h
       ·split at h
        ·rename_i xs ns' ms hfz;split at h
         ·rename_i z hz;split at h
          ·refine gK (P:=Nx.ok E Q) h hb λns1 he h=>?_;rw[Tr.dy]at h;obtain⟨h1,h2⟩:=he h.1;exact⟨h2,dM.val hdst hw hf (a8.pure 60 ho (hnest g xs z hz) hc hfz h1 (bP.refl xs) (.inl rfl)) (by rw[hd];exact h.2)⟩
          ·split at h
           ·rename_i hrf;refine gK (P:=Nx.ok E Q) h hb λns1 he h=>?_;rw[Tr.dy]at h;obtain⟨h1,h2⟩:=he h.1;exact⟨h2,dM.val hdst hw hf (a8.pure 60 ho (hnest g xs z hz) hc hfz h1 (bP.refl xs) (.inr hrf)) (by rw[hd];exact h.2)⟩
           ·exact hb h
         ·exact hb h
        ·exact hb h
      ·exact hb h
     ·exact hb h
  ·exact hb h
 ·split at h
  ·rename_i j want hg;split at h
   ·rename_i d hd;split at h
    ·rename_i t ht;split at h
     ·exact hb h
     ·simp only[Tr.dy]at h;exact⟨h.1,dM.guard ht h.2.1 h.2.2⟩
    ·exact hb h
   ·exact hb h
  ·exact hb h
theorem zJ:∀{ns:List (Nat×Nat)},(ns.all λp=>Nat.beq p.1 p.2)=true->eqs ns
 |[],_=>trivial
 |p::r,h=>by simp only[jg,bI]at h;exact⟨bB h.1,zJ h.2⟩
theorem dK {cl:Bool} {x:CV} {ns:List (Nat×Nat)} (h:wg E.P E.G E.T cl Z O o.op=some (x,ns)) (hn:eqs ns):a8 E N o Z O x:=by
 unfold wg at h;split at h
 ·rename_i p hp;simp only[aA]at h;subst h;exact sm hp hn
 ·split at h
  ·rename_i t n parts ho;split at h
   ·rename_i e kk _ _ _ ht;split at h
    ·rename_i _ _ _ z' hte;split at h
     ·rename_i cells hfi;split at h
      ·rename_i hB;simp only[bI]at hB;simp only[aA,cv]at h;obtain⟨rfl,rfl⟩:=h;exact a8.lit ho ht hte hfi hB.1 hB.2
      ·cases h
     ·cases h
    ·cases h
   ·cases h
  ·cases h
theorem Pg {nest:Nat->List AV->Option AV} (hnest:∀g xs z,nest g xs=some z->Pure E.toCx g xs (.ret z)) {cl:Bool} {x:CV} {ns:List (Nat×Nat)} (h:B6 E.P E.G E.T nest cl Z O o.op=some (x,ns)) (hn:eqs ns):a8 E N o Z O x:=by
 unfold B6 at h;split at h
 ·rename_i p hp;simp only[aA]at h;subst h;exact dK hp hn
 ·split at h
  ·rename_i f as tys ho;obtain⟨as⟩:=as;split at h
   ·rename_i g cs hc;split at h
    ·rename_i xs ns' ms hfz;split at h
     ·rename_i z hz;split at h
      ·simp only[aA,cv]at h;obtain⟨rfl,rfl⟩:=h;exact a8.pure 60 ho (hnest g xs z hz) hc hfz hn (bP.refl xs) (.inl rfl)
      ·split at h
       ·rename_i hrf;simp only[aA,cv]at h;obtain⟨rfl,rfl⟩:=h;exact a8.pure 60 ho (hnest g xs z hz) hc hfz hn (bP.refl xs) (.inr hrf)
       ·cases h
     ·cases h
    ·cases h
   ·cases h
  ·cases h
theorem rM {nest:Nat->List AV->Option AV} (hnest:∀g xs z,nest g xs=some z->Pure E.toCx g xs (.ret z)) {cl:Bool}:∀{pend:List (Nat×Oper×CV)},nU E.P E.G E.T nest cl all Z O pend=true->aD E N all pend Z O
 |[],_=>λp hp=>by cases hp
 |(i,o,x)::r,h=>by
  have key:ta E N all o Z O x->aD E N all r Z O->aD E N all ((i,o,x)::r) Z O:=λh1 h2 p hp=>by
   rcases dc.1 hp with rfl|hp
   ·exact h1
   ·exact h2 p hp
  simp only[nU]at h;split at h
  ·cases h
  ·split at h
   ·rename_i hw;split at h
    ·rename_i y ns hv;split at h
     ·rename_i hB;simp only[bI]at hB;have:=zK hB.1;subst this;exact key (.inl ⟨hw,Pg hnest hv (zJ hB.2)⟩) (rM hnest h)
     ·cases h
    ·cases h
   ·rename_i hw;split at h
    ·split at h
     ·rename_i a _ ha;have:a= #[]:=by cases a;simp_all
      subst this;exact key (.inr ⟨hw,rfl⟩) (rM hnest h)
     ·cases h
    ·cases h
   ·cases h
theorem Ph {cl:Bool} {x:CV} (h:B7 E.P E.G E.T cl Z o.op=some x):aR E N o Z x:=by
 unfold B7 at h;simp only[G5,G6,Jf,Jg,Jh,Ji,Jj]at h;split at h
 ·rename_i y hy;cases h;exactλL s ηB hs=>⟨y,rfl,(bM.cw hy).mono λ_ _ _ hy=>iS hs hy⟩
 ·split at h
  ·rename_i y hy;cases h;exactλL s ηB hs=>by
    obtain⟨y,h1,h2⟩:=G7 hs hy;exact⟨y,h2,bM.cw h1⟩
  ·split at h
   ·rename_i y hy;cases h;exactλL s ηB hs=>⟨y,rfl,(bM.jF hy).mono λ_ _ _ hy=>iS hs hy⟩
   ·split at h
    ·cases h
    ·split at h
     ·rename_i y hy;cases h;exactλL s ηB hs=>⟨y,rfl,(bM.dG hy).mono λ_ _ _ hy=>iS hs hy⟩
     ·split at h
      ·rename_i y hy;cases h;exactλL s ηB hs=>⟨y,rfl,(bM.eZ hy).mono λ_ _ _ hy=>iS hs hy⟩
      ·cases h
theorem OB {nest:Nat->List AV->Option AV} (hnest:∀g xs z,nest g xs=some z->Pure E.toCx g xs (.ret z)) {z:AV} {ns':List (Nat×Nat)} {g:Nat} {xs:List AV} (h:jv nest Z O o.op=some (z,ns',g,xs)) (hn:eqs ns'):a8 E N o Z O (.d z)/\Pure E.toCx g xs (.ret z):=by
 unfold jv at h;split at h
 ·rename_i f as tys ho;obtain⟨as⟩:=as;split at h
  ·rename_i g' cs hc;split at h
   ·rename_i xs' ns2 ms hfz;split at h
    ·rename_i z' hz;split at h
     ·simp only[aA,cv]at h;obtain⟨rfl,rfl,rfl,rfl⟩:=h;exact⟨a8.pure 60 ho (hnest _ _ _ hz) hc hfz hn (bP.refl _) (.inl rfl),hnest _ _ _ hz⟩
     ·split at h
      ·rename_i hrf;simp only[aA,cv]at h;obtain⟨rfl,rfl,rfl,rfl⟩:=h;exact⟨a8.pure 60 ho (hnest _ _ _ hz) hc hfz hn (bP.refl _) (.inr hrf),hnest _ _ _ hz⟩
      ·cases h
    ·cases h
   ·cases h
  ·cases h
 ·cases h
theorem E8 {nest:Nat->List AV->Option AV} (hnest:∀g xs z,nest g xs=some z->Pure E.toCx g xs (.ret z)) (hF:∀g x,c.fn g=some x->E.P.funcs[g]? =some x) {l:List (Nat×Oper×TK)} {A:bJ} {pend:List (Nat×Oper×CV)} {fs:List (Nat×List AV×AV)} (hp:iD E fs->aD E N all pend Z O) (h:Nx.ok E Q (sj E.P E.G E.T c nest N K all l A pend fs k Z O ns bad)) (hb:bad.ok E Q->eqs ns/\af E N K (.tl all l A pend fs::k) Q Z O):
  eqs ns/\af E N K (.tl all l A pend fs::k) Q Z O:=by
 unfold sj at h;split at h
 ·exact⟨h.1,λhf=>cq.nil (hp hf) h.2⟩
 ·exact hb h
 ·rename_i i o j o' _ l;split at h
  ·rename_i hcl hw hw';split at h
   ·rename_i a ca b cb hpr;split at h
    ·rename_i hB;simp only[bI]at hB;simp only[Tr.dy]at h;obtain⟨g1,g2,g3,g4,g5,g6⟩:=OC hpr;exact⟨h.1,λhf=>cq.pair (hp hf) g1 g2 hw hw' g3 (rM (pn hf) hB.1) g4 g5 (rM (pn hf) hB.2) g6 (h.2 hf)⟩
    ·exact hb h
   ·exact hb h
  ·exact hb h
 ·rename_i i o l;split at h
  ·exact hb h
  ·rename_i hd;split at h
   ·rename_i hw;exact⟨h.1,λhf=>cq.st (hp hf) hd (.inr ⟨hw,rfl⟩) (h.2 hf)⟩
   ·rename_i hw;split at h
    ·rename_i x hv;exact⟨h.1,λhf=>cq.st (hp hf) hd (.inl ⟨hw,Ph hv⟩) (h.2 hf)⟩
    ·split at h
     ·exact hb h
     ·rename_i x hv;exact⟨h.1,λhf=>cq.st (hp hf) hd (.inl ⟨hw,FP hnest hv⟩) (h.2 hf)⟩
     ·split at h
      ·rename_i x ns' hv;refine gK (P:=Nx.ok E Q) h hb λns1 he h=>?_;obtain⟨h1,h2⟩:=he h.1;exact⟨h2,λhf=>cq.fl (hp hf) hd (.inl ⟨hw,dK hv h1⟩) (h.2 hf)⟩
      ·split at h
       ·rename_i z ns' g xs hv;refine gK (P:=Nx.ok E Q) h hb λns1 he h=>?_;obtain⟨h1,h2⟩:=he h.1;obtain⟨q1,q2⟩:=OB hnest hv h1;exact⟨h2,λhf=>cq.fl (hp hf) hd (.inl ⟨hw,q1⟩) (h.2 λf hm=>(dc.1 hm).elim (λe=>by subst e;exact q2) (hf f))⟩
       ·exact hb h
   ·exact hb h
 ·rename_i i o l;split at h
  ·rename_i hnd hd;rw[yO]at h;obtain⟨Z1,O1,cu⟩:∃Z1 O1,ee (dp (b8 all.toArray i A)) Z O=(Z1,O1):=⟨_,_,rfl⟩;rw[cu]at h;simp only at h;split at h
   ·rename_i hw;refine⟨h.1,λhf=>cq.skip (hp hf) hnd hd (by rw[cu];exact hw) ?_⟩;rw[cu];exact h.2 hf
   ·rename_i hw;split at h
    ·rename_i x ns' hv;refine gK (P:=Nx.ok E Q) h hb λns1 he h=>?_;obtain⟨h1,h2⟩:=he h.1;exact⟨h2,λhf=>cq.lP (hp hf) hnd hd cu hw (bH.val (sm hv h1)) (λy η' hr=>by obtain⟨e1,rfl⟩:=hr;cases e1;exact h.2 hf) (λy η' hr=>by obtain⟨e1,_⟩:=hr;cases e1)⟩
    ·rename_i hv;split at h
     ·rename_i d x ce O2 ns' hh;refine gK (P:=Nx.ok E Q) h hb λns1 he h=>?_;rw[Tr.dy]at h;obtain⟨h1,h2⟩:=he h.1;exact⟨h2,λhf=>cq.lP (hp hf) hnd hd cu hw (rD hh h1) (λy η' hr=>by obtain⟨e1,rfl⟩:=hr;cases e1;exact h.2 hf) (λy η' hr=>by obtain⟨e1,_⟩:=hr;cases e1)⟩
     ·rename_i j ce ns2 O2 ns' hh;refine gK (P:=Nx.ok E Q) h hb λns1 he h=>?_;rw[Tr.dy]at h;obtain⟨h1,h2⟩:=he h.1;exact⟨h2,λhf=>cq.lP (hp hf) hnd hd cu hw (rD hh h1) (λy η' hr=>by obtain⟨e1,rfl⟩:=hr;cases e1;exact h.2 hf) (λy η' hr=>by obtain⟨e1,_⟩:=hr;cases e1)⟩
     ·rename_i j d x ce ns2 O2 ns' hh;refine gK (P:=Nx.ok E Q) h hb λns1 he h=>?_;rw[Tr.dy]at h;obtain⟨h1,h2⟩:=he h.1;exact⟨h2,λhf=>cq.lP (hp hf) hnd hd cu hw (rD hh h1) (λy η' hr=>by obtain⟨e1,rfl⟩:=hr;cases e1;exact h.2 hf) (λy η' hr=>by obtain⟨e1,_⟩:=hr;cases e1)⟩
     ·exact hb h
     ·split at h
      ·rename_i f as tys ho;obtain⟨as⟩:=as;split at h
       ·rename_i g cs hc;split at h
        ·exact hb h
        ·split at h
         ·rename_i nt rs b hf;split at h
          ·rename_i hB;obtain⟨fn,h1,h2,h3,h4,h5⟩:=uN hF hf;exact⟨h.1,af.eT ho hp hnd cu hw hc h1 h2 h3 h4 h5 hB hd h.2⟩
          ·exact hb h
         ·exact hb h
       ·exact hb h
      ·rename_i p ho;split at h
       ·rename_i t y hpp;exact uO (N:=N) (K:=K) ⟨y,.inl rfl⟩ h hb λh1 h2=>⟨h1,λhf=>cq.lP (hp hf) hnd hd cu hw (bH.panic ho hpp) (λy η' hr=>by obtain⟨e1,_⟩:=hr;cases e1) (λy η' hr=>by obtain⟨e1,rfl⟩:=hr;cases e1;exact h2)⟩
       ·rename_i t y hpp;exact uO (N:=N) (K:=K) ⟨.d y,.inr ⟨y,rfl⟩⟩ h hb λh1 h2=>⟨h1,λhf=>cq.lP (hp hf) hnd hd cu hw (bH.Ai ho hpp) (λy η' hr=>by obtain⟨e1,_⟩:=hr;cases e1) (λy η' hr=>by obtain⟨e1,rfl⟩:=hr;cases e1;exact h2)⟩
       ·exact hb h
      ·exact hb h
   ·exact hb h
  ·exact hb h
theorem bD.scope {C:Cx} {N:Nat} {c:Code} {Q:AQ} {Z:Sg} {O:List ah} (h:bD C N c Q Z O):bD C N (.scope c) Q Z O:=λF w0 O0 a w hs hx=>wp_scope_straight (wp_mono (h F w0 O0 a w hs hx) λe a' w' hq=>by
 obtain⟨e0,Z',η',h1,h2,h3⟩:=hq;cases e0 with
 |norm=>simp only[AE.rel]at h2;subst h2;exact⟨.norm,Z',η',h1,rfl,h3⟩
 |exit i=>simp only[AE.rel]at h2;subst h2;exact⟨.exit i,Z',η',h1,rfl,h3⟩
 |ret=>simp only[AE.rel]at h2;subst h2;exact⟨.ret,Z',η',h1,rfl,h3⟩
 |aO x=>obtain⟨v,rfl,h2⟩:=h2;exact⟨.aO x,Z',η',h1,⟨v,rfl,h2⟩,h3⟩)
theorem DC.scope {c:Code} {Z:TS} {O:Hp} (h:DC E N K c Q Z O):DC E N K (.scope c) Q Z O:=λL ZB ηB hs hh=>bD.scope (h L ZB ηB hs hh)
theorem M8 (hm:E.P.follows .mixedOrders=true) {fl:Nat} {b:Code} (h:Nx.ok E Q (yM E.T c fl N K b k Z O ns bad)) (hb:bad.ok E Q->eqs ns/\af E N K (.code b::k) Q Z O):eqs ns/\af E N K (.code b::k) Q Z O:=by
 unfold yM at h;split at h
 ·exact⟨h.1,DC.skip h.2⟩
 ·exact⟨h.1,DC.label h.2⟩
 ·rename_i x y;refine⟨h.1,DC.seq ?_⟩;rw[G4];exact h.2
 ·rename_i i x;refine⟨h.1,DC.block ?_⟩;rw[Qg];exact h.2
 ·rename_i id ops d;obtain⟨ops⟩:=ops;split at h
  ·exact⟨h.1,DC.region h.2⟩
  split at h
  ·rename_i u hu;split at h
   ·rename_i x hx;split at h
    ·rename_i z ns' ms hf;refine gK (P:=Nx.ok E Q) h hb λns1 he h=>?_;rw[Tr.dy]at h;obtain⟨h1,h2⟩:=he h.1;exact⟨h2,DC.cH 60 hx hf h1 h.2⟩
    ·exact hb h
   ·exact hb h
  ·split at h;rename_i pre tl al hp;split at h
   ·exact hb h
   ·rename_i A hA;split at h
    ·rename_i hB;simp only[bI]at hB;exact⟨h.1,DC.open pre tl al A hm hA hB.1 hB.2 h.2⟩
    ·exact hb h
 ·rename_i i;split at h
  ·rename_i k' hk;refine⟨h.1,DC.exit ?_⟩;rw[ml hk];exact h.2
  ·exact hb h
 ·split at h
  ·rename_i hk;refine⟨h.1,DC.ret ?_⟩;rw[kQ,hk];exact h.2
  ·rename_i N' K' Z' dst rs k' hk;refine⟨h.1,DC.ret ?_⟩;rw[kQ,hk];exact h.2
  ·rename_i N' K' Z' dst rs ty z k' hk;refine⟨h.1,DC.ret ?_⟩;rw[kQ,hk];exact h.2
  ·exact hb h
 ·exact⟨h.1,DC.scope h.2⟩
 ·rename_i t x y;split at h
  ·rename_i v hv;split at h
   ·split at h
    ·exact⟨h.1,DC.cond hv (λ_=>h.2) (λe=>by cases e)⟩
    ·exact⟨h.1,DC.cond hv (λe=>by cases e) (λ_=>h.2)⟩
   ·simp only[Tr.dy]at h;exact⟨h.1,DC.Ra hv h.2.1 h.2.2⟩
  ·exact hb h
 ·rename_i v x y;split at h
  ·exact⟨h.1,DC.cond (t:=true) rfl (λ_=>h.2) (λe=>by cases e)⟩
  ·exact⟨h.1,DC.cond (t:=false) rfl (λe=>by cases e) (λ_=>h.2)⟩
 ·rename_i x;split at h
  ·refine⟨h.1,DC.rounds (fl+1) ?_⟩;show DC E N K x (DE.then (mm E N K x (dq E N K k Q) fl) (dq E N K k Q)) Z O;rw[Iw];exact h.2
  ·exact hb h
 ·exact hb h
theorem G3 (hm:E.P.follows .mixedOrders=true) (hfs:iD E c.fs) (hct:∀f ty z,c.ct f=some (ty,z)->nZ E f ty z) (hF:∀g x,c.fn g=some x->E.P.funcs[g]? =some x) {nest:Nat->List AV->Option AV} (hnest:∀g xs z,nest g xs=some z->Pure E.toCx g xs (.ret z)) {fl:Nat} {todo:List It} (h:Nx.ok E Q (step E.P E.G E.T c nest fl N K todo Z O ns)):eqs ns/\af E N K todo Q Z O:=by
 unfold step at h;have hb:Nx.ok E Q (.out (.stuck N K todo Z O ns))->eqs ns/\af E N K todo Q Z O:=λh=>h;revert hb;generalize Nx.out (.stuck N K todo Z O ns)=bad at h;intro hb;rcases todo with _|⟨it,k⟩
 ·exact h
 cases it with
 |lR i=>exact h
 |lp n=>exact hb h
 |lk m b=>
  cases m with
  |zero=>exact hb h
  |succ m'=>
   refine⟨h.1,?_⟩;show mm E N K _ (dq E N K _ Q) (m'+1) Z O;show DC E N K _ (DE.then (mm E N K _ (dq E N K _ Q) m') (dq E N K _ Q)) Z O;rw[Iw];exact h.2
 |fr N' K' Z' dst rs=>
  unfold sI at h;simp only at h;split at h
  ·exact hb h
  ·rename_i xs hx;split at h
   ·exact⟨h.1,xs,hx,h.2⟩
   ·rw[Tr.dy]at h;exact⟨h.1,xs,hx,h.2⟩
 |ct N' K' Z' dst rs ty z=>
  unfold sI at h;simp only at h;split at h
  ·exact hb h
  ·rename_i xs hx;exact⟨h.1,xs,hx,h.2⟩
 |ops all l=>
  cases l with
  |nil=>exact⟨h.1,DO.nil h.2⟩
  |cons o r=>exact Nj hfs hct hF h hb
 |lex all tl A pre W=>
  cases pre with
  |nil=>
   unfold sI at h;simp only at h;split at h
   ·rename_i hnd;rw[yO,E9]at h;exact⟨h.1,dM.nil hnd (h.2 λf hf=>by cases hf)⟩
   ·exact hb h
  |cons o r=>exact Nk hnest h hb
 |tl all l A pend fs=>
  unfold sI at h;simp only at h;split at h
  ·rename_i hp;exact E8 hnest hF (λhf=>rM (pn hf) hp) h hb
  ·exact hb h
 |code b=>exact M8 hm h hb
end
def Kz (T:bO) (rs:List ResultVar):Out->Option AV
 | .fin .ret Z O []=>match dH T Z O rs with
  |some xs=>match bY O.e 60 [ed xs]with
   |some ([z],ns,_)=>match ns.all λp=>Nat.beq p.1 p.2 with
    |true=>some z
    |false=>none
   |_=>none
  |none=>none
 | .fin .norm Z O []=>match dH T Z O rs with
  |some xs=>match bY O.e 60 [ed xs]with
   |some ([z],ns,_)=>match ns.all λp=>Nat.beq p.1 p.2 with
    |true=>some z
    |false=>none
   |_=>none
  |none=>none
 |_=>none
def qm (F:Nat->Option Func) (T:bO) (run:Nat->Nat->List It->TS->Hp->List (Nat×Nat)->Out) (g:Nat) (xs:List AV):Option AV:=match ql F g with
 |some (nt,rs,b)=>match Nat.ble xs.length nt with
  |true=>Kz T rs (run nt 0 [.code b] (fN 0 (xs.map .d)) Hp.nil [])
  |false=>none
 |none=>none
def vM (fs:List (Nat×List AV×AV)) (nest:Nat->List AV->Option AV) (g:Nat) (xs:List AV):Option AV:=match lE fs g xs with
 |some z=>some z
 |none=>nest g xs
def dx (P:Program) (G:Gl) (T:bO) (c:eJ):Nat->Nat->Nat->List It->TS->Hp->List (Nat×Nat)->Out
 |0,N,K,todo,Z,O,ns=> .stuck N K todo Z O ns
 |f+1,N,K,todo,Z,O,ns=>match step P G T c (vM c.fs (qm c.fn T (dx P G T c f))) f N K todo Z O ns with
  | .go N' K' todo' Z' η' ns'=>dx P G T c f N' K' todo' Z' η' ns'
  | .out o=>o
section
variable {E:Env}
theorem FQ {F:Nat->Option Func} (hF:∀g x,F g=some x->E.P.funcs[g]? =some x) {run:Nat->Nat->List It->TS->Hp->List (Nat×Nat)->Out} (hr:∀(Q:DQ) N K todo Z O ns,Out.ok E Q (run N K todo Z O ns)->eqs ns/\af E N K todo Q Z O) {g:Nat} {xs:List AV} {z:AV} (h:qm F E.T run g xs=some z):Pure E.toCx g xs (.ret z):=by
 unfold qm at h;split at h
 ·rename_i nt rs b hf;obtain⟨fn,h1,h2,h3,h4,h5⟩:=uN hF hf;split at h
  ·rename_i hle;refine Pure.L4 60 (dR.enter h1 h2 h3 rs h4 nt h5 (by simpa using hle) ?_);have key:∀{Z':TS} {η':Hp} {xs':List CV} {ns1:List (Nat×Nat)} {ms1:List (Nat×bg)} {z':AV},dH E.T Z' η' rs=some xs'->bY η'.e 60 [ed xs']=some ([z'],ns1,ms1)->(ns1.all λp=>Nat.beq p.1 p.2)=true->some z'=some z->
     ∃ys,dH E.T Z' η' rs=some ys/\Ends 60 (.ret z) (.ret (ed ys)) η':=by
    intro Z' η' xs' ns1 ms1 z' g1 g2 g3 g4;cases g4;exact⟨xs',g1,z,ns1,ms1,g2,zJ g3,z,rfl,bQ.refl z⟩
   have:=hr (RD E.T rs (Ends 60 (.ret z))) nt 0 [.code b] (fN 0 (xs.map .d)) Hp.nil [];revert h this;generalize run nt 0 [.code b] (fN 0 (xs.map .d)) Hp.nil []=out;intro h hr';refine(hr' ?_).2;unfold Kz at h;split at h
   ·split at h
    ·rename_i xs' g1;split at h
     ·rename_i z' ns1 ms1 g2;split at h
      ·rename_i g3;exact⟨trivial,key g1 g2 g3 h⟩
      ·cases h
     ·cases h
    ·cases h
   ·split at h
    ·rename_i xs' g1;split at h
     ·rename_i z' ns1 ms1 g2;split at h
      ·rename_i g3;exact⟨trivial,key g1 g2 g3 h⟩
      ·cases h
     ·cases h
    ·cases h
   ·cases h
  ·cases h
 ·cases h
theorem A3 (hm:E.P.follows .mixedOrders=true) (c:eJ) (hfs:iD E c.fs) (hct:∀f ty z,c.ct f=some (ty,z)->nZ E f ty z) (hF:∀g x,c.fn g=some x->E.P.funcs[g]? =some x):∀(f:Nat) (Q:DQ) (N K:Nat) (todo:List It) (Z:TS) (O:Hp) (ns:List (Nat×Nat)),Out.ok E Q (dx E.P E.G E.T c f N K todo Z O ns)->eqs ns/\af E N K todo Q Z O
 |0,_,_,_,_,_,_,_,h=>h
 |f+1,Q,N,K,todo,Z,O,ns,h=>by
  have ih:=A3 hm c hfs hct hF f;refine G3 (c:=c) (fl:=f) hm hfs hct hF (nest:=vM c.fs (qm c.fn E.T (dx E.P E.G E.T c f))) (λg xs z hz=>?_) ?_
  ·unfold vM at hz;split at hz
   ·rename_i z' hl;cases hz;exact pn hfs g xs z hl
   ·exact FQ hF (λQ N K todo Z O ns=>ih Q N K todo Z O ns) hz
  unfold dx at h;revert h;generalize step E.P E.G E.T c (vM c.fs (qm c.fn E.T (dx E.P E.G E.T c f))) f N K todo Z O ns=nx;intro h;cases nx with
  |go N' K' todo' Z' η' ns'=>exact ih Q N' K' todo' Z' η' ns' h
  |out o=>exact h
def lL (P:Program) (G:Gl) (T:bO) (c:eJ) (f:Nat) (g:Nat) (xs:List AV):Option AV:=qm c.fn T (dx P G T c f) g xs
theorem Pj (hm:E.P.follows .mixedOrders=true) {c:eJ} (hfs:iD E c.fs) (hct:∀f ty z,c.ct f=some (ty,z)->nZ E f ty z) (hF:∀g x,c.fn g=some x->E.P.funcs[g]? =some x) {f g:Nat} {xs:List AV} {z:AV} (h:lL E.P E.G E.T c f g xs=some z):Pure E.toCx g xs (.ret z):=FQ hF (A3 hm c hfs hct hF f) h
