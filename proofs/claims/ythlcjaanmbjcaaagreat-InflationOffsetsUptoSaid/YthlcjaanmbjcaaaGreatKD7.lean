/- The abstract machine, seventh part: many steps at once; a run from beginning to end. -/
import Derived.Test.YthlcjaanmbjcaaaGreatKD6
set_option linter.all false
noncomputable section
namespace Go.Bw
open Go
def GD (m:List Nat):List Edge->Nat
 |[]=>0
 |e::r=>Nat.lor (GD m r) (Nat.lor (Nat.shiftLeft 1 e.on) ((nth m e.on).getD 0))
def G8:List Oper->List Nat->List Nat
 |[],m=>m
 |o::r,m=>G8 r (m++[GD m (o.after.toList.filter λe=>Region.binds .any e)])
def G9 (imp:Nat->Bool):Op->Bool
 | .store _ _ _=>true
 | .makeSlice _ _ _=>true
 | .mapUpdate _ _ _ _=>true
 | .makeMap _ _=>true
 | .panic _=>true
 | .defer _=>true
 | .range _ _=>true
 | .next _ _=>true
 | .entry _=>true
 | .call c=>match c.callee with
  | .builtin .append=>true
  | .builtin .len=>false
  | .builtin _=>true
  | .value (.func g)=>imp g
  | .value _=>true
  | .invoke _ _=>true
 |_=>false
def tV (d:Nat):List Oper->Bool
 |[]=>false
 |o::r=>match o.op with
  | .call {callee:= .builtin .append,args:=as,argTypes:=_}=>match as.toList with
   | .tmp t::_=>match Nat.beq t d with
    |true=>true
    |false=>tV d r
   |_=>tV d r
  |_=>tV d r
def xY (all:List Oper) (o:Oper):Bool:=match o.op,o.dst with
 | .buildSlice _ _ _,some d=>tV d all
 |_,_=>false
def xZ (imp:Nat->Bool) (all:List Oper):Nat->List Oper->List Nat
 |_,[]=>[]
 |i,o::r=>match G9 imp o.op||xY all o with
  |true=>i::xZ imp all (i+1) r
  |false=>xZ imp all (i+1) r
def GF (m:List Nat):Nat->Nat->List Nat->List Nat
 |0,_,t=>t
 |f+1,n,t=>
  let new:=(List.range n).filter λi=>!t.contains i&&t.any λj=>!Nat.testBit ((nth m j).getD 0) i
  match new with
  |[]=>t
  |_::_=>GF m f n (t++new)
def Ft (imp:Nat->Bool) (o:Oper):Bool:=match o.op with
 | .box _ _=>false
 | .alloc _=>false
 | .call c=>match c.callee with
  | .builtin .len=>true
  | .value (.func g)=>!imp g
  | .value _=>false
  |_=>false
 |op=>!G9 imp op
def N4 (imp:Nat->Bool) (ops:List Oper):List Nat×List (Nat×TK):=
 let t:=GF (G8 ops []) 60 ops.length (xZ imp ops 0 ops)
 ((List.range ops.length).filter λi=>!t.contains i,((List.range ops.length).filter λi=>t.contains i).map λi=>(i,match nth ops i with
  |some o=>match Ft imp o&& !xY ops o with
   |true=> .fl
   |false=> .one
  |none=> .one))
def PK (o:Oper):Bool:=match o.op,o.dst,o.guard with
 | .alloc _,some _,none=>o.after.all λe=>!Region.binds .any e
 |_,_,_=>false
def tF (imp:Nat->Bool) (ops:Array Oper):Nat->Array Bool->List (Nat×TK)
 |0,_=>[]
 |f+1,listed=>match Region.ready .any ops listed with
  |[]=>[]
  |i::r=>match(i::r).find? λi=>match ops[i]? with
    |some o=>Ft imp o&& !xY ops.toList o
    |none=>false with
   |some j=>(j,.fl)::tF imp ops f (listed.setIfInBounds j true)
   |none=>match r with
    |[]=>(i,.one)::tF imp ops f (listed.setIfInBounds i true)
    |[j]=>(i,.two)::(j,.one)::tF imp ops f ((listed.setIfInBounds i true).setIfInBounds j true)
    |_=>[]
def ug:Nat->List Oper->List Nat
 |_,[]=>[]
 |i,o::r=>match PK o with
  |true=>i::ug (i+1) r
  |false=>ug (i+1) r
def N5 (imp:Nat->Bool) (ops:List Oper):List Nat×List (Nat×TK)×List Nat:=match N4 imp ops with
 |(pre,tl)=>match kT ops.toArray pre tl []with
  |true=>(pre,tl,[])
  |false=>([],tF imp ops.toArray ops.length (gF (ug 0 ops) (Array.replicate ops.length false)),ug 0 ops)
inductive Out where
 |stuck (N K:Nat) (todo:List It) (Z:TS) (O:Hp) (ns:List (Nat×Nat))
 |cond (b:Bool) (N K:Nat) (t1:List It) (s1:TS) (t2:List It) (s2:TS) (O:Hp) (ns:List (Nat×Nat))
 |fin (e:DE) (Z:TS) (O:Hp) (ns:List (Nat×Nat))
inductive Nx where
 |go (N K:Nat) (todo:List It) (Z:TS) (O:Hp) (ns:List (Nat×Nat))
 |out (o:Out)
def Out.ok (E:Env) (Q:DQ):Out->Prop
 | .stuck N K todo Z O ns=>eqs ns/\ai E N K todo Q Z O
 | .cond b N K t1 s1 t2 s2 O ns=>eqs ns/\(b=true->ai E N K t1 Q s1 O)/\(b=false->ai E N K t2 Q s2 O)
 | .fin e Z O ns=>eqs ns/\Q e Z O
def Nx.ok (E:Env) (Q:DQ):Nx->Prop
 | .go N K todo Z O ns=>eqs ns/\ai E N K todo Q Z O
 | .out o=>o.ok E Q
structure eT where
 cl:Bool
 inl:Nat->Bool
 imp:Nat->Bool
 own:Nat->Bool
 fn:Nat->Option Func
 ct:Nat->Option (TypeId×AV)
 fs:List (Nat×List AV×AV)
def nZ (F:Nat->Option Func) (g:FuncId):Option (Nat×List ResultVar×Code):=match F g with
 |some fn=>match fn.body,(fn.name== "runtime.NumGoroutine")with
  |some c,false=>some (fn.ntmps,fn.results.toList,c)
  |_,_=>none
 |none=>none
def fp {R:Type} (cl:Bool) (ns' ns:List (Nat×Nat)) (bad:R) (k:List (Nat×Nat)->R):R:=match cl with
 |false=>k (ns'++ns)
 |true=>match ns'.all λp=>Nat.beq p.1 p.2 with
  |true=>k ns
  |false=>bad
def Fu (d:Nat) (l:List Oper):Bool:=l.any λo=>o.op.operands.toList.any λ
 | .tmp t=>Nat.beq t d
 |_=>false
def nW {R:Type}:Nat->Nat->Nat->(Nat->R)->R
 |0,n,acc,k=>k (n+acc)
 |f+1,n,acc,k=>match n with
  |0=>k acc
  |m+1=>nW f m (acc+1) k
theorem sv {R:Type} (k:Nat->R):∀(f n acc:Nat),nW f n acc k=k (n+acc)
 |0,_,_=>rfl
 |f+1,0,acc=>by rw[lz];rfl
 |f+1,m+1,acc=>by
  have:=sv k f m (acc+1);rw[show m+1+acc=m+(acc+1)by omega,<-this];rfl
def p8 {R:Type}:List (Nat×List CV)->TS->Hp->(TS->Hp->R)->R
 |[],Z,O,k=>k Z O
 |(d,cs)::r,Z,O,k=>match O with
  |⟨e,m⟩=>nW 1000 m 0 λn=>Tr.bY 24 Z d (some (.own n 0)) λZ'=>Tr.bY 24 e n (some (.box cs)) λe'=>p8 r Z' ⟨e',n+1⟩ k
def preB (Z:TS):Op->Option Nat
 | .build _ parts=>wD Z parts.toList
 | .slice _ (.tmp u) _ _ _=>match Z.get u with
  |some (.os _ _)=>some u
  |_=>none
 | .convert _ _ (.tmp u)=>match Z.get u with
  |some (.os _ _)=>some u
  |_=>none
 |_=>none
def OB (o:Oper):List Oper->Bool
 |o2::_=>match o.dst,o2.op with
  |some d,.call {callee:= .builtin .clear,args:=as,argTypes:=_}=>match as.toList with
   |[.tmp u]=>Nat.beq d u
   |_=>false
  |_,_=>false
 |[]=>false
def xc:CV->Option AV
 | .ba _ (.d y)=>match jv y with
  |true=>some y
  |false=>none
 | .d (.ba _ y)=>match jv y with
  |true=>some y
  |false=>none
 |_=>none
def ng (t:TypeId) (x:CV) (k:List It) (O:Hp) (ns:List (Nat×Nat)) (bad:Nx):Nx:=match gm k with
 |none=> .out (.fin (.aD x) .lf O ns)
 |some (N',K',Z',dst,ty,k')=>match Nat.beq t ty,xc x with
  |true,some y=> .go N' K' k' (br Z' dst (.d y)) O ns
  |_,_=>bad
def jV:List (Nat×List AV×AV)->Nat->List AV->Option AV
 |[],_,_=>none
 |(g',xs',z)::r,g,xs=>match Nat.beq g g'&&iS xs xs' with
  |true=>some z
  |false=>jV r g xs
def g7 (nest:Nat->List AV->Option AV) (Z:TS):Op->Option (Option CV)
 | .call {callee:= .value f,args:=as,argTypes:=_}=>match cu Z f as.toList with
  |some (g,cs)=>match eg cs with
   |some xs=>match nest g xs with
    |some z=>some (some (.d z))
    |none=>some none
   |none=>none
  |none=>none
 |_=>none
def tj {R:Type}:bo->TS->(TS->R)->R
 |[],Z,k=>k Z
 |p::A,Z,k=>Tr.bY 24 Z p.2.1 none λZ1=>tj A Z1 k
theorem Nw {Z:TS} {op:Op}:dz 4227104 op (preB Z op)=preB Z op:=by cases op<;>kernel_rfl
theorem Mq {nest:Nat->List AV->Option AV} {Z:TS} {op:Op}:dz 68719476736 op (g7 nest Z op)=g7 nest Z op:=by cases op<;>kernel_rfl
theorem N6 {cl:Bool} {T:bt} {N:Nat} {Z:TS} {O:Hp} {o:Oper}:dz 68721574488 o.op (bQ cl T N Z O o)=bQ cl T N Z O o:=by
 obtain⟨d,op,_,_,_,_⟩:=o;cases op<;>kernel_rfl
theorem Ny {cl:Bool} {T:bt} {N:Nat} {Z:TS} {O:Hp} {d:Option Nat} {op:Op} {t:TypeId} {p:String} {a:Array Edge} {g:Option (Nat×Bool)}:dz 68721574488 op (bQ cl T N Z O ⟨d,op,t,p,a,g⟩)=bQ cl T N Z O ⟨d,op,t,p,a,g⟩:=N6 (o:=⟨d,op,t,p,a,g⟩)
def Fv (P:Program) (G:Gl) (T:bt) (c:eT) (N K:Nat) (all:List Oper) (o:Oper) (r:List Oper) (k:List It) (Z:TS) (O:Hp) (ns:List (Nat×Nat)) (bad:Nx) (j:Nat) (want:Bool):Nx:=match o.dst,nth all j with
 |some e,some oj=>match oj.dst,Nat.blt e N with
  |some d,true=>match Z.get d with
   |some (.d (.v (.bool t)))=>match c.cl with
    |true=>match t,want with
     |true,true=> .go N K (.ops all (⟨some e,o.op,o.type,o.pos,o.after,none⟩::r)::k) Z O ns
     |false,false=> .go N K (.ops all (⟨some e,o.op,o.type,o.pos,o.after,none⟩::r)::k) Z O ns
     |true,false=>Tr.bY 24 Z e (some (.d (.v undef))) λZ1=> .go N K (.ops all r::k) Z1 O ns
     |false,true=>Tr.bY 24 Z e (some (.d (.v undef))) λZ1=> .go N K (.ops all r::k) Z1 O ns
    |false=>Tr.bY 24 Z d (some (.d (.v (.bool true)))) λZt=>Tr.bY 24 Z d (some (.d (.v (.bool false)))) λZf=>match want with
     |true=>Tr.bY 24 Zf e (some (.d (.v undef))) λZn=> .out (.cond t N K (.ops all (⟨some e,o.op,o.type,o.pos,o.after,none⟩::r)::k) Zt (.ops all r::k) Zn O ns)
     |false=>Tr.bY 24 Zt e (some (.d (.v undef))) λZn=> .out (.cond t N K (.ops all r::k) Zn (.ops all (⟨some e,o.op,o.type,o.pos,o.after,none⟩::r)::k) Zf O ns)
   |some (.d (.v (.tuple a)))=>match a.toList with
    |[]=>Tr.bY 24 Z e (some (.d (.v undef))) λZ1=> .go N K (.ops all r::k) Z1 O ns
    |_::_=>bad
   |_=>bad
  |_,_=>bad
 |_,_=>bad
def Fw (P:Program) (G:Gl) (T:bt) (c:eT) (N K:Nat) (all:List Oper) (o:Oper) (r:List Oper) (k:List It) (Z:TS) (O:Hp) (ns:List (Nat×Nat)) (bad:Nx):Nx:=match o.op with
 | .call {callee:= .value f,args:=as,argTypes:=_}=>match cu Z f as.toList with
  |some (g,cs)=>match c.inl g with
   |false=>bad
   |true=>match c.ct g with
    |some (ty,z)=>match cs with
     |[x]=>match uh x with
      |some (g',fs',cs')=>match nZ c.fn g' with
       |some (nt,rs,b)=>match Nat.ble (fs'++cs').length nt&&bE N o.dst with
        |true=> .go nt O.n (.code b:: .ct N K Z o.dst rs ty z:: .ops all r::k) (fj 0 (fs'++cs')) O ns
        |false=>bad
       |none=>bad
      |none=>bad
     |_=>bad
    |none=>match nZ c.fn g with
     |some (nt,rs,b)=>match Nat.ble cs.length nt&&bE N o.dst with
      |true=> .go nt O.n (.code b:: .fr N K Z o.dst rs:: .ops all r::k) (fj 0 cs) O ns
      |false=>bad
     |none=>bad
  |none=>bad
 | .panic p=>match aL Z p with
  |some (.ba t y)=>ng t (.ba t y) k O ns bad
  |some (.d (.ba t y))=>ng t (.d (.ba t y)) k O ns bad
  |_=>bad
 |_=>bad
def Fx (P:Program) (G:Gl) (T:bt) (c:eT) (N K:Nat) (all:List Oper) (o:Oper) (r:List Oper) (k:List It) (Z:TS) (O:Hp) (ns:List (Nat×Nat)) (bad:Nx):Nx:=match dz 68721574488 o.op (bQ c.cl T N Z O o)with
 |some (.push d x ce)=>Tr.bY 24 Z d (some x) λZ1=>Tr.bY 24 O.e O.n (some ce) λe1=> .go N K (.ops all r::k) Z1 ⟨e1,O.n+1⟩ ns
 |some (.set i ce ns')=>fp c.cl ns' ns bad λns1=>Tr.bY 24 O.e i (some ce) λe1=> .go N K (.ops all r::k) Z ⟨e1,O.n⟩ ns1
 |some (.app i d x ce ns')=>fp c.cl ns' ns bad λns1=>Tr.bY 24 Z d (some x) λZ1=>Tr.bY 24 O.e i (some ce) λe1=> .go N K (.ops all r::k) Z1 ⟨e1,O.n⟩ ns1
 |some (.nD t e kk)=>Tr.bY 24 Z t (some (.os O.n 0)) λZ1=>Tr.bY 24 O.e O.n (some (.row e kk [])) λe1=> .go N K (.ops all (o::r)::k) Z1 ⟨e1,O.n+1⟩ ns
 |some (.cz t z ns' ms)=>fp c.cl ns' ns bad λns1=>Tr.bY 24 Z t (some (.d z)) λZ1=> .go N K (.ops all (o::r)::k) Z1 (fA ms O) ns1
 |none=>Fw P G T c N K all o r k Z O ns bad
def Fy (P:Program) (G:Gl) (T:bt) (c:eT) (N K:Nat) (all:List Oper) (o:Oper) (r:List Oper) (k:List It) (Z:TS) (O:Hp) (ns:List (Nat×Nat)) (bad:Nx):Nx:=match dz 68719476736 o.op (g7 (jV c.fs) Z o.op)with
 |some (some x)=>match bE N o.dst with
  |false=>bad
  |true=> .go N K (.ops all r::k) (br Z o.dst x) O ns
 |_=>Fx P G T c N K all o r k Z O ns bad
def Fz (P:Program) (G:Gl) (T:bt) (c:eT) (N K:Nat) (all:List Oper) (o:Oper) (r:List Oper) (k:List It) (Z:TS) (O:Hp) (ns:List (Nat×Nat)) (bad:Nx):Nx:=match cK P G T c.cl Z O o.op with
 |some (x,ns')=>match o.dst with
  |none=>bad
  |some d=>match Nat.blt d N with
   |false=>bad
   |true=>fp c.cl ns' ns bad λns1=>Tr.bY 24 Z d (some x) λZ1=> .go N K (.ops all r::k) Z1 O ns1
 |none=>Fy P G T c N K all o r k Z O ns bad
def FA (P:Program) (G:Gl) (T:bt) (c:eT) (N K:Nat) (all:List Oper) (o:Oper) (r:List Oper) (k:List It) (Z:TS) (O:Hp) (ns:List (Nat×Nat)) (bad:Nx):Nx:=match dz 4227104 o.op (preB Z o.op)with
 |some u=>match OB o r with
  |true=>bad
  |false=>match Z.get u with
   |some x=>match bA O.e 60 [x]with
    |some ([z],ns',ms)=>fp c.cl ns' ns bad λns1=>Tr.bY 24 Z u (some (.d z)) λZ1=> .go N K (.ops all (o::r)::k) Z1 (fA ms O) ns1
    |_=>bad
   |none=>bad
 |none=>Fz P G T c N K all o r k Z O ns bad
def wE (P:Program) (G:Gl) (T:bt) (c:eT) (N K:Nat) (all:List Oper) (o:Oper) (r:List Oper) (k:List It) (Z:TS) (O:Hp) (ns:List (Nat×Nat)) (bad:Nx):Nx:=match o.guard with
 |some (j,want)=>Fv P G T c N K all o r k Z O ns bad j want
 |none=>FA P G T c N K all o r k Z O ns bad
def wF (P:Program) (G:Gl) (T:bt) (c:eT) (nest:Nat->List AV->Option AV) (N K:Nat) (all:List Oper) (tl:List (Nat×Oper×TK)) (A:bo) (o:Oper) (r:List Oper) (W:List (Nat×List CV)) (k:List It) (Z:TS) (O:Hp) (ns:List (Nat×Nat)) (bad:Nx):Nx:=match bX all o Z with
 |some false=>match o.dst,iJ o W with
  |some d,true=>match Nat.blt d N with
   |true=>Tr.bY 24 Z d (some (.d (.v undef))) λZ1=> .go N K (.lex all tl A r W::k) Z1 O ns
   |false=>bad
  |_,_=>bad
 |some true=>match o.dst,iJ o W with
  |some d,true=>match Nat.blt d N with
   |false=>bad
   |true=>match cK P G T c.cl Z O o.op with
    |some (x,ns')=>fp c.cl ns' ns bad λns1=>Tr.bY 24 Z d (some x) λZ1=> .go N K (.lex all tl A r W::k) Z1 O ns1
    |none=>match o.op with
     | .box _ p=>match aL Z p with
      |some x=>match Fu d r&& !c.own d,eg (cO x)with
       |true,some ys=>Tr.bY 24 Z d (some (.d (.ip ys))) λZ1=> .go N K (.lex all tl A r W::k) Z1 O ns
       |_,_=>Tr.bY 24 Z d none λZ1=> .go N K (.lex all tl A r (W++[(d,cO x)])::k) Z1 O ns
      |none=>bad
     | .alloc t=>match aM T t with
      |some ⟨_,_,_,z⟩=>match Fu d r&& !c.own d with
       |true=>Tr.bY 24 Z d (some (.d (.ip (z.map .v)))) λZ1=> .go N K (.lex all tl A r W::k) Z1 O ns
       |false=>Tr.bY 24 Z d none λZ1=> .go N K (.lex all tl A r (W++[(d,(z.map .v).map .d)])::k) Z1 O ns
      |none=>bad
     | .buildSlice t n parts=>match aM T t with
      |some ⟨.slice e kk,_,_,_⟩=>match aM T e with
       |some ⟨_,_,_,z'⟩=>match dG kk (cZ Z) (eR n (z'.map .v)) parts.toList with
        |some cells=>match Nat.ble (n*kk) 16777216&&Nat.ble 1 kk with
         |true=>Tr.bY 24 Z d (some (.d (.sl kk (chunk n kk cells)))) λZ1=> .go N K (.lex all tl A r W::k) Z1 O ns
         |false=>bad
        |none=>bad
       |none=>bad
      |_=>bad
     | .call {callee:= .value f,args:=as,argTypes:=_}=>match cu Z f as.toList with
      |some (g,cs)=>match c.inl g with
       |false=>bad
       |true=>match bA O.e 60 cs with
        |some (xs,ns',ms)=>match nest g xs with
         |some z=>match ms with
          |[]=>fp c.cl ns' ns bad λns1=>Tr.bY 24 Z d (some (.d z)) λZ1=> .go N K (.lex all tl A r W::k) Z1 O ns1
          |_::_=>match cn z with
           |true=>fp c.cl ns' ns bad λns1=>Tr.bY 24 Z d (some (.d z)) λZ1=> .go N K (.lex all tl A r W::k) Z1 O ns1
           |false=>bad
         |none=>bad
        |none=>bad
      |none=>bad
     |_=>bad
  |_,_=>bad
 |none=>match o.guard with
  |some (j,_)=>match(nth all j).bind (·.dst)with
   |some d=>match Z.get d with
    |some (.d (.v (.bool t)))=>match c.cl with
     |true=>bad
     |false=>Tr.bY 24 Z d (some (.d (.v (.bool true)))) λZt=>Tr.bY 24 Z d (some (.d (.v (.bool false)))) λZf=> .out (.cond t N K (.lex all tl A (o::r) W::k) Zt (.lex all tl A (o::r) W::k) Zf O ns)
    |_=>bad
   |none=>bad
  |none=>bad
def tW (P:Program) (G:Gl) (T:bt) (cl:Bool) (Z:TS) (O:Hp) (op:Op):Option (CV×List (Nat×Nat)):=match cK P G T cl Z O op with
 |some p=>some p
 |none=>match op with
  | .buildSlice t n parts=>match aM T t with
   |some ⟨.slice e kk,_,_,_⟩=>match aM T e with
    |some ⟨_,_,_,z'⟩=>match dG kk (cZ Z) (eR n (z'.map .v)) parts.toList with
     |some cells=>match Nat.ble (n*kk) 16777216&&Nat.ble 1 kk with
      |true=>some (.d (.sl kk (chunk n kk cells)),[])
      |false=>none
     |none=>none
    |none=>none
   |_=>none
  |_=>none
def ya (P:Program) (G:Gl) (T:bt) (nest:Nat->List AV->Option AV) (cl:Bool) (Z:TS) (O:Hp) (op:Op):Option (CV×List (Nat×Nat)):=match tW P G T cl Z O op with
 |some p=>some p
 |none=>match op with
  | .call {callee:= .value f,args:=as,argTypes:=_}=>match cu Z f as.toList with
   |some (g,cs)=>match bA O.e 60 cs with
    |some (xs,ns',ms)=>match nest g xs with
     |some z=>match ms with
      |[]=>some (.d z,ns')
      |_::_=>match cn z with
       |true=>some (.d z,ns')
       |false=>none
     |none=>none
    |none=>none
   |none=>none
  |_=>none
def mc (P:Program) (G:Gl) (T:bt) (nest:Nat->List AV->Option AV) (cl:Bool) (all:List Oper) (Z:TS) (O:Hp):List (Nat×Oper×CV)->Bool
 |[]=>true
 |(_,o,x)::r=>match cl with
  |false=>false
  |true=>match bX all o Z with
   |some true=>match ya P G T nest true Z O o.op with
    |some (y,ns)=>match gN x y&&ns.all λp=>Nat.beq p.1 p.2 with
     |true=>mc P G T nest cl all Z O r
     |false=>false
    |none=>false
   |some false=>match x with
    | .d (.v (.tuple a))=>match a.toList with
     |[]=>mc P G T nest cl all Z O r
     |_::_=>false
    |_=>false
   |none=>false
def yb (P:Program) (G:Gl) (T:bt) (cl:Bool) (Z:TS) (op:Op):Option CV:=
 match dz 51565228327 op (yh T (cZ Z) op)with
 |some y=>some (.d y)
 |none=>match dz 51565170727 op (yn T Z op)with
  |some x=>some x
  |none=>match dz 33024 op (iq G T (cZ Z) op)with
   |some y=>some (.d y)
   |none=>match cl with
    |false=>none
    |true=>match dz 104865792 op (dn P T (cZ Z) op)with
     |some y=>some (.d y)
     |none=>match dz 68719484928 op (dS P (cZ Z) op)with
      |some y=>some (.d y)
      |none=>none
def xF (nest:Nat->List AV->Option AV) (Z:TS) (O:Hp):Op->Option (AV×List (Nat×Nat)×Nat×List AV)
 | .call {callee:= .value f,args:=as,argTypes:=_}=>match cu Z f as.toList with
  |some (g,cs)=>match bA O.e 60 cs with
   |some (xs,ns',ms)=>match nest g xs with
    |some z=>match ms with
     |[]=>some (z,ns',g,xs)
     |_::_=>match cn z with
      |true=>some (z,ns',g,xs)
      |false=>none
    |none=>none
   |none=>none
  |none=>none
 |_=>none
def pP (P:Program) (G:Gl) (T:bt) (c:eT) (nest:Nat->List AV->Option AV) (N K:Nat) (all:List Oper) (l:List (Nat×Oper×TK)) (A:bo) (pend:List (Nat×Oper×CV)) (fs:List (Nat×List AV×AV)) (k:List It) (Z:TS) (O:Hp) (ns:List (Nat×Nat)) (bad:Nx):Nx:=match l with
 |[]=> .go N K k Z O ns
 |[(_,_,.two)]=>bad
 |(i,o,.two)::(j,o',_)::l=>match c.cl,bX all o Z,bX all o' Z with
  |true,some true,some true=>match xG c.cl T N Z O o o' with
   |some (a,ca,b,cb)=>match mc P G T (jV fs) c.cl all Z (O.set a ca) (b6 all i pend)&&mc P G T (jV fs) c.cl all Z (O.set b cb) (b6 all j pend)with
    |true=>Tr.bY 24 O.e a (some ca) λe1=>Tr.bY 24 e1 b (some cb) λe2=> .go N K (.tl all l A (b6 all j (b6 all i pend)) fs::k) Z ⟨e2,O.n⟩ ns
    |false=>bad
   |none=>bad
  |_,_,_=>bad
 |(i,o,.fl)::l=>match bE N o.dst with
  |false=>bad
  |true=>match bX all o Z with
    |some false=> .go N K (.tl all l A pend fs::k) (br Z o.dst (.d (.v undef))) O ns
    |some true=>match yb P G T c.cl Z o.op with
     |some x=> .go N K (.tl all l A pend fs::k) (br Z o.dst x) O ns
     |none=>match g7 nest Z o.op with
      |some none=>bad
      |some (some x)=> .go N K (.tl all l A pend fs::k) (br Z o.dst x) O ns
      |none=>match tW P G T c.cl Z O o.op with
       |some (x,ns')=>fp c.cl ns' ns bad λns1=> .go N K (.tl all l A ((i,o,x)::pend) fs::k) (br Z o.dst x) O ns1
       |none=>match xF nest Z O o.op with
        |some (z,ns',g,xs)=>fp c.cl ns' ns bad λns1=> .go N K (.tl all l A ((i,o,.d z)::pend) ((g,xs,z)::fs)::k) (br Z o.dst (.d z)) O ns1
        |none=>bad
    |none=>bad
 |(i,o,.one)::l=>match dP ((cG (bC all.toArray i A)).map (·.1)),bE N o.dst with
  |true,true=>p8 (cG (bC all.toArray i A)) Z O λZ1 O1=>match bX all o Z1 with
    |some false=> .go N K (.tl all l (bJ all.toArray i A) (b6 all i pend) fs::k) (br Z1 o.dst (.d (.v undef))) O1 ns
    |some true=>match cK P G T c.cl Z1 O1 o.op with
     |some (x,ns')=>fp c.cl ns' ns bad λns1=> .go N K (.tl all l (bJ all.toArray i A) (b6 all i pend) fs::k) (br Z1 o.dst x) O1 ns1
     |none=>match nE c.cl T N 20 Z1 O1 o with
      |some (.push _ x ce,O2,ns')=>fp c.cl ns' ns bad λns1=>Tr.bY 24 O2.e O2.n (some ce) λe1=> .go N K (.tl all l (bJ all.toArray i A) (b6 all i pend) fs::k) (br Z1 o.dst x) ⟨e1,O2.n+1⟩ ns1
      |some (.set j ce _,O2,ns')=>fp c.cl ns' ns bad λns1=>Tr.bY 24 O2.e j (some ce) λe1=> .go N K (.tl all l (bJ all.toArray i A) (b6 all i pend) fs::k) (br Z1 o.dst (.d (.v undef))) ⟨e1,O2.n⟩ ns1
      |some (.app j _ x ce _,O2,ns')=>fp c.cl ns' ns bad λns1=>Tr.bY 24 O2.e j (some ce) λe1=> .go N K (.tl all l (bJ all.toArray i A) (b6 all i pend) fs::k) (br Z1 o.dst x) ⟨e1,O2.n⟩ ns1
      |some _=>bad
      |none=>match o.op with
       | .call {callee:= .value f,args:=as,argTypes:=_}=>match cu Z1 f as.toList with
        |some (g,cs)=>match c.inl g with
         |false=>bad
         |true=>match nZ c.fn g with
          |some (nt,rs,b)=>match Nat.ble cs.length nt with
           |true=> .go nt O1.n (.code b:: .fr N K Z1 o.dst rs:: .tl all l (bJ all.toArray i A) (b6 all i pend) fs::k) (fj 0 cs) O1 ns
           |false=>bad
          |none=>bad
        |none=>bad
       | .panic p=>match aL Z1 p with
        |some (.ba t y)=>ng t (.ba t y) k O1 ns bad
        |some (.d (.ba t y))=>ng t (.d (.ba t y)) k O1 ns bad
        |_=>bad
       |_=>bad
    |none=>bad
  |_,_=>bad
def tG (Z:TS) (all:List Oper):List Oper->Option Nat
 |[]=>none
 |o::r=>match o.op with
  | .slice _ (.tmp u) _ _ _=>match Z.get u with
   |some (.os _ _)=>some u
   |_=>match all.find? λo'=>match o'.dst with
     |some d=>Nat.beq d u
     |none=>false with
    |some ⟨_,.move (.tmp v),_,_,_,_⟩=>match Z.get v with
     |some (.os _ _)=>some v
     |_=>tG Z all r
    |_=>tG Z all r
  |_=>tG Z all r
def vS (T:bt) (c:eT) (fl N K:Nat) (b:Code) (k:List It) (Z:TS) (O:Hp) (ns:List (Nat×Nat)) (bad:Nx):Nx:=match b with
 | .skip=> .go N K k Z O ns
 | .label _=> .go N K k Z O ns
 | .seq x y=> .go N K (.code x:: .code y::k) Z O ns
 | .block i x=> .go N K (.code x:: .iZ i::k) Z O ns
 | .region _ ops d=>match d with
  |false=> .go N K (.ops ops.toList ops.toList::k) Z O ns
  |true=>match tG Z ops.toList ops.toList with
   |some u=>match Z.get u with
    |some x=>match bA O.e 60 [x]with
     |some ([z],ns',ms)=>fp c.cl ns' ns bad λns1=>Tr.bY 24 Z u (some (.d z)) λZ1=> .go N K (.code b::k) Z1 (fA ms O) ns1
     |_=>bad
    |none=>bad
   |none=>match N5 c.imp ops.toList with
    |(pre,tl,al)=>match jC T ops N al with
     |none=>bad
     |some A=>match kT ops pre tl al&&Nat.beq (ep ops pre).length pre.length with
      |true=> .go N K (.lex ops.toList (gg ops tl) A (ep ops pre) []::k) Z O ns
      |false=>bad
 | .exit i=>match gJ i k with
  |some k'=> .go N K k' Z O ns
  |none=>bad
 | .ret=>match jy k with
  |[]=> .out (.fin .ret Z O ns)
  | .fr N' K' Z' dst rs::k'=> .go N K (.fr N' K' Z' dst rs::k') Z O ns
  | .ct N' K' Z' dst rs ty z::k'=> .go N K (.ct N' K' Z' dst rs ty z::k') Z O ns
  |_=>bad
 | .scope x=> .go N K (.code x::k) Z O ns
 | .cond (.tmp t) x y=>match Z.get t with
  |some (.d (.v (.bool v)))=>match c.cl with
    |true=>match v with
     |true=> .go N K (.code x::k) Z O ns
     |false=> .go N K (.code y::k) Z O ns
    |false=>Tr.bY 24 Z t (some (.d (.v (.bool true)))) λZt=>Tr.bY 24 Z t (some (.d (.v (.bool false)))) λZf=> .out (.cond v N K (.code x::k) Zt (.code y::k) Zf O ns)
  |_=>bad
 | .cond (.const (.bool v)) x y=>match v with
  |true=> .go N K (.code x::k) Z O ns
  |false=> .go N K (.code y::k) Z O ns
 | .loop x=>match c.cl with
  |true=> .go N K (.code x:: .jG fl x::k) Z O ns
  |false=>bad
 |_=>bad
def p9 (P:Program) (G:Gl) (T:bt) (c:eT) (nest:Nat->List AV->Option AV) (fl N K:Nat) (todo:List It) (Z:TS) (O:Hp) (ns:List (Nat×Nat)) (bad:Nx):Nx:=
 @List.rec It (λ_=>Program->Gl->bt->eT->(Nat->List AV->Option AV)->Nat->Nat->Nat->TS->Hp->List (Nat×Nat)->Nx->Nx)
  (λ_ _ _ _ _ _ _ _ Z O ns _=> .out (.fin .norm Z O ns))
  (λit k _ P G T c nest fl N K Z O ns bad=> @It.rec (λ_=>List It->Program->Gl->bt->eT->(Nat->List AV->Option AV)->Nat->Nat->Nat->TS->Hp->List (Nat×Nat)->Nx->Nx)
   (λb k P G T c nest fl N K Z O ns bad=>vS T c fl N K b k Z O ns bad)
   (λ_ k P G T c nest fl N K Z O ns bad=> .go N K k Z O ns)
   (λall l k P G T c nest fl N K Z O ns bad=> @List.rec Oper (λ_=>Nx) (.go N K k Z O ns) (λo r _=>wE P G T c N K all o r k Z O ns bad) l)
   (λall tl A pre W k P G T c nest fl N K Z O ns bad=> @List.rec Oper (λ_=>Nx) (match dP (W.map (·.1))with
    |true=>p8 W Z O λZ1 O1=>tj A Z1 λZ2=> .go N K (.tl all tl A [] []::k) Z2 O1 ns
    |false=>bad) (λo r _=>wF P G T c nest N K all tl A o r W k Z O ns bad) pre)
   (λall l A pend fs k P G T c nest fl N K Z O ns bad=>match mc P G T (jV fs) c.cl all Z O pend with
    |true=>pP P G T c nest N K all l A pend fs k Z O ns bad
    |false=>bad)
   (λ_ k P G T c nest fl N K Z O ns bad=>bad)
   (λm b k P G T c nest fl N K Z O ns bad=>match m with
    |0=>bad
    |m'+1=> .go N K (.code b:: .jG m' b::k) Z O ns)
   (λN' K' Z' dst rs k P G T c nest fl N K Z O ns bad=>match cU T Z O rs with
    |none=>bad
    |some xs=>match dst with
     |none=> .go N' K' k Z' O ns
     |some d=>Tr.bY 24 Z' d (some (dC xs)) λZ''=> .go N' K' k Z'' O ns)
   (λN' K' Z' dst rs _ z k P G T c nest fl N K Z O ns bad=>match cU T Z O rs with
    |none=>bad
    |some _=> .go N' K' k (br Z' dst (.d z)) O ns)
   it k P G T c nest fl N K Z O ns bad) todo P G T c nest fl N K Z O ns bad
def step (P:Program) (G:Gl) (T:bt) (c:eT) (nest:Nat->List AV->Option AV) (fl N K:Nat) (todo:List It) (Z:TS) (O:Hp) (ns:List (Nat×Nat)):Nx:=p9 P G T c nest fl N K todo Z O ns (.out (.stuck N K todo Z O ns))
theorem fK {R:Type} {P:R->Prop} {cl:Bool} {ns' ns:List (Nat×Nat)} {bad:R} {k:List (Nat×Nat)->R} {A:Prop} (h:P (fp cl ns' ns bad k)) (hb:P bad->A) (hk:∀ns1,(eqs ns1->eqs ns'/\eqs ns)->P (k ns1)->A):A:=by
 unfold fp at h;split at h
 ·exact hk _ (λh=>ji h) h
 ·split at h
  ·rename_i hall;refine hk _ (λh=>⟨?_,h⟩) h;clear h hk
   induction ns' with
   |nil=>trivial
   |cons p r ih=>
    simp only[gS,bn]at hall;exact⟨bf hall.1,ih hall.2⟩
  ·exact hb h
theorem vT {R:Type}:∀(W:List (Nat×List CV)) (Z:TS) (O:Hp) (k:TS->Hp->R),p8 W Z O k=k (dD W Z O).1 (dD W Z O).2
 |[],_,_,_=>rfl
 |(d,cs)::r,Z,⟨e,m⟩,k=>by simp only[p8,sv,BK,Tr.cN,dD];exact vT r _ _ k
theorem sb {P:Program} {F:Nat->Option Func} (hF:∀g x,F g=some x->P.funcs[g]? =some x) {g:FuncId} {nt:Nat} {rs:List ResultVar} {c:Code} (h:nZ F g=some (nt,rs,c)):∃fn,P.funcs[g]? =some fn/\fn.body=some c/\(fn.name== "runtime.NumGoroutine")=false/\fn.results=rs.toArray/\fn.ntmps=nt:=by
 unfold nZ at h;split at h
 ·rename_i fn hf;split at h
  ·rename_i b hb hn;simp only[ao,bW]at h;obtain⟨rfl,rfl,rfl⟩:=h;exact⟨fn,hF g fn hf,hb,hn,by simp,rfl⟩
  ·cases h
 ·cases h
section
variable {E:Env} {Q:DQ} {N K:Nat} {Z:TS} {O:Hp} {all:List Oper} {o:Oper} {r:List Oper} {tl:List (Nat×Oper×TK)} {k:List It} {ns:List (Nat×Nat)} {bad:Nx} {c:eT} {W:List (Nat×List CV)}
theorem DO.tm {rest:List Oper} {j d e:Nat} {want t:Bool} {op:Op} {ty:TypeId} {pos:String} {after:Array Edge} {oj:Oper} (hj:nth all j=some oj) (hjd:oj.dst=some d) (ht:Z.get d=some (.d (.v (.bool t))))
  (h1:t=want->DO E N K all (⟨some e,op,ty,pos,after,none⟩::rest) Q Z O)
  (h2:t= !want->DO E N K all rest Q (Tr.put 24 Z e (some (.d (.v undef)))) O)
  (hd:Nat.blt e N=true):DO E N K all (⟨some e,op,ty,pos,after,some (j,want)⟩::rest) Q Z O:=λL ZB ηB hs hh=>by
 obtain⟨y,h3,h4⟩:=hs d _ ht;simp only[aw]at h4;subst h4;have hjB:(all.toArray[j]?).bind (·.dst)=some d:=by rw[bP]at hj;simp[hj,hjd]
 have same:∀b,t=b->SS L Z (look ((d,.v (.bool b))::ZB)):=λb hb u z hz=>by
  subst hb;obtain⟨q,h5,h6⟩:=hs u z hz;refine⟨q,?_,h6⟩;simp only[look];cases hbq:Nat.beq d u with
  |true=>have:=bf hbq;subst this;rw[h3]at h5;exact h5
  |false=>exact h5
 exact aQ.cx hjB h3 (λe=>h1 e L _ ηB (same want e) hh) (λe'=>h2 e' L _ ηB ((same _ e').put (some e) (x:= .d (.v undef)) (y:= .v undef) rfl) hh) hd
theorem Lh {t:TypeId} {x:CV} {y:AV} (hx:∃u,x= .ba t u\/∃u',x= .d (.ba t u')) (h:xc x=some y):(x= .ba t (.d y)\/x= .d (.ba t y))/\jv y=true:=by
 unfold xc at h;split at h
 ·rename_i t' y';split at h
  ·rename_i hy;cases h;obtain⟨u,hx|⟨u',hx⟩⟩:=hx
   ·cases hx;exact⟨.inl rfl,hy⟩
   ·cases hx
  ·cases h
 ·rename_i t' y';split at h
  ·rename_i hy;cases h;obtain⟨u,hx|⟨u',hx⟩⟩:=hx
   ·cases hx
   ·cases hx;exact⟨.inr rfl,hy⟩
  ·cases h
 ·cases h
theorem sc {t:TypeId} {x:CV} (hx:∃u,x= .ba t u\/∃u',x= .d (.ba t u')) (h:Nx.ok E Q (ng t x k O ns bad)) {A:Prop} (hb:bad.ok E Q->A) (hk:eqs ns->dq E N K k Q (.aD x) .lf O->A):A:=by
 unfold ng at h;split at h
 ·rename_i hp;exact hk h.1 (iI k N K .lf hp h.2)
 ·rename_i N' K' Z' dst ty k' hp;split at h
  ·rename_i y ht hy;have ht:=bf ht;subst ht;obtain⟨h1,h2⟩:=Lh hx hy;exact hk h.1 (jq h1 h2 k N K hp h.2)
  ·exact hb h
theorem Dc {R:Type}:∀(A:bo) (Z:TS) (k:TS->R),tj A Z k=k (pQ A Z)
 |[],_,_=>rfl
 |p::A,Z,k=>by simp only[tj,Tr.cN,pQ];exact Dc A _ _
theorem m8:∀{fs:List (Nat×List AV×AV)},kp E fs->∀g xs z,jV fs g xs=some z->Pure E.toCx g xs (.ret z)
 |[],_,_,_,_,h=>by simp[jV]at h
 |(g',xs',z')::r,hf,g,xs,z,h=>by
  simp only[jV]at h;split at h
  ·rename_i hB;simp only[bn]at hB;have h1:=bf hB.1;have h2:=kK hB.2;cases h;subst h1;subst h2;exact hf _ R4
  ·exact m8 (λf hf'=>hf f (by simp[hf'])) g xs z h
theorem D2 {nest:Nat->List AV->Option AV} (hnest:∀g xs z,nest g xs=some z->Pure E.toCx g xs (.ret z)) {x:CV} (h:g7 nest Z o.op=some (some x)):aV E N o Z x:=by
 unfold g7 at h;split at h
 ·rename_i f as tys ho;obtain⟨as⟩:=as;split at h
  ·rename_i g cs hc;split at h
   ·rename_i xs hxs;split at h
    ·rename_i z hz;cases h;exactλL s ηB hs=>by
      obtain⟨ys,h1,h2⟩:=jM hs hc;have:=jk hxs h2;subst this;exact⟨z,rfl,bp.pure ho (hnest g _ z hz) h1⟩
    ·cases h
   ·cases h
  ·cases h
 ·cases h
theorem KH (hfs:kp E c.fs) (hct:∀f ty z,c.ct f=some (ty,z)->oo E f ty z) (hF:∀g x,c.fn g=some x->E.P.funcs[g]? =some x) (h:Nx.ok E Q (wE E.P E.G E.T c N K all o r k Z O ns bad)) (hb:bad.ok E Q->eqs ns/\ai E N K (.ops all (o::r)::k) Q Z O):eqs ns/\ai E N K (.ops all (o::r)::k) Q Z O:=by
 obtain⟨dst,op,ty,pos,after,gd⟩:=o;unfold wE at h;simp only[Fv,FA,Fz,Fy,Fx,Fw]at h;simp only[Nw,Mq,Ny]at h;split at h
 ·rename_i j want;split at h
  ·rename_i e oj hj;split at h
   ·rename_i d hjd he;split at h
    ·rename_i t ht;split at h
     ·split at h
      ·exact⟨h.1,DO.tm hj hjd ht (λ_=>h.2) (λe=>by cases e) he⟩
      ·exact⟨h.1,DO.tm hj hjd ht (λ_=>h.2) (λe=>by cases e) he⟩
      ·rw[Tr.cN]at h;exact⟨h.1,DO.tm hj hjd ht (λe=>by cases e) (λ_=>h.2) he⟩
      ·rw[Tr.cN]at h;exact⟨h.1,DO.tm hj hjd ht (λe=>by cases e) (λ_=>h.2) he⟩
     ·simp only[Tr.cN]at h;split at h
      ·exact⟨h.1,DO.FB hj hjd ht h.2.1 h.2.2 he⟩
      ·exact⟨h.1,DO.FB hj hjd ht h.2.2 h.2.1 he⟩
    ·rename_i a ha;split at h
     ·rename_i hz;have:a= #[]:=by cases a;simp_all
      subst this;rw[Tr.cN]at h;exact⟨h.1,DO.xd hj hjd ha h.2 he⟩
     ·exact hb h
    ·exact hb h
   ·exact hb h
  ·exact hb h
 ·split at h
  ·rename_i u hu;split at h
   ·exact hb h
   split at h
   ·rename_i x hx;split at h
    ·rename_i z ns' ms hf;refine fK (P:=Nx.ok E Q) h hb λns1 he h=>?_;rw[Tr.cN]at h;obtain⟨h1,h2⟩:=he h.1;exact⟨h2,DO.cz 60 hx hf h1 h.2⟩
    ·exact hb h
   ·exact hb h
  split at h
  ·rename_i x ns' hv;split at h
   ·exact hb h
   ·rename_i d;split at h
    ·exact hb h
    ·rename_i hd;refine fK (P:=Nx.ok E Q) h hb λns1 he h=>?_;rw[Tr.cN]at h;obtain⟨h1,h2⟩:=he h.1;exact⟨h2,DO.ko rfl hd (pO (o:=⟨some d,op,ty,pos,after,none⟩) hv h1) h.2⟩
  ·rename_i hv;split at h
   ·rename_i x hcs;split at h
    ·exact hb h
    ·rename_i hd;exact⟨h.1,DO.ko rfl hd (λL s ηB hs _=>D2 (o:=⟨dst,op,ty,pos,after,none⟩) (m8 hfs) hcs L s ηB hs) h.2⟩
   rename_i hnc;clear hnc;split at h
   ·rename_i d x ce hh;simp only[Tr.cN]at h;exact⟨h.1,pR rfl hh h.2⟩
   ·rename_i i ce ns' hh;refine fK (P:=Nx.ok E Q) h hb λns1 he h=>?_;simp only[Tr.cN]at h;obtain⟨h1,h2⟩:=he h.1;exact⟨h2,pR rfl hh ⟨h1,h.2⟩⟩
   ·rename_i i d x ce ns' hh;refine fK (P:=Nx.ok E Q) h hb λns1 he h=>?_;simp only[Tr.cN]at h;obtain⟨h1,h2⟩:=he h.1;exact⟨h2,pR rfl hh ⟨h1,h.2⟩⟩
   ·rename_i t e kk hh;simp only[Tr.cN]at h;exact⟨h.1,pR rfl hh h.2⟩
   ·rename_i t z ns' ms hh;refine fK (P:=Nx.ok E Q) h hb λns1 he h=>?_;simp only[Tr.cN]at h;obtain⟨h1,h2⟩:=he h.1;exact⟨h2,pR rfl hh ⟨h1,h.2⟩⟩
   ·split at h
    ·rename_i f as tys;obtain⟨as⟩:=as;split at h
     ·rename_i g cs hc;split at h
      ·exact hb h
      ·split at h
       ·rename_i ty' z hctg;split at h
        ·rename_i x;split at h
         ·rename_i g' fs' cs' hx;split at h
          ·rename_i nt rs b hf;split at h
           ·rename_i hB;simp only[bn]at hB;obtain⟨fn,h1,h2,h3,h4,h5⟩:=sb hF hf;exact⟨h.1,ai.ct (hct _ _ _ hctg) hc hx h1 h2 h3 h4 h5 hB.1 hB.2 h.2⟩
           ·exact hb h
          ·exact hb h
         ·exact hb h
        ·exact hb h
       ·split at h
        ·rename_i nt rs b hf;split at h
         ·rename_i hB;simp only[bn]at hB;obtain⟨fn,h1,h2,h3,h4,h5⟩:=sb hF hf;exact⟨h.1,ai.inl hc h1 h2 h3 h4 h5 hB.1 hB.2 h.2⟩
         ·exact hb h
        ·exact hb h
     ·exact hb h
    ·rename_i p;split at h
     ·rename_i t y hp;exact sc (N:=N) (K:=K) ⟨y,.inl rfl⟩ h hb λh1 h2=>⟨h1,DO.panic rfl rfl hp h2⟩
     ·rename_i t y hp;exact sc (N:=N) (K:=K) ⟨.d y,.inr ⟨y,rfl⟩⟩ h hb λh1 h2=>⟨h1,DO.xe rfl rfl hp h2⟩
     ·exact hb h
    ·exact hb h
theorem KI {A:bo} {nest:Nat->List AV->Option AV} (hnest:∀g xs z,nest g xs=some z->Pure E.toCx g xs (.ret z)) (h:Nx.ok E Q (wF E.P E.G E.T c nest N K all tl A o r W k Z O ns bad)) (hb:bad.ok E Q->eqs ns/\ai E N K (.lex all tl A (o::r) W::k) Q Z O):
  eqs ns/\ai E N K (.lex all tl A (o::r) W::k) Q Z O:=by
 unfold wF at h;split at h
 ·rename_i hw;split at h
  ·rename_i d hd hf;split at h
   ·rename_i hdN;rw[Tr.cN]at h;refine⟨h.1,cY.skip (by rw[hd];exact hdN) hw hf ?_⟩;rw[hd];exact h.2
   ·exact hb h
  ·exact hb h
 ·rename_i hw;split at h
  ·rename_i d hd hf;split at h
   ·exact hb h
   ·rename_i hdN;have hdst:bE N o.dst=true:=by rw[hd];exact hdN
    split at h
    ·rename_i x ns' hv;refine fK (P:=Nx.ok E Q) h hb λns1 he h=>?_;rw[Tr.cN]at h;obtain⟨h1,h2⟩:=he h.1;refine⟨h2,cY.val hdst hw hf (pO hv h1) ?_⟩;rw[hd];exact h.2
    ·split at h
     ·rename_i t p ho;split at h
      ·rename_i x hp;split at h
       ·rename_i ys _ hy;rw[Tr.cN]at h;refine⟨h.1,cY.val hdst hw hf (aN.G' (cells:=ys) λL s ηB hs hh=>?_) (by rw[hd];exact h.2)⟩;obtain⟨cs,h1,h2⟩:=sM ho hp L s ηB hs hh;have:=jk hy h1;subst this;exact⟨cs,fi _,h2⟩
       ·rw[Tr.cN]at h;exact⟨h.1,cY.new hd hdN hw hf (sM ho hp) h.2⟩
      ·exact hb h
     ·rename_i t ho;split at h
      ·rename_i _ _ _ z ht;split at h
       ·rw[Tr.cN]at h;refine⟨h.1,cY.val hdst hw hf (aN.G' (cells:=z.map .v) (sd ho ht)) (by rw[hd];exact h.2)⟩
       ·rw[Tr.cN]at h;exact⟨h.1,cY.new hd hdN hw hf (sd ho ht) h.2⟩
      ·exact hb h
     ·rename_i t n parts ho;split at h
      ·rename_i e kk _ _ _ ht;split at h
       ·rename_i _ _ _ z' hte;split at h
        ·rename_i cells hfi;split at h
         ·rename_i hB;simp only[bn]at hB;rw[Tr.cN]at h;exact⟨h.1,cY.val hdst hw hf (aN.lit ho ht hte hfi hB.1 hB.2) (by rw[hd];exact h.2)⟩
         ·exact hb h
        ·exact hb h
       ·exact hb h
      ·exact hb h
     ·rename_i f as tys ho;obtain⟨as⟩:=as;split at h
      ·rename_i g cs hc;split at h
       ·exact hb h
       ·split at h
        ·rename_i xs ns' ms hfz;split at h
         ·rename_i z hz;split at h
          ·refine fK (P:=Nx.ok E Q) h hb λns1 he h=>?_;rw[Tr.cN]at h;obtain⟨h1,h2⟩:=he h.1;exact⟨h2,cY.val hdst hw hf (aN.pure 60 ho (hnest g xs z hz) hc hfz h1 (bx.refl xs) (.inl rfl)) (by rw[hd];exact h.2)⟩
          ·split at h
           ·rename_i hrf;refine fK (P:=Nx.ok E Q) h hb λns1 he h=>?_;rw[Tr.cN]at h;obtain⟨h1,h2⟩:=he h.1;exact⟨h2,cY.val hdst hw hf (aN.pure 60 ho (hnest g xs z hz) hc hfz h1 (bx.refl xs) (.inr hrf)) (by rw[hd];exact h.2)⟩
           ·exact hb h
         ·exact hb h
        ·exact hb h
      ·exact hb h
     ·exact hb h
  ·exact hb h
 ·split at h
  ·rename_i j want hg;split at h
   ·rename_i d hd;split at h
    ·rename_i t ht;split at h
     ·exact hb h
     ·simp only[Tr.cN]at h;exact⟨h.1,cY.guard ht h.2.1 h.2.2⟩
    ·exact hb h
   ·exact hb h
  ·exact hb h
theorem wG:∀{ns:List (Nat×Nat)},(ns.all λp=>Nat.beq p.1 p.2)=true->eqs ns
 |[],_=>trivial
 |p::r,h=>by simp only[gS,bn]at h;exact⟨bf h.1,wG h.2⟩
theorem dk {cl:Bool} {x:CV} {ns:List (Nat×Nat)} (h:tW E.P E.G E.T cl Z O o.op=some (x,ns)) (hn:eqs ns):aN E N o Z O x:=by
 unfold tW at h;split at h
 ·rename_i p hp;simp only[ao]at h;subst h;exact pO hp hn
 ·split at h
  ·rename_i t n parts ho;split at h
   ·rename_i e kk _ _ _ ht;split at h
    ·rename_i _ _ _ z' hte;split at h
     ·rename_i cells hfi;split at h
      ·rename_i hB;simp only[bn]at hB;simp only[ao,bW]at h;obtain⟨rfl,rfl⟩:=h;exact aN.lit ho ht hte hfi hB.1 hB.2
      ·cases h
     ·cases h
    ·cases h
   ·cases h
  ·cases h
theorem Mr {nest:Nat->List AV->Option AV} (hnest:∀g xs z,nest g xs=some z->Pure E.toCx g xs (.ret z)) {cl:Bool} {x:CV} {ns:List (Nat×Nat)} (h:ya E.P E.G E.T nest cl Z O o.op=some (x,ns)) (hn:eqs ns):aN E N o Z O x:=by
 unfold ya at h;split at h
 ·rename_i p hp;simp only[ao]at h;subst h;exact dk hp hn
 ·split at h
  ·rename_i f as tys ho;obtain⟨as⟩:=as;split at h
   ·rename_i g cs hc;split at h
    ·rename_i xs ns' ms hfz;split at h
     ·rename_i z hz;split at h
      ·simp only[ao,bW]at h;obtain⟨rfl,rfl⟩:=h;exact aN.pure 60 ho (hnest g xs z hz) hc hfz hn (bx.refl xs) (.inl rfl)
      ·split at h
       ·rename_i hrf;simp only[ao,bW]at h;obtain⟨rfl,rfl⟩:=h;exact aN.pure 60 ho (hnest g xs z hz) hc hfz hn (bx.refl xs) (.inr hrf)
       ·cases h
     ·cases h
    ·cases h
   ·cases h
  ·cases h
theorem pv {nest:Nat->List AV->Option AV} (hnest:∀g xs z,nest g xs=some z->Pure E.toCx g xs (.ret z)) {cl:Bool}:∀{pend:List (Nat×Oper×CV)},mc E.P E.G E.T nest cl all Z O pend=true->ak E N all pend Z O
 |[],_=>λp hp=>by cases hp
 |(i,o,x)::r,h=>by
  have key:qn E N all o Z O x->ak E N all r Z O->ak E N all ((i,o,x)::r) Z O:=λh1 h2 p hp=>by
   rcases cL.1 hp with rfl|hp
   ·exact h1
   ·exact h2 p hp
  simp only[mc]at h;split at h
  ·cases h
  ·split at h
   ·rename_i hw;split at h
    ·rename_i y ns hv;split at h
     ·rename_i hB;simp only[bn]at hB;have:=wH hB.1;subst this;exact key (.inl ⟨hw,Mr hnest hv (wG hB.2)⟩) (pv hnest h)
     ·cases h
    ·cases h
   ·rename_i hw;split at h
    ·split at h
     ·rename_i a _ ha;have:a= #[]:=by cases a;simp_all
      subst this;exact key (.inr ⟨hw,rfl⟩) (pv hnest h)
     ·cases h
    ·cases h
   ·cases h
theorem Ms {cl:Bool} {x:CV} (h:yb E.P E.G E.T cl Z o.op=some x):aV E N o Z x:=by
 unfold yb at h;simp only[Ex,Ey,GG,GH,GI,GJ,GK]at h;split at h
 ·rename_i y hy;cases h;exactλL s ηB hs=>⟨y,rfl,(bp.bU hy).mono λ_ _ _ hy=>gI hs hy⟩
 ·split at h
  ·rename_i y hy;cases h;exactλL s ηB hs=>by
    obtain⟨y,h1,h2⟩:=Ez hs hy;exact⟨y,h2,bp.bU h1⟩
  ·split at h
   ·rename_i y hy;cases h;exactλL s ηB hs=>⟨y,rfl,(bp.iq hy).mono λ_ _ _ hy=>gI hs hy⟩
   ·split at h
    ·cases h
    ·split at h
     ·rename_i y hy;cases h;exactλL s ηB hs=>⟨y,rfl,(bp.dn hy).mono λ_ _ _ hy=>gI hs hy⟩
     ·split at h
      ·rename_i y hy;cases h;exactλL s ηB hs=>⟨y,rfl,(bp.dS hy).mono λ_ _ _ hy=>gI hs hy⟩
      ·cases h
theorem LL {nest:Nat->List AV->Option AV} (hnest:∀g xs z,nest g xs=some z->Pure E.toCx g xs (.ret z)) {z:AV} {ns':List (Nat×Nat)} {g:Nat} {xs:List AV} (h:xF nest Z O o.op=some (z,ns',g,xs)) (hn:eqs ns'):aN E N o Z O (.d z)/\Pure E.toCx g xs (.ret z):=by
 unfold xF at h;split at h
 ·rename_i f as tys ho;obtain⟨as⟩:=as;split at h
  ·rename_i g' cs hc;split at h
   ·rename_i xs' ns2 ms hfz;split at h
    ·rename_i z' hz;split at h
     ·simp only[ao,bW]at h;obtain⟨rfl,rfl,rfl,rfl⟩:=h;exact⟨aN.pure 60 ho (hnest _ _ _ hz) hc hfz hn (bx.refl _) (.inl rfl),hnest _ _ _ hz⟩
     ·split at h
      ·rename_i hrf;simp only[ao,bW]at h;obtain⟨rfl,rfl,rfl,rfl⟩:=h;exact⟨aN.pure 60 ho (hnest _ _ _ hz) hc hfz hn (bx.refl _) (.inr hrf),hnest _ _ _ hz⟩
      ·cases h
    ·cases h
   ·cases h
  ·cases h
 ·cases h
theorem Db {nest:Nat->List AV->Option AV} (hnest:∀g xs z,nest g xs=some z->Pure E.toCx g xs (.ret z)) (hF:∀g x,c.fn g=some x->E.P.funcs[g]? =some x) {l:List (Nat×Oper×TK)} {A:bo} {pend:List (Nat×Oper×CV)} {fs:List (Nat×List AV×AV)} (hp:kp E fs->ak E N all pend Z O) (h:Nx.ok E Q (pP E.P E.G E.T c nest N K all l A pend fs k Z O ns bad)) (hb:bad.ok E Q->eqs ns/\ai E N K (.tl all l A pend fs::k) Q Z O):
  eqs ns/\ai E N K (.tl all l A pend fs::k) Q Z O:=by
 unfold pP at h;split at h
 ·exact⟨h.1,λhf=>bN.nil (hp hf) h.2⟩
 ·exact hb h
 ·rename_i i o j o' _ l;split at h
  ·rename_i hcl hw hw';split at h
   ·rename_i a ca b cb hpr;split at h
    ·rename_i hB;simp only[bn]at hB;simp only[Tr.cN]at h;obtain⟨g1,g2,g3,g4,g5,g6⟩:=LM hpr;exact⟨h.1,λhf=>bN.pair (hp hf) g1 g2 hw hw' g3 (pv (m8 hf) hB.1) g4 g5 (pv (m8 hf) hB.2) g6 (h.2 hf)⟩
    ·exact hb h
   ·exact hb h
  ·exact hb h
 ·rename_i i o l;split at h
  ·exact hb h
  ·rename_i hd;split at h
   ·rename_i hw;exact⟨h.1,λhf=>bN.st (hp hf) hd (.inr ⟨hw,rfl⟩) (h.2 hf)⟩
   ·rename_i hw;split at h
    ·rename_i x hv;exact⟨h.1,λhf=>bN.st (hp hf) hd (.inl ⟨hw,Ms hv⟩) (h.2 hf)⟩
    ·split at h
     ·exact hb h
     ·rename_i x hv;exact⟨h.1,λhf=>bN.st (hp hf) hd (.inl ⟨hw,D2 hnest hv⟩) (h.2 hf)⟩
     ·split at h
      ·rename_i x ns' hv;refine fK (P:=Nx.ok E Q) h hb λns1 he h=>?_;obtain⟨h1,h2⟩:=he h.1;exact⟨h2,λhf=>bN.fl (hp hf) hd (.inl ⟨hw,dk hv h1⟩) (h.2 hf)⟩
      ·split at h
       ·rename_i z ns' g xs hv;refine fK (P:=Nx.ok E Q) h hb λns1 he h=>?_;obtain⟨h1,h2⟩:=he h.1;obtain⟨q1,q2⟩:=LL hnest hv h1;exact⟨h2,λhf=>bN.fl (hp hf) hd (.inl ⟨hw,q1⟩) (h.2 λf hm=>(cL.1 hm).elim (λe=>by subst e;exact q2) (hf f))⟩
       ·exact hb h
   ·exact hb h
 ·rename_i i o l;split at h
  ·rename_i hnd hd;rw[vT]at h;obtain⟨Z1,O1,bQ⟩:∃Z1 O1,dD (cG (bC all.toArray i A)) Z O=(Z1,O1):=⟨_,_,rfl⟩;rw[bQ]at h;simp only at h;split at h
   ·rename_i hw;refine⟨h.1,λhf=>bN.skip (hp hf) hnd hd (by rw[bQ];exact hw) ?_⟩;rw[bQ];exact h.2 hf
   ·rename_i hw;split at h
    ·rename_i x ns' hv;refine fK (P:=Nx.ok E Q) h hb λns1 he h=>?_;obtain⟨h1,h2⟩:=he h.1;exact⟨h2,λhf=>bN.km (hp hf) hnd hd bQ hw (bm.val (pO hv h1)) (λy O' hr=>by obtain⟨e1,rfl⟩:=hr;cases e1;exact h.2 hf) (λy O' hr=>by obtain⟨e1,_⟩:=hr;cases e1)⟩
    ·rename_i hv;split at h
     ·rename_i d x ce O2 ns' hh;refine fK (P:=Nx.ok E Q) h hb λns1 he h=>?_;rw[Tr.cN]at h;obtain⟨h1,h2⟩:=he h.1;exact⟨h2,λhf=>bN.km (hp hf) hnd hd bQ hw (pk hh h1) (λy O' hr=>by obtain⟨e1,rfl⟩:=hr;cases e1;exact h.2 hf) (λy O' hr=>by obtain⟨e1,_⟩:=hr;cases e1)⟩
     ·rename_i j ce ns2 O2 ns' hh;refine fK (P:=Nx.ok E Q) h hb λns1 he h=>?_;rw[Tr.cN]at h;obtain⟨h1,h2⟩:=he h.1;exact⟨h2,λhf=>bN.km (hp hf) hnd hd bQ hw (pk hh h1) (λy O' hr=>by obtain⟨e1,rfl⟩:=hr;cases e1;exact h.2 hf) (λy O' hr=>by obtain⟨e1,_⟩:=hr;cases e1)⟩
     ·rename_i j d x ce ns2 O2 ns' hh;refine fK (P:=Nx.ok E Q) h hb λns1 he h=>?_;rw[Tr.cN]at h;obtain⟨h1,h2⟩:=he h.1;exact⟨h2,λhf=>bN.km (hp hf) hnd hd bQ hw (pk hh h1) (λy O' hr=>by obtain⟨e1,rfl⟩:=hr;cases e1;exact h.2 hf) (λy O' hr=>by obtain⟨e1,_⟩:=hr;cases e1)⟩
     ·exact hb h
     ·split at h
      ·rename_i f as tys ho;obtain⟨as⟩:=as;split at h
       ·rename_i g cs hc;split at h
        ·exact hb h
        ·split at h
         ·rename_i nt rs b hf;split at h
          ·rename_i hB;obtain⟨fn,h1,h2,h3,h4,h5⟩:=sb hF hf;exact⟨h.1,ai.eh ho hp hnd bQ hw hc h1 h2 h3 h4 h5 hB hd h.2⟩
          ·exact hb h
         ·exact hb h
       ·exact hb h
      ·rename_i p ho;split at h
       ·rename_i t y hpp;exact sc (N:=N) (K:=K) ⟨y,.inl rfl⟩ h hb λh1 h2=>⟨h1,λhf=>bN.km (hp hf) hnd hd bQ hw (bm.panic ho hpp) (λy O' hr=>by obtain⟨e1,_⟩:=hr;cases e1) (λy O' hr=>by obtain⟨e1,rfl⟩:=hr;cases e1;exact h2)⟩
       ·rename_i t y hpp;exact sc (N:=N) (K:=K) ⟨.d y,.inr ⟨y,rfl⟩⟩ h hb λh1 h2=>⟨h1,λhf=>bN.km (hp hf) hnd hd bQ hw (bm.xe ho hpp) (λy O' hr=>by obtain⟨e1,_⟩:=hr;cases e1) (λy O' hr=>by obtain⟨e1,rfl⟩:=hr;cases e1;exact h2)⟩
       ·exact hb h
      ·exact hb h
   ·exact hb h
  ·exact hb h
theorem bg.scope {C:Cx} {N:Nat} {c:Code} {Q:AQ} {Z:Sg} {O:List ag} (h:bg C N c Q Z O):bg C N (.scope c) Q Z O:=λF w0 O0 a w hs hx=>wp_scope_straight (wp_mono (h F w0 O0 a w hs hx) λe a' w' hq=>by
 obtain⟨e0,Z',O',h1,h2,h3⟩:=hq;cases e0 with
 |norm=>simp only[AE.rel]at h2;subst h2;exact⟨.norm,Z',O',h1,rfl,h3⟩
 |exit i=>simp only[AE.rel]at h2;subst h2;exact⟨.exit i,Z',O',h1,rfl,h3⟩
 |ret=>simp only[AE.rel]at h2;subst h2;exact⟨.ret,Z',O',h1,rfl,h3⟩
 |aD x=>obtain⟨v,rfl,h2⟩:=h2;exact⟨.aD x,Z',O',h1,⟨v,rfl,h2⟩,h3⟩)
theorem DC.scope {c:Code} {Z:TS} {O:Hp} (h:DC E N K c Q Z O):DC E N K (.scope c) Q Z O:=λL ZB ηB hs hh=>bg.scope (h L ZB ηB hs hh)
theorem Kq (hm:E.P.follows .mixedOrders=true) {fl:Nat} {b:Code} (h:Nx.ok E Q (vS E.T c fl N K b k Z O ns bad)) (hb:bad.ok E Q->eqs ns/\ai E N K (.code b::k) Q Z O):eqs ns/\ai E N K (.code b::k) Q Z O:=by
 unfold vS at h;split at h
 ·exact⟨h.1,DC.skip h.2⟩
 ·exact⟨h.1,DC.label h.2⟩
 ·rename_i x y;refine⟨h.1,DC.seq ?_⟩;rw[Ew];exact h.2
 ·rename_i i x;refine⟨h.1,DC.block ?_⟩;rw[Nz];exact h.2
 ·rename_i id ops d;obtain⟨ops⟩:=ops;split at h
  ·exact⟨h.1,DC.region h.2⟩
  split at h
  ·rename_i u hu;split at h
   ·rename_i x hx;split at h
    ·rename_i z ns' ms hf;refine fK (P:=Nx.ok E Q) h hb λns1 he h=>?_;rw[Tr.cN]at h;obtain⟨h1,h2⟩:=he h.1;exact⟨h2,DC.cz 60 hx hf h1 h.2⟩
    ·exact hb h
   ·exact hb h
  ·split at h;rename_i pre tl al hp;split at h
   ·exact hb h
   ·rename_i A hA;split at h
    ·rename_i hB;simp only[bn]at hB;exact⟨h.1,DC.open pre tl al A hm hA hB.1 hB.2 h.2⟩
    ·exact hb h
 ·rename_i i;split at h
  ·rename_i k' hk;refine⟨h.1,DC.exit ?_⟩;rw[kN hk];exact h.2
  ·exact hb h
 ·split at h
  ·rename_i hk;refine⟨h.1,DC.ret ?_⟩;rw[jw,hk];exact h.2
  ·rename_i N' K' Z' dst rs k' hk;refine⟨h.1,DC.ret ?_⟩;rw[jw,hk];exact h.2
  ·rename_i N' K' Z' dst rs ty z k' hk;refine⟨h.1,DC.ret ?_⟩;rw[jw,hk];exact h.2
  ·exact hb h
 ·exact⟨h.1,DC.scope h.2⟩
 ·rename_i t x y;split at h
  ·rename_i v hv;split at h
   ·split at h
    ·exact⟨h.1,DC.cond hv (λ_=>h.2) (λe=>by cases e)⟩
    ·exact⟨h.1,DC.cond hv (λe=>by cases e) (λ_=>h.2)⟩
   ·simp only[Tr.cN]at h;exact⟨h.1,DC.N7 hv h.2.1 h.2.2⟩
  ·exact hb h
 ·rename_i v x y;split at h
  ·exact⟨h.1,DC.cond (t:=true) rfl (λ_=>h.2) (λe=>by cases e)⟩
  ·exact⟨h.1,DC.cond (t:=false) rfl (λe=>by cases e) (λ_=>h.2)⟩
 ·rename_i x;split at h
  ·refine⟨h.1,DC.rounds (fl+1) ?_⟩;show DC E N K x (DE.then (kO E N K x (dq E N K k Q) fl) (dq E N K k Q)) Z O;rw[FC];exact h.2
  ·exact hb h
 ·exact hb h
theorem Et (hm:E.P.follows .mixedOrders=true) (hfs:kp E c.fs) (hct:∀f ty z,c.ct f=some (ty,z)->oo E f ty z) (hF:∀g x,c.fn g=some x->E.P.funcs[g]? =some x) {nest:Nat->List AV->Option AV} (hnest:∀g xs z,nest g xs=some z->Pure E.toCx g xs (.ret z)) {fl:Nat} {todo:List It} (h:Nx.ok E Q (step E.P E.G E.T c nest fl N K todo Z O ns)):eqs ns/\ai E N K todo Q Z O:=by
 unfold step at h;have hb:Nx.ok E Q (.out (.stuck N K todo Z O ns))->eqs ns/\ai E N K todo Q Z O:=λh=>h;revert hb;generalize Nx.out (.stuck N K todo Z O ns)=bad at h;intro hb;rcases todo with _|⟨it,k⟩
 ·exact h
 cases it with
 |iZ i=>exact h
 |lp n=>exact hb h
 |jG m b=>
  cases m with
  |zero=>exact hb h
  |succ m'=>
   refine⟨h.1,?_⟩;show kO E N K _ (dq E N K _ Q) (m'+1) Z O;show DC E N K _ (DE.then (kO E N K _ (dq E N K _ Q) m') (dq E N K _ Q)) Z O;rw[FC];exact h.2
 |fr N' K' Z' dst rs=>
  unfold p9 at h;simp only at h;split at h
  ·exact hb h
  ·rename_i xs hx;split at h
   ·exact⟨h.1,xs,hx,h.2⟩
   ·rw[Tr.cN]at h;exact⟨h.1,xs,hx,h.2⟩
 |ct N' K' Z' dst rs ty z=>
  unfold p9 at h;simp only at h;split at h
  ·exact hb h
  ·rename_i xs hx;exact⟨h.1,xs,hx,h.2⟩
 |ops all l=>
  cases l with
  |nil=>exact⟨h.1,DO.nil h.2⟩
  |cons o r=>exact KH hfs hct hF h hb
 |lex all tl A pre W=>
  cases pre with
  |nil=>
   unfold p9 at h;simp only at h;split at h
   ·rename_i hnd;rw[vT,Dc]at h;exact⟨h.1,cY.nil hnd (h.2 λf hf=>by cases hf)⟩
   ·exact hb h
  |cons o r=>exact KI hnest h hb
 |tl all l A pend fs=>
  unfold p9 at h;simp only at h;split at h
  ·rename_i hp;exact Db hnest hF (λhf=>pv (m8 hf) hp) h hb
  ·exact hb h
 |code b=>exact Kq hm h hb
end
def Ha (T:bt) (rs:List ResultVar):Out->Option AV
 | .fin .ret Z O []=>match cU T Z O rs with
  |some xs=>match bA O.e 60 [dC xs]with
   |some ([z],ns,_)=>match ns.all λp=>Nat.beq p.1 p.2 with
    |true=>some z
    |false=>none
   |_=>none
  |none=>none
 | .fin .norm Z O []=>match cU T Z O rs with
  |some xs=>match bA O.e 60 [dC xs]with
   |some ([z],ns,_)=>match ns.all λp=>Nat.beq p.1 p.2 with
    |true=>some z
    |false=>none
   |_=>none
  |none=>none
 |_=>none
def qa (F:Nat->Option Func) (T:bt) (run:Nat->Nat->List It->TS->Hp->List (Nat×Nat)->Out) (g:Nat) (xs:List AV):Option AV:=match nZ F g with
 |some (nt,rs,b)=>match Nat.ble xs.length nt with
  |true=>Ha T rs (run nt 0 [.code b] (fj 0 (xs.map .d)) Hp.nil [])
  |false=>none
 |none=>none
def tH (fs:List (Nat×List AV×AV)) (nest:Nat->List AV->Option AV) (g:Nat) (xs:List AV):Option AV:=match jV fs g xs with
 |some z=>some z
 |none=>nest g xs
def dx (P:Program) (G:Gl) (T:bt) (c:eT):Nat->Nat->Nat->List It->TS->Hp->List (Nat×Nat)->Out
 |0,N,K,todo,Z,O,ns=> .stuck N K todo Z O ns
 |f+1,N,K,todo,Z,O,ns=>match step P G T c (tH c.fs (qa c.fn T (dx P G T c f))) f N K todo Z O ns with
  | .go N' K' todo' Z' O' ns'=>dx P G T c f N' K' todo' Z' O' ns'
  | .out o=>o
section
variable {E:Env}
theorem LN {F:Nat->Option Func} (hF:∀g x,F g=some x->E.P.funcs[g]? =some x) {run:Nat->Nat->List It->TS->Hp->List (Nat×Nat)->Out} (hr:∀(Q:DQ) N K todo Z O ns,Out.ok E Q (run N K todo Z O ns)->eqs ns/\ai E N K todo Q Z O) {g:Nat} {xs:List AV} {z:AV} (h:qa F E.T run g xs=some z):Pure E.toCx g xs (.ret z):=by
 unfold qa at h;split at h
 ·rename_i nt rs b hf;obtain⟨fn,h1,h2,h3,h4,h5⟩:=sb hF hf;split at h
  ·rename_i hle;refine Pure.H8 60 (de.enter h1 h2 h3 rs h4 nt h5 (by simpa using hle) ?_);have key:∀{Z':TS} {O':Hp} {xs':List CV} {ns1:List (Nat×Nat)} {ms1:List (Nat×aR)} {z':AV},cU E.T Z' O' rs=some xs'->bA O'.e 60 [dC xs']=some ([z'],ns1,ms1)->(ns1.all λp=>Nat.beq p.1 p.2)=true->some z'=some z->
     ∃ys,cU E.T Z' O' rs=some ys/\Ends 60 (.ret z) (.ret (dC ys)) O':=by
    intro Z' O' xs' ns1 ms1 z' g1 g2 g3 g4;cases g4;exact⟨xs',g1,z,ns1,ms1,g2,wG g3,z,rfl,bw.refl z⟩
   have:=hr (RD E.T rs (Ends 60 (.ret z))) nt 0 [.code b] (fj 0 (xs.map .d)) Hp.nil [];revert h this;generalize run nt 0 [.code b] (fj 0 (xs.map .d)) Hp.nil []=out;intro h hr';refine(hr' ?_).2;unfold Ha at h;split at h
   ·split at h
    ·rename_i xs' g1;split at h
     ·rename_i z' ns1 ms1 g2;split at h
      ·rename_i g3;exact⟨trivial,key g1 g2 g3 h⟩
      ·cases h
     ·cases h
    ·cases h
   ·split at h
    ·rename_i xs' g1;split at h
     ·rename_i z' ns1 ms1 g2;split at h
      ·rename_i g3;exact⟨trivial,key g1 g2 g3 h⟩
      ·cases h
     ·cases h
    ·cases h
   ·cases h
  ·cases h
 ·cases h
theorem GC (hm:E.P.follows .mixedOrders=true) (c:eT) (hfs:kp E c.fs) (hct:∀f ty z,c.ct f=some (ty,z)->oo E f ty z) (hF:∀g x,c.fn g=some x->E.P.funcs[g]? =some x):∀(f:Nat) (Q:DQ) (N K:Nat) (todo:List It) (Z:TS) (O:Hp) (ns:List (Nat×Nat)),Out.ok E Q (dx E.P E.G E.T c f N K todo Z O ns)->eqs ns/\ai E N K todo Q Z O
 |0,_,_,_,_,_,_,_,h=>h
 |f+1,Q,N,K,todo,Z,O,ns,h=>by
  have ih:=GC hm c hfs hct hF f;refine Et (c:=c) (fl:=f) hm hfs hct hF (nest:=tH c.fs (qa c.fn E.T (dx E.P E.G E.T c f))) (λg xs z hz=>?_) ?_
  ·unfold tH at hz;split at hz
   ·rename_i z' hl;cases hz;exact m8 hfs g xs z hl
   ·exact LN hF (λQ N K todo Z O ns=>ih Q N K todo Z O ns) hz
  unfold dx at h;revert h;generalize step E.P E.G E.T c (tH c.fs (qa c.fn E.T (dx E.P E.G E.T c f))) f N K todo Z O ns=nx;intro h;cases nx with
  |go N' K' todo' Z' O' ns'=>exact ih Q N' K' todo' Z' O' ns' h
  |out o=>exact h
