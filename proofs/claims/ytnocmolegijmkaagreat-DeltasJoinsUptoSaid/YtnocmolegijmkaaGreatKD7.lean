/- The abstract machine, seventh part: many steps at once; a run from beginning to end. -/
import Derived.Test.YtnocmolegijmkaaGreatKD6
set_option linter.all false
noncomputable section
namespace Go.Bw
open Go
def V0 (m:List Nat):List Edge->Nat
 |[]=>0
 |e::r=>Nat.lor (V0 m r) (Nat.lor (Nat.shiftLeft 1 e.on) ((nth m e.on).getD 0))
def Wt:List Oper->List Nat->List Nat
 |[],m=>m
 |o::r,m=>Wt r (m++[V0 m (o.after.toList.filter λe=>Region.binds .any e)])
def Wu (imp:Nat->Bool):Op->Bool
 | .store _ _ _=>true
 | .makeSlice _ _ _=>true
 | .mapUpdate _ _ _ _=>true
 | .makeMap _ _=>true
 | .panic _=>true
 | .defer _=>true
 | .range _ _=>true
 | .next _ _=>true
 | .entry _=>true
 | .call c=>match c.callee with
  | .builtin .append=>true
  | .builtin .len=>false
  | .builtin _=>true
  | .value (.func g)=>imp g
  | .value _=>true
  | .invoke _ _=>true
 |_=>false
def F8 (d:Nat):List Oper->Bool
 |[]=>false
 |o::r=>match o.op with
  | .call {callee:= .builtin .append,args:=as,argTypes:=_}=>match as.toList with
   | .tmp t::_=>match Nat.beq t d with
    |true=>true
    |false=>F8 d r
   |_=>F8 d r
  |_=>F8 d r
def KL (all:List Oper) (o:Oper):Bool:=match o.op,o.dst with
 | .buildSlice _ _ _,some d=>F8 d all
 |_,_=>false
def KM (imp:Nat->Bool) (all:List Oper):Nat->List Oper->List Nat
 |_,[]=>[]
 |i,o::r=>match Wu imp o.op||KL all o with
  |true=>i::KM imp all (i+1) r
  |false=>KM imp all (i+1) r
def V1 (m:List Nat):Nat->Nat->List Nat->List Nat
 |0,_,t=>t
 |f+1,n,t=>
  let new:=(List.range n).filter λi=>!t.contains i&&t.any λj=>!Nat.testBit ((nth m j).getD 0) i
  match new with
  |[]=>t
  |_::_=>V1 m f n (t++new)
def UI (imp:Nat->Bool) (o:Oper):Bool:=match o.op with
 | .box _ _=>false
 | .alloc _=>false
 | .call c=>match c.callee with
  | .builtin .len=>true
  | .value (.func g)=>!imp g
  | .value _=>false
  |_=>false
 |op=>!Wu imp op
def agF (imp:Nat->Bool) (ops:List Oper):List Nat×List (Nat×TK):=
 let t:=V1 (Wt ops []) 60 ops.length (KM imp ops 0 ops)
 ((List.range ops.length).filter λi=>!t.contains i,((List.range ops.length).filter λi=>t.contains i).map λi=>(i,match nth ops i with
  |some o=>match UI imp o&& !KL ops o with
   |true=> .fl
   |false=> .one
  |none=> .one))
def alB (o:Oper):Bool:=match o.op,o.dst,o.guard with
 | .alloc _,some _,none=>o.after.all λe=>!Region.binds .any e
 |_,_,_=>false
def FQ (imp:Nat->Bool) (ops:Array Oper):Nat->Array Bool->List (Nat×TK)
 |0,_=>[]
 |f+1,listed=>match Region.ready .any ops listed with
  |[]=>[]
  |i::r=>match(i::r).find? λi=>match ops[i]? with
    |some o=>UI imp o&& !KL ops.toList o
    |none=>false with
   |some j=>(j,.fl)::FQ imp ops f (listed.setIfInBounds j true)
   |none=>match r with
    |[]=>(i,.one)::FQ imp ops f (listed.setIfInBounds i true)
    |[j]=>(i,.two)::(j,.one)::FQ imp ops f ((listed.setIfInBounds i true).setIfInBounds j true)
    |_=>[]
def GQ:Nat->List Oper->List Nat
 |_,[]=>[]
 |i,o::r=>match alB o with
  |true=>i::GQ (i+1) r
  |false=>GQ (i+1) r
def agG (imp:Nat->Bool) (ops:List Oper):List Nat×List (Nat×TK)×List Nat:=match agF imp ops with
 |(pre,tl)=>match qd ops.toArray pre tl []with
  |true=>(pre,tl,[])
  |false=>([],FQ imp ops.toArray ops.length (lE (GQ 0 ops) (Array.replicate ops.length false)),GQ 0 ops)
inductive Out where
 |stuck (N K:Nat) (todo:List It) (O:TS) (L:Hp) (ns:List (Nat×Nat))
 |cond (b:Bool) (N K:Nat) (t1:List It) (s1:TS) (t2:List It) (s2:TS) (L:Hp) (ns:List (Nat×Nat))
 |fin (e:DE) (O:TS) (L:Hp) (ns:List (Nat×Nat))
inductive Nx where
 |go (N K:Nat) (todo:List It) (O:TS) (L:Hp) (ns:List (Nat×Nat))
 |out (o:Out)
def Out.ok (E:Env) (Q:DQ):Out->Prop
 | .stuck N K todo O L ns=>eqs ns/\ao E N K todo Q O L
 | .cond b N K t1 s1 t2 s2 L ns=>eqs ns/\(b=true->ao E N K t1 Q s1 L)/\(b=false->ao E N K t2 Q s2 L)
 | .fin e O L ns=>eqs ns/\Q e O L
def Nx.ok (E:Env) (Q:DQ):Nx->Prop
 | .go N K todo O L ns=>eqs ns/\ao E N K todo Q O L
 | .out o=>o.ok E Q
structure gz where
 cl:Bool
 inl:Nat->Bool
 imp:Nat->Bool
 own:Nat->Bool
 fn:Nat->Option Func
 ct:Nat->Option (TypeId×AV)
 fs:List (Nat×List AV×AV)
def Nh (n:Nat) (t:Tr Func) (g:Nat):Option Func:=match Nat.blt g n with
 |true=>t.get g
 |false=>none
theorem afV {P:Program} {n:Nat} {t:Tr Func} (h:(List.range n).map t.get=P.funcs.toList.map some):∀g x,Nh n t g=some x->P.funcs[g]? =some x:=λg x hx=>by
 unfold Nh at hx;split at hx
 ·rename_i hlt;have hlt:g<n:=by simpa using hlt
  have h1:((List.range n).map t.get)[g]? =some (t.get g):=by simp[hlt]
  rw[h,hx]at h1;simp only[iL,aak]at h1;obtain⟨y,h2,h3⟩:=h1;cases h3;simpa using h2
 ·cases hx
def v8 (F:Nat->Option Func) (g:FuncId):Option (Nat×List ResultVar×Code):=match F g with
 |some fn=>match fn.body,(fn.name== "runtime.NumGoroutine")with
  |some c,false=>some (fn.ntmps,fn.results.toList,c)
  |_,_=>none
 |none=>none
def jB {R:Type} (cl:Bool) (ns' ns:List (Nat×Nat)) (bad:R) (k:List (Nat×Nat)->R):R:=match cl with
 |false=>k (ns'++ns)
 |true=>match ns'.all λp=>Nat.beq p.1 p.2 with
  |true=>k ns
  |false=>bad
def UJ (d:Nat) (l:List Oper):Bool:=l.any λo=>o.op.operands.toList.any λ
 | .tmp t=>Nat.beq t d
 |_=>false
def vZ {R:Type}:Nat->Nat->Nat->(Nat->R)->R
 |0,n,acc,k=>k (n+acc)
 |f+1,n,acc,k=>match n with
  |0=>k acc
  |m+1=>vZ f m (acc+1) k
theorem Es {R:Type} (k:Nat->R):∀(f n acc:Nat),vZ f n acc k=k (n+acc)
 |0,_,_=>rfl
 |f+1,0,acc=>by rw[kJ];rfl
 |f+1,m+1,acc=>by
  have:=Es k f m (acc+1);rw[show m+1+acc=m+(acc+1)by omega,<-this];rfl
def AG {R:Type}:List (Nat×List CV)->TS->Hp->(TS->Hp->R)->R
 |[],O,L,k=>k O L
 |(d,cs)::r,O,L,k=>match L with
  |⟨e,m⟩=>vZ 1000 m 0 λn=>Tr.dc 24 O d (some (.own n 0)) λO'=>Tr.dc 24 e n (some (.box cs)) λe'=>AG r O' ⟨e',n+1⟩ k
def preB (O:TS):Op->Option Nat
 | .build _ parts=>Jw O parts.toList
 | .slice _ (.tmp u) _ _ _=>match O.get u with
  |some (.os _ _)=>some u
  |_=>none
 | .convert _ _ (.tmp u)=>match O.get u with
  |some (.os _ _)=>some u
  |_=>none
 |_=>none
def air (o:Oper):List Oper->Bool
 |o2::_=>match o.dst,o2.op with
  |some d,.call {callee:= .builtin .clear,args:=as,argTypes:=_}=>match as.toList with
   |[.tmp u]=>Nat.beq d u
   |_=>false
  |_,_=>false
 |[]=>false
def J1:CV->Option AV
 | .bP _ (.d y)=>match nY y with
  |true=>some y
  |false=>none
 | .d (.bP _ y)=>match nY y with
  |true=>some y
  |false=>none
 |_=>none
def uE (t:TypeId) (x:CV) (k:List It) (L:Hp) (ns:List (Nat×Nat)) (bad:Nx):Nx:=match kW k with
 |none=> .out (.fin (.aT x) .lf L ns)
 |some (N',K',O',dst,ty,k')=>match Nat.beq t ty,J1 x with
  |true,some y=> .go N' K' k' (cv O' dst (.d y)) L ns
  |_,_=>bad
def o7:List (Nat×List AV×AV)->Nat->List AV->Option AV
 |[],_,_=>none
 |(g',xs',z)::r,g,xs=>match Nat.beq g g'&&nc xs xs' with
  |true=>some z
  |false=>o7 r g xs
def na (nest:Nat->List AV->Option AV) (O:TS):Op->Option (Option CV)
 | .call {callee:= .value f,args:=as,argTypes:=_}=>match eI O f as.toList with
  |some (g,cs)=>match iT cs with
   |some xs=>match nest g xs with
    |some z=>some (some (.d z))
    |none=>some none
   |none=>none
  |none=>none
 |_=>none
def FA {R:Type}:b6->TS->(TS->R)->R
 |[],O,k=>k O
 |p::A,O,k=>Tr.dc 24 O p.2.1 none λO1=>FA A O1 k
theorem af7 {O:TS} {op:Op}:fq 4227104 op (preB O op)=preB O op:=by cases op<;>kernel_rfl
theorem aeQ {nest:Nat->List AV->Option AV} {O:TS} {op:Op}:fq 68719476736 op (na nest O op)=na nest O op:=by cases op<;>kernel_rfl
theorem agH {cl:Bool} {T:cn} {N:Nat} {O:TS} {L:Hp} {o:Oper}:fq 68721574488 o.op (cU cl T N O L o)=cU cl T N O L o:=by
 obtain⟨d,op,_,_,_,_⟩:=o;cases op<;>kernel_rfl
theorem af8 {cl:Bool} {T:cn} {N:Nat} {O:TS} {L:Hp} {d:Option Nat} {op:Op} {t:TypeId} {p:String} {a:Array Edge} {g:Option (Nat×Bool)}:fq 68721574488 op (cU cl T N O L ⟨d,op,t,p,a,g⟩)=cU cl T N O L ⟨d,op,t,p,a,g⟩:=agH (o:=⟨d,op,t,p,a,g⟩)
def UK (P:Program) (G:Gl) (T:cn) (c:gz) (N K:Nat) (all:List Oper) (o:Oper) (r:List Oper) (k:List It) (O:TS) (L:Hp) (ns:List (Nat×Nat)) (bad:Nx) (j:Nat) (want:Bool):Nx:=match o.dst,nth all j with
 |some e,some oj=>match oj.dst,Nat.blt e N with
  |some d,true=>match O.get d with
   |some (.d (.v (.bool t)))=>match c.cl with
    |true=>match t,want with
     |true,true=> .go N K (.ops all (⟨some e,o.op,o.type,o.pos,o.after,none⟩::r)::k) O L ns
     |false,false=> .go N K (.ops all (⟨some e,o.op,o.type,o.pos,o.after,none⟩::r)::k) O L ns
     |true,false=>Tr.dc 24 O e (some (.d (.v undef))) λO1=> .go N K (.ops all r::k) O1 L ns
     |false,true=>Tr.dc 24 O e (some (.d (.v undef))) λO1=> .go N K (.ops all r::k) O1 L ns
    |false=>Tr.dc 24 O d (some (.d (.v (.bool true)))) λOt=>Tr.dc 24 O d (some (.d (.v (.bool false)))) λOf=>match want with
     |true=>Tr.dc 24 Of e (some (.d (.v undef))) λOn=> .out (.cond t N K (.ops all (⟨some e,o.op,o.type,o.pos,o.after,none⟩::r)::k) Ot (.ops all r::k) On L ns)
     |false=>Tr.dc 24 Ot e (some (.d (.v undef))) λOn=> .out (.cond t N K (.ops all r::k) On (.ops all (⟨some e,o.op,o.type,o.pos,o.after,none⟩::r)::k) Of L ns)
   |some (.d (.v (.tuple a)))=>match a.toList with
    |[]=>Tr.dc 24 O e (some (.d (.v undef))) λO1=> .go N K (.ops all r::k) O1 L ns
    |_::_=>bad
   |_=>bad
  |_,_=>bad
 |_,_=>bad
def UL (P:Program) (G:Gl) (T:cn) (c:gz) (N K:Nat) (all:List Oper) (o:Oper) (r:List Oper) (k:List It) (O:TS) (L:Hp) (ns:List (Nat×Nat)) (bad:Nx):Nx:=match o.op with
 | .call {callee:= .value f,args:=as,argTypes:=_}=>match eI O f as.toList with
  |some (g,cs)=>match c.inl g with
   |false=>bad
   |true=>match c.ct g with
    |some (ty,z)=>match cs with
     |[x]=>match GR x with
      |some (g',fs',cs')=>match v8 c.fn g' with
       |some (nt,rs,b)=>match Nat.ble (fs'++cs').length nt&&cP N o.dst with
        |true=> .go nt L.n (.code b:: .ct N K O o.dst rs ty z:: .ops all r::k) (jy 0 (fs'++cs')) L ns
        |false=>bad
       |none=>bad
      |none=>bad
     |_=>bad
    |none=>match v8 c.fn g with
     |some (nt,rs,b)=>match Nat.ble cs.length nt&&cP N o.dst with
      |true=> .go nt L.n (.code b:: .fr N K O o.dst rs:: .ops all r::k) (jy 0 cs) L ns
      |false=>bad
     |none=>bad
  |none=>bad
 | .panic p=>match aY O p with
  |some (.bP t y)=>uE t (.bP t y) k L ns bad
  |some (.d (.bP t y))=>uE t (.d (.bP t y)) k L ns bad
  |_=>bad
 |_=>bad
def UM (P:Program) (G:Gl) (T:cn) (c:gz) (N K:Nat) (all:List Oper) (o:Oper) (r:List Oper) (k:List It) (O:TS) (L:Hp) (ns:List (Nat×Nat)) (bad:Nx):Nx:=match fq 68721574488 o.op (cU c.cl T N O L o)with
 |some (.push d x ce)=>Tr.dc 24 O d (some x) λO1=>Tr.dc 24 L.e L.n (some ce) λe1=> .go N K (.ops all r::k) O1 ⟨e1,L.n+1⟩ ns
 |some (.set i ce ns')=>jB c.cl ns' ns bad λns1=>Tr.dc 24 L.e i (some ce) λe1=> .go N K (.ops all r::k) O ⟨e1,L.n⟩ ns1
 |some (.app i d x ce ns')=>jB c.cl ns' ns bad λns1=>Tr.dc 24 O d (some x) λO1=>Tr.dc 24 L.e i (some ce) λe1=> .go N K (.ops all r::k) O1 ⟨e1,L.n⟩ ns1
 |some (.vu t e kk)=>Tr.dc 24 O t (some (.os L.n 0)) λO1=>Tr.dc 24 L.e L.n (some (.row e kk [])) λe1=> .go N K (.ops all (o::r)::k) O1 ⟨e1,L.n+1⟩ ns
 |some (.cT t z ns' ms)=>jB c.cl ns' ns bad λns1=>Tr.dc 24 O t (some (.d z)) λO1=> .go N K (.ops all (o::r)::k) O1 (jz ms L) ns1
 |none=>UL P G T c N K all o r k O L ns bad
def UN (P:Program) (G:Gl) (T:cn) (c:gz) (N K:Nat) (all:List Oper) (o:Oper) (r:List Oper) (k:List It) (O:TS) (L:Hp) (ns:List (Nat×Nat)) (bad:Nx):Nx:=match fq 68719476736 o.op (na (o7 c.fs) O o.op)with
 |some (some x)=>match cP N o.dst with
  |false=>bad
  |true=> .go N K (.ops all r::k) (cv O o.dst x) L ns
 |_=>UM P G T c N K all o r k O L ns bad
def UO (P:Program) (G:Gl) (T:cn) (c:gz) (N K:Nat) (all:List Oper) (o:Oper) (r:List Oper) (k:List It) (O:TS) (L:Hp) (ns:List (Nat×Nat)) (bad:Nx):Nx:=match eA P G T c.cl O L o.op with
 |some (x,ns')=>match o.dst with
  |none=>bad
  |some d=>match Nat.blt d N with
   |false=>bad
   |true=>jB c.cl ns' ns bad λns1=>Tr.dc 24 O d (some x) λO1=> .go N K (.ops all r::k) O1 L ns1
 |none=>UN P G T c N K all o r k O L ns bad
def UP (P:Program) (G:Gl) (T:cn) (c:gz) (N K:Nat) (all:List Oper) (o:Oper) (r:List Oper) (k:List It) (O:TS) (L:Hp) (ns:List (Nat×Nat)) (bad:Nx):Nx:=match fq 4227104 o.op (preB O o.op)with
 |some u=>match air o r with
  |true=>bad
  |false=>match O.get u with
   |some x=>match cF L.e 60 [x]with
    |some ([z],ns',ms)=>jB c.cl ns' ns bad λns1=>Tr.dc 24 O u (some (.d z)) λO1=> .go N K (.ops all (o::r)::k) O1 (jz ms L) ns1
    |_=>bad
   |none=>bad
 |none=>UO P G T c N K all o r k O L ns bad
def Jz (P:Program) (G:Gl) (T:cn) (c:gz) (N K:Nat) (all:List Oper) (o:Oper) (r:List Oper) (k:List It) (O:TS) (L:Hp) (ns:List (Nat×Nat)) (bad:Nx):Nx:=match o.guard with
 |some (j,want)=>UK P G T c N K all o r k O L ns bad j want
 |none=>UP P G T c N K all o r k O L ns bad
def JA (P:Program) (G:Gl) (T:cn) (c:gz) (nest:Nat->List AV->Option AV) (N K:Nat) (all:List Oper) (tl:List (Nat×Oper×TK)) (A:b6) (o:Oper) (r:List Oper) (W:List (Nat×List CV)) (k:List It) (O:TS) (L:Hp) (ns:List (Nat×Nat)) (bad:Nx):Nx:=match cZ all o O with
 |some false=>match o.dst,mT o W with
  |some d,true=>match Nat.blt d N with
   |true=>Tr.dc 24 O d (some (.d (.v undef))) λO1=> .go N K (.lex all tl A r W::k) O1 L ns
   |false=>bad
  |_,_=>bad
 |some true=>match o.dst,mT o W with
  |some d,true=>match Nat.blt d N with
   |false=>bad
   |true=>match eA P G T c.cl O L o.op with
    |some (x,ns')=>jB c.cl ns' ns bad λns1=>Tr.dc 24 O d (some x) λO1=> .go N K (.lex all tl A r W::k) O1 L ns1
    |none=>match o.op with
     | .box _ p=>match aY O p with
      |some x=>match UJ d r&& !c.own d,iT (eC x)with
       |true,some ys=>Tr.dc 24 O d (some (.d (.ip ys))) λO1=> .go N K (.lex all tl A r W::k) O1 L ns
       |_,_=>Tr.dc 24 O d none λO1=> .go N K (.lex all tl A r (W++[(d,eC x)])::k) O1 L ns
      |none=>bad
     | .alloc t=>match bc T t with
      |some ⟨_,_,_,z⟩=>match UJ d r&& !c.own d with
       |true=>Tr.dc 24 O d (some (.d (.ip (z.map .v)))) λO1=> .go N K (.lex all tl A r W::k) O1 L ns
       |false=>Tr.dc 24 O d none λO1=> .go N K (.lex all tl A r (W++[(d,(z.map .v).map .d)])::k) O1 L ns
      |none=>bad
     | .buildSlice t n parts=>match bc T t with
      |some ⟨.slice e kk,_,_,_⟩=>match bc T e with
       |some ⟨_,_,_,z'⟩=>match fD kk (dS O) (iU n (z'.map .v)) parts.toList with
        |some cells=>match Nat.ble (n*kk) 16777216&&Nat.ble 1 kk with
         |true=>Tr.dc 24 O d (some (.d (.sl kk (chunk n kk cells)))) λO1=> .go N K (.lex all tl A r W::k) O1 L ns
         |false=>bad
        |none=>bad
       |none=>bad
      |_=>bad
     | .call {callee:= .value f,args:=as,argTypes:=_}=>match eI O f as.toList with
      |some (g,cs)=>match c.inl g with
       |false=>bad
       |true=>match cF L.e 60 cs with
        |some (xs,ns',ms)=>match nest g xs with
         |some z=>match ms with
          |[]=>jB c.cl ns' ns bad λns1=>Tr.dc 24 O d (some (.d z)) λO1=> .go N K (.lex all tl A r W::k) O1 L ns1
          |_::_=>match dD z with
           |true=>jB c.cl ns' ns bad λns1=>Tr.dc 24 O d (some (.d z)) λO1=> .go N K (.lex all tl A r W::k) O1 L ns1
           |false=>bad
         |none=>bad
        |none=>bad
      |none=>bad
     |_=>bad
  |_,_=>bad
 |none=>match o.guard with
  |some (j,_)=>match(nth all j).bind (·.dst)with
   |some d=>match O.get d with
    |some (.d (.v (.bool t)))=>match c.cl with
     |true=>bad
     |false=>Tr.dc 24 O d (some (.d (.v (.bool true)))) λOt=>Tr.dc 24 O d (some (.d (.v (.bool false)))) λOf=> .out (.cond t N K (.lex all tl A (o::r) W::k) Ot (.lex all tl A (o::r) W::k) Of L ns)
    |_=>bad
   |none=>bad
  |none=>bad
def F9 (P:Program) (G:Gl) (T:cn) (cl:Bool) (O:TS) (L:Hp) (op:Op):Option (CV×List (Nat×Nat)):=match eA P G T cl O L op with
 |some p=>some p
 |none=>match op with
  | .buildSlice t n parts=>match bc T t with
   |some ⟨.slice e kk,_,_,_⟩=>match bc T e with
    |some ⟨_,_,_,z'⟩=>match fD kk (dS O) (iU n (z'.map .v)) parts.toList with
     |some cells=>match Nat.ble (n*kk) 16777216&&Nat.ble 1 kk with
      |true=>some (.d (.sl kk (chunk n kk cells)),[])
      |false=>none
     |none=>none
    |none=>none
   |_=>none
  |_=>none
def KN (P:Program) (G:Gl) (T:cn) (nest:Nat->List AV->Option AV) (cl:Bool) (O:TS) (L:Hp) (op:Op):Option (CV×List (Nat×Nat)):=match F9 P G T cl O L op with
 |some p=>some p
 |none=>match op with
  | .call {callee:= .value f,args:=as,argTypes:=_}=>match eI O f as.toList with
   |some (g,cs)=>match cF L.e 60 cs with
    |some (xs,ns',ms)=>match nest g xs with
     |some z=>match ms with
      |[]=>some (.d z,ns')
      |_::_=>match dD z with
       |true=>some (.d z,ns')
       |false=>none
     |none=>none
    |none=>none
   |none=>none
  |_=>none
def sw (P:Program) (G:Gl) (T:cn) (nest:Nat->List AV->Option AV) (cl:Bool) (all:List Oper) (O:TS) (L:Hp):List (Nat×Oper×CV)->Bool
 |[]=>true
 |(_,o,x)::r=>match cl with
  |false=>false
  |true=>match cZ all o O with
   |some true=>match KN P G T nest true O L o.op with
    |some (y,ns)=>match lS x y&&ns.all λp=>Nat.beq p.1 p.2 with
     |true=>sw P G T nest cl all O L r
     |false=>false
    |none=>false
   |some false=>match x with
    | .d (.v (.tuple a))=>match a.toList with
     |[]=>sw P G T nest cl all O L r
     |_::_=>false
    |_=>false
   |none=>false
def KO (P:Program) (G:Gl) (T:cn) (cl:Bool) (O:TS) (op:Op):Option CV:=
 match fq 51565228327 op (KP T (dS O) op)with
 |some y=>some (.d y)
 |none=>match fq 51565170727 op (KQ T O op)with
  |some x=>some x
  |none=>match fq 33024 op (mw G T (dS O) op)with
   |some y=>some (.d y)
   |none=>match cl with
    |false=>none
    |true=>match fq 104865792 op (eS P T (dS O) op)with
     |some y=>some (.d y)
     |none=>match fq 68719484928 op (fi P (dS O) op)with
      |some y=>some (.d y)
      |none=>none
def Ks (nest:Nat->List AV->Option AV) (O:TS) (L:Hp):Op->Option (AV×List (Nat×Nat)×Nat×List AV)
 | .call {callee:= .value f,args:=as,argTypes:=_}=>match eI O f as.toList with
  |some (g,cs)=>match cF L.e 60 cs with
   |some (xs,ns',ms)=>match nest g xs with
    |some z=>match ms with
     |[]=>some (z,ns',g,xs)
     |_::_=>match dD z with
      |true=>some (z,ns',g,xs)
      |false=>none
    |none=>none
   |none=>none
  |none=>none
 |_=>none
def Ah (P:Program) (G:Gl) (T:cn) (c:gz) (nest:Nat->List AV->Option AV) (N K:Nat) (all:List Oper) (l:List (Nat×Oper×TK)) (A:b6) (pend:List (Nat×Oper×CV)) (fs:List (Nat×List AV×AV)) (k:List It) (O:TS) (L:Hp) (ns:List (Nat×Nat)) (bad:Nx):Nx:=match l with
 |[]=> .go N K k O L ns
 |[(_,_,.two)]=>bad
 |(i,o,.two)::(j,o',_)::l=>match c.cl,cZ all o O,cZ all o' O with
  |true,some true,some true=>match Kt c.cl T N O L o o' with
   |some (a,ca,b,cb)=>match sw P G T (o7 fs) c.cl all O (L.set a ca) (dg all i pend)&&sw P G T (o7 fs) c.cl all O (L.set b cb) (dg all j pend)with
    |true=>Tr.dc 24 L.e a (some ca) λe1=>Tr.dc 24 e1 b (some cb) λe2=> .go N K (.tl all l A (dg all j (dg all i pend)) fs::k) O ⟨e2,L.n⟩ ns
    |false=>bad
   |none=>bad
  |_,_,_=>bad
 |(i,o,.fl)::l=>match cP N o.dst with
  |false=>bad
  |true=>match cZ all o O with
    |some false=> .go N K (.tl all l A pend fs::k) (cv O o.dst (.d (.v undef))) L ns
    |some true=>match KO P G T c.cl O o.op with
     |some x=> .go N K (.tl all l A pend fs::k) (cv O o.dst x) L ns
     |none=>match na nest O o.op with
      |some none=>bad
      |some (some x)=> .go N K (.tl all l A pend fs::k) (cv O o.dst x) L ns
      |none=>match F9 P G T c.cl O L o.op with
       |some (x,ns')=>jB c.cl ns' ns bad λns1=> .go N K (.tl all l A ((i,o,x)::pend) fs::k) (cv O o.dst x) L ns1
       |none=>match Ks nest O L o.op with
        |some (z,ns',g,xs)=>jB c.cl ns' ns bad λns1=> .go N K (.tl all l A ((i,o,.d z)::pend) ((g,xs,z)::fs)::k) (cv O o.dst (.d z)) L ns1
        |none=>bad
    |none=>bad
 |(i,o,.one)::l=>match fW ((eh (cD all.toArray i A)).map (·.1)),cP N o.dst with
  |true,true=>AG (eh (cD all.toArray i A)) O L λO1 L1=>match cZ all o O1 with
    |some false=> .go N K (.tl all l (cO all.toArray i A) (dg all i pend) fs::k) (cv O1 o.dst (.d (.v undef))) L1 ns
    |some true=>match eA P G T c.cl O1 L1 o.op with
     |some (x,ns')=>jB c.cl ns' ns bad λns1=> .go N K (.tl all l (cO all.toArray i A) (dg all i pend) fs::k) (cv O1 o.dst x) L1 ns1
     |none=>match vw c.cl T N 20 O1 L1 o with
      |some (.push _ x ce,L2,ns')=>jB c.cl ns' ns bad λns1=>Tr.dc 24 L2.e L2.n (some ce) λe1=> .go N K (.tl all l (cO all.toArray i A) (dg all i pend) fs::k) (cv O1 o.dst x) ⟨e1,L2.n+1⟩ ns1
      |some (.set j ce _,L2,ns')=>jB c.cl ns' ns bad λns1=>Tr.dc 24 L2.e j (some ce) λe1=> .go N K (.tl all l (cO all.toArray i A) (dg all i pend) fs::k) (cv O1 o.dst (.d (.v undef))) ⟨e1,L2.n⟩ ns1
      |some (.app j _ x ce _,L2,ns')=>jB c.cl ns' ns bad λns1=>Tr.dc 24 L2.e j (some ce) λe1=> .go N K (.tl all l (cO all.toArray i A) (dg all i pend) fs::k) (cv O1 o.dst x) ⟨e1,L2.n⟩ ns1
      |some _=>bad
      |none=>match o.op with
       | .call {callee:= .value f,args:=as,argTypes:=_}=>match eI O1 f as.toList with
        |some (g,cs)=>match c.inl g with
         |false=>bad
         |true=>match v8 c.fn g with
          |some (nt,rs,b)=>match Nat.ble cs.length nt with
           |true=> .go nt L1.n (.code b:: .fr N K O1 o.dst rs:: .tl all l (cO all.toArray i A) (dg all i pend) fs::k) (jy 0 cs) L1 ns
           |false=>bad
          |none=>bad
        |none=>bad
       | .panic p=>match aY O1 p with
        |some (.bP t y)=>uE t (.bP t y) k L1 ns bad
        |some (.d (.bP t y))=>uE t (.d (.bP t y)) k L1 ns bad
        |_=>bad
       |_=>bad
    |none=>bad
  |_,_=>bad
def FR (O:TS) (all:List Oper):List Oper->Option Nat
 |[]=>none
 |o::r=>match o.op with
  | .slice _ (.tmp u) _ _ _=>match O.get u with
   |some (.os _ _)=>some u
   |_=>match all.find? λo'=>match o'.dst with
     |some d=>Nat.beq d u
     |none=>false with
    |some ⟨_,.move (.tmp v),_,_,_,_⟩=>match O.get v with
     |some (.os _ _)=>some v
     |_=>FR O all r
    |_=>FR O all r
  |_=>FR O all r
def IQ (T:cn) (c:gz) (fl N K:Nat) (b:Code) (k:List It) (O:TS) (L:Hp) (ns:List (Nat×Nat)) (bad:Nx):Nx:=match b with
 | .skip=> .go N K k O L ns
 | .label _=> .go N K k O L ns
 | .seq x y=> .go N K (.code x:: .code y::k) O L ns
 | .block i x=> .go N K (.code x:: .fR i::k) O L ns
 | .region _ ops d=>match d with
  |false=> .go N K (.ops ops.toList ops.toList::k) O L ns
  |true=>match FR O ops.toList ops.toList with
   |some u=>match O.get u with
    |some x=>match cF L.e 60 [x]with
     |some ([z],ns',ms)=>jB c.cl ns' ns bad λns1=>Tr.dc 24 O u (some (.d z)) λO1=> .go N K (.code b::k) O1 (jz ms L) ns1
     |_=>bad
    |none=>bad
   |none=>match agG c.imp ops.toList with
    |(pre,tl,al)=>match oy T ops N al with
     |none=>bad
     |some A=>match qd ops pre tl al&&Nat.beq (gT ops pre).length pre.length with
      |true=> .go N K (.lex ops.toList (kU ops tl) A (gT ops pre) []::k) O L ns
      |false=>bad
 | .exit i=>match lM i k with
  |some k'=> .go N K k' O L ns
  |none=>bad
 | .ret=>match oh k with
  |[]=> .out (.fin .ret O L ns)
  | .fr N' K' O' dst rs::k'=> .go N K (.fr N' K' O' dst rs::k') O L ns
  | .ct N' K' O' dst rs ty z::k'=> .go N K (.ct N' K' O' dst rs ty z::k') O L ns
  |_=>bad
 | .scope x=> .go N K (.code x::k) O L ns
 | .cond (.tmp t) x y=>match O.get t with
  |some (.d (.v (.bool v)))=>match c.cl with
    |true=>match v with
     |true=> .go N K (.code x::k) O L ns
     |false=> .go N K (.code y::k) O L ns
    |false=>Tr.dc 24 O t (some (.d (.v (.bool true)))) λOt=>Tr.dc 24 O t (some (.d (.v (.bool false)))) λOf=> .out (.cond v N K (.code x::k) Ot (.code y::k) Of L ns)
  |_=>bad
 | .cond (.const (.bool v)) x y=>match v with
  |true=> .go N K (.code x::k) O L ns
  |false=> .go N K (.code y::k) O L ns
 | .loop x=>match c.cl with
  |true=> .go N K (.code x:: .oD fl x::k) O L ns
  |false=>bad
 |_=>bad
def AH (P:Program) (G:Gl) (T:cn) (c:gz) (nest:Nat->List AV->Option AV) (fl N K:Nat) (todo:List It) (O:TS) (L:Hp) (ns:List (Nat×Nat)) (bad:Nx):Nx:=
 @List.rec It (λ_=>Program->Gl->cn->gz->(Nat->List AV->Option AV)->Nat->Nat->Nat->TS->Hp->List (Nat×Nat)->Nx->Nx)
  (λ_ _ _ _ _ _ _ _ O L ns _=> .out (.fin .norm O L ns))
  (λit k _ P G T c nest fl N K O L ns bad=> @It.rec (λ_=>List It->Program->Gl->cn->gz->(Nat->List AV->Option AV)->Nat->Nat->Nat->TS->Hp->List (Nat×Nat)->Nx->Nx)
   (λb k P G T c nest fl N K O L ns bad=>IQ T c fl N K b k O L ns bad)
   (λ_ k P G T c nest fl N K O L ns bad=> .go N K k O L ns)
   (λall l k P G T c nest fl N K O L ns bad=> @List.rec Oper (λ_=>Nx) (.go N K k O L ns) (λo r _=>Jz P G T c N K all o r k O L ns bad) l)
   (λall tl A pre W k P G T c nest fl N K O L ns bad=> @List.rec Oper (λ_=>Nx) (match fW (W.map (·.1))with
    |true=>AG W O L λO1 L1=>FA A O1 λO2=> .go N K (.tl all tl A [] []::k) O2 L1 ns
    |false=>bad) (λo r _=>JA P G T c nest N K all tl A o r W k O L ns bad) pre)
   (λall l A pend fs k P G T c nest fl N K O L ns bad=>match sw P G T (o7 fs) c.cl all O L pend with
    |true=>Ah P G T c nest N K all l A pend fs k O L ns bad
    |false=>bad)
   (λ_ k P G T c nest fl N K O L ns bad=>bad)
   (λm b k P G T c nest fl N K O L ns bad=>match m with
    |0=>bad
    |m'+1=> .go N K (.code b:: .oD m' b::k) O L ns)
   (λN' K' O' dst rs k P G T c nest fl N K O L ns bad=>match eX T O L rs with
    |none=>bad
    |some xs=>match dst with
     |none=> .go N' K' k O' L ns
     |some d=>Tr.dc 24 O' d (some (fY xs)) λO''=> .go N' K' k O'' L ns)
   (λN' K' O' dst rs _ z k P G T c nest fl N K O L ns bad=>match eX T O L rs with
    |none=>bad
    |some _=> .go N' K' k (cv O' dst (.d z)) L ns)
   it k P G T c nest fl N K O L ns bad) todo P G T c nest fl N K O L ns bad
def step (P:Program) (G:Gl) (T:cn) (c:gz) (nest:Nat->List AV->Option AV) (fl N K:Nat) (todo:List It) (O:TS) (L:Hp) (ns:List (Nat×Nat)):Nx:=AH P G T c nest fl N K todo O L ns (.out (.stuck N K todo O L ns))
theorem kq {R:Type} {P:R->Prop} {cl:Bool} {ns' ns:List (Nat×Nat)} {bad:R} {k:List (Nat×Nat)->R} {A:Prop} (h:P (jB cl ns' ns bad k)) (hb:P bad->A) (hk:∀ns1,(eqs ns1->eqs ns'/\eqs ns)->P (k ns1)->A):A:=by
 unfold jB at h;split at h
 ·exact hk _ (λh=>nH h) h
 ·split at h
  ·rename_i hall;refine hk _ (λh=>⟨?_,h⟩) h;clear h hk
   induction ns' with
   |nil=>trivial
   |cons p r ih=>
    simp only[lx,bS]at hall;exact⟨bQ hall.1,ih hall.2⟩
  ·exact hb h
theorem IS {R:Type}:∀(W:List (Nat×List CV)) (O:TS) (L:Hp) (k:TS->Hp->R),AG W O L k=k (fB W O L).1 (fB W O L).2
 |[],_,_,_=>rfl
 |(d,cs)::r,O,⟨e,m⟩,k=>by simp only[AG,Es,OF,Tr.eB,fB];exact IS r _ _ k
theorem D6 {P:Program} {F:Nat->Option Func} (hF:∀g x,F g=some x->P.funcs[g]? =some x) {g:FuncId} {nt:Nat} {rs:List ResultVar} {c:Code} (h:v8 F g=some (nt,rs,c)):∃fn,P.funcs[g]? =some fn/\fn.body=some c/\(fn.name== "runtime.NumGoroutine")=false/\fn.results=rs.toArray/\fn.ntmps=nt:=by
 unfold v8 at h;split at h
 ·rename_i fn hf;split at h
  ·rename_i b hb hn;simp only[aE,cR]at h;obtain⟨rfl,rfl,rfl⟩:=h;exact⟨fn,hF g fn hf,hb,hn,by simp,rfl⟩
  ·cases h
 ·cases h
section
variable {E:Env} {Q:DQ} {N K:Nat} {O:TS} {L:Hp} {all:List Oper} {o:Oper} {r:List Oper} {tl:List (Nat×Oper×TK)} {k:List It} {ns:List (Nat×Nat)} {bad:Nx} {c:gz} {W:List (Nat×List CV)}
theorem DO.FB {rest:List Oper} {j d e:Nat} {want t:Bool} {op:Op} {ty:TypeId} {pos:String} {after:Array Edge} {oj:Oper} (hj:nth all j=some oj) (hjd:oj.dst=some d) (ht:O.get d=some (.d (.v (.bool t))))
  (h1:t=want->DO E N K all (⟨some e,op,ty,pos,after,none⟩::rest) Q O L)
  (h2:t= !want->DO E N K all rest Q (Tr.put 24 O e (some (.d (.v undef)))) L)
  (hd:Nat.blt e N=true):DO E N K all (⟨some e,op,ty,pos,after,some (j,want)⟩::rest) Q O L:=λZ σB LB hs hh=>by
 obtain⟨y,h3,h4⟩:=hs d _ ht;simp only[aK]at h4;subst h4;have hjB:(all.toArray[j]?).bind (·.dst)=some d:=by rw[cM]at hj;simp[hj,hjd]
 have same:∀b,t=b->SS Z O (look ((d,.v (.bool b))::σB)):=λb hb u z hz=>by
  subst hb;obtain⟨q,h5,h6⟩:=hs u z hz;refine⟨q,?_,h6⟩;simp only[look];cases hbq:Nat.beq d u with
  |true=>have:=bQ hbq;subst this;rw[h3]at h5;exact h5
  |false=>exact h5
 exact cj.bR hjB h3 (λe=>h1 e Z _ LB (same want e) hh) (λe'=>h2 e' Z _ LB ((same _ e').put (some e) (x:= .d (.v undef)) (y:= .v undef) rfl) hh) hd
theorem aci {t:TypeId} {x:CV} {y:AV} (hx:∃u,x= .bP t u\/∃u',x= .d (.bP t u')) (h:J1 x=some y):(x= .bP t (.d y)\/x= .d (.bP t y))/\nY y=true:=by
 unfold J1 at h;split at h
 ·rename_i t' y';split at h
  ·rename_i hy;cases h;obtain⟨u,hx|⟨u',hx⟩⟩:=hx
   ·cases hx;exact⟨.inl rfl,hy⟩
   ·cases hx
  ·cases h
 ·rename_i t' y';split at h
  ·rename_i hy;cases h;obtain⟨u,hx|⟨u',hx⟩⟩:=hx
   ·cases hx
   ·cases hx;exact⟨.inr rfl,hy⟩
  ·cases h
 ·cases h
theorem D7 {t:TypeId} {x:CV} (hx:∃u,x= .bP t u\/∃u',x= .d (.bP t u')) (h:Nx.ok E Q (uE t x k L ns bad)) {A:Prop} (hb:bad.ok E Q->A) (hk:eqs ns->dq E N K k Q (.aT x) .lf L->A):A:=by
 unfold uE at h;split at h
 ·rename_i hp;exact hk h.1 (mS k N K .lf hp h.2)
 ·rename_i N' K' O' dst ty k' hp;split at h
  ·rename_i y ht hy;have ht:=bQ ht;subst ht;obtain⟨h1,h2⟩:=aci hx hy;exact hk h.1 (nQ h1 h2 k N K hp h.2)
  ·exact hb h
theorem Qi {R:Type}:∀(A:b6) (O:TS) (k:TS->R),FA A O k=k (Ai A O)
 |[],_,_=>rfl
 |p::A,O,k=>by simp only[FA,Tr.eB,Ai];exact Qi A _ _
theorem uo:∀{fs:List (Nat×List AV×AV)},lr E fs->∀g xs z,o7 fs g xs=some z->Pure E.toCx g xs (.ret z)
 |[],_,_,_,_,h=>by simp[o7]at h
 |(g',xs',z')::r,hf,g,xs,z,h=>by
  simp only[o7]at h;split at h
  ·rename_i hB;simp only[bS]at hB;have h1:=bQ hB.1;have h2:=pO hB.2;cases h;subst h1;subst h2;exact hf _ OA
  ·exact uo (λf hf'=>hf f (by simp[hf'])) g xs z h
theorem Rb {nest:Nat->List AV->Option AV} (hnest:∀g xs z,nest g xs=some z->Pure E.toCx g xs (.ret z)) {x:CV} (h:na nest O o.op=some (some x)):bE E N o O x:=by
 unfold na at h;split at h
 ·rename_i f as tys ho;obtain⟨as⟩:=as;split at h
  ·rename_i g cs hc;split at h
   ·rename_i xs hxs;split at h
    ·rename_i z hz;cases h;exactλZ s LB hs=>by
      obtain⟨ys,h1,h2⟩:=rb hs hc;have:=pK hxs h2;subst this;exact⟨z,rfl,ck.pure ho (hnest g _ z hz) h1⟩
    ·cases h
   ·cases h
  ·cases h
 ·cases h
theorem abC (hfs:lr E c.fs) (hct:∀f ty z,c.ct f=some (ty,z)->sF E f ty z) (hF:∀g x,c.fn g=some x->E.P.funcs[g]? =some x) (h:Nx.ok E Q (Jz E.P E.G E.T c N K all o r k O L ns bad)) (hb:bad.ok E Q->eqs ns/\ao E N K (.ops all (o::r)::k) Q O L):eqs ns/\ao E N K (.ops all (o::r)::k) Q O L:=by
 obtain⟨dst,op,ty,pos,after,gd⟩:=o;unfold Jz at h;simp only[UK,UP,UO,UN,UM,UL]at h;simp only[af7,aeQ,af8]at h;split at h
 ·rename_i j want;split at h
  ·rename_i e oj hj;split at h
   ·rename_i d hjd he;split at h
    ·rename_i t ht;split at h
     ·split at h
      ·exact⟨h.1,DO.FB hj hjd ht (λ_=>h.2) (λe=>by cases e) he⟩
      ·exact⟨h.1,DO.FB hj hjd ht (λ_=>h.2) (λe=>by cases e) he⟩
      ·rw[Tr.eB]at h;exact⟨h.1,DO.FB hj hjd ht (λe=>by cases e) (λ_=>h.2) he⟩
      ·rw[Tr.eB]at h;exact⟨h.1,DO.FB hj hjd ht (λe=>by cases e) (λ_=>h.2) he⟩
     ·simp only[Tr.eB]at h;split at h
      ·exact⟨h.1,DO.UQ hj hjd ht h.2.1 h.2.2 he⟩
      ·exact⟨h.1,DO.UQ hj hjd ht h.2.2 h.2.1 he⟩
    ·rename_i a ha;split at h
     ·rename_i hz;have:a= #[]:=by cases a;simp_all
      subst this;rw[Tr.eB]at h;exact⟨h.1,DO.J2 hj hjd ha h.2 he⟩
     ·exact hb h
    ·exact hb h
   ·exact hb h
  ·exact hb h
 ·split at h
  ·rename_i u hu;split at h
   ·exact hb h
   split at h
   ·rename_i x hx;split at h
    ·rename_i z ns' ms hf;refine kq (P:=Nx.ok E Q) h hb λns1 he h=>?_;rw[Tr.eB]at h;obtain⟨h1,h2⟩:=he h.1;exact⟨h2,DO.cT 60 hx hf h1 h.2⟩
    ·exact hb h
   ·exact hb h
  split at h
  ·rename_i x ns' hv;split at h
   ·exact hb h
   ·rename_i d;split at h
    ·exact hb h
    ·rename_i hd;refine kq (P:=Nx.ok E Q) h hb λns1 he h=>?_;rw[Tr.eB]at h;obtain⟨h1,h2⟩:=he h.1;exact⟨h2,DO.qW rfl hd (Af (o:=⟨some d,op,ty,pos,after,none⟩) hv h1) h.2⟩
  ·rename_i hv;split at h
   ·rename_i x hcs;split at h
    ·exact hb h
    ·rename_i hd;exact⟨h.1,DO.qW rfl hd (λZ s LB hs _=>Rb (o:=⟨dst,op,ty,pos,after,none⟩) (uo hfs) hcs Z s LB hs) h.2⟩
   rename_i hnc;clear hnc;split at h
   ·rename_i d x ce hh;simp only[Tr.eB]at h;exact⟨h.1,Aj rfl hh h.2⟩
   ·rename_i i ce ns' hh;refine kq (P:=Nx.ok E Q) h hb λns1 he h=>?_;simp only[Tr.eB]at h;obtain⟨h1,h2⟩:=he h.1;exact⟨h2,Aj rfl hh ⟨h1,h.2⟩⟩
   ·rename_i i d x ce ns' hh;refine kq (P:=Nx.ok E Q) h hb λns1 he h=>?_;simp only[Tr.eB]at h;obtain⟨h1,h2⟩:=he h.1;exact⟨h2,Aj rfl hh ⟨h1,h.2⟩⟩
   ·rename_i t e kk hh;simp only[Tr.eB]at h;exact⟨h.1,Aj rfl hh h.2⟩
   ·rename_i t z ns' ms hh;refine kq (P:=Nx.ok E Q) h hb λns1 he h=>?_;simp only[Tr.eB]at h;obtain⟨h1,h2⟩:=he h.1;exact⟨h2,Aj rfl hh ⟨h1,h.2⟩⟩
   ·split at h
    ·rename_i f as tys;obtain⟨as⟩:=as;split at h
     ·rename_i g cs hc;split at h
      ·exact hb h
      ·split at h
       ·rename_i ty' z hctg;split at h
        ·rename_i x;split at h
         ·rename_i g' fs' cs' hx;split at h
          ·rename_i nt rs b hf;split at h
           ·rename_i hB;simp only[bS]at hB;obtain⟨fn,h1,h2,h3,h4,h5⟩:=D6 hF hf;exact⟨h.1,ao.ct (hct _ _ _ hctg) hc hx h1 h2 h3 h4 h5 hB.1 hB.2 h.2⟩
           ·exact hb h
          ·exact hb h
         ·exact hb h
        ·exact hb h
       ·split at h
        ·rename_i nt rs b hf;split at h
         ·rename_i hB;simp only[bS]at hB;obtain⟨fn,h1,h2,h3,h4,h5⟩:=D6 hF hf;exact⟨h.1,ao.inl hc h1 h2 h3 h4 h5 hB.1 hB.2 h.2⟩
         ·exact hb h
        ·exact hb h
     ·exact hb h
    ·rename_i p;split at h
     ·rename_i t y hp;exact D7 (N:=N) (K:=K) ⟨y,.inl rfl⟩ h hb λh1 h2=>⟨h1,DO.panic rfl rfl hp h2⟩
     ·rename_i t y hp;exact D7 (N:=N) (K:=K) ⟨.d y,.inr ⟨y,rfl⟩⟩ h hb λh1 h2=>⟨h1,DO.J3 rfl rfl hp h2⟩
     ·exact hb h
    ·exact hb h
theorem abD {A:b6} {nest:Nat->List AV->Option AV} (hnest:∀g xs z,nest g xs=some z->Pure E.toCx g xs (.ret z)) (h:Nx.ok E Q (JA E.P E.G E.T c nest N K all tl A o r W k O L ns bad)) (hb:bad.ok E Q->eqs ns/\ao E N K (.lex all tl A (o::r) W::k) Q O L):
  eqs ns/\ao E N K (.lex all tl A (o::r) W::k) Q O L:=by
 unfold JA at h;split at h
 ·rename_i hw;split at h
  ·rename_i d hd hf;split at h
   ·rename_i hdN;rw[Tr.eB]at h;refine⟨h.1,eP.skip (by rw[hd];exact hdN) hw hf ?_⟩;rw[hd];exact h.2
   ·exact hb h
  ·exact hb h
 ·rename_i hw;split at h
  ·rename_i d hd hf;split at h
   ·exact hb h
   ·rename_i hdN;have hdst:cP N o.dst=true:=by rw[hd];exact hdN
    split at h
    ·rename_i x ns' hv;refine kq (P:=Nx.ok E Q) h hb λns1 he h=>?_;rw[Tr.eB]at h;obtain⟨h1,h2⟩:=he h.1;refine⟨h2,eP.val hdst hw hf (Af hv h1) ?_⟩;rw[hd];exact h.2
    ·split at h
     ·rename_i t p ho;split at h
      ·rename_i x hp;split at h
       ·rename_i ys _ hy;rw[Tr.eB]at h;refine⟨h.1,eP.val hdst hw hf (bl.Wv (cells:=ys) λZ s LB hs hh=>?_) (by rw[hd];exact h.2)⟩;obtain⟨cs,h1,h2⟩:=EX ho hp Z s LB hs hh;have:=pK hy h1;subst this;exact⟨cs,jv _,h2⟩
       ·rw[Tr.eB]at h;exact⟨h.1,eP.new hd hdN hw hf (EX ho hp) h.2⟩
      ·exact hb h
     ·rename_i t ho;split at h
      ·rename_i _ _ _ z ht;split at h
       ·rw[Tr.eB]at h;refine⟨h.1,eP.val hdst hw hf (bl.Wv (cells:=z.map .v) (D8 ho ht)) (by rw[hd];exact h.2)⟩
       ·rw[Tr.eB]at h;exact⟨h.1,eP.new hd hdN hw hf (D8 ho ht) h.2⟩
      ·exact hb h
     ·rename_i t n parts ho;split at h
      ·rename_i e kk _ _ _ ht;split at h
       ·rename_i _ _ _ z' hte;split at h
        ·rename_i cells hfi;split at h
         ·rename_i hB;simp only[bS]at hB;rw[Tr.eB]at h;exact⟨h.1,eP.val hdst hw hf (bl.lit ho ht hte hfi hB.1 hB.2) (by rw[hd];exact h.2)⟩
         ·exact hb h
        ·exact hb h
       ·exact hb h
      ·exact hb h
     ·rename_i f as tys ho;obtain⟨as⟩:=as;split at h
      ·rename_i g cs hc;split at h
       ·exact hb h
       ·split at h
        ·rename_i xs ns' ms hfz;split at h
         ·rename_i z hz;split at h
          ·refine kq (P:=Nx.ok E Q) h hb λns1 he h=>?_;rw[Tr.eB]at h;obtain⟨h1,h2⟩:=he h.1;exact⟨h2,eP.val hdst hw hf (bl.pure 60 ho (hnest g xs z hz) hc hfz h1 (cN.refl xs) (.inl rfl)) (by rw[hd];exact h.2)⟩
          ·split at h
           ·rename_i hrf;refine kq (P:=Nx.ok E Q) h hb λns1 he h=>?_;rw[Tr.eB]at h;obtain⟨h1,h2⟩:=he h.1;exact⟨h2,eP.val hdst hw hf (bl.pure 60 ho (hnest g xs z hz) hc hfz h1 (cN.refl xs) (.inr hrf)) (by rw[hd];exact h.2)⟩
           ·exact hb h
         ·exact hb h
        ·exact hb h
      ·exact hb h
     ·exact hb h
  ·exact hb h
 ·split at h
  ·rename_i j want hg;split at h
   ·rename_i d hd;split at h
    ·rename_i t ht;split at h
     ·exact hb h
     ·simp only[Tr.eB]at h;exact⟨h.1,eP.guard ht h.2.1 h.2.2⟩
    ·exact hb h
   ·exact hb h
  ·exact hb h
theorem JB:∀{ns:List (Nat×Nat)},(ns.all λp=>Nat.beq p.1 p.2)=true->eqs ns
 |[],_=>trivial
 |p::r,h=>by simp only[lx,bS]at h;exact⟨bQ h.1,JB h.2⟩
theorem fb {cl:Bool} {x:CV} {ns:List (Nat×Nat)} (h:F9 E.P E.G E.T cl O L o.op=some (x,ns)) (hn:eqs ns):bl E N o O L x:=by
 unfold F9 at h;split at h
 ·rename_i p hp;simp only[aE]at h;subst h;exact Af hp hn
 ·split at h
  ·rename_i t n parts ho;split at h
   ·rename_i e kk _ _ _ ht;split at h
    ·rename_i _ _ _ z' hte;split at h
     ·rename_i cells hfi;split at h
      ·rename_i hB;simp only[bS]at hB;simp only[aE,cR]at h;obtain⟨rfl,rfl⟩:=h;exact bl.lit ho ht hte hfi hB.1 hB.2
      ·cases h
     ·cases h
    ·cases h
   ·cases h
  ·cases h
theorem aeR {nest:Nat->List AV->Option AV} (hnest:∀g xs z,nest g xs=some z->Pure E.toCx g xs (.ret z)) {cl:Bool} {x:CV} {ns:List (Nat×Nat)} (h:KN E.P E.G E.T nest cl O L o.op=some (x,ns)) (hn:eqs ns):bl E N o O L x:=by
 unfold KN at h;split at h
 ·rename_i p hp;simp only[aE]at h;subst h;exact fb hp hn
 ·split at h
  ·rename_i f as tys ho;obtain⟨as⟩:=as;split at h
   ·rename_i g cs hc;split at h
    ·rename_i xs ns' ms hfz;split at h
     ·rename_i z hz;split at h
      ·simp only[aE,cR]at h;obtain⟨rfl,rfl⟩:=h;exact bl.pure 60 ho (hnest g xs z hz) hc hfz hn (cN.refl xs) (.inl rfl)
      ·split at h
       ·rename_i hrf;simp only[aE,cR]at h;obtain⟨rfl,rfl⟩:=h;exact bl.pure 60 ho (hnest g xs z hz) hc hfz hn (cN.refl xs) (.inr hrf)
       ·cases h
     ·cases h
    ·cases h
   ·cases h
  ·cases h
theorem za {nest:Nat->List AV->Option AV} (hnest:∀g xs z,nest g xs=some z->Pure E.toCx g xs (.ret z)) {cl:Bool}:∀{pend:List (Nat×Oper×CV)},sw E.P E.G E.T nest cl all O L pend=true->aJ E N all pend O L
 |[],_=>λp hp=>by cases hp
 |(i,o,x)::r,h=>by
  have key:AT E N all o O L x->aJ E N all r O L->aJ E N all ((i,o,x)::r) O L:=λh1 h2 p hp=>by
   rcases cq.1 hp with rfl|hp
   ·exact h1
   ·exact h2 p hp
  simp only[sw]at h;split at h
  ·cases h
  ·split at h
   ·rename_i hw;split at h
    ·rename_i y ns hv;split at h
     ·rename_i hB;simp only[bS]at hB;have:=JC hB.1;subst this;exact key (.inl ⟨hw,aeR hnest hv (JB hB.2)⟩) (za hnest h)
     ·cases h
    ·cases h
   ·rename_i hw;split at h
    ·split at h
     ·rename_i a _ ha;have:a= #[]:=by cases a;simp_all
      subst this;exact key (.inr ⟨hw,rfl⟩) (za hnest h)
     ·cases h
    ·cases h
   ·cases h
theorem aeS {cl:Bool} {x:CV} (h:KO E.P E.G E.T cl O o.op=some x):bE E N o O x:=by
 unfold KO at h;simp only[Su,Sv,V2,V3,V4,V5,V6]at h;split at h
 ·rename_i y hy;cases h;exactλZ s LB hs=>⟨y,rfl,(ck.cW hy).mono λ_ _ _ hy=>lL hs hy⟩
 ·split at h
  ·rename_i y hy;cases h;exactλZ s LB hs=>by
    obtain⟨y,h1,h2⟩:=Sw hs hy;exact⟨y,h2,ck.cW h1⟩
  ·split at h
   ·rename_i y hy;cases h;exactλZ s LB hs=>⟨y,rfl,(ck.mw hy).mono λ_ _ _ hy=>lL hs hy⟩
   ·split at h
    ·cases h
    ·split at h
     ·rename_i y hy;cases h;exactλZ s LB hs=>⟨y,rfl,(ck.eS hy).mono λ_ _ _ hy=>lL hs hy⟩
     ·split at h
      ·rename_i y hy;cases h;exactλZ s LB hs=>⟨y,rfl,(ck.fi hy).mono λ_ _ _ hy=>lL hs hy⟩
      ·cases h
theorem adk {nest:Nat->List AV->Option AV} (hnest:∀g xs z,nest g xs=some z->Pure E.toCx g xs (.ret z)) {z:AV} {ns':List (Nat×Nat)} {g:Nat} {xs:List AV} (h:Ks nest O L o.op=some (z,ns',g,xs)) (hn:eqs ns'):bl E N o O L (.d z)/\Pure E.toCx g xs (.ret z):=by
 unfold Ks at h;split at h
 ·rename_i f as tys ho;obtain⟨as⟩:=as;split at h
  ·rename_i g' cs hc;split at h
   ·rename_i xs' ns2 ms hfz;split at h
    ·rename_i z' hz;split at h
     ·simp only[aE,cR]at h;obtain⟨rfl,rfl,rfl,rfl⟩:=h;exact⟨bl.pure 60 ho (hnest _ _ _ hz) hc hfz hn (cN.refl _) (.inl rfl),hnest _ _ _ hz⟩
     ·split at h
      ·rename_i hrf;simp only[aE,cR]at h;obtain⟨rfl,rfl,rfl,rfl⟩:=h;exact⟨bl.pure 60 ho (hnest _ _ _ hz) hc hfz hn (cN.refl _) (.inr hrf),hnest _ _ _ hz⟩
      ·cases h
    ·cases h
   ·cases h
  ·cases h
 ·cases h
theorem Qh {nest:Nat->List AV->Option AV} (hnest:∀g xs z,nest g xs=some z->Pure E.toCx g xs (.ret z)) (hF:∀g x,c.fn g=some x->E.P.funcs[g]? =some x) {l:List (Nat×Oper×TK)} {A:b6} {pend:List (Nat×Oper×CV)} {fs:List (Nat×List AV×AV)} (hp:lr E fs->aJ E N all pend O L) (h:Nx.ok E Q (Ah E.P E.G E.T c nest N K all l A pend fs k O L ns bad)) (hb:bad.ok E Q->eqs ns/\ao E N K (.tl all l A pend fs::k) Q O L):
  eqs ns/\ao E N K (.tl all l A pend fs::k) Q O L:=by
 unfold Ah at h;split at h
 ·exact⟨h.1,λhf=>cV.nil (hp hf) h.2⟩
 ·exact hb h
 ·rename_i i o j o' _ l;split at h
  ·rename_i hcl hw hw';split at h
   ·rename_i a ca b cb hpr;split at h
    ·rename_i hB;simp only[bS]at hB;simp only[Tr.eB]at h;obtain⟨g1,g2,g3,g4,g5,g6⟩:=adl hpr;exact⟨h.1,λhf=>cV.pair (hp hf) g1 g2 hw hw' g3 (za (uo hf) hB.1) g4 g5 (za (uo hf) hB.2) g6 (h.2 hf)⟩
    ·exact hb h
   ·exact hb h
  ·exact hb h
 ·rename_i i o l;split at h
  ·exact hb h
  ·rename_i hd;split at h
   ·rename_i hw;exact⟨h.1,λhf=>cV.st (hp hf) hd (.inr ⟨hw,rfl⟩) (h.2 hf)⟩
   ·rename_i hw;split at h
    ·rename_i x hv;exact⟨h.1,λhf=>cV.st (hp hf) hd (.inl ⟨hw,aeS hv⟩) (h.2 hf)⟩
    ·split at h
     ·exact hb h
     ·rename_i x hv;exact⟨h.1,λhf=>cV.st (hp hf) hd (.inl ⟨hw,Rb hnest hv⟩) (h.2 hf)⟩
     ·split at h
      ·rename_i x ns' hv;refine kq (P:=Nx.ok E Q) h hb λns1 he h=>?_;obtain⟨h1,h2⟩:=he h.1;exact⟨h2,λhf=>cV.fl (hp hf) hd (.inl ⟨hw,fb hv h1⟩) (h.2 hf)⟩
      ·split at h
       ·rename_i z ns' g xs hv;refine kq (P:=Nx.ok E Q) h hb λns1 he h=>?_;obtain⟨h1,h2⟩:=he h.1;obtain⟨q1,q2⟩:=adk hnest hv h1;exact⟨h2,λhf=>cV.fl (hp hf) hd (.inl ⟨hw,q1⟩) (h.2 λf hm=>(cq.1 hm).elim (λe=>by subst e;exact q2) (hf f))⟩
       ·exact hb h
   ·exact hb h
 ·rename_i i o l;split at h
  ·rename_i hnd hd;rw[IS]at h;obtain⟨O1,L1,cU⟩:∃O1 L1,fB (eh (cD all.toArray i A)) O L=(O1,L1):=⟨_,_,rfl⟩;rw[cU]at h;simp only at h;split at h
   ·rename_i hw;refine⟨h.1,λhf=>cV.skip (hp hf) hnd hd (by rw[cU];exact hw) ?_⟩;rw[cU];exact h.2 hf
   ·rename_i hw;split at h
    ·rename_i x ns' hv;refine kq (P:=Nx.ok E Q) h hb λns1 he h=>?_;obtain⟨h1,h2⟩:=he h.1;exact⟨h2,λhf=>cV.pw (hp hf) hnd hd cU hw (b5.val (Af hv h1)) (λy L' hr=>by obtain⟨e1,rfl⟩:=hr;cases e1;exact h.2 hf) (λy L' hr=>by obtain⟨e1,_⟩:=hr;cases e1)⟩
    ·rename_i hv;split at h
     ·rename_i d x ce L2 ns' hh;refine kq (P:=Nx.ok E Q) h hb λns1 he h=>?_;rw[Tr.eB]at h;obtain⟨h1,h2⟩:=he h.1;exact⟨h2,λhf=>cV.pw (hp hf) hnd hd cU hw (yE hh h1) (λy L' hr=>by obtain⟨e1,rfl⟩:=hr;cases e1;exact h.2 hf) (λy L' hr=>by obtain⟨e1,_⟩:=hr;cases e1)⟩
     ·rename_i j ce ns2 L2 ns' hh;refine kq (P:=Nx.ok E Q) h hb λns1 he h=>?_;rw[Tr.eB]at h;obtain⟨h1,h2⟩:=he h.1;exact⟨h2,λhf=>cV.pw (hp hf) hnd hd cU hw (yE hh h1) (λy L' hr=>by obtain⟨e1,rfl⟩:=hr;cases e1;exact h.2 hf) (λy L' hr=>by obtain⟨e1,_⟩:=hr;cases e1)⟩
     ·rename_i j d x ce ns2 L2 ns' hh;refine kq (P:=Nx.ok E Q) h hb λns1 he h=>?_;rw[Tr.eB]at h;obtain⟨h1,h2⟩:=he h.1;exact⟨h2,λhf=>cV.pw (hp hf) hnd hd cU hw (yE hh h1) (λy L' hr=>by obtain⟨e1,rfl⟩:=hr;cases e1;exact h.2 hf) (λy L' hr=>by obtain⟨e1,_⟩:=hr;cases e1)⟩
     ·exact hb h
     ·split at h
      ·rename_i f as tys ho;obtain⟨as⟩:=as;split at h
       ·rename_i g cs hc;split at h
        ·exact hb h
        ·split at h
         ·rename_i nt rs b hf;split at h
          ·rename_i hB;obtain⟨fn,h1,h2,h3,h4,h5⟩:=D6 hF hf;exact⟨h.1,ao.gW ho hp hnd cU hw hc h1 h2 h3 h4 h5 hB hd h.2⟩
          ·exact hb h
         ·exact hb h
       ·exact hb h
      ·rename_i p ho;split at h
       ·rename_i t y hpp;exact D7 (N:=N) (K:=K) ⟨y,.inl rfl⟩ h hb λh1 h2=>⟨h1,λhf=>cV.pw (hp hf) hnd hd cU hw (b5.panic ho hpp) (λy L' hr=>by obtain⟨e1,_⟩:=hr;cases e1) (λy L' hr=>by obtain⟨e1,rfl⟩:=hr;cases e1;exact h2)⟩
       ·rename_i t y hpp;exact D7 (N:=N) (K:=K) ⟨.d y,.inr ⟨y,rfl⟩⟩ h hb λh1 h2=>⟨h1,λhf=>cV.pw (hp hf) hnd hd cU hw (b5.J3 ho hpp) (λy L' hr=>by obtain⟨e1,_⟩:=hr;cases e1) (λy L' hr=>by obtain⟨e1,rfl⟩:=hr;cases e1;exact h2)⟩
       ·exact hb h
      ·exact hb h
   ·exact hb h
  ·exact hb h
theorem cm.scope {C:Cx} {N:Nat} {c:Code} {Q:AQ} {O:Sg} {L:List aq} (h:cm C N c Q O L):cm C N (.scope c) Q O L:=λF w0 L0 a w hs hx=>wp_scope_straight (wp_mono (h F w0 L0 a w hs hx) λe a' w' hq=>by
 obtain⟨e0,O',L',h1,h2,h3⟩:=hq;cases e0 with
 |norm=>simp only[AE.rel]at h2;subst h2;exact⟨.norm,O',L',h1,rfl,h3⟩
 |exit i=>simp only[AE.rel]at h2;subst h2;exact⟨.exit i,O',L',h1,rfl,h3⟩
 |ret=>simp only[AE.rel]at h2;subst h2;exact⟨.ret,O',L',h1,rfl,h3⟩
 |aT x=>obtain⟨v,rfl,h2⟩:=h2;exact⟨.aT x,O',L',h1,⟨v,rfl,h2⟩,h3⟩)
theorem DC.scope {c:Code} {O:TS} {L:Hp} (h:DC E N K c Q O L):DC E N K (.scope c) Q O L:=λZ σB LB hs hh=>cm.scope (h Z σB LB hs hh)
theorem aa9 (hm:E.P.follows .mixedOrders=true) {fl:Nat} {b:Code} (h:Nx.ok E Q (IQ E.T c fl N K b k O L ns bad)) (hb:bad.ok E Q->eqs ns/\ao E N K (.code b::k) Q O L):eqs ns/\ao E N K (.code b::k) Q O L:=by
 unfold IQ at h;split at h
 ·exact⟨h.1,DC.skip h.2⟩
 ·exact⟨h.1,DC.label h.2⟩
 ·rename_i x y;refine⟨h.1,DC.seq ?_⟩;rw[aeT];exact h.2
 ·rename_i i x;refine⟨h.1,DC.block ?_⟩;rw[af9];exact h.2
 ·rename_i id ops d;obtain⟨ops⟩:=ops;split at h
  ·exact⟨h.1,DC.region h.2⟩
  split at h
  ·rename_i u hu;split at h
   ·rename_i x hx;split at h
    ·rename_i z ns' ms hf;refine kq (P:=Nx.ok E Q) h hb λns1 he h=>?_;rw[Tr.eB]at h;obtain⟨h1,h2⟩:=he h.1;exact⟨h2,DC.cT 60 hx hf h1 h.2⟩
    ·exact hb h
   ·exact hb h
  ·split at h;rename_i pre tl al hp;split at h
   ·exact hb h
   ·rename_i A hA;split at h
    ·rename_i hB;simp only[bS]at hB;exact⟨h.1,DC.open pre tl al A hm hA hB.1 hB.2 h.2⟩
    ·exact hb h
 ·rename_i i;split at h
  ·rename_i k' hk;refine⟨h.1,DC.exit ?_⟩;rw[pT hk];exact h.2
  ·exact hb h
 ·split at h
  ·rename_i hk;refine⟨h.1,DC.ret ?_⟩;rw[nZ,hk];exact h.2
  ·rename_i N' K' O' dst rs k' hk;refine⟨h.1,DC.ret ?_⟩;rw[nZ,hk];exact h.2
  ·rename_i N' K' O' dst rs ty z k' hk;refine⟨h.1,DC.ret ?_⟩;rw[nZ,hk];exact h.2
  ·exact hb h
 ·exact⟨h.1,DC.scope h.2⟩
 ·rename_i t x y;split at h
  ·rename_i v hv;split at h
   ·split at h
    ·exact⟨h.1,DC.cond hv (λ_=>h.2) (λe=>by cases e)⟩
    ·exact⟨h.1,DC.cond hv (λe=>by cases e) (λ_=>h.2)⟩
   ·simp only[Tr.eB]at h;exact⟨h.1,DC.agI hv h.2.1 h.2.2⟩
  ·exact hb h
 ·rename_i v x y;split at h
  ·exact⟨h.1,DC.cond (t:=true) rfl (λ_=>h.2) (λe=>by cases e)⟩
  ·exact⟨h.1,DC.cond (t:=false) rfl (λe=>by cases e) (λ_=>h.2)⟩
 ·rename_i x;split at h
  ·refine⟨h.1,DC.rounds (fl+1) ?_⟩;show DC E N K x (DE.then (pU E N K x (dq E N K k Q) fl) (dq E N K k Q)) O L;rw[UR];exact h.2
  ·exact hb h
 ·exact hb h
theorem Sr (hm:E.P.follows .mixedOrders=true) (hfs:lr E c.fs) (hct:∀f ty z,c.ct f=some (ty,z)->sF E f ty z) (hF:∀g x,c.fn g=some x->E.P.funcs[g]? =some x) {nest:Nat->List AV->Option AV} (hnest:∀g xs z,nest g xs=some z->Pure E.toCx g xs (.ret z)) {fl:Nat} {todo:List It} (h:Nx.ok E Q (step E.P E.G E.T c nest fl N K todo O L ns)):eqs ns/\ao E N K todo Q O L:=by
 unfold step at h;have hb:Nx.ok E Q (.out (.stuck N K todo O L ns))->eqs ns/\ao E N K todo Q O L:=λh=>h;revert hb;generalize Nx.out (.stuck N K todo O L ns)=bad at h;intro hb;rcases todo with _|⟨it,k⟩
 ·exact h
 cases it with
 |fR i=>exact h
 |lp n=>exact hb h
 |oD m b=>
  cases m with
  |zero=>exact hb h
  |succ m'=>
   refine⟨h.1,?_⟩;show pU E N K _ (dq E N K _ Q) (m'+1) O L;show DC E N K _ (DE.then (pU E N K _ (dq E N K _ Q) m') (dq E N K _ Q)) O L;rw[UR];exact h.2
 |fr N' K' O' dst rs=>
  unfold AH at h;simp only at h;split at h
  ·exact hb h
  ·rename_i xs hx;split at h
   ·exact⟨h.1,xs,hx,h.2⟩
   ·rw[Tr.eB]at h;exact⟨h.1,xs,hx,h.2⟩
 |ct N' K' O' dst rs ty z=>
  unfold AH at h;simp only at h;split at h
  ·exact hb h
  ·rename_i xs hx;exact⟨h.1,xs,hx,h.2⟩
 |ops all l=>
  cases l with
  |nil=>exact⟨h.1,DO.nil h.2⟩
  |cons o r=>exact abC hfs hct hF h hb
 |lex all tl A pre W=>
  cases pre with
  |nil=>
   unfold AH at h;simp only at h;split at h
   ·rename_i hnd;rw[IS,Qi]at h;exact⟨h.1,eP.nil hnd (h.2 λf hf=>by cases hf)⟩
   ·exact hb h
  |cons o r=>exact abD hnest h hb
 |tl all l A pend fs=>
  unfold AH at h;simp only at h;split at h
  ·rename_i hp;exact Qh hnest hF (λhf=>za (uo hf) hp) h hb
  ·exact hb h
 |code b=>exact aa9 hm h hb
end
def Ww (T:cn) (rs:List ResultVar):Out->Option AV
 | .fin .ret O L []=>match eX T O L rs with
  |some xs=>match cF L.e 60 [fY xs]with
   |some ([z],ns,_)=>match ns.all λp=>Nat.beq p.1 p.2 with
    |true=>some z
    |false=>none
   |_=>none
  |none=>none
 | .fin .norm O L []=>match eX T O L rs with
  |some xs=>match cF L.e 60 [fY xs]with
   |some ([z],ns,_)=>match ns.all λp=>Nat.beq p.1 p.2 with
    |true=>some z
    |false=>none
   |_=>none
  |none=>none
 |_=>none
def we (F:Nat->Option Func) (T:cn) (run:Nat->Nat->List It->TS->Hp->List (Nat×Nat)->Out) (g:Nat) (xs:List AV):Option AV:=match v8 F g with
 |some (nt,rs,b)=>match Nat.ble xs.length nt with
  |true=>Ww T rs (run nt 0 [.code b] (jy 0 (xs.map .d)) Hp.nil [])
  |false=>none
 |none=>none
def FT (fs:List (Nat×List AV×AV)) (nest:Nat->List AV->Option AV) (g:Nat) (xs:List AV):Option AV:=match o7 fs g xs with
 |some z=>some z
 |none=>nest g xs
def dx (P:Program) (G:Gl) (T:cn) (c:gz):Nat->Nat->Nat->List It->TS->Hp->List (Nat×Nat)->Out
 |0,N,K,todo,O,L,ns=> .stuck N K todo O L ns
 |f+1,N,K,todo,O,L,ns=>match step P G T c (FT c.fs (we c.fn T (dx P G T c f))) f N K todo O L ns with
  | .go N' K' todo' O' L' ns'=>dx P G T c f N' K' todo' O' L' ns'
  | .out o=>o
section
variable {E:Env}
theorem Rc {F:Nat->Option Func} (hF:∀g x,F g=some x->E.P.funcs[g]? =some x) {run:Nat->Nat->List It->TS->Hp->List (Nat×Nat)->Out} (hr:∀(Q:DQ) N K todo O L ns,Out.ok E Q (run N K todo O L ns)->eqs ns/\ao E N K todo Q O L) {g:Nat} {xs:List AV} {z:AV} (h:we F E.T run g xs=some z):Pure E.toCx g xs (.ret z):=by
 unfold we at h;split at h
 ·rename_i nt rs b hf;obtain⟨fn,h1,h2,h3,h4,h5⟩:=D6 hF hf;split at h
  ·rename_i hle;refine Pure.YX 60 (gm.enter h1 h2 h3 rs h4 nt h5 (by simpa using hle) ?_);have key:∀{O':TS} {L':Hp} {xs':List CV} {ns1:List (Nat×Nat)} {ms1:List (Nat×bC)} {z':AV},eX E.T O' L' rs=some xs'->cF L'.e 60 [fY xs']=some ([z'],ns1,ms1)->(ns1.all λp=>Nat.beq p.1 p.2)=true->some z'=some z->
     ∃ys,eX E.T O' L' rs=some ys/\Ends 60 (.ret z) (.ret (fY ys)) L':=by
    intro O' L' xs' ns1 ms1 z' g1 g2 g3 g4;cases g4;exact⟨xs',g1,z,ns1,ms1,g2,JB g3,z,rfl,cz.refl z⟩
   have:=hr (RD E.T rs (Ends 60 (.ret z))) nt 0 [.code b] (jy 0 (xs.map .d)) Hp.nil [];revert h this;generalize run nt 0 [.code b] (jy 0 (xs.map .d)) Hp.nil []=out;intro h hr';refine(hr' ?_).2;unfold Ww at h;split at h
   ·split at h
    ·rename_i xs' g1;split at h
     ·rename_i z' ns1 ms1 g2;split at h
      ·rename_i g3;exact⟨trivial,key g1 g2 g3 h⟩
      ·cases h
     ·cases h
    ·cases h
   ·split at h
    ·rename_i xs' g1;split at h
     ·rename_i z' ns1 ms1 g2;split at h
      ·rename_i g3;exact⟨trivial,key g1 g2 g3 h⟩
      ·cases h
     ·cases h
    ·cases h
   ·cases h
  ·cases h
 ·cases h
theorem Kr (hm:E.P.follows .mixedOrders=true) (c:gz) (hfs:lr E c.fs) (hct:∀f ty z,c.ct f=some (ty,z)->sF E f ty z) (hF:∀g x,c.fn g=some x->E.P.funcs[g]? =some x):∀(f:Nat) (Q:DQ) (N K:Nat) (todo:List It) (O:TS) (L:Hp) (ns:List (Nat×Nat)),Out.ok E Q (dx E.P E.G E.T c f N K todo O L ns)->eqs ns/\ao E N K todo Q O L
 |0,_,_,_,_,_,_,_,h=>h
 |f+1,Q,N,K,todo,O,L,ns,h=>by
  have ih:=Kr hm c hfs hct hF f;refine Sr (c:=c) (fl:=f) hm hfs hct hF (nest:=FT c.fs (we c.fn E.T (dx E.P E.G E.T c f))) (λg xs z hz=>?_) ?_
  ·unfold FT at hz;split at hz
   ·rename_i z' hl;cases hz;exact uo hfs g xs z hl
   ·exact Rc hF (λQ N K todo O L ns=>ih Q N K todo O L ns) hz
  unfold dx at h;revert h;generalize step E.P E.G E.T c (FT c.fs (we c.fn E.T (dx E.P E.G E.T c f))) f N K todo O L ns=nx;intro h;cases nx with
  |go N' K' todo' O' L' ns'=>exact ih Q N' K' todo' O' L' ns' h
  |out o=>exact h
def Wx (P:Program) (G:Gl) (T:cn) (c:gz) (f:Nat) (g:Nat) (xs:List AV):Option AV:=we c.fn T (dx P G T c f) g xs
theorem aeU (hm:E.P.follows .mixedOrders=true) {c:gz} (hfs:lr E c.fs) (hct:∀f ty z,c.ct f=some (ty,z)->sF E f ty z) (hF:∀g x,c.fn g=some x->E.P.funcs[g]? =some x) {f g:Nat} {xs:List AV} {z:AV} (h:Wx E.P E.G E.T c f g xs=some z):Pure E.toCx g xs (.ret z):=Rc hF (Kr hm c hfs hct hF f) h
