/- The abstract machine, seventh part: many steps at once; a run from beginning to end. -/
import Derived.Test.YtnocmolegijmkaaGreatKD6
set_option linter.all false
noncomputable section
namespace Go.Bw
open Go
def Pq (m:List Nat):List Edge->Nat
 |[]=>0
 |e::r=>Nat.lor (Pq m r) (Nat.lor (Nat.shiftLeft 1 e.on) ((nth m e.on).getD 0))
def PU:List Oper->List Nat->List Nat
 |[],m=>m
 |o::r,m=>PU r (m++[Pq m (o.after.toList.filter λe=>Region.binds .any e)])
def PV (imp:Nat->Bool):Op->Bool
 | .store _ _ _=>true
 | .makeSlice _ _ _=>true
 | .mapUpdate _ _ _ _=>true
 | .makeMap _ _=>true
 | .panic _=>true
 | .defer _=>true
 | .range _ _=>true
 | .next _ _=>true
 | .entry _=>true
 | .call c=>match c.callee with
  | .builtin .append=>true
  | .builtin .len=>false
  | .builtin _=>true
  | .value (.func g)=>imp g
  | .value _=>true
  | .invoke _ _=>true
 |_=>false
def Ct (d:Nat):List Oper->Bool
 |[]=>false
 |o::r=>match o.op with
  | .call {callee:= .builtin .append,args:=as,argTypes:=_}=>match as.toList with
   | .tmp t::_=>match Nat.beq t d with
    |true=>true
    |false=>Ct d r
   |_=>Ct d r
  |_=>Ct d r
def Ha (all:List Oper) (o:Oper):Bool:=match o.op,o.dst with
 | .buildSlice _ _ _,some d=>Ct d all
 |_,_=>false
def Hb (imp:Nat->Bool) (all:List Oper):Nat->List Oper->List Nat
 |_,[]=>[]
 |i,o::r=>match PV imp o.op||Ha all o with
  |true=>i::Hb imp all (i+1) r
  |false=>Hb imp all (i+1) r
def Pr (m:List Nat):Nat->Nat->List Nat->List Nat
 |0,_,t=>t
 |f+1,n,t=>
  let new:=(List.range n).filter λi=>!t.contains i&&t.any λj=>!Nat.testBit ((nth m j).getD 0) i
  match new with
  |[]=>t
  |_::_=>Pr m f n (t++new)
def NZ (imp:Nat->Bool) (o:Oper):Bool:=match o.op with
 | .box _ _=>false
 | .alloc _=>false
 | .call c=>match c.callee with
  | .builtin .len=>true
  | .value (.func g)=>!imp g
  | .value _=>false
  |_=>false
 |op=>!PV imp op
def Zv (imp:Nat->Bool) (ops:List Oper):List Nat×List (Nat×TK):=
 let t:=Pr (PU ops []) 60 ops.length (Hb imp ops 0 ops)
 ((List.range ops.length).filter λi=>!t.contains i,((List.range ops.length).filter λi=>t.contains i).map λi=>(i,match nth ops i with
  |some o=>match NZ imp o&& !Ha ops o with
   |true=> .fl
   |false=> .one
  |none=> .one))
def alB (o:Oper):Bool:=match o.op,o.dst,o.guard with
 | .alloc _,some _,none=>o.after.all λe=>!Region.binds .any e
 |_,_,_=>false
def Cf (imp:Nat->Bool) (ops:Array Oper):Nat->Array Bool->List (Nat×TK)
 |0,_=>[]
 |f+1,listed=>match Region.ready .any ops listed with
  |[]=>[]
  |i::r=>match(i::r).find? λi=>match ops[i]? with
    |some o=>NZ imp o&& !Ha ops.toList o
    |none=>false with
   |some j=>(j,.fl)::Cf imp ops f (listed.setIfInBounds j true)
   |none=>match r with
    |[]=>(i,.one)::Cf imp ops f (listed.setIfInBounds i true)
    |[j]=>(i,.two)::(j,.one)::Cf imp ops f ((listed.setIfInBounds i true).setIfInBounds j true)
    |_=>[]
def CR:Nat->List Oper->List Nat
 |_,[]=>[]
 |i,o::r=>match alB o with
  |true=>i::CR (i+1) r
  |false=>CR (i+1) r
def Zw (imp:Nat->Bool) (ops:List Oper):List Nat×List (Nat×TK)×List Nat:=match Zv imp ops with
 |(pre,tl)=>match pH ops.toArray pre tl []with
  |true=>(pre,tl,[])
  |false=>([],Cf imp ops.toArray ops.length (kG (CR 0 ops) (Array.replicate ops.length false)),CR 0 ops)
inductive Out where
 |stuck (N K:Nat) (todo:List It) (O:TS) (L:Hp) (ns:List (Nat×Nat))
 |cond (b:Bool) (N K:Nat) (t1:List It) (s1:TS) (t2:List It) (s2:TS) (L:Hp) (ns:List (Nat×Nat))
 |fin (e:DE) (O:TS) (L:Hp) (ns:List (Nat×Nat))
inductive Nx where
 |go (N K:Nat) (todo:List It) (O:TS) (L:Hp) (ns:List (Nat×Nat))
 |out (o:Out)
def Out.ok (E:Env) (Q:DQ):Out->Prop
 | .stuck N K todo O L ns=>eqs ns/\az E N K todo Q O L
 | .cond b N K t1 s1 t2 s2 L ns=>eqs ns/\(b=true->az E N K t1 Q s1 L)/\(b=false->az E N K t2 Q s2 L)
 | .fin e O L ns=>eqs ns/\Q e O L
def Nx.ok (E:Env) (Q:DQ):Nx->Prop
 | .go N K todo O L ns=>eqs ns/\az E N K todo Q O L
 | .out o=>o.ok E Q
structure fD where
 cl:Bool
 inl:Nat->Bool
 imp:Nat->Bool
 own:Nat->Bool
 fn:Nat->Option Func
 ct:Nat->Option (TypeId×AV)
 fs:List (Nat×List AV×AV)
def IS (n:Nat) (t:Tr Func) (g:Nat):Option Func:=match Nat.blt g n with
 |true=>t.get g
 |false=>none
theorem Xy {P:Program} {n:Nat} {t:Tr Func} (h:(List.range n).map t.get=P.funcs.toList.map some):∀g x,IS n t g=some x->P.funcs[g]? =some x:=λg x hx=>by
 unfold IS at hx;split at hx
 ·rename_i hlt;have hlt:g<n:=by simpa using hlt
  have h1:((List.range n).map t.get)[g]? =some (t.get g):=by simp[hlt]
  rw[h,hx]at h1;simp only[qu,SZ]at h1;obtain⟨y,h2,h3⟩:=h1;cases h3;simpa using h2
 ·cases hx
def uB (F:Nat->Option Func) (g:FuncId):Option (Nat×List ResultVar×Code):=match F g with
 |some fn=>match fn.body,(fn.name== "runtime.NumGoroutine")with
  |some c,false=>some (fn.ntmps,fn.results.toList,c)
  |_,_=>none
 |none=>none
def iD {R:Type} (cl:Bool) (ns' ns:List (Nat×Nat)) (bad:R) (k:List (Nat×Nat)->R):R:=match cl with
 |false=>k (ns'++ns)
 |true=>match ns'.all λp=>Nat.beq p.1 p.2 with
  |true=>k ns
  |false=>bad
def N0 (d:Nat) (l:List Oper):Bool:=l.any λo=>o.op.operands.toList.any λ
 | .tmp t=>Nat.beq t d
 |_=>false
def ux {R:Type}:Nat->Nat->Nat->(Nat->R)->R
 |0,n,acc,k=>k (n+acc)
 |f+1,n,acc,k=>match n with
  |0=>k acc
  |m+1=>ux f m (acc+1) k
theorem A2 {R:Type} (k:Nat->R):∀(f n acc:Nat),ux f n acc k=k (n+acc)
 |0,_,_=>rfl
 |f+1,0,acc=>by rw[oZ];rfl
 |f+1,m+1,acc=>by
  have:=A2 k f m (acc+1);rw[show m+1+acc=m+(acc+1)by omega,<-this];rfl
def xq {R:Type}:List (Nat×List CV)->TS->Hp->(TS->Hp->R)->R
 |[],O,L,k=>k O L
 |(d,cs)::r,O,L,k=>match L with
  |⟨e,m⟩=>ux 1000 m 0 λn=>Tr.cE 24 O d (some (.own n 0)) λO'=>Tr.cE 24 e n (some (.box cs)) λe'=>xq r O' ⟨e',n+1⟩ k
def preB (O:TS):Op->Option Nat
 | .build _ parts=>EU O parts.toList
 | .slice _ (.tmp u) _ _ _=>match O.get u with
  |some (.os _ _)=>some u
  |_=>none
 | .convert _ _ (.tmp u)=>match O.get u with
  |some (.os _ _)=>some u
  |_=>none
 |_=>none
def aap (o:Oper):List Oper->Bool
 |o2::_=>match o.dst,o2.op with
  |some d,.call {callee:= .builtin .clear,args:=as,argTypes:=_}=>match as.toList with
   |[.tmp u]=>Nat.beq d u
   |_=>false
  |_,_=>false
 |[]=>false
def Fk:CV->Option AV
 | .bA _ (.d y)=>match nr y with
  |true=>some y
  |false=>none
 | .d (.bA _ y)=>match nr y with
  |true=>some y
  |false=>none
 |_=>none
def tn (t:TypeId) (x:CV) (k:List It) (L:Hp) (ns:List (Nat×Nat)) (bad:Nx):Nx:=match jS k with
 |none=> .out (.fin (.aM x) .lf L ns)
 |some (N',K',O',dst,ty,k')=>match Nat.beq t ty,Fk x with
  |true,some y=> .go N' K' k' (bY O' dst (.d y)) L ns
  |_,_=>bad
def oC:List (Nat×List AV×AV)->Nat->List AV->Option AV
 |[],_,_=>none
 |(g',xs',z)::r,g,xs=>match Nat.beq g g'&&mu xs xs' with
  |true=>some z
  |false=>oC r g xs
def oy (nest:Nat->List AV->Option AV) (O:TS):Op->Option (Option CV)
 | .call {callee:= .value f,args:=as,argTypes:=_}=>match dE O f as.toList with
  |some (g,cs)=>match fU cs with
   |some xs=>match nest g xs with
    |some z=>some (some (.d z))
    |none=>some none
   |none=>none
  |none=>none
 |_=>none
def BU {R:Type}:bM->TS->(TS->R)->R
 |[],O,k=>k O
 |p::A,O,k=>Tr.cE 24 O p.2.1 none λO1=>BU A O1 k
theorem XH {O:TS} {op:Op}:eG 4227104 op (preB O op)=preB O op:=by cases op<;>kernel_rfl
theorem WB {nest:Nat->List AV->Option AV} {O:TS} {op:Op}:eG 68719476736 op (oy nest O op)=oy nest O op:=by cases op<;>kernel_rfl
theorem Zx {cl:Bool} {T:bQ} {N:Nat} {O:TS} {L:Hp} {o:Oper}:eG 68721574488 o.op (cz cl T N O L o)=cz cl T N O L o:=by
 obtain⟨d,op,_,_,_,_⟩:=o;cases op<;>kernel_rfl
theorem XI {cl:Bool} {T:bQ} {N:Nat} {O:TS} {L:Hp} {d:Option Nat} {op:Op} {t:TypeId} {p:String} {a:Array Edge} {g:Option (Nat×Bool)}:eG 68721574488 op (cz cl T N O L ⟨d,op,t,p,a,g⟩)=cz cl T N O L ⟨d,op,t,p,a,g⟩:=Zx (o:=⟨d,op,t,p,a,g⟩)
def N2 (P:Program) (G:Gl) (T:bQ) (c:fD) (N K:Nat) (all:List Oper) (o:Oper) (r:List Oper) (k:List It) (O:TS) (L:Hp) (ns:List (Nat×Nat)) (bad:Nx) (j:Nat) (want:Bool):Nx:=match o.dst,nth all j with
 |some e,some oj=>match oj.dst,Nat.blt e N with
  |some d,true=>match O.get d with
   |some (.d (.v (.bool t)))=>match c.cl with
    |true=>match t,want with
     |true,true=> .go N K (.ops all (⟨some e,o.op,o.type,o.pos,o.after,none⟩::r)::k) O L ns
     |false,false=> .go N K (.ops all (⟨some e,o.op,o.type,o.pos,o.after,none⟩::r)::k) O L ns
     |true,false=>Tr.cE 24 O e (some (.d (.v undef))) λO1=> .go N K (.ops all r::k) O1 L ns
     |false,true=>Tr.cE 24 O e (some (.d (.v undef))) λO1=> .go N K (.ops all r::k) O1 L ns
    |false=>Tr.cE 24 O d (some (.d (.v (.bool true)))) λOt=>Tr.cE 24 O d (some (.d (.v (.bool false)))) λOf=>match want with
     |true=>Tr.cE 24 Of e (some (.d (.v undef))) λOn=> .out (.cond t N K (.ops all (⟨some e,o.op,o.type,o.pos,o.after,none⟩::r)::k) Ot (.ops all r::k) On L ns)
     |false=>Tr.cE 24 Ot e (some (.d (.v undef))) λOn=> .out (.cond t N K (.ops all r::k) On (.ops all (⟨some e,o.op,o.type,o.pos,o.after,none⟩::r)::k) Of L ns)
   |some (.d (.v (.tuple a)))=>match a.toList with
    |[]=>Tr.cE 24 O e (some (.d (.v undef))) λO1=> .go N K (.ops all r::k) O1 L ns
    |_::_=>bad
   |_=>bad
  |_,_=>bad
 |_,_=>bad
def N3 (P:Program) (G:Gl) (T:bQ) (c:fD) (N K:Nat) (all:List Oper) (o:Oper) (r:List Oper) (k:List It) (O:TS) (L:Hp) (ns:List (Nat×Nat)) (bad:Nx):Nx:=match o.op with
 | .call {callee:= .value f,args:=as,argTypes:=_}=>match dE O f as.toList with
  |some (g,cs)=>match c.inl g with
   |false=>bad
   |true=>match c.ct g with
    |some (ty,z)=>match cs with
     |[x]=>match CS x with
      |some (g',fs',cs')=>match uB c.fn g' with
       |some (nt,rs,b)=>match Nat.ble (fs'++cs').length nt&&cx N o.dst with
        |true=> .go nt L.n (.code b:: .ct N K O o.dst rs ty z:: .ops all r::k) (iz 0 (fs'++cs')) L ns
        |false=>bad
       |none=>bad
      |none=>bad
     |_=>bad
    |none=>match uB c.fn g with
     |some (nt,rs,b)=>match Nat.ble cs.length nt&&cx N o.dst with
      |true=> .go nt L.n (.code b:: .fr N K O o.dst rs:: .ops all r::k) (iz 0 cs) L ns
      |false=>bad
     |none=>bad
  |none=>bad
 | .panic p=>match aV O p with
  |some (.bA t y)=>tn t (.bA t y) k L ns bad
  |some (.d (.bA t y))=>tn t (.d (.bA t y)) k L ns bad
  |_=>bad
 |_=>bad
def N4 (P:Program) (G:Gl) (T:bQ) (c:fD) (N K:Nat) (all:List Oper) (o:Oper) (r:List Oper) (k:List It) (O:TS) (L:Hp) (ns:List (Nat×Nat)) (bad:Nx):Nx:=match eG 68721574488 o.op (cz c.cl T N O L o)with
 |some (.push d x ce)=>Tr.cE 24 O d (some x) λO1=>Tr.cE 24 L.e L.n (some ce) λe1=> .go N K (.ops all r::k) O1 ⟨e1,L.n+1⟩ ns
 |some (.set i ce ns')=>iD c.cl ns' ns bad λns1=>Tr.cE 24 L.e i (some ce) λe1=> .go N K (.ops all r::k) O ⟨e1,L.n⟩ ns1
 |some (.app i d x ce ns')=>iD c.cl ns' ns bad λns1=>Tr.cE 24 O d (some x) λO1=>Tr.cE 24 L.e i (some ce) λe1=> .go N K (.ops all r::k) O1 ⟨e1,L.n⟩ ns1
 |some (.tQ t e kk)=>Tr.cE 24 O t (some (.os L.n 0)) λO1=>Tr.cE 24 L.e L.n (some (.row e kk [])) λe1=> .go N K (.ops all (o::r)::k) O1 ⟨e1,L.n+1⟩ ns
 |some (.cH t z ns' ms)=>iD c.cl ns' ns bad λns1=>Tr.cE 24 O t (some (.d z)) λO1=> .go N K (.ops all (o::r)::k) O1 (iR ms L) ns1
 |none=>N3 P G T c N K all o r k O L ns bad
def N5 (P:Program) (G:Gl) (T:bQ) (c:fD) (N K:Nat) (all:List Oper) (o:Oper) (r:List Oper) (k:List It) (O:TS) (L:Hp) (ns:List (Nat×Nat)) (bad:Nx):Nx:=match eG 68719476736 o.op (oy (oC c.fs) O o.op)with
 |some (some x)=>match cx N o.dst with
  |false=>bad
  |true=> .go N K (.ops all r::k) (bY O o.dst x) L ns
 |_=>N4 P G T c N K all o r k O L ns bad
def N6 (P:Program) (G:Gl) (T:bQ) (c:fD) (N K:Nat) (all:List Oper) (o:Oper) (r:List Oper) (k:List It) (O:TS) (L:Hp) (ns:List (Nat×Nat)) (bad:Nx):Nx:=match dt P G T c.cl O L o.op with
 |some (x,ns')=>match o.dst with
  |none=>bad
  |some d=>match Nat.blt d N with
   |false=>bad
   |true=>iD c.cl ns' ns bad λns1=>Tr.cE 24 O d (some x) λO1=> .go N K (.ops all r::k) O1 L ns1
 |none=>N5 P G T c N K all o r k O L ns bad
def N7 (P:Program) (G:Gl) (T:bQ) (c:fD) (N K:Nat) (all:List Oper) (o:Oper) (r:List Oper) (k:List It) (O:TS) (L:Hp) (ns:List (Nat×Nat)) (bad:Nx):Nx:=match eG 4227104 o.op (preB O o.op)with
 |some u=>match aap o r with
  |true=>bad
  |false=>match O.get u with
   |some x=>match cd L.e 60 [x]with
    |some ([z],ns',ms)=>iD c.cl ns' ns bad λns1=>Tr.cE 24 O u (some (.d z)) λO1=> .go N K (.ops all (o::r)::k) O1 (iR ms L) ns1
    |_=>bad
   |none=>bad
 |none=>N6 P G T c N K all o r k O L ns bad
def EV (P:Program) (G:Gl) (T:bQ) (c:fD) (N K:Nat) (all:List Oper) (o:Oper) (r:List Oper) (k:List It) (O:TS) (L:Hp) (ns:List (Nat×Nat)) (bad:Nx):Nx:=match o.guard with
 |some (j,want)=>N2 P G T c N K all o r k O L ns bad j want
 |none=>N7 P G T c N K all o r k O L ns bad
def EW (P:Program) (G:Gl) (T:bQ) (c:fD) (nest:Nat->List AV->Option AV) (N K:Nat) (all:List Oper) (tl:List (Nat×Oper×TK)) (A:bM) (o:Oper) (r:List Oper) (W:List (Nat×List CV)) (k:List It) (O:TS) (L:Hp) (ns:List (Nat×Nat)) (bad:Nx):Nx:=match cG all o O with
 |some false=>match o.dst,mh o W with
  |some d,true=>match Nat.blt d N with
   |true=>Tr.cE 24 O d (some (.d (.v undef))) λO1=> .go N K (.lex all tl A r W::k) O1 L ns
   |false=>bad
  |_,_=>bad
 |some true=>match o.dst,mh o W with
  |some d,true=>match Nat.blt d N with
   |false=>bad
   |true=>match dt P G T c.cl O L o.op with
    |some (x,ns')=>iD c.cl ns' ns bad λns1=>Tr.cE 24 O d (some x) λO1=> .go N K (.lex all tl A r W::k) O1 L ns1
    |none=>match o.op with
     | .box _ p=>match aV O p with
      |some x=>match N0 d r&& !c.own d,fU (dG x)with
       |true,some ys=>Tr.cE 24 O d (some (.d (.ip ys))) λO1=> .go N K (.lex all tl A r W::k) O1 L ns
       |_,_=>Tr.cE 24 O d none λO1=> .go N K (.lex all tl A r (W++[(d,dG x)])::k) O1 L ns
      |none=>bad
     | .alloc t=>match aY T t with
      |some ⟨_,_,_,z⟩=>match N0 d r&& !c.own d with
       |true=>Tr.cE 24 O d (some (.d (.ip (z.map .v)))) λO1=> .go N K (.lex all tl A r W::k) O1 L ns
       |false=>Tr.cE 24 O d none λO1=> .go N K (.lex all tl A r (W++[(d,(z.map .v).map .d)])::k) O1 L ns
      |none=>bad
     | .buildSlice t n parts=>match aY T t with
      |some ⟨.slice e kk,_,_,_⟩=>match aY T e with
       |some ⟨_,_,_,z'⟩=>match eK kk (ee O) (gK n (z'.map .v)) parts.toList with
        |some cells=>match Nat.ble (n*kk) 16777216&&Nat.ble 1 kk with
         |true=>Tr.cE 24 O d (some (.d (.sl kk (chunk n kk cells)))) λO1=> .go N K (.lex all tl A r W::k) O1 L ns
         |false=>bad
        |none=>bad
       |none=>bad
      |_=>bad
     | .call {callee:= .value f,args:=as,argTypes:=_}=>match dE O f as.toList with
      |some (g,cs)=>match c.inl g with
       |false=>bad
       |true=>match cd L.e 60 cs with
        |some (xs,ns',ms)=>match nest g xs with
         |some z=>match ms with
          |[]=>iD c.cl ns' ns bad λns1=>Tr.cE 24 O d (some (.d z)) λO1=> .go N K (.lex all tl A r W::k) O1 L ns1
          |_::_=>match cR z with
           |true=>iD c.cl ns' ns bad λns1=>Tr.cE 24 O d (some (.d z)) λO1=> .go N K (.lex all tl A r W::k) O1 L ns1
           |false=>bad
         |none=>bad
        |none=>bad
      |none=>bad
     |_=>bad
  |_,_=>bad
 |none=>match o.guard with
  |some (j,_)=>match(nth all j).bind (·.dst)with
   |some d=>match O.get d with
    |some (.d (.v (.bool t)))=>match c.cl with
     |true=>bad
     |false=>Tr.cE 24 O d (some (.d (.v (.bool true)))) λOt=>Tr.cE 24 O d (some (.d (.v (.bool false)))) λOf=> .out (.cond t N K (.lex all tl A (o::r) W::k) Ot (.lex all tl A (o::r) W::k) Of L ns)
    |_=>bad
   |none=>bad
  |none=>bad
def Cu (P:Program) (G:Gl) (T:bQ) (cl:Bool) (O:TS) (L:Hp) (op:Op):Option (CV×List (Nat×Nat)):=match dt P G T cl O L op with
 |some p=>some p
 |none=>match op with
  | .buildSlice t n parts=>match aY T t with
   |some ⟨.slice e kk,_,_,_⟩=>match aY T e with
    |some ⟨_,_,_,z'⟩=>match eK kk (ee O) (gK n (z'.map .v)) parts.toList with
     |some cells=>match Nat.ble (n*kk) 16777216&&Nat.ble 1 kk with
      |true=>some (.d (.sl kk (chunk n kk cells)),[])
      |false=>none
     |none=>none
    |none=>none
   |_=>none
  |_=>none
def Hc (P:Program) (G:Gl) (T:bQ) (nest:Nat->List AV->Option AV) (cl:Bool) (O:TS) (L:Hp) (op:Op):Option (CV×List (Nat×Nat)):=match Cu P G T cl O L op with
 |some p=>some p
 |none=>match op with
  | .call {callee:= .value f,args:=as,argTypes:=_}=>match dE O f as.toList with
   |some (g,cs)=>match cd L.e 60 cs with
    |some (xs,ns',ms)=>match nest g xs with
     |some z=>match ms with
      |[]=>some (.d z,ns')
      |_::_=>match cR z with
       |true=>some (.d z,ns')
       |false=>none
     |none=>none
    |none=>none
   |none=>none
  |_=>none
def rC (P:Program) (G:Gl) (T:bQ) (nest:Nat->List AV->Option AV) (cl:Bool) (all:List Oper) (O:TS) (L:Hp):List (Nat×Oper×CV)->Bool
 |[]=>true
 |(_,o,x)::r=>match cl with
  |false=>false
  |true=>match cG all o O with
   |some true=>match Hc P G T nest true O L o.op with
    |some (y,ns)=>match kU x y&&ns.all λp=>Nat.beq p.1 p.2 with
     |true=>rC P G T nest cl all O L r
     |false=>false
    |none=>false
   |some false=>match x with
    | .d (.v (.tuple a))=>match a.toList with
     |[]=>rC P G T nest cl all O L r
     |_::_=>false
    |_=>false
   |none=>false
def Hd (P:Program) (G:Gl) (T:bQ) (cl:Bool) (O:TS) (op:Op):Option CV:=
 match eG 51565228327 op (He T (ee O) op)with
 |some y=>some (.d y)
 |none=>match eG 51565170727 op (Hf T O op)with
  |some x=>some x
  |none=>match eG 33024 op (lN G T (ee O) op)with
   |some y=>some (.d y)
   |none=>match cl with
    |false=>none
    |true=>match eG 104865792 op (ec P T (ee O) op)with
     |some y=>some (.d y)
     |none=>match eG 68719484928 op (fP P (ee O) op)with
      |some y=>some (.d y)
      |none=>none
def kP (nest:Nat->List AV->Option AV) (O:TS) (L:Hp):Op->Option (AV×List (Nat×Nat)×Nat×List AV)
 | .call {callee:= .value f,args:=as,argTypes:=_}=>match dE O f as.toList with
  |some (g,cs)=>match cd L.e 60 cs with
   |some (xs,ns',ms)=>match nest g xs with
    |some z=>match ms with
     |[]=>some (z,ns',g,xs)
     |_::_=>match cR z with
      |true=>some (z,ns',g,xs)
      |false=>none
    |none=>none
   |none=>none
  |none=>none
 |_=>none
def wX (P:Program) (G:Gl) (T:bQ) (c:fD) (nest:Nat->List AV->Option AV) (N K:Nat) (all:List Oper) (l:List (Nat×Oper×TK)) (A:bM) (pend:List (Nat×Oper×CV)) (fs:List (Nat×List AV×AV)) (k:List It) (O:TS) (L:Hp) (ns:List (Nat×Nat)) (bad:Nx):Nx:=match l with
 |[]=> .go N K k O L ns
 |[(_,_,.two)]=>bad
 |(i,o,.two)::(j,o',_)::l=>match c.cl,cG all o O,cG all o' O with
  |true,some true,some true=>match GC c.cl T N O L o o' with
   |some (a,ca,b,cb)=>match rC P G T (oC fs) c.cl all O (L.set a ca) (cI all i pend)&&rC P G T (oC fs) c.cl all O (L.set b cb) (cI all j pend)with
    |true=>Tr.cE 24 L.e a (some ca) λe1=>Tr.cE 24 e1 b (some cb) λe2=> .go N K (.tl all l A (cI all j (cI all i pend)) fs::k) O ⟨e2,L.n⟩ ns
    |false=>bad
   |none=>bad
  |_,_,_=>bad
 |(i,o,.fl)::l=>match cx N o.dst with
  |false=>bad
  |true=>match cG all o O with
    |some false=> .go N K (.tl all l A pend fs::k) (bY O o.dst (.d (.v undef))) L ns
    |some true=>match Hd P G T c.cl O o.op with
     |some x=> .go N K (.tl all l A pend fs::k) (bY O o.dst x) L ns
     |none=>match oy nest O o.op with
      |some none=>bad
      |some (some x)=> .go N K (.tl all l A pend fs::k) (bY O o.dst x) L ns
      |none=>match Cu P G T c.cl O L o.op with
       |some (x,ns')=>iD c.cl ns' ns bad λns1=> .go N K (.tl all l A ((i,o,x)::pend) fs::k) (bY O o.dst x) L ns1
       |none=>match kP nest O L o.op with
        |some (z,ns',g,xs)=>iD c.cl ns' ns bad λns1=> .go N K (.tl all l A ((i,o,.d z)::pend) ((g,xs,z)::fs)::k) (bY O o.dst (.d z)) L ns1
        |none=>bad
    |none=>bad
 |(i,o,.one)::l=>match fw ((dH (b8 all.toArray i A)).map (·.1)),cx N o.dst with
  |true,true=>xq (dH (b8 all.toArray i A)) O L λO1 η1=>match cG all o O1 with
    |some false=> .go N K (.tl all l (cn all.toArray i A) (cI all i pend) fs::k) (bY O1 o.dst (.d (.v undef))) η1 ns
    |some true=>match dt P G T c.cl O1 η1 o.op with
     |some (x,ns')=>iD c.cl ns' ns bad λns1=> .go N K (.tl all l (cn all.toArray i A) (cI all i pend) fs::k) (bY O1 o.dst x) η1 ns1
     |none=>match tR c.cl T N 20 O1 η1 o with
      |some (.push _ x ce,L2,ns')=>iD c.cl ns' ns bad λns1=>Tr.cE 24 L2.e L2.n (some ce) λe1=> .go N K (.tl all l (cn all.toArray i A) (cI all i pend) fs::k) (bY O1 o.dst x) ⟨e1,L2.n+1⟩ ns1
      |some (.set j ce _,L2,ns')=>iD c.cl ns' ns bad λns1=>Tr.cE 24 L2.e j (some ce) λe1=> .go N K (.tl all l (cn all.toArray i A) (cI all i pend) fs::k) (bY O1 o.dst (.d (.v undef))) ⟨e1,L2.n⟩ ns1
      |some (.app j _ x ce _,L2,ns')=>iD c.cl ns' ns bad λns1=>Tr.cE 24 L2.e j (some ce) λe1=> .go N K (.tl all l (cn all.toArray i A) (cI all i pend) fs::k) (bY O1 o.dst x) ⟨e1,L2.n⟩ ns1
      |some _=>bad
      |none=>match o.op with
       | .call {callee:= .value f,args:=as,argTypes:=_}=>match dE O1 f as.toList with
        |some (g,cs)=>match c.inl g with
         |false=>bad
         |true=>match uB c.fn g with
          |some (nt,rs,b)=>match Nat.ble cs.length nt with
           |true=> .go nt η1.n (.code b:: .fr N K O1 o.dst rs:: .tl all l (cn all.toArray i A) (cI all i pend) fs::k) (iz 0 cs) η1 ns
           |false=>bad
          |none=>bad
        |none=>bad
       | .panic p=>match aV O1 p with
        |some (.bA t y)=>tn t (.bA t y) k η1 ns bad
        |some (.d (.bA t y))=>tn t (.d (.bA t y)) k η1 ns bad
        |_=>bad
       |_=>bad
    |none=>bad
  |_,_=>bad
def Cg (O:TS) (all:List Oper):List Oper->Option Nat
 |[]=>none
 |o::r=>match o.op with
  | .slice _ (.tmp u) _ _ _=>match O.get u with
   |some (.os _ _)=>some u
   |_=>match all.find? λo'=>match o'.dst with
     |some d=>Nat.beq d u
     |none=>false with
    |some ⟨_,.move (.tmp v),_,_,_,_⟩=>match O.get v with
     |some (.os _ _)=>some v
     |_=>Cg O all r
    |_=>Cg O all r
  |_=>Cg O all r
def Ex (T:bQ) (c:fD) (fl N K:Nat) (b:Code) (k:List It) (O:TS) (L:Hp) (ns:List (Nat×Nat)) (bad:Nx):Nx:=match b with
 | .skip=> .go N K k O L ns
 | .label _=> .go N K k O L ns
 | .seq x y=> .go N K (.code x:: .code y::k) O L ns
 | .block i x=> .go N K (.code x:: .oO i::k) O L ns
 | .region _ ops d=>match d with
  |false=> .go N K (.ops ops.toList ops.toList::k) O L ns
  |true=>match Cg O ops.toList ops.toList with
   |some u=>match O.get u with
    |some x=>match cd L.e 60 [x]with
     |some ([z],ns',ms)=>iD c.cl ns' ns bad λns1=>Tr.cE 24 O u (some (.d z)) λO1=> .go N K (.code b::k) O1 (iR ms L) ns1
     |_=>bad
    |none=>bad
   |none=>match Zw c.imp ops.toList with
    |(pre,tl,al)=>match nK T ops N al with
     |none=>bad
     |some A=>match pH ops pre tl al&&Nat.beq (fS ops pre).length pre.length with
      |true=> .go N K (.lex ops.toList (jQ ops tl) A (fS ops pre) []::k) O L ns
      |false=>bad
 | .exit i=>match kM i k with
  |some k'=> .go N K k' O L ns
  |none=>bad
 | .ret=>match nE k with
  |[]=> .out (.fin .ret O L ns)
  | .fr N' K' O' dst rs::k'=> .go N K (.fr N' K' O' dst rs::k') O L ns
  | .ct N' K' O' dst rs ty z::k'=> .go N K (.ct N' K' O' dst rs ty z::k') O L ns
  |_=>bad
 | .scope x=> .go N K (.code x::k) O L ns
 | .cond (.tmp t) x y=>match O.get t with
  |some (.d (.v (.bool v)))=>match c.cl with
    |true=>match v with
     |true=> .go N K (.code x::k) O L ns
     |false=> .go N K (.code y::k) O L ns
    |false=>Tr.cE 24 O t (some (.d (.v (.bool true)))) λOt=>Tr.cE 24 O t (some (.d (.v (.bool false)))) λOf=> .out (.cond v N K (.code x::k) Ot (.code y::k) Of L ns)
  |_=>bad
 | .cond (.const (.bool v)) x y=>match v with
  |true=> .go N K (.code x::k) O L ns
  |false=> .go N K (.code y::k) O L ns
 | .loop x=>match c.cl with
  |true=> .go N K (.code x:: .nS fl x::k) O L ns
  |false=>bad
 |_=>bad
def xr (P:Program) (G:Gl) (T:bQ) (c:fD) (nest:Nat->List AV->Option AV) (fl N K:Nat) (todo:List It) (O:TS) (L:Hp) (ns:List (Nat×Nat)) (bad:Nx):Nx:=
 @List.rec It (λ_=>Program->Gl->bQ->fD->(Nat->List AV->Option AV)->Nat->Nat->Nat->TS->Hp->List (Nat×Nat)->Nx->Nx)
  (λ_ _ _ _ _ _ _ _ O L ns _=> .out (.fin .norm O L ns))
  (λit k _ P G T c nest fl N K O L ns bad=> @It.rec (λ_=>List It->Program->Gl->bQ->fD->(Nat->List AV->Option AV)->Nat->Nat->Nat->TS->Hp->List (Nat×Nat)->Nx->Nx)
   (λb k P G T c nest fl N K O L ns bad=>Ex T c fl N K b k O L ns bad)
   (λ_ k P G T c nest fl N K O L ns bad=> .go N K k O L ns)
   (λall l k P G T c nest fl N K O L ns bad=> @List.rec Oper (λ_=>Nx) (.go N K k O L ns) (λo r _=>EV P G T c N K all o r k O L ns bad) l)
   (λall tl A pre W k P G T c nest fl N K O L ns bad=> @List.rec Oper (λ_=>Nx) (match fw (W.map (·.1))with
    |true=>xq W O L λO1 η1=>BU A O1 λO2=> .go N K (.tl all tl A [] []::k) O2 η1 ns
    |false=>bad) (λo r _=>EW P G T c nest N K all tl A o r W k O L ns bad) pre)
   (λall l A pend fs k P G T c nest fl N K O L ns bad=>match rC P G T (oC fs) c.cl all O L pend with
    |true=>wX P G T c nest N K all l A pend fs k O L ns bad
    |false=>bad)
   (λ_ k P G T c nest fl N K O L ns bad=>bad)
   (λm b k P G T c nest fl N K O L ns bad=>match m with
    |0=>bad
    |m'+1=> .go N K (.code b:: .nS m' b::k) O L ns)
   (λN' K' O' dst rs k P G T c nest fl N K O L ns bad=>match ei T O L rs with
    |none=>bad
    |some xs=>match dst with
     |none=> .go N' K' k O' L ns
     |some d=>Tr.cE 24 O' d (some (fe xs)) λO''=> .go N' K' k O'' L ns)
   (λN' K' O' dst rs _ z k P G T c nest fl N K O L ns bad=>match ei T O L rs with
    |none=>bad
    |some _=> .go N' K' k (bY O' dst (.d z)) L ns)
   it k P G T c nest fl N K O L ns bad) todo P G T c nest fl N K O L ns bad
def step (P:Program) (G:Gl) (T:bQ) (c:fD) (nest:Nat->List AV->Option AV) (fl N K:Nat) (todo:List It) (O:TS) (L:Hp) (ns:List (Nat×Nat)):Nx:=xr P G T c nest fl N K todo O L ns (.out (.stuck N K todo O L ns))
theorem jj {R:Type} {P:R->Prop} {cl:Bool} {ns' ns:List (Nat×Nat)} {bad:R} {k:List (Nat×Nat)->R} {A:Prop} (h:P (iD cl ns' ns bad k)) (hb:P bad->A) (hk:∀ns1,(eqs ns1->eqs ns'/\eqs ns)->P (k ns1)->A):A:=by
 unfold iD at h;split at h
 ·exact hk _ (λh=>mS h) h
 ·split at h
  ·rename_i hall;refine hk _ (λh=>⟨?_,h⟩) h;clear h hk
   induction ns' with
   |nil=>trivial
   |cons p r ih=>
    simp only[kx,bG]at hall;exact⟨bC hall.1,ih hall.2⟩
  ·exact hb h
theorem Ey {R:Type}:∀(W:List (Nat×List CV)) (O:TS) (L:Hp) (k:TS->Hp->R),xq W O L k=k (eU W O L).1 (eU W O L).2
 |[],_,_,_=>rfl
 |(d,cs)::r,O,⟨e,m⟩,k=>by simp only[xq,A2,JV,Tr.dF,eU];exact Ey r _ _ k
theorem AH {P:Program} {F:Nat->Option Func} (hF:∀g x,F g=some x->P.funcs[g]? =some x) {g:FuncId} {nt:Nat} {rs:List ResultVar} {c:Code} (h:uB F g=some (nt,rs,c)):∃fn,P.funcs[g]? =some fn/\fn.body=some c/\(fn.name== "runtime.NumGoroutine")=false/\fn.results=rs.toArray/\fn.ntmps=nt:=by
 unfold uB at h;split at h
 ·rename_i fn hf;split at h
  ·rename_i b hb hn;simp only[aE,ck]at h;obtain⟨rfl,rfl,rfl⟩:=h;exact⟨fn,hF g fn hf,hb,hn,by simp,rfl⟩
  ·cases h
 ·cases h
section
variable {E:Env} {Q:DQ} {N K:Nat} {O:TS} {L:Hp} {all:List Oper} {o:Oper} {r:List Oper} {tl:List (Nat×Oper×TK)} {k:List It} {ns:List (Nat×Nat)} {bad:Nx} {c:fD} {W:List (Nat×List CV)}
theorem DO.BV {rest:List Oper} {j d e:Nat} {want t:Bool} {op:Op} {ty:TypeId} {pos:String} {after:Array Edge} {oj:Oper} (hj:nth all j=some oj) (hjd:oj.dst=some d) (ht:O.get d=some (.d (.v (.bool t))))
  (h1:t=want->DO E N K all (⟨some e,op,ty,pos,after,none⟩::rest) Q O L)
  (h2:t= !want->DO E N K all rest Q (Tr.put 24 O e (some (.d (.v undef)))) L)
  (hd:Nat.blt e N=true):DO E N K all (⟨some e,op,ty,pos,after,some (j,want)⟩::rest) Q O L:=λZ OB LB hs hh=>by
 obtain⟨y,h3,h4⟩:=hs d _ ht;simp only[aG]at h4;subst h4;have hjB:(all.toArray[j]?).bind (·.dst)=some d:=by rw[cw]at hj;simp[hj,hjd]
 have same:∀b,t=b->SS Z O (look ((d,.v (.bool b))::OB)):=λb hb u z hz=>by
  subst hb;obtain⟨q,h5,h6⟩:=hs u z hz;refine⟨q,?_,h6⟩;simp only[look];cases hbq:Nat.beq d u with
  |true=>have:=bC hbq;subst this;rw[h3]at h5;exact h5
  |false=>exact h5
 exact bS.cD hjB h3 (λe=>h1 e Z _ LB (same want e) hh) (λe'=>h2 e' Z _ LB ((same _ e').put (some e) (x:= .d (.v undef)) (y:= .v undef) rfl) hh) hd
theorem UU {t:TypeId} {x:CV} {y:AV} (hx:∃u,x= .bA t u\/∃u',x= .d (.bA t u')) (h:Fk x=some y):(x= .bA t (.d y)\/x= .d (.bA t y))/\nr y=true:=by
 unfold Fk at h;split at h
 ·rename_i t' y';split at h
  ·rename_i hy;cases h;obtain⟨u,hx|⟨u',hx⟩⟩:=hx
   ·cases hx;exact⟨.inl rfl,hy⟩
   ·cases hx
  ·cases h
 ·rename_i t' y';split at h
  ·rename_i hy;cases h;obtain⟨u,hx|⟨u',hx⟩⟩:=hx
   ·cases hx
   ·cases hx;exact⟨.inr rfl,hy⟩
  ·cases h
 ·cases h
theorem AI {t:TypeId} {x:CV} (hx:∃u,x= .bA t u\/∃u',x= .d (.bA t u')) (h:Nx.ok E Q (tn t x k L ns bad)) {A:Prop} (hb:bad.ok E Q->A) (hk:eqs ns->dq E N K k Q (.aM x) .lf L->A):A:=by
 unfold tn at h;split at h
 ·rename_i hp;exact hk h.1 (mf k N K .lf hp h.2)
 ·rename_i N' K' O' dst ty k' hp;split at h
  ·rename_i y ht hy;have ht:=bC ht;subst ht;obtain⟨h1,h2⟩:=UU hx hy;exact hk h.1 (mZ h1 h2 k N K hp h.2)
  ·exact hb h
theorem K7 {R:Type}:∀(A:bM) (O:TS) (k:TS->R),BU A O k=k (wY A O)
 |[],_,_=>rfl
 |p::A,O,k=>by simp only[BU,Tr.dF,wY];exact K7 A _ _
theorem te:∀{fs:List (Nat×List AV×AV)},ki E fs->∀g xs z,oC fs g xs=some z->Pure E.toCx g xs (.ret z)
 |[],_,_,_,_,h=>by simp[oC]at h
 |(g',xs',z')::r,hf,g,xs,z,h=>by
  simp only[oC]at h;split at h
  ·rename_i hB;simp only[bG]at hB;have h1:=bC hB.1;have h2:=pk hB.2;cases h;subst h1;subst h2;exact hf _ SU
  ·exact te (λf hf'=>hf f (by simp[hf'])) g xs z h
theorem LZ {nest:Nat->List AV->Option AV} (hnest:∀g xs z,nest g xs=some z->Pure E.toCx g xs (.ret z)) {x:CV} (h:oy nest O o.op=some (some x)):bm E N o O x:=by
 unfold oy at h;split at h
 ·rename_i f as tys ho;obtain⟨as⟩:=as;split at h
  ·rename_i g cs hc;split at h
   ·rename_i xs hxs;split at h
    ·rename_i z hz;cases h;exactλZ s LB hs=>by
      obtain⟨ys,h1,h2⟩:=qy hs hc;have:=pg hxs h2;subst this;exact⟨z,rfl,bP.pure ho (hnest g _ z hz) h1⟩
    ·cases h
   ·cases h
  ·cases h
 ·cases h
theorem Ub (hfs:ki E c.fs) (hct:∀f ty z,c.ct f=some (ty,z)->rH E f ty z) (hF:∀g x,c.fn g=some x->E.P.funcs[g]? =some x) (h:Nx.ok E Q (EV E.P E.G E.T c N K all o r k O L ns bad)) (hb:bad.ok E Q->eqs ns/\az E N K (.ops all (o::r)::k) Q O L):eqs ns/\az E N K (.ops all (o::r)::k) Q O L:=by
 obtain⟨dst,op,ty,pos,after,gd⟩:=o;unfold EV at h;simp only[N2,N7,N6,N5,N4,N3]at h;simp only[XH,WB,XI]at h;split at h
 ·rename_i j want;split at h
  ·rename_i e oj hj;split at h
   ·rename_i d hjd he;split at h
    ·rename_i t ht;split at h
     ·split at h
      ·exact⟨h.1,DO.BV hj hjd ht (λ_=>h.2) (λe=>by cases e) he⟩
      ·exact⟨h.1,DO.BV hj hjd ht (λ_=>h.2) (λe=>by cases e) he⟩
      ·rw[Tr.dF]at h;exact⟨h.1,DO.BV hj hjd ht (λe=>by cases e) (λ_=>h.2) he⟩
      ·rw[Tr.dF]at h;exact⟨h.1,DO.BV hj hjd ht (λe=>by cases e) (λ_=>h.2) he⟩
     ·simp only[Tr.dF]at h;split at h
      ·exact⟨h.1,DO.N8 hj hjd ht h.2.1 h.2.2 he⟩
      ·exact⟨h.1,DO.N8 hj hjd ht h.2.2 h.2.1 he⟩
    ·rename_i a ha;split at h
     ·rename_i hz;have:a= #[]:=by cases a;simp_all
      subst this;rw[Tr.dF]at h;exact⟨h.1,DO.Fl hj hjd ha h.2 he⟩
     ·exact hb h
    ·exact hb h
   ·exact hb h
  ·exact hb h
 ·split at h
  ·rename_i u hu;split at h
   ·exact hb h
   split at h
   ·rename_i x hx;split at h
    ·rename_i z ns' ms hf;refine jj (P:=Nx.ok E Q) h hb λns1 he h=>?_;rw[Tr.dF]at h;obtain⟨h1,h2⟩:=he h.1;exact⟨h2,DO.cH 60 hx hf h1 h.2⟩
    ·exact hb h
   ·exact hb h
  split at h
  ·rename_i x ns' hv;split at h
   ·exact hb h
   ·rename_i d;split at h
    ·exact hb h
    ·rename_i hd;refine jj (P:=Nx.ok E Q) h hb λns1 he h=>?_;rw[Tr.dF]at h;obtain⟨h1,h2⟩:=he h.1;exact⟨h2,DO.qm rfl hd (wW (o:=⟨some d,op,ty,pos,after,none⟩) hv h1) h.2⟩
  ·rename_i hv;split at h
   ·rename_i x hcs;split at h
    ·exact hb h
    ·rename_i hd;exact⟨h.1,DO.qm rfl hd (λZ s LB hs _=>LZ (o:=⟨dst,op,ty,pos,after,none⟩) (te hfs) hcs Z s LB hs) h.2⟩
   rename_i hnc;clear hnc;split at h
   ·rename_i d x ce hh;simp only[Tr.dF]at h;exact⟨h.1,wZ rfl hh h.2⟩
   ·rename_i i ce ns' hh;refine jj (P:=Nx.ok E Q) h hb λns1 he h=>?_;simp only[Tr.dF]at h;obtain⟨h1,h2⟩:=he h.1;exact⟨h2,wZ rfl hh ⟨h1,h.2⟩⟩
   ·rename_i i d x ce ns' hh;refine jj (P:=Nx.ok E Q) h hb λns1 he h=>?_;simp only[Tr.dF]at h;obtain⟨h1,h2⟩:=he h.1;exact⟨h2,wZ rfl hh ⟨h1,h.2⟩⟩
   ·rename_i t e kk hh;simp only[Tr.dF]at h;exact⟨h.1,wZ rfl hh h.2⟩
   ·rename_i t z ns' ms hh;refine jj (P:=Nx.ok E Q) h hb λns1 he h=>?_;simp only[Tr.dF]at h;obtain⟨h1,h2⟩:=he h.1;exact⟨h2,wZ rfl hh ⟨h1,h.2⟩⟩
   ·split at h
    ·rename_i f as tys;obtain⟨as⟩:=as;split at h
     ·rename_i g cs hc;split at h
      ·exact hb h
      ·split at h
       ·rename_i ty' z hctg;split at h
        ·rename_i x;split at h
         ·rename_i g' fs' cs' hx;split at h
          ·rename_i nt rs b hf;split at h
           ·rename_i hB;simp only[bG]at hB;obtain⟨fn,h1,h2,h3,h4,h5⟩:=AH hF hf;exact⟨h.1,az.ct (hct _ _ _ hctg) hc hx h1 h2 h3 h4 h5 hB.1 hB.2 h.2⟩
           ·exact hb h
          ·exact hb h
         ·exact hb h
        ·exact hb h
       ·split at h
        ·rename_i nt rs b hf;split at h
         ·rename_i hB;simp only[bG]at hB;obtain⟨fn,h1,h2,h3,h4,h5⟩:=AH hF hf;exact⟨h.1,az.inl hc h1 h2 h3 h4 h5 hB.1 hB.2 h.2⟩
         ·exact hb h
        ·exact hb h
     ·exact hb h
    ·rename_i p;split at h
     ·rename_i t y hp;exact AI (N:=N) (K:=K) ⟨y,.inl rfl⟩ h hb λh1 h2=>⟨h1,DO.panic rfl rfl hp h2⟩
     ·rename_i t y hp;exact AI (N:=N) (K:=K) ⟨.d y,.inr ⟨y,rfl⟩⟩ h hb λh1 h2=>⟨h1,DO.Fm rfl rfl hp h2⟩
     ·exact hb h
    ·exact hb h
theorem Uc {A:bM} {nest:Nat->List AV->Option AV} (hnest:∀g xs z,nest g xs=some z->Pure E.toCx g xs (.ret z)) (h:Nx.ok E Q (EW E.P E.G E.T c nest N K all tl A o r W k O L ns bad)) (hb:bad.ok E Q->eqs ns/\az E N K (.lex all tl A (o::r) W::k) Q O L):
  eqs ns/\az E N K (.lex all tl A (o::r) W::k) Q O L:=by
 unfold EW at h;split at h
 ·rename_i hw;split at h
  ·rename_i d hd hf;split at h
   ·rename_i hdN;rw[Tr.dF]at h;refine⟨h.1,ea.skip (by rw[hd];exact hdN) hw hf ?_⟩;rw[hd];exact h.2
   ·exact hb h
  ·exact hb h
 ·rename_i hw;split at h
  ·rename_i d hd hf;split at h
   ·exact hb h
   ·rename_i hdN;have hdst:cx N o.dst=true:=by rw[hd];exact hdN
    split at h
    ·rename_i x ns' hv;refine jj (P:=Nx.ok E Q) h hb λns1 he h=>?_;rw[Tr.dF]at h;obtain⟨h1,h2⟩:=he h.1;refine⟨h2,ea.val hdst hw hf (wW hv h1) ?_⟩;rw[hd];exact h.2
    ·split at h
     ·rename_i t p ho;split at h
      ·rename_i x hp;split at h
       ·rename_i ys _ hy;rw[Tr.dF]at h;refine⟨h.1,ea.val hdst hw hf (ba.PW (cells:=ys) λZ s LB hs hh=>?_) (by rw[hd];exact h.2)⟩;obtain⟨cs,h1,h2⟩:=Bo ho hp Z s LB hs hh;have:=pg hy h1;subst this;exact⟨cs,ir _,h2⟩
       ·rw[Tr.dF]at h;exact⟨h.1,ea.new hd hdN hw hf (Bo ho hp) h.2⟩
      ·exact hb h
     ·rename_i t ho;split at h
      ·rename_i _ _ _ z ht;split at h
       ·rw[Tr.dF]at h;refine⟨h.1,ea.val hdst hw hf (ba.PW (cells:=z.map .v) (AJ ho ht)) (by rw[hd];exact h.2)⟩
       ·rw[Tr.dF]at h;exact⟨h.1,ea.new hd hdN hw hf (AJ ho ht) h.2⟩
      ·exact hb h
     ·rename_i t n parts ho;split at h
      ·rename_i e kk _ _ _ ht;split at h
       ·rename_i _ _ _ z' hte;split at h
        ·rename_i cells hfi;split at h
         ·rename_i hB;simp only[bG]at hB;rw[Tr.dF]at h;exact⟨h.1,ea.val hdst hw hf (ba.lit ho ht hte hfi hB.1 hB.2) (by rw[hd];exact h.2)⟩
         ·exact hb h
        ·exact hb h
       ·exact hb h
      ·exact hb h
     ·rename_i f as tys ho;obtain⟨as⟩:=as;split at h
      ·rename_i g cs hc;split at h
       ·exact hb h
       ·split at h
        ·rename_i xs ns' ms hfz;split at h
         ·rename_i z hz;split at h
          ·refine jj (P:=Nx.ok E Q) h hb λns1 he h=>?_;rw[Tr.dF]at h;obtain⟨h1,h2⟩:=he h.1;exact⟨h2,ea.val hdst hw hf (ba.pure 60 ho (hnest g xs z hz) hc hfz h1 (b7.refl xs) (.inl rfl)) (by rw[hd];exact h.2)⟩
          ·split at h
           ·rename_i hrf;refine jj (P:=Nx.ok E Q) h hb λns1 he h=>?_;rw[Tr.dF]at h;obtain⟨h1,h2⟩:=he h.1;exact⟨h2,ea.val hdst hw hf (ba.pure 60 ho (hnest g xs z hz) hc hfz h1 (b7.refl xs) (.inr hrf)) (by rw[hd];exact h.2)⟩
           ·exact hb h
         ·exact hb h
        ·exact hb h
      ·exact hb h
     ·exact hb h
  ·exact hb h
 ·split at h
  ·rename_i j want hg;split at h
   ·rename_i d hd;split at h
    ·rename_i t ht;split at h
     ·exact hb h
     ·simp only[Tr.dF]at h;exact⟨h.1,ea.guard ht h.2.1 h.2.2⟩
    ·exact hb h
   ·exact hb h
  ·exact hb h
theorem EX:∀{ns:List (Nat×Nat)},(ns.all λp=>Nat.beq p.1 p.2)=true->eqs ns
 |[],_=>trivial
 |p::r,h=>by simp only[kx,bG]at h;exact⟨bC h.1,EX h.2⟩
theorem dZ {cl:Bool} {x:CV} {ns:List (Nat×Nat)} (h:Cu E.P E.G E.T cl O L o.op=some (x,ns)) (hn:eqs ns):ba E N o O L x:=by
 unfold Cu at h;split at h
 ·rename_i p hp;simp only[aE]at h;subst h;exact wW hp hn
 ·split at h
  ·rename_i t n parts ho;split at h
   ·rename_i e kk _ _ _ ht;split at h
    ·rename_i _ _ _ z' hte;split at h
     ·rename_i cells hfi;split at h
      ·rename_i hB;simp only[bG]at hB;simp only[aE,ck]at h;obtain⟨rfl,rfl⟩:=h;exact ba.lit ho ht hte hfi hB.1 hB.2
      ·cases h
     ·cases h
    ·cases h
   ·cases h
  ·cases h
theorem WC {nest:Nat->List AV->Option AV} (hnest:∀g xs z,nest g xs=some z->Pure E.toCx g xs (.ret z)) {cl:Bool} {x:CV} {ns:List (Nat×Nat)} (h:Hc E.P E.G E.T nest cl O L o.op=some (x,ns)) (hn:eqs ns):ba E N o O L x:=by
 unfold Hc at h;split at h
 ·rename_i p hp;simp only[aE]at h;subst h;exact dZ hp hn
 ·split at h
  ·rename_i f as tys ho;obtain⟨as⟩:=as;split at h
   ·rename_i g cs hc;split at h
    ·rename_i xs ns' ms hfz;split at h
     ·rename_i z hz;split at h
      ·simp only[aE,ck]at h;obtain⟨rfl,rfl⟩:=h;exact ba.pure 60 ho (hnest g xs z hz) hc hfz hn (b7.refl xs) (.inl rfl)
      ·split at h
       ·rename_i hrf;simp only[aE,ck]at h;obtain⟨rfl,rfl⟩:=h;exact ba.pure 60 ho (hnest g xs z hz) hc hfz hn (b7.refl xs) (.inr hrf)
       ·cases h
     ·cases h
    ·cases h
   ·cases h
  ·cases h
theorem wm {nest:Nat->List AV->Option AV} (hnest:∀g xs z,nest g xs=some z->Pure E.toCx g xs (.ret z)) {cl:Bool}:∀{pend:List (Nat×Oper×CV)},rC E.P E.G E.T nest cl all O L pend=true->aF E N all pend O L
 |[],_=>λp hp=>by cases hp
 |(i,o,x)::r,h=>by
  have key:xG E N all o O L x->aF E N all r O L->aF E N all ((i,o,x)::r) O L:=λh1 h2 p hp=>by
   rcases cu.1 hp with rfl|hp
   ·exact h1
   ·exact h2 p hp
  simp only[rC]at h;split at h
  ·cases h
  ·split at h
   ·rename_i hw;split at h
    ·rename_i y ns hv;split at h
     ·rename_i hB;simp only[bG]at hB;have:=EY hB.1;subst this;exact key (.inl ⟨hw,WC hnest hv (EX hB.2)⟩) (wm hnest h)
     ·cases h
    ·cases h
   ·rename_i hw;split at h
    ·split at h
     ·rename_i a _ ha;have:a= #[]:=by cases a;simp_all
      subst this;exact key (.inr ⟨hw,rfl⟩) (wm hnest h)
     ·cases h
    ·cases h
   ·cases h
theorem WD {cl:Bool} {x:CV} (h:Hd E.P E.G E.T cl O o.op=some x):bm E N o O x:=by
 unfold Hd at h;simp only[MD,ME,Ps,Pt,Pv,Pw,Px]at h;split at h
 ·rename_i y hy;cases h;exactλZ s LB hs=>⟨y,rfl,(bP.cB hy).mono λ_ _ _ hy=>kL hs hy⟩
 ·split at h
  ·rename_i y hy;cases h;exactλZ s LB hs=>by
    obtain⟨y,h1,h2⟩:=MF hs hy;exact⟨y,h2,bP.cB h1⟩
  ·split at h
   ·rename_i y hy;cases h;exactλZ s LB hs=>⟨y,rfl,(bP.lN hy).mono λ_ _ _ hy=>kL hs hy⟩
   ·split at h
    ·cases h
    ·split at h
     ·rename_i y hy;cases h;exactλZ s LB hs=>⟨y,rfl,(bP.ec hy).mono λ_ _ _ hy=>kL hs hy⟩
     ·split at h
      ·rename_i y hy;cases h;exactλZ s LB hs=>⟨y,rfl,(bP.fP hy).mono λ_ _ _ hy=>kL hs hy⟩
      ·cases h
theorem VH {nest:Nat->List AV->Option AV} (hnest:∀g xs z,nest g xs=some z->Pure E.toCx g xs (.ret z)) {z:AV} {ns':List (Nat×Nat)} {g:Nat} {xs:List AV} (h:kP nest O L o.op=some (z,ns',g,xs)) (hn:eqs ns'):ba E N o O L (.d z)/\Pure E.toCx g xs (.ret z):=by
 unfold kP at h;split at h
 ·rename_i f as tys ho;obtain⟨as⟩:=as;split at h
  ·rename_i g' cs hc;split at h
   ·rename_i xs' ns2 ms hfz;split at h
    ·rename_i z' hz;split at h
     ·simp only[aE,ck]at h;obtain⟨rfl,rfl,rfl,rfl⟩:=h;exact⟨ba.pure 60 ho (hnest _ _ _ hz) hc hfz hn (b7.refl _) (.inl rfl),hnest _ _ _ hz⟩
     ·split at h
      ·rename_i hrf;simp only[aE,ck]at h;obtain⟨rfl,rfl,rfl,rfl⟩:=h;exact⟨ba.pure 60 ho (hnest _ _ _ hz) hc hfz hn (b7.refl _) (.inr hrf),hnest _ _ _ hz⟩
      ·cases h
    ·cases h
   ·cases h
  ·cases h
 ·cases h
theorem K6 {nest:Nat->List AV->Option AV} (hnest:∀g xs z,nest g xs=some z->Pure E.toCx g xs (.ret z)) (hF:∀g x,c.fn g=some x->E.P.funcs[g]? =some x) {l:List (Nat×Oper×TK)} {A:bM} {pend:List (Nat×Oper×CV)} {fs:List (Nat×List AV×AV)} (hp:ki E fs->aF E N all pend O L) (h:Nx.ok E Q (wX E.P E.G E.T c nest N K all l A pend fs k O L ns bad)) (hb:bad.ok E Q->eqs ns/\az E N K (.tl all l A pend fs::k) Q O L):
  eqs ns/\az E N K (.tl all l A pend fs::k) Q O L:=by
 unfold wX at h;split at h
 ·exact⟨h.1,λhf=>cA.nil (hp hf) h.2⟩
 ·exact hb h
 ·rename_i i o j o' _ l;split at h
  ·rename_i hcl hw hw';split at h
   ·rename_i a ca b cb hpr;split at h
    ·rename_i hB;simp only[bG]at hB;simp only[Tr.dF]at h;obtain⟨g1,g2,g3,g4,g5,g6⟩:=VI hpr;exact⟨h.1,λhf=>cA.pair (hp hf) g1 g2 hw hw' g3 (wm (te hf) hB.1) g4 g5 (wm (te hf) hB.2) g6 (h.2 hf)⟩
    ·exact hb h
   ·exact hb h
  ·exact hb h
 ·rename_i i o l;split at h
  ·exact hb h
  ·rename_i hd;split at h
   ·rename_i hw;exact⟨h.1,λhf=>cA.st (hp hf) hd (.inr ⟨hw,rfl⟩) (h.2 hf)⟩
   ·rename_i hw;split at h
    ·rename_i x hv;exact⟨h.1,λhf=>cA.st (hp hf) hd (.inl ⟨hw,WD hv⟩) (h.2 hf)⟩
    ·split at h
     ·exact hb h
     ·rename_i x hv;exact⟨h.1,λhf=>cA.st (hp hf) hd (.inl ⟨hw,LZ hnest hv⟩) (h.2 hf)⟩
     ·split at h
      ·rename_i x ns' hv;refine jj (P:=Nx.ok E Q) h hb λns1 he h=>?_;obtain⟨h1,h2⟩:=he h.1;exact⟨h2,λhf=>cA.fl (hp hf) hd (.inl ⟨hw,dZ hv h1⟩) (h.2 hf)⟩
      ·split at h
       ·rename_i z ns' g xs hv;refine jj (P:=Nx.ok E Q) h hb λns1 he h=>?_;obtain⟨h1,h2⟩:=he h.1;obtain⟨q1,q2⟩:=VH hnest hv h1;exact⟨h2,λhf=>cA.fl (hp hf) hd (.inl ⟨hw,q1⟩) (h.2 λf hm=>(cu.1 hm).elim (λe=>by subst e;exact q2) (hf f))⟩
       ·exact hb h
   ·exact hb h
 ·rename_i i o l;split at h
  ·rename_i hnd hd;rw[Ey]at h;obtain⟨O1,η1,cz⟩:∃O1 η1,eU (dH (b8 all.toArray i A)) O L=(O1,η1):=⟨_,_,rfl⟩;rw[cz]at h;simp only at h;split at h
   ·rename_i hw;refine⟨h.1,λhf=>cA.skip (hp hf) hnd hd (by rw[cz];exact hw) ?_⟩;rw[cz];exact h.2 hf
   ·rename_i hw;split at h
    ·rename_i x ns' hv;refine jj (P:=Nx.ok E Q) h hb λns1 he h=>?_;obtain⟨h1,h2⟩:=he h.1;exact⟨h2,λhf=>cA.oN (hp hf) hnd hd cz hw (bL.val (wW hv h1)) (λy L' hr=>by obtain⟨e1,rfl⟩:=hr;cases e1;exact h.2 hf) (λy L' hr=>by obtain⟨e1,_⟩:=hr;cases e1)⟩
    ·rename_i hv;split at h
     ·rename_i d x ce L2 ns' hh;refine jj (P:=Nx.ok E Q) h hb λns1 he h=>?_;rw[Tr.dF]at h;obtain⟨h1,h2⟩:=he h.1;exact⟨h2,λhf=>cA.oN (hp hf) hnd hd cz hw (vZ hh h1) (λy L' hr=>by obtain⟨e1,rfl⟩:=hr;cases e1;exact h.2 hf) (λy L' hr=>by obtain⟨e1,_⟩:=hr;cases e1)⟩
     ·rename_i j ce ns2 L2 ns' hh;refine jj (P:=Nx.ok E Q) h hb λns1 he h=>?_;rw[Tr.dF]at h;obtain⟨h1,h2⟩:=he h.1;exact⟨h2,λhf=>cA.oN (hp hf) hnd hd cz hw (vZ hh h1) (λy L' hr=>by obtain⟨e1,rfl⟩:=hr;cases e1;exact h.2 hf) (λy L' hr=>by obtain⟨e1,_⟩:=hr;cases e1)⟩
     ·rename_i j d x ce ns2 L2 ns' hh;refine jj (P:=Nx.ok E Q) h hb λns1 he h=>?_;rw[Tr.dF]at h;obtain⟨h1,h2⟩:=he h.1;exact⟨h2,λhf=>cA.oN (hp hf) hnd hd cz hw (vZ hh h1) (λy L' hr=>by obtain⟨e1,rfl⟩:=hr;cases e1;exact h.2 hf) (λy L' hr=>by obtain⟨e1,_⟩:=hr;cases e1)⟩
     ·exact hb h
     ·split at h
      ·rename_i f as tys ho;obtain⟨as⟩:=as;split at h
       ·rename_i g cs hc;split at h
        ·exact hb h
        ·split at h
         ·rename_i nt rs b hf;split at h
          ·rename_i hB;obtain⟨fn,h1,h2,h3,h4,h5⟩:=AH hF hf;exact⟨h.1,az.fV ho hp hnd cz hw hc h1 h2 h3 h4 h5 hB hd h.2⟩
          ·exact hb h
         ·exact hb h
       ·exact hb h
      ·rename_i p ho;split at h
       ·rename_i t y hpp;exact AI (N:=N) (K:=K) ⟨y,.inl rfl⟩ h hb λh1 h2=>⟨h1,λhf=>cA.oN (hp hf) hnd hd cz hw (bL.panic ho hpp) (λy L' hr=>by obtain⟨e1,_⟩:=hr;cases e1) (λy L' hr=>by obtain⟨e1,rfl⟩:=hr;cases e1;exact h2)⟩
       ·rename_i t y hpp;exact AI (N:=N) (K:=K) ⟨.d y,.inr ⟨y,rfl⟩⟩ h hb λh1 h2=>⟨h1,λhf=>cA.oN (hp hf) hnd hd cz hw (bL.Fm ho hpp) (λy L' hr=>by obtain⟨e1,_⟩:=hr;cases e1) (λy L' hr=>by obtain⟨e1,rfl⟩:=hr;cases e1;exact h2)⟩
       ·exact hb h
      ·exact hb h
   ·exact hb h
  ·exact hb h
theorem bV.scope {C:Cx} {N:Nat} {c:Code} {Q:AQ} {O:Sg} {L:List au} (h:bV C N c Q O L):bV C N (.scope c) Q O L:=λF w0 η0 a w hs hx=>wp_scope_straight (wp_mono (h F w0 η0 a w hs hx) λe a' w' hq=>by
 obtain⟨e0,O',L',h1,h2,h3⟩:=hq;cases e0 with
 |norm=>simp only[AE.rel]at h2;subst h2;exact⟨.norm,O',L',h1,rfl,h3⟩
 |exit i=>simp only[AE.rel]at h2;subst h2;exact⟨.exit i,O',L',h1,rfl,h3⟩
 |ret=>simp only[AE.rel]at h2;subst h2;exact⟨.ret,O',L',h1,rfl,h3⟩
 |aM x=>obtain⟨v,rfl,h2⟩:=h2;exact⟨.aM x,O',L',h1,⟨v,rfl,h2⟩,h3⟩)
theorem DC.scope {c:Code} {O:TS} {L:Hp} (h:DC E N K c Q O L):DC E N K (.scope c) Q O L:=λZ OB LB hs hh=>bV.scope (h Z OB LB hs hh)
theorem TM (hm:E.P.follows .mixedOrders=true) {fl:Nat} {b:Code} (h:Nx.ok E Q (Ex E.T c fl N K b k O L ns bad)) (hb:bad.ok E Q->eqs ns/\az E N K (.code b::k) Q O L):eqs ns/\az E N K (.code b::k) Q O L:=by
 unfold Ex at h;split at h
 ·exact⟨h.1,DC.skip h.2⟩
 ·exact⟨h.1,DC.label h.2⟩
 ·rename_i x y;refine⟨h.1,DC.seq ?_⟩;rw[WE];exact h.2
 ·rename_i i x;refine⟨h.1,DC.block ?_⟩;rw[XJ];exact h.2
 ·rename_i id ops d;obtain⟨ops⟩:=ops;split at h
  ·exact⟨h.1,DC.region h.2⟩
  split at h
  ·rename_i u hu;split at h
   ·rename_i x hx;split at h
    ·rename_i z ns' ms hf;refine jj (P:=Nx.ok E Q) h hb λns1 he h=>?_;rw[Tr.dF]at h;obtain⟨h1,h2⟩:=he h.1;exact⟨h2,DC.cH 60 hx hf h1 h.2⟩
    ·exact hb h
   ·exact hb h
  ·split at h;rename_i pre tl al hp;split at h
   ·exact hb h
   ·rename_i A hA;split at h
    ·rename_i hB;simp only[bG]at hB;exact⟨h.1,DC.open pre tl al A hm hA hB.1 hB.2 h.2⟩
    ·exact hb h
 ·rename_i i;split at h
  ·rename_i k' hk;refine⟨h.1,DC.exit ?_⟩;rw[pv hk];exact h.2
  ·exact hb h
 ·split at h
  ·rename_i hk;refine⟨h.1,DC.ret ?_⟩;rw[nw,hk];exact h.2
  ·rename_i N' K' O' dst rs k' hk;refine⟨h.1,DC.ret ?_⟩;rw[nw,hk];exact h.2
  ·rename_i N' K' O' dst rs ty z k' hk;refine⟨h.1,DC.ret ?_⟩;rw[nw,hk];exact h.2
  ·exact hb h
 ·exact⟨h.1,DC.scope h.2⟩
 ·rename_i t x y;split at h
  ·rename_i v hv;split at h
   ·split at h
    ·exact⟨h.1,DC.cond hv (λ_=>h.2) (λe=>by cases e)⟩
    ·exact⟨h.1,DC.cond hv (λe=>by cases e) (λ_=>h.2)⟩
   ·simp only[Tr.dF]at h;exact⟨h.1,DC.Zy hv h.2.1 h.2.2⟩
  ·exact hb h
 ·rename_i v x y;split at h
  ·exact⟨h.1,DC.cond (t:=true) rfl (λ_=>h.2) (λe=>by cases e)⟩
  ·exact⟨h.1,DC.cond (t:=false) rfl (λe=>by cases e) (λ_=>h.2)⟩
 ·rename_i x;split at h
  ·refine⟨h.1,DC.rounds (fl+1) ?_⟩;show DC E N K x (DE.then (pw E N K x (dq E N K k Q) fl) (dq E N K k Q)) O L;rw[N9];exact h.2
  ·exact hb h
 ·exact hb h
theorem Mz (hm:E.P.follows .mixedOrders=true) (hfs:ki E c.fs) (hct:∀f ty z,c.ct f=some (ty,z)->rH E f ty z) (hF:∀g x,c.fn g=some x->E.P.funcs[g]? =some x) {nest:Nat->List AV->Option AV} (hnest:∀g xs z,nest g xs=some z->Pure E.toCx g xs (.ret z)) {fl:Nat} {todo:List It} (h:Nx.ok E Q (step E.P E.G E.T c nest fl N K todo O L ns)):eqs ns/\az E N K todo Q O L:=by
 unfold step at h;have hb:Nx.ok E Q (.out (.stuck N K todo O L ns))->eqs ns/\az E N K todo Q O L:=λh=>h;revert hb;generalize Nx.out (.stuck N K todo O L ns)=bad at h;intro hb;rcases todo with _|⟨it,k⟩
 ·exact h
 cases it with
 |oO i=>exact h
 |lp n=>exact hb h
 |nS m b=>
  cases m with
  |zero=>exact hb h
  |succ m'=>
   refine⟨h.1,?_⟩;show pw E N K _ (dq E N K _ Q) (m'+1) O L;show DC E N K _ (DE.then (pw E N K _ (dq E N K _ Q) m') (dq E N K _ Q)) O L;rw[N9];exact h.2
 |fr N' K' O' dst rs=>
  unfold xr at h;simp only at h;split at h
  ·exact hb h
  ·rename_i xs hx;split at h
   ·exact⟨h.1,xs,hx,h.2⟩
   ·rw[Tr.dF]at h;exact⟨h.1,xs,hx,h.2⟩
 |ct N' K' O' dst rs ty z=>
  unfold xr at h;simp only at h;split at h
  ·exact hb h
  ·rename_i xs hx;exact⟨h.1,xs,hx,h.2⟩
 |ops all l=>
  cases l with
  |nil=>exact⟨h.1,DO.nil h.2⟩
  |cons o r=>exact Ub hfs hct hF h hb
 |lex all tl A pre W=>
  cases pre with
  |nil=>
   unfold xr at h;simp only at h;split at h
   ·rename_i hnd;rw[Ey,K7]at h;exact⟨h.1,ea.nil hnd (h.2 λf hf=>by cases hf)⟩
   ·exact hb h
  |cons o r=>exact Uc hnest h hb
 |tl all l A pend fs=>
  unfold xr at h;simp only at h;split at h
  ·rename_i hp;exact K6 hnest hF (λhf=>wm (te hf) hp) h hb
  ·exact hb h
 |code b=>exact TM hm h hb
end
def PX (T:bQ) (rs:List ResultVar):Out->Option AV
 | .fin .ret O L []=>match ei T O L rs with
  |some xs=>match cd L.e 60 [fe xs]with
   |some ([z],ns,_)=>match ns.all λp=>Nat.beq p.1 p.2 with
    |true=>some z
    |false=>none
   |_=>none
  |none=>none
 | .fin .norm O L []=>match ei T O L rs with
  |some xs=>match cd L.e 60 [fe xs]with
   |some ([z],ns,_)=>match ns.all λp=>Nat.beq p.1 p.2 with
    |true=>some z
    |false=>none
   |_=>none
  |none=>none
 |_=>none
def uC (F:Nat->Option Func) (T:bQ) (run:Nat->Nat->List It->TS->Hp->List (Nat×Nat)->Out) (g:Nat) (xs:List AV):Option AV:=match uB F g with
 |some (nt,rs,b)=>match Nat.ble xs.length nt with
  |true=>PX T rs (run nt 0 [.code b] (iz 0 (xs.map .d)) Hp.nil [])
  |false=>none
 |none=>none
def Ch (fs:List (Nat×List AV×AV)) (nest:Nat->List AV->Option AV) (g:Nat) (xs:List AV):Option AV:=match oC fs g xs with
 |some z=>some z
 |none=>nest g xs
def dx (P:Program) (G:Gl) (T:bQ) (c:fD):Nat->Nat->Nat->List It->TS->Hp->List (Nat×Nat)->Out
 |0,N,K,todo,O,L,ns=> .stuck N K todo O L ns
 |f+1,N,K,todo,O,L,ns=>match step P G T c (Ch c.fs (uC c.fn T (dx P G T c f))) f N K todo O L ns with
  | .go N' K' todo' O' L' ns'=>dx P G T c f N' K' todo' O' L' ns'
  | .out o=>o
section
variable {E:Env}
theorem L0 {F:Nat->Option Func} (hF:∀g x,F g=some x->E.P.funcs[g]? =some x) {run:Nat->Nat->List It->TS->Hp->List (Nat×Nat)->Out} (hr:∀(Q:DQ) N K todo O L ns,Out.ok E Q (run N K todo O L ns)->eqs ns/\az E N K todo Q O L) {g:Nat} {xs:List AV} {z:AV} (h:uC F E.T run g xs=some z):Pure E.toCx g xs (.ret z):=by
 unfold uC at h;split at h
 ·rename_i nt rs b hf;obtain⟨fn,h1,h2,h3,h4,h5⟩:=AH hF hf;split at h
  ·rename_i hle;refine Pure.Rw 60 (fA.enter h1 h2 h3 rs h4 nt h5 (by simpa using hle) ?_);have key:∀{O':TS} {L':Hp} {xs':List CV} {ns1:List (Nat×Nat)} {ms1:List (Nat×bl)} {z':AV},ei E.T O' L' rs=some xs'->cd L'.e 60 [fe xs']=some ([z'],ns1,ms1)->(ns1.all λp=>Nat.beq p.1 p.2)=true->some z'=some z->
     ∃ys,ei E.T O' L' rs=some ys/\Ends 60 (.ret z) (.ret (fe ys)) L':=by
    intro O' L' xs' ns1 ms1 z' g1 g2 g3 g4;cases g4;exact⟨xs',g1,z,ns1,ms1,g2,EX g3,z,rfl,bX.refl z⟩
   have:=hr (RD E.T rs (Ends 60 (.ret z))) nt 0 [.code b] (iz 0 (xs.map .d)) Hp.nil [];revert h this;generalize run nt 0 [.code b] (iz 0 (xs.map .d)) Hp.nil []=out;intro h hr';refine(hr' ?_).2;unfold PX at h;split at h
   ·split at h
    ·rename_i xs' g1;split at h
     ·rename_i z' ns1 ms1 g2;split at h
      ·rename_i g3;exact⟨trivial,key g1 g2 g3 h⟩
      ·cases h
     ·cases h
    ·cases h
   ·split at h
    ·rename_i xs' g1;split at h
     ·rename_i z' ns1 ms1 g2;split at h
      ·rename_i g3;exact⟨trivial,key g1 g2 g3 h⟩
      ·cases h
     ·cases h
    ·cases h
   ·cases h
  ·cases h
 ·cases h
theorem GB (hm:E.P.follows .mixedOrders=true) (c:fD) (hfs:ki E c.fs) (hct:∀f ty z,c.ct f=some (ty,z)->rH E f ty z) (hF:∀g x,c.fn g=some x->E.P.funcs[g]? =some x):∀(f:Nat) (Q:DQ) (N K:Nat) (todo:List It) (O:TS) (L:Hp) (ns:List (Nat×Nat)),Out.ok E Q (dx E.P E.G E.T c f N K todo O L ns)->eqs ns/\az E N K todo Q O L
 |0,_,_,_,_,_,_,_,h=>h
 |f+1,Q,N,K,todo,O,L,ns,h=>by
  have ih:=GB hm c hfs hct hF f;refine Mz (c:=c) (fl:=f) hm hfs hct hF (nest:=Ch c.fs (uC c.fn E.T (dx E.P E.G E.T c f))) (λg xs z hz=>?_) ?_
  ·unfold Ch at hz;split at hz
   ·rename_i z' hl;cases hz;exact te hfs g xs z hl
   ·exact L0 hF (λQ N K todo O L ns=>ih Q N K todo O L ns) hz
  unfold dx at h;revert h;generalize step E.P E.G E.T c (Ch c.fs (uC c.fn E.T (dx E.P E.G E.T c f))) f N K todo O L ns=nx;intro h;cases nx with
  |go N' K' todo' O' L' ns'=>exact ih Q N' K' todo' O' L' ns' h
  |out o=>exact h
def cY (P:Program) (G:Gl) (T:bQ) (c:fD) (f:Nat) (g:Nat) (xs:List AV):Option AV:=uC c.fn T (dx P G T c f) g xs
theorem Wv (hm:E.P.follows .mixedOrders=true) {c:fD} (hfs:ki E c.fs) (hct:∀f ty z,c.ct f=some (ty,z)->rH E f ty z) (hF:∀g x,c.fn g=some x->E.P.funcs[g]? =some x) {f g:Nat} {xs:List AV} {z:AV} (h:cY E.P E.G E.T c f g xs=some z):Pure E.toCx g xs (.ret z):=L0 hF (GB hm c hfs hct hF f) h
