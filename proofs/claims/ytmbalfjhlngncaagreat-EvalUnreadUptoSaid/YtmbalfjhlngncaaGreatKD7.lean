/- The abstract machine, seventh part: many steps at once; a run from beginning to end. -/
import Derived.Test.YtmbalfjhlngncaaGreatKD6
set_option linter.all false
noncomputable section
namespace Go.Bw
open Go
def Uc (m:List Nat):List Edge->Nat
 |[]=>0
 |e::r=>Nat.lor (Uc m r) (Nat.lor (Nat.shiftLeft 1 e.on) ((nth m e.on).getD 0))
def UB:List Oper->List Nat->List Nat
 |[],m=>m
 |o::r,m=>UB r (m++[Uc m (o.after.toList.filter λe=>Region.binds .any e)])
def UC (imp:Nat->Bool):Op->Bool
 | .store _ _ _=>true
 | .makeSlice _ _ _=>true
 | .mapUpdate _ _ _ _=>true
 | .makeMap _ _=>true
 | .panic _=>true
 | .defer _=>true
 | .range _ _=>true
 | .next _ _=>true
 | .entry _=>true
 | .call c=>match c.callee with
  | .builtin .append=>true
  | .builtin .len=>false
  | .builtin _=>true
  | .value (.func g)=>imp g
  | .value _=>true
  | .invoke _ _=>true
 |_=>false
def Ec (d:Nat):List Oper->Bool
 |[]=>false
 |o::r=>match o.op with
  | .call {callee:= .builtin .append,args:=as,argTypes:=_}=>match as.toList with
   | .tmp t::_=>match Nat.beq t d with
    |true=>true
    |false=>Ec d r
   |_=>Ec d r
  |_=>Ec d r
def IL (all:List Oper) (o:Oper):Bool:=match o.op,o.dst with
 | .buildSlice _ _ _,some d=>Ec d all
 |_,_=>false
def IM (imp:Nat->Bool) (all:List Oper):Nat->List Oper->List Nat
 |_,[]=>[]
 |i,o::r=>match UC imp o.op||IL all o with
  |true=>i::IM imp all (i+1) r
  |false=>IM imp all (i+1) r
def Ud (m:List Nat):Nat->Nat->List Nat->List Nat
 |0,_,t=>t
 |f+1,n,t=>
  let new:=(List.range n).filter λi=>!t.contains i&&t.any λj=>!Nat.testBit ((nth m j).getD 0) i
  match new with
  |[]=>t
  |_::_=>Ud m f n (t++new)
def SU (imp:Nat->Bool) (o:Oper):Bool:=match o.op with
 | .box _ _=>false
 | .alloc _=>false
 | .call c=>match c.callee with
  | .builtin .len=>true
  | .value (.func g)=>!imp g
  | .value _=>false
  |_=>false
 |op=>!UC imp op
def aeS (imp:Nat->Bool) (ops:List Oper):List Nat×List (Nat×TK):=
 let t:=Ud (UB ops []) 60 ops.length (IM imp ops 0 ops)
 ((List.range ops.length).filter λi=>!t.contains i,((List.range ops.length).filter λi=>t.contains i).map λi=>(i,match nth ops i with
  |some o=>match SU imp o&& !IL ops o with
   |true=> .fl
   |false=> .one
  |none=> .one))
def alB (o:Oper):Bool:=match o.op,o.dst,o.guard with
 | .alloc _,some _,none=>o.after.all λe=>!Region.binds .any e
 |_,_,_=>false
def D2 (imp:Nat->Bool) (ops:Array Oper):Nat->Array Bool->List (Nat×TK)
 |0,_=>[]
 |f+1,listed=>match Region.ready .any ops listed with
  |[]=>[]
  |i::r=>match(i::r).find? λi=>match ops[i]? with
    |some o=>SU imp o&& !IL ops.toList o
    |none=>false with
   |some j=>(j,.fl)::D2 imp ops f (listed.setIfInBounds j true)
   |none=>match r with
    |[]=>(i,.one)::D2 imp ops f (listed.setIfInBounds i true)
    |[j]=>(i,.two)::(j,.one)::D2 imp ops f ((listed.setIfInBounds i true).setIfInBounds j true)
    |_=>[]
def E0:Nat->List Oper->List Nat
 |_,[]=>[]
 |i,o::r=>match alB o with
  |true=>i::E0 (i+1) r
  |false=>E0 (i+1) r
def aeT (imp:Nat->Bool) (ops:List Oper):List Nat×List (Nat×TK)×List Nat:=match aeS imp ops with
 |(pre,tl)=>match oY ops.toArray pre tl []with
  |true=>(pre,tl,[])
  |false=>([],D2 imp ops.toArray ops.length (kq (E0 0 ops) (Array.replicate ops.length false)),E0 0 ops)
inductive Out where
 |stuck (N K:Nat) (todo:List It) (Z:TS) (O:Hp) (ns:List (Nat×Nat))
 |cond (b:Bool) (N K:Nat) (t1:List It) (s1:TS) (t2:List It) (s2:TS) (O:Hp) (ns:List (Nat×Nat))
 |fin (e:DE) (Z:TS) (O:Hp) (ns:List (Nat×Nat))
inductive Nx where
 |go (N K:Nat) (todo:List It) (Z:TS) (O:Hp) (ns:List (Nat×Nat))
 |out (o:Out)
def Out.ok (E:Env) (Q:DQ):Out->Prop
 | .stuck N K todo Z O ns=>eqs ns/\ak E N K todo Q Z O
 | .cond b N K t1 s1 t2 s2 O ns=>eqs ns/\(b=true->ak E N K t1 Q s1 O)/\(b=false->ak E N K t2 Q s2 O)
 | .fin e Z O ns=>eqs ns/\Q e Z O
def Nx.ok (E:Env) (Q:DQ):Nx->Prop
 | .go N K todo Z O ns=>eqs ns/\ak E N K todo Q Z O
 | .out o=>o.ok E Q
structure gR where
 cl:Bool
 inl:Nat->Bool
 imp:Nat->Bool
 own:Nat->Bool
 fn:Nat->Option Func
 ct:Nat->Option (TypeId×AV)
 fs:List (Nat×List AV×AV)
def uH (F:Nat->Option Func) (g:FuncId):Option (Nat×List ResultVar×Code):=match F g with
 |some fn=>match fn.body,(fn.name== "runtime.NumGoroutine")with
  |some c,false=>some (fn.ntmps,fn.results.toList,c)
  |_,_=>none
 |none=>none
def iB {R:Type} (cl:Bool) (ns' ns:List (Nat×Nat)) (bad:R) (k:List (Nat×Nat)->R):R:=match cl with
 |false=>k (ns'++ns)
 |true=>match ns'.all λp=>Nat.beq p.1 p.2 with
  |true=>k ns
  |false=>bad
def SX (d:Nat) (l:List Oper):Bool:=l.any λo=>o.op.operands.toList.any λ
 | .tmp t=>Nat.beq t d
 |_=>false
def uF {R:Type}:Nat->Nat->Nat->(Nat->R)->R
 |0,n,acc,k=>k (n+acc)
 |f+1,n,acc,k=>match n with
  |0=>k acc
  |m+1=>uF f m (acc+1) k
theorem CG {R:Type} (k:Nat->R):∀(f n acc:Nat),uF f n acc k=k (n+acc)
 |0,_,_=>rfl
 |f+1,0,acc=>by rw[lB];rfl
 |f+1,m+1,acc=>by
  have:=CG k f m (acc+1);rw[show m+1+acc=m+(acc+1)by omega,<-this];rfl
def xX {R:Type}:List (Nat×List CV)->TS->Hp->(TS->Hp->R)->R
 |[],Z,O,k=>k Z O
 |(d,cs)::r,Z,O,k=>match O with
  |⟨e,m⟩=>uF 1000 m 0 λn=>Tr.cN 24 Z d (some (.own n 0)) λZ'=>Tr.cN 24 e n (some (.box cs)) λe'=>xX r Z' ⟨e',n+1⟩ k
def preB (Z:TS):Op->Option Nat
 | .build _ parts=>Ht Z parts.toList
 | .slice _ (.tmp u) _ _ _=>match Z.get u with
  |some (.os _ _)=>some u
  |_=>none
 | .convert _ _ (.tmp u)=>match Z.get u with
  |some (.os _ _)=>some u
  |_=>none
 |_=>none
def afm (o:Oper):List Oper->Bool
 |o2::_=>match o.dst,o2.op with
  |some d,.call {callee:= .builtin .clear,args:=as,argTypes:=_}=>match as.toList with
   |[.tmp u]=>Nat.beq d u
   |_=>false
  |_,_=>false
 |[]=>false
def HX:CV->Option AV
 | .bC _ (.d y)=>match mJ y with
  |true=>some y
  |false=>none
 | .d (.bC _ y)=>match mJ y with
  |true=>some y
  |false=>none
 |_=>none
def sS (t:TypeId) (x:CV) (k:List It) (O:Hp) (ns:List (Nat×Nat)) (bad:Nx):Nx:=match jL k with
 |none=> .out (.fin (.aO x) .lf O ns)
 |some (N',K',Z',dst,ty,k')=>match Nat.beq t ty,HX x with
  |true,some y=> .go N' K' k' (bW Z' dst (.d y)) O ns
  |_,_=>bad
def nI:List (Nat×List AV×AV)->Nat->List AV->Option AV
 |[],_,_=>none
 |(g',xs',z)::r,g,xs=>match Nat.beq g g'&&lV xs xs' with
  |true=>some z
  |false=>nI r g xs
def kX (nest:Nat->List AV->Option AV) (Z:TS):Op->Option (Option CV)
 | .call {callee:= .value f,args:=as,argTypes:=_}=>match dz Z f as.toList with
  |some (g,cs)=>match fL cs with
   |some xs=>match nest g xs with
    |some z=>some (some (.d z))
    |none=>some none
   |none=>none
  |none=>none
 |_=>none
def DL {R:Type}:bN->TS->(TS->R)->R
 |[],Z,k=>k Z
 |p::A,Z,k=>Tr.cN 24 Z p.2.1 none λZ1=>DL A Z1 k
theorem aer {Z:TS} {op:Op}:eD 4227104 op (preB Z op)=preB Z op:=by cases op<;>kernel_rfl
theorem ac9 {nest:Nat->List AV->Option AV} {Z:TS} {op:Op}:eD 68719476736 op (kX nest Z op)=kX nest Z op:=by cases op<;>kernel_rfl
theorem aeU {cl:Bool} {T:bZ} {N:Nat} {Z:TS} {O:Hp} {o:Oper}:eD 68721574488 o.op (cI cl T N Z O o)=cI cl T N Z O o:=by
 obtain⟨d,op,_,_,_,_⟩:=o;cases op<;>kernel_rfl
theorem aes {cl:Bool} {T:bZ} {N:Nat} {Z:TS} {O:Hp} {d:Option Nat} {op:Op} {t:TypeId} {p:String} {a:Array Edge} {g:Option (Nat×Bool)}:eD 68721574488 op (cI cl T N Z O ⟨d,op,t,p,a,g⟩)=cI cl T N Z O ⟨d,op,t,p,a,g⟩:=aeU (o:=⟨d,op,t,p,a,g⟩)
def SY (P:Program) (G:Gl) (T:bZ) (c:gR) (N K:Nat) (all:List Oper) (o:Oper) (r:List Oper) (k:List It) (Z:TS) (O:Hp) (ns:List (Nat×Nat)) (bad:Nx) (j:Nat) (want:Bool):Nx:=match o.dst,nth all j with
 |some e,some oj=>match oj.dst,Nat.blt e N with
  |some d,true=>match Z.get d with
   |some (.d (.v (.bool t)))=>match c.cl with
    |true=>match t,want with
     |true,true=> .go N K (.ops all (⟨some e,o.op,o.type,o.pos,o.after,none⟩::r)::k) Z O ns
     |false,false=> .go N K (.ops all (⟨some e,o.op,o.type,o.pos,o.after,none⟩::r)::k) Z O ns
     |true,false=>Tr.cN 24 Z e (some (.d (.v undef))) λZ1=> .go N K (.ops all r::k) Z1 O ns
     |false,true=>Tr.cN 24 Z e (some (.d (.v undef))) λZ1=> .go N K (.ops all r::k) Z1 O ns
    |false=>Tr.cN 24 Z d (some (.d (.v (.bool true)))) λZt=>Tr.cN 24 Z d (some (.d (.v (.bool false)))) λZf=>match want with
     |true=>Tr.cN 24 Zf e (some (.d (.v undef))) λZn=> .out (.cond t N K (.ops all (⟨some e,o.op,o.type,o.pos,o.after,none⟩::r)::k) Zt (.ops all r::k) Zn O ns)
     |false=>Tr.cN 24 Zt e (some (.d (.v undef))) λZn=> .out (.cond t N K (.ops all r::k) Zn (.ops all (⟨some e,o.op,o.type,o.pos,o.after,none⟩::r)::k) Zf O ns)
   |some (.d (.v (.tuple a)))=>match a.toList with
    |[]=>Tr.cN 24 Z e (some (.d (.v undef))) λZ1=> .go N K (.ops all r::k) Z1 O ns
    |_::_=>bad
   |_=>bad
  |_,_=>bad
 |_,_=>bad
def SZ (P:Program) (G:Gl) (T:bZ) (c:gR) (N K:Nat) (all:List Oper) (o:Oper) (r:List Oper) (k:List It) (Z:TS) (O:Hp) (ns:List (Nat×Nat)) (bad:Nx):Nx:=match o.op with
 | .call {callee:= .value f,args:=as,argTypes:=_}=>match dz Z f as.toList with
  |some (g,cs)=>match c.inl g with
   |false=>bad
   |true=>match c.ct g with
    |some (ty,z)=>match cs with
     |[x]=>match E1 x with
      |some (g',fs',cs')=>match uH c.fn g' with
       |some (nt,rs,b)=>match Nat.ble (fs'++cs').length nt&&cw N o.dst with
        |true=> .go nt O.n (.code b:: .ct N K Z o.dst rs ty z:: .ops all r::k) (iv 0 (fs'++cs')) O ns
        |false=>bad
       |none=>bad
      |none=>bad
     |_=>bad
    |none=>match uH c.fn g with
     |some (nt,rs,b)=>match Nat.ble cs.length nt&&cw N o.dst with
      |true=> .go nt O.n (.code b:: .fr N K Z o.dst rs:: .ops all r::k) (iv 0 cs) O ns
      |false=>bad
     |none=>bad
  |none=>bad
 | .panic p=>match aW Z p with
  |some (.bC t y)=>sS t (.bC t y) k O ns bad
  |some (.d (.bC t y))=>sS t (.d (.bC t y)) k O ns bad
  |_=>bad
 |_=>bad
def S0 (P:Program) (G:Gl) (T:bZ) (c:gR) (N K:Nat) (all:List Oper) (o:Oper) (r:List Oper) (k:List It) (Z:TS) (O:Hp) (ns:List (Nat×Nat)) (bad:Nx):Nx:=match eD 68721574488 o.op (cI c.cl T N Z O o)with
 |some (.push d x ce)=>Tr.cN 24 Z d (some x) λZ1=>Tr.cN 24 O.e O.n (some ce) λe1=> .go N K (.ops all r::k) Z1 ⟨e1,O.n+1⟩ ns
 |some (.set i ce ns')=>iB c.cl ns' ns bad λns1=>Tr.cN 24 O.e i (some ce) λe1=> .go N K (.ops all r::k) Z ⟨e1,O.n⟩ ns1
 |some (.app i d x ce ns')=>iB c.cl ns' ns bad λns1=>Tr.cN 24 Z d (some x) λZ1=>Tr.cN 24 O.e i (some ce) λe1=> .go N K (.ops all r::k) Z1 ⟨e1,O.n⟩ ns1
 |some (.uc t e kk)=>Tr.cN 24 Z t (some (.os O.n 0)) λZ1=>Tr.cN 24 O.e O.n (some (.row e kk [])) λe1=> .go N K (.ops all (o::r)::k) Z1 ⟨e1,O.n+1⟩ ns
 |some (.cC t z ns' ms)=>iB c.cl ns' ns bad λns1=>Tr.cN 24 Z t (some (.d z)) λZ1=> .go N K (.ops all (o::r)::k) Z1 (iw ms O) ns1
 |none=>SZ P G T c N K all o r k Z O ns bad
def S1 (P:Program) (G:Gl) (T:bZ) (c:gR) (N K:Nat) (all:List Oper) (o:Oper) (r:List Oper) (k:List It) (Z:TS) (O:Hp) (ns:List (Nat×Nat)) (bad:Nx):Nx:=match eD 68719476736 o.op (kX (nI c.fs) Z o.op)with
 |some (some x)=>match cw N o.dst with
  |false=>bad
  |true=> .go N K (.ops all r::k) (bW Z o.dst x) O ns
 |_=>S0 P G T c N K all o r k Z O ns bad
def S2 (P:Program) (G:Gl) (T:bZ) (c:gR) (N K:Nat) (all:List Oper) (o:Oper) (r:List Oper) (k:List It) (Z:TS) (O:Hp) (ns:List (Nat×Nat)) (bad:Nx):Nx:=match dK P G T c.cl Z O o.op with
 |some (x,ns')=>match o.dst with
  |none=>bad
  |some d=>match Nat.blt d N with
   |false=>bad
   |true=>iB c.cl ns' ns bad λns1=>Tr.cN 24 Z d (some x) λZ1=> .go N K (.ops all r::k) Z1 O ns1
 |none=>S1 P G T c N K all o r k Z O ns bad
def S3 (P:Program) (G:Gl) (T:bZ) (c:gR) (N K:Nat) (all:List Oper) (o:Oper) (r:List Oper) (k:List It) (Z:TS) (O:Hp) (ns:List (Nat×Nat)) (bad:Nx):Nx:=match eD 4227104 o.op (preB Z o.op)with
 |some u=>match afm o r with
  |true=>bad
  |false=>match Z.get u with
   |some x=>match cr O.e 60 [x]with
    |some ([z],ns',ms)=>iB c.cl ns' ns bad λns1=>Tr.cN 24 Z u (some (.d z)) λZ1=> .go N K (.ops all (o::r)::k) Z1 (iw ms O) ns1
    |_=>bad
   |none=>bad
 |none=>S2 P G T c N K all o r k Z O ns bad
def Hu (P:Program) (G:Gl) (T:bZ) (c:gR) (N K:Nat) (all:List Oper) (o:Oper) (r:List Oper) (k:List It) (Z:TS) (O:Hp) (ns:List (Nat×Nat)) (bad:Nx):Nx:=match o.guard with
 |some (j,want)=>SY P G T c N K all o r k Z O ns bad j want
 |none=>S3 P G T c N K all o r k Z O ns bad
def Hv (P:Program) (G:Gl) (T:bZ) (c:gR) (nest:Nat->List AV->Option AV) (N K:Nat) (all:List Oper) (tl:List (Nat×Oper×TK)) (A:bN) (o:Oper) (r:List Oper) (L:List (Nat×List CV)) (k:List It) (Z:TS) (O:Hp) (ns:List (Nat×Nat)) (bad:Nx):Nx:=match cM all o Z with
 |some false=>match o.dst,lP o L with
  |some d,true=>match Nat.blt d N with
   |true=>Tr.cN 24 Z d (some (.d (.v undef))) λZ1=> .go N K (.lex all tl A r L::k) Z1 O ns
   |false=>bad
  |_,_=>bad
 |some true=>match o.dst,lP o L with
  |some d,true=>match Nat.blt d N with
   |false=>bad
   |true=>match dK P G T c.cl Z O o.op with
    |some (x,ns')=>iB c.cl ns' ns bad λns1=>Tr.cN 24 Z d (some x) λZ1=> .go N K (.lex all tl A r L::k) Z1 O ns1
    |none=>match o.op with
     | .box _ p=>match aW Z p with
      |some x=>match SX d r&& !c.own d,fL (dP x)with
       |true,some ys=>Tr.cN 24 Z d (some (.d (.ip ys))) λZ1=> .go N K (.lex all tl A r L::k) Z1 O ns
       |_,_=>Tr.cN 24 Z d none λZ1=> .go N K (.lex all tl A r (L++[(d,dP x)])::k) Z1 O ns
      |none=>bad
     | .alloc t=>match aZ T t with
      |some ⟨_,_,_,z⟩=>match SX d r&& !c.own d with
       |true=>Tr.cN 24 Z d (some (.d (.ip (z.map .v)))) λZ1=> .go N K (.lex all tl A r L::k) Z1 O ns
       |false=>Tr.cN 24 Z d none λZ1=> .go N K (.lex all tl A r (L++[(d,(z.map .v).map .d)])::k) Z1 O ns
      |none=>bad
     | .buildSlice t n parts=>match aZ T t with
      |some ⟨.slice e kk,_,_,_⟩=>match aZ T e with
       |some ⟨_,_,_,z'⟩=>match eJ kk (dj Z) (gP n (z'.map .v)) parts.toList with
        |some cells=>match Nat.ble (n*kk) 16777216&&Nat.ble 1 kk with
         |true=>Tr.cN 24 Z d (some (.d (.sl kk (chunk n kk cells)))) λZ1=> .go N K (.lex all tl A r L::k) Z1 O ns
         |false=>bad
        |none=>bad
       |none=>bad
      |_=>bad
     | .call {callee:= .value f,args:=as,argTypes:=_}=>match dz Z f as.toList with
      |some (g,cs)=>match c.inl g with
       |false=>bad
       |true=>match cr O.e 60 cs with
        |some (xs,ns',ms)=>match nest g xs with
         |some z=>match ms with
          |[]=>iB c.cl ns' ns bad λns1=>Tr.cN 24 Z d (some (.d z)) λZ1=> .go N K (.lex all tl A r L::k) Z1 O ns1
          |_::_=>match cZ z with
           |true=>iB c.cl ns' ns bad λns1=>Tr.cN 24 Z d (some (.d z)) λZ1=> .go N K (.lex all tl A r L::k) Z1 O ns1
           |false=>bad
         |none=>bad
        |none=>bad
      |none=>bad
     |_=>bad
  |_,_=>bad
 |none=>match o.guard with
  |some (j,_)=>match(nth all j).bind (·.dst)with
   |some d=>match Z.get d with
    |some (.d (.v (.bool t)))=>match c.cl with
     |true=>bad
     |false=>Tr.cN 24 Z d (some (.d (.v (.bool true)))) λZt=>Tr.cN 24 Z d (some (.d (.v (.bool false)))) λZf=> .out (.cond t N K (.lex all tl A (o::r) L::k) Zt (.lex all tl A (o::r) L::k) Zf O ns)
    |_=>bad
   |none=>bad
  |none=>bad
def Ed (P:Program) (G:Gl) (T:bZ) (cl:Bool) (Z:TS) (O:Hp) (op:Op):Option (CV×List (Nat×Nat)):=match dK P G T cl Z O op with
 |some p=>some p
 |none=>match op with
  | .buildSlice t n parts=>match aZ T t with
   |some ⟨.slice e kk,_,_,_⟩=>match aZ T e with
    |some ⟨_,_,_,z'⟩=>match eJ kk (dj Z) (gP n (z'.map .v)) parts.toList with
     |some cells=>match Nat.ble (n*kk) 16777216&&Nat.ble 1 kk with
      |true=>some (.d (.sl kk (chunk n kk cells)),[])
      |false=>none
     |none=>none
    |none=>none
   |_=>none
  |_=>none
def IN (P:Program) (G:Gl) (T:bZ) (nest:Nat->List AV->Option AV) (cl:Bool) (Z:TS) (O:Hp) (op:Op):Option (CV×List (Nat×Nat)):=match Ed P G T cl Z O op with
 |some p=>some p
 |none=>match op with
  | .call {callee:= .value f,args:=as,argTypes:=_}=>match dz Z f as.toList with
   |some (g,cs)=>match cr O.e 60 cs with
    |some (xs,ns',ms)=>match nest g xs with
     |some z=>match ms with
      |[]=>some (.d z,ns')
      |_::_=>match cZ z with
       |true=>some (.d z,ns')
       |false=>none
     |none=>none
    |none=>none
   |none=>none
  |_=>none
def qY (P:Program) (G:Gl) (T:bZ) (nest:Nat->List AV->Option AV) (cl:Bool) (all:List Oper) (Z:TS) (O:Hp):List (Nat×Oper×CV)->Bool
 |[]=>true
 |(_,o,x)::r=>match cl with
  |false=>false
  |true=>match cM all o Z with
   |some true=>match IN P G T nest true Z O o.op with
    |some (y,ns)=>match kD x y&&ns.all λp=>Nat.beq p.1 p.2 with
     |true=>qY P G T nest cl all Z O r
     |false=>false
    |none=>false
   |some false=>match x with
    | .d (.v (.tuple a))=>match a.toList with
     |[]=>qY P G T nest cl all Z O r
     |_::_=>false
    |_=>false
   |none=>false
def IP (P:Program) (G:Gl) (T:bZ) (cl:Bool) (Z:TS) (op:Op):Option CV:=
 match eD 51565228327 op (IQ T (dj Z) op)with
 |some y=>some (.d y)
 |none=>match eD 51565170727 op (IS T Z op)with
  |some x=>some x
  |none=>match eD 33024 op (lh G T (dj Z) op)with
   |some y=>some (.d y)
   |none=>match cl with
    |false=>none
    |true=>match eD 104865792 op (dV P T (dj Z) op)with
     |some y=>some (.d y)
     |none=>match eD 68719484928 op (ew P (dj Z) op)with
      |some y=>some (.d y)
      |none=>none
def Iq (nest:Nat->List AV->Option AV) (Z:TS) (O:Hp):Op->Option (AV×List (Nat×Nat)×Nat×List AV)
 | .call {callee:= .value f,args:=as,argTypes:=_}=>match dz Z f as.toList with
  |some (g,cs)=>match cr O.e 60 cs with
   |some (xs,ns',ms)=>match nest g xs with
    |some z=>match ms with
     |[]=>some (z,ns',g,xs)
     |_::_=>match cZ z with
      |true=>some (z,ns',g,xs)
      |false=>none
    |none=>none
   |none=>none
  |none=>none
 |_=>none
def xF (P:Program) (G:Gl) (T:bZ) (c:gR) (nest:Nat->List AV->Option AV) (N K:Nat) (all:List Oper) (l:List (Nat×Oper×TK)) (A:bN) (pend:List (Nat×Oper×CV)) (fs:List (Nat×List AV×AV)) (k:List It) (Z:TS) (O:Hp) (ns:List (Nat×Nat)) (bad:Nx):Nx:=match l with
 |[]=> .go N K k Z O ns
 |[(_,_,.two)]=>bad
 |(i,o,.two)::(j,o',_)::l=>match c.cl,cM all o Z,cM all o' Z with
  |true,some true,some true=>match Ir c.cl T N Z O o o' with
   |some (a,ca,b,cb)=>match qY P G T (nI fs) c.cl all Z (O.set a ca) (cP all i pend)&&qY P G T (nI fs) c.cl all Z (O.set b cb) (cP all j pend)with
    |true=>Tr.cN 24 O.e a (some ca) λe1=>Tr.cN 24 e1 b (some cb) λe2=> .go N K (.tl all l A (cP all j (cP all i pend)) fs::k) Z ⟨e2,O.n⟩ ns
    |false=>bad
   |none=>bad
  |_,_,_=>bad
 |(i,o,.fl)::l=>match cw N o.dst with
  |false=>bad
  |true=>match cM all o Z with
    |some false=> .go N K (.tl all l A pend fs::k) (bW Z o.dst (.d (.v undef))) O ns
    |some true=>match IP P G T c.cl Z o.op with
     |some x=> .go N K (.tl all l A pend fs::k) (bW Z o.dst x) O ns
     |none=>match kX nest Z o.op with
      |some none=>bad
      |some (some x)=> .go N K (.tl all l A pend fs::k) (bW Z o.dst x) O ns
      |none=>match Ed P G T c.cl Z O o.op with
       |some (x,ns')=>iB c.cl ns' ns bad λns1=> .go N K (.tl all l A ((i,o,x)::pend) fs::k) (bW Z o.dst x) O ns1
       |none=>match Iq nest Z O o.op with
        |some (z,ns',g,xs)=>iB c.cl ns' ns bad λns1=> .go N K (.tl all l A ((i,o,.d z)::pend) ((g,xs,z)::fs)::k) (bW Z o.dst (.d z)) O ns1
        |none=>bad
    |none=>bad
 |(i,o,.one)::l=>match fe ((dH (cq all.toArray i A)).map (·.1)),cw N o.dst with
  |true,true=>xX (dH (cq all.toArray i A)) Z O λZ1 O1=>match cM all o Z1 with
    |some false=> .go N K (.tl all l (cB all.toArray i A) (cP all i pend) fs::k) (bW Z1 o.dst (.d (.v undef))) O1 ns
    |some true=>match dK P G T c.cl Z1 O1 o.op with
     |some (x,ns')=>iB c.cl ns' ns bad λns1=> .go N K (.tl all l (cB all.toArray i A) (cP all i pend) fs::k) (bW Z1 o.dst x) O1 ns1
     |none=>match ue c.cl T N 20 Z1 O1 o with
      |some (.push _ x ce,O2,ns')=>iB c.cl ns' ns bad λns1=>Tr.cN 24 O2.e O2.n (some ce) λe1=> .go N K (.tl all l (cB all.toArray i A) (cP all i pend) fs::k) (bW Z1 o.dst x) ⟨e1,O2.n+1⟩ ns1
      |some (.set j ce _,O2,ns')=>iB c.cl ns' ns bad λns1=>Tr.cN 24 O2.e j (some ce) λe1=> .go N K (.tl all l (cB all.toArray i A) (cP all i pend) fs::k) (bW Z1 o.dst (.d (.v undef))) ⟨e1,O2.n⟩ ns1
      |some (.app j _ x ce _,O2,ns')=>iB c.cl ns' ns bad λns1=>Tr.cN 24 O2.e j (some ce) λe1=> .go N K (.tl all l (cB all.toArray i A) (cP all i pend) fs::k) (bW Z1 o.dst x) ⟨e1,O2.n⟩ ns1
      |some _=>bad
      |none=>match o.op with
       | .call {callee:= .value f,args:=as,argTypes:=_}=>match dz Z1 f as.toList with
        |some (g,cs)=>match c.inl g with
         |false=>bad
         |true=>match uH c.fn g with
          |some (nt,rs,b)=>match Nat.ble cs.length nt with
           |true=> .go nt O1.n (.code b:: .fr N K Z1 o.dst rs:: .tl all l (cB all.toArray i A) (cP all i pend) fs::k) (iv 0 cs) O1 ns
           |false=>bad
          |none=>bad
        |none=>bad
       | .panic p=>match aW Z1 p with
        |some (.bC t y)=>sS t (.bC t y) k O1 ns bad
        |some (.d (.bC t y))=>sS t (.d (.bC t y)) k O1 ns bad
        |_=>bad
       |_=>bad
    |none=>bad
  |_,_=>bad
def D3 (Z:TS) (all:List Oper):List Oper->Option Nat
 |[]=>none
 |o::r=>match o.op with
  | .slice _ (.tmp u) _ _ _=>match Z.get u with
   |some (.os _ _)=>some u
   |_=>match all.find? λo'=>match o'.dst with
     |some d=>Nat.beq d u
     |none=>false with
    |some ⟨_,.move (.tmp v),_,_,_,_⟩=>match Z.get v with
     |some (.os _ _)=>some v
     |_=>D3 Z all r
    |_=>D3 Z all r
  |_=>D3 Z all r
def GP (T:bZ) (c:gR) (fl N K:Nat) (b:Code) (k:List It) (Z:TS) (O:Hp) (ns:List (Nat×Nat)) (bad:Nx):Nx:=match b with
 | .skip=> .go N K k Z O ns
 | .label _=> .go N K k Z O ns
 | .seq x y=> .go N K (.code x:: .code y::k) Z O ns
 | .block i x=> .go N K (.code x:: .eV i::k) Z O ns
 | .region _ ops d=>match d with
  |false=> .go N K (.ops ops.toList ops.toList::k) Z O ns
  |true=>match D3 Z ops.toList ops.toList with
   |some u=>match Z.get u with
    |some x=>match cr O.e 60 [x]with
     |some ([z],ns',ms)=>iB c.cl ns' ns bad λns1=>Tr.cN 24 Z u (some (.d z)) λZ1=> .go N K (.code b::k) Z1 (iw ms O) ns1
     |_=>bad
    |none=>bad
   |none=>match aeT c.imp ops.toList with
    |(pre,tl,al)=>match mT T ops N al with
     |none=>bad
     |some A=>match oY ops pre tl al&&Nat.beq (fV ops pre).length pre.length with
      |true=> .go N K (.lex ops.toList (jJ ops tl) A (fV ops pre) []::k) Z O ns
      |false=>bad
 | .exit i=>match kx i k with
  |some k'=> .go N K k' Z O ns
  |none=>bad
 | .ret=>match mN k with
  |[]=> .out (.fin .ret Z O ns)
  | .fr N' K' Z' dst rs::k'=> .go N K (.fr N' K' Z' dst rs::k') Z O ns
  | .ct N' K' Z' dst rs ty z::k'=> .go N K (.ct N' K' Z' dst rs ty z::k') Z O ns
  |_=>bad
 | .scope x=> .go N K (.code x::k) Z O ns
 | .cond (.tmp t) x y=>match Z.get t with
  |some (.d (.v (.bool v)))=>match c.cl with
    |true=>match v with
     |true=> .go N K (.code x::k) Z O ns
     |false=> .go N K (.code y::k) Z O ns
    |false=>Tr.cN 24 Z t (some (.d (.v (.bool true)))) λZt=>Tr.cN 24 Z t (some (.d (.v (.bool false)))) λZf=> .out (.cond v N K (.code x::k) Zt (.code y::k) Zf O ns)
  |_=>bad
 | .cond (.const (.bool v)) x y=>match v with
  |true=> .go N K (.code x::k) Z O ns
  |false=> .go N K (.code y::k) Z O ns
 | .loop x=>match c.cl with
  |true=> .go N K (.code x:: .na fl x::k) Z O ns
  |false=>bad
 |_=>bad
def xY (P:Program) (G:Gl) (T:bZ) (c:gR) (nest:Nat->List AV->Option AV) (fl N K:Nat) (todo:List It) (Z:TS) (O:Hp) (ns:List (Nat×Nat)) (bad:Nx):Nx:=
 @List.rec It (λ_=>Program->Gl->bZ->gR->(Nat->List AV->Option AV)->Nat->Nat->Nat->TS->Hp->List (Nat×Nat)->Nx->Nx)
  (λ_ _ _ _ _ _ _ _ Z O ns _=> .out (.fin .norm Z O ns))
  (λit k _ P G T c nest fl N K Z O ns bad=> @It.rec (λ_=>List It->Program->Gl->bZ->gR->(Nat->List AV->Option AV)->Nat->Nat->Nat->TS->Hp->List (Nat×Nat)->Nx->Nx)
   (λb k P G T c nest fl N K Z O ns bad=>GP T c fl N K b k Z O ns bad)
   (λ_ k P G T c nest fl N K Z O ns bad=> .go N K k Z O ns)
   (λall l k P G T c nest fl N K Z O ns bad=> @List.rec Oper (λ_=>Nx) (.go N K k Z O ns) (λo r _=>Hu P G T c N K all o r k Z O ns bad) l)
   (λall tl A pre L k P G T c nest fl N K Z O ns bad=> @List.rec Oper (λ_=>Nx) (match fe (L.map (·.1))with
    |true=>xX L Z O λZ1 O1=>DL A Z1 λZ2=> .go N K (.tl all tl A [] []::k) Z2 O1 ns
    |false=>bad) (λo r _=>Hv P G T c nest N K all tl A o r L k Z O ns bad) pre)
   (λall l A pend fs k P G T c nest fl N K Z O ns bad=>match qY P G T (nI fs) c.cl all Z O pend with
    |true=>xF P G T c nest N K all l A pend fs k Z O ns bad
    |false=>bad)
   (λ_ k P G T c nest fl N K Z O ns bad=>bad)
   (λm b k P G T c nest fl N K Z O ns bad=>match m with
    |0=>bad
    |m'+1=> .go N K (.code b:: .na m' b::k) Z O ns)
   (λN' K' Z' dst rs k P G T c nest fl N K Z O ns bad=>match eh T Z O rs with
    |none=>bad
    |some xs=>match dst with
     |none=> .go N' K' k Z' O ns
     |some d=>Tr.cN 24 Z' d (some (ff xs)) λZ''=> .go N' K' k Z'' O ns)
   (λN' K' Z' dst rs _ z k P G T c nest fl N K Z O ns bad=>match eh T Z O rs with
    |none=>bad
    |some _=> .go N' K' k (bW Z' dst (.d z)) O ns)
   it k P G T c nest fl N K Z O ns bad) todo P G T c nest fl N K Z O ns bad
def step (P:Program) (G:Gl) (T:bZ) (c:gR) (nest:Nat->List AV->Option AV) (fl N K:Nat) (todo:List It) (Z:TS) (O:Hp) (ns:List (Nat×Nat)):Nx:=xY P G T c nest fl N K todo Z O ns (.out (.stuck N K todo Z O ns))
theorem jo {R:Type} {P:R->Prop} {cl:Bool} {ns' ns:List (Nat×Nat)} {bad:R} {k:List (Nat×Nat)->R} {A:Prop} (h:P (iB cl ns' ns bad k)) (hb:P bad->A) (hk:∀ns1,(eqs ns1->eqs ns'/\eqs ns)->P (k ns1)->A):A:=by
 unfold iB at h;split at h
 ·exact hk _ (λh=>mm h) h
 ·split at h
  ·rename_i hall;refine hk _ (λh=>⟨?_,h⟩) h;clear h hk
   induction ns' with
   |nil=>trivial
   |cons p r ih=>
    simp only[kH,bJ]at hall;exact⟨bI hall.1,ih hall.2⟩
  ·exact hb h
theorem GQ {R:Type}:∀(L:List (Nat×List CV)) (Z:TS) (O:Hp) (k:TS->Hp->R),xX L Z O k=k (eG L Z O).1 (eG L Z O).2
 |[],_,_,_=>rfl
 |(d,cs)::r,Z,⟨e,m⟩,k=>by simp only[xX,CG,MN,Tr.dN,eG];exact GQ r _ _ k
theorem Cg {P:Program} {F:Nat->Option Func} (hF:∀g x,F g=some x->P.funcs[g]? =some x) {g:FuncId} {nt:Nat} {rs:List ResultVar} {c:Code} (h:uH F g=some (nt,rs,c)):∃fn,P.funcs[g]? =some fn/\fn.body=some c/\(fn.name== "runtime.NumGoroutine")=false/\fn.results=rs.toArray/\fn.ntmps=nt:=by
 unfold uH at h;split at h
 ·rename_i fn hf;split at h
  ·rename_i b hb hn;simp only[aC,cF]at h;obtain⟨rfl,rfl,rfl⟩:=h;exact⟨fn,hF g fn hf,hb,hn,by simp,rfl⟩
  ·cases h
 ·cases h
section
variable {E:Env} {Q:DQ} {N K:Nat} {Z:TS} {O:Hp} {all:List Oper} {o:Oper} {r:List Oper} {tl:List (Nat×Oper×TK)} {k:List It} {ns:List (Nat×Nat)} {bad:Nx} {c:gR} {L:List (Nat×List CV)}
theorem DO.DM {rest:List Oper} {j d e:Nat} {want t:Bool} {op:Op} {ty:TypeId} {pos:String} {after:Array Edge} {oj:Oper} (hj:nth all j=some oj) (hjd:oj.dst=some d) (ht:Z.get d=some (.d (.v (.bool t))))
  (h1:t=want->DO E N K all (⟨some e,op,ty,pos,after,none⟩::rest) Q Z O)
  (h2:t= !want->DO E N K all rest Q (Tr.put 24 Z e (some (.d (.v undef)))) O)
  (hd:Nat.blt e N=true):DO E N K all (⟨some e,op,ty,pos,after,some (j,want)⟩::rest) Q Z O:=λW ZB ηB hs hh=>by
 obtain⟨y,h3,h4⟩:=hs d _ ht;simp only[aG]at h4;subst h4;have hjB:(all.toArray[j]?).bind (·.dst)=some d:=by rw[cA]at hj;simp[hj,hjd]
 have same:∀b,t=b->SS W Z (look ((d,.v (.bool b))::ZB)):=λb hb u z hz=>by
  subst hb;obtain⟨q,h5,h6⟩:=hs u z hz;refine⟨q,?_,h6⟩;simp only[look];cases hbq:Nat.beq d u with
  |true=>have:=bI hbq;subst this;rw[h3]at h5;exact h5
  |false=>exact h5
 exact bf.bE hjB h3 (λe=>h1 e W _ ηB (same want e) hh) (λe'=>h2 e' W _ ηB ((same _ e').put (some e) (x:= .d (.v undef)) (y:= .v undef) rfl) hh) hd
theorem aas {t:TypeId} {x:CV} {y:AV} (hx:∃u,x= .bC t u\/∃u',x= .d (.bC t u')) (h:HX x=some y):(x= .bC t (.d y)\/x= .d (.bC t y))/\mJ y=true:=by
 unfold HX at h;split at h
 ·rename_i t' y';split at h
  ·rename_i hy;cases h;obtain⟨u,hx|⟨u',hx⟩⟩:=hx
   ·cases hx;exact⟨.inl rfl,hy⟩
   ·cases hx
  ·cases h
 ·rename_i t' y';split at h
  ·rename_i hy;cases h;obtain⟨u,hx|⟨u',hx⟩⟩:=hx
   ·cases hx
   ·cases hx;exact⟨.inr rfl,hy⟩
  ·cases h
 ·cases h
theorem Ch {t:TypeId} {x:CV} (hx:∃u,x= .bC t u\/∃u',x= .d (.bC t u')) (h:Nx.ok E Q (sS t x k O ns bad)) {A:Prop} (hb:bad.ok E Q->A) (hk:eqs ns->dq E N K k Q (.aO x) .lf O->A):A:=by
 unfold sS at h;split at h
 ·rename_i hp;exact hk h.1 (lO k N K .lf hp h.2)
 ·rename_i N' K' Z' dst ty k' hp;split at h
  ·rename_i y ht hy;have ht:=bI ht;subst ht;obtain⟨h1,h2⟩:=aas hx hy;exact hk h.1 (mA h1 h2 k N K hp h.2)
  ·exact hb h
theorem Oz {R:Type}:∀(A:bN) (Z:TS) (k:TS->R),DL A Z k=k (xG A Z)
 |[],_,_=>rfl
 |p::A,Z,k=>by simp only[DL,Tr.dN,xG];exact Oz A _ _
theorem sK:∀{fs:List (Nat×List AV×AV)},nY E fs->∀g xs z,nI fs g xs=some z->Pure E.toCx g xs (.ret z)
 |[],_,_,_,_,h=>by simp[nI]at h
 |(g',xs',z')::r,hf,g,xs,z,h=>by
  simp only[nI]at h;split at h
  ·rename_i hB;simp only[bJ]at hB;have h1:=bI hB.1;have h2:=oD hB.2;cases h;subst h1;subst h2;exact hf _ MH
  ·exact sK (λf hf'=>hf f (by simp[hf'])) g xs z h
theorem Pp {nest:Nat->List AV->Option AV} (hnest:∀g xs z,nest g xs=some z->Pure E.toCx g xs (.ret z)) {x:CV} (h:kX nest Z o.op=some (some x)):bp E N o Z x:=by
 unfold kX at h;split at h
 ·rename_i f as tys ho;obtain⟨as⟩:=as;split at h
  ·rename_i g cs hc;split at h
   ·rename_i xs hxs;split at h
    ·rename_i z hz;cases h;exactλW s ηB hs=>by
      obtain⟨ys,h1,h2⟩:=nh hs hc;have:=mr hxs h2;subst this;exact⟨z,rfl,bP.pure ho (hnest g _ z hz) h1⟩
    ·cases h
   ·cases h
  ·cases h
 ·cases h
theorem ZO (hfs:nY E c.fs) (hct:∀f ty z,c.ct f=some (ty,z)->uO E f ty z) (hF:∀g x,c.fn g=some x->E.P.funcs[g]? =some x) (h:Nx.ok E Q (Hu E.P E.G E.T c N K all o r k Z O ns bad)) (hb:bad.ok E Q->eqs ns/\ak E N K (.ops all (o::r)::k) Q Z O):eqs ns/\ak E N K (.ops all (o::r)::k) Q Z O:=by
 obtain⟨dst,op,ty,pos,after,gd⟩:=o;unfold Hu at h;simp only[SY,S3,S2,S1,S0,SZ]at h;simp only[aer,ac9,aes]at h;split at h
 ·rename_i j want;split at h
  ·rename_i e oj hj;split at h
   ·rename_i d hjd he;split at h
    ·rename_i t ht;split at h
     ·split at h
      ·exact⟨h.1,DO.DM hj hjd ht (λ_=>h.2) (λe=>by cases e) he⟩
      ·exact⟨h.1,DO.DM hj hjd ht (λ_=>h.2) (λe=>by cases e) he⟩
      ·rw[Tr.dN]at h;exact⟨h.1,DO.DM hj hjd ht (λe=>by cases e) (λ_=>h.2) he⟩
      ·rw[Tr.dN]at h;exact⟨h.1,DO.DM hj hjd ht (λe=>by cases e) (λ_=>h.2) he⟩
     ·simp only[Tr.dN]at h;split at h
      ·exact⟨h.1,DO.S4 hj hjd ht h.2.1 h.2.2 he⟩
      ·exact⟨h.1,DO.S4 hj hjd ht h.2.2 h.2.1 he⟩
    ·rename_i a ha;split at h
     ·rename_i hz;have:a= #[]:=by cases a;simp_all
      subst this;rw[Tr.dN]at h;exact⟨h.1,DO.HY hj hjd ha h.2 he⟩
     ·exact hb h
    ·exact hb h
   ·exact hb h
  ·exact hb h
 ·split at h
  ·rename_i u hu;split at h
   ·exact hb h
   split at h
   ·rename_i x hx;split at h
    ·rename_i z ns' ms hf;refine jo (P:=Nx.ok E Q) h hb λns1 he h=>?_;rw[Tr.dN]at h;obtain⟨h1,h2⟩:=he h.1;exact⟨h2,DO.cC 60 hx hf h1 h.2⟩
    ·exact hb h
   ·exact hb h
  split at h
  ·rename_i x ns' hv;split at h
   ·exact hb h
   ·rename_i d;split at h
    ·exact hb h
    ·rename_i hd;refine jo (P:=Nx.ok E Q) h hb λns1 he h=>?_;rw[Tr.dN]at h;obtain⟨h1,h2⟩:=he h.1;exact⟨h2,DO.nX rfl hd (xE (o:=⟨some d,op,ty,pos,after,none⟩) hv h1) h.2⟩
  ·rename_i hv;split at h
   ·rename_i x hcs;split at h
    ·exact hb h
    ·rename_i hd;exact⟨h.1,DO.nX rfl hd (λW s ηB hs _=>Pp (o:=⟨dst,op,ty,pos,after,none⟩) (sK hfs) hcs W s ηB hs) h.2⟩
   rename_i hnc;clear hnc;split at h
   ·rename_i d x ce hh;simp only[Tr.dN]at h;exact⟨h.1,xH rfl hh h.2⟩
   ·rename_i i ce ns' hh;refine jo (P:=Nx.ok E Q) h hb λns1 he h=>?_;simp only[Tr.dN]at h;obtain⟨h1,h2⟩:=he h.1;exact⟨h2,xH rfl hh ⟨h1,h.2⟩⟩
   ·rename_i i d x ce ns' hh;refine jo (P:=Nx.ok E Q) h hb λns1 he h=>?_;simp only[Tr.dN]at h;obtain⟨h1,h2⟩:=he h.1;exact⟨h2,xH rfl hh ⟨h1,h.2⟩⟩
   ·rename_i t e kk hh;simp only[Tr.dN]at h;exact⟨h.1,xH rfl hh h.2⟩
   ·rename_i t z ns' ms hh;refine jo (P:=Nx.ok E Q) h hb λns1 he h=>?_;simp only[Tr.dN]at h;obtain⟨h1,h2⟩:=he h.1;exact⟨h2,xH rfl hh ⟨h1,h.2⟩⟩
   ·split at h
    ·rename_i f as tys;obtain⟨as⟩:=as;split at h
     ·rename_i g cs hc;split at h
      ·exact hb h
      ·split at h
       ·rename_i ty' z hctg;split at h
        ·rename_i x;split at h
         ·rename_i g' fs' cs' hx;split at h
          ·rename_i nt rs b hf;split at h
           ·rename_i hB;simp only[bJ]at hB;obtain⟨fn,h1,h2,h3,h4,h5⟩:=Cg hF hf;exact⟨h.1,ak.ct (hct _ _ _ hctg) hc hx h1 h2 h3 h4 h5 hB.1 hB.2 h.2⟩
           ·exact hb h
          ·exact hb h
         ·exact hb h
        ·exact hb h
       ·split at h
        ·rename_i nt rs b hf;split at h
         ·rename_i hB;simp only[bJ]at hB;obtain⟨fn,h1,h2,h3,h4,h5⟩:=Cg hF hf;exact⟨h.1,ak.inl hc h1 h2 h3 h4 h5 hB.1 hB.2 h.2⟩
         ·exact hb h
        ·exact hb h
     ·exact hb h
    ·rename_i p;split at h
     ·rename_i t y hp;exact Ch (N:=N) (K:=K) ⟨y,.inl rfl⟩ h hb λh1 h2=>⟨h1,DO.panic rfl rfl hp h2⟩
     ·rename_i t y hp;exact Ch (N:=N) (K:=K) ⟨.d y,.inr ⟨y,rfl⟩⟩ h hb λh1 h2=>⟨h1,DO.HZ rfl rfl hp h2⟩
     ·exact hb h
    ·exact hb h
theorem ZP {A:bN} {nest:Nat->List AV->Option AV} (hnest:∀g xs z,nest g xs=some z->Pure E.toCx g xs (.ret z)) (h:Nx.ok E Q (Hv E.P E.G E.T c nest N K all tl A o r L k Z O ns bad)) (hb:bad.ok E Q->eqs ns/\ak E N K (.lex all tl A (o::r) L::k) Q Z O):
  eqs ns/\ak E N K (.lex all tl A (o::r) L::k) Q Z O:=by
 unfold Hv at h;split at h
 ·rename_i hw;split at h
  ·rename_i d hd hf;split at h
   ·rename_i hdN;rw[Tr.dN]at h;refine⟨h.1,eb.skip (by rw[hd];exact hdN) hw hf ?_⟩;rw[hd];exact h.2
   ·exact hb h
  ·exact hb h
 ·rename_i hw;split at h
  ·rename_i d hd hf;split at h
   ·exact hb h
   ·rename_i hdN;have hdst:cw N o.dst=true:=by rw[hd];exact hdN
    split at h
    ·rename_i x ns' hv;refine jo (P:=Nx.ok E Q) h hb λns1 he h=>?_;rw[Tr.dN]at h;obtain⟨h1,h2⟩:=he h.1;refine⟨h2,eb.val hdst hw hf (xE hv h1) ?_⟩;rw[hd];exact h.2
    ·split at h
     ·rename_i t p ho;split at h
      ·rename_i x hp;split at h
       ·rename_i ys _ hy;rw[Tr.dN]at h;refine⟨h.1,eb.val hdst hw hf (bd.UD (cells:=ys) λW s ηB hs hh=>?_) (by rw[hd];exact h.2)⟩;obtain⟨cs,h1,h2⟩:=C5 ho hp W s ηB hs hh;have:=mr hy h1;subst this;exact⟨cs,iq _,h2⟩
       ·rw[Tr.dN]at h;exact⟨h.1,eb.new hd hdN hw hf (C5 ho hp) h.2⟩
      ·exact hb h
     ·rename_i t ho;split at h
      ·rename_i _ _ _ z ht;split at h
       ·rw[Tr.dN]at h;refine⟨h.1,eb.val hdst hw hf (bd.UD (cells:=z.map .v) (Ci ho ht)) (by rw[hd];exact h.2)⟩
       ·rw[Tr.dN]at h;exact⟨h.1,eb.new hd hdN hw hf (Ci ho ht) h.2⟩
      ·exact hb h
     ·rename_i t n parts ho;split at h
      ·rename_i e kk _ _ _ ht;split at h
       ·rename_i _ _ _ z' hte;split at h
        ·rename_i cells hfi;split at h
         ·rename_i hB;simp only[bJ]at hB;rw[Tr.dN]at h;exact⟨h.1,eb.val hdst hw hf (bd.lit ho ht hte hfi hB.1 hB.2) (by rw[hd];exact h.2)⟩
         ·exact hb h
        ·exact hb h
       ·exact hb h
      ·exact hb h
     ·rename_i f as tys ho;obtain⟨as⟩:=as;split at h
      ·rename_i g cs hc;split at h
       ·exact hb h
       ·split at h
        ·rename_i xs ns' ms hfz;split at h
         ·rename_i z hz;split at h
          ·refine jo (P:=Nx.ok E Q) h hb λns1 he h=>?_;rw[Tr.dN]at h;obtain⟨h1,h2⟩:=he h.1;exact⟨h2,eb.val hdst hw hf (bd.pure 60 ho (hnest g xs z hz) hc hfz h1 (b8.refl xs) (.inl rfl)) (by rw[hd];exact h.2)⟩
          ·split at h
           ·rename_i hrf;refine jo (P:=Nx.ok E Q) h hb λns1 he h=>?_;rw[Tr.dN]at h;obtain⟨h1,h2⟩:=he h.1;exact⟨h2,eb.val hdst hw hf (bd.pure 60 ho (hnest g xs z hz) hc hfz h1 (b8.refl xs) (.inr hrf)) (by rw[hd];exact h.2)⟩
           ·exact hb h
         ·exact hb h
        ·exact hb h
      ·exact hb h
     ·exact hb h
  ·exact hb h
 ·split at h
  ·rename_i j want hg;split at h
   ·rename_i d hd;split at h
    ·rename_i t ht;split at h
     ·exact hb h
     ·simp only[Tr.dN]at h;exact⟨h.1,eb.guard ht h.2.1 h.2.2⟩
    ·exact hb h
   ·exact hb h
  ·exact hb h
theorem Hw:∀{ns:List (Nat×Nat)},(ns.all λp=>Nat.beq p.1 p.2)=true->eqs ns
 |[],_=>trivial
 |p::r,h=>by simp only[kH,bJ]at h;exact⟨bI h.1,Hw h.2⟩
theorem ep {cl:Bool} {x:CV} {ns:List (Nat×Nat)} (h:Ed E.P E.G E.T cl Z O o.op=some (x,ns)) (hn:eqs ns):bd E N o Z O x:=by
 unfold Ed at h;split at h
 ·rename_i p hp;simp only[aC]at h;subst h;exact xE hp hn
 ·split at h
  ·rename_i t n parts ho;split at h
   ·rename_i e kk _ _ _ ht;split at h
    ·rename_i _ _ _ z' hte;split at h
     ·rename_i cells hfi;split at h
      ·rename_i hB;simp only[bJ]at hB;simp only[aC,cF]at h;obtain⟨rfl,rfl⟩:=h;exact bd.lit ho ht hte hfi hB.1 hB.2
      ·cases h
     ·cases h
    ·cases h
   ·cases h
  ·cases h
theorem ac' {nest:Nat->List AV->Option AV} (hnest:∀g xs z,nest g xs=some z->Pure E.toCx g xs (.ret z)) {cl:Bool} {x:CV} {ns:List (Nat×Nat)} (h:IN E.P E.G E.T nest cl Z O o.op=some (x,ns)) (hn:eqs ns):bd E N o Z O x:=by
 unfold IN at h;split at h
 ·rename_i p hp;simp only[aC]at h;subst h;exact ep hp hn
 ·split at h
  ·rename_i f as tys ho;obtain⟨as⟩:=as;split at h
   ·rename_i g cs hc;split at h
    ·rename_i xs ns' ms hfz;split at h
     ·rename_i z hz;split at h
      ·simp only[aC,cF]at h;obtain⟨rfl,rfl⟩:=h;exact bd.pure 60 ho (hnest g xs z hz) hc hfz hn (b8.refl xs) (.inl rfl)
      ·split at h
       ·rename_i hrf;simp only[aC,cF]at h;obtain⟨rfl,rfl⟩:=h;exact bd.pure 60 ho (hnest g xs z hz) hc hfz hn (b8.refl xs) (.inr hrf)
       ·cases h
     ·cases h
    ·cases h
   ·cases h
  ·cases h
theorem wU {nest:Nat->List AV->Option AV} (hnest:∀g xs z,nest g xs=some z->Pure E.toCx g xs (.ret z)) {cl:Bool}:∀{pend:List (Nat×Oper×CV)},qY E.P E.G E.T nest cl all Z O pend=true->aE E N all pend Z O
 |[],_=>λp hp=>by cases hp
 |(i,o,x)::r,h=>by
  have key:yG E N all o Z O x->aE E N all r Z O->aE E N all ((i,o,x)::r) Z O:=λh1 h2 p hp=>by
   rcases b6.1 hp with rfl|hp
   ·exact h1
   ·exact h2 p hp
  simp only[qY]at h;split at h
  ·cases h
  ·split at h
   ·rename_i hw;split at h
    ·rename_i y ns hv;split at h
     ·rename_i hB;simp only[bJ]at hB;have:=Hx hB.1;subst this;exact key (.inl ⟨hw,ac' hnest hv (Hw hB.2)⟩) (wU hnest h)
     ·cases h
    ·cases h
   ·rename_i hw;split at h
    ·split at h
     ·rename_i a _ ha;have:a= #[]:=by cases a;simp_all
      subst this;exact key (.inr ⟨hw,rfl⟩) (wU hnest h)
     ·cases h
    ·cases h
   ·cases h
theorem ada {cl:Bool} {x:CV} (h:IP E.P E.G E.T cl Z o.op=some x):bp E N o Z x:=by
 unfold IP at h;simp only[Qy,Qz,Ue,Uf,Ug,Uh,Ui]at h;split at h
 ·rename_i y hy;cases h;exactλW s ηB hs=>⟨y,rfl,(bP.cJ hy).mono λ_ _ _ hy=>kv hs hy⟩
 ·split at h
  ·rename_i y hy;cases h;exactλW s ηB hs=>by
    obtain⟨y,h1,h2⟩:=QA hs hy;exact⟨y,h2,bP.cJ h1⟩
  ·split at h
   ·rename_i y hy;cases h;exactλW s ηB hs=>⟨y,rfl,(bP.lh hy).mono λ_ _ _ hy=>kv hs hy⟩
   ·split at h
    ·cases h
    ·split at h
     ·rename_i y hy;cases h;exactλW s ηB hs=>⟨y,rfl,(bP.dV hy).mono λ_ _ _ hy=>kv hs hy⟩
     ·split at h
      ·rename_i y hy;cases h;exactλW s ηB hs=>⟨y,rfl,(bP.ew hy).mono λ_ _ _ hy=>kv hs hy⟩
      ·cases h
theorem abC {nest:Nat->List AV->Option AV} (hnest:∀g xs z,nest g xs=some z->Pure E.toCx g xs (.ret z)) {z:AV} {ns':List (Nat×Nat)} {g:Nat} {xs:List AV} (h:Iq nest Z O o.op=some (z,ns',g,xs)) (hn:eqs ns'):bd E N o Z O (.d z)/\Pure E.toCx g xs (.ret z):=by
 unfold Iq at h;split at h
 ·rename_i f as tys ho;obtain⟨as⟩:=as;split at h
  ·rename_i g' cs hc;split at h
   ·rename_i xs' ns2 ms hfz;split at h
    ·rename_i z' hz;split at h
     ·simp only[aC,cF]at h;obtain⟨rfl,rfl,rfl,rfl⟩:=h;exact⟨bd.pure 60 ho (hnest _ _ _ hz) hc hfz hn (b8.refl _) (.inl rfl),hnest _ _ _ hz⟩
     ·split at h
      ·rename_i hrf;simp only[aC,cF]at h;obtain⟨rfl,rfl,rfl,rfl⟩:=h;exact⟨bd.pure 60 ho (hnest _ _ _ hz) hc hfz hn (b8.refl _) (.inr hrf),hnest _ _ _ hz⟩
      ·cases h
    ·cases h
   ·cases h
  ·cases h
 ·cases h
theorem Oy {nest:Nat->List AV->Option AV} (hnest:∀g xs z,nest g xs=some z->Pure E.toCx g xs (.ret z)) (hF:∀g x,c.fn g=some x->E.P.funcs[g]? =some x) {l:List (Nat×Oper×TK)} {A:bN} {pend:List (Nat×Oper×CV)} {fs:List (Nat×List AV×AV)} (hp:nY E fs->aE E N all pend Z O) (h:Nx.ok E Q (xF E.P E.G E.T c nest N K all l A pend fs k Z O ns bad)) (hb:bad.ok E Q->eqs ns/\ak E N K (.tl all l A pend fs::k) Q Z O):
  eqs ns/\ak E N K (.tl all l A pend fs::k) Q Z O:=by
 unfold xF at h;split at h
 ·exact⟨h.1,λhf=>cE.nil (hp hf) h.2⟩
 ·exact hb h
 ·rename_i i o j o' _ l;split at h
  ·rename_i hcl hw hw';split at h
   ·rename_i a ca b cb hpr;split at h
    ·rename_i hB;simp only[bJ]at hB;simp only[Tr.dN]at h;obtain⟨g1,g2,g3,g4,g5,g6⟩:=abD hpr;exact⟨h.1,λhf=>cE.pair (hp hf) g1 g2 hw hw' g3 (wU (sK hf) hB.1) g4 g5 (wU (sK hf) hB.2) g6 (h.2 hf)⟩
    ·exact hb h
   ·exact hb h
  ·exact hb h
 ·rename_i i o l;split at h
  ·exact hb h
  ·rename_i hd;split at h
   ·rename_i hw;exact⟨h.1,λhf=>cE.st (hp hf) hd (.inr ⟨hw,rfl⟩) (h.2 hf)⟩
   ·rename_i hw;split at h
    ·rename_i x hv;exact⟨h.1,λhf=>cE.st (hp hf) hd (.inl ⟨hw,ada hv⟩) (h.2 hf)⟩
    ·split at h
     ·exact hb h
     ·rename_i x hv;exact⟨h.1,λhf=>cE.st (hp hf) hd (.inl ⟨hw,Pp hnest hv⟩) (h.2 hf)⟩
     ·split at h
      ·rename_i x ns' hv;refine jo (P:=Nx.ok E Q) h hb λns1 he h=>?_;obtain⟨h1,h2⟩:=he h.1;exact⟨h2,λhf=>cE.fl (hp hf) hd (.inl ⟨hw,ep hv h1⟩) (h.2 hf)⟩
      ·split at h
       ·rename_i z ns' g xs hv;refine jo (P:=Nx.ok E Q) h hb λns1 he h=>?_;obtain⟨h1,h2⟩:=he h.1;obtain⟨q1,q2⟩:=abC hnest hv h1;exact⟨h2,λhf=>cE.fl (hp hf) hd (.inl ⟨hw,q1⟩) (h.2 λf hm=>(b6.1 hm).elim (λe=>by subst e;exact q2) (hf f))⟩
       ·exact hb h
   ·exact hb h
 ·rename_i i o l;split at h
  ·rename_i hnd hd;rw[GQ]at h;obtain⟨Z1,O1,cI⟩:∃Z1 O1,eG (dH (cq all.toArray i A)) Z O=(Z1,O1):=⟨_,_,rfl⟩;rw[cI]at h;simp only at h;split at h
   ·rename_i hw;refine⟨h.1,λhf=>cE.skip (hp hf) hnd hd (by rw[cI];exact hw) ?_⟩;rw[cI];exact h.2 hf
   ·rename_i hw;split at h
    ·rename_i x ns' hv;refine jo (P:=Nx.ok E Q) h hb λns1 he h=>?_;obtain⟨h1,h2⟩:=he h.1;exact⟨h2,λhf=>cE.nV (hp hf) hnd hd cI hw (bK.val (xE hv h1)) (λy O' hr=>by obtain⟨e1,rfl⟩:=hr;cases e1;exact h.2 hf) (λy O' hr=>by obtain⟨e1,_⟩:=hr;cases e1)⟩
    ·rename_i hv;split at h
     ·rename_i d x ce O2 ns' hh;refine jo (P:=Nx.ok E Q) h hb λns1 he h=>?_;rw[Tr.dN]at h;obtain⟨h1,h2⟩:=he h.1;exact⟨h2,λhf=>cE.nV (hp hf) hnd hd cI hw (wI hh h1) (λy O' hr=>by obtain⟨e1,rfl⟩:=hr;cases e1;exact h.2 hf) (λy O' hr=>by obtain⟨e1,_⟩:=hr;cases e1)⟩
     ·rename_i j ce ns2 O2 ns' hh;refine jo (P:=Nx.ok E Q) h hb λns1 he h=>?_;rw[Tr.dN]at h;obtain⟨h1,h2⟩:=he h.1;exact⟨h2,λhf=>cE.nV (hp hf) hnd hd cI hw (wI hh h1) (λy O' hr=>by obtain⟨e1,rfl⟩:=hr;cases e1;exact h.2 hf) (λy O' hr=>by obtain⟨e1,_⟩:=hr;cases e1)⟩
     ·rename_i j d x ce ns2 O2 ns' hh;refine jo (P:=Nx.ok E Q) h hb λns1 he h=>?_;rw[Tr.dN]at h;obtain⟨h1,h2⟩:=he h.1;exact⟨h2,λhf=>cE.nV (hp hf) hnd hd cI hw (wI hh h1) (λy O' hr=>by obtain⟨e1,rfl⟩:=hr;cases e1;exact h.2 hf) (λy O' hr=>by obtain⟨e1,_⟩:=hr;cases e1)⟩
     ·exact hb h
     ·split at h
      ·rename_i f as tys ho;obtain⟨as⟩:=as;split at h
       ·rename_i g cs hc;split at h
        ·exact hb h
        ·split at h
         ·rename_i nt rs b hf;split at h
          ·rename_i hB;obtain⟨fn,h1,h2,h3,h4,h5⟩:=Cg hF hf;exact⟨h.1,ak.fN ho hp hnd cI hw hc h1 h2 h3 h4 h5 hB hd h.2⟩
          ·exact hb h
         ·exact hb h
       ·exact hb h
      ·rename_i p ho;split at h
       ·rename_i t y hpp;exact Ch (N:=N) (K:=K) ⟨y,.inl rfl⟩ h hb λh1 h2=>⟨h1,λhf=>cE.nV (hp hf) hnd hd cI hw (bK.panic ho hpp) (λy O' hr=>by obtain⟨e1,_⟩:=hr;cases e1) (λy O' hr=>by obtain⟨e1,rfl⟩:=hr;cases e1;exact h2)⟩
       ·rename_i t y hpp;exact Ch (N:=N) (K:=K) ⟨.d y,.inr ⟨y,rfl⟩⟩ h hb λh1 h2=>⟨h1,λhf=>cE.nV (hp hf) hnd hd cI hw (bK.HZ ho hpp) (λy O' hr=>by obtain⟨e1,_⟩:=hr;cases e1) (λy O' hr=>by obtain⟨e1,rfl⟩:=hr;cases e1;exact h2)⟩
       ·exact hb h
      ·exact hb h
   ·exact hb h
  ·exact hb h
theorem bH.scope {C:Cx} {N:Nat} {c:Code} {Q:AQ} {Z:Sg} {O:List aq} (h:bH C N c Q Z O):bH C N (.scope c) Q Z O:=λF w0 O0 a w hs hx=>wp_scope_straight (wp_mono (h F w0 O0 a w hs hx) λe a' w' hq=>by
 obtain⟨e0,Z',O',h1,h2,h3⟩:=hq;cases e0 with
 |norm=>simp only[AE.rel]at h2;subst h2;exact⟨.norm,Z',O',h1,rfl,h3⟩
 |exit i=>simp only[AE.rel]at h2;subst h2;exact⟨.exit i,Z',O',h1,rfl,h3⟩
 |ret=>simp only[AE.rel]at h2;subst h2;exact⟨.ret,Z',O',h1,rfl,h3⟩
 |aO x=>obtain⟨v,rfl,h2⟩:=h2;exact⟨.aO x,Z',O',h1,⟨v,rfl,h2⟩,h3⟩)
theorem DC.scope {c:Code} {Z:TS} {O:Hp} (h:DC E N K c Q Z O):DC E N K (.scope c) Q Z O:=λW ZB ηB hs hh=>bH.scope (h W ZB ηB hs hh)
theorem Zk (hm:E.P.follows .mixedOrders=true) {fl:Nat} {b:Code} (h:Nx.ok E Q (GP E.T c fl N K b k Z O ns bad)) (hb:bad.ok E Q->eqs ns/\ak E N K (.code b::k) Q Z O):eqs ns/\ak E N K (.code b::k) Q Z O:=by
 unfold GP at h;split at h
 ·exact⟨h.1,DC.skip h.2⟩
 ·exact⟨h.1,DC.label h.2⟩
 ·rename_i x y;refine⟨h.1,DC.seq ?_⟩;rw[Qx];exact h.2
 ·rename_i i x;refine⟨h.1,DC.block ?_⟩;rw[aet];exact h.2
 ·rename_i id ops d;obtain⟨ops⟩:=ops;split at h
  ·exact⟨h.1,DC.region h.2⟩
  split at h
  ·rename_i u hu;split at h
   ·rename_i x hx;split at h
    ·rename_i z ns' ms hf;refine jo (P:=Nx.ok E Q) h hb λns1 he h=>?_;rw[Tr.dN]at h;obtain⟨h1,h2⟩:=he h.1;exact⟨h2,DC.cC 60 hx hf h1 h.2⟩
    ·exact hb h
   ·exact hb h
  ·split at h;rename_i pre tl al hp;split at h
   ·exact hb h
   ·rename_i A hA;split at h
    ·rename_i hB;simp only[bJ]at hB;exact⟨h.1,DC.open pre tl al A hm hA hB.1 hB.2 h.2⟩
    ·exact hb h
 ·rename_i i;split at h
  ·rename_i k' hk;refine⟨h.1,DC.exit ?_⟩;rw[oH hk];exact h.2
  ·exact hb h
 ·split at h
  ·rename_i hk;refine⟨h.1,DC.ret ?_⟩;rw[mK,hk];exact h.2
  ·rename_i N' K' Z' dst rs k' hk;refine⟨h.1,DC.ret ?_⟩;rw[mK,hk];exact h.2
  ·rename_i N' K' Z' dst rs ty z k' hk;refine⟨h.1,DC.ret ?_⟩;rw[mK,hk];exact h.2
  ·exact hb h
 ·exact⟨h.1,DC.scope h.2⟩
 ·rename_i t x y;split at h
  ·rename_i v hv;split at h
   ·split at h
    ·exact⟨h.1,DC.cond hv (λ_=>h.2) (λe=>by cases e)⟩
    ·exact⟨h.1,DC.cond hv (λe=>by cases e) (λ_=>h.2)⟩
   ·simp only[Tr.dN]at h;exact⟨h.1,DC.aeV hv h.2.1 h.2.2⟩
  ·exact hb h
 ·rename_i v x y;split at h
  ·exact⟨h.1,DC.cond (t:=true) rfl (λ_=>h.2) (λe=>by cases e)⟩
  ·exact⟨h.1,DC.cond (t:=false) rfl (λe=>by cases e) (λ_=>h.2)⟩
 ·rename_i x;split at h
  ·refine⟨h.1,DC.rounds (fl+1) ?_⟩;show DC E N K x (DE.then (oI E N K x (dq E N K k Q) fl) (dq E N K k Q)) Z O;rw[S5];exact h.2
  ·exact hb h
 ·exact hb h
theorem Qv (hm:E.P.follows .mixedOrders=true) (hfs:nY E c.fs) (hct:∀f ty z,c.ct f=some (ty,z)->uO E f ty z) (hF:∀g x,c.fn g=some x->E.P.funcs[g]? =some x) {nest:Nat->List AV->Option AV} (hnest:∀g xs z,nest g xs=some z->Pure E.toCx g xs (.ret z)) {fl:Nat} {todo:List It} (h:Nx.ok E Q (step E.P E.G E.T c nest fl N K todo Z O ns)):eqs ns/\ak E N K todo Q Z O:=by
 unfold step at h;have hb:Nx.ok E Q (.out (.stuck N K todo Z O ns))->eqs ns/\ak E N K todo Q Z O:=λh=>h;revert hb;generalize Nx.out (.stuck N K todo Z O ns)=bad at h;intro hb;rcases todo with _|⟨it,k⟩
 ·exact h
 cases it with
 |eV i=>exact h
 |lp n=>exact hb h
 |na m b=>
  cases m with
  |zero=>exact hb h
  |succ m'=>
   refine⟨h.1,?_⟩;show oI E N K _ (dq E N K _ Q) (m'+1) Z O;show DC E N K _ (DE.then (oI E N K _ (dq E N K _ Q) m') (dq E N K _ Q)) Z O;rw[S5];exact h.2
 |fr N' K' Z' dst rs=>
  unfold xY at h;simp only at h;split at h
  ·exact hb h
  ·rename_i xs hx;split at h
   ·exact⟨h.1,xs,hx,h.2⟩
   ·rw[Tr.dN]at h;exact⟨h.1,xs,hx,h.2⟩
 |ct N' K' Z' dst rs ty z=>
  unfold xY at h;simp only at h;split at h
  ·exact hb h
  ·rename_i xs hx;exact⟨h.1,xs,hx,h.2⟩
 |ops all l=>
  cases l with
  |nil=>exact⟨h.1,DO.nil h.2⟩
  |cons o r=>exact ZO hfs hct hF h hb
 |lex all tl A pre L=>
  cases pre with
  |nil=>
   unfold xY at h;simp only at h;split at h
   ·rename_i hnd;rw[GQ,Oz]at h;exact⟨h.1,eb.nil hnd (h.2 λf hf=>by cases hf)⟩
   ·exact hb h
  |cons o r=>exact ZP hnest h hb
 |tl all l A pend fs=>
  unfold xY at h;simp only at h;split at h
  ·rename_i hp;exact Oy hnest hF (λhf=>wU (sK hf) hp) h hb
  ·exact hb h
 |code b=>exact Zk hm h hb
end
def UE (T:bZ) (rs:List ResultVar):Out->Option AV
 | .fin .ret Z O []=>match eh T Z O rs with
  |some xs=>match cr O.e 60 [ff xs]with
   |some ([z],ns,_)=>match ns.all λp=>Nat.beq p.1 p.2 with
    |true=>some z
    |false=>none
   |_=>none
  |none=>none
 | .fin .norm Z O []=>match eh T Z O rs with
  |some xs=>match cr O.e 60 [ff xs]with
   |some ([z],ns,_)=>match ns.all λp=>Nat.beq p.1 p.2 with
    |true=>some z
    |false=>none
   |_=>none
  |none=>none
 |_=>none
def xZ (F:Nat->Option Func) (T:bZ) (run:Nat->Nat->List It->TS->Hp->List (Nat×Nat)->Out) (g:Nat) (xs:List AV):Option AV:=match uH F g with
 |some (nt,rs,b)=>match Nat.ble xs.length nt with
  |true=>UE T rs (run nt 0 [.code b] (iv 0 (xs.map .d)) Hp.nil [])
  |false=>none
 |none=>none
def D4 (fs:List (Nat×List AV×AV)) (nest:Nat->List AV->Option AV) (g:Nat) (xs:List AV):Option AV:=match nI fs g xs with
 |some z=>some z
 |none=>nest g xs
def dx (P:Program) (G:Gl) (T:bZ) (c:gR):Nat->Nat->Nat->List It->TS->Hp->List (Nat×Nat)->Out
 |0,N,K,todo,Z,O,ns=> .stuck N K todo Z O ns
 |f+1,N,K,todo,Z,O,ns=>match step P G T c (D4 c.fs (xZ c.fn T (dx P G T c f))) f N K todo Z O ns with
  | .go N' K' todo' Z' O' ns'=>dx P G T c f N' K' todo' Z' O' ns'
  | .out o=>o
section
variable {E:Env}
theorem abE {F:Nat->Option Func} (hF:∀g x,F g=some x->E.P.funcs[g]? =some x) {run:Nat->Nat->List It->TS->Hp->List (Nat×Nat)->Out} (hr:∀(Q:DQ) N K todo Z O ns,Out.ok E Q (run N K todo Z O ns)->eqs ns/\ak E N K todo Q Z O) {g:Nat} {xs:List AV} {z:AV} (h:xZ F E.T run g xs=some z):Pure E.toCx g xs (.ret z):=by
 unfold xZ at h;split at h
 ·rename_i nt rs b hf;obtain⟨fn,h1,h2,h3,h4,h5⟩:=Cg hF hf;split at h
  ·rename_i hle;refine Pure.Xg 60 (eH.enter h1 h2 h3 rs h4 nt h5 (by simpa using hle) ?_);have key:∀{Z':TS} {O':Hp} {xs':List CV} {ns1:List (Nat×Nat)} {ms1:List (Nat×br)} {z':AV},eh E.T Z' O' rs=some xs'->cr O'.e 60 [ff xs']=some ([z'],ns1,ms1)->(ns1.all λp=>Nat.beq p.1 p.2)=true->some z'=some z->
     ∃ys,eh E.T Z' O' rs=some ys/\Ends 60 (.ret z) (.ret (ff ys)) O':=by
    intro Z' O' xs' ns1 ms1 z' g1 g2 g3 g4;cases g4;exact⟨xs',g1,z,ns1,ms1,g2,Hw g3,z,rfl,bV.refl z⟩
   have:=hr (RD E.T rs (Ends 60 (.ret z))) nt 0 [.code b] (iv 0 (xs.map .d)) Hp.nil [];revert h this;generalize run nt 0 [.code b] (iv 0 (xs.map .d)) Hp.nil []=out;intro h hr';refine(hr' ?_).2;unfold UE at h;split at h
   ·split at h
    ·rename_i xs' g1;split at h
     ·rename_i z' ns1 ms1 g2;split at h
      ·rename_i g3;exact⟨trivial,key g1 g2 g3 h⟩
      ·cases h
     ·cases h
    ·cases h
   ·split at h
    ·rename_i xs' g1;split at h
     ·rename_i z' ns1 ms1 g2;split at h
      ·rename_i g3;exact⟨trivial,key g1 g2 g3 h⟩
      ·cases h
     ·cases h
    ·cases h
   ·cases h
  ·cases h
 ·cases h
theorem Ub (hm:E.P.follows .mixedOrders=true) (c:gR) (hfs:nY E c.fs) (hct:∀f ty z,c.ct f=some (ty,z)->uO E f ty z) (hF:∀g x,c.fn g=some x->E.P.funcs[g]? =some x):∀(f:Nat) (Q:DQ) (N K:Nat) (todo:List It) (Z:TS) (O:Hp) (ns:List (Nat×Nat)),Out.ok E Q (dx E.P E.G E.T c f N K todo Z O ns)->eqs ns/\ak E N K todo Q Z O
 |0,_,_,_,_,_,_,_,h=>h
 |f+1,Q,N,K,todo,Z,O,ns,h=>by
  have ih:=Ub hm c hfs hct hF f;refine Qv (c:=c) (fl:=f) hm hfs hct hF (nest:=D4 c.fs (xZ c.fn E.T (dx E.P E.G E.T c f))) (λg xs z hz=>?_) ?_
  ·unfold D4 at hz;split at hz
   ·rename_i z' hl;cases hz;exact sK hfs g xs z hl
   ·exact abE hF (λQ N K todo Z O ns=>ih Q N K todo Z O ns) hz
  unfold dx at h;revert h;generalize step E.P E.G E.T c (D4 c.fs (xZ c.fn E.T (dx E.P E.G E.T c f))) f N K todo Z O ns=nx;intro h;cases nx with
  |go N' K' todo' Z' O' ns'=>exact ih Q N' K' todo' Z' O' ns' h
  |out o=>exact h
