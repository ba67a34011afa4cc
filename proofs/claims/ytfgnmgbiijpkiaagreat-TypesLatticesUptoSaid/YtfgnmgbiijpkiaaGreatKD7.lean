/- The abstract machine, seventh part: many steps at once; a run from beginning to end. -/
import Derived.Test.YtfgnmgbiijpkiaaGreatKD6
set_option linter.all false
noncomputable section
namespace Go.Bw
open Go
def PR (m:List Nat):List Edge->Nat
 |[]=>0
 |e::r=>Nat.lor (PR m r) (Nat.lor (Nat.shiftLeft 1 e.on) ((nth m e.on).getD 0))
def RB:List Oper->List Nat->List Nat
 |[],m=>m
 |o::r,m=>RB r (m++[PR m (o.after.toList.filter λe=>Region.binds .any e)])
def RC (imp:Nat->Bool):Op->Bool
 | .store _ _ _=>true
 | .makeSlice _ _ _=>true
 | .mapUpdate _ _ _ _=>true
 | .makeMap _ _=>true
 | .panic _=>true
 | .defer _=>true
 | .range _ _=>true
 | .next _ _=>true
 | .entry _=>true
 | .call c=>match c.callee with
  | .builtin .append=>true
  | .builtin .len=>false
  | .builtin _=>true
  | .value (.func g)=>imp g
  | .value _=>true
  | .invoke _ _=>true
 |_=>false
def Bg (d:Nat):List Oper->Bool
 |[]=>false
 |o::r=>match o.op with
  | .call {callee:= .builtin .append,args:=as,argTypes:=_}=>match as.toList with
   | .tmp t::_=>match Nat.beq t d with
    |true=>true
    |false=>Bg d r
   |_=>Bg d r
  |_=>Bg d r
def GU (all:List Oper) (o:Oper):Bool:=match o.op,o.dst with
 | .buildSlice _ _ _,some d=>Bg d all
 |_,_=>false
def GV (imp:Nat->Bool) (all:List Oper):Nat->List Oper->List Nat
 |_,[]=>[]
 |i,o::r=>match RC imp o.op||GU all o with
  |true=>i::GV imp all (i+1) r
  |false=>GV imp all (i+1) r
def PS (m:List Nat):Nat->Nat->List Nat->List Nat
 |0,_,t=>t
 |f+1,n,t=>
  let new:=(List.range n).filter λi=>!t.contains i&&t.any λj=>!Nat.testBit ((nth m j).getD 0) i
  match new with
  |[]=>t
  |_::_=>PS m f n (t++new)
def OU (imp:Nat->Bool) (o:Oper):Bool:=match o.op with
 | .box _ _=>false
 | .alloc _=>false
 | .call c=>match c.callee with
  | .builtin .len=>true
  | .value (.func g)=>!imp g
  | .value _=>false
  |_=>false
 |op=>!RC imp op
def Z8 (imp:Nat->Bool) (ops:List Oper):List Nat×List (Nat×TK):=
 let t:=PS (RB ops []) 60 ops.length (GV imp ops 0 ops)
 ((List.range ops.length).filter λi=>!t.contains i,((List.range ops.length).filter λi=>t.contains i).map λi=>(i,match nth ops i with
  |some o=>match OU imp o&& !GU ops o with
   |true=> .fl
   |false=> .one
  |none=> .one))
def alB (o:Oper):Bool:=match o.op,o.dst,o.guard with
 | .alloc _,some _,none=>o.after.all λe=>!Region.binds .any e
 |_,_,_=>false
def AX (imp:Nat->Bool) (ops:Array Oper):Nat->Array Bool->List (Nat×TK)
 |0,_=>[]
 |f+1,listed=>match Region.ready .any ops listed with
  |[]=>[]
  |i::r=>match(i::r).find? λi=>match ops[i]? with
    |some o=>OU imp o&& !GU ops.toList o
    |none=>false with
   |some j=>(j,.fl)::AX imp ops f (listed.setIfInBounds j true)
   |none=>match r with
    |[]=>(i,.one)::AX imp ops f (listed.setIfInBounds i true)
    |[j]=>(i,.two)::(j,.one)::AX imp ops f ((listed.setIfInBounds i true).setIfInBounds j true)
    |_=>[]
def BV:Nat->List Oper->List Nat
 |_,[]=>[]
 |i,o::r=>match alB o with
  |true=>i::BV (i+1) r
  |false=>BV (i+1) r
def Z9 (imp:Nat->Bool) (ops:List Oper):List Nat×List (Nat×TK)×List Nat:=match Z8 imp ops with
 |(pre,tl)=>match pG ops.toArray pre tl []with
  |true=>(pre,tl,[])
  |false=>([],AX imp ops.toArray ops.length (ki (BV 0 ops) (Array.replicate ops.length false)),BV 0 ops)
inductive Out where
 |stuck (N K:Nat) (todo:List It) (Z:TS) (O:Hp) (ns:List (Nat×Nat))
 |cond (b:Bool) (N K:Nat) (t1:List It) (s1:TS) (t2:List It) (s2:TS) (O:Hp) (ns:List (Nat×Nat))
 |fin (e:DE) (Z:TS) (O:Hp) (ns:List (Nat×Nat))
inductive Nx where
 |go (N K:Nat) (todo:List It) (Z:TS) (O:Hp) (ns:List (Nat×Nat))
 |out (o:Out)
def Out.ok (E:Env) (Q:DQ):Out->Prop
 | .stuck N K todo Z O ns=>eqs ns/\ak E N K todo Q Z O
 | .cond b N K t1 s1 t2 s2 O ns=>eqs ns/\(b=true->ak E N K t1 Q s1 O)/\(b=false->ak E N K t2 Q s2 O)
 | .fin e Z O ns=>eqs ns/\Q e Z O
def Nx.ok (E:Env) (Q:DQ):Nx->Prop
 | .go N K todo Z O ns=>eqs ns/\ak E N K todo Q Z O
 | .out o=>o.ok E Q
structure fy where
 cl:Bool
 inl:Nat->Bool
 imp:Nat->Bool
 own:Nat->Bool
 fn:Nat->Option Func
 ct:Nat->Option (TypeId×AV)
 fs:List (Nat×List AV×AV)
def I7 (n:Nat) (t:Tr Func) (g:Nat):Option Func:=match Nat.blt g n with
 |true=>t.get g
 |false=>none
theorem YV {P:Program} {n:Nat} {t:Tr Func} (h:(List.range n).map t.get=P.funcs.toList.map some):∀g x,I7 n t g=some x->P.funcs[g]? =some x:=λg x hx=>by
 unfold I7 at hx;split at hx
 ·rename_i hlt;have hlt:g<n:=by simpa using hlt
  have h1:((List.range n).map t.get)[g]? =some (t.get g):=by simp[hlt]
  rw[h,hx]at h1;simp only[my,Option.map_eq_some_iff]at h1;obtain⟨y,h2,h3⟩:=h1;cases h3;simpa using h2
 ·cases hx
def ue (F:Nat->Option Func) (g:FuncId):Option (Nat×List ResultVar×Code):=match F g with
 |some fn=>match fn.body,(fn.name== "runtime.NumGoroutine")with
  |some c,false=>some (fn.ntmps,fn.results.toList,c)
  |_,_=>none
 |none=>none
def ic {R:Type} (cl:Bool) (ns' ns:List (Nat×Nat)) (bad:R) (k:List (Nat×Nat)->R):R:=match cl with
 |false=>k (ns'++ns)
 |true=>match ns'.all λp=>Nat.beq p.1 p.2 with
  |true=>k ns
  |false=>bad
def OV (d:Nat) (l:List Oper):Bool:=l.any λo=>o.op.operands.toList.any λ
 | .tmp t=>Nat.beq t d
 |_=>false
def uc {R:Type}:Nat->Nat->Nat->(Nat->R)->R
 |0,n,acc,k=>k (n+acc)
 |f+1,n,acc,k=>match n with
  |0=>k acc
  |m+1=>uc f m (acc+1) k
theorem zw {R:Type} (k:Nat->R):∀(f n acc:Nat),uc f n acc k=k (n+acc)
 |0,_,_=>rfl
 |f+1,0,acc=>by rw[oS];rfl
 |f+1,m+1,acc=>by
  have:=zw k f m (acc+1);rw[show m+1+acc=m+(acc+1)by omega,<-this];rfl
def wC {R:Type}:List (Nat×List CV)->TS->Hp->(TS->Hp->R)->R
 |[],Z,O,k=>k Z O
 |(d,cs)::r,Z,O,k=>match O with
  |⟨e,m⟩=>uc 1000 m 0 λn=>Tr.cD 24 Z d (some (.own n 0)) λσ'=>Tr.cD 24 e n (some (.box cs)) λe'=>wC r σ' ⟨e',n+1⟩ k
def preB (Z:TS):Op->Option Nat
 | .build _ parts=>DK Z parts.toList
 | .slice _ (.tmp u) _ _ _=>match Z.get u with
  |some (.os _ _)=>some u
  |_=>none
 | .convert _ _ (.tmp u)=>match Z.get u with
  |some (.os _ _)=>some u
  |_=>none
 |_=>none
def acr (o:Oper):List Oper->Bool
 |o2::_=>match o.dst,o2.op with
  |some d,.call {callee:= .builtin .clear,args:=as,argTypes:=_}=>match as.toList with
   |[.tmp u]=>Nat.beq d u
   |_=>false
  |_,_=>false
 |[]=>false
def Ew:CV->Option AV
 | .bB _ (.d y)=>match mY y with
  |true=>some y
  |false=>none
 | .d (.bB _ y)=>match mY y with
  |true=>some y
  |false=>none
 |_=>none
def ta (t:TypeId) (x:CV) (k:List It) (O:Hp) (ns:List (Nat×Nat)) (bad:Nx):Nx:=match jF k with
 |none=> .out (.fin (.aO x) .lf O ns)
 |some (N',K',σ',dst,ty,k')=>match Nat.beq t ty,Ew x with
  |true,some y=> .go N' K' k' (bW σ' dst (.d y)) O ns
  |_,_=>bad
def nY:List (Nat×List AV×AV)->Nat->List AV->Option AV
 |[],_,_=>none
 |(g',xs',z)::r,g,xs=>match Nat.beq g g'&&l8 xs xs' with
  |true=>some z
  |false=>nY r g xs
def ib (nest:Nat->List AV->Option AV) (Z:TS):Op->Option (Option CV)
 | .call {callee:= .value f,args:=as,argTypes:=_}=>match cT Z f as.toList with
  |some (g,cs)=>match fq cs with
   |some xs=>match nest g xs with
    |some z=>some (some (.d z))
    |none=>some none
   |none=>none
  |none=>none
 |_=>none
def AJ {R:Type}:bR->TS->(TS->R)->R
 |[],Z,k=>k Z
 |p::A,Z,k=>Tr.cD 24 Z p.2.1 none λσ1=>AJ A σ1 k
theorem Y4 {Z:TS} {op:Op}:eG 4227104 op (preB Z op)=preB Z op:=by cases op<;>kernel_rfl
theorem Yb {nest:Nat->List AV->Option AV} {Z:TS} {op:Op}:eG 68719476736 op (ib nest Z op)=ib nest Z op:=by cases op<;>kernel_rfl
theorem Z' {cl:Bool} {T:bX} {N:Nat} {Z:TS} {O:Hp} {o:Oper}:eG 68721574488 o.op (cz cl T N Z O o)=cz cl T N Z O o:=by
 obtain⟨d,op,_,_,_,_⟩:=o;cases op<;>kernel_rfl
theorem Y5 {cl:Bool} {T:bX} {N:Nat} {Z:TS} {O:Hp} {d:Option Nat} {op:Op} {t:TypeId} {p:String} {a:Array Edge} {g:Option (Nat×Bool)}:eG 68721574488 op (cz cl T N Z O ⟨d,op,t,p,a,g⟩)=cz cl T N Z O ⟨d,op,t,p,a,g⟩:=Z' (o:=⟨d,op,t,p,a,g⟩)
def OW (P:Program) (G:Gl) (T:bX) (c:fy) (N K:Nat) (all:List Oper) (o:Oper) (r:List Oper) (k:List It) (Z:TS) (O:Hp) (ns:List (Nat×Nat)) (bad:Nx) (j:Nat) (want:Bool):Nx:=match o.dst,nth all j with
 |some e,some oj=>match oj.dst,Nat.blt e N with
  |some d,true=>match Z.get d with
   |some (.d (.v (.bool t)))=>match c.cl with
    |true=>match t,want with
     |true,true=> .go N K (.ops all (⟨some e,o.op,o.type,o.pos,o.after,none⟩::r)::k) Z O ns
     |false,false=> .go N K (.ops all (⟨some e,o.op,o.type,o.pos,o.after,none⟩::r)::k) Z O ns
     |true,false=>Tr.cD 24 Z e (some (.d (.v undef))) λσ1=> .go N K (.ops all r::k) σ1 O ns
     |false,true=>Tr.cD 24 Z e (some (.d (.v undef))) λσ1=> .go N K (.ops all r::k) σ1 O ns
    |false=>Tr.cD 24 Z d (some (.d (.v (.bool true)))) λZt=>Tr.cD 24 Z d (some (.d (.v (.bool false)))) λZf=>match want with
     |true=>Tr.cD 24 Zf e (some (.d (.v undef))) λZn=> .out (.cond t N K (.ops all (⟨some e,o.op,o.type,o.pos,o.after,none⟩::r)::k) Zt (.ops all r::k) Zn O ns)
     |false=>Tr.cD 24 Zt e (some (.d (.v undef))) λZn=> .out (.cond t N K (.ops all r::k) Zn (.ops all (⟨some e,o.op,o.type,o.pos,o.after,none⟩::r)::k) Zf O ns)
   |some (.d (.v (.tuple a)))=>match a.toList with
    |[]=>Tr.cD 24 Z e (some (.d (.v undef))) λσ1=> .go N K (.ops all r::k) σ1 O ns
    |_::_=>bad
   |_=>bad
  |_,_=>bad
 |_,_=>bad
def OX (P:Program) (G:Gl) (T:bX) (c:fy) (N K:Nat) (all:List Oper) (o:Oper) (r:List Oper) (k:List It) (Z:TS) (O:Hp) (ns:List (Nat×Nat)) (bad:Nx):Nx:=match o.op with
 | .call {callee:= .value f,args:=as,argTypes:=_}=>match cT Z f as.toList with
  |some (g,cs)=>match c.inl g with
   |false=>bad
   |true=>match c.ct g with
    |some (ty,z)=>match cs with
     |[x]=>match BW x with
      |some (g',fs',cs')=>match ue c.fn g' with
       |some (nt,rs,b)=>match Nat.ble (fs'++cs').length nt&&ck N o.dst with
        |true=> .go nt O.n (.code b:: .ct N K Z o.dst rs ty z:: .ops all r::k) (gH 0 (fs'++cs')) O ns
        |false=>bad
       |none=>bad
      |none=>bad
     |_=>bad
    |none=>match ue c.fn g with
     |some (nt,rs,b)=>match Nat.ble cs.length nt&&ck N o.dst with
      |true=> .go nt O.n (.code b:: .fr N K Z o.dst rs:: .ops all r::k) (gH 0 cs) O ns
      |false=>bad
     |none=>bad
  |none=>bad
 | .panic p=>match a6 Z p with
  |some (.bB t y)=>ta t (.bB t y) k O ns bad
  |some (.d (.bB t y))=>ta t (.d (.bB t y)) k O ns bad
  |_=>bad
 |_=>bad
def OY (P:Program) (G:Gl) (T:bX) (c:fy) (N K:Nat) (all:List Oper) (o:Oper) (r:List Oper) (k:List It) (Z:TS) (O:Hp) (ns:List (Nat×Nat)) (bad:Nx):Nx:=match eG 68721574488 o.op (cz c.cl T N Z O o)with
 |some (.push d x ce)=>Tr.cD 24 Z d (some x) λσ1=>Tr.cD 24 O.e O.n (some ce) λe1=> .go N K (.ops all r::k) σ1 ⟨e1,O.n+1⟩ ns
 |some (.set i ce ns')=>ic c.cl ns' ns bad λns1=>Tr.cD 24 O.e i (some ce) λe1=> .go N K (.ops all r::k) Z ⟨e1,O.n⟩ ns1
 |some (.app i d x ce ns')=>ic c.cl ns' ns bad λns1=>Tr.cD 24 Z d (some x) λσ1=>Tr.cD 24 O.e i (some ce) λe1=> .go N K (.ops all r::k) σ1 ⟨e1,O.n⟩ ns1
 |some (.tT t e kk)=>Tr.cD 24 Z t (some (.os O.n 0)) λσ1=>Tr.cD 24 O.e O.n (some (.row e kk [])) λe1=> .go N K (.ops all (o::r)::k) σ1 ⟨e1,O.n+1⟩ ns
 |some (.cH t z ns' ms)=>ic c.cl ns' ns bad λns1=>Tr.cD 24 Z t (some (.d z)) λσ1=> .go N K (.ops all (o::r)::k) σ1 (iE ms O) ns1
 |none=>OX P G T c N K all o r k Z O ns bad
def OZ (P:Program) (G:Gl) (T:bX) (c:fy) (N K:Nat) (all:List Oper) (o:Oper) (r:List Oper) (k:List It) (Z:TS) (O:Hp) (ns:List (Nat×Nat)) (bad:Nx):Nx:=match eG 68719476736 o.op (ib (nY c.fs) Z o.op)with
 |some (some x)=>match ck N o.dst with
  |false=>bad
  |true=> .go N K (.ops all r::k) (bW Z o.dst x) O ns
 |_=>OY P G T c N K all o r k Z O ns bad
def O0 (P:Program) (G:Gl) (T:bX) (c:fy) (N K:Nat) (all:List Oper) (o:Oper) (r:List Oper) (k:List It) (Z:TS) (O:Hp) (ns:List (Nat×Nat)) (bad:Nx):Nx:=match du P G T c.cl Z O o.op with
 |some (x,ns')=>match o.dst with
  |none=>bad
  |some d=>match Nat.blt d N with
   |false=>bad
   |true=>ic c.cl ns' ns bad λns1=>Tr.cD 24 Z d (some x) λσ1=> .go N K (.ops all r::k) σ1 O ns1
 |none=>OZ P G T c N K all o r k Z O ns bad
def O1 (P:Program) (G:Gl) (T:bX) (c:fy) (N K:Nat) (all:List Oper) (o:Oper) (r:List Oper) (k:List It) (Z:TS) (O:Hp) (ns:List (Nat×Nat)) (bad:Nx):Nx:=match eG 4227104 o.op (preB Z o.op)with
 |some u=>match acr o r with
  |true=>bad
  |false=>match Z.get u with
   |some x=>match b5 O.e 60 [x]with
    |some ([z],ns',ms)=>ic c.cl ns' ns bad λns1=>Tr.cD 24 Z u (some (.d z)) λσ1=> .go N K (.ops all (o::r)::k) σ1 (iE ms O) ns1
    |_=>bad
   |none=>bad
 |none=>O0 P G T c N K all o r k Z O ns bad
def DL (P:Program) (G:Gl) (T:bX) (c:fy) (N K:Nat) (all:List Oper) (o:Oper) (r:List Oper) (k:List It) (Z:TS) (O:Hp) (ns:List (Nat×Nat)) (bad:Nx):Nx:=match o.guard with
 |some (j,want)=>OW P G T c N K all o r k Z O ns bad j want
 |none=>O1 P G T c N K all o r k Z O ns bad
def DM (P:Program) (G:Gl) (T:bX) (c:fy) (nest:Nat->List AV->Option AV) (N K:Nat) (all:List Oper) (tl:List (Nat×Oper×TK)) (A:bR) (o:Oper) (r:List Oper) (W:List (Nat×List CV)) (k:List It) (Z:TS) (O:Hp) (ns:List (Nat×Nat)) (bad:Nx):Nx:=match cC all o Z with
 |some false=>match o.dst,lZ o W with
  |some d,true=>match Nat.blt d N with
   |true=>Tr.cD 24 Z d (some (.d (.v undef))) λσ1=> .go N K (.lex all tl A r W::k) σ1 O ns
   |false=>bad
  |_,_=>bad
 |some true=>match o.dst,lZ o W with
  |some d,true=>match Nat.blt d N with
   |false=>bad
   |true=>match du P G T c.cl Z O o.op with
    |some (x,ns')=>ic c.cl ns' ns bad λns1=>Tr.cD 24 Z d (some x) λσ1=> .go N K (.lex all tl A r W::k) σ1 O ns1
    |none=>match o.op with
     | .box _ p=>match a6 Z p with
      |some x=>match OV d r&& !c.own d,fq (dF x)with
       |true,some ys=>Tr.cD 24 Z d (some (.d (.ip ys))) λσ1=> .go N K (.lex all tl A r W::k) σ1 O ns
       |_,_=>Tr.cD 24 Z d none λσ1=> .go N K (.lex all tl A r (W++[(d,dF x)])::k) σ1 O ns
      |none=>bad
     | .alloc t=>match a7 T t with
      |some ⟨_,_,_,z⟩=>match OV d r&& !c.own d with
       |true=>Tr.cD 24 Z d (some (.d (.ip (z.map .v)))) λσ1=> .go N K (.lex all tl A r W::k) σ1 O ns
       |false=>Tr.cD 24 Z d none λσ1=> .go N K (.lex all tl A r (W++[(d,(z.map .v).map .d)])::k) σ1 O ns
      |none=>bad
     | .buildSlice t n parts=>match a7 T t with
      |some ⟨.slice e kk,_,_,_⟩=>match a7 T e with
       |some ⟨_,_,_,z'⟩=>match eM kk (ee Z) (gD n (z'.map .v)) parts.toList with
        |some cells=>match Nat.ble (n*kk) 16777216&&Nat.ble 1 kk with
         |true=>Tr.cD 24 Z d (some (.d (.sl kk (chunk n kk cells)))) λσ1=> .go N K (.lex all tl A r W::k) σ1 O ns
         |false=>bad
        |none=>bad
       |none=>bad
      |_=>bad
     | .call {callee:= .value f,args:=as,argTypes:=_}=>match cT Z f as.toList with
      |some (g,cs)=>match c.inl g with
       |false=>bad
       |true=>match b5 O.e 60 cs with
        |some (xs,ns',ms)=>match nest g xs with
         |some z=>match ms with
          |[]=>ic c.cl ns' ns bad λns1=>Tr.cD 24 Z d (some (.d z)) λσ1=> .go N K (.lex all tl A r W::k) σ1 O ns1
          |_::_=>match cU z with
           |true=>ic c.cl ns' ns bad λns1=>Tr.cD 24 Z d (some (.d z)) λσ1=> .go N K (.lex all tl A r W::k) σ1 O ns1
           |false=>bad
         |none=>bad
        |none=>bad
      |none=>bad
     |_=>bad
  |_,_=>bad
 |none=>match o.guard with
  |some (j,_)=>match(nth all j).bind (·.dst)with
   |some d=>match Z.get d with
    |some (.d (.v (.bool t)))=>match c.cl with
     |true=>bad
     |false=>Tr.cD 24 Z d (some (.d (.v (.bool true)))) λZt=>Tr.cD 24 Z d (some (.d (.v (.bool false)))) λZf=> .out (.cond t N K (.lex all tl A (o::r) W::k) Zt (.lex all tl A (o::r) W::k) Zf O ns)
    |_=>bad
   |none=>bad
  |none=>bad
def Bh (P:Program) (G:Gl) (T:bX) (cl:Bool) (Z:TS) (O:Hp) (op:Op):Option (CV×List (Nat×Nat)):=match du P G T cl Z O op with
 |some p=>some p
 |none=>match op with
  | .buildSlice t n parts=>match a7 T t with
   |some ⟨.slice e kk,_,_,_⟩=>match a7 T e with
    |some ⟨_,_,_,z'⟩=>match eM kk (ee Z) (gD n (z'.map .v)) parts.toList with
     |some cells=>match Nat.ble (n*kk) 16777216&&Nat.ble 1 kk with
      |true=>some (.d (.sl kk (chunk n kk cells)),[])
      |false=>none
     |none=>none
    |none=>none
   |_=>none
  |_=>none
def GW (P:Program) (G:Gl) (T:bX) (nest:Nat->List AV->Option AV) (cl:Bool) (Z:TS) (O:Hp) (op:Op):Option (CV×List (Nat×Nat)):=match Bh P G T cl Z O op with
 |some p=>some p
 |none=>match op with
  | .call {callee:= .value f,args:=as,argTypes:=_}=>match cT Z f as.toList with
   |some (g,cs)=>match b5 O.e 60 cs with
    |some (xs,ns',ms)=>match nest g xs with
     |some z=>match ms with
      |[]=>some (.d z,ns')
      |_::_=>match cU z with
       |true=>some (.d z,ns')
       |false=>none
     |none=>none
    |none=>none
   |none=>none
  |_=>none
def rb (P:Program) (G:Gl) (T:bX) (nest:Nat->List AV->Option AV) (cl:Bool) (all:List Oper) (Z:TS) (O:Hp):List (Nat×Oper×CV)->Bool
 |[]=>true
 |(_,o,x)::r=>match cl with
  |false=>false
  |true=>match cC all o Z with
   |some true=>match GW P G T nest true Z O o.op with
    |some (y,ns)=>match kF x y&&ns.all λp=>Nat.beq p.1 p.2 with
     |true=>rb P G T nest cl all Z O r
     |false=>false
    |none=>false
   |some false=>match x with
    | .d (.v (.tuple a))=>match a.toList with
     |[]=>rb P G T nest cl all Z O r
     |_::_=>false
    |_=>false
   |none=>false
def GX (P:Program) (G:Gl) (T:bX) (cl:Bool) (Z:TS) (op:Op):Option CV:=
 match eG 51565228327 op (GY T (ee Z) op)with
 |some y=>some (.d y)
 |none=>match eG 51565170727 op (GZ T Z op)with
  |some x=>some x
  |none=>match eG 33024 op (lu G T (ee Z) op)with
   |some y=>some (.d y)
   |none=>match cl with
    |false=>none
    |true=>match eG 104865792 op (ed P T (ee Z) op)with
     |some y=>some (.d y)
     |none=>match eG 68719484928 op (eS P (ee Z) op)with
      |some y=>some (.d y)
      |none=>none
def kx (nest:Nat->List AV->Option AV) (Z:TS) (O:Hp):Op->Option (AV×List (Nat×Nat)×Nat×List AV)
 | .call {callee:= .value f,args:=as,argTypes:=_}=>match cT Z f as.toList with
  |some (g,cs)=>match b5 O.e 60 cs with
   |some (xs,ns',ms)=>match nest g xs with
    |some z=>match ms with
     |[]=>some (z,ns',g,xs)
     |_::_=>match cU z with
      |true=>some (z,ns',g,xs)
      |false=>none
    |none=>none
   |none=>none
  |none=>none
 |_=>none
def vZ (P:Program) (G:Gl) (T:bX) (c:fy) (nest:Nat->List AV->Option AV) (N K:Nat) (all:List Oper) (l:List (Nat×Oper×TK)) (A:bR) (pend:List (Nat×Oper×CV)) (fs:List (Nat×List AV×AV)) (k:List It) (Z:TS) (O:Hp) (ns:List (Nat×Nat)) (bad:Nx):Nx:=match l with
 |[]=> .go N K k Z O ns
 |[(_,_,.two)]=>bad
 |(i,o,.two)::(j,o',_)::l=>match c.cl,cC all o Z,cC all o' Z with
  |true,some true,some true=>match Ff c.cl T N Z O o o' with
   |some (a,ca,b,cb)=>match rb P G T (nY fs) c.cl all Z (O.set a ca) (cG all i pend)&&rb P G T (nY fs) c.cl all Z (O.set b cb) (cG all j pend)with
    |true=>Tr.cD 24 O.e a (some ca) λe1=>Tr.cD 24 e1 b (some cb) λe2=> .go N K (.tl all l A (cG all j (cG all i pend)) fs::k) Z ⟨e2,O.n⟩ ns
    |false=>bad
   |none=>bad
  |_,_,_=>bad
 |(i,o,.fl)::l=>match ck N o.dst with
  |false=>bad
  |true=>match cC all o Z with
    |some false=> .go N K (.tl all l A pend fs::k) (bW Z o.dst (.d (.v undef))) O ns
    |some true=>match GX P G T c.cl Z o.op with
     |some x=> .go N K (.tl all l A pend fs::k) (bW Z o.dst x) O ns
     |none=>match ib nest Z o.op with
      |some none=>bad
      |some (some x)=> .go N K (.tl all l A pend fs::k) (bW Z o.dst x) O ns
      |none=>match Bh P G T c.cl Z O o.op with
       |some (x,ns')=>ic c.cl ns' ns bad λns1=> .go N K (.tl all l A ((i,o,x)::pend) fs::k) (bW Z o.dst x) O ns1
       |none=>match kx nest Z O o.op with
        |some (z,ns',g,xs)=>ic c.cl ns' ns bad λns1=> .go N K (.tl all l A ((i,o,.d z)::pend) ((g,xs,z)::fs)::k) (bW Z o.dst (.d z)) O ns1
        |none=>bad
    |none=>bad
 |(i,o,.one)::l=>match e9 ((dB (cd all.toArray i A)).map (·.1)),ck N o.dst with
  |true,true=>wC (dB (cd all.toArray i A)) Z O λσ1 η1=>match cC all o σ1 with
    |some false=> .go N K (.tl all l (cv all.toArray i A) (cG all i pend) fs::k) (bW σ1 o.dst (.d (.v undef))) η1 ns
    |some true=>match du P G T c.cl σ1 η1 o.op with
     |some (x,ns')=>ic c.cl ns' ns bad λns1=> .go N K (.tl all l (cv all.toArray i A) (cG all i pend) fs::k) (bW σ1 o.dst x) η1 ns1
     |none=>match tU c.cl T N 20 σ1 η1 o with
      |some (.push _ x ce,η2,ns')=>ic c.cl ns' ns bad λns1=>Tr.cD 24 η2.e η2.n (some ce) λe1=> .go N K (.tl all l (cv all.toArray i A) (cG all i pend) fs::k) (bW σ1 o.dst x) ⟨e1,η2.n+1⟩ ns1
      |some (.set j ce _,η2,ns')=>ic c.cl ns' ns bad λns1=>Tr.cD 24 η2.e j (some ce) λe1=> .go N K (.tl all l (cv all.toArray i A) (cG all i pend) fs::k) (bW σ1 o.dst (.d (.v undef))) ⟨e1,η2.n⟩ ns1
      |some (.app j _ x ce _,η2,ns')=>ic c.cl ns' ns bad λns1=>Tr.cD 24 η2.e j (some ce) λe1=> .go N K (.tl all l (cv all.toArray i A) (cG all i pend) fs::k) (bW σ1 o.dst x) ⟨e1,η2.n⟩ ns1
      |some _=>bad
      |none=>match o.op with
       | .call {callee:= .value f,args:=as,argTypes:=_}=>match cT σ1 f as.toList with
        |some (g,cs)=>match c.inl g with
         |false=>bad
         |true=>match ue c.fn g with
          |some (nt,rs,b)=>match Nat.ble cs.length nt with
           |true=> .go nt η1.n (.code b:: .fr N K σ1 o.dst rs:: .tl all l (cv all.toArray i A) (cG all i pend) fs::k) (gH 0 cs) η1 ns
           |false=>bad
          |none=>bad
        |none=>bad
       | .panic p=>match a6 σ1 p with
        |some (.bB t y)=>ta t (.bB t y) k η1 ns bad
        |some (.d (.bB t y))=>ta t (.d (.bB t y)) k η1 ns bad
        |_=>bad
       |_=>bad
    |none=>bad
  |_,_=>bad
def AY (Z:TS) (all:List Oper):List Oper->Option Nat
 |[]=>none
 |o::r=>match o.op with
  | .slice _ (.tmp u) _ _ _=>match Z.get u with
   |some (.os _ _)=>some u
   |_=>match all.find? λo'=>match o'.dst with
     |some d=>Nat.beq d u
     |none=>false with
    |some ⟨_,.move (.tmp v),_,_,_,_⟩=>match Z.get v with
     |some (.os _ _)=>some v
     |_=>AY Z all r
    |_=>AY Z all r
  |_=>AY Z all r
def Dd (T:bX) (c:fy) (fl N K:Nat) (b:Code) (k:List It) (Z:TS) (O:Hp) (ns:List (Nat×Nat)) (bad:Nx):Nx:=match b with
 | .skip=> .go N K k Z O ns
 | .label _=> .go N K k Z O ns
 | .seq x y=> .go N K (.code x:: .code y::k) Z O ns
 | .block i x=> .go N K (.code x:: .oI i::k) Z O ns
 | .region _ ops d=>match d with
  |false=> .go N K (.ops ops.toList ops.toList::k) Z O ns
  |true=>match AY Z ops.toList ops.toList with
   |some u=>match Z.get u with
    |some x=>match b5 O.e 60 [x]with
     |some ([z],ns',ms)=>ic c.cl ns' ns bad λns1=>Tr.cD 24 Z u (some (.d z)) λσ1=> .go N K (.code b::k) σ1 (iE ms O) ns1
     |_=>bad
    |none=>bad
   |none=>match Z9 c.imp ops.toList with
    |(pre,tl,al)=>match ny T ops N al with
     |none=>bad
     |some A=>match pG ops pre tl al&&Nat.beq (fQ ops pre).length pre.length with
      |true=> .go N K (.lex ops.toList (jC ops tl) A (fQ ops pre) []::k) Z O ns
      |false=>bad
 | .exit i=>match ku i k with
  |some k'=> .go N K k' Z O ns
  |none=>bad
 | .ret=>match nf k with
  |[]=> .out (.fin .ret Z O ns)
  | .fr N' K' σ' dst rs::k'=> .go N K (.fr N' K' σ' dst rs::k') Z O ns
  | .ct N' K' σ' dst rs ty z::k'=> .go N K (.ct N' K' σ' dst rs ty z::k') Z O ns
  |_=>bad
 | .scope x=> .go N K (.code x::k) Z O ns
 | .cond (.tmp t) x y=>match Z.get t with
  |some (.d (.v (.bool v)))=>match c.cl with
    |true=>match v with
     |true=> .go N K (.code x::k) Z O ns
     |false=> .go N K (.code y::k) Z O ns
    |false=>Tr.cD 24 Z t (some (.d (.v (.bool true)))) λZt=>Tr.cD 24 Z t (some (.d (.v (.bool false)))) λZf=> .out (.cond v N K (.code x::k) Zt (.code y::k) Zf O ns)
  |_=>bad
 | .cond (.const (.bool v)) x y=>match v with
  |true=> .go N K (.code x::k) Z O ns
  |false=> .go N K (.code y::k) Z O ns
 | .loop x=>match c.cl with
  |true=> .go N K (.code x:: .nI fl x::k) Z O ns
  |false=>bad
 |_=>bad
def wD (P:Program) (G:Gl) (T:bX) (c:fy) (nest:Nat->List AV->Option AV) (fl N K:Nat) (todo:List It) (Z:TS) (O:Hp) (ns:List (Nat×Nat)) (bad:Nx):Nx:=
 @List.rec It (λ_=>Program->Gl->bX->fy->(Nat->List AV->Option AV)->Nat->Nat->Nat->TS->Hp->List (Nat×Nat)->Nx->Nx)
  (λ_ _ _ _ _ _ _ _ Z O ns _=> .out (.fin .norm Z O ns))
  (λit k _ P G T c nest fl N K Z O ns bad=> @It.rec (λ_=>List It->Program->Gl->bX->fy->(Nat->List AV->Option AV)->Nat->Nat->Nat->TS->Hp->List (Nat×Nat)->Nx->Nx)
   (λb k P G T c nest fl N K Z O ns bad=>Dd T c fl N K b k Z O ns bad)
   (λ_ k P G T c nest fl N K Z O ns bad=> .go N K k Z O ns)
   (λall l k P G T c nest fl N K Z O ns bad=> @List.rec Oper (λ_=>Nx) (.go N K k Z O ns) (λo r _=>DL P G T c N K all o r k Z O ns bad) l)
   (λall tl A pre W k P G T c nest fl N K Z O ns bad=> @List.rec Oper (λ_=>Nx) (match e9 (W.map (·.1))with
    |true=>wC W Z O λσ1 η1=>AJ A σ1 λZ2=> .go N K (.tl all tl A [] []::k) Z2 η1 ns
    |false=>bad) (λo r _=>DM P G T c nest N K all tl A o r W k Z O ns bad) pre)
   (λall l A pend fs k P G T c nest fl N K Z O ns bad=>match rb P G T (nY fs) c.cl all Z O pend with
    |true=>vZ P G T c nest N K all l A pend fs k Z O ns bad
    |false=>bad)
   (λ_ k P G T c nest fl N K Z O ns bad=>bad)
   (λm b k P G T c nest fl N K Z O ns bad=>match m with
    |0=>bad
    |m'+1=> .go N K (.code b:: .nI m' b::k) Z O ns)
   (λN' K' σ' dst rs k P G T c nest fl N K Z O ns bad=>match dT T Z O rs with
    |none=>bad
    |some xs=>match dst with
     |none=> .go N' K' k σ' O ns
     |some d=>Tr.cD 24 σ' d (some (eI xs)) λZ''=> .go N' K' k Z'' O ns)
   (λN' K' σ' dst rs _ z k P G T c nest fl N K Z O ns bad=>match dT T Z O rs with
    |none=>bad
    |some _=> .go N' K' k (bW σ' dst (.d z)) O ns)
   it k P G T c nest fl N K Z O ns bad) todo P G T c nest fl N K Z O ns bad
def step (P:Program) (G:Gl) (T:bX) (c:fy) (nest:Nat->List AV->Option AV) (fl N K:Nat) (todo:List It) (Z:TS) (O:Hp) (ns:List (Nat×Nat)):Nx:=wD P G T c nest fl N K todo Z O ns (.out (.stuck N K todo Z O ns))
theorem iR {R:Type} {P:R->Prop} {cl:Bool} {ns' ns:List (Nat×Nat)} {bad:R} {k:List (Nat×Nat)->R} {A:Prop} (h:P (ic cl ns' ns bad k)) (hb:P bad->A) (hk:∀ns1,(eqs ns1->eqs ns'/\eqs ns)->P (k ns1)->A):A:=by
 unfold ic at h;split at h
 ·exact hk _ (λh=>mC h) h
 ·split at h
  ·rename_i hall;refine hk _ (λh=>⟨?_,h⟩) h;clear h hk
   induction ns' with
   |nil=>trivial
   |cons p r ih=>
    simp only[kR,bL]at hall;exact⟨bE hall.1,ih hall.2⟩
  ·exact hb h
theorem De {R:Type}:∀(W:List (Nat×List CV)) (Z:TS) (O:Hp) (k:TS->Hp->R),wC W Z O k=k (eJ W Z O).1 (eJ W Z O).2
 |[],_,_,_=>rfl
 |(d,cs)::r,Z,⟨e,m⟩,k=>by simp only[wC,zw,JC,Tr.dE,eJ];exact De r _ _ k
theorem yD {P:Program} {F:Nat->Option Func} (hF:∀g x,F g=some x->P.funcs[g]? =some x) {g:FuncId} {nt:Nat} {rs:List ResultVar} {c:Code} (h:ue F g=some (nt,rs,c)):∃fn,P.funcs[g]? =some fn/\fn.body=some c/\(fn.name== "runtime.NumGoroutine")=false/\fn.results=rs.toArray/\fn.ntmps=nt:=by
 unfold ue at h;split at h
 ·rename_i fn hf;split at h
  ·rename_i b hb hn;simp only[aE,cu]at h;obtain⟨rfl,rfl,rfl⟩:=h;exact⟨fn,hF g fn hf,hb,hn,by simp,rfl⟩
  ·cases h
 ·cases h
section
variable {E:Env} {Q:DQ} {N K:Nat} {Z:TS} {O:Hp} {all:List Oper} {o:Oper} {r:List Oper} {tl:List (Nat×Oper×TK)} {k:List It} {ns:List (Nat×Nat)} {bad:Nx} {c:fy} {W:List (Nat×List CV)}
theorem DO.AK {rest:List Oper} {j d e:Nat} {want t:Bool} {op:Op} {ty:TypeId} {pos:String} {after:Array Edge} {oj:Oper} (hj:nth all j=some oj) (hjd:oj.dst=some d) (ht:Z.get d=some (.d (.v (.bool t))))
  (h1:t=want->DO E N K all (⟨some e,op,ty,pos,after,none⟩::rest) Q Z O)
  (h2:t= !want->DO E N K all rest Q (Tr.put 24 Z e (some (.d (.v undef)))) O)
  (hd:Nat.blt e N=true):DO E N K all (⟨some e,op,ty,pos,after,some (j,want)⟩::rest) Q Z O:=λL ZB OB hs hh=>by
 obtain⟨y,h3,h4⟩:=hs d _ ht;simp only[aI]at h4;subst h4;have hjB:(all.toArray[j]?).bind (·.dst)=some d:=by rw[cq]at hj;simp[hj,hjd]
 have same:∀b,t=b->SS L Z (look ((d,.v (.bool b))::ZB)):=λb hb u z hz=>by
  subst hb;obtain⟨q,h5,h6⟩:=hs u z hz;refine⟨q,?_,h6⟩;simp only[look];cases hbq:Nat.beq d u with
  |true=>have:=bE hbq;subst this;rw[h3]at h5;exact h5
  |false=>exact h5
 exact bo.bz hjB h3 (λe=>h1 e L _ OB (same want e) hh) (λe'=>h2 e' L _ OB ((same _ e').put (some e) (x:= .d (.v undef)) (y:= .v undef) rfl) hh) hd
theorem Wi {t:TypeId} {x:CV} {y:AV} (hx:∃u,x= .bB t u\/∃u',x= .d (.bB t u')) (h:Ew x=some y):(x= .bB t (.d y)\/x= .d (.bB t y))/\mY y=true:=by
 unfold Ew at h;split at h
 ·rename_i t' y';split at h
  ·rename_i hy;cases h;obtain⟨u,hx|⟨u',hx⟩⟩:=hx
   ·cases hx;exact⟨.inl rfl,hy⟩
   ·cases hx
  ·cases h
 ·rename_i t' y';split at h
  ·rename_i hy;cases h;obtain⟨u,hx|⟨u',hx⟩⟩:=hx
   ·cases hx
   ·cases hx;exact⟨.inr rfl,hy⟩
  ·cases h
 ·cases h
theorem yE {t:TypeId} {x:CV} (hx:∃u,x= .bB t u\/∃u',x= .d (.bB t u')) (h:Nx.ok E Q (ta t x k O ns bad)) {A:Prop} (hb:bad.ok E Q->A) (hk:eqs ns->dq E N K k Q (.aO x) .lf O->A):A:=by
 unfold ta at h;split at h
 ·rename_i hp;exact hk h.1 (l3 k N K .lf hp h.2)
 ·rename_i N' K' σ' dst ty k' hp;split at h
  ·rename_i y ht hy;have ht:=bE ht;subst ht;obtain⟨h1,h2⟩:=Wi hx hy;exact hk h.1 (mS h1 h2 k N K hp h.2)
  ·exact hb h
theorem KY {R:Type}:∀(A:bR) (Z:TS) (k:TS->R),AJ A Z k=k (v8 A Z)
 |[],_,_=>rfl
 |p::A,Z,k=>by simp only[AJ,Tr.dE,v8];exact KY A _ _
theorem sJ:∀{fs:List (Nat×List AV×AV)},jP E fs->∀g xs z,nY fs g xs=some z->Pure E.toCx g xs (.ret z)
 |[],_,_,_,_,h=>by simp[nY]at h
 |(g',xs',z')::r,hf,g,xs,z,h=>by
  simp only[nY]at h;split at h
  ·rename_i hB;simp only[bL]at hB;have h1:=bE hB.1;have h2:=oZ hB.2;cases h;subst h1;subst h2;exact hf _ B8
  ·exact sJ (λf hf'=>hf f (by simp[hf'])) g xs z h
theorem LN {nest:Nat->List AV->Option AV} (hnest:∀g xs z,nest g xs=some z->Pure E.toCx g xs (.ret z)) {x:CV} (h:ib nest Z o.op=some (some x)):aQ E N o Z x:=by
 unfold ib at h;split at h
 ·rename_i f as tys ho;obtain⟨as⟩:=as;split at h
  ·rename_i g cs hc;split at h
   ·rename_i xs hxs;split at h
    ·rename_i z hz;cases h;exactλL s OB hs=>by
      obtain⟨ys,h1,h2⟩:=nP hs hc;have:=mF hxs h2;subst this;exact⟨z,rfl,bV.pure ho (hnest g _ z hz) h1⟩
    ·cases h
   ·cases h
  ·cases h
 ·cases h
theorem Vw (hfs:jP E c.fs) (hct:∀f ty z,c.ct f=some (ty,z)->rC E f ty z) (hF:∀g x,c.fn g=some x->E.P.funcs[g]? =some x) (h:Nx.ok E Q (DL E.P E.G E.T c N K all o r k Z O ns bad)) (hb:bad.ok E Q->eqs ns/\ak E N K (.ops all (o::r)::k) Q Z O):eqs ns/\ak E N K (.ops all (o::r)::k) Q Z O:=by
 obtain⟨dst,op,ty,pos,after,gd⟩:=o;unfold DL at h;simp only[OW,O1,O0,OZ,OY,OX]at h;simp only[Y4,Yb,Y5]at h;split at h
 ·rename_i j want;split at h
  ·rename_i e oj hj;split at h
   ·rename_i d hjd he;split at h
    ·rename_i t ht;split at h
     ·split at h
      ·exact⟨h.1,DO.AK hj hjd ht (λ_=>h.2) (λe=>by cases e) he⟩
      ·exact⟨h.1,DO.AK hj hjd ht (λ_=>h.2) (λe=>by cases e) he⟩
      ·rw[Tr.dE]at h;exact⟨h.1,DO.AK hj hjd ht (λe=>by cases e) (λ_=>h.2) he⟩
      ·rw[Tr.dE]at h;exact⟨h.1,DO.AK hj hjd ht (λe=>by cases e) (λ_=>h.2) he⟩
     ·simp only[Tr.dE]at h;split at h
      ·exact⟨h.1,DO.O2 hj hjd ht h.2.1 h.2.2 he⟩
      ·exact⟨h.1,DO.O2 hj hjd ht h.2.2 h.2.1 he⟩
    ·rename_i a ha;split at h
     ·rename_i hz;have:a= #[]:=by cases a;simp_all
      subst this;rw[Tr.dE]at h;exact⟨h.1,DO.Ex hj hjd ha h.2 he⟩
     ·exact hb h
    ·exact hb h
   ·exact hb h
  ·exact hb h
 ·split at h
  ·rename_i u hu;split at h
   ·exact hb h
   split at h
   ·rename_i x hx;split at h
    ·rename_i z ns' ms hf;refine iR (P:=Nx.ok E Q) h hb λns1 he h=>?_;rw[Tr.dE]at h;obtain⟨h1,h2⟩:=he h.1;exact⟨h2,DO.cH 60 hx hf h1 h.2⟩
    ·exact hb h
   ·exact hb h
  split at h
  ·rename_i x ns' hv;split at h
   ·exact hb h
   ·rename_i d;split at h
    ·exact hb h
    ·rename_i hd;refine iR (P:=Nx.ok E Q) h hb λns1 he h=>?_;rw[Tr.dE]at h;obtain⟨h1,h2⟩:=he h.1;exact⟨h2,DO.oH rfl hd (v7 (o:=⟨some d,op,ty,pos,after,none⟩) hv h1) h.2⟩
  ·rename_i hv;split at h
   ·rename_i x hcs;split at h
    ·exact hb h
    ·rename_i hd;exact⟨h.1,DO.oH rfl hd (λL s OB hs _=>LN (o:=⟨dst,op,ty,pos,after,none⟩) (sJ hfs) hcs L s OB hs) h.2⟩
   rename_i hnc;clear hnc;split at h
   ·rename_i d x ce hh;simp only[Tr.dE]at h;exact⟨h.1,wc rfl hh h.2⟩
   ·rename_i i ce ns' hh;refine iR (P:=Nx.ok E Q) h hb λns1 he h=>?_;simp only[Tr.dE]at h;obtain⟨h1,h2⟩:=he h.1;exact⟨h2,wc rfl hh ⟨h1,h.2⟩⟩
   ·rename_i i d x ce ns' hh;refine iR (P:=Nx.ok E Q) h hb λns1 he h=>?_;simp only[Tr.dE]at h;obtain⟨h1,h2⟩:=he h.1;exact⟨h2,wc rfl hh ⟨h1,h.2⟩⟩
   ·rename_i t e kk hh;simp only[Tr.dE]at h;exact⟨h.1,wc rfl hh h.2⟩
   ·rename_i t z ns' ms hh;refine iR (P:=Nx.ok E Q) h hb λns1 he h=>?_;simp only[Tr.dE]at h;obtain⟨h1,h2⟩:=he h.1;exact⟨h2,wc rfl hh ⟨h1,h.2⟩⟩
   ·split at h
    ·rename_i f as tys;obtain⟨as⟩:=as;split at h
     ·rename_i g cs hc;split at h
      ·exact hb h
      ·split at h
       ·rename_i ty' z hctg;split at h
        ·rename_i x;split at h
         ·rename_i g' fs' cs' hx;split at h
          ·rename_i nt rs b hf;split at h
           ·rename_i hB;simp only[bL]at hB;obtain⟨fn,h1,h2,h3,h4,h5⟩:=yD hF hf;exact⟨h.1,ak.ct (hct _ _ _ hctg) hc hx h1 h2 h3 h4 h5 hB.1 hB.2 h.2⟩
           ·exact hb h
          ·exact hb h
         ·exact hb h
        ·exact hb h
       ·split at h
        ·rename_i nt rs b hf;split at h
         ·rename_i hB;simp only[bL]at hB;obtain⟨fn,h1,h2,h3,h4,h5⟩:=yD hF hf;exact⟨h.1,ak.inl hc h1 h2 h3 h4 h5 hB.1 hB.2 h.2⟩
         ·exact hb h
        ·exact hb h
     ·exact hb h
    ·rename_i p;split at h
     ·rename_i t y hp;exact yE (N:=N) (K:=K) ⟨y,.inl rfl⟩ h hb λh1 h2=>⟨h1,DO.panic rfl rfl hp h2⟩
     ·rename_i t y hp;exact yE (N:=N) (K:=K) ⟨.d y,.inr ⟨y,rfl⟩⟩ h hb λh1 h2=>⟨h1,DO.Ey rfl rfl hp h2⟩
     ·exact hb h
    ·exact hb h
theorem Vx {A:bR} {nest:Nat->List AV->Option AV} (hnest:∀g xs z,nest g xs=some z->Pure E.toCx g xs (.ret z)) (h:Nx.ok E Q (DM E.P E.G E.T c nest N K all tl A o r W k Z O ns bad)) (hb:bad.ok E Q->eqs ns/\ak E N K (.lex all tl A (o::r) W::k) Q Z O):
  eqs ns/\ak E N K (.lex all tl A (o::r) W::k) Q Z O:=by
 unfold DM at h;split at h
 ·rename_i hw;split at h
  ·rename_i d hd hf;split at h
   ·rename_i hdN;rw[Tr.dE]at h;refine⟨h.1,ec.skip (by rw[hd];exact hdN) hw hf ?_⟩;rw[hd];exact h.2
   ·exact hb h
  ·exact hb h
 ·rename_i hw;split at h
  ·rename_i d hd hf;split at h
   ·exact hb h
   ·rename_i hdN;have hdst:ck N o.dst=true:=by rw[hd];exact hdN
    split at h
    ·rename_i x ns' hv;refine iR (P:=Nx.ok E Q) h hb λns1 he h=>?_;rw[Tr.dE]at h;obtain⟨h1,h2⟩:=he h.1;refine⟨h2,ec.val hdst hw hf (v7 hv h1) ?_⟩;rw[hd];exact h.2
    ·split at h
     ·rename_i t p ho;split at h
      ·rename_i x hp;split at h
       ·rename_i ys _ hy;rw[Tr.dE]at h;refine⟨h.1,ec.val hdst hw hf (bg.RF (cells:=ys) λL s OB hs hh=>?_) (by rw[hd];exact h.2)⟩;obtain⟨cs,h1,h2⟩:=Am ho hp L s OB hs hh;have:=mF hy h1;subst this;exact⟨cs,gA _,h2⟩
       ·rw[Tr.dE]at h;exact⟨h.1,ec.new hd hdN hw hf (Am ho hp) h.2⟩
      ·exact hb h
     ·rename_i t ho;split at h
      ·rename_i _ _ _ z ht;split at h
       ·rw[Tr.dE]at h;refine⟨h.1,ec.val hdst hw hf (bg.RF (cells:=z.map .v) (yG ho ht)) (by rw[hd];exact h.2)⟩
       ·rw[Tr.dE]at h;exact⟨h.1,ec.new hd hdN hw hf (yG ho ht) h.2⟩
      ·exact hb h
     ·rename_i t n parts ho;split at h
      ·rename_i e kk _ _ _ ht;split at h
       ·rename_i _ _ _ z' hte;split at h
        ·rename_i cells hfi;split at h
         ·rename_i hB;simp only[bL]at hB;rw[Tr.dE]at h;exact⟨h.1,ec.val hdst hw hf (bg.lit ho ht hte hfi hB.1 hB.2) (by rw[hd];exact h.2)⟩
         ·exact hb h
        ·exact hb h
       ·exact hb h
      ·exact hb h
     ·rename_i f as tys ho;obtain⟨as⟩:=as;split at h
      ·rename_i g cs hc;split at h
       ·exact hb h
       ·split at h
        ·rename_i xs ns' ms hfz;split at h
         ·rename_i z hz;split at h
          ·refine iR (P:=Nx.ok E Q) h hb λns1 he h=>?_;rw[Tr.dE]at h;obtain⟨h1,h2⟩:=he h.1;exact⟨h2,ec.val hdst hw hf (bg.pure 60 ho (hnest g xs z hz) hc hfz h1 (bZ.refl xs) (.inl rfl)) (by rw[hd];exact h.2)⟩
          ·split at h
           ·rename_i hrf;refine iR (P:=Nx.ok E Q) h hb λns1 he h=>?_;rw[Tr.dE]at h;obtain⟨h1,h2⟩:=he h.1;exact⟨h2,ec.val hdst hw hf (bg.pure 60 ho (hnest g xs z hz) hc hfz h1 (bZ.refl xs) (.inr hrf)) (by rw[hd];exact h.2)⟩
           ·exact hb h
         ·exact hb h
        ·exact hb h
      ·exact hb h
     ·exact hb h
  ·exact hb h
 ·split at h
  ·rename_i j want hg;split at h
   ·rename_i d hd;split at h
    ·rename_i t ht;split at h
     ·exact hb h
     ·simp only[Tr.dE]at h;exact⟨h.1,ec.guard ht h.2.1 h.2.2⟩
    ·exact hb h
   ·exact hb h
  ·exact hb h
theorem DN:∀{ns:List (Nat×Nat)},(ns.all λp=>Nat.beq p.1 p.2)=true->eqs ns
 |[],_=>trivial
 |p::r,h=>by simp only[kR,bL]at h;exact⟨bE h.1,DN h.2⟩
theorem dX {cl:Bool} {x:CV} {ns:List (Nat×Nat)} (h:Bh E.P E.G E.T cl Z O o.op=some (x,ns)) (hn:eqs ns):bg E N o Z O x:=by
 unfold Bh at h;split at h
 ·rename_i p hp;simp only[aE]at h;subst h;exact v7 hp hn
 ·split at h
  ·rename_i t n parts ho;split at h
   ·rename_i e kk _ _ _ ht;split at h
    ·rename_i _ _ _ z' hte;split at h
     ·rename_i cells hfi;split at h
      ·rename_i hB;simp only[bL]at hB;simp only[aE,cu]at h;obtain⟨rfl,rfl⟩:=h;exact bg.lit ho ht hte hfi hB.1 hB.2
      ·cases h
     ·cases h
    ·cases h
   ·cases h
  ·cases h
theorem Yc {nest:Nat->List AV->Option AV} (hnest:∀g xs z,nest g xs=some z->Pure E.toCx g xs (.ret z)) {cl:Bool} {x:CV} {ns:List (Nat×Nat)} (h:GW E.P E.G E.T nest cl Z O o.op=some (x,ns)) (hn:eqs ns):bg E N o Z O x:=by
 unfold GW at h;split at h
 ·rename_i p hp;simp only[aE]at h;subst h;exact dX hp hn
 ·split at h
  ·rename_i f as tys ho;obtain⟨as⟩:=as;split at h
   ·rename_i g cs hc;split at h
    ·rename_i xs ns' ms hfz;split at h
     ·rename_i z hz;split at h
      ·simp only[aE,cu]at h;obtain⟨rfl,rfl⟩:=h;exact bg.pure 60 ho (hnest g xs z hz) hc hfz hn (bZ.refl xs) (.inl rfl)
      ·split at h
       ·rename_i hrf;simp only[aE,cu]at h;obtain⟨rfl,rfl⟩:=h;exact bg.pure 60 ho (hnest g xs z hz) hc hfz hn (bZ.refl xs) (.inr hrf)
       ·cases h
     ·cases h
    ·cases h
   ·cases h
  ·cases h
theorem vu {nest:Nat->List AV->Option AV} (hnest:∀g xs z,nest g xs=some z->Pure E.toCx g xs (.ret z)) {cl:Bool}:∀{pend:List (Nat×Oper×CV)},rb E.P E.G E.T nest cl all Z O pend=true->aG E N all pend Z O
 |[],_=>λp hp=>by cases hp
 |(i,o,x)::r,h=>by
  have key:w6 E N all o Z O x->aG E N all r Z O->aG E N all ((i,o,x)::r) Z O:=λh1 h2 p hp=>by
   rcases cm.1 hp with rfl|hp
   ·exact h1
   ·exact h2 p hp
  simp only[rb]at h;split at h
  ·cases h
  ·split at h
   ·rename_i hw;split at h
    ·rename_i y ns hv;split at h
     ·rename_i hB;simp only[bL]at hB;have:=DP hB.1;subst this;exact key (.inl ⟨hw,Yc hnest hv (DN hB.2)⟩) (vu hnest h)
     ·cases h
    ·cases h
   ·rename_i hw;split at h
    ·split at h
     ·rename_i a _ ha;have:a= #[]:=by cases a;simp_all
      subst this;exact key (.inr ⟨hw,rfl⟩) (vu hnest h)
     ·cases h
    ·cases h
   ·cases h
theorem Yd {cl:Bool} {x:CV} (h:GX E.P E.G E.T cl Z o.op=some x):aQ E N o Z x:=by
 unfold GX at h;simp only[M9,M',PT,PU,PV,PW,PX]at h;split at h
 ·rename_i y hy;cases h;exactλL s OB hs=>⟨y,rfl,(bV.cB hy).mono λ_ _ _ hy=>kt hs hy⟩
 ·split at h
  ·rename_i y hy;cases h;exactλL s OB hs=>by
    obtain⟨y,h1,h2⟩:=Na hs hy;exact⟨y,h2,bV.cB h1⟩
  ·split at h
   ·rename_i y hy;cases h;exactλL s OB hs=>⟨y,rfl,(bV.lu hy).mono λ_ _ _ hy=>kt hs hy⟩
   ·split at h
    ·cases h
    ·split at h
     ·rename_i y hy;cases h;exactλL s OB hs=>⟨y,rfl,(bV.ed hy).mono λ_ _ _ hy=>kt hs hy⟩
     ·split at h
      ·rename_i y hy;cases h;exactλL s OB hs=>⟨y,rfl,(bV.eS hy).mono λ_ _ _ hy=>kt hs hy⟩
      ·cases h
theorem Xc {nest:Nat->List AV->Option AV} (hnest:∀g xs z,nest g xs=some z->Pure E.toCx g xs (.ret z)) {z:AV} {ns':List (Nat×Nat)} {g:Nat} {xs:List AV} (h:kx nest Z O o.op=some (z,ns',g,xs)) (hn:eqs ns'):bg E N o Z O (.d z)/\Pure E.toCx g xs (.ret z):=by
 unfold kx at h;split at h
 ·rename_i f as tys ho;obtain⟨as⟩:=as;split at h
  ·rename_i g' cs hc;split at h
   ·rename_i xs' ns2 ms hfz;split at h
    ·rename_i z' hz;split at h
     ·simp only[aE,cu]at h;obtain⟨rfl,rfl,rfl,rfl⟩:=h;exact⟨bg.pure 60 ho (hnest _ _ _ hz) hc hfz hn (bZ.refl _) (.inl rfl),hnest _ _ _ hz⟩
     ·split at h
      ·rename_i hrf;simp only[aE,cu]at h;obtain⟨rfl,rfl,rfl,rfl⟩:=h;exact⟨bg.pure 60 ho (hnest _ _ _ hz) hc hfz hn (bZ.refl _) (.inr hrf),hnest _ _ _ hz⟩
      ·cases h
    ·cases h
   ·cases h
  ·cases h
 ·cases h
theorem KX {nest:Nat->List AV->Option AV} (hnest:∀g xs z,nest g xs=some z->Pure E.toCx g xs (.ret z)) (hF:∀g x,c.fn g=some x->E.P.funcs[g]? =some x) {l:List (Nat×Oper×TK)} {A:bR} {pend:List (Nat×Oper×CV)} {fs:List (Nat×List AV×AV)} (hp:jP E fs->aG E N all pend Z O) (h:Nx.ok E Q (vZ E.P E.G E.T c nest N K all l A pend fs k Z O ns bad)) (hb:bad.ok E Q->eqs ns/\ak E N K (.tl all l A pend fs::k) Q Z O):
  eqs ns/\ak E N K (.tl all l A pend fs::k) Q Z O:=by
 unfold vZ at h;split at h
 ·exact⟨h.1,λhf=>cy.nil (hp hf) h.2⟩
 ·exact hb h
 ·rename_i i o j o' _ l;split at h
  ·rename_i hcl hw hw';split at h
   ·rename_i a ca b cb hpr;split at h
    ·rename_i hB;simp only[bL]at hB;simp only[Tr.dE]at h;obtain⟨g1,g2,g3,g4,g5,g6⟩:=Xd hpr;exact⟨h.1,λhf=>cy.pair (hp hf) g1 g2 hw hw' g3 (vu (sJ hf) hB.1) g4 g5 (vu (sJ hf) hB.2) g6 (h.2 hf)⟩
    ·exact hb h
   ·exact hb h
  ·exact hb h
 ·rename_i i o l;split at h
  ·exact hb h
  ·rename_i hd;split at h
   ·rename_i hw;exact⟨h.1,λhf=>cy.st (hp hf) hd (.inr ⟨hw,rfl⟩) (h.2 hf)⟩
   ·rename_i hw;split at h
    ·rename_i x hv;exact⟨h.1,λhf=>cy.st (hp hf) hd (.inl ⟨hw,Yd hv⟩) (h.2 hf)⟩
    ·split at h
     ·exact hb h
     ·rename_i x hv;exact⟨h.1,λhf=>cy.st (hp hf) hd (.inl ⟨hw,LN hnest hv⟩) (h.2 hf)⟩
     ·split at h
      ·rename_i x ns' hv;refine iR (P:=Nx.ok E Q) h hb λns1 he h=>?_;obtain⟨h1,h2⟩:=he h.1;exact⟨h2,λhf=>cy.fl (hp hf) hd (.inl ⟨hw,dX hv h1⟩) (h.2 hf)⟩
      ·split at h
       ·rename_i z ns' g xs hv;refine iR (P:=Nx.ok E Q) h hb λns1 he h=>?_;obtain⟨h1,h2⟩:=he h.1;obtain⟨q1,q2⟩:=Xc hnest hv h1;exact⟨h2,λhf=>cy.fl (hp hf) hd (.inl ⟨hw,q1⟩) (h.2 λf hm=>(cm.1 hm).elim (λe=>by subst e;exact q2) (hf f))⟩
       ·exact hb h
   ·exact hb h
 ·rename_i i o l;split at h
  ·rename_i hnd hd;rw[De]at h;obtain⟨σ1,η1,cz⟩:∃σ1 η1,eJ (dB (cd all.toArray i A)) Z O=(σ1,η1):=⟨_,_,rfl⟩;rw[cz]at h;simp only at h;split at h
   ·rename_i hw;refine⟨h.1,λhf=>cy.skip (hp hf) hnd hd (by rw[cz];exact hw) ?_⟩;rw[cz];exact h.2 hf
   ·rename_i hw;split at h
    ·rename_i x ns' hv;refine iR (P:=Nx.ok E Q) h hb λns1 he h=>?_;obtain⟨h1,h2⟩:=he h.1;exact⟨h2,λhf=>cy.oG (hp hf) hnd hd cz hw (bM.val (v7 hv h1)) (λy O' hr=>by obtain⟨e1,rfl⟩:=hr;cases e1;exact h.2 hf) (λy O' hr=>by obtain⟨e1,_⟩:=hr;cases e1)⟩
    ·rename_i hv;split at h
     ·rename_i d x ce η2 ns' hh;refine iR (P:=Nx.ok E Q) h hb λns1 he h=>?_;rw[Tr.dE]at h;obtain⟨h1,h2⟩:=he h.1;exact⟨h2,λhf=>cy.oG (hp hf) hnd hd cz hw (vk hh h1) (λy O' hr=>by obtain⟨e1,rfl⟩:=hr;cases e1;exact h.2 hf) (λy O' hr=>by obtain⟨e1,_⟩:=hr;cases e1)⟩
     ·rename_i j ce ns2 η2 ns' hh;refine iR (P:=Nx.ok E Q) h hb λns1 he h=>?_;rw[Tr.dE]at h;obtain⟨h1,h2⟩:=he h.1;exact⟨h2,λhf=>cy.oG (hp hf) hnd hd cz hw (vk hh h1) (λy O' hr=>by obtain⟨e1,rfl⟩:=hr;cases e1;exact h.2 hf) (λy O' hr=>by obtain⟨e1,_⟩:=hr;cases e1)⟩
     ·rename_i j d x ce ns2 η2 ns' hh;refine iR (P:=Nx.ok E Q) h hb λns1 he h=>?_;rw[Tr.dE]at h;obtain⟨h1,h2⟩:=he h.1;exact⟨h2,λhf=>cy.oG (hp hf) hnd hd cz hw (vk hh h1) (λy O' hr=>by obtain⟨e1,rfl⟩:=hr;cases e1;exact h.2 hf) (λy O' hr=>by obtain⟨e1,_⟩:=hr;cases e1)⟩
     ·exact hb h
     ·split at h
      ·rename_i f as tys ho;obtain⟨as⟩:=as;split at h
       ·rename_i g cs hc;split at h
        ·exact hb h
        ·split at h
         ·rename_i nt rs b hf;split at h
          ·rename_i hB;obtain⟨fn,h1,h2,h3,h4,h5⟩:=yD hF hf;exact⟨h.1,ak.fH ho hp hnd cz hw hc h1 h2 h3 h4 h5 hB hd h.2⟩
          ·exact hb h
         ·exact hb h
       ·exact hb h
      ·rename_i p ho;split at h
       ·rename_i t y hpp;exact yE (N:=N) (K:=K) ⟨y,.inl rfl⟩ h hb λh1 h2=>⟨h1,λhf=>cy.oG (hp hf) hnd hd cz hw (bM.panic ho hpp) (λy O' hr=>by obtain⟨e1,_⟩:=hr;cases e1) (λy O' hr=>by obtain⟨e1,rfl⟩:=hr;cases e1;exact h2)⟩
       ·rename_i t y hpp;exact yE (N:=N) (K:=K) ⟨.d y,.inr ⟨y,rfl⟩⟩ h hb λh1 h2=>⟨h1,λhf=>cy.oG (hp hf) hnd hd cz hw (bM.Ey ho hpp) (λy O' hr=>by obtain⟨e1,_⟩:=hr;cases e1) (λy O' hr=>by obtain⟨e1,rfl⟩:=hr;cases e1;exact h2)⟩
       ·exact hb h
      ·exact hb h
   ·exact hb h
  ·exact hb h
theorem bK.scope {C:Cx} {N:Nat} {c:Code} {Q:AQ} {Z:Sg} {O:List aq} (h:bK C N c Q Z O):bK C N (.scope c) Q Z O:=λF w0 η0 a w hs hx=>wp_scope_straight (wp_mono (h F w0 η0 a w hs hx) λe a' w' hq=>by
 obtain⟨e0,σ',O',h1,h2,h3⟩:=hq;cases e0 with
 |norm=>simp only[AE.rel]at h2;subst h2;exact⟨.norm,σ',O',h1,rfl,h3⟩
 |exit i=>simp only[AE.rel]at h2;subst h2;exact⟨.exit i,σ',O',h1,rfl,h3⟩
 |ret=>simp only[AE.rel]at h2;subst h2;exact⟨.ret,σ',O',h1,rfl,h3⟩
 |aO x=>obtain⟨v,rfl,h2⟩:=h2;exact⟨.aO x,σ',O',h1,⟨v,rfl,h2⟩,h3⟩)
theorem DC.scope {c:Code} {Z:TS} {O:Hp} (h:DC E N K c Q Z O):DC E N K (.scope c) Q Z O:=λL ZB OB hs hh=>bK.scope (h L ZB OB hs hh)
theorem Vd (hm:E.P.follows .mixedOrders=true) {fl:Nat} {b:Code} (h:Nx.ok E Q (Dd E.T c fl N K b k Z O ns bad)) (hb:bad.ok E Q->eqs ns/\ak E N K (.code b::k) Q Z O):eqs ns/\ak E N K (.code b::k) Q Z O:=by
 unfold Dd at h;split at h
 ·exact⟨h.1,DC.skip h.2⟩
 ·exact⟨h.1,DC.label h.2⟩
 ·rename_i x y;refine⟨h.1,DC.seq ?_⟩;rw[M8];exact h.2
 ·rename_i i x;refine⟨h.1,DC.block ?_⟩;rw[Y6];exact h.2
 ·rename_i id ops d;obtain⟨ops⟩:=ops;split at h
  ·exact⟨h.1,DC.region h.2⟩
  split at h
  ·rename_i u hu;split at h
   ·rename_i x hx;split at h
    ·rename_i z ns' ms hf;refine iR (P:=Nx.ok E Q) h hb λns1 he h=>?_;rw[Tr.dE]at h;obtain⟨h1,h2⟩:=he h.1;exact⟨h2,DC.cH 60 hx hf h1 h.2⟩
    ·exact hb h
   ·exact hb h
  ·split at h;rename_i pre tl al hp;split at h
   ·exact hb h
   ·rename_i A hA;split at h
    ·rename_i hB;simp only[bL]at hB;exact⟨h.1,DC.open pre tl al A hm hA hB.1 hB.2 h.2⟩
    ·exact hb h
 ·rename_i i;split at h
  ·rename_i k' hk;refine⟨h.1,DC.exit ?_⟩;rw[pr hk];exact h.2
  ·exact hb h
 ·split at h
  ·rename_i hk;refine⟨h.1,DC.ret ?_⟩;rw[mZ,hk];exact h.2
  ·rename_i N' K' σ' dst rs k' hk;refine⟨h.1,DC.ret ?_⟩;rw[mZ,hk];exact h.2
  ·rename_i N' K' σ' dst rs ty z k' hk;refine⟨h.1,DC.ret ?_⟩;rw[mZ,hk];exact h.2
  ·exact hb h
 ·exact⟨h.1,DC.scope h.2⟩
 ·rename_i t x y;split at h
  ·rename_i v hv;split at h
   ·split at h
    ·exact⟨h.1,DC.cond hv (λ_=>h.2) (λe=>by cases e)⟩
    ·exact⟨h.1,DC.cond hv (λe=>by cases e) (λ_=>h.2)⟩
   ·simp only[Tr.dE]at h;exact⟨h.1,DC.aaa hv h.2.1 h.2.2⟩
  ·exact hb h
 ·rename_i v x y;split at h
  ·exact⟨h.1,DC.cond (t:=true) rfl (λ_=>h.2) (λe=>by cases e)⟩
  ·exact⟨h.1,DC.cond (t:=false) rfl (λe=>by cases e) (λ_=>h.2)⟩
 ·rename_i x;split at h
  ·refine⟨h.1,DC.rounds (fl+1) ?_⟩;show DC E N K x (DE.then (pt E N K x (dq E N K k Q) fl) (dq E N K k Q)) Z O;rw[O3];exact h.2
  ·exact hb h
 ·exact hb h
theorem M7 (hm:E.P.follows .mixedOrders=true) (hfs:jP E c.fs) (hct:∀f ty z,c.ct f=some (ty,z)->rC E f ty z) (hF:∀g x,c.fn g=some x->E.P.funcs[g]? =some x) {nest:Nat->List AV->Option AV} (hnest:∀g xs z,nest g xs=some z->Pure E.toCx g xs (.ret z)) {fl:Nat} {todo:List It} (h:Nx.ok E Q (step E.P E.G E.T c nest fl N K todo Z O ns)):eqs ns/\ak E N K todo Q Z O:=by
 unfold step at h;have hb:Nx.ok E Q (.out (.stuck N K todo Z O ns))->eqs ns/\ak E N K todo Q Z O:=λh=>h;revert hb;generalize Nx.out (.stuck N K todo Z O ns)=bad at h;intro hb;rcases todo with _|⟨it,k⟩
 ·exact h
 cases it with
 |oI i=>exact h
 |lp n=>exact hb h
 |nI m b=>
  cases m with
  |zero=>exact hb h
  |succ m'=>
   refine⟨h.1,?_⟩;show pt E N K _ (dq E N K _ Q) (m'+1) Z O;show DC E N K _ (DE.then (pt E N K _ (dq E N K _ Q) m') (dq E N K _ Q)) Z O;rw[O3];exact h.2
 |fr N' K' σ' dst rs=>
  unfold wD at h;simp only at h;split at h
  ·exact hb h
  ·rename_i xs hx;split at h
   ·exact⟨h.1,xs,hx,h.2⟩
   ·rw[Tr.dE]at h;exact⟨h.1,xs,hx,h.2⟩
 |ct N' K' σ' dst rs ty z=>
  unfold wD at h;simp only at h;split at h
  ·exact hb h
  ·rename_i xs hx;exact⟨h.1,xs,hx,h.2⟩
 |ops all l=>
  cases l with
  |nil=>exact⟨h.1,DO.nil h.2⟩
  |cons o r=>exact Vw hfs hct hF h hb
 |lex all tl A pre W=>
  cases pre with
  |nil=>
   unfold wD at h;simp only at h;split at h
   ·rename_i hnd;rw[De,KY]at h;exact⟨h.1,ec.nil hnd (h.2 λf hf=>by cases hf)⟩
   ·exact hb h
  |cons o r=>exact Vx hnest h hb
 |tl all l A pend fs=>
  unfold wD at h;simp only at h;split at h
  ·rename_i hp;exact KX hnest hF (λhf=>vu (sJ hf) hp) h hb
  ·exact hb h
 |code b=>exact Vd hm h hb
end
def RG (T:bX) (rs:List ResultVar):Out->Option AV
 | .fin .ret Z O []=>match dT T Z O rs with
  |some xs=>match b5 O.e 60 [eI xs]with
   |some ([z],ns,_)=>match ns.all λp=>Nat.beq p.1 p.2 with
    |true=>some z
    |false=>none
   |_=>none
  |none=>none
 | .fin .norm Z O []=>match dT T Z O rs with
  |some xs=>match b5 O.e 60 [eI xs]with
   |some ([z],ns,_)=>match ns.all λp=>Nat.beq p.1 p.2 with
    |true=>some z
    |false=>none
   |_=>none
  |none=>none
 |_=>none
def uf (F:Nat->Option Func) (T:bX) (run:Nat->Nat->List It->TS->Hp->List (Nat×Nat)->Out) (g:Nat) (xs:List AV):Option AV:=match ue F g with
 |some (nt,rs,b)=>match Nat.ble xs.length nt with
  |true=>RG T rs (run nt 0 [.code b] (gH 0 (xs.map .d)) Hp.nil [])
  |false=>none
 |none=>none
def AZ (fs:List (Nat×List AV×AV)) (nest:Nat->List AV->Option AV) (g:Nat) (xs:List AV):Option AV:=match nY fs g xs with
 |some z=>some z
 |none=>nest g xs
def dx (P:Program) (G:Gl) (T:bX) (c:fy):Nat->Nat->Nat->List It->TS->Hp->List (Nat×Nat)->Out
 |0,N,K,todo,Z,O,ns=> .stuck N K todo Z O ns
 |f+1,N,K,todo,Z,O,ns=>match step P G T c (AZ c.fs (uf c.fn T (dx P G T c f))) f N K todo Z O ns with
  | .go N' K' todo' σ' O' ns'=>dx P G T c f N' K' todo' σ' O' ns'
  | .out o=>o
section
variable {E:Env}
theorem LO {F:Nat->Option Func} (hF:∀g x,F g=some x->E.P.funcs[g]? =some x) {run:Nat->Nat->List It->TS->Hp->List (Nat×Nat)->Out} (hr:∀(Q:DQ) N K todo Z O ns,Out.ok E Q (run N K todo Z O ns)->eqs ns/\ak E N K todo Q Z O) {g:Nat} {xs:List AV} {z:AV} (h:uf F E.T run g xs=some z):Pure E.toCx g xs (.ret z):=by
 unfold uf at h;split at h
 ·rename_i nt rs b hf;obtain⟨fn,h1,h2,h3,h4,h5⟩:=yD hF hf;split at h
  ·rename_i hle;refine Pure.TZ 60 (eh.enter h1 h2 h3 rs h4 nt h5 (by simpa using hle) ?_);have key:∀{σ':TS} {O':Hp} {xs':List CV} {ns1:List (Nat×Nat)} {ms1:List (Nat×bm)} {z':AV},dT E.T σ' O' rs=some xs'->b5 O'.e 60 [eI xs']=some ([z'],ns1,ms1)->(ns1.all λp=>Nat.beq p.1 p.2)=true->some z'=some z->
     ∃ys,dT E.T σ' O' rs=some ys/\Ends 60 (.ret z) (.ret (eI ys)) O':=by
    intro σ' O' xs' ns1 ms1 z' g1 g2 g3 g4;cases g4;exact⟨xs',g1,z,ns1,ms1,g2,DN g3,z,rfl,b4.refl z⟩
   have:=hr (RD E.T rs (Ends 60 (.ret z))) nt 0 [.code b] (gH 0 (xs.map .d)) Hp.nil [];revert h this;generalize run nt 0 [.code b] (gH 0 (xs.map .d)) Hp.nil []=out;intro h hr';refine(hr' ?_).2;unfold RG at h;split at h
   ·split at h
    ·rename_i xs' g1;split at h
     ·rename_i z' ns1 ms1 g2;split at h
      ·rename_i g3;exact⟨trivial,key g1 g2 g3 h⟩
      ·cases h
     ·cases h
    ·cases h
   ·split at h
    ·rename_i xs' g1;split at h
     ·rename_i z' ns1 ms1 g2;split at h
      ·rename_i g3;exact⟨trivial,key g1 g2 g3 h⟩
      ·cases h
     ·cases h
    ·cases h
   ·cases h
  ·cases h
 ·cases h
theorem Fe (hm:E.P.follows .mixedOrders=true) (c:fy) (hfs:jP E c.fs) (hct:∀f ty z,c.ct f=some (ty,z)->rC E f ty z) (hF:∀g x,c.fn g=some x->E.P.funcs[g]? =some x):∀(f:Nat) (Q:DQ) (N K:Nat) (todo:List It) (Z:TS) (O:Hp) (ns:List (Nat×Nat)),Out.ok E Q (dx E.P E.G E.T c f N K todo Z O ns)->eqs ns/\ak E N K todo Q Z O
 |0,_,_,_,_,_,_,_,h=>h
 |f+1,Q,N,K,todo,Z,O,ns,h=>by
  have ih:=Fe hm c hfs hct hF f;refine M7 (c:=c) (fl:=f) hm hfs hct hF (nest:=AZ c.fs (uf c.fn E.T (dx E.P E.G E.T c f))) (λg xs z hz=>?_) ?_
  ·unfold AZ at hz;split at hz
   ·rename_i z' hl;cases hz;exact sJ hfs g xs z hl
   ·exact LO hF (λQ N K todo Z O ns=>ih Q N K todo Z O ns) hz
  unfold dx at h;revert h;generalize step E.P E.G E.T c (AZ c.fs (uf c.fn E.T (dx E.P E.G E.T c f))) f N K todo Z O ns=nx;intro h;cases nx with
  |go N' K' todo' σ' O' ns'=>exact ih Q N' K' todo' σ' O' ns' h
  |out o=>exact h
def oy (P:Program) (G:Gl) (T:bX) (c:fy) (f:Nat) (g:Nat) (xs:List AV):Option AV:=uf c.fn T (dx P G T c f) g xs
theorem Ye (hm:E.P.follows .mixedOrders=true) {c:fy} (hfs:jP E c.fs) (hct:∀f ty z,c.ct f=some (ty,z)->rC E f ty z) (hF:∀g x,c.fn g=some x->E.P.funcs[g]? =some x) {f g:Nat} {xs:List AV} {z:AV} (h:oy E.P E.G E.T c f g xs=some z):Pure E.toCx g xs (.ret z):=LO hF (Fe hm c hfs hct hF f) h
