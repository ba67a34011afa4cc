/- The program logic, third part: operations that only compute, told of abstract values; a region's list of operations. -/
import Derived.Test.YtnocmolegijmkaaGreatKB1
set_option linter.all false
noncomputable section
namespace Go.Bw
open Go
def pe:List AV->Option (List Value)
 |[]=>some []
 | .v x::r=>match pe r with
  |some vs=>some (x::vs)
  |none=>none
 |_::_=>none
def kg (O:Sl):List Operand->Option (List AV)
 |[]=>some []
 |o::r=>match ev O o,kg O r with
  |some x,some xs=>some (x::xs)
  |_,_=>none
def cH:AV->List AV
 | .agg xs=>xs
 | .v y=>y.cells.toList.map .v
 |x=>[x]
def mh:List AV->List AV->Option (List AV)
 |xs,[]=>some xs
 |[],_::_=>none
 |_::xs,y::ys=>match mh xs ys with
  |some r=>some (y::r)
  |none=>none
def fN:List AV->Nat->List AV->Option (List AV)
 |xs,0,ys=>mh xs ys
 |[],_+1,_=>none
 |x::xs,n+1,ys=>match fN xs n ys with
  |some r=>some (x::r)
  |none=>none
def oo (fs:List (Nat×Nat×Nat×Bool)) (O:Sl):List AV->List (Nat×Operand)->Option (List AV)
 |cells,[]=>some cells
 |cells,(i,o)::rest=>match nth fs i,ev O o with
  |some (off,_,k,_),some x=>match Nat.beq (cH x).length k,fN cells off (cH x)with
   |true,some cells'=>oo fs O cells' rest
   |_,_=>none
  |_,_=>none
def cW (T:cn) (O:Sl):Op->Option AV
 | .move x=>ev O x
 | .assign x=>ev O x
 | .pick c a b=>match ev O c with
  |some (.v (.bool true))=>ev O a
  |some (.v (.bool false))=>ev O b
  |_=>none
 | .binOp op ot x y _=>match ev O x,ev O y with
  |some (.v p),some (.v q)=>match KS op p q with
   |some r=>some (.v r)
   |none=>match KT op p q with
    |some r=>some (.v r)
    |none=>none
  |some (.bP _ _),some (.v .nilIface)=>match bc T ot with
   |some ⟨.iface,_,_,_⟩=>match op with
    | .eql=>some (.v (.bool false))
    | .neq=>some (.v (.bool true))
    |_=>none
   |_=>none
  |_,_=>none
 | .unOp .not _ x=>match ev O x with
  |some (.v (.bool b))=>some (.v (.bool !b))
  |_=>none
 | .unOp .neg _ x=>match ev O x with
  |some (.v (.int k n))=>some (.v (.int k (k.wrap (0-n))))
  |_=>none
 | .extract x i=>match ev O x with
  |some (.bY xs)=>nth xs i
  |_=>none
 | .field t x f=>match ev O x,bc T t with
  |some (.agg xs),some ⟨.struct fs,_,_,_⟩=>match nth fs f with
   |some (o,_,k,g)=>wi g xs o k
   |none=>none
  |_,_=>none
 | .fieldAddr t x f=>match bc T t with
  |some ⟨.struct fs,_,_,_⟩=>match nth fs f with
   |some (off,_,_,_)=>match ev O x with
    |some (.own tag b o)=>some (.own tag b (o+off))
    |some (.ip cs)=>some (.ip (cs.drop off))
    |some (.oe tag v n)=>some (.oe tag v (n+off))
    |_=>none
   |none=>none
  |_=>none
 | .typeAssert x _ t ok=>match ev O x,bc T t with
  |some (.bP _ _),some ⟨.iface,_,_,_⟩=>none
  |some (.bP u y),some _=>match Nat.beq u t,ok with
   |true,true=>some (.bY [y,.v (.bool true)])
   |true,false=>some y
   |false,_=>none
  |_,_=>none
 | .nilCheck x=>match ev O x with
  |some (.v (.pointer (some a)))=>some (.v (.pointer (some a)))
  |some (.own tag b o)=>some (.own tag b o)
  |some (.ip cs)=>some (.ip cs)
  |some (.oe tag v n)=>some (.oe tag v n)
  |some (.fn f fs cs)=>some (.fn f fs cs)
  |some (.v (.func (.func f) a c))=>some (.v (.func (.func f) a c))
  |_=>none
 | .load t x=>match ev O x,bc T t with
  |some (.ip cs),some ⟨d,k,_,_⟩=>match d.agg with
   |true=>match fits cs k with
    |true=>some (.agg (cs.take k))
    |false=>none
   |false=>nth cs 0
  |_,_=>none
 | .makeInterface t x=>match ev O x,bc T t with
  |some _,some ⟨.iface,_,_,_⟩=>none
  |some y,some _=>some (.bP t y)
  |_,_=>none
 | .makeFunc (.func f) first caps=>match kg O first.toList,kg O caps.toList with
  |some fs,some cs=>match pe fs,pe cs with
   |some us,some vs=>some (.v (.func (.func f) us.toArray vs.toArray))
   |_,_=>some (.fn f fs cs)
  |_,_=>none
 | .convert s d x=>match ev O x,bc T s,bc T d with
  |some (.v (.int _ n)),some _,some ⟨.int k,_,_,_⟩=>some (.v (.int k (k.wrap n)))
  |some (.v (.string x)),some ⟨.str,_,_,_⟩,some ⟨.str,_,_,_⟩=>some (.v (.string x))
  |_,_,_=>none
 | .build t parts=>match bc T t with
  |some ⟨.struct fs,_,_,z⟩=>match oo fs O (z.map .v) parts.toList with
   |some cells=>some (.agg cells)
   |none=>none
  |_=>none
 |_=>none
section
variable {w:World} {A:Nat->Prop} {N:Nat} {a:Act} {O:Sl}
theorem zN (hs:gM w A N a O):∀{os:List Operand} {xs:List AV},kg O os=some xs->aL w A xs (os.map a.eval)
 |[],_,h=>by simp only[kg,aE]at h;subst h;simp[aL]
 |o::os,xs,h=>by
  simp only[kg]at h;split at h
  ·rename_i x ys h1 h2;simp only[aE]at h;subst h;simp only[dp,aL];exact⟨_,_,rfl,bH hs h1,zN hs h2⟩
  ·cases h
theorem IZ:∀{xs:List AV} {vs us:List Value},pe xs=some vs->aL w A xs us->us=vs
 |[],vs,us,h,hr=>by simp only[pe,aE]at h;simp only[aL]at hr;rw[hr,<-h]
 |x::r,vs,us,h,hr=>by
  cases x<;>simp only[pe]at h<;>try (cases h;done)
  split at h
  ·rename_i vs' h1;simp only[aE]at h;simp only[aL]at hr;obtain⟨v,r',rfl,h2,h3⟩:=hr;simp only[Rel]at h2;rw[h2,IZ h1 h3,h]
  ·cases h
theorem oI:∀(vs:List Value),aL w A (vs.map .v) vs
 |[]=>by simp[aL]
 |x::r=>by simp only[dp,aL,Rel];exact⟨_,_,rfl,rfl,oI r⟩
theorem gJ (x:Value):Rel w A (.v x) x:=by simp only[Rel]
theorem yy {x:AV} {v:Value} (h:Rel w A x v):aL w A (cH x) v.cells.toList:=by
 cases x with
 |agg xs=>simp only[Rel]at h;obtain⟨vs,rfl,h⟩:=h;simpa[cH,Value.cells]using h
 |v y=>
  simp only[Rel]at h;subst h;exact oI _
 |sl k rows=>
  have h0:=h;simp only[Rel]at h0;rcases h0 with⟨_,a,cap,rfl⟩|⟨b,o,cap,vs,rfl,_⟩<;>exact(by simp only[cH,Value.cells,aL];exact⟨_,_,rfl,h,rfl⟩)
 |bY xs=>have h0:=h;simp only[Rel]at h0;obtain⟨vs,rfl,_⟩:=h0;simp only[cH,Value.cells,aL];exact⟨_,_,rfl,h,rfl⟩
 |ip cs=>have h0:=h;simp only[Rel]at h0;obtain⟨b,o,vs,rfl,_⟩:=h0;simp only[cH,Value.cells,aL];exact⟨_,_,rfl,h,rfl⟩
 |own tag b n=>have h0:=h;simp only[Rel]at h0;subst h0;simp only[cH,Value.cells,aL];exact⟨_,_,rfl,h,rfl⟩
 |os tag a n c=>have h0:=h;simp only[Rel]at h0;subst h0;simp only[cH,Value.cells,aL];exact⟨_,_,rfl,h,rfl⟩
 |oe tag u n=>have h0:=h;simp only[Rel]at h0;obtain⟨b,l,c,_,rfl⟩:=h0;simp only[cH,Value.cells,aL];exact⟨_,_,rfl,h,rfl⟩
 |om tag n=>have h0:=h;simp only[Rel]at h0;subst h0;simp only[cH,Value.cells,aL];exact⟨_,_,rfl,h,rfl⟩
 |fn f fs cs=>have h0:=h;simp only[Rel]at h0;obtain⟨us,vs,rfl,_⟩:=h0;simp only[cH,Value.cells,aL];exact⟨_,_,rfl,h,rfl⟩
 |bP t x=>have h0:=h;simp only[Rel]at h0;obtain⟨u,rfl,_⟩:=h0;simp only[cH,Value.cells,aL];exact⟨_,_,rfl,h,rfl⟩
def over {D:Type}:List D->List D->List D
 |xs,[]=>xs
 |[],_::_=>[]
 |_::xs,y::ys=>y::over xs ys
def dE {D:Type}:List D->Nat->List D->List D
 |xs,0,ys=>over xs ys
 |[],_+1,_=>[]
 |x::xs,n+1,ys=>x::dE xs n ys
theorem QA:∀{ys xs r:List AV} {vs us:List Value},mh xs ys=some r->aL w A xs vs->aL w A ys us->aL w A r (over vs us)
 |[],xs,r,vs,us,h,hx,hy=>by
  cases xs<;>simp only[mh,aE]at h<;>subst h<;>simp only[aL]at hy<;>subst hy<;>simpa[over]using hx
 |y::ys,[],r,vs,us,h,hx,hy=>by simp[mh]at h
 |y::ys,x::xs,r,vs,us,h,hx,hy=>by
  simp only[mh]at h;split at h
  ·rename_i r' h1;simp only[aE]at h;subst h;simp only[aL]at hx hy;obtain⟨v,vr,rfl,_,hx⟩:=hx;obtain⟨u,ur,rfl,hu,hy⟩:=hy;simp only[over,aL];exact⟨_,_,rfl,hu,QA h1 hx hy⟩
  ·cases h
theorem ya:∀{n:Nat} {xs ys r:List AV} {vs us:List Value},fN xs n ys=some r->aL w A xs vs->aL w A ys us->aL w A r (dE vs n us)
 |0,xs,ys,r,vs,us,h,hx,hy=>by
  cases xs<;>simp only[fN]at h<;>cases vs<;>exact QA h hx hy
 |n+1,[],ys,r,vs,us,h,hx,hy=>by simp[fN]at h
 |n+1,x::xs,ys,r,vs,us,h,hx,hy=>by
  simp only[fN]at h;split at h
  ·rename_i r' h1;simp only[aE]at h;subst h;simp only[aL]at hx;obtain⟨v,vr,rfl,hv,hx⟩:=hx;simp only[dE,aL];exact⟨_,_,rfl,hv,ya h1 hx hy⟩
  ·cases h
theorem QB:∀{ys xs r:List AV},mh xs ys=some r->ys.length<=xs.length/\r.length=xs.length
 |[],xs,r,h=>by cases xs<;>simp only[mh,aE]at h<;>subst h<;>simp
 |y::ys,[],r,h=>by simp[mh]at h
 |y::ys,x::xs,r,h=>by
  simp only[mh]at h;split at h
  ·rename_i r' h1;simp only[aE]at h;subst h;have:=QB h1;simp;omega
  ·cases h
theorem xZ:∀{n:Nat} {xs ys r:List AV},fN xs n ys=some r->n+ys.length<=xs.length/\r.length=xs.length
 |0,xs,ys,r,h=>by cases xs<;>simp only[fN]at h<;>have:=QB h<;>simpa using this
 |n+1,[],ys,r,h=>by simp[fN]at h
 |n+1,x::xs,ys,r,h=>by
  simp only[fN]at h;split at h
  ·rename_i r' h1;simp only[aE]at h;subst h;have:=xZ h1;simp;omega
  ·cases h
theorem tU {D:Type}:∀(m:Nat) (xs:List D),dE xs m []=xs
 |0,xs=>by cases xs<;>simp[dE,over]
 |m+1,[]=>by simp[dE]
 |m+1,x::xs=>by simp only[dE];rw[tU m xs]
theorem Im {D:Type}:∀(ys:List D) (xs:List D) (n k:Nat),n+k+ys.length<=xs.length->
  ((ys.zipIdx k).foldl (λ(cs:Array D) p=>cs.setIfInBounds (n+p.2) p.1) xs.toArray).toList=dE xs (n+k) ys
 |[],xs,n,k,_=>by simp only[List.zipIdx_nil,List.foldl_nil,tU]
 |y::ys,xs,n,k,h=>by
  simp only[List.zipIdx_cons,OI,List.setIfInBounds_toArray];simp only[gP]at h;rw[Im ys (xs.set (n+k) y) n (k+1) (by simp;omega)];have key:∀(m:Nat) (xs:List D),m+ys.length+1<=xs.length->dE (xs.set m y) (m+1) ys=dE xs m (y::ys):=by
   intro m
   induction m with
   |zero=>intro xs hx;cases xs with
    |nil=>simp at hx
    |cons x xs=>cases xs<;>simp[dE,over]
   |succ m ih=>intro xs hx;cases xs with
    |nil=>simp at hx
    |cons x xs=>simp only[q7,dE];rw[ih xs (by simp at hx;omega)]
  rw[<-key (n+k) xs (by omega)];rfl
theorem Rn {fs:List (Nat×Nat×Nat×Bool)} (place:Nat->Option (Nat×Nat)) (hp:∀i off t k g,nth fs i=some (off,t,k,g)->place i=some (off,k)) (hs:gM w A N a O):
  ∀{parts:List (Nat×Operand)} {cells r:List AV} {vs:List Value},oo fs O cells parts=some r->aL w A cells vs->
   ∃us,Instr.fill place vs.toArray (parts.map λp=>(p.1,a.eval p.2))=some us/\aL w A r us.toList
 |[],cells,r,vs,h,hr=>by simp only[oo,aE]at h;subst h;exact⟨vs.toArray,rfl,by simpa using hr⟩
 |(i,o)::rest,cells,r,vs,h,hr=>by
  simp only[oo]at h;split at h
  ·rename_i off t k g x h1 h2;split at h
   ·rename_i cells' h3 h4;have hx:=bH hs h2;have hc:=yy hx;have hl:=xZ h4;have hk:k=(cH x).length:=(bQ h3).symm;have hlv:(a.eval o).cells.size=k:=by have:=hc.length;simp at this;omega
    have hlen:off+(a.eval o).cells.size<=vs.length:=by rw[hr.length,hlv,hk];exact hl.1
    have hfold:=Im (a.eval o).cells.toList vs off 0 (by simpa using hlen);simp only[OF]at hfold;obtain⟨us,h5,h6⟩:=Rn place hp hs h (ya h4 hr hc);refine⟨us,?_,h6⟩;simp only[dp,Instr.fill,hp i off t k g h1];rw[aM (by simp[hlv];rw[hlv]at hlen;simpa using hlen)];rw[<-h5];congr 1;apply kM;rw[<-hfold];have hz:=Array.foldl_toList (f:=λ(cs:Array Value) (x:Value×Nat)=>cs.setIfInBounds (off+x.2) x.1) (init:=vs.toArray) (xs:=(a.eval o).cells.zipIdx);rw[anT]at hz;rw[hz]
   ·cases h
  ·cases h
def mi (w w':World):Prop:=w.heap.size<=w'.heap.size/\∀b,b<w.heap.size->w'.heap[b]? =w.heap[b]?
theorem mi.refl (w:World):mi w w:=⟨bX _,λ_ _=>rfl⟩
theorem mi.cell {w w':World} (h:mi w w') {b o:Nat} {u:Value} (hc:w.cell? ⟨b,o,none⟩=some u):w'.cell? ⟨b,o,none⟩=some u:=
 (World.cell?_of_block (h.2 b (PG hc))).trans hc
theorem aL.yH {xs:List AV} {vs:List Value} (n:Nat) (h:aL w A xs vs) (hf:fits xs n=true):(vs.take n).length=n:=by
 have:=h.length;have:=SF hf;simp;omega
theorem nG {P:Program} {t:Nat} {i:TI} (ht:mz P t i=true) {b o:Nat} {vs:List Value} {w':World} (hc:∀j u,vs[j]? =some u->w'.cell? ⟨b,o+j,none⟩=some u) (hl:i.d.agg=true->vs.length=i.size)
  {v0:Value} (h0:i.d.agg=false->vs[0]? =some v0):(loadVar t ⟨b,o,none⟩).run P w'= .ok (if i.d.agg then .agg vs.toArray else v0) w':=by
 simp only[loadVar,Sem.run_bind,ae3 ht,Result.andThen_ok,Sem.run_ite,IY ht];cases hg:i.d.agg with
 |true=>
  simp only[if_true];have:=run_loadCells_list (P:=P) w' ⟨b,o,none⟩ vs (λj v hj=>by rw[Addr.add_lit];exact hc j v hj);rw[hl hg]at this;simp[this]
 |false=>
  have:=hc 0 v0 (h0 hg);simp only[OF]at this;simp[this]
theorem aaI {P:Program} {t:TypeId} {ms:Array (String×TypeId)} (hu:P.underlying t=some (.interface ms)) (x y:Operand) (z:TypeId) (u:Value) (w:World):
  (do eqGuard .eql t x y (.iface z u) .nilIface;binOp .eql t (.iface z u) .nilIface:Sem Value).run P w= .ok (.bool false) w:=by
 have h1:eqGuard .eql t x y (.iface z u) .nilIface=pure ():=rfl;have h2:binOp .eql t (.iface z u) .nilIface=(do pure (.bool (<-Op.equal t (.iface z u) .nilIface)):Sem Value):=rfl;have h3:Op.equal t (.iface z u) .nilIface=Op.equalIn (9999+1) t (.iface z u) .nilIface:=rfl;rw[h1,h2,h3];generalize 9999=n;unfold Op.equalIn;simp[run_underlying hu]
theorem aaJ {P:Program} {t:TypeId} {ms:Array (String×TypeId)} (hu:P.underlying t=some (.interface ms)) (x y:Operand) (z:TypeId) (u:Value) (w:World):
  (do eqGuard .neq t x y (.iface z u) .nilIface;binOp .neq t (.iface z u) .nilIface:Sem Value).run P w= .ok (.bool true) w:=by
 have h1:eqGuard .neq t x y (.iface z u) .nilIface=pure ():=rfl;have h2:binOp .neq t (.iface z u) .nilIface=(do pure (.bool (!(<-Op.equal t (.iface z u) .nilIface))):Sem Value):=rfl;have h3:Op.equal t (.iface z u) .nilIface=Op.equalIn (9999+1) t (.iface z u) .nilIface:=rfl;rw[h1,h2,h3];generalize 9999=n;unfold Op.equalIn;simp[run_underlying hu]
theorem ae2 {P:Program} {T:cn} (tok:Az P T) (hs:gM w A N a O) {o:Oper} {x:AV} (h:cW T O o.op=some x):
  ∃v,Rel w A x v/\∀w',mi w w'->(execOp a.eval o).run P w'= .ok (.value v) w':=by
 obtain⟨dst,op,ty,pos,after,gd⟩:=o;cases op<;>simp only[cW]at h<;>try (cases h;done)
 case move y=>exact⟨_,bH hs h,λw' _=>by simp[execOp]⟩
 case assign y=>exact⟨_,bH hs h,λw' _=>by simp[execOp]⟩
 case pick c p q=>
  split at h
  ·rename_i hc;have h1:=bH hs hc;simp only[Rel]at h1;exact⟨_,bH hs h,λw' _=>by simp[execOp,h1,asBool]⟩
  ·rename_i hc;have h1:=bH hs hc;simp only[Rel]at h1;exact⟨_,bH hs h,λw' _=>by simp[execOp,h1,asBool]⟩
  ·cases h
 case binOp bop xt y z yt=>
  split at h
  ·rename_i p q hp hq;split at h
   ·rename_i r hr;simp only[aE]at h;subst h;have h1:=bH hs hp;simp only[Rel]at h1;have h2:=bH hs hq;simp only[Rel]at h2;refine⟨r,by simp[Rel],λw' _=>?_⟩;have:=adr (P:=P) (t:=xt) (x:=y) (y:=z) hr w';simp only[execOp,h1,h2,Sem.run_bind]at this⊢;rw[this];simp
   ·split at h
    ·rename_i r hr;simp only[aE]at h;subst h;have h1:=bH hs hp;simp only[Rel]at h1;have h2:=bH hs hq;simp only[Rel]at h2;refine⟨r,by simp[Rel],λw' _=>?_⟩;have:=ads (P:=P) (t:=xt) (x:=y) (y:=z) hr w';simp only[execOp,h1,h2,Sem.run_bind]at this⊢;rw[this];simp
    ·cases h
  ·rename_i u z' hp hq;have h1:=bH hs hp;simp only[Rel]at h1;obtain⟨uu,h1,_⟩:=h1;have h2:=bH hs hq;simp only[Rel]at h2;split at h
   ·rename_i ht;obtain⟨d,ti,hu,_,hd,_⟩:=fx (tok _ _ ht);cases d<;>simp only[iu,kI]at hd;split at h
    ·simp only[aE]at h;subst h;refine⟨.bool false,by simp[Rel],λw' _=>?_⟩;have:=aaI hu y z u uu w';simp only[execOp,h1,h2,Sem.run_bind]at this⊢;rw[this];simp
    ·simp only[aE]at h;subst h;refine⟨.bool true,by simp[Rel],λw' _=>?_⟩;have:=aaJ hu y z u uu w';simp only[execOp,h1,h2,Sem.run_bind]at this⊢;rw[this];simp
    ·cases h
   ·cases h
  ·cases h
 case unOp uop xt y=>
  cases uop<;>simp only at h<;>try (cases h;done)
  ·split at h
   ·rename_i k n hy;simp only[aE]at h;subst h;have h1:=bH hs hy;simp only[Rel]at h1;exact⟨_,gJ _,λw' _=>by simp[execOp,h1,Op.unary,Op.intArith]⟩
   ·cases h
  ·split at h
   ·rename_i b hy;simp only[aE]at h;subst h;have h1:=bH hs hy;simp only[Rel]at h1;exact⟨_,gJ _,λw' _=>by simp[execOp,h1,Op.unary]⟩
   ·cases h
 case extract y i=>
  split at h
  ·rename_i xs hy;have h1:=bH hs hy;simp only[Rel]at h1;obtain⟨vs,h1,h2⟩:=h1;obtain⟨v,h3,h4⟩:=h2.nth h;exact⟨v,h4,λw' _=>by simp[execOp,h1,Instr.extract,h3]⟩
  ·cases h
 case field t y f=>
  split at h
  ·rename_i xs fs k b z hy ht;split at h
   ·rename_i o ft k g hf;have h1:=bH hs hy;simp only[Rel]at h1;obtain⟨vs,h1,h2⟩:=h1;obtain⟨gs,h3,h4⟩:=HN (tok _ _ ht) rfl;obtain⟨fd,h5,h6,h7,h8,h9,h10,_⟩:=h4 f o ft k g (by rw[<-cM];exact hf);rw[<-h8]at h;refine⟨_,(Ro h10 h9 h2 h w).choose_spec.2,λw' _=>?_⟩;have hr:=(Ro h10 h9 h2 h w).choose_spec.1;have hind:∀(v:Value) (w w':World),(part ft vs.toArray o).run P w= .ok v w->(part ft vs.toArray o).run P w'= .ok v w':=by
     intro v w w' hh;simp only[part,Sem.run_bind,IX h10,Result.andThen_ok,Sem.run_ite,l7 h10,Sem.run_pure]at hh⊢;split at hh
     ·rename_i hc;rw[bg hc];injection hh with e1 e2;rw[e1]
     ·rename_i hc;rw[aM hc];split at hh
      ·rename_i u hu;simp only[Sem.run_pure]at hh⊢;injection hh with e1 e2;rw[e1]
      ·simp at hh
    simp only[execOp,h1,Instr.field,Sem.run_bind,run_underlying h3,Result.andThen_ok,h5,asAgg,Sem.run_pure,h6,h7,hind _ _ w' hr]
   ·cases h
  ·cases h
 case fieldAddr t y f=>
  split at h
  ·rename_i fs k b z ht;split at h
   ·rename_i off ft fk g hf;obtain⟨gs,h3,h4⟩:=HN (tok _ _ ht) rfl;obtain⟨fd,h5,h6,h7,h8,h9,h10,h11⟩:=h4 f off ft fk g (by rw[<-cM];exact hf);have hsz:∀w',(sizeOf fd.type).run P w'= .ok fk w':=λw'=>by rw[h7,l7 h10,h8]
    have hrun:∀(b o:Nat) (w':World),a.eval y= .pointer (some ⟨b,o,none⟩)->
      (execOp a.eval ⟨dst,.fieldAddr t y f,ty,pos,after,gd⟩).run P w'= .ok (.value (.pointer (some ⟨b,o+off,none⟩))) w':=by
     intro b o w' he;simp[execOp,he,Instr.fieldAt,run_underlying h3,h5,Instr.sureAddr,fieldPlace,hsz,Nat.pos_iff_ne_zero.1 h11,h6,Addr.add_lit]
    split at h
    ·rename_i tag' b' o' hy;simp only[aE]at h;subst h;have h1:=bH hs hy;simp only[Rel]at h1;exact⟨.pointer (some ⟨b',o'+off,none⟩),(by simp only[Rel]),λw' _=>hrun _ _ w' h1⟩
    ·rename_i cs hy;simp only[aE]at h;subst h;have h1:=bH hs hy;simp only[Rel]at h1;obtain⟨b',o',vs,e1,e2,e3,e4⟩:=h1;refine⟨.pointer (some ⟨b',o'+off,none⟩),?_,λw' _=>hrun _ _ w' e1⟩;simp only[Rel];exact⟨b',o'+off,vs.drop off,rfl,e2,e3.drop off,λj u hj=>by rw[xQ]at hj;have:=e4 _ _ hj;rwa[<-Hw]at this⟩
    ·rename_i tag' v n hy;simp only[aE]at h;subst h;have h1:=bH hs hy;simp only[Rel]at h1;obtain⟨b',l,c,e1,e2⟩:=h1;refine⟨.pointer (some ⟨b',n+off,none⟩),?_,λw' _=>hrun _ _ w' e2⟩;simp only[Rel];exact⟨b',l,c,e1,rfl⟩
    ·cases h
   ·cases h
  ·cases h
 case nilCheck y=>
  split at h
  ·rename_i ad hy;simp only[aE]at h;subst h;have h1:=bH hs hy;simp only[Rel]at h1;exact⟨_,gJ _,λw' _=>by simp[execOp,h1]⟩
  ·rename_i tag' b' o' hy;simp only[aE]at h;subst h;have h1:=bH hs hy;simp only[Rel]at h1;exact⟨.pointer (some ⟨b',o',none⟩),(by simp only[Rel]),λw' _=>by simp[execOp,h1]⟩
  ·rename_i cs hy;simp only[aE]at h;subst h;have h0:=bH hs hy;have h1:=h0;simp only[Rel]at h1;obtain⟨b',o',vs,e1,_⟩:=h1;exact⟨_,h0,λw' _=>by simp[execOp,e1]⟩
  ·rename_i tag' v n hy;simp only[aE]at h;subst h;have h0:=bH hs hy;have h1:=h0;simp only[Rel]at h1;obtain⟨b',l,c,e1,e2⟩:=h1;exact⟨_,h0,λw' _=>by simp[execOp,e2]⟩
  ·rename_i f fs cs hy;simp only[aE]at h;subst h;have h0:=bH hs hy;have h1:=h0;simp only[Rel]at h1;obtain⟨us,vs,e1,_⟩:=h1;exact⟨_,h0,λw' _=>by simp[execOp,e1]⟩
  ·rename_i f fa c hy;simp only[aE]at h;subst h;have h1:=bH hs hy;simp only[Rel]at h1;exact⟨_,gJ _,λw' _=>by simp[execOp,h1]⟩
  ·cases h
 case typeAssert y xt t ok=>
  split at h
  ·cases h
  ·rename_i u y' i hne hy ht;have h1:=bH hs hy;simp only[Rel]at h1;obtain⟨x0,h1,h2⟩:=h1;obtain⟨d,ti,hu,_,hd,_⟩:=fx (tok _ _ ht);split at h
   ·rename_i hb;have hut:=bQ hb;subst hut;simp only[aE]at h;subst h;refine⟨.tuple #[x0,.bool true],(by simp only[Rel,aL];exact⟨[x0,.bool true],rfl,_,_,rfl,h2,_,_,rfl,rfl,rfl⟩),λw' _=>?_⟩;cases d<;>simp[execOp,h1,Instr.typeAssert,run_underlying hu];rename_i ms;obtain⟨id,_,_,_⟩:=i;cases id<;>simp[iu]at hd;exact(hne _ _ _ rfl).elim
   ·rename_i hb;have hut:=bQ hb;subst hut;simp only[aE]at h;subst h;refine⟨x0,h2,λw' _=>?_⟩;cases d<;>simp[execOp,h1,Instr.typeAssert,run_underlying hu];rename_i ms;obtain⟨id,_,_,_⟩:=i;cases id<;>simp[iu]at hd;exact(hne _ _ _ rfl).elim
   ·cases h
  ·cases h
 case load t y=>
  split at h
  ·rename_i cs d k b z hy ht;have h1:=bH hs hy;simp only[Rel]at h1;obtain⟨b',o',vs,e1,e2,e3,e4⟩:=h1;have hti:=tok _ _ ht;split at h
   ·rename_i hg;split at h
    ·rename_i hf;simp only[aE]at h;subst h;refine⟨.agg (vs.take k).toArray,?_,λw' hw'=>?_⟩
     ·simp only[Rel];exact⟨_,rfl,e3.take k⟩
     ·have:=nG (P:=P) (v0:=undef) hti (b:=b') (o:=o') (vs:=vs.take k) (w':=w')
       (λj u hj=>hw'.cell (e4 j u (by rw[fT]at hj;split at hj;exact hj;cases hj))) (λ_=>e3.yH k hf) (λhg'=>by simp only at hg';rw[hg]at hg';cases hg')
      simp only at this;simp[execOp,e1,Instr.loadAt,Instr.sureAddr,this,hg]
    ·cases h
   ·rename_i hg;obtain⟨v,h3,h4⟩:=e3.nth h;refine⟨v,h4,λw' hw'=>?_⟩;have:=nG (P:=P) (v0:=v) hti (b:=b') (o:=o') (vs:=vs) (w':=w')
     (λj u hj=>hw'.cell (e4 j u hj)) (λhg'=>by simp only at hg';rw[hg]at hg';cases hg') (λ_=>h3)
    simp only at this;simp[execOp,e1,Instr.loadAt,Instr.sureAddr,this,hg]
  ·cases h
 case makeInterface t y=>
  split at h
  ·cases h
  ·rename_i u i hne hy ht;simp only[aE]at h;subst h;obtain⟨d,ti,hu,_,hd,_⟩:=fx (tok _ _ ht);refine⟨.iface t (a.eval y),?_,λw' _=>?_⟩
   ·simp only[Rel];exact⟨_,rfl,bH hs hy⟩
   ·simp only[execOp,Instr.makeInterface,Sem.run_bind,run_underlying hu,Result.andThen_ok];cases d<;>simp;rename_i ms;obtain⟨id,_,_,_⟩:=i;cases id<;>simp[iu]at hd;exact(hne _ _ _ rfl).elim
  ·cases h
 case makeFunc fn first caps=>
  cases fn<;>simp only at h<;>try (cases h;done)
  rename_i f;split at h
  ·rename_i fs cs h1 h2;have h3:=zN hs h2;have h3':=zN hs h1;split at h
   ·rename_i us vs h4' h4;simp only[aE]at h;subst h;have h5:=IZ h4 h3;have h5':=IZ h4' h3';refine⟨_,gJ _,λw' _=>?_⟩;have e1:caps.map a.eval=vs.toArray:=by apply kM;simpa using h5
    have e2:first.map a.eval=us.toArray:=by apply kM;simpa using h5'
    simp[execOp,Instr.makeFunc,e1,e2]
   ·simp only[aE]at h;subst h;refine⟨.func (.func f) (first.map a.eval) (caps.map a.eval),?_,λw' _=>by simp[execOp,Instr.makeFunc]⟩;simp only[Rel];exact⟨first.toList.map a.eval,caps.toList.map a.eval,by congr 1<;>(apply kM;simp),h3',h3⟩
  ·cases h
 case convert s d y=>
  split at h
  ·rename_i k0 n _ i k _ _ _ hy h1 h2;simp only[aE]at h;subst h;have h3:=bH hs hy;simp only[Rel]at h3;obtain⟨us,_,hu1,_,_,_⟩:=fx (tok _ _ h1);obtain⟨ud,_,hu2,_,hd2,_⟩:=fx (tok _ _ h2);refine⟨_,gJ _,λw' _=>?_⟩;cases ud<;>simp[iu]at hd2;subst hd2;simp[execOp,h3,convert,run_underlying hu1,run_underlying hu2,Conv.intToInt]
  ·rename_i x _ _ _ _ _ _ hy h1 h2;simp only[aE]at h;subst h;have h3:=bH hs hy;simp only[Rel]at h3;obtain⟨us,_,hu1,_,hd1,_⟩:=fx (tok _ _ h1);obtain⟨ud,_,hu2,_,hd2,_⟩:=fx (tok _ _ h2);refine⟨_,gJ _,λw' _=>?_⟩;cases ud<;>simp[iu]at hd2;cases us<;>simp[iu]at hd1;simp[execOp,h3,convert,run_underlying hu1,run_underlying hu2]
  ·cases h
 case build t parts=>
  split at h
  ·rename_i fs k b z ht;split at h
   ·rename_i cells hf;simp only[aE]at h;subst h;obtain⟨gs,h3,h4,hall⟩:=aaz (tok _ _ ht) rfl;obtain⟨_,ti,_,hi,hd,_,_,zv,hz1,hz2⟩:=fx (tok _ _ ht);have hplaces:∀w':World,(gs.mapM λf=>(do pure (f.offset,<-sizeOf f.type):Sem (Nat×Nat))).run P w'= .ok (gs.map λf=>(f.offset,jg P f.type)) w':=by
     intro w';have key:∀(l:List Field),(∀f∈l,hasB P f.type=true)->(l.mapM λf=>(do pure (f.offset,<-sizeOf f.type):Sem (Nat×Nat))).run P w'= .ok (l.map λf=>(f.offset,jg P f.type)) w':=by
      intro l
      induction l with
      |nil=>intro _;simp
      |cons f l ih=>
       intro hl;have h1:=l7 (hl f (by simp)) w';have h2:=ih (λg hg=>hl g (by simp[hg]));simp only[List.mapM_cons,Sem.run_bind,h1,Result.andThen_ok,Sem.run_pure,h2,dp]
     rw[anU];have:=key gs.toList (λf hf=>by
      obtain⟨j,hj,rfl⟩:=anV hf;exact hall j hj)
     simp only[Sem.run_map,this,Result.andThen_ok];congr 1;apply kM;simp
    obtain⟨us,h5,h6⟩:=Rn (λi=>(gs.map λf=>(f.offset,jg P f.type))[i]?) (λi off t k g hi=>by
     obtain⟨fd,e1,e2,e3,e4,_⟩:=h4 i off t k g (by rw[<-cM];exact hi);simp[e1,e2,e3,e4]) hs hf (oI _)
    refine⟨.agg us,?_,λw' _=>?_⟩
    ·simp only[Rel];exact⟨us.toList,by simp,h6⟩
    ·have hzc:zv.cells=z.toArray:=by apply kM;simpa using hz2
     have hpl:(parts.map λ(x:Nat×Operand)=>(x.1,a.eval x.2)).toList=parts.toList.map λp=>(p.1,a.eval p.2):=by simp
     simp only[execOp,Instr.build,zeroValue,typeInfo,Sem.run_bind,run_program,Result.andThen_ok,hi,Sem.run_pure,hz1,run_underlying h3,hplaces,hzc,hpl,h5]
   ·cases h
  ·cases h
