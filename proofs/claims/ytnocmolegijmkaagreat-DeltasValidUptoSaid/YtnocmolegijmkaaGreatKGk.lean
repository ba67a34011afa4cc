/- From the rows' worlds to the walks: what a call leaves. -/
import Derived.Test.YtnocmolegijmkaaGreatKCt
import Derived.Test.YtnocmolegijmkaaGreatChecked
import Derived.ProofKit
import Derived.OpenShut
import Derived.Deep.DeepHandedRow
import Derived.SevenTiedAt
set_option linter.all false
section
namespace Go.Proofs.YtnocmolegijmkaaGreat
open Go Go.Bw Go.ChangeShapes Go.WideShapes Go.ChangeAt Go.RowKit
abbrev J5 (b:Bool):AV:= .v (.bool b)
theorem own:ownKnob Tryz.prog.godebug=none:=by kernel_rfl
theorem Ps {W:World} {A:Nat->Prop}:rX env.toCx.G W A:=λp hp=>by cases hp
theorem NR {W W':World} (h:Ext [] W [] W') (may:MemPlace->Prop):W.keptBut W' may:=by
 refine⟨h.os,h.output,λi hi=>?_⟩;rw[h.block i hi (by simp[ids])];cases W.heap[i]? with
 |none=>rfl
 |some o=>cases o<;>simp
end Go.Proofs.YtnocmolegijmkaaGreat
end

section
namespace Go.Proofs.YtnocmolegijmkaaGreat
open Go Go.Bw
def oJ (P:Program):Nat->List Field->Nat->Bool
 |off,[],e=>Nat.beq off e
 |off,f::fs,e=>Nat.beq f.offset off&&oJ P (off+P.cellsOf f.type) fs e
def lq (sh:TypeId->List AV->Prop):List Field->List AV->Prop
 |[],row=>row=[]
 |f::fs,row=>∃r1 r2,row=r1++r2/\sh f.type r1/\lq sh fs r2
def Sh (P:Program) (B:Nat):Nat->TypeId->List AV->Prop
 |0,_,_=>False
 |n+1,t,row=>match P.underlying t with
  |some .bool=>∃b,row=[.v (.bool b)]
  |some (.int k)=>∃z,row=[.v (.int k z)]/\(Lit.int k z).wf=true
  |some .string=>∃s,row=[.v (.string s)]/\s.size<=B
  |some (.slice e)=>∃rows,row=[.sl (P.cellsOf e) rows]/\rows.length<=B/\∀r∈rows,Sh P B n e r
  |some (.struct fs)=>lq (Sh P B n) fs.toList row
  |_=>∃vs:List Value,row=vs.map .v
abbrev kr:Nat->Prop:=λ_=>True
section
variable {H:Type} {enc:TypeId×Value->H} {P:Program} {w:World} {base:Nat} {sp:Nat->Bool} {held:Bool} {B:Nat}
theorem FK:∀{l:List (DataW H)} {d:DataW H},d∈l->Rows.uptoBulk d<=Rows.uptoBulkAll l
 |[],_,h=>by cases h
 |x::l,d,h=>by
  simp only[Rows.uptoBulkAll];rcases cu.1 h with rfl|h
  ·omega
  ·have:=FK h;omega
theorem ND:∀d:DataW H,1<=Rows.uptoBulk d
 | .lit (.string _)=>by simp[Rows.uptoBulk]
 | .lit (.bool _)=>by simp[Rows.uptoBulk]
 | .lit .nil=>by simp[Rows.uptoBulk]
 | .lit (.int _ _)=>by simp[Rows.uptoBulk]
 | .lit (.float _ _)=>by simp[Rows.uptoBulk]
 | .nil=>by simp[Rows.uptoBulk]
 | .ptr _=>by simp[Rows.uptoBulk]
 | .slice _ _=>by simp[Rows.uptoBulk]
 | .agg _=>by simp[Rows.uptoBulk]
 | .iface _ _=>by simp[Rows.uptoBulk]
 | .map _=>by simp[Rows.uptoBulk]
 | .held _=>by simp[Rows.uptoBulk]
theorem FJ:∀l:List (DataW H),l.length<=Rows.uptoBulkAll l
 |[]=>by simp
 |x::l=>by
  have:=FJ l;have:=ND x;simp only[Rows.uptoBulkAll,eG];omega
theorem FM {n:Nat} {cs:List Value} (ih:∀t cs d ps,t<P.types.size->DataW.trod enc P w base sp held n t cs=some (d,ps)->Rows.uptoBulk d<=B->∃row,Sh P B n t row/\aG w kr row cs):
  ∀(fs:List Field) (off:Nat) (xs:List (DataW H×List MemPlace)),(fs.all λf=>Nat.blt f.type P.types.size)=true->oJ P off fs cs.length=true->xs.length=fs.length->
   (∀(i:Nat) (f:Field),fs[i]? =some f->DataW.trod enc P w base sp held n f.type ((cs.drop f.offset).take (P.cellsOf f.type))=xs[i]?)->Rows.uptoBulkAll (xs.map (·.1))<=B->∃row,lq (Sh P B n) fs row/\aG w kr row (cs.drop off)
 |[],off,xs,_,hc,_,h,hB=>by
  simp only[oJ]at hc;have:=bg hc;subst this;exact⟨[],by simp[lq],by simp[aG]⟩
 |f::fs,off,[],_,hc,hl,h,hB=>by simp at hl
 |f::fs,off,(d,p)::ys,ht,hc,hl,h,hB=>by
  simp only[jw,bj,kG]at ht;simp only[oJ,bj]at hc;obtain⟨h1,h2⟩:=hc;have h1:=bg h1;have hd:=h 0 f (by simp);simp only[dA,Rows.uptoBulkAll]at hB;obtain⟨r1,g1,g2⟩:=ih _ _ d p ht.1 (by simpa using hd) (by omega);obtain⟨r2,k1,k2⟩:=FM ih fs _ ys ht.2 h2 (by simpa using hl) (λi g hg=>by simpa using h (i+1) g (by simpa using hg)) (by omega);refine⟨r1++r2,⟨r1,r2,rfl,g1,k1⟩,?_⟩;have e:cs.drop off=(cs.drop f.offset).take (P.cellsOf f.type)++cs.drop (off+P.cellsOf f.type):=by
   rw[h1,<-List.drop_drop,z6]
  rw[e];exact g2.append k2
theorem bc.snoc {A:Nat->Prop} {k:Nat} {r:List AV} {cs:List Value} (hk:r.length=k) (hr:aG w A r cs):∀{rows:List (List AV)} {vs:List Value},bc w A k rows vs->bc w A k (rows++[r]) (vs++cs)
 |[],vs,h=>by
  simp only[bc]at h;subst h;simp only[vz,bc];exact⟨cs,[],by simp,hk,hr,rfl⟩
 |x::xs,vs,h=>by
  simp only[bc]at h;obtain⟨v1,v2,rfl,m1,m2,m3⟩:=h;simp only[iO,bc,jX];exact⟨v1,v2++cs,rfl,m1,m2,bc.snoc hk hr m3⟩
theorem NF (a:Addr) (i j:Nat):(a.add i).add j=a.add (i+j):=by
 unfold Addr.add;by_cases hi:i=0<;>by_cases hj:j=0<;>simp[hi,hj,Ab]
theorem Nr {e:TypeId} {n:Nat} {a:Addr} (he:e<P.types.size) (ih:∀t cs d ps,t<P.types.size->DataW.trod enc P w base sp held n t cs=some (d,ps)->Rows.uptoBulk d<=B->∃row,Sh P B n t row/\aG w kr row cs):
  ∀(len:Nat) (elems:List (DataW H×List MemPlace)),elems.length=len->Rows.uptoBulkAll (elems.map (·.1))<=B->
   (∀i,i<len->(w.cells? base (a.add (i*P.cellsOf e)) (P.cellsOf e)).bind (DataW.trod enc P w base sp held n e)=elems[i]?)->
   ∃rows vs,rows.length=len/\(∀r∈rows,Sh P B n e r)/\bc w kr (P.cellsOf e) rows vs/\∀j u,vs[j]? =some u->w.cell? (a.add j)=some u:=by
 intro len
 induction len with
 |zero=>intro elems hl _ _;exact⟨[],[],rfl,by simp,by simp[bc],by simp⟩
 |succ len ihl=>
  intro elems hl hB hel;obtain⟨rows,vs,g1,g2,g3,g4⟩:=ihl (elems.take len) (by simp[hl]) (by
   have:Rows.uptoBulkAll ((elems.take len).map (·.1))<=Rows.uptoBulkAll (elems.map (·.1)):=by
    conv=>rhs;rw[<-z6 len elems]
    rw[zZ];have happ:∀l r:List (DataW H),Rows.uptoBulkAll (l++r)=Rows.uptoBulkAll l+Rows.uptoBulkAll r:=by
     intro l r
     induction l with
     |nil=>simp[Rows.uptoBulkAll]
     |cons x l ih=>simp only[iO,Rows.uptoBulkAll,ih];omega
    rw[happ];omega
   omega) (λi hi=>by rw[hel i (by omega),kI];simp[hi])
  have hlast:=hel len (by omega);have hle:elems[len]? =some elems[len]:=by simp[hl]
  rw[hle]at hlast;obtain⟨cs,hc,ht⟩:=Option.bind_eq_some_iff.1 hlast;obtain⟨r,k1,k2⟩:=ih e cs elems[len].1 elems[len].2 he (by rw[ht]) (by
   have:elems[len].1∈elems.map (·.1):=dk.2 ⟨_,List.getElem_mem _,rfl⟩;have:=FK this;omega)
  obtain⟨_,hcl,hcell⟩:=World.cells?_some hc;have hrl:vs.length=len*P.cellsOf e:=by rw[g3.length,g1]
  refine⟨rows++[r],vs++cs,by simp[g1],?_,?_,?_⟩
  ·intro x hx;rcases cD.1 hx with hx|hx
   ·exact g2 x hx
   ·simp only[mN]at hx;subst hx;exact k1
  ·have hk2:r.length=P.cellsOf e:=by rw[<-k2.length,hcl]
   exact bc.snoc hk2 k2 g3
  ·intro j u hj;by_cases hjl:j<vs.length
   ·exact g4 j u (by rwa[pT hjl]at hj)
   ·rw[zY (by omega)]at hj;have hlt:j-vs.length<P.cellsOf e:=by
     have:=(cX.1 hj).1;omega
    have:=hcell (j-vs.length) hlt;rw[hj]at this;rw[<-this,NF];congr 2;omega
theorem Gw (hc:∀t fs,t<P.types.size->P.underlying t=some (.struct fs)->oJ P 0 fs.toList (P.cellsOf t)=true/\(fs.toList.all λf=>Nat.blt f.type P.types.size)=true) (hk:∀t e,t<P.types.size->P.underlying t=some (.slice e)->1<=P.cellsOf e/\e<P.types.size):
  ∀(n:Nat) (t:TypeId) (cs:List Value) (d:DataW H) (ps:List MemPlace),t<P.types.size->DataW.trod enc P w base sp held n t cs=some (d,ps)->Rows.uptoBulk d<=B->∃row,Sh P B n t row/\aG w kr row cs
 |0,t,cs,d,ps,_,h,_=>by simp[DataW.trod]at h
 |n+1,t,cs,d,ps,hts,h,hB=>by
  have ih:=Gw hc hk n;have other:(∃vs:List Value,(cs.map AV.v)=vs.map .v)/\aG w kr (cs.map .v) cs:=⟨⟨cs,rfl⟩,mh cs⟩;cases hu:P.underlying t with
  |none=>exact⟨cs.map .v,by simp only[Sh,hu];exact other.1,other.2⟩
  |some u=>
   cases u with
   |bool=>
    obtain⟨b,rfl,_⟩:=DataW.trod_bool hu h;exact⟨[.v (.bool b)],by simp only[Sh,hu];exact⟨b,rfl⟩,by simp[aG,Rel]⟩
   |int k=>
    obtain⟨z,rfl,_,hz⟩:=DataW.trod_int hu h;exact⟨[.v (.int k z)],by simp only[Sh,hu];exact⟨z,rfl,hz⟩,by simp[aG,Rel]⟩
   |string=>
    obtain⟨s,rfl,hx,_⟩:=DataW.trod_string hu h;obtain⟨rfl,_⟩:=Nc hx;refine⟨[.v (.string s)],?_,by simp[aG,Rel]⟩;simp only[Sh,hu];refine⟨s,rfl,?_⟩;simp only[Rows.uptoBulk,vy]at hB;have:s.size=s.data.size:=rfl;omega
   |slice e=>
    rcases DataW.trod_slice hu h with⟨rfl,hx⟩|⟨a,len,cap,elems,rest,m,hm,rfl,hx,_,hlc,hcm,hel,hcell,_,_⟩
    ·refine⟨[.sl (P.cellsOf e) []],by simp only[Sh,hu];exact⟨[],rfl,by simp,by simp⟩,?_⟩;simp only[aG,Rel];exact⟨_,[],rfl,.inl ⟨trivial,none,0,rfl⟩,rfl⟩
    ·obtain rfl:n=m:=by omega
     obtain⟨rfl,_⟩:=Nc hx;simp only[Rows.uptoBulk]at hB;obtain⟨rows,vs,g1,g2,g3,g4⟩:=Nr (hk t e hts hu).2 ih len elems hel (by omega) hcell;have hlB:rows.length<=B:=by
      have:=FJ (elems.map (·.1));rw[jv,hel]at this;omega
     refine⟨[.sl (P.cellsOf e) rows],by simp only[Sh,hu];exact⟨rows,rfl,hlB,g2⟩,?_⟩;simp only[aG,Rel];refine⟨_,[],rfl,?_,rfl⟩;by_cases h0:len=0
     ·subst h0;exact .inl ⟨lv g1,some a,cap,rfl⟩
     ·have hvl:vs.length=len*P.cellsOf e:=by rw[g3.length,g1]
      have hk1:=(hk t e hts hu).1;have hpos:0<vs.length:=by rw[hvl];exact Nat.mul_pos (by omega) hk1
      obtain⟨v0,hv0⟩:∃v0,vs[0]? =some v0:=⟨vs[0],by simp[hpos]⟩;have hc0:=g4 0 v0 hv0;obtain⟨b,o,spot⟩:=a;have hspot:spot=none:=by
       simp only[Addr.add,if_true]at hc0;unfold World.cell? at hc0;split at hc0
       ·split at hc0
        ·cases hc0
        ·rename_i hs;simpa using hs
       ·cases hc0
      subst hspot;refine .inr ⟨b,o,cap,vs,by rw[g1],⟨?_,trivial⟩,by omega,hcm,g3,λj u hj=>?_⟩
      ·have:=Gt (w:=w) (b:=b) (o:=o) (u:=v0) (by simpa[Addr.add]using hc0);exact this
      ·have:=g4 j u hj;unfold Addr.add at this;split at this
       ·rename_i hj0;subst hj0;simpa using this
       ·exact this
   |struct fs=>
    obtain⟨xs,m,hm,hx,hcl,hxl,hf⟩:=DataW.trod_struct hu h;obtain rfl:n=m:=by omega
    obtain⟨rfl,_⟩:=Nc hx;simp only[Rows.uptoBulk]at hB;obtain⟨row,g1,g2⟩:=FM ih fs.toList 0 xs (hc t fs hts hu).2 (by rw[hcl];exact(hc t fs hts hu).1) (by simpa using hxl) (λi f hi=>hf i f (by simpa using hi)) (by omega);exact⟨row,by simp only[Sh,hu];exact g1,by simpa using g2⟩
   |_=>exact⟨cs.map .v,by simp only[Sh,hu];exact other.1,other.2⟩
end
end Go.Proofs.YtnocmolegijmkaaGreat
end

section
set_option maxRecDepth 100000
namespace Go.Proofs.YtnocmolegijmkaaGreat
open Go Go.Bw
theorem ov {D β:Type} {f:D->β} {p:D->Prop}:∀{rows:List β},(∀r∈rows,∃x,r=f x/\p x)->∃xs:List D,rows=xs.map f/\∀x∈xs,p x
 |[],_=>⟨[],rfl,by simp⟩
 |r::rows,h=>by
  obtain⟨x,rfl,hx⟩:=h r (by simp);obtain⟨xs,rfl,hxs⟩:=ov (rows:=rows) (λr hr=>h r (by simp[hr]));exact⟨x::xs,rfl,by simpa using⟨hx,hxs⟩⟩
section
variable {P:Program} {B n:Nat} {t:TypeId} {row:List AV}
theorem mo {k:IntKind} (hu:P.underlying t=some (.int k)) (h:Sh P B n t row):∃z,row=[.v (.int k z)]/\(Lit.int k z).wf=true:=by
 cases n with
 |zero=>exact h.elim
 |succ n=>simp only[Sh,hu]at h;exact h
theorem oQ (hu:P.underlying t=some .string) (h:Sh P B n t row):∃s,row=[.v (.string s)]/\s.size<=B:=by
 cases n with
 |zero=>exact h.elim
 |succ n=>simp only[Sh,hu]at h;exact h
theorem qy {e k:Nat} (hu:P.underlying t=some (.slice e)) (hk:P.cellsOf e=k) (h:Sh P B n t row):∃m rows,n=m+1/\row=[.sl k rows]/\rows.length<=B/\∀r∈rows,Sh P B m e r:=by
 cases n with
 |zero=>exact h.elim
 |succ n=>simp only[Sh,hu]at h;subst hk;obtain⟨rows,h1,h2,h3⟩:=h;exact⟨n,rows,rfl,h1,h2,h3⟩
theorem qt {fs:Array Field} (hu:P.underlying t=some (.struct fs)) (h:Sh P B n t row):∃m,n=m+1/\lq (Sh P B m) fs.toList row:=by
 cases n with
 |zero=>exact h.elim
 |succ n=>simp only[Sh,hu]at h;exact⟨n,rfl,h⟩
end
theorem JX:Tryz.prog.underlying 22=some (.slice 9):=by kernel_rfl
theorem KC:Tryz.prog.cellsOf 9=1:=by kernel_rfl
theorem pc:Tryz.prog.underlying 9=some (.string):=by kernel_rfl
theorem rn:Tryz.prog.underlying 3=some (.int .i64):=by kernel_rfl
theorem Db:Tryz.prog.underlying 2=some (.int .i64):=by kernel_rfl
theorem RN:Tryz.prog.underlying 23=some (.slice 26):=by kernel_rfl
theorem RO:Tryz.prog.cellsOf 26=6:=by kernel_rfl
theorem RS:Tryz.prog.underlying 24=some (.slice 181):=by kernel_rfl
theorem QO:Tryz.prog.cellsOf 181=2:=by kernel_rfl
theorem RT:Tryz.prog.underlying 30=some (.slice 32):=by kernel_rfl
theorem RU:Tryz.prog.cellsOf 32=12:=by kernel_rfl
theorem RV:Tryz.prog.underlying 27=some (.slice 63):=by kernel_rfl
theorem RW:Tryz.prog.cellsOf 63=2:=by kernel_rfl
def aN.ok (B:Nat) (x:aN):Prop:=(x.If.length<=B/\∀y∈x.If,y.length<=B)/\x.fO.length<=B
theorem aN.sh {B:Nat}:∀(n:Nat) (row:List AV),Sh Tryz.prog B n 181 row->∃x:aN,row=aN.cs x/\aN.ok B x:=by
 intro n
 induction n using Nat.strongRecOn with
 |_ n ih=>
  intro row h;obtain⟨m,rfl,hh⟩:=qt Tryz.underlying181 h;simp only[lq]at hh;obtain⟨a0,r0,rfl,h0,a1,r1,rfl,h1,rfl⟩:=hh;obtain⟨h0m,h0w,h0e,rfl,h0l,h0r⟩:=qy JX KC h0;obtain⟨x0,rfl,o01⟩:=ov (f:=(λx:List UInt8=>[AV.v (.string ⟨⟨x⟩⟩)])) (p:=λy=>y.length<=B) (rows:=h0w) (λr hr=>by obtain⟨⟨⟨b⟩⟩,e,e2⟩:=oQ pc (h0r r hr);exact⟨b,e,e2⟩);have o0:(x0.length<=B/\∀y∈x0,y.length<=B):=⟨by simpa using h0l,o01⟩;obtain⟨⟨⟨x1⟩⟩,rfl,o1⟩:=oQ pc h1;replace o1:x1.length<=B:=o1;exact⟨⟨x0,x1⟩,by first|rfl|simp[aN.cs,aW],⟨o0,o1⟩⟩
mutual
def ai.ok (B:Nat):ai->Prop
 |⟨vKind,vLo,vHi,vNames,vParts,vRules⟩=>(Lit.int .i64 vKind).wf=true/\(Lit.int .i64 vLo).wf=true/\(Lit.int .i64 vHi).wf=true/\(vNames.length<=B/\∀y∈vNames,y.length<=B)/\(vParts.length<=B/\ai.fS B vParts)/\(vRules.length<=B/\∀y∈vRules,aN.ok B y)
def ai.fS (B:Nat):List ai->Prop
 |[]=>True
 |x::r=>ai.ok B x/\ai.fS B r
end
theorem ai.tR {B:Nat}:∀{l:List ai},(∀x∈l,ai.ok B x)->ai.fS B l
 |[],_=>trivial
 |x::r,h=>⟨h x (by simp),ai.tR λy hy=>h y (by simp[hy])⟩
theorem ai.gO {B:Nat}:∀{l:List ai} {x:ai},ai.fS B l->x∈l->ai.ok B x
 |y::r,x,h,hx=>by
  rcases cu.1 hx with rfl|hx
  ·exact h.1
  ·exact ai.gO h.2 hx
theorem ai.cY {B:Nat} (x:ai):ai.ok B x↔((Lit.int .i64 x.Kind).wf=true/\(Lit.int .i64 x.Lo).wf=true/\(Lit.int .i64 x.Hi).wf=true/\(x.Names.length<=B/\∀y∈x.Names,y.length<=B)/\(x.aB.length<=B/\ai.fS B x.aB)/\(x.aY.length<=B/\∀y∈x.aY,aN.ok B y)):=by cases x;first|rfl|simp only[ai.ok]
theorem ai.sh {B:Nat}:∀(n:Nat) (row:List AV),Sh Tryz.prog B n 26 row->∃x:ai,row=ai.cs x/\ai.ok B x:=by
 intro n
 induction n using Nat.strongRecOn with
 |_ n ih=>
  intro row h;obtain⟨m,rfl,hh⟩:=qt Tryz.underlying26 h;simp only[lq]at hh;obtain⟨a0,r0,rfl,h0,a1,r1,rfl,h1,a2,r2,rfl,h2,a3,r3,rfl,h3,a4,r4,rfl,h4,a5,r5,rfl,h5,rfl⟩:=hh;obtain⟨x0,rfl,o0⟩:=mo rn h0;obtain⟨x1,rfl,o1⟩:=mo Db h1;obtain⟨x2,rfl,o2⟩:=mo Db h2;obtain⟨h3m,h3w,h3e,rfl,h3l,h3r⟩:=qy JX KC h3;obtain⟨x3,rfl,o31⟩:=ov (f:=(λx:List UInt8=>[AV.v (.string ⟨⟨x⟩⟩)])) (p:=λy=>y.length<=B) (rows:=h3w) (λr hr=>by obtain⟨⟨⟨b⟩⟩,e,e2⟩:=oQ pc (h3r r hr);exact⟨b,e,e2⟩);have o3:(x3.length<=B/\∀y∈x3,y.length<=B):=⟨by simpa using h3l,o31⟩;obtain⟨h4m,h4w,h4e,rfl,h4l,h4r⟩:=qy RN RO h4;obtain⟨x4,rfl,o41⟩:=ov (f:=ai.cs) (p:=λy=>ai.ok B y) (rows:=h4w) (λr hr=>ih h4m (by omega) r (h4r r hr));have o4:(x4.length<=B/\ai.fS B x4):=⟨by simpa using h4l,ai.tR o41⟩;obtain⟨h5m,h5w,h5e,rfl,h5l,h5r⟩:=qy RS QO h5;obtain⟨x5,rfl,o51⟩:=ov (f:=aN.cs) (p:=λy=>aN.ok B y) (rows:=h5w) (λr hr=>aN.sh _ _ (h5r r hr));have o5:(x5.length<=B/\∀y∈x5,aN.ok B y):=⟨by simpa using h5l,o51⟩;exact⟨⟨x0,x1,x2,x3,x4,x5⟩,by first|rfl|simp[ai.cs,aW,ai.bf,aN.bf],(ai.cY _).2 ⟨o0,o1,o2,o3,o4,o5⟩⟩
def TParam.ok (B:Nat) (x:TParam):Prop:=x.Name.length<=B/\(Lit.int .i64 x.aL).wf=true
theorem TParam.sh {B:Nat}:∀(n:Nat) (row:List AV),Sh Tryz.prog B n 63 row->∃x:TParam,row=TParam.cs x/\TParam.ok B x:=by
 intro n
 induction n using Nat.strongRecOn with
 |_ n ih=>
  intro row h;obtain⟨m,rfl,hh⟩:=qt Tryz.underlying63 h;simp only[lq]at hh;obtain⟨a0,r0,rfl,h0,a1,r1,rfl,h1,rfl⟩:=hh;obtain⟨⟨⟨x0⟩⟩,rfl,o0⟩:=oQ pc h0;replace o0:x0.length<=B:=o0;obtain⟨x1,rfl,o1⟩:=mo rn h1;exact⟨⟨x0,x1⟩,by first|rfl|simp[TParam.cs],⟨o0,o1⟩⟩
def ay.ok (B:Nat) (x:ay):Prop:=(Lit.int .i64 x.aL).wf=true/\ai.ok B x.aw
theorem ay.sh {B:Nat}:∀(n:Nat) (row:List AV),Sh Tryz.prog B n 29 row->∃x:ay,row=ay.cs x/\ay.ok B x:=by
 intro n
 induction n using Nat.strongRecOn with
 |_ n ih=>
  intro row h;obtain⟨m,rfl,hh⟩:=qt Tryz.underlying29 h;simp only[lq]at hh;obtain⟨a0,r0,rfl,h0,a1,r1,rfl,h1,rfl⟩:=hh;obtain⟨x0,rfl,o0⟩:=mo rn h0;obtain⟨x1,rfl,o1⟩:=ai.sh _ _ h1;exact⟨⟨x0,x1⟩,by first|rfl|simp[ay.cs,ai.cs],⟨o0,o1⟩⟩
mutual
def ab.ok (B:Nat):ab->Prop
 |⟨vOp,vType_,vN,vText,vAt,vKids⟩=>(Lit.int .i64 vOp).wf=true/\ay.ok B vType_/\(Lit.int .i64 vN).wf=true/\vText.length<=B/\(Lit.int .i64 vAt).wf=true/\(vKids.length<=B/\ab.fS B vKids)
def ab.fS (B:Nat):List ab->Prop
 |[]=>True
 |x::r=>ab.ok B x/\ab.fS B r
end
theorem ab.tR {B:Nat}:∀{l:List ab},(∀x∈l,ab.ok B x)->ab.fS B l
 |[],_=>trivial
 |x::r,h=>⟨h x (by simp),ab.tR λy hy=>h y (by simp[hy])⟩
theorem ab.gO {B:Nat}:∀{l:List ab} {x:ab},ab.fS B l->x∈l->ab.ok B x
 |y::r,x,h,hx=>by
  rcases cu.1 hx with rfl|hx
  ·exact h.1
  ·exact ab.gO h.2 hx
theorem ab.cY {B:Nat} (x:ab):ab.ok B x↔((Lit.int .i64 x.Op).wf=true/\ay.ok B x.aq/\(Lit.int .i64 x.N).wf=true/\x.Text.length<=B/\(Lit.int .i64 x.At).wf=true/\(x.Kids.length<=B/\ab.fS B x.Kids)):=by cases x;first|rfl|simp only[ab.ok]
theorem ab.sh {B:Nat}:∀(n:Nat) (row:List AV),Sh Tryz.prog B n 32 row->∃x:ab,row=ab.cs x/\ab.ok B x:=by
 intro n
 induction n using Nat.strongRecOn with
 |_ n ih=>
  intro row h;obtain⟨m,rfl,hh⟩:=qt Tryz.underlying32 h;simp only[lq]at hh;obtain⟨a0,r0,rfl,h0,a1,r1,rfl,h1,a2,r2,rfl,h2,a3,r3,rfl,h3,a4,r4,rfl,h4,a5,r5,rfl,h5,rfl⟩:=hh;obtain⟨x0,rfl,o0⟩:=mo rn h0;obtain⟨x1,rfl,o1⟩:=ay.sh _ _ h1;obtain⟨x2,rfl,o2⟩:=mo Db h2;obtain⟨⟨⟨x3⟩⟩,rfl,o3⟩:=oQ pc h3;replace o3:x3.length<=B:=o3;obtain⟨x4,rfl,o4⟩:=mo rn h4;obtain⟨h5m,h5w,h5e,rfl,h5l,h5r⟩:=qy RT RU h5;obtain⟨x5,rfl,o51⟩:=ov (f:=ab.cs) (p:=λy=>ab.ok B y) (rows:=h5w) (λr hr=>ih h5m (by omega) r (h5r r hr));have o5:(x5.length<=B/\ab.fS B x5):=⟨by simpa using h5l,ab.tR o51⟩;exact⟨⟨x0,x1,x2,x3,x4,x5⟩,by first|rfl|simp[ab.cs,ay.cs,ab.bf],(ab.cY _).2 ⟨o0,o1,o2,o3,o4,o5⟩⟩
def bA.ok (B:Nat) (x:bA):Prop:=x.Name.length<=B/\x.On.length<=B/\(x.Params.length<=B/\∀y∈x.Params,TParam.ok B y)/\(Lit.int .i64 x.Result).wf=true/\ab.ok B x.Body
theorem bA.sh {B:Nat}:∀(n:Nat) (row:List AV),Sh Tryz.prog B n 34 row->∃x:bA,row=bA.cs x/\bA.ok B x:=by
 intro n
 induction n using Nat.strongRecOn with
 |_ n ih=>
  intro row h;obtain⟨m,rfl,hh⟩:=qt Tryz.underlying34 h;simp only[lq]at hh;obtain⟨a0,r0,rfl,h0,a1,r1,rfl,h1,a2,r2,rfl,h2,a3,r3,rfl,h3,a4,r4,rfl,h4,rfl⟩:=hh;obtain⟨⟨⟨x0⟩⟩,rfl,o0⟩:=oQ pc h0;replace o0:x0.length<=B:=o0;obtain⟨⟨⟨x1⟩⟩,rfl,o1⟩:=oQ pc h1;replace o1:x1.length<=B:=o1;obtain⟨h2m,h2w,h2e,rfl,h2l,h2r⟩:=qy RV RW h2;obtain⟨x2,rfl,o21⟩:=ov (f:=TParam.cs) (p:=λy=>TParam.ok B y) (rows:=h2w) (λr hr=>TParam.sh _ _ (h2r r hr));have o2:(x2.length<=B/\∀y∈x2,TParam.ok B y):=⟨by simpa using h2l,o21⟩;obtain⟨x3,rfl,o3⟩:=mo rn h3;obtain⟨x4,rfl,o4⟩:=ab.sh _ _ h4;exact⟨⟨x0,x1,x2,x3,x4⟩,by first|rfl|simp[bA.cs,TParam.bf,ab.cs],⟨o0,o1,o2,o3,o4⟩⟩
section
def BA (P:Program) (t:Nat):Bool:=match P.underlying t with
 |some (.struct fs)=>oJ P 0 fs.toList (P.cellsOf t)&&fs.toList.all λf=>Nat.blt f.type P.types.size
 |some (.slice e)=>Nat.ble 1 (P.cellsOf e)&&Nat.blt e P.types.size
 |_=>true
theorem Gx:(List.range Tryz.prog.types.size).all (BA Tryz.prog)=true:=by kernel_rfl
theorem Oj:∀t fs,t<Tryz.prog.types.size->Tryz.prog.underlying t=some (.struct fs)->oJ Tryz.prog 0 fs.toList (Tryz.prog.cellsOf t)=true/\(fs.toList.all λf=>Nat.blt f.type Tryz.prog.types.size)=true:=by
 intro t fs ht h;have:=ju.1 Gx t (FB.2 ht);simpa only[BA,h,bj]using this
theorem Ol:∀t e,t<Tryz.prog.types.size->Tryz.prog.underlying t=some (.slice e)->1<=Tryz.prog.cellsOf e/\e<Tryz.prog.types.size:=by
 intro t e ht h;have:=ju.1 Gx t (FB.2 ht);simp only[BA,h,bj,kG]at this;exact⟨dj this.1,this.2⟩
end
end Go.Proofs.YtnocmolegijmkaaGreat
end

section
set_option maxRecDepth 100000
namespace Go.Proofs.YtnocmolegijmkaaGreat
open Go Go.Bw Go.ChangeShapes Go.WideShapes Go.ChangeAt Go.RowKit
def mu (P:Program) (B:Nat) (t:TypeId) (x:AV):Prop:=match P.underlying t with
 |some (.struct _)=>∃n row,Sh P B n t row/\x= .agg row
 |some (.array _ _)=>∃n row,Sh P B n t row/\x= .agg row
 |_=>∃n,Sh P B n t [x]
def qJ (P:Program) (B:Nat):List TypeId->List AV->Prop
 |[],xs=>xs=[]
 |t::ts,xs=>∃x r,xs=x::r/\mu P B t x/\qJ P B ts r
def pF (P:Program) (t:TypeId):Bool:=Nat.blt t P.types.size&&P.readableRec t&&match P.underlying t with
 |some (.struct _)=>true
 |some (.array _ _)=>true
 |some .bool=>true
 |some (.int _)=>true
 |some .string=>true
 |some (.slice _)=>true
 |_=>false
theorem O4:laidOutB Tryz.prog=true:=by kernel_rfl
section
variable {H:Type} {enc:TypeId×Value->H} {W W':World} {base:Nat} {held:Bool} {B:Nat}
theorem RM {t:TypeId} {v:Value} {d:DataW H} {p:List MemPlace} (hb:pF Tryz.prog t=true) (hv:Value.okWide Tryz.prog W .any base t v) (h:DataW.Trod enc Tryz.prog W 0 (λ_=>true) held t v d p) (hB:Rows.uptoBulk d<=B):
  ∃x,mu Tryz.prog B t x/\Rel W kr x v:=by
 obtain⟨n,h⟩:=h;simp only[pF,bj,kG]at hb;obtain⟨⟨ht,_⟩,hb⟩:=hb;obtain⟨row,h1,h2⟩:=Gw Oj Ol n t v.cells.toList d p ht h hB;have one:∀u,v=u->u.cells= #[u]->∃x,row=[x]/\Rel W kr x v:=by
  intro u hu hc;subst hu;rw[hc]at h2;cases row with
  |nil=>simp[aG]at h2
  |cons x r=>
   simp only[aG]at h2;obtain⟨y,r',e,h3,h4⟩:=h2;simp only[jV]at e;obtain⟨e1,e2⟩:=e;subst e1;subst e2;have:=h4.length;cases r with
   |nil=>exact⟨x,rfl,h3⟩
   |cons _ _=>simp at this
 cases hu:Tryz.prog.underlying t with
 |none=>rw[hu]at hb;cases hb
 |some u=>
  rw[hu]at hb;cases u<;>simp only[iN]at hb
  ·obtain⟨b,rfl⟩:=okWide_bool hu hv;obtain⟨x,rfl,hx⟩:=one _ rfl rfl;exact⟨x,by simp only[mu,hu];exact⟨n,h1⟩,hx⟩
  ·obtain⟨b,rfl⟩:=okWide_int hu hv;obtain⟨x,rfl,hx⟩:=one _ rfl rfl;exact⟨x,by simp only[mu,hu];exact⟨n,h1⟩,hx⟩
  ·obtain⟨b,rfl⟩:=okWide_string hu hv;obtain⟨x,rfl,hx⟩:=one _ rfl rfl;exact⟨x,by simp only[mu,hu];exact⟨n,h1⟩,hx⟩
  ·obtain⟨a,l,c,rfl⟩:=okWide_slice hu hv;obtain⟨x,rfl,hx⟩:=one _ rfl rfl;exact⟨x,by simp only[mu,hu];exact⟨n,h1⟩,hx⟩
  ·have:∃cs,v= .agg cs:=by
    simp only[Value.okWide,hu]at hv;obtain⟨cs,h1,_⟩:=hv;exact⟨cs,h1⟩
   obtain⟨cs,rfl⟩:=this;exact⟨.agg row,by simp only[mu,hu];exact⟨n,row,h1,rfl⟩,by simp only[Rel];exact⟨cs.toList,by simp,by simpa[Value.cells]using h2⟩⟩
  ·have:∃cs,v= .agg cs:=by
    simp only[Value.okWide,hu]at hv;obtain⟨cs,h1,_⟩:=hv;exact⟨cs,h1⟩
   obtain⟨cs,rfl⟩:=this;exact⟨.agg row,by simp only[mu,hu];exact⟨n,row,h1,rfl⟩,by simp only[Rel];exact⟨cs.toList,by simp,by simpa[Value.cells]using h2⟩⟩
theorem IX:∀{ts:List TypeId} {vs:List Value} {ds:List (DataW H)} {p:List MemPlace},ts.all (pF Tryz.prog)=true->(∀(j:Nat) t v,ts[j]? =some t->vs[j]? =some v->Value.okWide Tryz.prog W .any base t v)->
  DataW.TrodAll enc Tryz.prog W 0 (λ_=>true) true ts vs ds p->Rows.uptoBulkAll ds<=B->∃xs,qJ Tryz.prog B ts xs/\aG W kr xs vs
 |[],vs,ds,p,_,_,h,_=>by
  obtain⟨rfl,rfl,rfl⟩:=trodAll_nil h;exact⟨[],by simp[qJ],by simp[aG]⟩
 |t::ts,vs,ds,p,ht,hv,h,hB=>by
  obtain⟨v,vs',d,ds',p1,q1,rfl,rfl,rfl,h1,h2⟩:=trodAll_cons h;simp only[jw,bj]at ht;simp only[Rows.uptoBulkAll]at hB;obtain⟨x,hx,hr⟩:=RM ht.1 (hv 0 t v rfl rfl) h1 (B:=B) (by omega);obtain⟨xs,hxs,hrs⟩:=IX ht.2 (λj t v h1 h2=>hv (j+1) t v (by simpa using h1) (by simpa using h2)) h2 (by omega);exact⟨x::xs,⟨x,xs,rfl,hx,hxs⟩,by simp only[aG];exact⟨v,vs',rfl,hr,hrs⟩⟩
theorem Om (h:Ext [] W [] W') {p:MemPlace} (hp:p.block<W.heap.size):W.sameAt W' p:=by
 cases p with
 |cell b o=>exact World.cell?_of_block (h.block b hp (by simp[ids]))
 |map b=>exact h.block b hp (by simp[ids])
theorem FY (hx:Ext [] W [] W'):∀{ts:List TypeId} {vs:List Value} {ds:List (DataW H)} {p:List MemPlace},ts.all (pF Tryz.prog)=true->(∀q∈p,q.block<W.heap.size)->
  DataW.TrodAll enc Tryz.prog W 0 (λ_=>true) true ts vs ds p->DataW.TrodAll enc Tryz.prog W' 0 (λb=>decide (b<W.heap.size)) true ts vs ds p
 |[],vs,ds,p,_,_,h=>by
  obtain⟨rfl,rfl,rfl⟩:=trodAll_nil h;exact rfl
 |t::ts,vs,ds,p,ht,hlt,h=>by
  obtain⟨v,vs',d,ds',p1,q1,rfl,rfl,rfl,h1,h2⟩:=trodAll_cons h;simp only[jw,bj,pF,kG]at ht;obtain⟨⟨⟨h3,h4⟩,_⟩,h5⟩:=ht;refine⟨p1,q1,WideElems.Trod_stays O4 h4 h3 h1 (λq hq=>Om hx (hlt q (oh _ hq))) (λq hq=>by simpa using hlt q (oh _ hq)),?_,rfl⟩;exact FY hx (by simpa[pF]using h5) (λq hq=>hlt q (X0 _ hq)) h2
theorem Nz {fid:FuncId} {fn:Func} {s:ChangeSpec} {tb:TypeId} (hvars:s.vars=[]) (hfn:∀ds:List (DataW H),ds.length=fn.params.toList.length->s.fn H (ds++[])={results:=[.lit (.bool true)],args:=ds})
  (hres:fn.resultTypes.toList=[tb]) (hsz:fn.resultTypes.size=1) (hb:Tryz.prog.underlying tb=some .bool) (hts:fn.params.toList.all (pF Tryz.prog)=true) (hlaw:∀xs,qJ Tryz.prog B fn.params.toList xs->Bw.Pure env.toCx fid xs (.ret (J5 true)))
  {args:Array Value} {ds gs:List (DataW H)} {before:List MemPlace} (hval:∀(j:Nat) t v,fn.params[j]? =some t->args[j]? =some v->Value.okWide Tryz.prog W .any base t v)
  (hW:DataW.Whole enc Tryz.prog fn.params.toList s.vars false W args.toList ds gs before) (hG:rX env.toCx.G W kr) (hB:Rows.uptoBulkAll (ds++gs)<=B):
  Calls Tryz.prog fid args W λe W'=>∃v,e= .returned v/\s.post enc Tryz.prog fn false true false false W args v W':=by
 have hW':=hW;have hlt:=hW.lt;obtain⟨p,q,hA,hV,hpq,_,_⟩:=hW;rw[hvars]at hV;obtain⟨rfl,rfl⟩:=trodVars_none hV;rw[iM]at hB hpq;subst hpq;have hlen:ds.length=fn.params.toList.length:=by
  have key:∀{ts:List TypeId} {vs:List Value} {ds:List (DataW H)} {p:List MemPlace},DataW.TrodAll enc Tryz.prog W 0 (λ_=>true) true ts vs ds p->ds.length=ts.length:=by
   intro ts
   induction ts with
   |nil=>intro vs ds p h;obtain⟨rfl,rfl,rfl⟩:=trodAll_nil h;rfl
   |cons t ts ih=>
    intro vs ds p h;obtain⟨v,vs',d,ds',p1,q1,rfl,rfl,rfl,h1,h2⟩:=trodAll_cons h;simp[ih h2]
  exact key hA
 obtain⟨xs,h1,h2⟩:=IX (B:=B) (base:=base) hts (λj t v h1 h2=>hval j t v (by simpa using h1) (by simpa using h2)) hA hB;have hAA:Al (λ_=>False) []=kr:=funext λb=>by simp[Al,ids,kr]
 have:=(hlaw xs h1).2 (λ_=>False) W args.toList ⟨by simp,by simp[ids],by simp[ids],by simp,by rw[hAA];exact hG⟩ (by rw[hAA];exact h2);simp only[Array.toArray_toList]at this;refine this.mono ?_;rintro e W' ⟨r,L',⟨rfl,rfl⟩,⟨v,rfl,hv⟩,_,hx⟩;simp only[Rel]at hv;subst hv;refine⟨_,rfl,ds,[],before,[],before,[],hW',?_,?_,?_,NR hx _,λh=>by cases h⟩
 ·rw[hfn ds hlen,hres];have:(Value.bool true).resultList fn.resultTypes.size=[.bool true]:=by rw[hsz];rfl
  rw[this];exact trodAll_cons_mk (shut_bool hb _) trodAll_mk0
 ·rw[hfn ds hlen];exact FY hx hts (λq hq=>hlt q hq) hA
 ·rw[hfn ds hlen,hvars];exact rfl
