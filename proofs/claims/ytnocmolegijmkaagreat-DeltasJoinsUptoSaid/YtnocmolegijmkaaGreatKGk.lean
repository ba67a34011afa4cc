/- From the rows' worlds to the walks: what a call leaves. -/
import Derived.Test.YtnocmolegijmkaaGreatKCt
import Derived.Test.YtnocmolegijmkaaGreatChecked
import Derived.ProofKit
import Derived.OpenShut
import Derived.Deep.DeepHandedRow
import Derived.SevenTiedAt
set_option linter.all false
section
namespace Go.Proofs.YtnocmolegijmkaaGreat
open Go Go.Bw Go.ChangeShapes Go.WideShapes Go.ChangeAt Go.RowKit
abbrev VX (b:Bool):AV:= .v (.bool b)
theorem own:ownKnob Tryz.prog.godebug=none:=by kernel_rfl
theorem ada {W:World} {A:Nat->Prop}:xu env.toCx.G W A:=λp hp=>by cases hp
theorem aa4 {W W':World} (h:Ext [] W [] W') (may:MemPlace->Prop):W.keptBut W' may:=by
 refine⟨h.os,h.output,λi hi=>?_⟩;rw[h.block i hi (by simp[ids])];cases W.heap[i]? with
 |none=>rfl
 |some o=>cases o<;>simp
end Go.Proofs.YtnocmolegijmkaaGreat
end

section
namespace Go.Proofs.YtnocmolegijmkaaGreat
open Go Go.Bw
def rz (P:Program):Nat->List Field->Nat->Bool
 |off,[],e=>Nat.beq off e
 |off,f::fs,e=>Nat.beq f.offset off&&rz P (off+P.cellsOf f.type) fs e
def kE (sh:TypeId->List AV->Prop):List Field->List AV->Prop
 |[],row=>row=[]
 |f::fs,row=>∃r1 r2,row=r1++r2/\sh f.type r1/\kE sh fs r2
def Sh (P:Program) (B:Nat):Nat->TypeId->List AV->Prop
 |0,_,_=>False
 |n+1,t,row=>match P.underlying t with
  |some .bool=>∃b,row=[.v (.bool b)]
  |some (.int k)=>∃z,row=[.v (.int k z)]/\(Lit.int k z).wf=true
  |some .string=>∃s,row=[.v (.string s)]/\s.size<=B
  |some (.slice e)=>∃rows,row=[.sl (P.cellsOf e) rows]/\rows.length<=B/\∀r∈rows,Sh P B n e r
  |some (.struct fs)=>kE (Sh P B n) fs.toList row
  |_=>∃vs:List Value,row=vs.map .v
abbrev mm:Nat->Prop:=λ_=>True
section
variable {H:Type} {enc:TypeId×Value->H} {P:Program} {w:World} {base:Nat} {sp:Nat->Bool} {held:Bool} {B:Nat}
theorem OS:∀{l:List (DataW H)} {d:DataW H},d∈l->Rows.uptoBulk d<=Rows.uptoBulkAll l
 |[],_,h=>by cases h
 |x::l,d,h=>by
  simp only[Rows.uptoBulkAll];rcases cq.1 h with rfl|h
  ·omega
  ·have:=OS h;omega
theorem aaQ:∀d:DataW H,1<=Rows.uptoBulk d
 | .lit (.string _)=>by simp[Rows.uptoBulk]
 | .lit (.bool _)=>by simp[Rows.uptoBulk]
 | .lit .nil=>by simp[Rows.uptoBulk]
 | .lit (.int _ _)=>by simp[Rows.uptoBulk]
 | .lit (.float _ _)=>by simp[Rows.uptoBulk]
 | .nil=>by simp[Rows.uptoBulk]
 | .ptr _=>by simp[Rows.uptoBulk]
 | .slice _ _=>by simp[Rows.uptoBulk]
 | .agg _=>by simp[Rows.uptoBulk]
 | .iface _ _=>by simp[Rows.uptoBulk]
 | .map _=>by simp[Rows.uptoBulk]
 | .held _=>by simp[Rows.uptoBulk]
theorem OR:∀l:List (DataW H),l.length<=Rows.uptoBulkAll l
 |[]=>by simp
 |x::l=>by
  have:=OR l;have:=aaQ x;simp only[Rows.uptoBulkAll,gP];omega
theorem OU {n:Nat} {cs:List Value} (ih:∀t cs d ps,t<P.types.size->DataW.trod enc P w base sp held n t cs=some (d,ps)->Rows.uptoBulk d<=B->∃row,Sh P B n t row/\aL w mm row cs):
  ∀(fs:List Field) (off:Nat) (xs:List (DataW H×List MemPlace)),(fs.all λf=>Nat.blt f.type P.types.size)=true->rz P off fs cs.length=true->xs.length=fs.length->
   (∀(i:Nat) (f:Field),fs[i]? =some f->DataW.trod enc P w base sp held n f.type ((cs.drop f.offset).take (P.cellsOf f.type))=xs[i]?)->Rows.uptoBulkAll (xs.map (·.1))<=B->∃row,kE (Sh P B n) fs row/\aL w mm row (cs.drop off)
 |[],off,xs,_,hc,_,h,hB=>by
  simp only[rz]at hc;have:=bQ hc;subst this;exact⟨[],by simp[kE],by simp[aL]⟩
 |f::fs,off,[],_,hc,hl,h,hB=>by simp at hl
 |f::fs,off,(d,p)::ys,ht,hc,hl,h,hB=>by
  simp only[lx,bS,mD]at ht;simp only[rz,bS]at hc;obtain⟨h1,h2⟩:=hc;have h1:=bQ h1;have hd:=h 0 f (by simp);simp only[dp,Rows.uptoBulkAll]at hB;obtain⟨r1,g1,g2⟩:=ih _ _ d p ht.1 (by simpa using hd) (by omega);obtain⟨r2,k1,k2⟩:=OU ih fs _ ys ht.2 h2 (by simpa using hl) (λi g hg=>by simpa using h (i+1) g (by simpa using hg)) (by omega);refine⟨r1++r2,⟨r1,r2,rfl,g1,k1⟩,?_⟩;have e:cs.drop off=(cs.drop f.offset).take (P.cellsOf f.type)++cs.drop (off+P.cellsOf f.type):=by
   rw[h1,<-List.drop_drop,Dx]
  rw[e];exact g2.append k2
theorem bq.snoc {A:Nat->Prop} {k:Nat} {r:List AV} {cs:List Value} (hk:r.length=k) (hr:aL w A r cs):∀{rows:List (List AV)} {vs:List Value},bq w A k rows vs->bq w A k (rows++[r]) (vs++cs)
 |[],vs,h=>by
  simp only[bq]at h;subst h;simp only[pA,bq];exact⟨cs,[],by simp,hk,hr,rfl⟩
 |x::xs,vs,h=>by
  simp only[bq]at h;obtain⟨v1,v2,rfl,m1,m2,m3⟩:=h;simp only[ko,bq,lX];exact⟨v1,v2++cs,rfl,m1,m2,bq.snoc hk hr m3⟩
theorem aaR (a:Addr) (i j:Nat):(a.add i).add j=a.add (i+j):=by
 unfold Addr.add;by_cases hi:i=0<;>by_cases hj:j=0<;>simp[hi,hj,Hw]
theorem aaF {e:TypeId} {n:Nat} {a:Addr} (he:e<P.types.size) (ih:∀t cs d ps,t<P.types.size->DataW.trod enc P w base sp held n t cs=some (d,ps)->Rows.uptoBulk d<=B->∃row,Sh P B n t row/\aL w mm row cs):
  ∀(len:Nat) (elems:List (DataW H×List MemPlace)),elems.length=len->Rows.uptoBulkAll (elems.map (·.1))<=B->
   (∀i,i<len->(w.cells? base (a.add (i*P.cellsOf e)) (P.cellsOf e)).bind (DataW.trod enc P w base sp held n e)=elems[i]?)->
   ∃rows vs,rows.length=len/\(∀r∈rows,Sh P B n e r)/\bq w mm (P.cellsOf e) rows vs/\∀j u,vs[j]? =some u->w.cell? (a.add j)=some u:=by
 intro len
 induction len with
 |zero=>intro elems hl _ _;exact⟨[],[],rfl,by simp,by simp[bq],by simp⟩
 |succ len ihl=>
  intro elems hl hB hel;obtain⟨rows,vs,g1,g2,g3,g4⟩:=ihl (elems.take len) (by simp[hl]) (by
   have:Rows.uptoBulkAll ((elems.take len).map (·.1))<=Rows.uptoBulkAll (elems.map (·.1)):=by
    conv=>rhs;rw[<-Dx len elems]
    rw[qY];have happ:∀l r:List (DataW H),Rows.uptoBulkAll (l++r)=Rows.uptoBulkAll l+Rows.uptoBulkAll r:=by
     intro l r
     induction l with
     |nil=>simp[Rows.uptoBulkAll]
     |cons x l ih=>simp only[ko,Rows.uptoBulkAll,ih];omega
    rw[happ];omega
   omega) (λi hi=>by rw[hel i (by omega),fT];simp[hi])
  have hlast:=hel len (by omega);have hle:elems[len]? =some elems[len]:=by simp[hl]
  rw[hle]at hlast;obtain⟨cs,hc,ht⟩:=Option.bind_eq_some_iff.1 hlast;obtain⟨r,k1,k2⟩:=ih e cs elems[len].1 elems[len].2 he (by rw[ht]) (by
   have:elems[len].1∈elems.map (·.1):=dP.2 ⟨_,List.getElem_mem _,rfl⟩;have:=OS this;omega)
  obtain⟨_,hcl,hcell⟩:=World.cells?_some hc;have hrl:vs.length=len*P.cellsOf e:=by rw[g3.length,g1]
  refine⟨rows++[r],vs++cs,by simp[g1],?_,?_,?_⟩
  ·intro x hx;rcases b7.1 hx with hx|hx
   ·exact g2 x hx
   ·simp only[iZ]at hx;subst hx;exact k1
  ·have hk2:r.length=P.cellsOf e:=by rw[<-k2.length,hcl]
   exact bq.snoc hk2 k2 g3
  ·intro j u hj;by_cases hjl:j<vs.length
   ·exact g4 j u (by rwa[mF hjl]at hj)
   ·rw[xK (by omega)]at hj;have hlt:j-vs.length<P.cellsOf e:=by
     have:=(cr.1 hj).1;omega
    have:=hcell (j-vs.length) hlt;rw[hj]at this;rw[<-this,aaR];congr 2;omega
theorem PD (hc:∀t fs,t<P.types.size->P.underlying t=some (.struct fs)->rz P 0 fs.toList (P.cellsOf t)=true/\(fs.toList.all λf=>Nat.blt f.type P.types.size)=true) (hk:∀t e,t<P.types.size->P.underlying t=some (.slice e)->1<=P.cellsOf e/\e<P.types.size):
  ∀(n:Nat) (t:TypeId) (cs:List Value) (d:DataW H) (ps:List MemPlace),t<P.types.size->DataW.trod enc P w base sp held n t cs=some (d,ps)->Rows.uptoBulk d<=B->∃row,Sh P B n t row/\aL w mm row cs
 |0,t,cs,d,ps,_,h,_=>by simp[DataW.trod]at h
 |n+1,t,cs,d,ps,hts,h,hB=>by
  have ih:=PD hc hk n;have other:(∃vs:List Value,(cs.map AV.v)=vs.map .v)/\aL w mm (cs.map .v) cs:=⟨⟨cs,rfl⟩,oI cs⟩;cases hu:P.underlying t with
  |none=>exact⟨cs.map .v,by simp only[Sh,hu];exact other.1,other.2⟩
  |some u=>
   cases u with
   |bool=>
    obtain⟨b,rfl,_⟩:=DataW.trod_bool hu h;exact⟨[.v (.bool b)],by simp only[Sh,hu];exact⟨b,rfl⟩,by simp[aL,Rel]⟩
   |int k=>
    obtain⟨z,rfl,_,hz⟩:=DataW.trod_int hu h;exact⟨[.v (.int k z)],by simp only[Sh,hu];exact⟨z,rfl,hz⟩,by simp[aL,Rel]⟩
   |string=>
    obtain⟨s,rfl,hx,_⟩:=DataW.trod_string hu h;obtain⟨rfl,_⟩:=aaa hx;refine⟨[.v (.string s)],?_,by simp[aL,Rel]⟩;simp only[Sh,hu];refine⟨s,rfl,?_⟩;simp only[Rows.uptoBulk,xL]at hB;have:s.size=s.data.size:=rfl;omega
   |slice e=>
    rcases DataW.trod_slice hu h with⟨rfl,hx⟩|⟨a,len,cap,elems,rest,m,hm,rfl,hx,_,hlc,hcm,hel,hcell,_,_⟩
    ·refine⟨[.sl (P.cellsOf e) []],by simp only[Sh,hu];exact⟨[],rfl,by simp,by simp⟩,?_⟩;simp only[aL,Rel];exact⟨_,[],rfl,.inl ⟨trivial,none,0,rfl⟩,rfl⟩
    ·obtain rfl:n=m:=by omega
     obtain⟨rfl,_⟩:=aaa hx;simp only[Rows.uptoBulk]at hB;obtain⟨rows,vs,g1,g2,g3,g4⟩:=aaF (hk t e hts hu).2 ih len elems hel (by omega) hcell;have hlB:rows.length<=B:=by
      have:=OR (elems.map (·.1));rw[ja,hel]at this;omega
     refine⟨[.sl (P.cellsOf e) rows],by simp only[Sh,hu];exact⟨rows,rfl,hlB,g2⟩,?_⟩;simp only[aL,Rel];refine⟨_,[],rfl,?_,rfl⟩;by_cases h0:len=0
     ·subst h0;exact .inl ⟨jb g1,some a,cap,rfl⟩
     ·have hvl:vs.length=len*P.cellsOf e:=by rw[g3.length,g1]
      have hk1:=(hk t e hts hu).1;have hpos:0<vs.length:=by rw[hvl];exact Nat.mul_pos (by omega) hk1
      obtain⟨v0,hv0⟩:∃v0,vs[0]? =some v0:=⟨vs[0],by simp[hpos]⟩;have hc0:=g4 0 v0 hv0;obtain⟨b,o,spot⟩:=a;have hspot:spot=none:=by
       simp only[Addr.add,if_true]at hc0;unfold World.cell? at hc0;split at hc0
       ·split at hc0
        ·cases hc0
        ·rename_i hs;simpa using hs
       ·cases hc0
      subst hspot;refine .inr ⟨b,o,cap,vs,by rw[g1],⟨?_,trivial⟩,by omega,hcm,g3,λj u hj=>?_⟩
      ·have:=PG (w:=w) (b:=b) (o:=o) (u:=v0) (by simpa[Addr.add]using hc0);exact this
      ·have:=g4 j u hj;unfold Addr.add at this;split at this
       ·rename_i hj0;subst hj0;simpa using this
       ·exact this
   |struct fs=>
    obtain⟨xs,m,hm,hx,hcl,hxl,hf⟩:=DataW.trod_struct hu h;obtain rfl:n=m:=by omega
    obtain⟨rfl,_⟩:=aaa hx;simp only[Rows.uptoBulk]at hB;obtain⟨row,g1,g2⟩:=OU ih fs.toList 0 xs (hc t fs hts hu).2 (by rw[hcl];exact(hc t fs hts hu).1) (by simpa using hxl) (λi f hi=>hf i f (by simpa using hi)) (by omega);exact⟨row,by simp only[Sh,hu];exact g1,by simpa using g2⟩
   |_=>exact⟨cs.map .v,by simp only[Sh,hu];exact other.1,other.2⟩
end
end Go.Proofs.YtnocmolegijmkaaGreat
end

section
set_option maxRecDepth 100000
namespace Go.Proofs.YtnocmolegijmkaaGreat
open Go Go.Bw
theorem lz {D β:Type} {f:D->β} {p:D->Prop}:∀{rows:List β},(∀r∈rows,∃x,r=f x/\p x)->∃xs:List D,rows=xs.map f/\∀x∈xs,p x
 |[],_=>⟨[],rfl,by simp⟩
 |r::rows,h=>by
  obtain⟨x,rfl,hx⟩:=h r (by simp);obtain⟨xs,rfl,hxs⟩:=lz (rows:=rows) (λr hr=>h r (by simp[hr]));exact⟨x::xs,rfl,by simpa using⟨hx,hxs⟩⟩
section
variable {P:Program} {B n:Nat} {t:TypeId} {row:List AV}
theorem kQ {k:IntKind} (hu:P.underlying t=some (.int k)) (h:Sh P B n t row):∃z,row=[.v (.int k z)]/\(Lit.int k z).wf=true:=by
 cases n with
 |zero=>exact h.elim
 |succ n=>simp only[Sh,hu]at h;exact h
theorem mR (hu:P.underlying t=some .string) (h:Sh P B n t row):∃s,row=[.v (.string s)]/\s.size<=B:=by
 cases n with
 |zero=>exact h.elim
 |succ n=>simp only[Sh,hu]at h;exact h
theorem l8 {e k:Nat} (hu:P.underlying t=some (.slice e)) (hk:P.cellsOf e=k) (h:Sh P B n t row):∃m rows,n=m+1/\row=[.sl k rows]/\rows.length<=B/\∀r∈rows,Sh P B m e r:=by
 cases n with
 |zero=>exact h.elim
 |succ n=>simp only[Sh,hu]at h;subst hk;obtain⟨rows,h1,h2,h3⟩:=h;exact⟨n,rows,rfl,h1,h2,h3⟩
theorem nJ {fs:Array Field} (hu:P.underlying t=some (.struct fs)) (h:Sh P B n t row):∃m,n=m+1/\kE (Sh P B m) fs.toList row:=by
 cases n with
 |zero=>exact h.elim
 |succ n=>simp only[Sh,hu]at h;exact⟨n,rfl,h⟩
end
theorem Fx:Tryz.prog.underlying 22=some (.slice 9):=by kernel_rfl
theorem FN:Tryz.prog.cellsOf 9=1:=by kernel_rfl
theorem mX:Tryz.prog.underlying 9=some (.string):=by kernel_rfl
theorem qz:Tryz.prog.underlying 3=some (.int .i64):=by kernel_rfl
theorem vY:Tryz.prog.underlying 2=some (.int .i64):=by kernel_rfl
theorem afG:Tryz.prog.underlying 23=some (.slice 26):=by kernel_rfl
theorem afH:Tryz.prog.cellsOf 26=6:=by kernel_rfl
theorem afI:Tryz.prog.underlying 24=some (.slice 181):=by kernel_rfl
theorem aeC:Tryz.prog.cellsOf 181=2:=by kernel_rfl
theorem afJ:Tryz.prog.underlying 30=some (.slice 32):=by kernel_rfl
theorem afK:Tryz.prog.cellsOf 32=12:=by kernel_rfl
theorem afL:Tryz.prog.underlying 27=some (.slice 63):=by kernel_rfl
theorem afM:Tryz.prog.cellsOf 63=2:=by kernel_rfl
theorem aeD:Tryz.prog.underlying 124=some (.slice 161):=by kernel_rfl
theorem aeE:Tryz.prog.cellsOf 161=2:=by kernel_rfl
theorem afN:Tryz.prog.underlying 37=some (.slice 40):=by kernel_rfl
theorem afO:Tryz.prog.cellsOf 40=4:=by kernel_rfl
theorem afP:Tryz.prog.underlying 38=some (.slice 126):=by kernel_rfl
theorem aeF:Tryz.prog.cellsOf 126=2:=by kernel_rfl
def aX.ok (B:Nat) (x:aX):Prop:=(x.If.length<=B/\∀y∈x.If,y.length<=B)/\x.dY.length<=B
theorem aX.sh {B:Nat}:∀(n:Nat) (row:List AV),Sh Tryz.prog B n 181 row->∃x:aX,row=aX.cs x/\aX.ok B x:=by
 intro n
 induction n using Nat.strongRecOn with
 |_ n ih=>
  intro row h;obtain⟨m,rfl,hh⟩:=nJ Tryz.underlying181 h;simp only[kE]at hh;obtain⟨a0,r0,rfl,h0,a1,r1,rfl,h1,rfl⟩:=hh;obtain⟨h0m,h0w,h0e,rfl,h0l,h0r⟩:=l8 Fx FN h0;obtain⟨x0,rfl,o01⟩:=lz (f:=(λx:List UInt8=>[AV.v (.string ⟨⟨x⟩⟩)])) (p:=λy=>y.length<=B) (rows:=h0w) (λr hr=>by obtain⟨⟨⟨b⟩⟩,e,e2⟩:=mR mX (h0r r hr);exact⟨b,e,e2⟩);have o0:(x0.length<=B/\∀y∈x0,y.length<=B):=⟨by simpa using h0l,o01⟩;obtain⟨⟨⟨x1⟩⟩,rfl,o1⟩:=mR mX h1;replace o1:x1.length<=B:=o1;exact⟨⟨x0,x1⟩,by first|rfl|simp[aX.cs,aG],⟨o0,o1⟩⟩
mutual
def ag.ok (B:Nat):ag->Prop
 |⟨vKind,vLo,vHi,vNames,vParts,vRules⟩=>(Lit.int .i64 vKind).wf=true/\(Lit.int .i64 vLo).wf=true/\(Lit.int .i64 vHi).wf=true/\(vNames.length<=B/\∀y∈vNames,y.length<=B)/\(vParts.length<=B/\ag.fp B vParts)/\(vRules.length<=B/\∀y∈vRules,aX.ok B y)
def ag.fp (B:Nat):List ag->Prop
 |[]=>True
 |x::r=>ag.ok B x/\ag.fp B r
end
theorem ag.qc {B:Nat}:∀{l:List ag},(∀x∈l,ag.ok B x)->ag.fp B l
 |[],_=>trivial
 |x::r,h=>⟨h x (by simp),ag.qc λy hy=>h y (by simp[hy])⟩
theorem ag.gH {B:Nat}:∀{l:List ag} {x:ag},ag.fp B l->x∈l->ag.ok B x
 |y::r,x,h,hx=>by
  rcases cq.1 hx with rfl|hx
  ·exact h.1
  ·exact ag.gH h.2 hx
theorem ag.dK {B:Nat} (x:ag):ag.ok B x↔((Lit.int .i64 x.Kind).wf=true/\(Lit.int .i64 x.Lo).wf=true/\(Lit.int .i64 x.Hi).wf=true/\(x.Names.length<=B/\∀y∈x.Names,y.length<=B)/\(x.ai.length<=B/\ag.fp B x.ai)/\(x.bO.length<=B/\∀y∈x.bO,aX.ok B y)):=by cases x;first|rfl|simp only[ag.ok]
theorem ag.sh {B:Nat}:∀(n:Nat) (row:List AV),Sh Tryz.prog B n 26 row->∃x:ag,row=ag.cs x/\ag.ok B x:=by
 intro n
 induction n using Nat.strongRecOn with
 |_ n ih=>
  intro row h;obtain⟨m,rfl,hh⟩:=nJ Tryz.underlying26 h;simp only[kE]at hh;obtain⟨a0,r0,rfl,h0,a1,r1,rfl,h1,a2,r2,rfl,h2,a3,r3,rfl,h3,a4,r4,rfl,h4,a5,r5,rfl,h5,rfl⟩:=hh;obtain⟨x0,rfl,o0⟩:=kQ qz h0;obtain⟨x1,rfl,o1⟩:=kQ vY h1;obtain⟨x2,rfl,o2⟩:=kQ vY h2;obtain⟨h3m,h3w,h3e,rfl,h3l,h3r⟩:=l8 Fx FN h3;obtain⟨x3,rfl,o31⟩:=lz (f:=(λx:List UInt8=>[AV.v (.string ⟨⟨x⟩⟩)])) (p:=λy=>y.length<=B) (rows:=h3w) (λr hr=>by obtain⟨⟨⟨b⟩⟩,e,e2⟩:=mR mX (h3r r hr);exact⟨b,e,e2⟩);have o3:(x3.length<=B/\∀y∈x3,y.length<=B):=⟨by simpa using h3l,o31⟩;obtain⟨h4m,h4w,h4e,rfl,h4l,h4r⟩:=l8 afG afH h4;obtain⟨x4,rfl,o41⟩:=lz (f:=ag.cs) (p:=λy=>ag.ok B y) (rows:=h4w) (λr hr=>ih h4m (by omega) r (h4r r hr));have o4:(x4.length<=B/\ag.fp B x4):=⟨by simpa using h4l,ag.qc o41⟩;obtain⟨h5m,h5w,h5e,rfl,h5l,h5r⟩:=l8 afI aeC h5;obtain⟨x5,rfl,o51⟩:=lz (f:=aX.cs) (p:=λy=>aX.ok B y) (rows:=h5w) (λr hr=>aX.sh _ _ (h5r r hr));have o5:(x5.length<=B/\∀y∈x5,aX.ok B y):=⟨by simpa using h5l,o51⟩;exact⟨⟨x0,x1,x2,x3,x4,x5⟩,by first|rfl|simp[ag.cs,aG,ag.bh,aX.bh],(ag.dK _).2 ⟨o0,o1,o2,o3,o4,o5⟩⟩
def TParam.ok (B:Nat) (x:TParam):Prop:=x.Name.length<=B/\(Lit.int .i64 x.a6).wf=true
theorem TParam.sh {B:Nat}:∀(n:Nat) (row:List AV),Sh Tryz.prog B n 63 row->∃x:TParam,row=TParam.cs x/\TParam.ok B x:=by
 intro n
 induction n using Nat.strongRecOn with
 |_ n ih=>
  intro row h;obtain⟨m,rfl,hh⟩:=nJ Tryz.underlying63 h;simp only[kE]at hh;obtain⟨a0,r0,rfl,h0,a1,r1,rfl,h1,rfl⟩:=hh;obtain⟨⟨⟨x0⟩⟩,rfl,o0⟩:=mR mX h0;replace o0:x0.length<=B:=o0;obtain⟨x1,rfl,o1⟩:=kQ qz h1;exact⟨⟨x0,x1⟩,by first|rfl|simp[TParam.cs],⟨o0,o1⟩⟩
def aQ.ok (B:Nat) (x:aQ):Prop:=(Lit.int .i64 x.a6).wf=true/\ag.ok B x.aD
theorem aQ.sh {B:Nat}:∀(n:Nat) (row:List AV),Sh Tryz.prog B n 29 row->∃x:aQ,row=aQ.cs x/\aQ.ok B x:=by
 intro n
 induction n using Nat.strongRecOn with
 |_ n ih=>
  intro row h;obtain⟨m,rfl,hh⟩:=nJ Tryz.underlying29 h;simp only[kE]at hh;obtain⟨a0,r0,rfl,h0,a1,r1,rfl,h1,rfl⟩:=hh;obtain⟨x0,rfl,o0⟩:=kQ qz h0;obtain⟨x1,rfl,o1⟩:=ag.sh _ _ h1;exact⟨⟨x0,x1⟩,by first|rfl|simp[aQ.cs,ag.cs],⟨o0,o1⟩⟩
mutual
def ab.ok (B:Nat):ab->Prop
 |⟨vOp,vType_,vN,vText,vAt,vKids⟩=>(Lit.int .i64 vOp).wf=true/\aQ.ok B vType_/\(Lit.int .i64 vN).wf=true/\vText.length<=B/\(Lit.int .i64 vAt).wf=true/\(vKids.length<=B/\ab.fp B vKids)
def ab.fp (B:Nat):List ab->Prop
 |[]=>True
 |x::r=>ab.ok B x/\ab.fp B r
end
theorem ab.qc {B:Nat}:∀{l:List ab},(∀x∈l,ab.ok B x)->ab.fp B l
 |[],_=>trivial
 |x::r,h=>⟨h x (by simp),ab.qc λy hy=>h y (by simp[hy])⟩
theorem ab.gH {B:Nat}:∀{l:List ab} {x:ab},ab.fp B l->x∈l->ab.ok B x
 |y::r,x,h,hx=>by
  rcases cq.1 hx with rfl|hx
  ·exact h.1
  ·exact ab.gH h.2 hx
theorem ab.dK {B:Nat} (x:ab):ab.ok B x↔((Lit.int .i64 x.Op).wf=true/\aQ.ok B x.aO/\(Lit.int .i64 x.N).wf=true/\x.Text.length<=B/\(Lit.int .i64 x.At).wf=true/\(x.Kids.length<=B/\ab.fp B x.Kids)):=by cases x;first|rfl|simp only[ab.ok]
theorem ab.sh {B:Nat}:∀(n:Nat) (row:List AV),Sh Tryz.prog B n 32 row->∃x:ab,row=ab.cs x/\ab.ok B x:=by
 intro n
 induction n using Nat.strongRecOn with
 |_ n ih=>
  intro row h;obtain⟨m,rfl,hh⟩:=nJ Tryz.underlying32 h;simp only[kE]at hh;obtain⟨a0,r0,rfl,h0,a1,r1,rfl,h1,a2,r2,rfl,h2,a3,r3,rfl,h3,a4,r4,rfl,h4,a5,r5,rfl,h5,rfl⟩:=hh;obtain⟨x0,rfl,o0⟩:=kQ qz h0;obtain⟨x1,rfl,o1⟩:=aQ.sh _ _ h1;obtain⟨x2,rfl,o2⟩:=kQ vY h2;obtain⟨⟨⟨x3⟩⟩,rfl,o3⟩:=mR mX h3;replace o3:x3.length<=B:=o3;obtain⟨x4,rfl,o4⟩:=kQ qz h4;obtain⟨h5m,h5w,h5e,rfl,h5l,h5r⟩:=l8 afJ afK h5;obtain⟨x5,rfl,o51⟩:=lz (f:=ab.cs) (p:=λy=>ab.ok B y) (rows:=h5w) (λr hr=>ih h5m (by omega) r (h5r r hr));have o5:(x5.length<=B/\ab.fp B x5):=⟨by simpa using h5l,ab.qc o51⟩;exact⟨⟨x0,x1,x2,x3,x4,x5⟩,by first|rfl|simp[ab.cs,aQ.cs,ab.bh],(ab.dK _).2 ⟨o0,o1,o2,o3,o4,o5⟩⟩
def cw.ok (B:Nat) (x:cw):Prop:=x.Name.length<=B/\x.On.length<=B/\(x.Params.length<=B/\∀y∈x.Params,TParam.ok B y)/\(Lit.int .i64 x.Result).wf=true/\ab.ok B x.Body
theorem cw.sh {B:Nat}:∀(n:Nat) (row:List AV),Sh Tryz.prog B n 34 row->∃x:cw,row=cw.cs x/\cw.ok B x:=by
 intro n
 induction n using Nat.strongRecOn with
 |_ n ih=>
  intro row h;obtain⟨m,rfl,hh⟩:=nJ Tryz.underlying34 h;simp only[kE]at hh;obtain⟨a0,r0,rfl,h0,a1,r1,rfl,h1,a2,r2,rfl,h2,a3,r3,rfl,h3,a4,r4,rfl,h4,rfl⟩:=hh;obtain⟨⟨⟨x0⟩⟩,rfl,o0⟩:=mR mX h0;replace o0:x0.length<=B:=o0;obtain⟨⟨⟨x1⟩⟩,rfl,o1⟩:=mR mX h1;replace o1:x1.length<=B:=o1;obtain⟨h2m,h2w,h2e,rfl,h2l,h2r⟩:=l8 afL afM h2;obtain⟨x2,rfl,o21⟩:=lz (f:=TParam.cs) (p:=λy=>TParam.ok B y) (rows:=h2w) (λr hr=>TParam.sh _ _ (h2r r hr));have o2:(x2.length<=B/\∀y∈x2,TParam.ok B y):=⟨by simpa using h2l,o21⟩;obtain⟨x3,rfl,o3⟩:=kQ qz h3;obtain⟨x4,rfl,o4⟩:=ab.sh _ _ h4;exact⟨⟨x0,x1,x2,x3,x4⟩,by first|rfl|simp[cw.cs,TParam.bh,ab.cs],⟨o0,o1,o2,o3,o4⟩⟩
def ah.ok (B:Nat) (x:ah):Prop:=(Lit.int .i64 x.Process).wf=true/\(Lit.int .i64 x.N).wf=true
theorem ah.sh {B:Nat}:∀(n:Nat) (row:List AV),Sh Tryz.prog B n 161 row->∃x:ah,row=ah.cs x/\ah.ok B x:=by
 intro n
 induction n using Nat.strongRecOn with
 |_ n ih=>
  intro row h;obtain⟨m,rfl,hh⟩:=nJ Tryz.underlying161 h;simp only[kE]at hh;obtain⟨a0,r0,rfl,h0,a1,r1,rfl,h1,rfl⟩:=hh;obtain⟨x0,rfl,o0⟩:=kQ qz h0;obtain⟨x1,rfl,o1⟩:=kQ vY h1;exact⟨⟨x0,x1⟩,by first|rfl|simp[ah.cs],⟨o0,o1⟩⟩
def az.ok (B:Nat) (x:az):Prop:=(x.a8.length<=B/\∀y∈x.a8,ah.ok B y)/\x.Name.length<=B
theorem az.sh {B:Nat}:∀(n:Nat) (row:List AV),Sh Tryz.prog B n 126 row->∃x:az,row=az.cs x/\az.ok B x:=by
 intro n
 induction n using Nat.strongRecOn with
 |_ n ih=>
  intro row h;obtain⟨m,rfl,hh⟩:=nJ Tryz.underlying126 h;simp only[kE]at hh;obtain⟨a0,r0,rfl,h0,a1,r1,rfl,h1,rfl⟩:=hh;obtain⟨h0m,h0w,h0e,rfl,h0l,h0r⟩:=l8 aeD aeE h0;obtain⟨x0,rfl,o01⟩:=lz (f:=ah.cs) (p:=λy=>ah.ok B y) (rows:=h0w) (λr hr=>ah.sh _ _ (h0r r hr));have o0:(x0.length<=B/\∀y∈x0,ah.ok B y):=⟨by simpa using h0l,o01⟩;obtain⟨⟨⟨x1⟩⟩,rfl,o1⟩:=mR mX h1;replace o1:x1.length<=B:=o1;exact⟨⟨x0,x1⟩,by first|rfl|simp[az.cs,ah.bh],⟨o0,o1⟩⟩
mutual
def af.ok (B:Nat):af->Prop
 |⟨vN,vNames,vParts,vEntries⟩=>(Lit.int .i64 vN).wf=true/\(vNames.length<=B/\∀y∈vNames,y.length<=B)/\(vParts.length<=B/\af.fp B vParts)/\(vEntries.length<=B/\∀y∈vEntries,az.ok B y)
def af.fp (B:Nat):List af->Prop
 |[]=>True
 |x::r=>af.ok B x/\af.fp B r
end
theorem af.qc {B:Nat}:∀{l:List af},(∀x∈l,af.ok B x)->af.fp B l
 |[],_=>trivial
 |x::r,h=>⟨h x (by simp),af.qc λy hy=>h y (by simp[hy])⟩
theorem af.gH {B:Nat}:∀{l:List af} {x:af},af.fp B l->x∈l->af.ok B x
 |y::r,x,h,hx=>by
  rcases cq.1 hx with rfl|hx
  ·exact h.1
  ·exact af.gH h.2 hx
theorem af.dK {B:Nat} (x:af):af.ok B x↔((Lit.int .i64 x.N).wf=true/\(x.Names.length<=B/\∀y∈x.Names,y.length<=B)/\(x.ai.length<=B/\af.fp B x.ai)/\(x.Entries.length<=B/\∀y∈x.Entries,az.ok B y)):=by cases x;first|rfl|simp only[af.ok]
theorem af.sh {B:Nat}:∀(n:Nat) (row:List AV),Sh Tryz.prog B n 40 row->∃x:af,row=af.cs x/\af.ok B x:=by
 intro n
 induction n using Nat.strongRecOn with
 |_ n ih=>
  intro row h;obtain⟨m,rfl,hh⟩:=nJ Tryz.underlying40 h;simp only[kE]at hh;obtain⟨a0,r0,rfl,h0,a1,r1,rfl,h1,a2,r2,rfl,h2,a3,r3,rfl,h3,rfl⟩:=hh;obtain⟨x0,rfl,o0⟩:=kQ vY h0;obtain⟨h1m,h1w,h1e,rfl,h1l,h1r⟩:=l8 Fx FN h1;obtain⟨x1,rfl,o11⟩:=lz (f:=(λx:List UInt8=>[AV.v (.string ⟨⟨x⟩⟩)])) (p:=λy=>y.length<=B) (rows:=h1w) (λr hr=>by obtain⟨⟨⟨b⟩⟩,e,e2⟩:=mR mX (h1r r hr);exact⟨b,e,e2⟩);have o1:(x1.length<=B/\∀y∈x1,y.length<=B):=⟨by simpa using h1l,o11⟩;obtain⟨h2m,h2w,h2e,rfl,h2l,h2r⟩:=l8 afN afO h2;obtain⟨x2,rfl,o21⟩:=lz (f:=af.cs) (p:=λy=>af.ok B y) (rows:=h2w) (λr hr=>ih h2m (by omega) r (h2r r hr));have o2:(x2.length<=B/\af.fp B x2):=⟨by simpa using h2l,af.qc o21⟩;obtain⟨h3m,h3w,h3e,rfl,h3l,h3r⟩:=l8 afP aeF h3;obtain⟨x3,rfl,o31⟩:=lz (f:=az.cs) (p:=λy=>az.ok B y) (rows:=h3w) (λr hr=>az.sh _ _ (h3r r hr));have o3:(x3.length<=B/\∀y∈x3,az.ok B y):=⟨by simpa using h3l,o31⟩;exact⟨⟨x0,x1,x2,x3⟩,by first|rfl|simp[af.cs,aG,af.bh,az.bh],(af.dK _).2 ⟨o0,o1,o2,o3⟩⟩
def bD.ok (B:Nat) (x:bD):Prop:=(Lit.int .i64 x.a6).wf=true/\(Lit.int .i64 x.N).wf=true/\x.Name.length<=B/\(x.Names.length<=B/\∀y∈x.Names,y.length<=B)
theorem bD.sh {B:Nat}:∀(n:Nat) (row:List AV),Sh Tryz.prog B n 60 row->∃x:bD,row=bD.cs x/\bD.ok B x:=by
 intro n
 induction n using Nat.strongRecOn with
 |_ n ih=>
  intro row h;obtain⟨m,rfl,hh⟩:=nJ Tryz.underlying60 h;simp only[kE]at hh;obtain⟨a0,r0,rfl,h0,a1,r1,rfl,h1,a2,r2,rfl,h2,a3,r3,rfl,h3,rfl⟩:=hh;obtain⟨x0,rfl,o0⟩:=kQ qz h0;obtain⟨x1,rfl,o1⟩:=kQ vY h1;obtain⟨⟨⟨x2⟩⟩,rfl,o2⟩:=mR mX h2;replace o2:x2.length<=B:=o2;obtain⟨h3m,h3w,h3e,rfl,h3l,h3r⟩:=l8 Fx FN h3;obtain⟨x3,rfl,o31⟩:=lz (f:=(λx:List UInt8=>[AV.v (.string ⟨⟨x⟩⟩)])) (p:=λy=>y.length<=B) (rows:=h3w) (λr hr=>by obtain⟨⟨⟨b⟩⟩,e,e2⟩:=mR mX (h3r r hr);exact⟨b,e,e2⟩);have o3:(x3.length<=B/\∀y∈x3,y.length<=B):=⟨by simpa using h3l,o31⟩;exact⟨⟨x0,x1,x2,x3⟩,by first|rfl|simp[bD.cs,aG],⟨o0,o1,o2,o3⟩⟩
section
def Js (P:Program) (t:Nat):Bool:=match P.underlying t with
 |some (.struct fs)=>rz P 0 fs.toList (P.cellsOf t)&&fs.toList.all λf=>Nat.blt f.type P.types.size
 |some (.slice e)=>Nat.ble 1 (P.cellsOf e)&&Nat.blt e P.types.size
 |_=>true
theorem PE:(List.range Tryz.prog.types.size).all (Js Tryz.prog)=true:=by kernel_rfl
theorem abu:∀t fs,t<Tryz.prog.types.size->Tryz.prog.underlying t=some (.struct fs)->rz Tryz.prog 0 fs.toList (Tryz.prog.cellsOf t)=true/\(fs.toList.all λf=>Nat.blt f.type Tryz.prog.types.size)=true:=by
 intro t fs ht h;have:=gf.1 PE t (Dw.2 ht);simpa only[Js,h,bS]using this
theorem abv:∀t e,t<Tryz.prog.types.size->Tryz.prog.underlying t=some (.slice e)->1<=Tryz.prog.cellsOf e/\e<Tryz.prog.types.size:=by
 intro t e ht h;have:=gf.1 PE t (Dw.2 ht);simp only[Js,h,bS,mD]at this;exact⟨eH this.1,this.2⟩
end
end Go.Proofs.YtnocmolegijmkaaGreat
end

section
set_option maxRecDepth 100000
namespace Go.Proofs.YtnocmolegijmkaaGreat
open Go Go.Bw Go.ChangeShapes Go.WideShapes Go.ChangeAt Go.RowKit
def oZ (P:Program) (B:Nat) (t:TypeId) (x:AV):Prop:=match P.underlying t with
 |some (.struct _)=>∃n row,Sh P B n t row/\x= .agg row
 |some (.array _ _)=>∃n row,Sh P B n t row/\x= .agg row
 |_=>∃n,Sh P B n t [x]
def vp (P:Program) (B:Nat):List TypeId->List AV->Prop
 |[],xs=>xs=[]
 |t::ts,xs=>∃x r,xs=x::r/\oZ P B t x/\vp P B ts r
def sE (P:Program) (t:TypeId):Bool:=Nat.blt t P.types.size&&P.readableRec t&&match P.underlying t with
 |some (.struct _)=>true
 |some (.array _ _)=>true
 |some .bool=>true
 |some (.int _)=>true
 |some .string=>true
 |some (.slice _)=>true
 |_=>false
theorem ab6:laidOutB Tryz.prog=true:=by kernel_rfl
section
variable {H:Type} {enc:TypeId×Value->H} {W W':World} {base:Nat} {held:Bool} {B:Nat}
theorem afF {t:TypeId} {v:Value} {d:DataW H} {p:List MemPlace} (hb:sE Tryz.prog t=true) (hv:Value.okWide Tryz.prog W .any base t v) (h:DataW.Trod enc Tryz.prog W 0 (λ_=>true) held t v d p) (hB:Rows.uptoBulk d<=B):
  ∃x,oZ Tryz.prog B t x/\Rel W mm x v:=by
 obtain⟨n,h⟩:=h;simp only[sE,bS,mD]at hb;obtain⟨⟨ht,_⟩,hb⟩:=hb;obtain⟨row,h1,h2⟩:=PD abu abv n t v.cells.toList d p ht h hB;have one:∀u,v=u->u.cells= #[u]->∃x,row=[x]/\Rel W mm x v:=by
  intro u hu hc;subst hu;rw[hc]at h2;cases row with
  |nil=>simp[aL]at h2
  |cons x r=>
   simp only[aL]at h2;obtain⟨y,r',e,h3,h4⟩:=h2;simp only[kn]at e;obtain⟨e1,e2⟩:=e;subst e1;subst e2;have:=h4.length;cases r with
   |nil=>exact⟨x,rfl,h3⟩
   |cons _ _=>simp at this
 cases hu:Tryz.prog.underlying t with
 |none=>rw[hu]at hb;cases hb
 |some u=>
  rw[hu]at hb;cases u<;>simp only[kI]at hb
  ·obtain⟨b,rfl⟩:=okWide_bool hu hv;obtain⟨x,rfl,hx⟩:=one _ rfl rfl;exact⟨x,by simp only[oZ,hu];exact⟨n,h1⟩,hx⟩
  ·obtain⟨b,rfl⟩:=okWide_int hu hv;obtain⟨x,rfl,hx⟩:=one _ rfl rfl;exact⟨x,by simp only[oZ,hu];exact⟨n,h1⟩,hx⟩
  ·obtain⟨b,rfl⟩:=okWide_string hu hv;obtain⟨x,rfl,hx⟩:=one _ rfl rfl;exact⟨x,by simp only[oZ,hu];exact⟨n,h1⟩,hx⟩
  ·obtain⟨a,l,c,rfl⟩:=okWide_slice hu hv;obtain⟨x,rfl,hx⟩:=one _ rfl rfl;exact⟨x,by simp only[oZ,hu];exact⟨n,h1⟩,hx⟩
  ·have:∃cs,v= .agg cs:=by
    simp only[Value.okWide,hu]at hv;obtain⟨cs,h1,_⟩:=hv;exact⟨cs,h1⟩
   obtain⟨cs,rfl⟩:=this;exact⟨.agg row,by simp only[oZ,hu];exact⟨n,row,h1,rfl⟩,by simp only[Rel];exact⟨cs.toList,by simp,by simpa[Value.cells]using h2⟩⟩
  ·have:∃cs,v= .agg cs:=by
    simp only[Value.okWide,hu]at hv;obtain⟨cs,h1,_⟩:=hv;exact⟨cs,h1⟩
   obtain⟨cs,rfl⟩:=this;exact⟨.agg row,by simp only[oZ,hu];exact⟨n,row,h1,rfl⟩,by simp only[Rel];exact⟨cs.toList,by simp,by simpa[Value.cells]using h2⟩⟩
theorem Sp:∀{ts:List TypeId} {vs:List Value} {ds:List (DataW H)} {p:List MemPlace},ts.all (sE Tryz.prog)=true->(∀(j:Nat) t v,ts[j]? =some t->vs[j]? =some v->Value.okWide Tryz.prog W .any base t v)->
  DataW.TrodAll enc Tryz.prog W 0 (λ_=>true) true ts vs ds p->Rows.uptoBulkAll ds<=B->∃xs,vp Tryz.prog B ts xs/\aL W mm xs vs
 |[],vs,ds,p,_,_,h,_=>by
  obtain⟨rfl,rfl,rfl⟩:=trodAll_nil h;exact⟨[],by simp[vp],by simp[aL]⟩
 |t::ts,vs,ds,p,ht,hv,h,hB=>by
  obtain⟨v,vs',d,ds',p1,q1,rfl,rfl,rfl,h1,h2⟩:=trodAll_cons h;simp only[lx,bS]at ht;simp only[Rows.uptoBulkAll]at hB;obtain⟨x,hx,hr⟩:=afF ht.1 (hv 0 t v rfl rfl) h1 (B:=B) (by omega);obtain⟨xs,hxs,hrs⟩:=Sp ht.2 (λj t v h1 h2=>hv (j+1) t v (by simpa using h1) (by simpa using h2)) h2 (by omega);exact⟨x::xs,⟨x,xs,rfl,hx,hxs⟩,by simp only[aL];exact⟨v,vs',rfl,hr,hrs⟩⟩
theorem abw (h:Ext [] W [] W') {p:MemPlace} (hp:p.block<W.heap.size):W.sameAt W' p:=by
 cases p with
 |cell b o=>exact World.cell?_of_block (h.block b hp (by simp[ids]))
 |map b=>exact h.block b hp (by simp[ids])
theorem OZ (hx:Ext [] W [] W'):∀{ts:List TypeId} {vs:List Value} {ds:List (DataW H)} {p:List MemPlace},ts.all (sE Tryz.prog)=true->(∀q∈p,q.block<W.heap.size)->
  DataW.TrodAll enc Tryz.prog W 0 (λ_=>true) true ts vs ds p->DataW.TrodAll enc Tryz.prog W' 0 (λb=>decide (b<W.heap.size)) true ts vs ds p
 |[],vs,ds,p,_,_,h=>by
  obtain⟨rfl,rfl,rfl⟩:=trodAll_nil h;exact rfl
 |t::ts,vs,ds,p,ht,hlt,h=>by
  obtain⟨v,vs',d,ds',p1,q1,rfl,rfl,rfl,h1,h2⟩:=trodAll_cons h;simp only[lx,bS,sE,mD]at ht;obtain⟨⟨⟨h3,h4⟩,_⟩,h5⟩:=ht;refine⟨p1,q1,WideElems.Trod_stays ab6 h4 h3 h1 (λq hq=>abw hx (hlt q (mE _ hq))) (λq hq=>by simpa using hlt q (mE _ hq)),?_,rfl⟩;exact OZ hx (by simpa[sE]using h5) (λq hq=>hlt q (anJ _ hq)) h2
theorem aaP {fid:FuncId} {fn:Func} {s:ChangeSpec} {tb:TypeId} (hvars:s.vars=[]) (hfn:∀ds:List (DataW H),ds.length=fn.params.toList.length->s.fn H (ds++[])={results:=[.lit (.bool true)],args:=ds})
  (hres:fn.resultTypes.toList=[tb]) (hsz:fn.resultTypes.size=1) (hb:Tryz.prog.underlying tb=some .bool) (hts:fn.params.toList.all (sE Tryz.prog)=true) (hlaw:∀xs,vp Tryz.prog B fn.params.toList xs->Bw.Pure env.toCx fid xs (.ret (VX true)))
  {args:Array Value} {ds gs:List (DataW H)} {before:List MemPlace} (hval:∀(j:Nat) t v,fn.params[j]? =some t->args[j]? =some v->Value.okWide Tryz.prog W .any base t v)
  (hW:DataW.Whole enc Tryz.prog fn.params.toList s.vars false W args.toList ds gs before) (hG:xu env.toCx.G W mm) (hB:Rows.uptoBulkAll (ds++gs)<=B):
  Calls Tryz.prog fid args W λe W'=>∃v,e= .returned v/\s.post enc Tryz.prog fn false true false false W args v W':=by
 have hW':=hW;have hlt:=hW.lt;obtain⟨p,q,hA,hV,hpq,_,_⟩:=hW;rw[hvars]at hV;obtain⟨rfl,rfl⟩:=trodVars_none hV;rw[jO]at hB hpq;subst hpq;have hlen:ds.length=fn.params.toList.length:=by
  have key:∀{ts:List TypeId} {vs:List Value} {ds:List (DataW H)} {p:List MemPlace},DataW.TrodAll enc Tryz.prog W 0 (λ_=>true) true ts vs ds p->ds.length=ts.length:=by
   intro ts
   induction ts with
   |nil=>intro vs ds p h;obtain⟨rfl,rfl,rfl⟩:=trodAll_nil h;rfl
   |cons t ts ih=>
    intro vs ds p h;obtain⟨v,vs',d,ds',p1,q1,rfl,rfl,rfl,h1,h2⟩:=trodAll_cons h;simp[ih h2]
  exact key hA
 obtain⟨xs,h1,h2⟩:=Sp (B:=B) (base:=base) hts (λj t v h1 h2=>hval j t v (by simpa using h1) (by simpa using h2)) hA hB;have hAA:Al (λ_=>False) []=mm:=funext λb=>by simp[Al,ids,mm]
 have:=(hlaw xs h1).2 (λ_=>False) W args.toList ⟨by simp,by simp[ids],by simp[ids],by simp,by rw[hAA];exact hG⟩ (by rw[hAA];exact h2);simp only[Array.toArray_toList]at this;refine this.mono ?_;rintro e W' ⟨r,L',⟨rfl,rfl⟩,⟨v,rfl,hv⟩,_,hx⟩;simp only[Rel]at hv;subst hv;refine⟨_,rfl,ds,[],before,[],before,[],hW',?_,?_,?_,aa4 hx _,λh=>by cases h⟩
 ·rw[hfn ds hlen,hres];have:(Value.bool true).resultList fn.resultTypes.size=[.bool true]:=by rw[hsz];rfl
  rw[this];exact trodAll_cons_mk (shut_bool hb _) trodAll_mk0
 ·rw[hfn ds hlen];exact OZ hx hts (λq hq=>hlt q hq) hA
 ·rw[hfn ds hlen,hvars];exact rfl
