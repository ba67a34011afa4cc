/- From the rows' worlds to the walks: what a call leaves. -/
import Derived.Test.YtfgnmgbiijpkiaaGreatKCt
import Derived.Test.YtfgnmgbiijpkiaaGreatChecked
import Derived.ProofKit
import Derived.OpenShut
import Derived.Deep.DeepHandedRow
import Derived.SevenTiedAt
set_option linter.all false
section
namespace Go.Proofs.YtfgnmgbiijpkiaaGreat
open Go Go.Bw Go.ChangeShapes Go.WideShapes Go.ChangeAt Go.RowKit
abbrev I7 (b:Bool):AV:= .v (.bool b)
theorem own:ownKnob Tryz.prog.godebug=none:=by kernel_rfl
theorem Ol {W:World} {A:Nat->Prop}:re env.toCx.G W A:=λp hp=>by cases hp
theorem Nc {W W':World} (h:Ext [] W [] W') (may:MemPlace->Prop):W.keptBut W' may:=by
 refine⟨h.os,h.output,λi hi=>?_⟩;rw[h.block i hi (by simp[ids])];cases W.heap[i]? with
 |none=>rfl
 |some o=>cases o<;>simp
end Go.Proofs.YtfgnmgbiijpkiaaGreat
end

section
namespace Go.Proofs.YtfgnmgbiijpkiaaGreat
open Go Go.Bw
def nB (P:Program):Nat->List Field->Nat->Bool
 |off,[],e=>Nat.beq off e
 |off,f::fs,e=>Nat.beq f.offset off&&nB P (off+P.cellsOf f.type) fs e
def iG (sh:TypeId->List AV->Prop):List Field->List AV->Prop
 |[],row=>row=[]
 |f::fs,row=>∃r1 r2,row=r1++r2/\sh f.type r1/\iG sh fs r2
def Sh (P:Program) (B:Nat):Nat->TypeId->List AV->Prop
 |0,_,_=>False
 |n+1,t,row=>match P.underlying t with
  |some .bool=>∃b,row=[.v (.bool b)]
  |some (.int k)=>∃z,row=[.v (.int k z)]/\(Lit.int k z).wf=true
  |some .string=>∃s,row=[.v (.string s)]/\s.size<=B
  |some (.slice e)=>∃rows,row=[.sl (P.cellsOf e) rows]/\rows.length<=B/\∀r∈rows,Sh P B n e r
  |some (.struct fs)=>iG (Sh P B n) fs.toList row
  |_=>∃vs:List Value,row=vs.map .v
abbrev jC:Nat->Prop:=λ_=>True
section
variable {H:Type} {enc:TypeId×Value->H} {P:Program} {w:World} {base:Nat} {sp:Nat->Bool} {held:Bool} {B:Nat}
theorem Ef:∀{l:List (DataW H)} {d:DataW H},d∈l->Rows.uptoBulk d<=Rows.uptoBulkAll l
 |[],_,h=>by cases h
 |x::l,d,h=>by
  simp only[Rows.uptoBulkAll];rcases dc.1 h with rfl|h
  ·omega
  ·have:=Ef h;omega
theorem MT:∀d:DataW H,1<=Rows.uptoBulk d
 | .lit (.string _)=>by simp[Rows.uptoBulk]
 | .lit (.bool _)=>by simp[Rows.uptoBulk]
 | .lit .nil=>by simp[Rows.uptoBulk]
 | .lit (.int _ _)=>by simp[Rows.uptoBulk]
 | .lit (.float _ _)=>by simp[Rows.uptoBulk]
 | .nil=>by simp[Rows.uptoBulk]
 | .ptr _=>by simp[Rows.uptoBulk]
 | .slice _ _=>by simp[Rows.uptoBulk]
 | .agg _=>by simp[Rows.uptoBulk]
 | .iface _ _=>by simp[Rows.uptoBulk]
 | .map _=>by simp[Rows.uptoBulk]
 | .held _=>by simp[Rows.uptoBulk]
theorem Ee:∀l:List (DataW H),l.length<=Rows.uptoBulkAll l
 |[]=>by simp
 |x::l=>by
  have:=Ee l;have:=MT x;simp only[Rows.uptoBulkAll,jM];omega
theorem Eh {n:Nat} {cs:List Value} (ih:∀t cs d ps,t<P.types.size->DataW.trod enc P w base sp held n t cs=some (d,ps)->Rows.uptoBulk d<=B->∃row,Sh P B n t row/\aF w jC row cs):
  ∀(fs:List Field) (off:Nat) (xs:List (DataW H×List MemPlace)),(fs.all λf=>Nat.blt f.type P.types.size)=true->nB P off fs cs.length=true->xs.length=fs.length->
   (∀(i:Nat) (f:Field),fs[i]? =some f->DataW.trod enc P w base sp held n f.type ((cs.drop f.offset).take (P.cellsOf f.type))=xs[i]?)->Rows.uptoBulkAll (xs.map (·.1))<=B->∃row,iG (Sh P B n) fs row/\aF w jC row (cs.drop off)
 |[],off,xs,_,hc,_,h,hB=>by
  simp only[nB]at hc;have:=bB hc;subst this;exact⟨[],by simp[iG],by simp[aF]⟩
 |f::fs,off,[],_,hc,hl,h,hB=>by simp at hl
 |f::fs,off,(d,p)::ys,ht,hc,hl,h,hB=>by
  simp only[jg,bI,jQ]at ht;simp only[nB,bI]at hc;obtain⟨h1,h2⟩:=hc;have h1:=bB h1;have hd:=h 0 f (by simp);simp only[dW,Rows.uptoBulkAll]at hB;obtain⟨r1,g1,g2⟩:=ih _ _ d p ht.1 (by simpa using hd) (by omega);obtain⟨r2,k1,k2⟩:=Eh ih fs _ ys ht.2 h2 (by simpa using hl) (λi g hg=>by simpa using h (i+1) g (by simpa using hg)) (by omega);refine⟨r1++r2,⟨r1,r2,rfl,g1,k1⟩,?_⟩;have e:cs.drop off=(cs.drop f.offset).take (P.cellsOf f.type)++cs.drop (off+P.cellsOf f.type):=by
   rw[h1,<-List.drop_drop,D1]
  rw[e];exact g2.append k2
theorem br.snoc {A:Nat->Prop} {k:Nat} {r:List AV} {cs:List Value} (hk:r.length=k) (hr:aF w A r cs):∀{rows:List (List AV)} {vs:List Value},br w A k rows vs->br w A k (rows++[r]) (vs++cs)
 |[],vs,h=>by
  simp only[br]at h;subst h;simp only[xn,br];exact⟨cs,[],by simp,hk,hr,rfl⟩
 |x::xs,vs,h=>by
  simp only[br]at h;obtain⟨v1,v2,rfl,m1,m2,m3⟩:=h;simp only[ky,br,iI];exact⟨v1,v2++cs,rfl,m1,m2,br.snoc hk hr m3⟩
theorem MU (a:Addr) (i j:Nat):(a.add i).add j=a.add (i+j):=by
 unfold Addr.add;by_cases hi:i=0<;>by_cases hj:j=0<;>simp[hi,hj,xq]
theorem MN {e:TypeId} {n:Nat} {a:Addr} (he:e<P.types.size) (ih:∀t cs d ps,t<P.types.size->DataW.trod enc P w base sp held n t cs=some (d,ps)->Rows.uptoBulk d<=B->∃row,Sh P B n t row/\aF w jC row cs):
  ∀(len:Nat) (elems:List (DataW H×List MemPlace)),elems.length=len->Rows.uptoBulkAll (elems.map (·.1))<=B->
   (∀i,i<len->(w.cells? base (a.add (i*P.cellsOf e)) (P.cellsOf e)).bind (DataW.trod enc P w base sp held n e)=elems[i]?)->
   ∃rows vs,rows.length=len/\(∀r∈rows,Sh P B n e r)/\br w jC (P.cellsOf e) rows vs/\∀j u,vs[j]? =some u->w.cell? (a.add j)=some u:=by
 intro len
 induction len with
 |zero=>intro elems hl _ _;exact⟨[],[],rfl,by simp,by simp[br],by simp⟩
 |succ len ihl=>
  intro elems hl hB hel;obtain⟨rows,vs,g1,g2,g3,g4⟩:=ihl (elems.take len) (by simp[hl]) (by
   have:Rows.uptoBulkAll ((elems.take len).map (·.1))<=Rows.uptoBulkAll (elems.map (·.1)):=by
    conv=>rhs;rw[<-D1 len elems]
    rw[xh];have happ:∀l r:List (DataW H),Rows.uptoBulkAll (l++r)=Rows.uptoBulkAll l+Rows.uptoBulkAll r:=by
     intro l r
     induction l with
     |nil=>simp[Rows.uptoBulkAll]
     |cons x l ih=>simp only[ky,Rows.uptoBulkAll,ih];omega
    rw[happ];omega
   omega) (λi hi=>by rw[hel i (by omega),jR];simp[hi])
  have hlast:=hel len (by omega);have hle:elems[len]? =some elems[len]:=by simp[hl]
  rw[hle]at hlast;obtain⟨cs,hc,ht⟩:=MA.1 hlast;obtain⟨r,k1,k2⟩:=ih e cs elems[len].1 elems[len].2 he (by rw[ht]) (by
   have:elems[len].1∈elems.map (·.1):=dt.2 ⟨_,List.getElem_mem _,rfl⟩;have:=Ef this;omega)
  obtain⟨_,hcl,hcell⟩:=World.cells?_some hc;have hrl:vs.length=len*P.cellsOf e:=by rw[g3.length,g1]
  refine⟨rows++[r],vs++cs,by simp[g1],?_,?_,?_⟩
  ·intro x hx;rcases cN.1 hx with hx|hx
   ·exact g2 x hx
   ·simp only[lv]at hx;subst hx;exact k1
  ·have hk2:r.length=P.cellsOf e:=by rw[<-k2.length,hcl]
   exact br.snoc hk2 k2 g3
  ·intro j u hj;by_cases hjl:j<vs.length
   ·exact g4 j u (by rwa[mR hjl]at hj)
   ·rw[xk (by omega)]at hj;have hlt:j-vs.length<P.cellsOf e:=by
     have:=(c8.1 hj).1;omega
    have:=hcell (j-vs.length) hlt;rw[hj]at this;rw[<-this,MU];congr 2;omega
theorem E0 (hc:∀t fs,t<P.types.size->P.underlying t=some (.struct fs)->nB P 0 fs.toList (P.cellsOf t)=true/\(fs.toList.all λf=>Nat.blt f.type P.types.size)=true) (hk:∀t e,t<P.types.size->P.underlying t=some (.slice e)->1<=P.cellsOf e/\e<P.types.size):
  ∀(n:Nat) (t:TypeId) (cs:List Value) (d:DataW H) (ps:List MemPlace),t<P.types.size->DataW.trod enc P w base sp held n t cs=some (d,ps)->Rows.uptoBulk d<=B->∃row,Sh P B n t row/\aF w jC row cs
 |0,t,cs,d,ps,_,h,_=>by simp[DataW.trod]at h
 |n+1,t,cs,d,ps,hts,h,hB=>by
  have ih:=E0 hc hk n;have other:(∃vs:List Value,(cs.map AV.v)=vs.map .v)/\aF w jC (cs.map .v) cs:=⟨⟨cs,rfl⟩,kB cs⟩;cases hu:P.underlying t with
  |none=>exact⟨cs.map .v,by simp only[Sh,hu];exact other.1,other.2⟩
  |some u=>
   cases u with
   |bool=>
    obtain⟨b,rfl,_⟩:=DataW.trod_bool hu h;exact⟨[.v (.bool b)],by simp only[Sh,hu];exact⟨b,rfl⟩,by simp[aF,Rel]⟩
   |int k=>
    obtain⟨z,rfl,_,hz⟩:=DataW.trod_int hu h;exact⟨[.v (.int k z)],by simp only[Sh,hu];exact⟨z,rfl,hz⟩,by simp[aF,Rel]⟩
   |string=>
    obtain⟨s,rfl,hx,_⟩:=DataW.trod_string hu h;obtain⟨rfl,_⟩:=MB hx;refine⟨[.v (.string s)],?_,by simp[aF,Rel]⟩;simp only[Sh,hu];refine⟨s,rfl,?_⟩;simp only[Rows.uptoBulk,ux]at hB;have:s.size=s.data.size:=rfl;omega
   |slice e=>
    rcases DataW.trod_slice hu h with⟨rfl,hx⟩|⟨a,len,cap,elems,rest,m,hm,rfl,hx,_,hlc,hcm,hel,hcell,_,_⟩
    ·refine⟨[.sl (P.cellsOf e) []],by simp only[Sh,hu];exact⟨[],rfl,by simp,by simp⟩,?_⟩;simp only[aF,Rel];exact⟨_,[],rfl,.inl ⟨trivial,none,0,rfl⟩,rfl⟩
    ·obtain rfl:n=m:=by omega
     obtain⟨rfl,_⟩:=MB hx;simp only[Rows.uptoBulk]at hB;obtain⟨rows,vs,g1,g2,g3,g4⟩:=MN (hk t e hts hu).2 ih len elems hel (by omega) hcell;have hlB:rows.length<=B:=by
      have:=Ee (elems.map (·.1));rw[oM,hel]at this;omega
     refine⟨[.sl (P.cellsOf e) rows],by simp only[Sh,hu];exact⟨rows,rfl,hlB,g2⟩,?_⟩;simp only[aF,Rel];refine⟨_,[],rfl,?_,rfl⟩;by_cases h0:len=0
     ·subst h0;exact .inl ⟨lY g1,some a,cap,rfl⟩
     ·have hvl:vs.length=len*P.cellsOf e:=by rw[g3.length,g1]
      have hk1:=(hk t e hts hu).1;have hpos:0<vs.length:=by rw[hvl];exact Nat.mul_pos (by omega) hk1
      obtain⟨v0,hv0⟩:∃v0,vs[0]? =some v0:=⟨vs[0],by simp[hpos]⟩;have hc0:=g4 0 v0 hv0;obtain⟨b,o,spot⟩:=a;have hspot:spot=none:=by
       simp only[Addr.add,if_true]at hc0;unfold World.cell? at hc0;split at hc0
       ·split at hc0
        ·cases hc0
        ·rename_i hs;simpa using hs
       ·cases hc0
      subst hspot;refine .inr ⟨b,o,cap,vs,by rw[g1],⟨?_,trivial⟩,by omega,hcm,g3,λj u hj=>?_⟩
      ·have:=EY (w:=w) (b:=b) (o:=o) (u:=v0) (by simpa[Addr.add]using hc0);exact this
      ·have:=g4 j u hj;unfold Addr.add at this;split at this
       ·rename_i hj0;subst hj0;simpa using this
       ·exact this
   |struct fs=>
    obtain⟨xs,m,hm,hx,hcl,hxl,hf⟩:=DataW.trod_struct hu h;obtain rfl:n=m:=by omega
    obtain⟨rfl,_⟩:=MB hx;simp only[Rows.uptoBulk]at hB;obtain⟨row,g1,g2⟩:=Eh ih fs.toList 0 xs (hc t fs hts hu).2 (by rw[hcl];exact(hc t fs hts hu).1) (by simpa using hxl) (λi f hi=>hf i f (by simpa using hi)) (by omega);exact⟨row,by simp only[Sh,hu];exact g1,by simpa using g2⟩
   |_=>exact⟨cs.map .v,by simp only[Sh,hu];exact other.1,other.2⟩
end
end Go.Proofs.YtfgnmgbiijpkiaaGreat
end

section
set_option maxRecDepth 100000
namespace Go.Proofs.YtfgnmgbiijpkiaaGreat
open Go Go.Bw
theorem ji {D β:Type} {f:D->β} {p:D->Prop}:∀{rows:List β},(∀r∈rows,∃x,r=f x/\p x)->∃xs:List D,rows=xs.map f/\∀x∈xs,p x
 |[],_=>⟨[],rfl,by simp⟩
 |r::rows,h=>by
  obtain⟨x,rfl,hx⟩:=h r (by simp);obtain⟨xs,rfl,hxs⟩:=ji (rows:=rows) (λr hr=>h r (by simp[hr]));exact⟨x::xs,rfl,by simpa using⟨hx,hxs⟩⟩
section
variable {P:Program} {B n:Nat} {t:TypeId} {row:List AV}
theorem jl {k:IntKind} (hu:P.underlying t=some (.int k)) (h:Sh P B n t row):∃z,row=[.v (.int k z)]/\(Lit.int k z).wf=true:=by
 cases n with
 |zero=>exact h.elim
 |succ n=>simp only[Sh,hu]at h;exact h
theorem kO (hu:P.underlying t=some .string) (h:Sh P B n t row):∃s,row=[.v (.string s)]/\s.size<=B:=by
 cases n with
 |zero=>exact h.elim
 |succ n=>simp only[Sh,hu]at h;exact h
theorem jV {e k:Nat} (hu:P.underlying t=some (.slice e)) (hk:P.cellsOf e=k) (h:Sh P B n t row):∃m rows,n=m+1/\row=[.sl k rows]/\rows.length<=B/\∀r∈rows,Sh P B m e r:=by
 cases n with
 |zero=>exact h.elim
 |succ n=>simp only[Sh,hu]at h;subst hk;obtain⟨rows,h1,h2,h3⟩:=h;exact⟨n,rows,rfl,h1,h2,h3⟩
theorem lA {fs:Array Field} (hu:P.underlying t=some (.struct fs)) (h:Sh P B n t row):∃m,n=m+1/\iG (Sh P B m) fs.toList row:=by
 cases n with
 |zero=>exact h.elim
 |succ n=>simp only[Sh,hu]at h;exact⟨n,rfl,h⟩
end
theorem mA:Tryz.prog.underlying 3=some (.int .i64):=by kernel_rfl
theorem kh:Tryz.prog.underlying 9=some (.string):=by kernel_rfl
theorem vT:Tryz.prog.underlying 2=some (.int .i64):=by kernel_rfl
theorem Ql:Tryz.prog.underlying 23=some (.slice 25):=by kernel_rfl
theorem Qm:Tryz.prog.cellsOf 25=5:=by kernel_rfl
theorem IB:Tryz.prog.underlying 39=some (.slice 9):=by kernel_rfl
theorem Jr:Tryz.prog.cellsOf 9=1:=by kernel_rfl
theorem Qo:Tryz.prog.underlying 40=some (.slice 43):=by kernel_rfl
theorem Qq:Tryz.prog.cellsOf 43=6:=by kernel_rfl
theorem Qr:Tryz.prog.underlying 41=some (.slice 119):=by kernel_rfl
theorem Pw:Tryz.prog.cellsOf 119=2:=by kernel_rfl
theorem Qs:Tryz.prog.underlying 50=some (.slice 52):=by kernel_rfl
theorem Qt:Tryz.prog.cellsOf 52=12:=by kernel_rfl
theorem Ab:Tryz.prog.underlying 44=some (.slice 90):=by kernel_rfl
theorem HQ:Tryz.prog.cellsOf 90=2:=by kernel_rfl
theorem Qv:Tryz.prog.underlying 31=some (.slice 61):=by kernel_rfl
theorem Qw:Tryz.prog.cellsOf 61=7:=by kernel_rfl
theorem IC:Tryz.prog.underlying 32=some (.slice 63):=by kernel_rfl
theorem ID:Tryz.prog.cellsOf 63=16:=by kernel_rfl
mutual
def ae.ok (B:Nat):ae->Prop
 |⟨vKind,vText,vN,vAt,vKids⟩=>(Lit.int .i64 vKind).wf=true/\vText.length<=B/\(Lit.int .i64 vN).wf=true/\(Lit.int .i64 vAt).wf=true/\(vKids.length<=B/\ae.e9 B vKids)
def ae.e9 (B:Nat):List ae->Prop
 |[]=>True
 |x::r=>ae.ok B x/\ae.e9 B r
end
theorem ae.mx {B:Nat}:∀{l:List ae},(∀x∈l,ae.ok B x)->ae.e9 B l
 |[],_=>trivial
 |x::r,h=>⟨h x (by simp),ae.mx λy hy=>h y (by simp[hy])⟩
theorem ae.eP {B:Nat} (x:ae):ae.ok B x↔((Lit.int .i64 x.Kind).wf=true/\x.Text.length<=B/\(Lit.int .i64 x.N).wf=true/\(Lit.int .i64 x.At).wf=true/\(x.Kids.length<=B/\ae.e9 B x.Kids)):=by cases x;first|rfl|simp only[ae.ok]
theorem ae.sh {B:Nat}:∀(n:Nat) (row:List AV),Sh Tryz.prog B n 25 row->∃x:ae,row=ae.cs x/\ae.ok B x:=by
 intro n
 induction n using Nat.strongRecOn with
 |_ n ih=>
  intro row h;obtain⟨m,rfl,hh⟩:=lA Tryz.underlying25 h;simp only[iG]at hh;obtain⟨a0,r0,rfl,h0,a1,r1,rfl,h1,a2,r2,rfl,h2,a3,r3,rfl,h3,a4,r4,rfl,h4,rfl⟩:=hh;obtain⟨x0,rfl,o0⟩:=jl mA h0;obtain⟨⟨⟨x1⟩⟩,rfl,o1⟩:=kO kh h1;replace o1:x1.length<=B:=o1;obtain⟨x2,rfl,o2⟩:=jl vT h2;obtain⟨x3,rfl,o3⟩:=jl mA h3;obtain⟨h4m,h4w,h4e,rfl,h4l,h4r⟩:=jV Ql Qm h4;obtain⟨x4,rfl,o41⟩:=ji (f:=ae.cs) (p:=λy=>ae.ok B y) (rows:=h4w) (λr hr=>ih h4m (by omega) r (h4r r hr));have o4:(x4.length<=B/\ae.e9 B x4):=⟨by simpa using h4l,ae.mx o41⟩;exact⟨⟨x0,x1,x2,x3,x4⟩,by first|rfl|simp[ae.cs,ae.bL],(ae.eP _).2 ⟨o0,o1,o2,o3,o4⟩⟩
def aV.ok (B:Nat) (x:aV):Prop:=(x.If.length<=B/\∀y∈x.If,y.length<=B)/\x.eU.length<=B
theorem aV.sh {B:Nat}:∀(n:Nat) (row:List AV),Sh Tryz.prog B n 119 row->∃x:aV,row=aV.cs x/\aV.ok B x:=by
 intro n
 induction n using Nat.strongRecOn with
 |_ n ih=>
  intro row h;obtain⟨m,rfl,hh⟩:=lA Tryz.underlying119 h;simp only[iG]at hh;obtain⟨a0,r0,rfl,h0,a1,r1,rfl,h1,rfl⟩:=hh;obtain⟨h0m,h0w,h0e,rfl,h0l,h0r⟩:=jV IB Jr h0;obtain⟨x0,rfl,o01⟩:=ji (f:=(λx:List UInt8=>[AV.v (.string ⟨⟨x⟩⟩)])) (p:=λy=>y.length<=B) (rows:=h0w) (λr hr=>by obtain⟨⟨⟨b⟩⟩,e,e2⟩:=kO kh (h0r r hr);exact⟨b,e,e2⟩);have o0:(x0.length<=B/\∀y∈x0,y.length<=B):=⟨by simpa using h0l,o01⟩;obtain⟨⟨⟨x1⟩⟩,rfl,o1⟩:=kO kh h1;replace o1:x1.length<=B:=o1;exact⟨⟨x0,x1⟩,by first|rfl|simp[aV.cs,bn],⟨o0,o1⟩⟩
mutual
def ai.ok (B:Nat):ai->Prop
 |⟨vKind,vLo,vHi,vNames,vParts,vRules⟩=>(Lit.int .i64 vKind).wf=true/\(Lit.int .i64 vLo).wf=true/\(Lit.int .i64 vHi).wf=true/\(vNames.length<=B/\∀y∈vNames,y.length<=B)/\(vParts.length<=B/\ai.e9 B vParts)/\(vRules.length<=B/\∀y∈vRules,aV.ok B y)
def ai.e9 (B:Nat):List ai->Prop
 |[]=>True
 |x::r=>ai.ok B x/\ai.e9 B r
end
theorem ai.mx {B:Nat}:∀{l:List ai},(∀x∈l,ai.ok B x)->ai.e9 B l
 |[],_=>trivial
 |x::r,h=>⟨h x (by simp),ai.mx λy hy=>h y (by simp[hy])⟩
theorem ai.pM {B:Nat}:∀{l:List ai} {x:ai},ai.e9 B l->x∈l->ai.ok B x
 |y::r,x,h,hx=>by
  rcases dc.1 hx with rfl|hx
  ·exact h.1
  ·exact ai.pM h.2 hx
theorem ai.eP {B:Nat} (x:ai):ai.ok B x↔((Lit.int .i64 x.Kind).wf=true/\(Lit.int .i64 x.Lo).wf=true/\(Lit.int .i64 x.Hi).wf=true/\(x.Names.length<=B/\∀y∈x.Names,y.length<=B)/\(x.aB.length<=B/\ai.e9 B x.aB)/\(x.bw.length<=B/\∀y∈x.bw,aV.ok B y)):=by cases x;first|rfl|simp only[ai.ok]
theorem ai.sh {B:Nat}:∀(n:Nat) (row:List AV),Sh Tryz.prog B n 43 row->∃x:ai,row=ai.cs x/\ai.ok B x:=by
 intro n
 induction n using Nat.strongRecOn with
 |_ n ih=>
  intro row h;obtain⟨m,rfl,hh⟩:=lA Tryz.underlying43 h;simp only[iG]at hh;obtain⟨a0,r0,rfl,h0,a1,r1,rfl,h1,a2,r2,rfl,h2,a3,r3,rfl,h3,a4,r4,rfl,h4,a5,r5,rfl,h5,rfl⟩:=hh;obtain⟨x0,rfl,o0⟩:=jl mA h0;obtain⟨x1,rfl,o1⟩:=jl vT h1;obtain⟨x2,rfl,o2⟩:=jl vT h2;obtain⟨h3m,h3w,h3e,rfl,h3l,h3r⟩:=jV IB Jr h3;obtain⟨x3,rfl,o31⟩:=ji (f:=(λx:List UInt8=>[AV.v (.string ⟨⟨x⟩⟩)])) (p:=λy=>y.length<=B) (rows:=h3w) (λr hr=>by obtain⟨⟨⟨b⟩⟩,e,e2⟩:=kO kh (h3r r hr);exact⟨b,e,e2⟩);have o3:(x3.length<=B/\∀y∈x3,y.length<=B):=⟨by simpa using h3l,o31⟩;obtain⟨h4m,h4w,h4e,rfl,h4l,h4r⟩:=jV Qo Qq h4;obtain⟨x4,rfl,o41⟩:=ji (f:=ai.cs) (p:=λy=>ai.ok B y) (rows:=h4w) (λr hr=>ih h4m (by omega) r (h4r r hr));have o4:(x4.length<=B/\ai.e9 B x4):=⟨by simpa using h4l,ai.mx o41⟩;obtain⟨h5m,h5w,h5e,rfl,h5l,h5r⟩:=jV Qr Pw h5;obtain⟨x5,rfl,o51⟩:=ji (f:=aV.cs) (p:=λy=>aV.ok B y) (rows:=h5w) (λr hr=>aV.sh _ _ (h5r r hr));have o5:(x5.length<=B/\∀y∈x5,aV.ok B y):=⟨by simpa using h5l,o51⟩;exact⟨⟨x0,x1,x2,x3,x4,x5⟩,by first|rfl|simp[ai.cs,bn,ai.bL,aV.bL],(ai.eP _).2 ⟨o0,o1,o2,o3,o4,o5⟩⟩
def cP.ok (B:Nat) (x:cP):Prop:=x.Name.length<=B/\ai.ok B x.aj
theorem cP.sh {B:Nat}:∀(n:Nat) (row:List AV),Sh Tryz.prog B n 61 row->∃x:cP,row=cP.cs x/\cP.ok B x:=by
 intro n
 induction n using Nat.strongRecOn with
 |_ n ih=>
  intro row h;obtain⟨m,rfl,hh⟩:=lA Tryz.underlying61 h;simp only[iG]at hh;obtain⟨a0,r0,rfl,h0,a1,r1,rfl,h1,rfl⟩:=hh;obtain⟨⟨⟨x0⟩⟩,rfl,o0⟩:=kO kh h0;replace o0:x0.length<=B:=o0;obtain⟨x1,rfl,o1⟩:=ai.sh _ _ h1;exact⟨⟨x0,x1⟩,by first|rfl|simp[cP.cs,ai.cs],⟨o0,o1⟩⟩
def TParam.ok (B:Nat) (x:TParam):Prop:=x.Name.length<=B/\(Lit.int .i64 x.aS).wf=true
theorem TParam.sh {B:Nat}:∀(n:Nat) (row:List AV),Sh Tryz.prog B n 90 row->∃x:TParam,row=TParam.cs x/\TParam.ok B x:=by
 intro n
 induction n using Nat.strongRecOn with
 |_ n ih=>
  intro row h;obtain⟨m,rfl,hh⟩:=lA Tryz.underlying90 h;simp only[iG]at hh;obtain⟨a0,r0,rfl,h0,a1,r1,rfl,h1,rfl⟩:=hh;obtain⟨⟨⟨x0⟩⟩,rfl,o0⟩:=kO kh h0;replace o0:x0.length<=B:=o0;obtain⟨x1,rfl,o1⟩:=jl mA h1;exact⟨⟨x0,x1⟩,by first|rfl|simp[TParam.cs],⟨o0,o1⟩⟩
def az.ok (B:Nat) (x:az):Prop:=(Lit.int .i64 x.aS).wf=true/\ai.ok B x.aj
theorem az.sh {B:Nat}:∀(n:Nat) (row:List AV),Sh Tryz.prog B n 46 row->∃x:az,row=az.cs x/\az.ok B x:=by
 intro n
 induction n using Nat.strongRecOn with
 |_ n ih=>
  intro row h;obtain⟨m,rfl,hh⟩:=lA Tryz.underlying46 h;simp only[iG]at hh;obtain⟨a0,r0,rfl,h0,a1,r1,rfl,h1,rfl⟩:=hh;obtain⟨x0,rfl,o0⟩:=jl mA h0;obtain⟨x1,rfl,o1⟩:=ai.sh _ _ h1;exact⟨⟨x0,x1⟩,by first|rfl|simp[az.cs,ai.cs],⟨o0,o1⟩⟩
mutual
def ab.ok (B:Nat):ab->Prop
 |⟨vOp,vType_,vN,vText,vAt,vKids⟩=>(Lit.int .i64 vOp).wf=true/\az.ok B vType_/\(Lit.int .i64 vN).wf=true/\vText.length<=B/\(Lit.int .i64 vAt).wf=true/\(vKids.length<=B/\ab.e9 B vKids)
def ab.e9 (B:Nat):List ab->Prop
 |[]=>True
 |x::r=>ab.ok B x/\ab.e9 B r
end
theorem ab.mx {B:Nat}:∀{l:List ab},(∀x∈l,ab.ok B x)->ab.e9 B l
 |[],_=>trivial
 |x::r,h=>⟨h x (by simp),ab.mx λy hy=>h y (by simp[hy])⟩
theorem ab.eP {B:Nat} (x:ab):ab.ok B x↔((Lit.int .i64 x.Op).wf=true/\az.ok B x.ak/\(Lit.int .i64 x.N).wf=true/\x.Text.length<=B/\(Lit.int .i64 x.At).wf=true/\(x.Kids.length<=B/\ab.e9 B x.Kids)):=by cases x;first|rfl|simp only[ab.ok]
theorem ab.sh {B:Nat}:∀(n:Nat) (row:List AV),Sh Tryz.prog B n 52 row->∃x:ab,row=ab.cs x/\ab.ok B x:=by
 intro n
 induction n using Nat.strongRecOn with
 |_ n ih=>
  intro row h;obtain⟨m,rfl,hh⟩:=lA Tryz.underlying52 h;simp only[iG]at hh;obtain⟨a0,r0,rfl,h0,a1,r1,rfl,h1,a2,r2,rfl,h2,a3,r3,rfl,h3,a4,r4,rfl,h4,a5,r5,rfl,h5,rfl⟩:=hh;obtain⟨x0,rfl,o0⟩:=jl mA h0;obtain⟨x1,rfl,o1⟩:=az.sh _ _ h1;obtain⟨x2,rfl,o2⟩:=jl vT h2;obtain⟨⟨⟨x3⟩⟩,rfl,o3⟩:=kO kh h3;replace o3:x3.length<=B:=o3;obtain⟨x4,rfl,o4⟩:=jl mA h4;obtain⟨h5m,h5w,h5e,rfl,h5l,h5r⟩:=jV Qs Qt h5;obtain⟨x5,rfl,o51⟩:=ji (f:=ab.cs) (p:=λy=>ab.ok B y) (rows:=h5w) (λr hr=>ih h5m (by omega) r (h5r r hr));have o5:(x5.length<=B/\ab.e9 B x5):=⟨by simpa using h5l,ab.mx o51⟩;exact⟨⟨x0,x1,x2,x3,x4,x5⟩,by first|rfl|simp[ab.cs,az.cs,ab.bL],(ab.eP _).2 ⟨o0,o1,o2,o3,o4,o5⟩⟩
def cz.ok (B:Nat) (x:cz):Prop:=x.Name.length<=B/\x.On.length<=B/\(x.Params.length<=B/\∀y∈x.Params,TParam.ok B y)/\(Lit.int .i64 x.Result).wf=true/\ab.ok B x.Body
theorem cz.sh {B:Nat}:∀(n:Nat) (row:List AV),Sh Tryz.prog B n 63 row->∃x:cz,row=cz.cs x/\cz.ok B x:=by
 intro n
 induction n using Nat.strongRecOn with
 |_ n ih=>
  intro row h;obtain⟨m,rfl,hh⟩:=lA Tryz.underlying63 h;simp only[iG]at hh;obtain⟨a0,r0,rfl,h0,a1,r1,rfl,h1,a2,r2,rfl,h2,a3,r3,rfl,h3,a4,r4,rfl,h4,rfl⟩:=hh;obtain⟨⟨⟨x0⟩⟩,rfl,o0⟩:=kO kh h0;replace o0:x0.length<=B:=o0;obtain⟨⟨⟨x1⟩⟩,rfl,o1⟩:=kO kh h1;replace o1:x1.length<=B:=o1;obtain⟨h2m,h2w,h2e,rfl,h2l,h2r⟩:=jV Ab HQ h2;obtain⟨x2,rfl,o21⟩:=ji (f:=TParam.cs) (p:=λy=>TParam.ok B y) (rows:=h2w) (λr hr=>TParam.sh _ _ (h2r r hr));have o2:(x2.length<=B/\∀y∈x2,TParam.ok B y):=⟨by simpa using h2l,o21⟩;obtain⟨x3,rfl,o3⟩:=jl mA h3;obtain⟨x4,rfl,o4⟩:=ab.sh _ _ h4;exact⟨⟨x0,x1,x2,x3,x4⟩,by first|rfl|simp[cz.cs,TParam.bL,ab.cs],⟨o0,o1,o2,o3,o4⟩⟩
def dJ.ok (B:Nat) (x:dJ):Prop:=(x.pI.length<=B/\∀y∈x.pI,cP.ok B y)/\(x.pJ.length<=B/\∀y∈x.pJ,cz.ok B y)/\(x.Queries.length<=B/\∀y∈x.Queries,cz.ok B y)
theorem dJ.sh {B:Nat}:∀(n:Nat) (row:List AV),Sh Tryz.prog B n 34 row->∃x:dJ,row=dJ.cs x/\dJ.ok B x:=by
 intro n
 induction n using Nat.strongRecOn with
 |_ n ih=>
  intro row h;obtain⟨m,rfl,hh⟩:=lA Tryz.underlying34 h;simp only[iG]at hh;obtain⟨a0,r0,rfl,h0,a1,r1,rfl,h1,a2,r2,rfl,h2,rfl⟩:=hh;obtain⟨h0m,h0w,h0e,rfl,h0l,h0r⟩:=jV Qv Qw h0;obtain⟨x0,rfl,o01⟩:=ji (f:=cP.cs) (p:=λy=>cP.ok B y) (rows:=h0w) (λr hr=>cP.sh _ _ (h0r r hr));have o0:(x0.length<=B/\∀y∈x0,cP.ok B y):=⟨by simpa using h0l,o01⟩;obtain⟨h1m,h1w,h1e,rfl,h1l,h1r⟩:=jV IC ID h1;obtain⟨x1,rfl,o11⟩:=ji (f:=cz.cs) (p:=λy=>cz.ok B y) (rows:=h1w) (λr hr=>cz.sh _ _ (h1r r hr));have o1:(x1.length<=B/\∀y∈x1,cz.ok B y):=⟨by simpa using h1l,o11⟩;obtain⟨h2m,h2w,h2e,rfl,h2l,h2r⟩:=jV IC ID h2;obtain⟨x2,rfl,o21⟩:=ji (f:=cz.cs) (p:=λy=>cz.ok B y) (rows:=h2w) (λr hr=>cz.sh _ _ (h2r r hr));have o2:(x2.length<=B/\∀y∈x2,cz.ok B y):=⟨by simpa using h2l,o21⟩;exact⟨⟨x0,x1,x2⟩,by first|rfl|simp[dJ.cs,cP.bL,cz.bL],⟨o0,o1,o2⟩⟩
section
def zU (P:Program) (t:Nat):Bool:=match P.underlying t with
 |some (.struct fs)=>nB P 0 fs.toList (P.cellsOf t)&&fs.toList.all λf=>Nat.blt f.type P.types.size
 |some (.slice e)=>Nat.ble 1 (P.cellsOf e)&&Nat.blt e P.types.size
 |_=>true
theorem E1:(List.range Tryz.prog.types.size).all (zU Tryz.prog)=true:=by kernel_rfl
theorem Nw:∀t fs,t<Tryz.prog.types.size->Tryz.prog.underlying t=some (.struct fs)->nB Tryz.prog 0 fs.toList (Tryz.prog.cellsOf t)=true/\(fs.toList.all λf=>Nat.blt f.type Tryz.prog.types.size)=true:=by
 intro t fs ht h;have:=gH.1 E1 t (Ea.2 ht);simpa only[zU,h,bI]using this
theorem Ny:∀t e,t<Tryz.prog.types.size->Tryz.prog.underlying t=some (.slice e)->1<=Tryz.prog.cellsOf e/\e<Tryz.prog.types.size:=by
 intro t e ht h;have:=gH.1 E1 t (Ea.2 ht);simp only[zU,h,bI,jQ]at this;exact⟨dw this.1,this.2⟩
end
end Go.Proofs.YtfgnmgbiijpkiaaGreat
end

section
set_option maxRecDepth 100000
namespace Go.Proofs.YtfgnmgbiijpkiaaGreat
open Go Go.Bw Go.ChangeShapes Go.WideShapes Go.ChangeAt Go.RowKit
def lD (P:Program) (B:Nat) (t:TypeId) (x:AV):Prop:=match P.underlying t with
 |some (.struct _)=>∃n row,Sh P B n t row/\x= .agg row
 |some (.array _ _)=>∃n row,Sh P B n t row/\x= .agg row
 |_=>∃n,Sh P B n t [x]
def pW (P:Program) (B:Nat):List TypeId->List AV->Prop
 |[],xs=>xs=[]
 |t::ts,xs=>∃x r,xs=x::r/\lD P B t x/\pW P B ts r
def ow (P:Program) (t:TypeId):Bool:=Nat.blt t P.types.size&&P.readableRec t&&match P.underlying t with
 |some (.struct _)=>true
 |some (.array _ _)=>true
 |some .bool=>true
 |some (.int _)=>true
 |some .string=>true
 |some (.slice _)=>true
 |_=>false
theorem N7:laidOutB Tryz.prog=true:=by kernel_rfl
section
variable {H:Type} {enc:TypeId×Value->H} {W W':World} {base:Nat} {held:Bool} {B:Nat}
theorem Qk {t:TypeId} {v:Value} {d:DataW H} {p:List MemPlace} (hb:ow Tryz.prog t=true) (hv:Value.okWide Tryz.prog W .any base t v) (h:DataW.Trod enc Tryz.prog W 0 (λ_=>true) held t v d p) (hB:Rows.uptoBulk d<=B):
  ∃x,lD Tryz.prog B t x/\Rel W jC x v:=by
 obtain⟨n,h⟩:=h;simp only[ow,bI,jQ]at hb;obtain⟨⟨ht,_⟩,hb⟩:=hb;obtain⟨row,h1,h2⟩:=E0 Nw Ny n t v.cells.toList d p ht h hB;have one:∀u,v=u->u.cells= #[u]->∃x,row=[x]/\Rel W jC x v:=by
  intro u hu hc;subst hu;rw[hc]at h2;cases row with
  |nil=>simp[aF]at h2
  |cons x r=>
   simp only[aF]at h2;obtain⟨y,r',e,h3,h4⟩:=h2;simp only[jK]at e;obtain⟨e1,e2⟩:=e;subst e1;subst e2;have:=h4.length;cases r with
   |nil=>exact⟨x,rfl,h3⟩
   |cons _ _=>simp at this
 cases hu:Tryz.prog.underlying t with
 |none=>rw[hu]at hb;cases hb
 |some u=>
  rw[hu]at hb;cases u<;>simp only[gW]at hb
  ·obtain⟨b,rfl⟩:=okWide_bool hu hv;obtain⟨x,rfl,hx⟩:=one _ rfl rfl;exact⟨x,by simp only[lD,hu];exact⟨n,h1⟩,hx⟩
  ·obtain⟨b,rfl⟩:=okWide_int hu hv;obtain⟨x,rfl,hx⟩:=one _ rfl rfl;exact⟨x,by simp only[lD,hu];exact⟨n,h1⟩,hx⟩
  ·obtain⟨b,rfl⟩:=okWide_string hu hv;obtain⟨x,rfl,hx⟩:=one _ rfl rfl;exact⟨x,by simp only[lD,hu];exact⟨n,h1⟩,hx⟩
  ·obtain⟨a,l,c,rfl⟩:=okWide_slice hu hv;obtain⟨x,rfl,hx⟩:=one _ rfl rfl;exact⟨x,by simp only[lD,hu];exact⟨n,h1⟩,hx⟩
  ·have:∃cs,v= .agg cs:=by
    simp only[Value.okWide,hu]at hv;obtain⟨cs,h1,_⟩:=hv;exact⟨cs,h1⟩
   obtain⟨cs,rfl⟩:=this;exact⟨.agg row,by simp only[lD,hu];exact⟨n,row,h1,rfl⟩,by simp only[Rel];exact⟨cs.toList,by simp,by simpa[Value.cells]using h2⟩⟩
  ·have:∃cs,v= .agg cs:=by
    simp only[Value.okWide,hu]at hv;obtain⟨cs,h1,_⟩:=hv;exact⟨cs,h1⟩
   obtain⟨cs,rfl⟩:=this;exact⟨.agg row,by simp only[lD,hu];exact⟨n,row,h1,rfl⟩,by simp only[Rel];exact⟨cs.toList,by simp,by simpa[Value.cells]using h2⟩⟩
theorem Hl:∀{ts:List TypeId} {vs:List Value} {ds:List (DataW H)} {p:List MemPlace},ts.all (ow Tryz.prog)=true->(∀(j:Nat) t v,ts[j]? =some t->vs[j]? =some v->Value.okWide Tryz.prog W .any base t v)->
  DataW.TrodAll enc Tryz.prog W 0 (λ_=>true) true ts vs ds p->Rows.uptoBulkAll ds<=B->∃xs,pW Tryz.prog B ts xs/\aF W jC xs vs
 |[],vs,ds,p,_,_,h,_=>by
  obtain⟨rfl,rfl,rfl⟩:=trodAll_nil h;exact⟨[],by simp[pW],by simp[aF]⟩
 |t::ts,vs,ds,p,ht,hv,h,hB=>by
  obtain⟨v,vs',d,ds',p1,q1,rfl,rfl,rfl,h1,h2⟩:=trodAll_cons h;simp only[jg,bI]at ht;simp only[Rows.uptoBulkAll]at hB;obtain⟨x,hx,hr⟩:=Qk ht.1 (hv 0 t v rfl rfl) h1 (B:=B) (by omega);obtain⟨xs,hxs,hrs⟩:=Hl ht.2 (λj t v h1 h2=>hv (j+1) t v (by simpa using h1) (by simpa using h2)) h2 (by omega);exact⟨x::xs,⟨x,xs,rfl,hx,hxs⟩,by simp only[aF];exact⟨v,vs',rfl,hr,hrs⟩⟩
theorem Nz (h:Ext [] W [] W') {p:MemPlace} (hp:p.block<W.heap.size):W.sameAt W' p:=by
 cases p with
 |cell b o=>exact World.cell?_of_block (h.block b hp (by simp[ids]))
 |map b=>exact h.block b hp (by simp[ids])
theorem Et (hx:Ext [] W [] W'):∀{ts:List TypeId} {vs:List Value} {ds:List (DataW H)} {p:List MemPlace},ts.all (ow Tryz.prog)=true->(∀q∈p,q.block<W.heap.size)->
  DataW.TrodAll enc Tryz.prog W 0 (λ_=>true) true ts vs ds p->DataW.TrodAll enc Tryz.prog W' 0 (λb=>decide (b<W.heap.size)) true ts vs ds p
 |[],vs,ds,p,_,_,h=>by
  obtain⟨rfl,rfl,rfl⟩:=trodAll_nil h;exact rfl
 |t::ts,vs,ds,p,ht,hlt,h=>by
  obtain⟨v,vs',d,ds',p1,q1,rfl,rfl,rfl,h1,h2⟩:=trodAll_cons h;simp only[jg,bI,ow,jQ]at ht;obtain⟨⟨⟨h3,h4⟩,_⟩,h5⟩:=ht;refine⟨p1,q1,WideElems.Trod_stays N7 h4 h3 h1 (λq hq=>Nz hx (hlt q (lX _ hq))) (λq hq=>by simpa using hlt q (lX _ hq)),?_,rfl⟩;exact Et hx (by simpa[ow]using h5) (λq hq=>hlt q (Mn _ hq)) h2
theorem MP {fid:FuncId} {fn:Func} {s:ChangeSpec} {tb:TypeId} (hvars:s.vars=[]) (hfn:∀ds:List (DataW H),ds.length=fn.params.toList.length->s.fn H (ds++[])={results:=[.lit (.bool true)],args:=ds})
  (hres:fn.resultTypes.toList=[tb]) (hsz:fn.resultTypes.size=1) (hb:Tryz.prog.underlying tb=some .bool) (hts:fn.params.toList.all (ow Tryz.prog)=true) (hlaw:∀xs,pW Tryz.prog B fn.params.toList xs->Bw.Pure env.toCx fid xs (.ret (I7 true)))
  {args:Array Value} {ds gs:List (DataW H)} {before:List MemPlace} (hval:∀(j:Nat) t v,fn.params[j]? =some t->args[j]? =some v->Value.okWide Tryz.prog W .any base t v)
  (hW:DataW.Whole enc Tryz.prog fn.params.toList s.vars false W args.toList ds gs before) (hG:re env.toCx.G W jC) (hB:Rows.uptoBulkAll (ds++gs)<=B):
  Calls Tryz.prog fid args W λe W'=>∃v,e= .returned v/\s.post enc Tryz.prog fn false true false false W args v W':=by
 have hW':=hW;have hlt:=hW.lt;obtain⟨p,q,hA,hV,hpq,_,_⟩:=hW;rw[hvars]at hV;obtain⟨rfl,rfl⟩:=trodVars_none hV;rw[gw]at hB hpq;subst hpq;have hlen:ds.length=fn.params.toList.length:=by
  have key:∀{ts:List TypeId} {vs:List Value} {ds:List (DataW H)} {p:List MemPlace},DataW.TrodAll enc Tryz.prog W 0 (λ_=>true) true ts vs ds p->ds.length=ts.length:=by
   intro ts
   induction ts with
   |nil=>intro vs ds p h;obtain⟨rfl,rfl,rfl⟩:=trodAll_nil h;rfl
   |cons t ts ih=>
    intro vs ds p h;obtain⟨v,vs',d,ds',p1,q1,rfl,rfl,rfl,h1,h2⟩:=trodAll_cons h;simp[ih h2]
  exact key hA
 obtain⟨xs,h1,h2⟩:=Hl (B:=B) (base:=base) hts (λj t v h1 h2=>hval j t v (by simpa using h1) (by simpa using h2)) hA hB;have hAA:Al (λ_=>False) []=jC:=funext λb=>by simp[Al,ids,jC]
 have:=(hlaw xs h1).2 (λ_=>False) W args.toList ⟨by simp,by simp[ids],by simp[ids],by simp,by rw[hAA];exact hG⟩ (by rw[hAA];exact h2);simp only[Array.toArray_toList]at this;refine this.mono ?_;rintro e W' ⟨r,η',⟨rfl,rfl⟩,⟨v,rfl,hv⟩,_,hx⟩;simp only[Rel]at hv;subst hv;refine⟨_,rfl,ds,[],before,[],before,[],hW',?_,?_,?_,Nc hx _,λh=>by cases h⟩
 ·rw[hfn ds hlen,hres];have:(Value.bool true).resultList fn.resultTypes.size=[.bool true]:=by rw[hsz];rfl
  rw[this];exact trodAll_cons_mk (shut_bool hb _) trodAll_mk0
 ·rw[hfn ds hlen];exact Et hx hts (λq hq=>hlt q hq) hA
 ·rw[hfn ds hlen,hvars];exact rfl
