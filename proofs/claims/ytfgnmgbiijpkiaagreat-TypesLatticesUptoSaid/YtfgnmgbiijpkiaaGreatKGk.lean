/- From the rows' worlds to the walks: what a call leaves. -/
import Derived.Test.YtfgnmgbiijpkiaaGreatKCt
import Derived.Test.YtfgnmgbiijpkiaaGreatChecked
import Derived.ProofKit
import Derived.OpenShut
import Derived.Deep.DeepHandedRow
import Derived.SevenTiedAt
set_option linter.all false
section
namespace Go.Proofs.YtfgnmgbiijpkiaaGreat
open Go Go.Bw Go.ChangeShapes Go.WideShapes Go.ChangeAt Go.RowKit
abbrev PI (b:Bool):AV:= .v (.bool b)
theorem own:ownKnob Tryz.prog.godebug=none:=by kernel_rfl
theorem WZ {W:World} {A:Nat->Prop}:u2 env.toCx.G W A:=λp hp=>by cases hp
theorem Vi {W W':World} (h:Ext [] W [] W') (may:MemPlace->Prop):W.keptBut W' may:=by
 refine⟨h.os,h.output,λi hi=>?_⟩;rw[h.block i hi (by simp[ids])];cases W.heap[i]? with
 |none=>rfl
 |some o=>cases o<;>simp
end Go.Proofs.YtfgnmgbiijpkiaaGreat
end

section
namespace Go.Proofs.YtfgnmgbiijpkiaaGreat
open Go Go.Bw
def qJ (P:Program):Nat->List Field->Nat->Bool
 |off,[],e=>Nat.beq off e
 |off,f::fs,e=>Nat.beq f.offset off&&qJ P (off+P.cellsOf f.type) fs e
def jS (sh:TypeId->List AV->Prop):List Field->List AV->Prop
 |[],row=>row=[]
 |f::fs,row=>∃r1 r2,row=r1++r2/\sh f.type r1/\jS sh fs r2
def Sh (P:Program) (B:Nat):Nat->TypeId->List AV->Prop
 |0,_,_=>False
 |n+1,t,row=>match P.underlying t with
  |some .bool=>∃b,row=[.v (.bool b)]
  |some (.int k)=>∃z,row=[.v (.int k z)]/\(Lit.int k z).wf=true
  |some .string=>∃s,row=[.v (.string s)]/\s.size<=B
  |some (.slice e)=>∃rows,row=[.sl (P.cellsOf e) rows]/\rows.length<=B/\∀r∈rows,Sh P B n e r
  |some (.struct fs)=>jS (Sh P B n) fs.toList row
  |_=>∃vs:List Value,row=vs.map .v
abbrev ll:Nat->Prop:=λ_=>True
section
variable {H:Type} {enc:TypeId×Value->H} {P:Program} {w:World} {base:Nat} {sp:Nat->Bool} {held:Bool} {B:Nat}
theorem JK:∀{l:List (DataW H)} {d:DataW H},d∈l->Rows.uptoBulk d<=Rows.uptoBulkAll l
 |[],_,h=>by cases h
 |x::l,d,h=>by
  simp only[Rows.uptoBulkAll];rcases cm.1 h with rfl|h
  ·omega
  ·have:=JK h;omega
theorem U0:∀d:DataW H,1<=Rows.uptoBulk d
 | .lit (.string _)=>by simp[Rows.uptoBulk]
 | .lit (.bool _)=>by simp[Rows.uptoBulk]
 | .lit .nil=>by simp[Rows.uptoBulk]
 | .lit (.int _ _)=>by simp[Rows.uptoBulk]
 | .lit (.float _ _)=>by simp[Rows.uptoBulk]
 | .nil=>by simp[Rows.uptoBulk]
 | .ptr _=>by simp[Rows.uptoBulk]
 | .slice _ _=>by simp[Rows.uptoBulk]
 | .agg _=>by simp[Rows.uptoBulk]
 | .iface _ _=>by simp[Rows.uptoBulk]
 | .map _=>by simp[Rows.uptoBulk]
 | .held _=>by simp[Rows.uptoBulk]
theorem JJ:∀l:List (DataW H),l.length<=Rows.uptoBulkAll l
 |[]=>by simp
 |x::l=>by
  have:=JJ l;have:=U0 x;simp only[Rows.uptoBulkAll,iN];omega
theorem JM {n:Nat} {cs:List Value} (ih:∀t cs d ps,t<P.types.size->DataW.trod enc P w base sp held n t cs=some (d,ps)->Rows.uptoBulk d<=B->∃row,Sh P B n t row/\aJ w ll row cs):
  ∀(fs:List Field) (off:Nat) (xs:List (DataW H×List MemPlace)),(fs.all λf=>Nat.blt f.type P.types.size)=true->qJ P off fs cs.length=true->xs.length=fs.length->
   (∀(i:Nat) (f:Field),fs[i]? =some f->DataW.trod enc P w base sp held n f.type ((cs.drop f.offset).take (P.cellsOf f.type))=xs[i]?)->Rows.uptoBulkAll (xs.map (·.1))<=B->∃row,jS (Sh P B n) fs row/\aJ w ll row (cs.drop off)
 |[],off,xs,_,hc,_,h,hB=>by
  simp only[qJ]at hc;have:=bE hc;subst this;exact⟨[],by simp[jS],by simp[aJ]⟩
 |f::fs,off,[],_,hc,hl,h,hB=>by simp at hl
 |f::fs,off,(d,p)::ys,ht,hc,hl,h,hB=>by
  simp only[kR,bL,lF]at ht;simp only[qJ,bL]at hc;obtain⟨h1,h2⟩:=hc;have h1:=bE h1;have hd:=h 0 f (by simp);simp only[dP,Rows.uptoBulkAll]at hB;obtain⟨r1,g1,g2⟩:=ih _ _ d p ht.1 (by simpa using hd) (by omega);obtain⟨r2,k1,k2⟩:=JM ih fs _ ys ht.2 h2 (by simpa using hl) (λi g hg=>by simpa using h (i+1) g (by simpa using hg)) (by omega);refine⟨r1++r2,⟨r1,r2,rfl,g1,k1⟩,?_⟩;have e:cs.drop off=(cs.drop f.offset).take (P.cellsOf f.type)++cs.drop (off+P.cellsOf f.type):=by
   rw[h1,<-List.drop_drop,JB]
  rw[e];exact g2.append k2
theorem bu.snoc {A:Nat->Prop} {k:Nat} {r:List AV} {cs:List Value} (hk:r.length=k) (hr:aJ w A r cs):∀{rows:List (List AV)} {vs:List Value},bu w A k rows vs->bu w A k (rows++[r]) (vs++cs)
 |[],vs,h=>by
  simp only[bu]at h;subst h;simp only[xM,bu];exact⟨cs,[],by simp,hk,hr,rfl⟩
 |x::xs,vs,h=>by
  simp only[bu]at h;obtain⟨v1,v2,rfl,m1,m2,m3⟩:=h;simp only[lE,bu,jZ];exact⟨v1,v2++cs,rfl,m1,m2,bu.snoc hk hr m3⟩
theorem U1 (a:Addr) (i j:Nat):(a.add i).add j=a.add (i+j):=by
 unfold Addr.add;by_cases hi:i=0<;>by_cases hj:j=0<;>simp[hi,hj,Cc]
theorem UO {e:TypeId} {n:Nat} {a:Addr} (he:e<P.types.size) (ih:∀t cs d ps,t<P.types.size->DataW.trod enc P w base sp held n t cs=some (d,ps)->Rows.uptoBulk d<=B->∃row,Sh P B n t row/\aJ w ll row cs):
  ∀(len:Nat) (elems:List (DataW H×List MemPlace)),elems.length=len->Rows.uptoBulkAll (elems.map (·.1))<=B->
   (∀i,i<len->(w.cells? base (a.add (i*P.cellsOf e)) (P.cellsOf e)).bind (DataW.trod enc P w base sp held n e)=elems[i]?)->
   ∃rows vs,rows.length=len/\(∀r∈rows,Sh P B n e r)/\bu w ll (P.cellsOf e) rows vs/\∀j u,vs[j]? =some u->w.cell? (a.add j)=some u:=by
 intro len
 induction len with
 |zero=>intro elems hl _ _;exact⟨[],[],rfl,by simp,by simp[bu],by simp⟩
 |succ len ihl=>
  intro elems hl hB hel;obtain⟨rows,vs,g1,g2,g3,g4⟩:=ihl (elems.take len) (by simp[hl]) (by
   have:Rows.uptoBulkAll ((elems.take len).map (·.1))<=Rows.uptoBulkAll (elems.map (·.1)):=by
    conv=>rhs;rw[<-JB len elems]
    rw[oQ];have happ:∀l r:List (DataW H),Rows.uptoBulkAll (l++r)=Rows.uptoBulkAll l+Rows.uptoBulkAll r:=by
     intro l r
     induction l with
     |nil=>simp[Rows.uptoBulkAll]
     |cons x l ih=>simp only[lE,Rows.uptoBulkAll,ih];omega
    rw[happ];omega
   omega) (λi hi=>by rw[hel i (by omega),jq];simp[hi])
  have hlast:=hel len (by omega);have hle:elems[len]? =some elems[len]:=by simp[hl]
  rw[hle]at hlast;obtain⟨cs,hc,ht⟩:=Option.bind_eq_some_iff.1 hlast;obtain⟨r,k1,k2⟩:=ih e cs elems[len].1 elems[len].2 he (by rw[ht]) (by
   have:elems[len].1∈elems.map (·.1):=cP.2 ⟨_,List.getElem_mem _,rfl⟩;have:=JK this;omega)
  obtain⟨_,hcl,hcell⟩:=World.cells?_some hc;have hrl:vs.length=len*P.cellsOf e:=by rw[g3.length,g1]
  refine⟨rows++[r],vs++cs,by simp[g1],?_,?_,?_⟩
  ·intro x hx;rcases cJ.1 hx with hx|hx
   ·exact g2 x hx
   ·simp only[nN]at hx;subst hx;exact k1
  ·have hk2:r.length=P.cellsOf e:=by rw[<-k2.length,hcl]
   exact bu.snoc hk2 k2 g3
  ·intro j u hj;by_cases hjl:j<vs.length
   ·exact g4 j u (by rwa[rY hjl]at hj)
   ·rw[B' (by omega)]at hj;have hlt:j-vs.length<P.cellsOf e:=by
     have:=(cr.1 hj).1;omega
    have:=hcell (j-vs.length) hlt;rw[hj]at this;rw[<-this,U1];congr 2;omega
theorem KG (hc:∀t fs,t<P.types.size->P.underlying t=some (.struct fs)->qJ P 0 fs.toList (P.cellsOf t)=true/\(fs.toList.all λf=>Nat.blt f.type P.types.size)=true) (hk:∀t e,t<P.types.size->P.underlying t=some (.slice e)->1<=P.cellsOf e/\e<P.types.size):
  ∀(n:Nat) (t:TypeId) (cs:List Value) (d:DataW H) (ps:List MemPlace),t<P.types.size->DataW.trod enc P w base sp held n t cs=some (d,ps)->Rows.uptoBulk d<=B->∃row,Sh P B n t row/\aJ w ll row cs
 |0,t,cs,d,ps,_,h,_=>by simp[DataW.trod]at h
 |n+1,t,cs,d,ps,hts,h,hB=>by
  have ih:=KG hc hk n;have other:(∃vs:List Value,(cs.map AV.v)=vs.map .v)/\aJ w ll (cs.map .v) cs:=⟨⟨cs,rfl⟩,mD cs⟩;cases hu:P.underlying t with
  |none=>exact⟨cs.map .v,by simp only[Sh,hu];exact other.1,other.2⟩
  |some u=>
   cases u with
   |bool=>
    obtain⟨b,rfl,_⟩:=DataW.trod_bool hu h;exact⟨[.v (.bool b)],by simp only[Sh,hu];exact⟨b,rfl⟩,by simp[aJ,Rel]⟩
   |int k=>
    obtain⟨z,rfl,_,hz⟩:=DataW.trod_int hu h;exact⟨[.v (.int k z)],by simp only[Sh,hu];exact⟨z,rfl,hz⟩,by simp[aJ,Rel]⟩
   |string=>
    obtain⟨s,rfl,hx,_⟩:=DataW.trod_string hu h;obtain⟨rfl,_⟩:=UB hx;refine⟨[.v (.string s)],?_,by simp[aJ,Rel]⟩;simp only[Sh,hu];refine⟨s,rfl,?_⟩;simp only[Rows.uptoBulk,xK]at hB;have:s.size=s.data.size:=rfl;omega
   |slice e=>
    rcases DataW.trod_slice hu h with⟨rfl,hx⟩|⟨a,len,cap,elems,rest,m,hm,rfl,hx,_,hlc,hcm,hel,hcell,_,_⟩
    ·refine⟨[.sl (P.cellsOf e) []],by simp only[Sh,hu];exact⟨[],rfl,by simp,by simp⟩,?_⟩;simp only[aJ,Rel];exact⟨_,[],rfl,.inl ⟨trivial,none,0,rfl⟩,rfl⟩
    ·obtain rfl:n=m:=by omega
     obtain⟨rfl,_⟩:=UB hx;simp only[Rows.uptoBulk]at hB;obtain⟨rows,vs,g1,g2,g3,g4⟩:=UO (hk t e hts hu).2 ih len elems hel (by omega) hcell;have hlB:rows.length<=B:=by
      have:=JJ (elems.map (·.1));rw[jt,hel]at this;omega
     refine⟨[.sl (P.cellsOf e) rows],by simp only[Sh,hu];exact⟨rows,rfl,hlB,g2⟩,?_⟩;simp only[aJ,Rel];refine⟨_,[],rfl,?_,rfl⟩;by_cases h0:len=0
     ·subst h0;exact .inl ⟨jU g1,some a,cap,rfl⟩
     ·have hvl:vs.length=len*P.cellsOf e:=by rw[g3.length,g1]
      have hk1:=(hk t e hts hu).1;have hpos:0<vs.length:=by rw[hvl];exact Nat.mul_pos (by omega) hk1
      obtain⟨v0,hv0⟩:∃v0,vs[0]? =some v0:=⟨vs[0],by simp[hpos]⟩;have hc0:=g4 0 v0 hv0;obtain⟨b,o,spot⟩:=a;have hspot:spot=none:=by
       simp only[Addr.add,if_true]at hc0;unfold World.cell? at hc0;split at hc0
       ·split at hc0
        ·cases hc0
        ·rename_i hs;simpa using hs
       ·cases hc0
      subst hspot;refine .inr ⟨b,o,cap,vs,by rw[g1],⟨?_,trivial⟩,by omega,hcm,g3,λj u hj=>?_⟩
      ·have:=KE (w:=w) (b:=b) (o:=o) (u:=v0) (by simpa[Addr.add]using hc0);exact this
      ·have:=g4 j u hj;unfold Addr.add at this;split at this
       ·rename_i hj0;subst hj0;simpa using this
       ·exact this
   |struct fs=>
    obtain⟨xs,m,hm,hx,hcl,hxl,hf⟩:=DataW.trod_struct hu h;obtain rfl:n=m:=by omega
    obtain⟨rfl,_⟩:=UB hx;simp only[Rows.uptoBulk]at hB;obtain⟨row,g1,g2⟩:=JM ih fs.toList 0 xs (hc t fs hts hu).2 (by rw[hcl];exact(hc t fs hts hu).1) (by simpa using hxl) (λi f hi=>hf i f (by simpa using hi)) (by omega);exact⟨row,by simp only[Sh,hu];exact g1,by simpa using g2⟩
   |_=>exact⟨cs.map .v,by simp only[Sh,hu];exact other.1,other.2⟩
end
end Go.Proofs.YtfgnmgbiijpkiaaGreat
end

section
set_option maxRecDepth 100000
namespace Go.Proofs.YtfgnmgbiijpkiaaGreat
open Go Go.Bw
theorem lG {D β:Type} {f:D->β} {p:D->Prop}:∀{rows:List β},(∀r∈rows,∃x,r=f x/\p x)->∃xs:List D,rows=xs.map f/\∀x∈xs,p x
 |[],_=>⟨[],rfl,by simp⟩
 |r::rows,h=>by
  obtain⟨x,rfl,hx⟩:=h r (by simp);obtain⟨xs,rfl,hxs⟩:=lG (rows:=rows) (λr hr=>h r (by simp[hr]));exact⟨x::xs,rfl,by simpa using⟨hx,hxs⟩⟩
section
variable {P:Program} {B n:Nat} {t:TypeId} {row:List AV}
theorem kW {k:IntKind} (hu:P.underlying t=some (.int k)) (h:Sh P B n t row):∃z,row=[.v (.int k z)]/\(Lit.int k z).wf=true:=by
 cases n with
 |zero=>exact h.elim
 |succ n=>simp only[Sh,hu]at h;exact h
theorem nV (hu:P.underlying t=some .string) (h:Sh P B n t row):∃s,row=[.v (.string s)]/\s.size<=B:=by
 cases n with
 |zero=>exact h.elim
 |succ n=>simp only[Sh,hu]at h;exact h
theorem mJ {e k:Nat} (hu:P.underlying t=some (.slice e)) (hk:P.cellsOf e=k) (h:Sh P B n t row):∃m rows,n=m+1/\row=[.sl k rows]/\rows.length<=B/\∀r∈rows,Sh P B m e r:=by
 cases n with
 |zero=>exact h.elim
 |succ n=>simp only[Sh,hu]at h;subst hk;obtain⟨rows,h1,h2,h3⟩:=h;exact⟨n,rows,rfl,h1,h2,h3⟩
theorem nQ {fs:Array Field} (hu:P.underlying t=some (.struct fs)) (h:Sh P B n t row):∃m,n=m+1/\jS (Sh P B m) fs.toList row:=by
 cases n with
 |zero=>exact h.elim
 |succ n=>simp only[Sh,hu]at h;exact⟨n,rfl,h⟩
end
theorem pO:Tryz.prog.underlying 3=some (.int .i64):=by kernel_rfl
theorem n9:Tryz.prog.underlying 9=some (.string):=by kernel_rfl
theorem A5:Tryz.prog.underlying 2=some (.int .i64):=by kernel_rfl
theorem Zb:Tryz.prog.underlying 23=some (.slice 25):=by kernel_rfl
theorem Zc:Tryz.prog.cellsOf 25=5:=by kernel_rfl
theorem Po:Tryz.prog.underlying 39=some (.slice 9):=by kernel_rfl
theorem P6:Tryz.prog.cellsOf 9=1:=by kernel_rfl
theorem Zd:Tryz.prog.underlying 40=some (.slice 43):=by kernel_rfl
theorem Ze:Tryz.prog.cellsOf 43=6:=by kernel_rfl
theorem Zf:Tryz.prog.underlying 41=some (.slice 119):=by kernel_rfl
theorem Yq:Tryz.prog.cellsOf 119=2:=by kernel_rfl
theorem Zg:Tryz.prog.underlying 50=some (.slice 52):=by kernel_rfl
theorem Zh:Tryz.prog.cellsOf 52=12:=by kernel_rfl
theorem Zi:Tryz.prog.underlying 44=some (.slice 90):=by kernel_rfl
theorem Zj:Tryz.prog.cellsOf 90=2:=by kernel_rfl
theorem Zk:Tryz.prog.underlying 31=some (.slice 61):=by kernel_rfl
theorem Zl:Tryz.prog.cellsOf 61=7:=by kernel_rfl
theorem Pp:Tryz.prog.underlying 32=some (.slice 63):=by kernel_rfl
theorem Pq:Tryz.prog.cellsOf 63=16:=by kernel_rfl
mutual
def ab.ok (B:Nat):ab->Prop
 |⟨vKind,vText,vN,vAt,vKids⟩=>(Lit.int .i64 vKind).wf=true/\vText.length<=B/\(Lit.int .i64 vN).wf=true/\(Lit.int .i64 vAt).wf=true/\(vKids.length<=B/\ab.fL B vKids)
def ab.fL (B:Nat):List ab->Prop
 |[]=>True
 |x::r=>ab.ok B x/\ab.fL B r
end
theorem ab.pL {B:Nat}:∀{l:List ab},(∀x∈l,ab.ok B x)->ab.fL B l
 |[],_=>trivial
 |x::r,h=>⟨h x (by simp),ab.pL λy hy=>h y (by simp[hy])⟩
theorem ab.c8 {B:Nat} (x:ab):ab.ok B x↔((Lit.int .i64 x.Kind).wf=true/\x.Text.length<=B/\(Lit.int .i64 x.N).wf=true/\(Lit.int .i64 x.At).wf=true/\(x.Kids.length<=B/\ab.fL B x.Kids)):=by cases x;first|rfl|simp only[ab.ok]
theorem ab.sh {B:Nat}:∀(n:Nat) (row:List AV),Sh Tryz.prog B n 25 row->∃x:ab,row=ab.cs x/\ab.ok B x:=by
 intro n
 induction n using Nat.strongRecOn with
 |_ n ih=>
  intro row h;obtain⟨m,rfl,hh⟩:=nQ Tryz.underlying25 h;simp only[jS]at hh;obtain⟨a0,r0,rfl,h0,a1,r1,rfl,h1,a2,r2,rfl,h2,a3,r3,rfl,h3,a4,r4,rfl,h4,rfl⟩:=hh;obtain⟨x0,rfl,o0⟩:=kW pO h0;obtain⟨⟨⟨x1⟩⟩,rfl,o1⟩:=nV n9 h1;replace o1:x1.length<=B:=o1;obtain⟨x2,rfl,o2⟩:=kW A5 h2;obtain⟨x3,rfl,o3⟩:=kW pO h3;obtain⟨h4m,h4w,h4e,rfl,h4l,h4r⟩:=mJ Zb Zc h4;obtain⟨x4,rfl,o41⟩:=lG (f:=ab.cs) (p:=λy=>ab.ok B y) (rows:=h4w) (λr hr=>ih h4m (by omega) r (h4r r hr));have o4:(x4.length<=B/\ab.fL B x4):=⟨by simpa using h4l,ab.pL o41⟩;exact⟨⟨x0,x1,x2,x3,x4⟩,by first|rfl|simp[ab.cs,ab.bS],(ab.c8 _).2 ⟨o0,o1,o2,o3,o4⟩⟩
def aU.ok (B:Nat) (x:aU):Prop:=(x.If.length<=B/\∀y∈x.If,y.length<=B)/\x.eP.length<=B
theorem aU.sh {B:Nat}:∀(n:Nat) (row:List AV),Sh Tryz.prog B n 119 row->∃x:aU,row=aU.cs x/\aU.ok B x:=by
 intro n
 induction n using Nat.strongRecOn with
 |_ n ih=>
  intro row h;obtain⟨m,rfl,hh⟩:=nQ Tryz.underlying119 h;simp only[jS]at hh;obtain⟨a0,r0,rfl,h0,a1,r1,rfl,h1,rfl⟩:=hh;obtain⟨h0m,h0w,h0e,rfl,h0l,h0r⟩:=mJ Po P6 h0;obtain⟨x0,rfl,o01⟩:=lG (f:=(λx:List UInt8=>[AV.v (.string ⟨⟨x⟩⟩)])) (p:=λy=>y.length<=B) (rows:=h0w) (λr hr=>by obtain⟨⟨⟨b⟩⟩,e,e2⟩:=nV n9 (h0r r hr);exact⟨b,e,e2⟩);have o0:(x0.length<=B/\∀y∈x0,y.length<=B):=⟨by simpa using h0l,o01⟩;obtain⟨⟨⟨x1⟩⟩,rfl,o1⟩:=nV n9 h1;replace o1:x1.length<=B:=o1;exact⟨⟨x0,x1⟩,by first|rfl|simp[aU.cs,aN],⟨o0,o1⟩⟩
mutual
def ah.ok (B:Nat):ah->Prop
 |⟨vKind,vLo,vHi,vNames,vParts,vRules⟩=>(Lit.int .i64 vKind).wf=true/\(Lit.int .i64 vLo).wf=true/\(Lit.int .i64 vHi).wf=true/\(vNames.length<=B/\∀y∈vNames,y.length<=B)/\(vParts.length<=B/\ah.fL B vParts)/\(vRules.length<=B/\∀y∈vRules,aU.ok B y)
def ah.fL (B:Nat):List ah->Prop
 |[]=>True
 |x::r=>ah.ok B x/\ah.fL B r
end
theorem ah.pL {B:Nat}:∀{l:List ah},(∀x∈l,ah.ok B x)->ah.fL B l
 |[],_=>trivial
 |x::r,h=>⟨h x (by simp),ah.pL λy hy=>h y (by simp[hy])⟩
theorem ah.iS {B:Nat}:∀{l:List ah} {x:ah},ah.fL B l->x∈l->ah.ok B x
 |y::r,x,h,hx=>by
  rcases cm.1 hx with rfl|hx
  ·exact h.1
  ·exact ah.iS h.2 hx
theorem ah.c8 {B:Nat} (x:ah):ah.ok B x↔((Lit.int .i64 x.Kind).wf=true/\(Lit.int .i64 x.Lo).wf=true/\(Lit.int .i64 x.Hi).wf=true/\(x.Names.length<=B/\∀y∈x.Names,y.length<=B)/\(x.ax.length<=B/\ah.fL B x.ax)/\(x.aZ.length<=B/\∀y∈x.aZ,aU.ok B y)):=by cases x;first|rfl|simp only[ah.ok]
theorem ah.sh {B:Nat}:∀(n:Nat) (row:List AV),Sh Tryz.prog B n 43 row->∃x:ah,row=ah.cs x/\ah.ok B x:=by
 intro n
 induction n using Nat.strongRecOn with
 |_ n ih=>
  intro row h;obtain⟨m,rfl,hh⟩:=nQ Tryz.underlying43 h;simp only[jS]at hh;obtain⟨a0,r0,rfl,h0,a1,r1,rfl,h1,a2,r2,rfl,h2,a3,r3,rfl,h3,a4,r4,rfl,h4,a5,r5,rfl,h5,rfl⟩:=hh;obtain⟨x0,rfl,o0⟩:=kW pO h0;obtain⟨x1,rfl,o1⟩:=kW A5 h1;obtain⟨x2,rfl,o2⟩:=kW A5 h2;obtain⟨h3m,h3w,h3e,rfl,h3l,h3r⟩:=mJ Po P6 h3;obtain⟨x3,rfl,o31⟩:=lG (f:=(λx:List UInt8=>[AV.v (.string ⟨⟨x⟩⟩)])) (p:=λy=>y.length<=B) (rows:=h3w) (λr hr=>by obtain⟨⟨⟨b⟩⟩,e,e2⟩:=nV n9 (h3r r hr);exact⟨b,e,e2⟩);have o3:(x3.length<=B/\∀y∈x3,y.length<=B):=⟨by simpa using h3l,o31⟩;obtain⟨h4m,h4w,h4e,rfl,h4l,h4r⟩:=mJ Zd Ze h4;obtain⟨x4,rfl,o41⟩:=lG (f:=ah.cs) (p:=λy=>ah.ok B y) (rows:=h4w) (λr hr=>ih h4m (by omega) r (h4r r hr));have o4:(x4.length<=B/\ah.fL B x4):=⟨by simpa using h4l,ah.pL o41⟩;obtain⟨h5m,h5w,h5e,rfl,h5l,h5r⟩:=mJ Zf Yq h5;obtain⟨x5,rfl,o51⟩:=lG (f:=aU.cs) (p:=λy=>aU.ok B y) (rows:=h5w) (λr hr=>aU.sh _ _ (h5r r hr));have o5:(x5.length<=B/\∀y∈x5,aU.ok B y):=⟨by simpa using h5l,o51⟩;exact⟨⟨x0,x1,x2,x3,x4,x5⟩,by first|rfl|simp[ah.cs,aN,ah.bS,aU.bS],(ah.c8 _).2 ⟨o0,o1,o2,o3,o4,o5⟩⟩
def bt.ok (B:Nat) (x:bt):Prop:=x.Name.length<=B/\ah.ok B x.aj
theorem bt.sh {B:Nat}:∀(n:Nat) (row:List AV),Sh Tryz.prog B n 61 row->∃x:bt,row=bt.cs x/\bt.ok B x:=by
 intro n
 induction n using Nat.strongRecOn with
 |_ n ih=>
  intro row h;obtain⟨m,rfl,hh⟩:=nQ Tryz.underlying61 h;simp only[jS]at hh;obtain⟨a0,r0,rfl,h0,a1,r1,rfl,h1,rfl⟩:=hh;obtain⟨⟨⟨x0⟩⟩,rfl,o0⟩:=nV n9 h0;replace o0:x0.length<=B:=o0;obtain⟨x1,rfl,o1⟩:=ah.sh _ _ h1;exact⟨⟨x0,x1⟩,by first|rfl|simp[bt.cs,ah.cs],⟨o0,o1⟩⟩
def TParam.ok (B:Nat) (x:TParam):Prop:=x.Name.length<=B/\(Lit.int .i64 x.aP).wf=true
theorem TParam.sh {B:Nat}:∀(n:Nat) (row:List AV),Sh Tryz.prog B n 90 row->∃x:TParam,row=TParam.cs x/\TParam.ok B x:=by
 intro n
 induction n using Nat.strongRecOn with
 |_ n ih=>
  intro row h;obtain⟨m,rfl,hh⟩:=nQ Tryz.underlying90 h;simp only[jS]at hh;obtain⟨a0,r0,rfl,h0,a1,r1,rfl,h1,rfl⟩:=hh;obtain⟨⟨⟨x0⟩⟩,rfl,o0⟩:=nV n9 h0;replace o0:x0.length<=B:=o0;obtain⟨x1,rfl,o1⟩:=kW pO h1;exact⟨⟨x0,x1⟩,by first|rfl|simp[TParam.cs],⟨o0,o1⟩⟩
def az.ok (B:Nat) (x:az):Prop:=(Lit.int .i64 x.aP).wf=true/\ah.ok B x.aj
theorem az.sh {B:Nat}:∀(n:Nat) (row:List AV),Sh Tryz.prog B n 46 row->∃x:az,row=az.cs x/\az.ok B x:=by
 intro n
 induction n using Nat.strongRecOn with
 |_ n ih=>
  intro row h;obtain⟨m,rfl,hh⟩:=nQ Tryz.underlying46 h;simp only[jS]at hh;obtain⟨a0,r0,rfl,h0,a1,r1,rfl,h1,rfl⟩:=hh;obtain⟨x0,rfl,o0⟩:=kW pO h0;obtain⟨x1,rfl,o1⟩:=ah.sh _ _ h1;exact⟨⟨x0,x1⟩,by first|rfl|simp[az.cs,ah.cs],⟨o0,o1⟩⟩
mutual
def ae.ok (B:Nat):ae->Prop
 |⟨vOp,vType_,vN,vText,vAt,vKids⟩=>(Lit.int .i64 vOp).wf=true/\az.ok B vType_/\(Lit.int .i64 vN).wf=true/\vText.length<=B/\(Lit.int .i64 vAt).wf=true/\(vKids.length<=B/\ae.fL B vKids)
def ae.fL (B:Nat):List ae->Prop
 |[]=>True
 |x::r=>ae.ok B x/\ae.fL B r
end
theorem ae.pL {B:Nat}:∀{l:List ae},(∀x∈l,ae.ok B x)->ae.fL B l
 |[],_=>trivial
 |x::r,h=>⟨h x (by simp),ae.pL λy hy=>h y (by simp[hy])⟩
theorem ae.iS {B:Nat}:∀{l:List ae} {x:ae},ae.fL B l->x∈l->ae.ok B x
 |y::r,x,h,hx=>by
  rcases cm.1 hx with rfl|hx
  ·exact h.1
  ·exact ae.iS h.2 hx
theorem ae.c8 {B:Nat} (x:ae):ae.ok B x↔((Lit.int .i64 x.Op).wf=true/\az.ok B x.ai/\(Lit.int .i64 x.N).wf=true/\x.Text.length<=B/\(Lit.int .i64 x.At).wf=true/\(x.Kids.length<=B/\ae.fL B x.Kids)):=by cases x;first|rfl|simp only[ae.ok]
theorem ae.sh {B:Nat}:∀(n:Nat) (row:List AV),Sh Tryz.prog B n 52 row->∃x:ae,row=ae.cs x/\ae.ok B x:=by
 intro n
 induction n using Nat.strongRecOn with
 |_ n ih=>
  intro row h;obtain⟨m,rfl,hh⟩:=nQ Tryz.underlying52 h;simp only[jS]at hh;obtain⟨a0,r0,rfl,h0,a1,r1,rfl,h1,a2,r2,rfl,h2,a3,r3,rfl,h3,a4,r4,rfl,h4,a5,r5,rfl,h5,rfl⟩:=hh;obtain⟨x0,rfl,o0⟩:=kW pO h0;obtain⟨x1,rfl,o1⟩:=az.sh _ _ h1;obtain⟨x2,rfl,o2⟩:=kW A5 h2;obtain⟨⟨⟨x3⟩⟩,rfl,o3⟩:=nV n9 h3;replace o3:x3.length<=B:=o3;obtain⟨x4,rfl,o4⟩:=kW pO h4;obtain⟨h5m,h5w,h5e,rfl,h5l,h5r⟩:=mJ Zg Zh h5;obtain⟨x5,rfl,o51⟩:=lG (f:=ae.cs) (p:=λy=>ae.ok B y) (rows:=h5w) (λr hr=>ih h5m (by omega) r (h5r r hr));have o5:(x5.length<=B/\ae.fL B x5):=⟨by simpa using h5l,ae.pL o51⟩;exact⟨⟨x0,x1,x2,x3,x4,x5⟩,by first|rfl|simp[ae.cs,az.cs,ae.bS],(ae.c8 _).2 ⟨o0,o1,o2,o3,o4,o5⟩⟩
def bl.ok (B:Nat) (x:bl):Prop:=x.Name.length<=B/\x.On.length<=B/\(x.Params.length<=B/\∀y∈x.Params,TParam.ok B y)/\(Lit.int .i64 x.Result).wf=true/\ae.ok B x.Body
theorem bl.sh {B:Nat}:∀(n:Nat) (row:List AV),Sh Tryz.prog B n 63 row->∃x:bl,row=bl.cs x/\bl.ok B x:=by
 intro n
 induction n using Nat.strongRecOn with
 |_ n ih=>
  intro row h;obtain⟨m,rfl,hh⟩:=nQ Tryz.underlying63 h;simp only[jS]at hh;obtain⟨a0,r0,rfl,h0,a1,r1,rfl,h1,a2,r2,rfl,h2,a3,r3,rfl,h3,a4,r4,rfl,h4,rfl⟩:=hh;obtain⟨⟨⟨x0⟩⟩,rfl,o0⟩:=nV n9 h0;replace o0:x0.length<=B:=o0;obtain⟨⟨⟨x1⟩⟩,rfl,o1⟩:=nV n9 h1;replace o1:x1.length<=B:=o1;obtain⟨h2m,h2w,h2e,rfl,h2l,h2r⟩:=mJ Zi Zj h2;obtain⟨x2,rfl,o21⟩:=lG (f:=TParam.cs) (p:=λy=>TParam.ok B y) (rows:=h2w) (λr hr=>TParam.sh _ _ (h2r r hr));have o2:(x2.length<=B/\∀y∈x2,TParam.ok B y):=⟨by simpa using h2l,o21⟩;obtain⟨x3,rfl,o3⟩:=kW pO h3;obtain⟨x4,rfl,o4⟩:=ae.sh _ _ h4;exact⟨⟨x0,x1,x2,x3,x4⟩,by first|rfl|simp[bl.cs,TParam.bS,ae.cs],⟨o0,o1,o2,o3,o4⟩⟩
def cp.ok (B:Nat) (x:cp):Prop:=(x.bH.length<=B/\∀y∈x.bH,bt.ok B y)/\(x.cQ.length<=B/\∀y∈x.cQ,bl.ok B y)/\(x.Queries.length<=B/\∀y∈x.Queries,bl.ok B y)
theorem cp.sh {B:Nat}:∀(n:Nat) (row:List AV),Sh Tryz.prog B n 34 row->∃x:cp,row=cp.cs x/\cp.ok B x:=by
 intro n
 induction n using Nat.strongRecOn with
 |_ n ih=>
  intro row h;obtain⟨m,rfl,hh⟩:=nQ Tryz.underlying34 h;simp only[jS]at hh;obtain⟨a0,r0,rfl,h0,a1,r1,rfl,h1,a2,r2,rfl,h2,rfl⟩:=hh;obtain⟨h0m,h0w,h0e,rfl,h0l,h0r⟩:=mJ Zk Zl h0;obtain⟨x0,rfl,o01⟩:=lG (f:=bt.cs) (p:=λy=>bt.ok B y) (rows:=h0w) (λr hr=>bt.sh _ _ (h0r r hr));have o0:(x0.length<=B/\∀y∈x0,bt.ok B y):=⟨by simpa using h0l,o01⟩;obtain⟨h1m,h1w,h1e,rfl,h1l,h1r⟩:=mJ Pp Pq h1;obtain⟨x1,rfl,o11⟩:=lG (f:=bl.cs) (p:=λy=>bl.ok B y) (rows:=h1w) (λr hr=>bl.sh _ _ (h1r r hr));have o1:(x1.length<=B/\∀y∈x1,bl.ok B y):=⟨by simpa using h1l,o11⟩;obtain⟨h2m,h2w,h2e,rfl,h2l,h2r⟩:=mJ Pp Pq h2;obtain⟨x2,rfl,o21⟩:=lG (f:=bl.cs) (p:=λy=>bl.ok B y) (rows:=h2w) (λr hr=>bl.sh _ _ (h2r r hr));have o2:(x2.length<=B/\∀y∈x2,bl.ok B y):=⟨by simpa using h2l,o21⟩;exact⟨⟨x0,x1,x2⟩,by first|rfl|simp[cp.cs,bt.bS,bl.bS],⟨o0,o1,o2⟩⟩
section
def Ej (P:Program) (t:Nat):Bool:=match P.underlying t with
 |some (.struct fs)=>qJ P 0 fs.toList (P.cellsOf t)&&fs.toList.all λf=>Nat.blt f.type P.types.size
 |some (.slice e)=>Nat.ble 1 (P.cellsOf e)&&Nat.blt e P.types.size
 |_=>true
theorem KH:(List.range Tryz.prog.types.size).all (Ej Tryz.prog)=true:=by kernel_rfl
theorem VI:∀t fs,t<Tryz.prog.types.size->Tryz.prog.underlying t=some (.struct fs)->qJ Tryz.prog 0 fs.toList (Tryz.prog.cellsOf t)=true/\(fs.toList.all λf=>Nat.blt f.type Tryz.prog.types.size)=true:=by
 intro t fs ht h;have:=iA.1 KH t (xP.2 ht);simpa only[Ej,h,bL]using this
theorem VJ:∀t e,t<Tryz.prog.types.size->Tryz.prog.underlying t=some (.slice e)->1<=Tryz.prog.cellsOf e/\e<Tryz.prog.types.size:=by
 intro t e ht h;have:=iA.1 KH t (xP.2 ht);simp only[Ej,h,bL,lF]at this;exact⟨dD this.1,this.2⟩
end
end Go.Proofs.YtfgnmgbiijpkiaaGreat
end

section
set_option maxRecDepth 100000
namespace Go.Proofs.YtfgnmgbiijpkiaaGreat
open Go Go.Bw Go.ChangeShapes Go.WideShapes Go.ChangeAt Go.RowKit
def nW (P:Program) (B:Nat) (t:TypeId) (x:AV):Prop:=match P.underlying t with
 |some (.struct _)=>∃n row,Sh P B n t row/\x= .agg row
 |some (.array _ _)=>∃n row,Sh P B n t row/\x= .agg row
 |_=>∃n,Sh P B n t [x]
def tf (P:Program) (B:Nat):List TypeId->List AV->Prop
 |[],xs=>xs=[]
 |t::ts,xs=>∃x r,xs=x::r/\nW P B t x/\tf P B ts r
def rP (P:Program) (t:TypeId):Bool:=Nat.blt t P.types.size&&P.readableRec t&&match P.underlying t with
 |some (.struct _)=>true
 |some (.array _ _)=>true
 |some .bool=>true
 |some (.int _)=>true
 |some .string=>true
 |some (.slice _)=>true
 |_=>false
theorem Wu:laidOutB Tryz.prog=true:=by kernel_rfl
section
variable {H:Type} {enc:TypeId×Value->H} {W W':World} {base:Nat} {held:Bool} {B:Nat}
theorem Za {t:TypeId} {v:Value} {d:DataW H} {p:List MemPlace} (hb:rP Tryz.prog t=true) (hv:Value.okWide Tryz.prog W .any base t v) (h:DataW.Trod enc Tryz.prog W 0 (λ_=>true) held t v d p) (hB:Rows.uptoBulk d<=B):
  ∃x,nW Tryz.prog B t x/\Rel W ll x v:=by
 obtain⟨n,h⟩:=h;simp only[rP,bL,lF]at hb;obtain⟨⟨ht,_⟩,hb⟩:=hb;obtain⟨row,h1,h2⟩:=KG VI VJ n t v.cells.toList d p ht h hB;have one:∀u,v=u->u.cells= #[u]->∃x,row=[x]/\Rel W ll x v:=by
  intro u hu hc;subst hu;rw[hc]at h2;cases row with
  |nil=>simp[aJ]at h2
  |cons x r=>
   simp only[aJ]at h2;obtain⟨y,r',e,h3,h4⟩:=h2;simp only[lC]at e;obtain⟨e1,e2⟩:=e;subst e1;subst e2;have:=h4.length;cases r with
   |nil=>exact⟨x,rfl,h3⟩
   |cons _ _=>simp at this
 cases hu:Tryz.prog.underlying t with
 |none=>rw[hu]at hb;cases hb
 |some u=>
  rw[hu]at hb;cases u<;>simp only[ju]at hb
  ·obtain⟨b,rfl⟩:=okWide_bool hu hv;obtain⟨x,rfl,hx⟩:=one _ rfl rfl;exact⟨x,by simp only[nW,hu];exact⟨n,h1⟩,hx⟩
  ·obtain⟨b,rfl⟩:=okWide_int hu hv;obtain⟨x,rfl,hx⟩:=one _ rfl rfl;exact⟨x,by simp only[nW,hu];exact⟨n,h1⟩,hx⟩
  ·obtain⟨b,rfl⟩:=okWide_string hu hv;obtain⟨x,rfl,hx⟩:=one _ rfl rfl;exact⟨x,by simp only[nW,hu];exact⟨n,h1⟩,hx⟩
  ·obtain⟨a,l,c,rfl⟩:=okWide_slice hu hv;obtain⟨x,rfl,hx⟩:=one _ rfl rfl;exact⟨x,by simp only[nW,hu];exact⟨n,h1⟩,hx⟩
  ·have:∃cs,v= .agg cs:=by
    simp only[Value.okWide,hu]at hv;obtain⟨cs,h1,_⟩:=hv;exact⟨cs,h1⟩
   obtain⟨cs,rfl⟩:=this;exact⟨.agg row,by simp only[nW,hu];exact⟨n,row,h1,rfl⟩,by simp only[Rel];exact⟨cs.toList,by simp,by simpa[Value.cells]using h2⟩⟩
  ·have:∃cs,v= .agg cs:=by
    simp only[Value.okWide,hu]at hv;obtain⟨cs,h1,_⟩:=hv;exact⟨cs,h1⟩
   obtain⟨cs,rfl⟩:=this;exact⟨.agg row,by simp only[nW,hu];exact⟨n,row,h1,rfl⟩,by simp only[Rel];exact⟨cs.toList,by simp,by simpa[Value.cells]using h2⟩⟩
theorem NI:∀{ts:List TypeId} {vs:List Value} {ds:List (DataW H)} {p:List MemPlace},ts.all (rP Tryz.prog)=true->(∀(j:Nat) t v,ts[j]? =some t->vs[j]? =some v->Value.okWide Tryz.prog W .any base t v)->
  DataW.TrodAll enc Tryz.prog W 0 (λ_=>true) true ts vs ds p->Rows.uptoBulkAll ds<=B->∃xs,tf Tryz.prog B ts xs/\aJ W ll xs vs
 |[],vs,ds,p,_,_,h,_=>by
  obtain⟨rfl,rfl,rfl⟩:=trodAll_nil h;exact⟨[],by simp[tf],by simp[aJ]⟩
 |t::ts,vs,ds,p,ht,hv,h,hB=>by
  obtain⟨v,vs',d,ds',p1,q1,rfl,rfl,rfl,h1,h2⟩:=trodAll_cons h;simp only[kR,bL]at ht;simp only[Rows.uptoBulkAll]at hB;obtain⟨x,hx,hr⟩:=Za ht.1 (hv 0 t v rfl rfl) h1 (B:=B) (by omega);obtain⟨xs,hxs,hrs⟩:=NI ht.2 (λj t v h1 h2=>hv (j+1) t v (by simpa using h1) (by simpa using h2)) h2 (by omega);exact⟨x::xs,⟨x,xs,rfl,hx,hxs⟩,by simp only[aJ];exact⟨v,vs',rfl,hr,hrs⟩⟩
theorem VK (h:Ext [] W [] W') {p:MemPlace} (hp:p.block<W.heap.size):W.sameAt W' p:=by
 cases p with
 |cell b o=>exact World.cell?_of_block (h.block b hp (by simp[ids]))
 |map b=>exact h.block b hp (by simp[ids])
theorem J1 (hx:Ext [] W [] W'):∀{ts:List TypeId} {vs:List Value} {ds:List (DataW H)} {p:List MemPlace},ts.all (rP Tryz.prog)=true->(∀q∈p,q.block<W.heap.size)->
  DataW.TrodAll enc Tryz.prog W 0 (λ_=>true) true ts vs ds p->DataW.TrodAll enc Tryz.prog W' 0 (λb=>decide (b<W.heap.size)) true ts vs ds p
 |[],vs,ds,p,_,_,h=>by
  obtain⟨rfl,rfl,rfl⟩:=trodAll_nil h;exact rfl
 |t::ts,vs,ds,p,ht,hlt,h=>by
  obtain⟨v,vs',d,ds',p1,q1,rfl,rfl,rfl,h1,h2⟩:=trodAll_cons h;simp only[kR,bL,rP,lF]at ht;obtain⟨⟨⟨h3,h4⟩,_⟩,h5⟩:=ht;refine⟨p1,q1,WideElems.Trod_stays Wu h4 h3 h1 (λq hq=>VK hx (hlt q (oR _ hq))) (λq hq=>by simpa using hlt q (oR _ hq)),?_,rfl⟩;exact J1 hx (by simpa[rP]using h5) (λq hq=>hlt q (Um _ hq)) h2
theorem UT {fid:FuncId} {fn:Func} {s:ChangeSpec} {tb:TypeId} (hvars:s.vars=[]) (hfn:∀ds:List (DataW H),ds.length=fn.params.toList.length->s.fn H (ds++[])={results:=[.lit (.bool true)],args:=ds})
  (hres:fn.resultTypes.toList=[tb]) (hsz:fn.resultTypes.size=1) (hb:Tryz.prog.underlying tb=some .bool) (hts:fn.params.toList.all (rP Tryz.prog)=true) (hlaw:∀xs,tf Tryz.prog B fn.params.toList xs->Bw.Pure env.toCx fid xs (.ret (PI true)))
  {args:Array Value} {ds gs:List (DataW H)} {before:List MemPlace} (hval:∀(j:Nat) t v,fn.params[j]? =some t->args[j]? =some v->Value.okWide Tryz.prog W .any base t v)
  (hW:DataW.Whole enc Tryz.prog fn.params.toList s.vars false W args.toList ds gs before) (hG:u2 env.toCx.G W ll) (hB:Rows.uptoBulkAll (ds++gs)<=B):
  Calls Tryz.prog fid args W λe W'=>∃v,e= .returned v/\s.post enc Tryz.prog fn false true false false W args v W':=by
 have hW':=hW;have hlt:=hW.lt;obtain⟨p,q,hA,hV,hpq,_,_⟩:=hW;rw[hvars]at hV;obtain⟨rfl,rfl⟩:=trodVars_none hV;rw[iz]at hB hpq;subst hpq;have hlen:ds.length=fn.params.toList.length:=by
  have key:∀{ts:List TypeId} {vs:List Value} {ds:List (DataW H)} {p:List MemPlace},DataW.TrodAll enc Tryz.prog W 0 (λ_=>true) true ts vs ds p->ds.length=ts.length:=by
   intro ts
   induction ts with
   |nil=>intro vs ds p h;obtain⟨rfl,rfl,rfl⟩:=trodAll_nil h;rfl
   |cons t ts ih=>
    intro vs ds p h;obtain⟨v,vs',d,ds',p1,q1,rfl,rfl,rfl,h1,h2⟩:=trodAll_cons h;simp[ih h2]
  exact key hA
 obtain⟨xs,h1,h2⟩:=NI (B:=B) (base:=base) hts (λj t v h1 h2=>hval j t v (by simpa using h1) (by simpa using h2)) hA hB;have hAA:Al (λ_=>False) []=ll:=funext λb=>by simp[Al,ids,ll]
 have:=(hlaw xs h1).2 (λ_=>False) W args.toList ⟨by simp,by simp[ids],by simp[ids],by simp,by rw[hAA];exact hG⟩ (by rw[hAA];exact h2);simp only[Array.toArray_toList]at this;refine this.mono ?_;rintro e W' ⟨r,O',⟨rfl,rfl⟩,⟨v,rfl,hv⟩,_,hx⟩;simp only[Rel]at hv;subst hv;refine⟨_,rfl,ds,[],before,[],before,[],hW',?_,?_,?_,Vi hx _,λh=>by cases h⟩
 ·rw[hfn ds hlen,hres];have:(Value.bool true).resultList fn.resultTypes.size=[.bool true]:=by rw[hsz];rfl
  rw[this];exact trodAll_cons_mk (shut_bool hb _) trodAll_mk0
 ·rw[hfn ds hlen];exact J1 hx hts (λq hq=>hlt q hq) hA
 ·rw[hfn ds hlen,hvars];exact rfl
