/- From the rows' worlds to the walks: what a call leaves. -/
import Derived.Test.YtnocmolegijmkaaGreatKCt
import Derived.Test.YtnocmolegijmkaaGreatChecked
import Derived.ProofKit
import Derived.OpenShut
import Derived.Deep.DeepHandedRow
import Derived.SevenTiedAt
set_option linter.all false
section
namespace Go.Proofs.YtnocmolegijmkaaGreat
open Go Go.Bw Go.ChangeShapes Go.WideShapes Go.ChangeAt Go.RowKit
abbrev Pa (b:Bool):AV:= .v (.bool b)
theorem own:ownKnob Tryz.prog.godebug=none:=by kernel_rfl
theorem VB {W:World} {A:Nat->Prop}:vi env.toCx.G W A:=λp hp=>by cases hp
theorem TU {W W':World} (h:Ext [] W [] W') (may:MemPlace->Prop):W.keptBut W' may:=by
 refine⟨h.os,h.output,λi hi=>?_⟩;rw[h.block i hi (by simp[ids])];cases W.heap[i]? with
 |none=>rfl
 |some o=>cases o<;>simp
end Go.Proofs.YtnocmolegijmkaaGreat
end

section
namespace Go.Proofs.YtnocmolegijmkaaGreat
open Go Go.Bw
def q7 (P:Program):Nat->List Field->Nat->Bool
 |off,[],e=>Nat.beq off e
 |off,f::fs,e=>Nat.beq f.offset off&&q7 P (off+P.cellsOf f.type) fs e
def mM (sh:TypeId->List AV->Prop):List Field->List AV->Prop
 |[],row=>row=[]
 |f::fs,row=>∃r1 r2,row=r1++r2/\sh f.type r1/\mM sh fs r2
def Sh (P:Program) (B:Nat):Nat->TypeId->List AV->Prop
 |0,_,_=>False
 |n+1,t,row=>match P.underlying t with
  |some .bool=>∃b,row=[.v (.bool b)]
  |some (.int k)=>∃z,row=[.v (.int k z)]/\(Lit.int k z).wf=true
  |some .string=>∃s,row=[.v (.string s)]/\s.size<=B
  |some (.slice e)=>∃rows,row=[.sl (P.cellsOf e) rows]/\rows.length<=B/\∀r∈rows,Sh P B n e r
  |some (.struct fs)=>mM (Sh P B n) fs.toList row
  |_=>∃vs:List Value,row=vs.map .v
abbrev lK:Nat->Prop:=λ_=>True
section
variable {H:Type} {enc:TypeId×Value->H} {P:Program} {w:World} {base:Nat} {sp:Nat->Bool} {held:Bool} {B:Nat}
theorem J9:∀{l:List (DataW H)} {d:DataW H},d∈l->Rows.uptoBulk d<=Rows.uptoBulkAll l
 |[],_,h=>by cases h
 |x::l,d,h=>by
  simp only[Rows.uptoBulkAll];rcases cu.1 h with rfl|h
  ·omega
  ·have:=J9 h;omega
theorem Tw:∀d:DataW H,1<=Rows.uptoBulk d
 | .lit (.string _)=>by simp[Rows.uptoBulk]
 | .lit (.bool _)=>by simp[Rows.uptoBulk]
 | .lit .nil=>by simp[Rows.uptoBulk]
 | .lit (.int _ _)=>by simp[Rows.uptoBulk]
 | .lit (.float _ _)=>by simp[Rows.uptoBulk]
 | .nil=>by simp[Rows.uptoBulk]
 | .ptr _=>by simp[Rows.uptoBulk]
 | .slice _ _=>by simp[Rows.uptoBulk]
 | .agg _=>by simp[Rows.uptoBulk]
 | .iface _ _=>by simp[Rows.uptoBulk]
 | .map _=>by simp[Rows.uptoBulk]
 | .held _=>by simp[Rows.uptoBulk]
theorem J8:∀l:List (DataW H),l.length<=Rows.uptoBulkAll l
 |[]=>by simp
 |x::l=>by
  have:=J8 l;have:=Tw x;simp only[Rows.uptoBulkAll,fu];omega
theorem Ka {n:Nat} {cs:List Value} (ih:∀t cs d ps,t<P.types.size->DataW.trod enc P w base sp held n t cs=some (d,ps)->Rows.uptoBulk d<=B->∃row,Sh P B n t row/\aJ w lK row cs):
  ∀(fs:List Field) (off:Nat) (xs:List (DataW H×List MemPlace)),(fs.all λf=>Nat.blt f.type P.types.size)=true->q7 P off fs cs.length=true->xs.length=fs.length->
   (∀(i:Nat) (f:Field),fs[i]? =some f->DataW.trod enc P w base sp held n f.type ((cs.drop f.offset).take (P.cellsOf f.type))=xs[i]?)->Rows.uptoBulkAll (xs.map (·.1))<=B->∃row,mM (Sh P B n) fs row/\aJ w lK row (cs.drop off)
 |[],off,xs,_,hc,_,h,hB=>by
  simp only[q7]at hc;have:=bC hc;subst this;exact⟨[],by simp[mM],by simp[aJ]⟩
 |f::fs,off,[],_,hc,hl,h,hB=>by simp at hl
 |f::fs,off,(d,p)::ys,ht,hc,hl,h,hB=>by
  simp only[kx,bG,lT]at ht;simp only[q7,bG]at hc;obtain⟨h1,h2⟩:=hc;have h1:=bC h1;have hd:=h 0 f (by simp);simp only[dY,Rows.uptoBulkAll]at hB;obtain⟨r1,g1,g2⟩:=ih _ _ d p ht.1 (by simpa using hd) (by omega);obtain⟨r2,k1,k2⟩:=Ka ih fs _ ys ht.2 h2 (by simpa using hl) (λi g hg=>by simpa using h (i+1) g (by simpa using hg)) (by omega);refine⟨r1++r2,⟨r1,r2,rfl,g1,k1⟩,?_⟩;have e:cs.drop off=(cs.drop f.offset).take (P.cellsOf f.type)++cs.drop (off+P.cellsOf f.type):=by
   rw[h1,<-List.drop_drop,JU]
  rw[e];exact g2.append k2
theorem bz.snoc {A:Nat->Prop} {k:Nat} {r:List AV} {cs:List Value} (hk:r.length=k) (hr:aJ w A r cs):∀{rows:List (List AV)} {vs:List Value},bz w A k rows vs->bz w A k (rows++[r]) (vs++cs)
 |[],vs,h=>by
  simp only[bz]at h;subst h;simp only[Am,bz];exact⟨cs,[],by simp,hk,hr,rfl⟩
 |x::xs,vs,h=>by
  simp only[bz]at h;obtain⟨v1,v2,rfl,m1,m2,m3⟩:=h;simp only[jJ,bz,kB];exact⟨v1,v2++cs,rfl,m1,m2,bz.snoc hk hr m3⟩
theorem Tx (a:Addr) (i j:Nat):(a.add i).add j=a.add (i+j):=by
 unfold Addr.add;by_cases hi:i=0<;>by_cases hj:j=0<;>simp[hi,hj,DK]
theorem Tn {e:TypeId} {n:Nat} {a:Addr} (he:e<P.types.size) (ih:∀t cs d ps,t<P.types.size->DataW.trod enc P w base sp held n t cs=some (d,ps)->Rows.uptoBulk d<=B->∃row,Sh P B n t row/\aJ w lK row cs):
  ∀(len:Nat) (elems:List (DataW H×List MemPlace)),elems.length=len->Rows.uptoBulkAll (elems.map (·.1))<=B->
   (∀i,i<len->(w.cells? base (a.add (i*P.cellsOf e)) (P.cellsOf e)).bind (DataW.trod enc P w base sp held n e)=elems[i]?)->
   ∃rows vs,rows.length=len/\(∀r∈rows,Sh P B n e r)/\bz w lK (P.cellsOf e) rows vs/\∀j u,vs[j]? =some u->w.cell? (a.add j)=some u:=by
 intro len
 induction len with
 |zero=>intro elems hl _ _;exact⟨[],[],rfl,by simp,by simp[bz],by simp⟩
 |succ len ihl=>
  intro elems hl hB hel;obtain⟨rows,vs,g1,g2,g3,g4⟩:=ihl (elems.take len) (by simp[hl]) (by
   have:Rows.uptoBulkAll ((elems.take len).map (·.1))<=Rows.uptoBulkAll (elems.map (·.1)):=by
    conv=>rhs;rw[<-JU len elems]
    rw[Ag];have happ:∀l r:List (DataW H),Rows.uptoBulkAll (l++r)=Rows.uptoBulkAll l+Rows.uptoBulkAll r:=by
     intro l r
     induction l with
     |nil=>simp[Rows.uptoBulkAll]
     |cons x l ih=>simp only[jJ,Rows.uptoBulkAll,ih];omega
    rw[happ];omega
   omega) (λi hi=>by rw[hel i (by omega),lV];simp[hi])
  have hlast:=hel len (by omega);have hle:elems[len]? =some elems[len]:=by simp[hl]
  rw[hle]at hlast;obtain⟨cs,hc,ht⟩:=Option.bind_eq_some_iff.1 hlast;obtain⟨r,k1,k2⟩:=ih e cs elems[len].1 elems[len].2 he (by rw[ht]) (by
   have:elems[len].1∈elems.map (·.1):=dB.2 ⟨_,List.getElem_mem _,rfl⟩;have:=J9 this;omega)
  obtain⟨_,hcl,hcell⟩:=World.cells?_some hc;have hrl:vs.length=len*P.cellsOf e:=by rw[g3.length,g1]
  refine⟨rows++[r],vs++cs,by simp[g1],?_,?_,?_⟩
  ·intro x hx;rcases cL.1 hx with hx|hx
   ·exact g2 x hx
   ·simp only[oX]at hx;subst hx;exact k1
  ·have hk2:r.length=P.cellsOf e:=by rw[<-k2.length,hcl]
   exact bz.snoc hk2 k2 g3
  ·intro j u hj;by_cases hjl:j<vs.length
   ·exact g4 j u (by rwa[sC hjl]at hj)
   ·rw[DH (by omega)]at hj;have hlt:j-vs.length<P.cellsOf e:=by
     have:=(cy.1 hj).1;omega
    have:=hcell (j-vs.length) hlt;rw[hj]at this;rw[<-this,Tx];congr 2;omega
theorem KT (hc:∀t fs,t<P.types.size->P.underlying t=some (.struct fs)->q7 P 0 fs.toList (P.cellsOf t)=true/\(fs.toList.all λf=>Nat.blt f.type P.types.size)=true) (hk:∀t e,t<P.types.size->P.underlying t=some (.slice e)->1<=P.cellsOf e/\e<P.types.size):
  ∀(n:Nat) (t:TypeId) (cs:List Value) (d:DataW H) (ps:List MemPlace),t<P.types.size->DataW.trod enc P w base sp held n t cs=some (d,ps)->Rows.uptoBulk d<=B->∃row,Sh P B n t row/\aJ w lK row cs
 |0,t,cs,d,ps,_,h,_=>by simp[DataW.trod]at h
 |n+1,t,cs,d,ps,hts,h,hB=>by
  have ih:=KT hc hk n;have other:(∃vs:List Value,(cs.map AV.v)=vs.map .v)/\aJ w lK (cs.map .v) cs:=⟨⟨cs,rfl⟩,nZ cs⟩;cases hu:P.underlying t with
  |none=>exact⟨cs.map .v,by simp only[Sh,hu];exact other.1,other.2⟩
  |some u=>
   cases u with
   |bool=>
    obtain⟨b,rfl,_⟩:=DataW.trod_bool hu h;exact⟨[.v (.bool b)],by simp only[Sh,hu];exact⟨b,rfl⟩,by simp[aJ,Rel]⟩
   |int k=>
    obtain⟨z,rfl,_,hz⟩:=DataW.trod_int hu h;exact⟨[.v (.int k z)],by simp only[Sh,hu];exact⟨z,rfl,hz⟩,by simp[aJ,Rel]⟩
   |string=>
    obtain⟨s,rfl,hx,_⟩:=DataW.trod_string hu h;obtain⟨rfl,_⟩:=Td hx;refine⟨[.v (.string s)],?_,by simp[aJ,Rel]⟩;simp only[Sh,hu];refine⟨s,rfl,?_⟩;simp only[Rows.uptoBulk,Aj]at hB;have:s.size=s.data.size:=rfl;omega
   |slice e=>
    rcases DataW.trod_slice hu h with⟨rfl,hx⟩|⟨a,len,cap,elems,rest,m,hm,rfl,hx,_,hlc,hcm,hel,hcell,_,_⟩
    ·refine⟨[.sl (P.cellsOf e) []],by simp only[Sh,hu];exact⟨[],rfl,by simp,by simp⟩,?_⟩;simp only[aJ,Rel];exact⟨_,[],rfl,.inl ⟨trivial,none,0,rfl⟩,rfl⟩
    ·obtain rfl:n=m:=by omega
     obtain⟨rfl,_⟩:=Td hx;simp only[Rows.uptoBulk]at hB;obtain⟨rows,vs,g1,g2,g3,g4⟩:=Tn (hk t e hts hu).2 ih len elems hel (by omega) hcell;have hlB:rows.length<=B:=by
      have:=J8 (elems.map (·.1));rw[jI,hel]at this;omega
     refine⟨[.sl (P.cellsOf e) rows],by simp only[Sh,hu];exact⟨rows,rfl,hlB,g2⟩,?_⟩;simp only[aJ,Rel];refine⟨_,[],rfl,?_,rfl⟩;by_cases h0:len=0
     ·subst h0;exact .inl ⟨mP g1,some a,cap,rfl⟩
     ·have hvl:vs.length=len*P.cellsOf e:=by rw[g3.length,g1]
      have hk1:=(hk t e hts hu).1;have hpos:0<vs.length:=by rw[hvl];exact Nat.mul_pos (by omega) hk1
      obtain⟨v0,hv0⟩:∃v0,vs[0]? =some v0:=⟨vs[0],by simp[hpos]⟩;have hc0:=g4 0 v0 hv0;obtain⟨b,o,spot⟩:=a;have hspot:spot=none:=by
       simp only[Addr.add,if_true]at hc0;unfold World.cell? at hc0;split at hc0
       ·split at hc0
        ·cases hc0
        ·rename_i hs;simpa using hs
       ·cases hc0
      subst hspot;refine .inr ⟨b,o,cap,vs,by rw[g1],⟨?_,trivial⟩,by omega,hcm,g3,λj u hj=>?_⟩
      ·have:=KR (w:=w) (b:=b) (o:=o) (u:=v0) (by simpa[Addr.add]using hc0);exact this
      ·have:=g4 j u hj;unfold Addr.add at this;split at this
       ·rename_i hj0;subst hj0;simpa using this
       ·exact this
   |struct fs=>
    obtain⟨xs,m,hm,hx,hcl,hxl,hf⟩:=DataW.trod_struct hu h;obtain rfl:n=m:=by omega
    obtain⟨rfl,_⟩:=Td hx;simp only[Rows.uptoBulk]at hB;obtain⟨row,g1,g2⟩:=Ka ih fs.toList 0 xs (hc t fs hts hu).2 (by rw[hcl];exact(hc t fs hts hu).1) (by simpa using hxl) (λi f hi=>hf i f (by simpa using hi)) (by omega);exact⟨row,by simp only[Sh,hu];exact g1,by simpa using g2⟩
   |_=>exact⟨cs.map .v,by simp only[Sh,hu];exact other.1,other.2⟩
end
end Go.Proofs.YtnocmolegijmkaaGreat
end

section
set_option maxRecDepth 100000
namespace Go.Proofs.YtnocmolegijmkaaGreat
open Go Go.Bw
theorem qz {D β:Type} {f:D->β} {p:D->Prop}:∀{rows:List β},(∀r∈rows,∃x,r=f x/\p x)->∃xs:List D,rows=xs.map f/\∀x∈xs,p x
 |[],_=>⟨[],rfl,by simp⟩
 |r::rows,h=>by
  obtain⟨x,rfl,hx⟩:=h r (by simp);obtain⟨xs,rfl,hxs⟩:=qz (rows:=rows) (λr hr=>h r (by simp[hr]));exact⟨x::xs,rfl,by simpa using⟨hx,hxs⟩⟩
section
variable {P:Program} {B n:Nat} {t:TypeId} {row:List AV}
theorem oo {k:IntKind} (hu:P.underlying t=some (.int k)) (h:Sh P B n t row):∃z,row=[.v (.int k z)]/\(Lit.int k z).wf=true:=by
 cases n with
 |zero=>exact h.elim
 |succ n=>simp only[Sh,hu]at h;exact h
theorem rp (hu:P.underlying t=some .string) (h:Sh P B n t row):∃s,row=[.v (.string s)]/\s.size<=B:=by
 cases n with
 |zero=>exact h.elim
 |succ n=>simp only[Sh,hu]at h;exact h
theorem tj {e k:Nat} (hu:P.underlying t=some (.slice e)) (hk:P.cellsOf e=k) (h:Sh P B n t row):∃m rows,n=m+1/\row=[.sl k rows]/\rows.length<=B/\∀r∈rows,Sh P B m e r:=by
 cases n with
 |zero=>exact h.elim
 |succ n=>simp only[Sh,hu]at h;subst hk;obtain⟨rows,h1,h2,h3⟩:=h;exact⟨n,rows,rfl,h1,h2,h3⟩
theorem ta {fs:Array Field} (hu:P.underlying t=some (.struct fs)) (h:Sh P B n t row):∃m,n=m+1/\mM (Sh P B m) fs.toList row:=by
 cases n with
 |zero=>exact h.elim
 |succ n=>simp only[Sh,hu]at h;exact⟨n,rfl,h⟩
end
theorem O2:Tryz.prog.underlying 22=some (.slice 9):=by kernel_rfl
theorem PJ:Tryz.prog.cellsOf 9=1:=by kernel_rfl
theorem rF:Tryz.prog.underlying 9=some (.string):=by kernel_rfl
theorem uH:Tryz.prog.underlying 3=some (.int .i64):=by kernel_rfl
theorem GO:Tryz.prog.underlying 2=some (.int .i64):=by kernel_rfl
theorem X0:Tryz.prog.underlying 23=some (.slice 26):=by kernel_rfl
theorem X1:Tryz.prog.cellsOf 26=6:=by kernel_rfl
theorem X2:Tryz.prog.underlying 24=some (.slice 181):=by kernel_rfl
theorem W2:Tryz.prog.cellsOf 181=2:=by kernel_rfl
theorem X3:Tryz.prog.underlying 30=some (.slice 32):=by kernel_rfl
theorem X4:Tryz.prog.cellsOf 32=12:=by kernel_rfl
theorem X5:Tryz.prog.underlying 27=some (.slice 63):=by kernel_rfl
theorem X6:Tryz.prog.cellsOf 63=2:=by kernel_rfl
def aP.ok (B:Nat) (x:aP):Prop:=(x.If.length<=B/\∀y∈x.If,y.length<=B)/\x.eY.length<=B
theorem aP.sh {B:Nat}:∀(n:Nat) (row:List AV),Sh Tryz.prog B n 181 row->∃x:aP,row=aP.cs x/\aP.ok B x:=by
 intro n
 induction n using Nat.strongRecOn with
 |_ n ih=>
  intro row h;obtain⟨m,rfl,hh⟩:=ta Tryz.underlying181 h;simp only[mM]at hh;obtain⟨a0,r0,rfl,h0,a1,r1,rfl,h1,rfl⟩:=hh;obtain⟨h0m,h0w,h0e,rfl,h0l,h0r⟩:=tj O2 PJ h0;obtain⟨x0,rfl,o01⟩:=qz (f:=(λx:List UInt8=>[AV.v (.string ⟨⟨x⟩⟩)])) (p:=λy=>y.length<=B) (rows:=h0w) (λr hr=>by obtain⟨⟨⟨b⟩⟩,e,e2⟩:=rp rF (h0r r hr);exact⟨b,e,e2⟩);have o0:(x0.length<=B/\∀y∈x0,y.length<=B):=⟨by simpa using h0l,o01⟩;obtain⟨⟨⟨x1⟩⟩,rfl,o1⟩:=rp rF h1;replace o1:x1.length<=B:=o1;exact⟨⟨x0,x1⟩,by first|rfl|simp[aP.cs,aT],⟨o0,o1⟩⟩
mutual
def ah.ok (B:Nat):ah->Prop
 |⟨vKind,vLo,vHi,vNames,vParts,vRules⟩=>(Lit.int .i64 vKind).wf=true/\(Lit.int .i64 vLo).wf=true/\(Lit.int .i64 vHi).wf=true/\(vNames.length<=B/\∀y∈vNames,y.length<=B)/\(vParts.length<=B/\ah.gu B vParts)/\(vRules.length<=B/\∀y∈vRules,aP.ok B y)
def ah.gu (B:Nat):List ah->Prop
 |[]=>True
 |x::r=>ah.ok B x/\ah.gu B r
end
theorem ah.xj {B:Nat}:∀{l:List ah},(∀x∈l,ah.ok B x)->ah.gu B l
 |[],_=>trivial
 |x::r,h=>⟨h x (by simp),ah.xj λy hy=>h y (by simp[hy])⟩
theorem ah.gF {B:Nat}:∀{l:List ah} {x:ah},ah.gu B l->x∈l->ah.ok B x
 |y::r,x,h,hx=>by
  rcases cu.1 hx with rfl|hx
  ·exact h.1
  ·exact ah.gF h.2 hx
theorem ah.cM {B:Nat} (x:ah):ah.ok B x↔((Lit.int .i64 x.Kind).wf=true/\(Lit.int .i64 x.Lo).wf=true/\(Lit.int .i64 x.Hi).wf=true/\(x.Names.length<=B/\∀y∈x.Names,y.length<=B)/\(x.aw.length<=B/\ah.gu B x.aw)/\(x.aX.length<=B/\∀y∈x.aX,aP.ok B y)):=by cases x;first|rfl|simp only[ah.ok]
theorem ah.sh {B:Nat}:∀(n:Nat) (row:List AV),Sh Tryz.prog B n 26 row->∃x:ah,row=ah.cs x/\ah.ok B x:=by
 intro n
 induction n using Nat.strongRecOn with
 |_ n ih=>
  intro row h;obtain⟨m,rfl,hh⟩:=ta Tryz.underlying26 h;simp only[mM]at hh;obtain⟨a0,r0,rfl,h0,a1,r1,rfl,h1,a2,r2,rfl,h2,a3,r3,rfl,h3,a4,r4,rfl,h4,a5,r5,rfl,h5,rfl⟩:=hh;obtain⟨x0,rfl,o0⟩:=oo uH h0;obtain⟨x1,rfl,o1⟩:=oo GO h1;obtain⟨x2,rfl,o2⟩:=oo GO h2;obtain⟨h3m,h3w,h3e,rfl,h3l,h3r⟩:=tj O2 PJ h3;obtain⟨x3,rfl,o31⟩:=qz (f:=(λx:List UInt8=>[AV.v (.string ⟨⟨x⟩⟩)])) (p:=λy=>y.length<=B) (rows:=h3w) (λr hr=>by obtain⟨⟨⟨b⟩⟩,e,e2⟩:=rp rF (h3r r hr);exact⟨b,e,e2⟩);have o3:(x3.length<=B/\∀y∈x3,y.length<=B):=⟨by simpa using h3l,o31⟩;obtain⟨h4m,h4w,h4e,rfl,h4l,h4r⟩:=tj X0 X1 h4;obtain⟨x4,rfl,o41⟩:=qz (f:=ah.cs) (p:=λy=>ah.ok B y) (rows:=h4w) (λr hr=>ih h4m (by omega) r (h4r r hr));have o4:(x4.length<=B/\ah.gu B x4):=⟨by simpa using h4l,ah.xj o41⟩;obtain⟨h5m,h5w,h5e,rfl,h5l,h5r⟩:=tj X2 W2 h5;obtain⟨x5,rfl,o51⟩:=qz (f:=aP.cs) (p:=λy=>aP.ok B y) (rows:=h5w) (λr hr=>aP.sh _ _ (h5r r hr));have o5:(x5.length<=B/\∀y∈x5,aP.ok B y):=⟨by simpa using h5l,o51⟩;exact⟨⟨x0,x1,x2,x3,x4,x5⟩,by first|rfl|simp[ah.cs,aT,ah.bw,aP.bw],(ah.cM _).2 ⟨o0,o1,o2,o3,o4,o5⟩⟩
def TParam.ok (B:Nat) (x:TParam):Prop:=x.Name.length<=B/\(Lit.int .i64 x.aK).wf=true
theorem TParam.sh {B:Nat}:∀(n:Nat) (row:List AV),Sh Tryz.prog B n 63 row->∃x:TParam,row=TParam.cs x/\TParam.ok B x:=by
 intro n
 induction n using Nat.strongRecOn with
 |_ n ih=>
  intro row h;obtain⟨m,rfl,hh⟩:=ta Tryz.underlying63 h;simp only[mM]at hh;obtain⟨a0,r0,rfl,h0,a1,r1,rfl,h1,rfl⟩:=hh;obtain⟨⟨⟨x0⟩⟩,rfl,o0⟩:=rp rF h0;replace o0:x0.length<=B:=o0;obtain⟨x1,rfl,o1⟩:=oo uH h1;exact⟨⟨x0,x1⟩,by first|rfl|simp[TParam.cs],⟨o0,o1⟩⟩
def ay.ok (B:Nat) (x:ay):Prop:=(Lit.int .i64 x.aK).wf=true/\ah.ok B x.ai
theorem ay.sh {B:Nat}:∀(n:Nat) (row:List AV),Sh Tryz.prog B n 29 row->∃x:ay,row=ay.cs x/\ay.ok B x:=by
 intro n
 induction n using Nat.strongRecOn with
 |_ n ih=>
  intro row h;obtain⟨m,rfl,hh⟩:=ta Tryz.underlying29 h;simp only[mM]at hh;obtain⟨a0,r0,rfl,h0,a1,r1,rfl,h1,rfl⟩:=hh;obtain⟨x0,rfl,o0⟩:=oo uH h0;obtain⟨x1,rfl,o1⟩:=ah.sh _ _ h1;exact⟨⟨x0,x1⟩,by first|rfl|simp[ay.cs,ah.cs],⟨o0,o1⟩⟩
mutual
def ab.ok (B:Nat):ab->Prop
 |⟨vOp,vType_,vN,vText,vAt,vKids⟩=>(Lit.int .i64 vOp).wf=true/\ay.ok B vType_/\(Lit.int .i64 vN).wf=true/\vText.length<=B/\(Lit.int .i64 vAt).wf=true/\(vKids.length<=B/\ab.gu B vKids)
def ab.gu (B:Nat):List ab->Prop
 |[]=>True
 |x::r=>ab.ok B x/\ab.gu B r
end
theorem ab.xj {B:Nat}:∀{l:List ab},(∀x∈l,ab.ok B x)->ab.gu B l
 |[],_=>trivial
 |x::r,h=>⟨h x (by simp),ab.xj λy hy=>h y (by simp[hy])⟩
theorem ab.gF {B:Nat}:∀{l:List ab} {x:ab},ab.gu B l->x∈l->ab.ok B x
 |y::r,x,h,hx=>by
  rcases cu.1 hx with rfl|hx
  ·exact h.1
  ·exact ab.gF h.2 hx
theorem ab.cM {B:Nat} (x:ab):ab.ok B x↔((Lit.int .i64 x.Op).wf=true/\ay.ok B x.aj/\(Lit.int .i64 x.N).wf=true/\x.Text.length<=B/\(Lit.int .i64 x.At).wf=true/\(x.Kids.length<=B/\ab.gu B x.Kids)):=by cases x;first|rfl|simp only[ab.ok]
theorem ab.sh {B:Nat}:∀(n:Nat) (row:List AV),Sh Tryz.prog B n 32 row->∃x:ab,row=ab.cs x/\ab.ok B x:=by
 intro n
 induction n using Nat.strongRecOn with
 |_ n ih=>
  intro row h;obtain⟨m,rfl,hh⟩:=ta Tryz.underlying32 h;simp only[mM]at hh;obtain⟨a0,r0,rfl,h0,a1,r1,rfl,h1,a2,r2,rfl,h2,a3,r3,rfl,h3,a4,r4,rfl,h4,a5,r5,rfl,h5,rfl⟩:=hh;obtain⟨x0,rfl,o0⟩:=oo uH h0;obtain⟨x1,rfl,o1⟩:=ay.sh _ _ h1;obtain⟨x2,rfl,o2⟩:=oo GO h2;obtain⟨⟨⟨x3⟩⟩,rfl,o3⟩:=rp rF h3;replace o3:x3.length<=B:=o3;obtain⟨x4,rfl,o4⟩:=oo uH h4;obtain⟨h5m,h5w,h5e,rfl,h5l,h5r⟩:=tj X3 X4 h5;obtain⟨x5,rfl,o51⟩:=qz (f:=ab.cs) (p:=λy=>ab.ok B y) (rows:=h5w) (λr hr=>ih h5m (by omega) r (h5r r hr));have o5:(x5.length<=B/\ab.gu B x5):=⟨by simpa using h5l,ab.xj o51⟩;exact⟨⟨x0,x1,x2,x3,x4,x5⟩,by first|rfl|simp[ab.cs,ay.cs,ab.bw],(ab.cM _).2 ⟨o0,o1,o2,o3,o4,o5⟩⟩
def bD.ok (B:Nat) (x:bD):Prop:=x.Name.length<=B/\x.On.length<=B/\(x.Params.length<=B/\∀y∈x.Params,TParam.ok B y)/\(Lit.int .i64 x.Result).wf=true/\ab.ok B x.Body
theorem bD.sh {B:Nat}:∀(n:Nat) (row:List AV),Sh Tryz.prog B n 34 row->∃x:bD,row=bD.cs x/\bD.ok B x:=by
 intro n
 induction n using Nat.strongRecOn with
 |_ n ih=>
  intro row h;obtain⟨m,rfl,hh⟩:=ta Tryz.underlying34 h;simp only[mM]at hh;obtain⟨a0,r0,rfl,h0,a1,r1,rfl,h1,a2,r2,rfl,h2,a3,r3,rfl,h3,a4,r4,rfl,h4,rfl⟩:=hh;obtain⟨⟨⟨x0⟩⟩,rfl,o0⟩:=rp rF h0;replace o0:x0.length<=B:=o0;obtain⟨⟨⟨x1⟩⟩,rfl,o1⟩:=rp rF h1;replace o1:x1.length<=B:=o1;obtain⟨h2m,h2w,h2e,rfl,h2l,h2r⟩:=tj X5 X6 h2;obtain⟨x2,rfl,o21⟩:=qz (f:=TParam.cs) (p:=λy=>TParam.ok B y) (rows:=h2w) (λr hr=>TParam.sh _ _ (h2r r hr));have o2:(x2.length<=B/\∀y∈x2,TParam.ok B y):=⟨by simpa using h2l,o21⟩;obtain⟨x3,rfl,o3⟩:=oo uH h3;obtain⟨x4,rfl,o4⟩:=ab.sh _ _ h4;exact⟨⟨x0,x1,x2,x3,x4⟩,by first|rfl|simp[bD.cs,TParam.bw,ab.cs],⟨o0,o1,o2,o3,o4⟩⟩
section
def Fe (P:Program) (t:Nat):Bool:=match P.underlying t with
 |some (.struct fs)=>q7 P 0 fs.toList (P.cellsOf t)&&fs.toList.all λf=>Nat.blt f.type P.types.size
 |some (.slice e)=>Nat.ble 1 (P.cellsOf e)&&Nat.blt e P.types.size
 |_=>true
theorem KU:(List.range Tryz.prog.types.size).all (Fe Tryz.prog)=true:=by kernel_rfl
theorem Um:∀t fs,t<Tryz.prog.types.size->Tryz.prog.underlying t=some (.struct fs)->q7 Tryz.prog 0 fs.toList (Tryz.prog.cellsOf t)=true/\(fs.toList.all λf=>Nat.blt f.type Tryz.prog.types.size)=true:=by
 intro t fs ht h;have:=je.1 KU t (J1.2 ht);simpa only[Fe,h,bG]using this
theorem Un:∀t e,t<Tryz.prog.types.size->Tryz.prog.underlying t=some (.slice e)->1<=Tryz.prog.cellsOf e/\e<Tryz.prog.types.size:=by
 intro t e ht h;have:=je.1 KU t (J1.2 ht);simp only[Fe,h,bG,lT]at this;exact⟨dJ this.1,this.2⟩
end
end Go.Proofs.YtnocmolegijmkaaGreat
end

section
set_option maxRecDepth 100000
namespace Go.Proofs.YtnocmolegijmkaaGreat
open Go Go.Bw Go.ChangeShapes Go.WideShapes Go.ChangeAt Go.RowKit
def ow (P:Program) (B:Nat) (t:TypeId) (x:AV):Prop:=match P.underlying t with
 |some (.struct _)=>∃n row,Sh P B n t row/\x= .agg row
 |some (.array _ _)=>∃n row,Sh P B n t row/\x= .agg row
 |_=>∃n,Sh P B n t [x]
def tP (P:Program) (B:Nat):List TypeId->List AV->Prop
 |[],xs=>xs=[]
 |t::ts,xs=>∃x r,xs=x::r/\ow P B t x/\tP P B ts r
def sn (P:Program) (t:TypeId):Bool:=Nat.blt t P.types.size&&P.readableRec t&&match P.underlying t with
 |some (.struct _)=>true
 |some (.array _ _)=>true
 |some .bool=>true
 |some (.int _)=>true
 |some .string=>true
 |some (.slice _)=>true
 |_=>false
theorem Va:laidOutB Tryz.prog=true:=by kernel_rfl
section
variable {H:Type} {enc:TypeId×Value->H} {W W':World} {base:Nat} {held:Bool} {B:Nat}
theorem XZ {t:TypeId} {v:Value} {d:DataW H} {p:List MemPlace} (hb:sn Tryz.prog t=true) (hv:Value.okWide Tryz.prog W .any base t v) (h:DataW.Trod enc Tryz.prog W 0 (λ_=>true) held t v d p) (hB:Rows.uptoBulk d<=B):
  ∃x,ow Tryz.prog B t x/\Rel W lK x v:=by
 obtain⟨n,h⟩:=h;simp only[sn,bG,lT]at hb;obtain⟨⟨ht,_⟩,hb⟩:=hb;obtain⟨row,h1,h2⟩:=KT Um Un n t v.cells.toList d p ht h hB;have one:∀u,v=u->u.cells= #[u]->∃x,row=[x]/\Rel W lK x v:=by
  intro u hu hc;subst hu;rw[hc]at h2;cases row with
  |nil=>simp[aJ]at h2
  |cons x r=>
   simp only[aJ]at h2;obtain⟨y,r',e,h3,h4⟩:=h2;simp only[ll]at e;obtain⟨e1,e2⟩:=e;subst e1;subst e2;have:=h4.length;cases r with
   |nil=>exact⟨x,rfl,h3⟩
   |cons _ _=>simp at this
 cases hu:Tryz.prog.underlying t with
 |none=>rw[hu]at hb;cases hb
 |some u=>
  rw[hu]at hb;cases u<;>simp only[jH]at hb
  ·obtain⟨b,rfl⟩:=okWide_bool hu hv;obtain⟨x,rfl,hx⟩:=one _ rfl rfl;exact⟨x,by simp only[ow,hu];exact⟨n,h1⟩,hx⟩
  ·obtain⟨b,rfl⟩:=okWide_int hu hv;obtain⟨x,rfl,hx⟩:=one _ rfl rfl;exact⟨x,by simp only[ow,hu];exact⟨n,h1⟩,hx⟩
  ·obtain⟨b,rfl⟩:=okWide_string hu hv;obtain⟨x,rfl,hx⟩:=one _ rfl rfl;exact⟨x,by simp only[ow,hu];exact⟨n,h1⟩,hx⟩
  ·obtain⟨a,l,c,rfl⟩:=okWide_slice hu hv;obtain⟨x,rfl,hx⟩:=one _ rfl rfl;exact⟨x,by simp only[ow,hu];exact⟨n,h1⟩,hx⟩
  ·have:∃cs,v= .agg cs:=by
    simp only[Value.okWide,hu]at hv;obtain⟨cs,h1,_⟩:=hv;exact⟨cs,h1⟩
   obtain⟨cs,rfl⟩:=this;exact⟨.agg row,by simp only[ow,hu];exact⟨n,row,h1,rfl⟩,by simp only[Rel];exact⟨cs.toList,by simp,by simpa[Value.cells]using h2⟩⟩
  ·have:∃cs,v= .agg cs:=by
    simp only[Value.okWide,hu]at hv;obtain⟨cs,h1,_⟩:=hv;exact⟨cs,h1⟩
   obtain⟨cs,rfl⟩:=this;exact⟨.agg row,by simp only[ow,hu];exact⟨n,row,h1,rfl⟩,by simp only[Rel];exact⟨cs.toList,by simp,by simpa[Value.cells]using h2⟩⟩
theorem NJ:∀{ts:List TypeId} {vs:List Value} {ds:List (DataW H)} {p:List MemPlace},ts.all (sn Tryz.prog)=true->(∀(j:Nat) t v,ts[j]? =some t->vs[j]? =some v->Value.okWide Tryz.prog W .any base t v)->
  DataW.TrodAll enc Tryz.prog W 0 (λ_=>true) true ts vs ds p->Rows.uptoBulkAll ds<=B->∃xs,tP Tryz.prog B ts xs/\aJ W lK xs vs
 |[],vs,ds,p,_,_,h,_=>by
  obtain⟨rfl,rfl,rfl⟩:=trodAll_nil h;exact⟨[],by simp[tP],by simp[aJ]⟩
 |t::ts,vs,ds,p,ht,hv,h,hB=>by
  obtain⟨v,vs',d,ds',p1,q1,rfl,rfl,rfl,h1,h2⟩:=trodAll_cons h;simp only[kx,bG]at ht;simp only[Rows.uptoBulkAll]at hB;obtain⟨x,hx,hr⟩:=XZ ht.1 (hv 0 t v rfl rfl) h1 (B:=B) (by omega);obtain⟨xs,hxs,hrs⟩:=NJ ht.2 (λj t v h1 h2=>hv (j+1) t v (by simpa using h1) (by simpa using h2)) h2 (by omega);exact⟨x::xs,⟨x,xs,rfl,hx,hxs⟩,by simp only[aJ];exact⟨v,vs',rfl,hr,hrs⟩⟩
theorem Uo (h:Ext [] W [] W') {p:MemPlace} (hp:p.block<W.heap.size):W.sameAt W' p:=by
 cases p with
 |cell b o=>exact World.cell?_of_block (h.block b hp (by simp[ids]))
 |map b=>exact h.block b hp (by simp[ids])
theorem Kn (hx:Ext [] W [] W'):∀{ts:List TypeId} {vs:List Value} {ds:List (DataW H)} {p:List MemPlace},ts.all (sn Tryz.prog)=true->(∀q∈p,q.block<W.heap.size)->
  DataW.TrodAll enc Tryz.prog W 0 (λ_=>true) true ts vs ds p->DataW.TrodAll enc Tryz.prog W' 0 (λb=>decide (b<W.heap.size)) true ts vs ds p
 |[],vs,ds,p,_,_,h=>by
  obtain⟨rfl,rfl,rfl⟩:=trodAll_nil h;exact rfl
 |t::ts,vs,ds,p,ht,hlt,h=>by
  obtain⟨v,vs',d,ds',p1,q1,rfl,rfl,rfl,h1,h2⟩:=trodAll_cons h;simp only[kx,bG,sn,lT]at ht;obtain⟨⟨⟨h3,h4⟩,_⟩,h5⟩:=ht;refine⟨p1,q1,WideElems.Trod_stays Va h4 h3 h1 (λq hq=>Uo hx (hlt q (qv _ hq))) (λq hq=>by simpa using hlt q (qv _ hq)),?_,rfl⟩;exact Kn hx (by simpa[sn]using h5) (λq hq=>hlt q (acj _ hq)) h2
theorem Ts {fid:FuncId} {fn:Func} {s:ChangeSpec} {tb:TypeId} (hvars:s.vars=[]) (hfn:∀ds:List (DataW H),ds.length=fn.params.toList.length->s.fn H (ds++[])={results:=[.lit (.bool true)],args:=ds})
  (hres:fn.resultTypes.toList=[tb]) (hsz:fn.resultTypes.size=1) (hb:Tryz.prog.underlying tb=some .bool) (hts:fn.params.toList.all (sn Tryz.prog)=true) (hlaw:∀xs,tP Tryz.prog B fn.params.toList xs->Bw.Pure env.toCx fid xs (.ret (Pa true)))
  {args:Array Value} {ds gs:List (DataW H)} {before:List MemPlace} (hval:∀(j:Nat) t v,fn.params[j]? =some t->args[j]? =some v->Value.okWide Tryz.prog W .any base t v)
  (hW:DataW.Whole enc Tryz.prog fn.params.toList s.vars false W args.toList ds gs before) (hG:vi env.toCx.G W lK) (hB:Rows.uptoBulkAll (ds++gs)<=B):
  Calls Tryz.prog fid args W λe W'=>∃v,e= .returned v/\s.post enc Tryz.prog fn false true false false W args v W':=by
 have hW':=hW;have hlt:=hW.lt;obtain⟨p,q,hA,hV,hpq,_,_⟩:=hW;rw[hvars]at hV;obtain⟨rfl,rfl⟩:=trodVars_none hV;rw[jd]at hB hpq;subst hpq;have hlen:ds.length=fn.params.toList.length:=by
  have key:∀{ts:List TypeId} {vs:List Value} {ds:List (DataW H)} {p:List MemPlace},DataW.TrodAll enc Tryz.prog W 0 (λ_=>true) true ts vs ds p->ds.length=ts.length:=by
   intro ts
   induction ts with
   |nil=>intro vs ds p h;obtain⟨rfl,rfl,rfl⟩:=trodAll_nil h;rfl
   |cons t ts ih=>
    intro vs ds p h;obtain⟨v,vs',d,ds',p1,q1,rfl,rfl,rfl,h1,h2⟩:=trodAll_cons h;simp[ih h2]
  exact key hA
 obtain⟨xs,h1,h2⟩:=NJ (B:=B) (base:=base) hts (λj t v h1 h2=>hval j t v (by simpa using h1) (by simpa using h2)) hA hB;have hAA:Al (λ_=>False) []=lK:=funext λb=>by simp[Al,ids,lK]
 have:=(hlaw xs h1).2 (λ_=>False) W args.toList ⟨by simp,by simp[ids],by simp[ids],by simp,by rw[hAA];exact hG⟩ (by rw[hAA];exact h2);simp only[Array.toArray_toList]at this;refine this.mono ?_;rintro e W' ⟨r,L',⟨rfl,rfl⟩,⟨v,rfl,hv⟩,_,hx⟩;simp only[Rel]at hv;subst hv;refine⟨_,rfl,ds,[],before,[],before,[],hW',?_,?_,?_,TU hx _,λh=>by cases h⟩
 ·rw[hfn ds hlen,hres];have:(Value.bool true).resultList fn.resultTypes.size=[.bool true]:=by rw[hsz];rfl
  rw[this];exact trodAll_cons_mk (shut_bool hb _) trodAll_mk0
 ·rw[hfn ds hlen];exact Kn hx hts (λq hq=>hlt q hq) hA
 ·rw[hfn ds hlen,hvars];exact rfl
