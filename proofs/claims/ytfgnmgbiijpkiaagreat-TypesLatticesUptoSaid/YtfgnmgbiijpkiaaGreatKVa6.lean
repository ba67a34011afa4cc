/- Trees of expressions that are well formed; types.bare answers, and what it answers is one. -/
import Derived.Test.YtfgnmgbiijpkiaaGreatKSn
set_option linter.all false
section
namespace Go.Proofs.YtfgnmgbiijpkiaaGreat
open Go Go.Bw
def dC:List UInt8:=[109,97,112]
def dg:List UInt8:=[114,101,99]
def fh (n:ab):List ab:=bif n.Kind==51&&(n.Text==dC||n.Text==dg)then n.Kids.flatMap (·.Kids)else n.Kids
def dJ (n:ab):Prop:=
 (n.Kind=30/\n.Kids.length=3)\/((n.Kind=33\/n.Kind=42)/\n.Kids.length=1)\/
 ((31<=n.Kind/\n.Kind<=43/\n.Kind≠33/\n.Kind≠42)/\n.Kids.length=2)\/(44<=n.Kind/\n.Kind<=50)\/
 (n.Kind=51/\(n.Text=dC->∀e∈n.Kids,e.Kids.length=2)/\(n.Text=dg->∀e∈n.Kids,e.Kids.length=1))
inductive WN (B:Nat):ab->Prop
 |mk {n:ab}:dJ n->n.Kids.length<=B->(n.Kind=44-> -1000000000000000<=n.N/\n.N<=1000000000000000)->(n.Kind=47->NV n.Text)->(∀k∈fh n,WN B k)->WN B n
theorem q0 {B:Nat} {n:ab} (h:44<=n.Kind/\n.Kind<=50) (hk:n.Kids=[]) (h1:n.Kind=44-> -1000000000000000<=n.N/\n.N<=1000000000000000) (h2:n.Kind=47->NV n.Text):WN B n:=by
 refine .mk (.inr (.inr (.inr (.inl h)))) (by rw[hk];simp) h1 h2 λk hm=>?_;have:(n.Kind==51)=false:=by simp;omega
 rw[fh,this,hk]at hm;simp at hm
variable {B:Nat} (hB:B<=1048576)
include hB
end Go.Proofs.YtfgnmgbiijpkiaaGreat
end

section
namespace Go.Proofs.YtfgnmgbiijpkiaaGreat
open Go Go.Bw
def dW (z:AV):Prop:=∃a b:Int,a≠0/\z= .bB 28 (.agg [.v (.int .i64 a),.v (.int .i64 b)])
def bq (B:Nat) (t:az):Prop:=(1<=t.aP/\t.aP<=4/\t.aj=l0)\/(t.aP=0/\dw t.aj/\t.aj.ok B)
def bY (B:Nat) (t:az):Prop:=t=aL 0\/bq B t
theorem Qk (B:Nat):l0.ok B:=by rw[ah.c8];simp[l0,ah.fL,Lit.wf];decide
theorem pw {B:Nat} {l p:ah} (h:l.ok B) (hp:p∈l.ax):p.ok B:=by
 rw[ah.c8]at h;exact ah.iS h.2.2.2.2.1.2 hp
theorem bq.ok {B:Nat} {t:az} (h:bq B t):t.aj.ok B:=by
 rcases h with⟨_,_,h⟩|⟨_,_,h⟩
 ·rw[h];exact Qk B
 ·exact h
theorem bq.sort {B:Nat} {n:Int} (h:1<=n/\n<=4):bq B (aL n):= .inl ⟨h.1,h.2,rfl⟩
theorem bq.of {B:Nat} {l:ah} (h:dw l) (ho:l.ok B):bq B (b7 l):= .inr ⟨rfl,h,ho⟩
theorem bq.dy {B:Nat} {t:az} (h:bq B t) (hs:t.aP=0):dw t.aj/\t.aj.ok B:=by
 rcases h with⟨h1,_⟩|⟨_,h⟩
 ·omega
 ·exact h
theorem bY.ok {B:Nat} {t:az} (h:bY B t):t.aj.ok B:=by
 rcases h with rfl|h
 ·exact Qk B
 ·exact h.ok
theorem bY.some {B:Nat} {t:az} (h:bY B t) (hn:isNone t=false):bq B t:=by
 rcases h with rfl|h
 ·cases hn
 ·exact h
theorem vB:dw eF:=⟨.mk (.inl ⟨.inr rfl,rfl,rfl,rfl,rfl,rfl⟩) (by simp[mm,eF]) ⟨by simp[eF],by simp[eF,rising],by simp[eF],by simp[eF]⟩ (by simp[eF]) (by simp[eF]) (by simp[eF]),by simp[te,eF,eX],by simp[qL,eF,l9]⟩
theorem vR (B:Nat):eF.ok B:=by rw[ah.c8];simp[eF,ah.fL,Lit.wf];decide
theorem nb {n:ab} (h:n.Kind≠51):fh n=n.Kids:=by
 have:(n.Kind==51)=false:=by simpa using h
 rw[fh,this];rfl
structure CE (B:Nat) (c:bO):Prop where
 dy:dw c.l
 ok:c.l.ok B
 par:∀p∈c.params,1<=p.aP/\p.aP<=4
 num:c.params.length<=B
theorem fV {t:az}:Fit (aL 0) t:=λh=>by cases h
section
variable {B:Nat} (hB:B<=1048576) {c:bO} (hc:CE B c)
theorem iT {t:az} (h:bq B t) (hs:t.aP=0) {p:ah} (hp:p∈t.aj.ax):bq B (b7 p):= .of ((h.dy hs).1.part hp) (pw (h.dy hs).2 hp)
