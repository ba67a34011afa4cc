/- The kit's contract of a sort of structs by a comparison, as a call that writes a row of one's own; comparisons in three ways. -/
import Derived.Test.YtfgnmgbiijpkiaaGreatKE7
import Derived.Shelf.SlSortCmp.WholeK
import Derived.Lib.SliceRun
set_option linter.all false
section
noncomputable section
namespace Go.Bw
open Go Go.Proofs
structure jd {D:Type} (c:D->D->Int):Prop where
 kN:∀a b,c a b=0↔a=b
 ov:∀a b,c b a= -c a b
 trans:∀a b d,c a b<0->c b d<0->c a d<0
def BT (x y:Int):Int:=if x=0 then y else x
theorem jd.refl {D:Type} {c:D->D->Int} (h:jd c) (a:D):c a a=0:=(h.kN a a).2 rfl
theorem jd.lex {D β:Type} {c:D->D->Int} {d:β->β->Int} (hc:jd c) (hd:jd d):jd λ(p q:D×β)=>BT (c p.1 q.1) (d p.2 q.2) where
 kN:=λ⟨a,b⟩ ⟨a',b'⟩=>by
  have h1:=hc.kN a a';have h2:=hd.kN b b';simp only[BT,cu];split
  ·rw[h2];simp[h1.1 (by assumption)]
  ·constructor
   ·intro e;contradiction
   ·rintro ⟨rfl,_⟩;exact absurd (hc.refl a) (by assumption)
 ov:=λ⟨a,b⟩ ⟨a',b'⟩=>by
  have h1:=hc.ov a a';have h2:=hd.ov b b';simp only[BT];split<;>split<;>omega
 trans:=λ⟨a,b⟩ ⟨a',b'⟩ ⟨a2,b2⟩=>by
  simp only[BT];by_cases h1:c a a'=0
  ·rw[dj h1];have:=(hc.kN a a').1 h1;subst this;by_cases h2:c a a2=0
   ·simp only[dj h2];exact hd.trans b b' b2
   ·simp only[cM h2];exactλ_ h=>h
  ·rw[cM h1];by_cases h2:c a' a2=0
   ·have:=(hc.kN a' a2).1 h2;subst this;simp only[cM h1];exactλh _=>h
   ·rw[cM h2];intro g1 g2;have g3:=hc.trans a a' a2 g1 g2;rw[cM (by omega)];exact g3
theorem jd.map {D β:Type} {c:D->D->Int} (hc:jd c) (g:β->D) (hg:∀x y,g x=g y->x=y):jd λx y=>c (g x) (g y) where
 kN x y:=(hc.kN _ _).trans ⟨hg x y,λe=>by rw[e]⟩
 ov x y:=hc.ov _ _
 trans x y z:=hc.trans _ _ _
def rD {D:Type} (c:D->D->Int) (x:D):List D->List D
 |[]=>[x]
 |y::l=>if c x y<=0 then x::y::l else y::rD c x l
def lh {D:Type} (c:D->D->Int):List D->List D
 |[]=>[]
 |x::l=>rD c x (lh c l)
section
variable {D:Type} {c:D->D->Int}
theorem CS (x:D):∀l:List D,(rD c x l).Perm (x::l)
 |[]=> .refl _
 |y::l=>by
  rw[rD];split
  ·exact .refl _
  ·exact((CS x l).cons y).trans (.swap x y l)
theorem yS:∀l:List D,(lh c l).Perm l
 |[]=> .refl _
 |x::l=>(CS x _).trans ((yS l).cons x)
theorem jd.le_trans (hc:jd c) {a b d:D} (h:c a b<=0) (g:c b d<=0):c a d<=0:=by
 by_cases h1:c a b=0
 ·rw[(hc.kN a b).1 h1];exact g
 by_cases h2:c b d=0
 ·rw[<-(hc.kN b d).1 h2];exact h
 have:=hc.trans a b d (by omega) (by omega);omega
theorem J' (hc:jd c) (x:D):∀{l:List D},l.Pairwise (λa b=>c a b<=0)->(rD c x l).Pairwise λa b=>c a b<=0
 |[],_=>by simp[rD]
 |y::l,h=>by
  rw[xF]at h;rw[rD];split
  ·rename_i hxy;rw[xF,xF];refine⟨λz hz=>?_,h⟩;rcases cm.1 hz with rfl|hz
   ·exact hxy
   ·exact hc.le_trans hxy (h.1 z hz)
  ·rename_i hxy;rw[xF];refine⟨λz hz=>?_,J' hc x h.2⟩;rcases cm.1 ((CS x l).mem_iff.1 hz)with rfl|hz
   ·have:=hc.ov z y;omega
   ·exact h.1 z hz
theorem Cw (hc:jd c):∀l:List D,(lh c l).Pairwise λa b=>c a b<=0
 |[]=>by simp[lh]
 |x::l=>J' hc x (Cw hc l)
theorem LH (l:List D):(lh c l).length=l.length:=(yS l).length_eq
theorem JN (hc:jd c):∀{a b:List D},a.Perm b->a.Pairwise (λa b=>c a b<=0)->b.Pairwise (λa b=>c a b<=0)->a=b
 |[],b,h,_,_=>(List.nil_perm.1 h).symm
 |x::a,[],h,_,_=>absurd (List.perm_nil.1 h) (by simp)
 |x::a,y::b,h,ha,hb=>by
  rw[xF]at ha hb;have e:x=y:=by
   rcases cm.1 (h.mem_iff.1 (B8 ..))with e|hx
   ·exact e
   ·rcases cm.1 (h.mem_iff.2 (B8 ..))with e|hy
    ·exact e.symm
    ·have h1:=hb.1 x hx;have h2:=ha.1 y hy;have h3:=hc.ov x y;exact(hc.kN x y).1 (by omega)
  subst e;rw[JN hc (List.perm_cons x|>.1 h) ha.2 hb.2]
end
section
variable {T:Type} {cs:T->List AV} {k:Nat}
end
section
variable {E:Env} {g gc:FuncId} {T:Type} {cs:T->List AV} {k:Nat} {c:T->T->Int}
end
end Go.Bw
end

section
noncomputable section
namespace Go.Bw
open Go
section
variable {N:Nat} {Z:Sg} {O:List aq} {E:Env}
end
section
variable {E:Env} {N K:Nat} {Q:DQ} {Z:TS} {O:Hp} {all rest:List Oper} {k:List It} {o:Oper}
theorem SS.drop {L:aH} {s:Sl} (t:Nat) (x:AV) (hs:SS L Z s):SS L (Tr.put 24 Z t none) (λu=>if u=t then some x else s u):=by
 intro u y hy;rcases Tr.ep 24 Z t u _ y hy with⟨rfl,e⟩|⟨hne,e⟩
 ·cases e
 ·obtain⟨z,h1,h2⟩:=hs _ _ e;exact⟨z,by simp only;rw[cM (λh=>hne (by first|exact h|exact h.symm))];exact h1,h2⟩
