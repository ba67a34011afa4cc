/- The kit's contract of a sort of structs by a comparison, as a call that writes a row of one's own; comparisons in three ways. -/
import Derived.Test.YtfgnmgbiijpkiaaGreatKE7
import Derived.Shelf.SlSortCmp.WholeK
import Derived.Lib.SliceRun
set_option linter.all false
section
noncomputable section
namespace Go.Bw
open Go Go.Proofs
structure lK {D:Type} (c:D->D->Int):Prop where
 mN:∀a b,c a b=0↔a=b
 sZ:∀a b,c b a= -c a b
 trans:∀a b d,c a b<0->c b d<0->c a d<0
def wY (x y:Int):Int:=if x=0 then y else x
theorem lK.refl {D:Type} {c:D->D->Int} (h:lK c) (a:D):c a a=0:=(h.mN a a).2 rfl
theorem lK.lex {D β:Type} {c:D->D->Int} {d:β->β->Int} (hc:lK c) (hd:lK d):lK λ(p q:D×β)=>wY (c p.1 q.1) (d p.2 q.2) where
 mN:=λ⟨a,b⟩ ⟨a',b'⟩=>by
  have h1:=hc.mN a a';have h2:=hd.mN b b';simp only[wY,cv];split
  ·rw[h2];simp[h1.1 (by assumption)]
  ·constructor
   ·intro e;contradiction
   ·rintro ⟨rfl,_⟩;exact absurd (hc.refl a) (by assumption)
 sZ:=λ⟨a,b⟩ ⟨a',b'⟩=>by
  have h1:=hc.sZ a a';have h2:=hd.sZ b b';simp only[wY];split<;>split<;>omega
 trans:=λ⟨a,b⟩ ⟨a',b'⟩ ⟨a2,b2⟩=>by
  simp only[wY];by_cases h1:c a a'=0
  ·rw[cZ h1];have:=(hc.mN a a').1 h1;subst this;by_cases h2:c a a2=0
   ·simp only[cZ h2];exact hd.trans b b' b2
   ·simp only[cM h2];exactλ_ h=>h
  ·rw[cM h1];by_cases h2:c a' a2=0
   ·have:=(hc.mN a' a2).1 h2;subst this;simp only[cM h1];exactλh _=>h
   ·rw[cM h2];intro g1 g2;have g3:=hc.trans a a' a2 g1 g2;rw[cM (by omega)];exact g3
theorem lK.map {D β:Type} {c:D->D->Int} (hc:lK c) (g:β->D) (hg:∀x y,g x=g y->x=y):lK λx y=>c (g x) (g y) where
 mN x y:=(hc.mN _ _).trans ⟨hg x y,λe=>by rw[e]⟩
 sZ x y:=hc.sZ _ _
 trans x y z:=hc.trans _ _ _
section
variable {D:Type} {c:D->D->Int}
end
section
variable {T:Type} {cs:T->List AV} {k:Nat}
end
section
variable {E:Env} {g gc:FuncId} {T:Type} {cs:T->List AV} {k:Nat} {c:T->T->Int}
end
end Go.Bw
end

section
noncomputable section
namespace Go.Bw
open Go
section
variable {N:Nat} {Z:Sg} {O:List ah} {E:Env}
end
section
variable {E:Env} {N K:Nat} {Q:DQ} {Z:TS} {O:Hp} {all rest:List Oper} {k:List It} {o:Oper}
theorem SS.drop {L:aC} {s:Sl} (t:Nat) (x:AV) (hs:SS L Z s):SS L (Tr.put 24 Z t none) (λu=>if u=t then some x else s u):=by
 intro u y hy;rcases Tr.dU 24 Z t u _ y hy with⟨rfl,e⟩|⟨hne,e⟩
 ·cases e
 ·obtain⟨z,h1,h2⟩:=hs _ _ e;exact⟨z,by simp only;rw[cM (λh=>hne (by first|exact h|exact h.symm))];exact h1,h2⟩
