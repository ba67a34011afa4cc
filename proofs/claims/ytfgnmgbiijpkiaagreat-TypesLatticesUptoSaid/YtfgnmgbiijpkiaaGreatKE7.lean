/- More steps: a slot's length in other words; copy over a row of one's own; maps of one's own with keys that are strings. -/
import Derived.Test.YtfgnmgbiijpkiaaGreatKE3
import Derived.MapKept
import Derived.Sort.Grow
import Derived.Sort.EncStr
set_option linter.all false
section
noncomputable section
namespace Go.Bw
open Go
section
variable {N:Nat} {Z:Sg} {O:List aq} {E:Env}
end
section
variable {E:Env} {N K:Nat} {Q:DQ} {Z:TS} {O:Hp} {all rest:List Oper} {k:List It} {o:Oper}
end
section
variable {E:Env} {N K:Nat} {Q:DQ} {Z:TS} {O:Hp} {all rest:List Oper} {k:List It} {o:Oper}
end
section
variable {N:Nat} {Z:Sg} {O:List aq} {E:Env}
theorem Va {o:Oper} {t:TypeId} (ho:o.op= .makeMap t none):rT E.toCx N o Z O (λx O'=>∃r,x= .om O.length r/\O'=O++[.map r []]):=λF a w hs=>by
 have hext:=lH w (.map #[] 0) O (.map w.heap.size []) (by simp[aq.ids]);refine⟨.map (some w.heap.size),w.alloc (.map #[] 0),_,_,⟨w.heap.size,rfl,rfl⟩,by simp[execOp,ho,Instr.makeMap,Result.andThen],by simp only[Rel],?_,hext⟩;refine hs.hp.push (by simp) (λb hb=>jw w _ b hb) (by simp[aq.ids]) (by simp[aq.ids]) ?_;exact⟨[],0,kh w _,by simp[kD],by simp,by simp⟩
end
section
variable {E:Env} {N K:Nat} {Q:DQ} {Z:TS} {O:Hp} {all rest:List Oper} {k:List It} {o:Oper}
theorem ak.makeMap {d n:Nat} {t:TypeId} {ty:TypeId} {pos:String} {after:Array Edge} (hn:O.n=n) (hd:Nat.blt d N=true) (h:ak E N K (.ops all rest::k) Q (Tr.put 24 Z d (some (.om n))) ⟨Tr.put 24 O.e n (some (.set [])),n+1⟩):
  ak E N K (.ops all (⟨some d,.makeMap t none,ty,pos,after,none⟩::rest)::k) Q Z O:=by
 subst hn;unfold ak at h⊢;simp only[dq]at h⊢;intro L ZB OB hs hh;refine bo.p9 rfl hd (Va rfl) ?_;rintro x O' ⟨b,rfl,rfl⟩;have hdom:=hh.fJ O.n (bQ _);have hl:L.le (L.fI O.n b):=aH.Aj hdom.1;have hbn:(L.fI O.n b).b O.n=some b:=by simp[aH.fI]
 refine DO.up hl (h _ _ _ ((hs.mono hl).put (some d) (by simp only[aI];exact⟨b,_,hbn,rfl⟩)) ?_);exact hh.push hl (λ_ _=>rfl) (λi hi=>by simp[aH.fI,hi]) ⟨b,hbn,rfl⟩
end
end Go.Bw
end

section
noncomputable section
namespace Go.Bw
open Go Go.Proofs
section
variable {E:Env} {g:FuncId} {f:List (List UInt8)->List (List UInt8)}
theorem J7 {w:World} {A:Nat->Prop}:∀{l:List (List UInt8)} {vs:List Value},bu w A 1 (aN l) vs->vs=l.map encStr
 |[],vs,h=>by simpa[aN,bu]using h
 |s::l,vs,h=>by
  simp only[aN,dP,bu,aJ,Rel]at h;obtain⟨v1,v2,rfl,_,⟨v,r,rfl,rfl,rfl⟩,h2⟩:=h;have:=J7 (l:=l) h2;subst this;rfl
theorem J8 {w:World} {A:Nat->Prop}:∀{l:List (List UInt8)},bu w A 1 (aN l) (l.map encStr)
 |[]=>by simp[aN,bu]
 |s::l=>by
  simp only[aN,dP,bu,aJ,Rel];exact⟨[encStr s],l.map encStr,rfl,rfl,⟨_,[],rfl,rfl,rfl⟩,J8 (l:=l)⟩
