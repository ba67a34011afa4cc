/- More steps: a slot's length in other words; copy over a row of one's own; maps of one's own with keys that are strings. -/
import Derived.Test.YtfgnmgbiijpkiaaGreatKE3
import Derived.MapKept
import Derived.Sort.Grow
import Derived.Sort.EncStr
set_option linter.all false
section
noncomputable section
namespace Go.Bw
open Go
section
variable {N:Nat} {Z:Sg} {O:List ah} {E:Env}
end
section
variable {E:Env} {N K:Nat} {Q:DQ} {Z:TS} {O:Hp} {all rest:List Oper} {k:List It} {o:Oper}
end
section
variable {E:Env} {N K:Nat} {Q:DQ} {Z:TS} {O:Hp} {all rest:List Oper} {k:List It} {o:Oper}
end
section
variable {N:Nat} {Z:Sg} {O:List ah} {E:Env}
theorem M6 {o:Oper} {t:TypeId} (ho:o.op= .makeMap t none):oG E.toCx N o Z O (λx η'=>∃r,x= .om O.length r/\η'=O++[.map r []]):=λF a w hs=>by
 have hext:=jS w (.map #[] 0) O (.map w.heap.size []) (by simp[ah.ids]);refine⟨.map (some w.heap.size),w.alloc (.map #[] 0),_,_,⟨w.heap.size,rfl,rfl⟩,by simp[execOp,ho,Instr.makeMap,Result.andThen],by simp only[Rel],?_,hext⟩;refine hs.hp.push (by simp) (λb hb=>gY w _ b hb) (by simp[ah.ids]) (by simp[ah.ids]) ?_;exact⟨[],0,iN w _,by simp[iZ],by simp,by simp⟩
end
section
variable {E:Env} {N K:Nat} {Q:DQ} {Z:TS} {O:Hp} {all rest:List Oper} {k:List It} {o:Oper}
theorem af.makeMap {d n:Nat} {t:TypeId} {ty:TypeId} {pos:String} {after:Array Edge} (hn:O.n=n) (hd:Nat.blt d N=true) (h:af E N K (.ops all rest::k) Q (Tr.put 24 Z d (some (.om n))) ⟨Tr.put 24 O.e n (some (.set [])),n+1⟩):
  af E N K (.ops all (⟨some d,.makeMap t none,ty,pos,after,none⟩::rest)::k) Q Z O:=by
 subst hn;unfold af at h⊢;simp only[dq]at h⊢;intro L ZB ηB hs hh;refine bh.mO rfl hd (M6 rfl) ?_;rintro x η' ⟨b,rfl,rfl⟩;have hdom:=hh.eY O.n (bA _);have hl:L.le (L.eV O.n b):=aC.vm hdom.1;have hbn:(L.eV O.n b).b O.n=some b:=by simp[aC.eV]
 refine DO.up hl (h _ _ _ ((hs.mono hl).put (some d) (by simp only[aE];exact⟨b,_,hbn,rfl⟩)) ?_);exact hh.push hl (λ_ _=>rfl) (λi hi=>by simp[aC.eV,hi]) ⟨b,hbn,rfl⟩
end
end Go.Bw
end

section
noncomputable section
namespace Go.Bw
open Go Go.Proofs
section
variable {E:Env} {g:FuncId} {f:List (List UInt8)->List (List UInt8)}
