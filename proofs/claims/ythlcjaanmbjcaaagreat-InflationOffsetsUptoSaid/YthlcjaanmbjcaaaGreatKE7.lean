/- More steps: a slot's length in other words; copy over a row of one's own; maps of one's own with keys that are strings. -/
import Derived.Test.YthlcjaanmbjcaaaGreatKE3
import Derived.MapKept
import Derived.Sort.Grow
import Derived.Sort.EncStr
set_option linter.all false
section
noncomputable section
namespace Go.Bw
open Go
section
variable {N:Nat} {Z:Sg} {O:List ag} {E:Env}
end
section
variable {E:Env} {N K:Nat} {Q:DQ} {Z:TS} {O:Hp} {all rest:List Oper} {k:List It} {o:Oper}
end
section
variable {E:Env} {N K:Nat} {Q:DQ} {Z:TS} {O:Hp} {all rest:List Oper} {k:List It} {o:Oper}
end
section
variable {N:Nat} {Z:Sg} {O:List ag} {E:Env}
theorem Cj {o:Oper} {t:TypeId} (ho:o.op= .makeMap t none):mw E.toCx N o Z O (λx O'=>∃r,x= .om O.length r/\O'=O++[.map r []]):=λF a w hs=>by
 have hext:=iB w (.map #[] 0) O (.map w.heap.size []) (by simp[ag.ids]);refine⟨.map (some w.heap.size),w.alloc (.map #[] 0),_,_,⟨w.heap.size,rfl,rfl⟩,by simp[execOp,ho,Instr.makeMap,Result.andThen],by simp only[Rel],?_,hext⟩;refine hs.hp.push (by simp) (λb hb=>gb w _ b hb) (by simp[ag.ids]) (by simp[ag.ids]) ?_;exact⟨[],0,gE w _,by simp[dJ],by simp,by simp⟩
end
section
variable {E:Env} {N K:Nat} {Q:DQ} {Z:TS} {O:Hp} {all rest:List Oper} {k:List It} {o:Oper}
theorem ai.makeMap {d n:Nat} {t:TypeId} {ty:TypeId} {pos:String} {after:Array Edge} (hn:O.n=n) (hd:Nat.blt d N=true) (h:ai E N K (.ops all rest::k) Q (Tr.put 24 Z d (some (.om n))) ⟨Tr.put 24 O.e n (some (.set [])),n+1⟩):
  ai E N K (.ops all (⟨some d,.makeMap t none,ty,pos,after,none⟩::rest)::k) Q Z O:=by
 subst hn;unfold ai at h⊢;simp only[dq]at h⊢;intro L ZB ηB hs hh;refine aQ.kj rfl hd (Cj rfl) ?_;rintro x O' ⟨b,rfl,rfl⟩;have hdom:=hh.eC O.n (bq _);have hl:L.le (L.dK O.n b):=au.pD hdom.1;have hbn:(L.dK O.n b).b O.n=some b:=by simp[au.dK]
 refine DO.up hl (h _ _ _ ((hs.mono hl).put (some d) (by simp only[aw];exact⟨b,_,hbn,rfl⟩)) ?_);exact hh.push hl (λ_ _=>rfl) (λi hi=>by simp[au.dK,hi]) ⟨b,hbn,rfl⟩
end
end Go.Bw
end

section
noncomputable section
namespace Go.Bw
open Go Go.Proofs
section
variable {E:Env} {g:FuncId} {f:List (List UInt8)->List (List UInt8)}
