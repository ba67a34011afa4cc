/- names.Of: sorted, each once: by the kit's contracts of the sort and of Compact, and by the printed one of Clone. -/
import Derived.WalkKit
import Derived.Shelf.Sort.Plain
import Derived.Shelf.Slices.CompactS
import Derived.Shelf.Slices.In.SortNone
import Derived.Sort.OwnSorted
import Derived.Lib.OwnBridge
import Derived.Test.YtmbalfjhlngncaaGreatKSo
import Derived.Test.YtmbalfjhlngncaaGreatKGA1
set_option linter.all false
namespace Go.Proofs
open Go.Shelf
def YO:Go.Shelf.Ren:=⟨λ|194=>260|n=>n,λ|31=>22|9=>9|3=>3|4=>4|0=>0|n=>n,λ|n=>n⟩
theorem NL:Go.Proofs.Lays.n194 Tryz.prog YO:={
 mixed:=by kernel_rfl
 f194:=Tryz.func260.trans (congrArg some (by kernel_rfl))
 t0:=Tryz.underlying0
 a0:=Tryz.isAgg0
 z0:=Tryz.sizeOf0
 v0:=Tryz.zeroValue0
 t3:=Tryz.underlying3
 a3:=Tryz.isAgg3
 z3:=Tryz.sizeOf3
 v3:=Tryz.zeroValue3
 t4:=Tryz.underlying4
 a4:=Tryz.isAgg4
 z4:=Tryz.sizeOf4
 v4:=Tryz.zeroValue4
 t9:=Tryz.underlying9
 a9:=Tryz.isAgg9
 z9:=Tryz.sizeOf9
 v9:=Tryz.zeroValue9
 t31:=Tryz.underlying22
 a31:=Tryz.isAgg22
 z31:=Tryz.sizeOf22
 v31:=Tryz.zeroValue22}
end Go.Proofs
namespace Go.Proofs.YtmbalfjhlngncaaGreat
open Go.RowKit Go.Shelf Go.Sort
def mf (base:Nat) (w w':World):Prop:=Below base w w'/\w.drawn<=w'.drawn
theorem mf.trans {b:Nat} {w w1 w2:World} (h:mf b w w1) (g:mf b w1 w2):mf b w w2:=⟨h.1.trans g.1,iM h.2 g.2⟩
def Has (base:Nat) (w:World) (v:Value) (ss:List (List UInt8)):Prop:=w.ownsRow base 9 1 v ss.length (ss.map encStr)
theorem acx {base:Nat} {a:Option Addr} {c:Nat} {ss:List (List UInt8)} {w:World} (h:Has base w (.slice a ss.length c) ss) (hl:ss.length<4611686018427387904):
  Calls Tryz.prog 210 #[.slice a ss.length c] w λe w'=>e= .returned (.tuple #[])/\Has base w' (.slice a ss.length c) (Bw.dw dU ss)/\mf base w w':=by
 have hsl:(Bw.dw dU ss).length=ss.length:=Bw.mv ss;rcases h.2 with⟨h0,h1⟩|⟨g,cap,cur,hv,hbase,hb,h1,h2,h3,h4⟩
 ·have e0:ss=[]:=gT h1;subst e0;exact(Any.slices_Sort_string_none C3 a c w).mono λe w' ⟨he,hw⟩=>by subst he hw;exact⟨rfl,h,Below.refl _ _,bS _⟩
 ·simp only[Value.slice.injEq]at hv;obtain⟨rfl,_,rfl⟩:=hv;have hg:g<w.heap.size:=(fS.1 hb).1;have hH:Holds encStr w g 0 ss.toArray:=λj hj=>by
   have hj':j<ss.length:=by simpa using hj
   have hc:cur[j]? =some (encStr ss[j]):=by
    have:=congrArg (λt=>t[j]?) h4;simp only[vW,eX,hj',if_true,kf,BO]at this;rw[this];simp[hj']
   constructor
   ·simp[World.cell?,hb,hc,hj']
   ·simp[World.frozen?,hb]
  have hms:=M5 ss;refine(Any.slices_Sort_string C3 g 0 c ss w hH hg hl).mono λe w' ⟨he,nn,os,hw⟩=>?_;subst he;rw[hms]at hw;subst hw;have hs:=ownsRow_sorted (n:=nn) (os:=os) (ts:=Bw.dw dU ss) hsl hbase hb h1 h2 h3;refine⟨rfl,?_,?_,MM _ _⟩
  ·unfold Has;rw[hsl];exact hs
  ·exact(Below.refl base w).grown (grownBy_sorted _) (by omega) (λj hj=>by cases hj;exact hbase)
theorem ZD {base:Nat} {a:Option Addr} {c:Nat} {ss:List (List UInt8)} {w:World} (h:Has base w (.slice a ss.length c) ss) (hl:ss.length<4611686018427387904):
  Calls Tryz.prog 260 #[.slice a ss.length c] w λe w'=>∃c',e= .returned (.slice a (Lib.compact ss).length c')/\Has base w' (.slice a (Lib.compact ss).length c') (Lib.compact ss)/\mf base w w':=by
 have hle:=Lib.compact_length_le ss;rcases h.2 with⟨h0,h1⟩|⟨g,cap,cur,hv,hbase,hb,h1,h2,h3,h4⟩
 ·have e0:ss=[]:=gT h1;subst e0;simp only[Value.slice.injEq]at h0;obtain⟨rfl,_,rfl⟩:=h0;exact(Any.slices_Compact_string_empty NL none 0 w).mono λe w' ⟨he,hw⟩=>by
   subst he hw;exact⟨0,rfl,h,Below.refl _ _,bS _⟩
 ·simp only[Value.slice.injEq]at hv;obtain⟨rfl,_,rfl⟩:=hv;have hg:g<w.heap.size:=(fS.1 hb).1;have hH:Holds encStr w g 0 ss.toArray:=λj hj=>by
   have hj':j<ss.length:=by simpa using hj
   have hc:cur[j]? =some (encStr ss[j]):=by
    have:=congrArg (λt=>t[j]?) h4;simp only[vW,eX,hj',if_true,kf,BO]at this;rw[this];simp[hj']
   constructor
   ·simp[World.cell?,hb,hc,hj']
   ·simp[World.frozen?,hb]
  refine(Any.slices_Compact_string NL g 0 c ss w hH (by omega) h1).mono λe w' ⟨he,q,hw⟩=>?_;subst he hw;have hc:=Lib.ownsRow_putRow (q:=q) (k:=(Lib.compact ss).length) (ys:=Lib.compact ss++List.replicate (ss.length-(Lib.compact ss).length) []) h (by simp;omega) (by omega);rw[MS]at hc;exact⟨_,rfl,hc,Lib.below_putRow (Below.refl base w) hbase,MM _ _⟩
def eu (l:List (List UInt8)):List (List UInt8):=Lib.compact (Bw.dw dU l)
set_option maxHeartbeats 2000000 in
set_option maxRecDepth 100000 in
theorem adQ (arg : Value) (ss : List (List UInt8)) (w : World) (hl : ss.length < 4611686018427387904)
    (hclone : Calls Tryz.prog 51 #[arg] w fun e w' => ∃ a c, e = .returned (.slice a ss.length c) ∧ Has w.heap.size w' (.slice a ss.length c) ss ∧ mf w.heap.size w w') :
    Calls Tryz.prog 204 #[arg] w fun e w' => ∃ a c, e = .returned (.slice a (eu ss).length c) ∧ Has w.heap.size w' (.slice a (eu ss).length c) (eu ss) ∧ mf w.heap.size w w' := by
  have hsl : (Bw.dw dU ss).length = ss.length := Bw.mv ss
  go_enter Tryz.func204, Tryz.ntmps204
  go_wp2_with (first
    | (go_at_call 51; refine hclone.mono ?_; rintro e w1 ⟨a, c, rfl, hown, hg⟩
       have hsort := acx hown hl
       have X : Aside (mf w.heap.size w w1) := hg
       clear hown hg hclone)
    | (go_at_call 210; refine hsort.mono ?_; rintro e w2 ⟨rfl, hown2, hg2⟩
       have hcomp := ZD (ss := Bw.dw dU ss) (by rw [hsl]; exact hown2) (by omega)
       rw [hsl] at hcomp
       have Y : Aside (mf w.heap.size w1 w2) := hg2
       clear hown2 hg2 hsort)
    | (go_at_call 260; refine hcomp.mono ?_; rintro e w3 ⟨c3, rfl, hown3, hg3⟩))
  go_ret
  exact ⟨a, c3, rfl, hown3, (X.out.trans Y.out).trans hg3⟩
open Go Go.Bw in
theorem ZE {l:List (List UInt8)} (hF:jM env 51 [.sl 1 (aB l)] 9 1 (aB l)) {F:Nat->Prop} {w:World} {v:Value} (hk:bG env.toCx.G w F []) (hv:Rel w (Al F []) (.sl 1 (aB l)) v):
  Calls Tryz.prog 51 #[v] w λe w'=>∃a c,e= .returned (.slice a l.length c)/\Has w.heap.size w' (.slice a l.length c) l/\mf w.heap.size w w':=by
 have h0:=(jM.frame (O:=Hp.nil) hF (cs:=[.d (.sl 1 (aB l))]) rfl) ⟨λ_=>none,λ_ _=>none⟩ [.sl 1 (aB l)] [] (by simp only[aQ];exact⟨_,_,rfl,rfl,rfl⟩) (HS.nil _ λ_=>⟨rfl,λ_=>rfl⟩);refine(h0.2 F w [v] hk (by simp only[aH];exact⟨v,_,rfl,hv,rfl⟩)).mono ?_;rintro e' w' ⟨r',OB',⟨W',d,O1,h1,h2,h3,rfl,rfl⟩,hv,hh',hx⟩;obtain⟨u,rfl,h2⟩:=h2;obtain⟨v,rfl,hv⟩:=hv;simp only[aG]at h2;obtain⟨a,c,t',hs,rfl⟩:=h2;simp only[Rel]at hv;subst hv;have hget:(Hp.nil.push (.row 9 1 (aB l))).e.get 0=some (.row 9 1 (aB l)):=rfl;obtain⟨q,hq1,hq2⟩:=h3.en 0 _ hget;obtain⟨⟨a',c',hb,rfl⟩,_⟩:=hq2;have hs:W'.s 0 (aB l).length=some (a,c):=hs;rw[hs]at hb;cases hb;have hlen:(aB l).length=l.length:=bD;obtain⟨us,f4,f5⟩:=iP hh' hq1;have:=FX f4;subst this;rw[hlen]at f5⊢;refine⟨a,c,rfl,⟨f5.1,?_⟩,⟨hx.os,hx.tape,hx.output,hx.size,λb hb=>hx.block b hb (by simp[ids])⟩,hx.drawn⟩;rcases f5.2 with h|⟨g,cap,cur,hv,_,hr⟩
 ·exact .inl h
 ·refine .inr ⟨g,cap,cur,hv,?_,hr⟩;simp only[Value.slice.injEq]at hv;obtain⟨rfl,_,rfl⟩:=hv;refine(hx.new g (il.2 ⟨_,a7 (by rw[<-cA];exact hq1),by simp[aq.ids,Value.ownBlock]⟩)).elim (λh=>by simp[ids]at h) id
open Go Go.Bw in
theorem acy {l:List (List UInt8)} (hl:l.length<=274877906944) (hF:jM env 51 [.sl 1 (aB l)] 9 1 (aB l)):Bw.Pure env.toCx 204 [.sl 1 (aB l)] (.ret (.sl 1 (aB (eu l)))):=by
 refine⟨⟨_,Tryz.func204,by kernel_rfl,by kernel_rfl⟩,λF w vs hk hr=>?_⟩;simp only[aH]at hr;obtain⟨v,_,rfl,hv,rfl⟩:=hr;refine(adQ v l w (by omega) (ZE hF hk hv)).mono ?_;rintro e w' ⟨a,c,rfl,hown,hg,hd⟩;have hrest:bG env.G w' F []/\Bw.Ext [] w [] w':=⟨⟨by simp,by simp[ids],by simp[ids],λb hF=>lC (hk.bound b hF) hg.size,hk.fX.keep ⟨hg.size,λb hlt ha=>⟨ha,hg.block b hlt⟩⟩⟩,⟨hg.os,hg.tape,hg.output,hg.size,λb hlt _=>hg.block b hlt,λb hm=>by simp[ids]at hm,hd⟩⟩;refine⟨_,_,⟨rfl,rfl⟩,⟨_,rfl,?_⟩,hrest.1,hrest.2⟩;simp only[Rel];rcases hown.2 with⟨h0,h1⟩|⟨g',cap',cur,hv,hbase,hb,h1,h2,h3,h4⟩
 ·simp only[Value.slice.injEq]at h0;obtain⟨rfl,h0,rfl⟩:=h0;have:eu l=[]:=gT h1;exact .inl ⟨by rw[this];rfl,none,0,by rw[this];rfl⟩
 ·simp only[Value.slice.injEq]at hv;obtain⟨rfl,_,rfl⟩:=hv;have hgl:g'<w'.heap.size:=(fS.1 hb).1;refine .inr ⟨g',0,c,(eu l).map encStr,by rw[bD],⟨hgl,λhF=>absurd (hk.bound g' hF) (by omega),by simp[ids]⟩,by rw[bD];exact h1,h2,FY,λj u hu=>?_⟩;have h5:cur.toList.take (eu l).length=(eu l).map encStr:=by simpa using h4
  rw[<-h5]at hu;have hj:cur[j]? =some u:=by
   rw[eX]at hu;split at hu
   ·simpa using hu
   ·cases hu
  simp[World.cell?,hb,hj]
open Go Go.Bw
abbrev KU:=List (List UInt8)->Option (List (List UInt8))
def va:KU:=λa0=>bif decide (a0.length<=274877906944)then some (eu a0)else none
def U7 (p:KU):Prop:=∀a0 r,p a0=some r->Bw.Pure env.toCx 204 [.sl 1 (aB a0)] (.ret (.sl 1 (aB r)))
theorem rD:U7 va:=by
 intro a0 r h;rw[va]at h;cases hd:decide (a0.length<=274877906944)with
 |false=>rw[hd]at h;cases h
 |true=>
  rw[hd,aD]at h;cases h;have hl:=ig hd;refine acy hl (ahx _ _ ?_);rw[UL,uY];have:decide ((([]:List (List UInt8))++a0).length<=274877906944)=true:=by simpa using hd
  rw[this];rfl
theorem adG (a0):va a0=bif decide (a0.length<=274877906944)then some (eu a0)else none:=rfl
