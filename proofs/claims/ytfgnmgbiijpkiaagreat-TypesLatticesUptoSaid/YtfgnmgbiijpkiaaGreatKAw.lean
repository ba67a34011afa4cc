/- The awake of the laws of this seat as a contract: it answers true. -/
import Derived.Test.YtfgnmgbiijpkiaaGreatKFaw2
import Derived.Test.YtfgnmgbiijpkiaaGreatKCt
import Derived.Test.YtfgnmgbiijpkiaaGreatKPl
import Derived.Shelf.Sort.Plain
import Derived.Shelf.Slices.In.SortNone
import Derived.Test.YtfgnmgbiijpkiaaGreatKZs
import Derived.WalkKit
import Derived.Shelf.Slices.CompactS
import Derived.Sort.OwnSorted
import Derived.Lib.OwnBridge
import Derived.Test.YtfgnmgbiijpkiaaGreatKGA6
set_option linter.all false
section
namespace Go.Proofs.YtfgnmgbiijpkiaaGreat
open Go Go.Bw
theorem Zm:Bw.Pure env.toCx 9 [] (.ret (.v (.bool true))):=Zn
abbrev T9:Type:=Option Bool
def P9:T9:=some true
def C9 (p:T9):Prop:=∀r,p=some r->Bw.Pure env.toCx 9 [] (.ret (.v (.bool r)))
theorem c9:C9 P9:=by intro r h;cases h;exact Zm
theorem aam:P9=some true:=rfl
def gK (a b:List UInt8):Int:=bif Op.bytesLess a b then-1 else bif Op.bytesLess b a then 1 else 0
theorem sI:jd gK where
 kN a b:=by
  unfold gK;rcases AG a b with rfl|h|h
  ·simp[oV]
  ·rw[h];simp;rintro rfl;rw[oV]at h;cases h
  ·rw[h,vq h];simp;rintro rfl;rw[oV]at h;cases h
 ov a b:=by
  unfold gK;rcases AG a b with rfl|h|h
  ·simp[oV]
  ·rw[h,vq h];rfl
  ·rw[h,vq h];rfl
 trans a b d:=by
  have key:∀a b,gK a b<0↔Op.bytesLess a b=true:=λa b=>by
   unfold gK;cases Op.bytesLess a b<;>cases Op.bytesLess b a<;>simp
  simp only[key];exact vx
end Go.Proofs.YtfgnmgbiijpkiaaGreat
end

section
namespace Go.Proofs
open Go.Shelf
def UW:Go.Shelf.Ren:=⟨λ|190=>101|125=>85|258=>172|128=>143|129=>144|302=>217|303=>218|304=>219|305=>220|306=>221|307=>222|308=>223|309=>224|310=>225|333=>239|329=>187|330=>188|334=>240|335=>241|336=>242|344=>248|n=>n,λ|31=>39|9=>9|3=>3|46=>139|0=>0|51=>184|53=>186|4=>4|183=>177|182=>176|131=>181|5=>5|218=>208|222=>212|228=>241|229=>154|n=>n,λ|n=>n⟩
theorem LI:Go.Proofs.Lays.n190 Tryz.prog UW:={
 mixed:=by kernel_rfl
 f125:=Tryz.func85.trans (congrArg some (by kernel_rfl))
 f128:=Tryz.func143.trans (congrArg some (by kernel_rfl))
 f129:=Tryz.func144.trans (congrArg some (by kernel_rfl))
 f190:=Tryz.func101.trans (congrArg some (by kernel_rfl))
 f258:=Tryz.func172.trans (congrArg some (by kernel_rfl))
 f302:=Tryz.func217.trans (congrArg some (by kernel_rfl))
 f303:=Tryz.func218.trans (congrArg some (by kernel_rfl))
 f304:=Tryz.func219.trans (congrArg some (by kernel_rfl))
 f305:=Tryz.func220.trans (congrArg some (by kernel_rfl))
 f306:=Tryz.func221.trans (congrArg some (by kernel_rfl))
 f307:=Tryz.func222.trans (congrArg some (by kernel_rfl))
 f308:=Tryz.func223.trans (congrArg some (by kernel_rfl))
 f309:=Tryz.func224.trans (congrArg some (by kernel_rfl))
 f310:=Tryz.func225.trans (congrArg some (by kernel_rfl))
 f329:=Tryz.func187.trans (congrArg some (by kernel_rfl))
 f330:=Tryz.func188.trans (congrArg some (by kernel_rfl))
 f333:=Tryz.func239.trans (congrArg some (by kernel_rfl))
 f334:=Tryz.func240.trans (congrArg some (by kernel_rfl))
 f335:=Tryz.func241.trans (congrArg some (by kernel_rfl))
 f336:=Tryz.func242.trans (congrArg some (by kernel_rfl))
 f344:=Tryz.func248.trans (congrArg some (by kernel_rfl))
 t0:=Tryz.underlying0
 a0:=Tryz.isAgg0
 z0:=Tryz.sizeOf0
 v0:=Tryz.zeroValue0
 t3:=Tryz.underlying3
 a3:=Tryz.isAgg3
 z3:=Tryz.sizeOf3
 v3:=Tryz.zeroValue3
 t4:=Tryz.underlying4
 a4:=Tryz.isAgg4
 z4:=Tryz.sizeOf4
 v4:=Tryz.zeroValue4
 t5:=Tryz.underlying5
 a5:=Tryz.isAgg5
 z5:=Tryz.sizeOf5
 v5:=Tryz.zeroValue5
 t9:=Tryz.underlying9
 a9:=Tryz.isAgg9
 z9:=Tryz.sizeOf9
 v9:=Tryz.zeroValue9
 t31:=Tryz.underlying39
 a31:=Tryz.isAgg39
 z31:=Tryz.sizeOf39
 v31:=Tryz.zeroValue39
 t46:=Tryz.underlying139
 a46:=Tryz.isAgg139
 z46:=Tryz.sizeOf139
 v46:=Tryz.zeroValue139
 t51:=Tryz.underlying184
 a51:=Tryz.isAgg184
 z51:=Tryz.sizeOf184
 v51:=Tryz.zeroValue184
 t53:=Tryz.underlying186
 a53:=Tryz.isAgg186
 z53:=Tryz.sizeOf186
 v53:=Tryz.zeroValue186
 t131:=Tryz.underlying181
 a131:=Tryz.isAgg181
 z131:=Tryz.sizeOf181
 v131:=Tryz.zeroValue181
 t182:=Tryz.underlying176
 a182:=Tryz.isAgg176
 z182:=Tryz.sizeOf176
 v182:=Tryz.zeroValue176
 t183:=Tryz.underlying177
 a183:=Tryz.isAgg177
 z183:=Tryz.sizeOf177
 v183:=Tryz.zeroValue177
 t218:=Tryz.underlying208
 a218:=Tryz.isAgg208
 z218:=Tryz.sizeOf208
 v218:=Tryz.zeroValue208
 t222:=Tryz.underlying212
 a222:=Tryz.isAgg212
 z222:=Tryz.sizeOf212
 v222:=Tryz.zeroValue212
 t228:=Tryz.underlying241
 a228:=Tryz.isAgg241
 z228:=Tryz.sizeOf241
 v228:=Tryz.zeroValue241
 t229:=Tryz.underlying154
 a229:=Tryz.isAgg154
 z229:=Tryz.sizeOf154
 v229:=Tryz.zeroValue154}
end Go.Proofs
namespace Go.Proofs.YtfgnmgbiijpkiaaGreat
open Go Go.Bw
theorem PM:∀a b:List UInt8,Op.bytesLess a b=true↔a<b
 |[],[]=>by simp[Op.bytesLess]
 |[],_::_=>by simp[Op.bytesLess]
 |_::_,[]=>by simp[Op.bytesLess]
 |x::a,y::b=>by rw[Ai,List.cons_lt_cons_iff,PM a b]
theorem sX (a b:List UInt8):decide (a<=b)=true↔gK a b<=0:=by
 rw[lB,<-List.not_lt,<-PM];unfold gK;rcases AG a b with rfl|h|h
 ·simp[oV]
 ·rw[h,vq h];simp
 ·rw[h,vq h];simp
theorem UK (l:List (List UInt8)):(l.mergeSort λx y=>decide (x<=y))=lh gK l:=by
 refine JN sI ((List.mergeSort_perm l _).trans (yS l).symm) ?_ (Cw sI l);refine(List.pairwise_mergeSort (le:=λx y:List UInt8=>decide (x<=y)) (λa b c h g=>?_) (λa b=>?_) l).imp λh=>(sX _ _).1 h
 ·exact(sX _ _).2 (sI.le_trans ((sX _ _).1 h) ((sX _ _).1 g))
 ·have h1:=sI.ov a b;rw[xD,sX,sX];omega
end Go.Proofs.YtfgnmgbiijpkiaaGreat
end

section
namespace Go.Proofs
open Go.Shelf
def UG:Go.Shelf.Ren:=⟨λ|194=>102|n=>n,λ|31=>39|9=>9|3=>3|4=>4|0=>0|n=>n,λ|n=>n⟩
theorem J6:Go.Proofs.Lays.n194 Tryz.prog UG:={
 mixed:=by kernel_rfl
 f194:=Tryz.func102.trans (congrArg some (by kernel_rfl))
 t0:=Tryz.underlying0
 a0:=Tryz.isAgg0
 z0:=Tryz.sizeOf0
 v0:=Tryz.zeroValue0
 t3:=Tryz.underlying3
 a3:=Tryz.isAgg3
 z3:=Tryz.sizeOf3
 v3:=Tryz.zeroValue3
 t4:=Tryz.underlying4
 a4:=Tryz.isAgg4
 z4:=Tryz.sizeOf4
 v4:=Tryz.zeroValue4
 t9:=Tryz.underlying9
 a9:=Tryz.isAgg9
 z9:=Tryz.sizeOf9
 v9:=Tryz.zeroValue9
 t31:=Tryz.underlying39
 a31:=Tryz.isAgg39
 z31:=Tryz.sizeOf39
 v31:=Tryz.zeroValue39}
end Go.Proofs
namespace Go.Proofs.YtfgnmgbiijpkiaaGreat
open Go.RowKit Go.Shelf Go.Sort
def mo (base:Nat) (w w':World):Prop:=Below base w w'/\w.drawn<=w'.drawn
theorem mo.trans {b:Nat} {w w1 w2:World} (h:mo b w w1) (g:mo b w1 w2):mo b w w2:=⟨h.1.trans g.1,qb h.2 g.2⟩
def Has (base:Nat) (w:World) (v:Value) (ss:List (List UInt8)):Prop:=w.ownsRow base 9 1 v ss.length (ss.map encStr)
theorem W6 {base:Nat} {a:Option Addr} {c:Nat} {ss:List (List UInt8)} {w:World} (h:Has base w (.slice a ss.length c) ss) (hl:ss.length<4611686018427387904):
  Calls Tryz.prog 101 #[.slice a ss.length c] w λe w'=>e= .returned (.tuple #[])/\Has base w' (.slice a ss.length c) (Bw.lh gK ss)/\mo base w w':=by
 have hsl:(Bw.lh gK ss).length=ss.length:=Bw.LH ss;rcases h.2 with⟨h0,h1⟩|⟨g,cap,cur,hv,hbase,hb,h1,h2,h3,h4⟩
 ·have e0:ss=[]:=jU h1;subst e0;exact(Any.slices_Sort_string_none LI a c w).mono λe w' ⟨he,hw⟩=>by subst he hw;exact⟨rfl,h,Below.refl _ _,bQ _⟩
 ·simp only[Value.slice.injEq]at hv;obtain⟨rfl,_,rfl⟩:=hv;have hg:g<w.heap.size:=(jo.1 hb).1;have hH:Holds encStr w g 0 ss.toArray:=λj hj=>by
   have hj':j<ss.length:=by simpa using hj
   have hc:cur[j]? =some (encStr ss[j]):=by
    have:=congrArg (λt=>t[j]?) h4;simp only[Jw,jq,hj',if_true,my,Ui]at this;rw[this];simp[hj']
   constructor
   ·simp[World.cell?,hb,hc,hj']
   ·simp[World.frozen?,hb]
  have hms:=UK ss;refine(Any.slices_Sort_string LI g 0 c ss w hH hg hl).mono λe w' ⟨he,nn,os,hw⟩=>?_;subst he;rw[hms]at hw;subst hw;have hs:=ownsRow_sorted (n:=nn) (os:=os) (ts:=Bw.lh gK ss) hsl hbase hb h1 h2 h3;refine⟨rfl,?_,?_,Nat.le_add_right _ _⟩
  ·unfold Has;rw[hsl];exact hs
  ·exact(Below.refl base w).grown (grownBy_sorted _) (by omega) (λj hj=>by cases hj;exact hbase)
theorem U9 {base:Nat} {a:Option Addr} {c:Nat} {ss:List (List UInt8)} {w:World} (h:Has base w (.slice a ss.length c) ss) (hl:ss.length<4611686018427387904):
  Calls Tryz.prog 102 #[.slice a ss.length c] w λe w'=>∃c',e= .returned (.slice a (Lib.compact ss).length c')/\Has base w' (.slice a (Lib.compact ss).length c') (Lib.compact ss)/\mo base w w':=by
 have hle:=Lib.compact_length_le ss;rcases h.2 with⟨h0,h1⟩|⟨g,cap,cur,hv,hbase,hb,h1,h2,h3,h4⟩
 ·have e0:ss=[]:=jU h1;subst e0;simp only[Value.slice.injEq]at h0;obtain⟨rfl,_,rfl⟩:=h0;exact(Any.slices_Compact_string_empty J6 none 0 w).mono λe w' ⟨he,hw⟩=>by
   subst he hw;exact⟨0,rfl,h,Below.refl _ _,bQ _⟩
 ·simp only[Value.slice.injEq]at hv;obtain⟨rfl,_,rfl⟩:=hv;have hg:g<w.heap.size:=(jo.1 hb).1;have hH:Holds encStr w g 0 ss.toArray:=λj hj=>by
   have hj':j<ss.length:=by simpa using hj
   have hc:cur[j]? =some (encStr ss[j]):=by
    have:=congrArg (λt=>t[j]?) h4;simp only[Jw,jq,hj',if_true,my,Ui]at this;rw[this];simp[hj']
   constructor
   ·simp[World.cell?,hb,hc,hj']
   ·simp[World.frozen?,hb]
  refine(Any.slices_Compact_string J6 g 0 c ss w hH (by omega) h1).mono λe w' ⟨he,q,hw⟩=>?_;subst he hw;have hc:=Lib.ownsRow_putRow (q:=q) (k:=(Lib.compact ss).length) (ys:=Lib.compact ss++List.replicate (ss.length-(Lib.compact ss).length) []) h (by simp;omega) (by omega);rw[Jx]at hc;exact⟨_,rfl,hc,Lib.below_putRow (Below.refl base w) hbase,Nat.le_add_right _ _⟩
def fR (l:List (List UInt8)):List (List UInt8):=Lib.compact (Bw.lh gK l)
set_option maxHeartbeats 2000000 in
set_option maxRecDepth 100000 in
theorem X2 (arg : Value) (ss : List (List UInt8)) (w : World) (hl : ss.length < 4611686018427387904)
    (hclone : Calls Tryz.prog 100 #[arg] w fun e w' => ∃ a c, e = .returned (.slice a ss.length c) ∧ Has w.heap.size w' (.slice a ss.length c) ss ∧ mo w.heap.size w w') :
    Calls Tryz.prog 57 #[arg] w fun e w' => ∃ a c, e = .returned (.slice a (fR ss).length c) ∧ Has w.heap.size w' (.slice a (fR ss).length c) (fR ss) ∧ mo w.heap.size w w' := by
  have hsl : (Bw.lh gK ss).length = ss.length := Bw.LH ss
  go_enter Tryz.func57, Tryz.ntmps57
  go_wp2_with (first
    | (go_at_call 100; refine hclone.mono ?_; rintro e w1 ⟨a, c, rfl, hown, hg⟩
       have hsort := W6 hown hl
       have X : Aside (mo w.heap.size w w1) := hg
       clear hown hg hclone)
    | (go_at_call 101; refine hsort.mono ?_; rintro e w2 ⟨rfl, hown2, hg2⟩
       have hcomp := U9 (ss := Bw.lh gK ss) (by rw [hsl]; exact hown2) (by omega)
       rw [hsl] at hcomp
       have Y : Aside (mo w.heap.size w1 w2) := hg2
       clear hown2 hg2 hsort)
    | (go_at_call 102; refine hcomp.mono ?_; rintro e w3 ⟨c3, rfl, hown3, hg3⟩))
  go_ret
  exact ⟨a, c3, rfl, hown3, (X.out.trans Y.out).trans hg3⟩
open Go Go.Bw in
theorem U' {l:List (List UInt8)} (hF:jE env 100 [.sl 1 (aN l)] 9 1 (aN l)) {F:Nat->Prop} {w:World} {v:Value} (hk:bD env.toCx.G w F []) (hv:Rel w (Al F []) (.sl 1 (aN l)) v):
  Calls Tryz.prog 100 #[v] w λe w'=>∃a c,e= .returned (.slice a l.length c)/\Has w.heap.size w' (.slice a l.length c) l/\mo w.heap.size w w':=by
 have h0:=(jE.frame (O:=Hp.nil) hF (cs:=[.d (.sl 1 (aN l))]) rfl) ⟨λ_=>none,λ_ _=>none⟩ [.sl 1 (aN l)] [] (by simp only[aS];exact⟨_,_,rfl,rfl,rfl⟩) (HS.nil _ λ_=>⟨rfl,λ_=>rfl⟩);refine(h0.2 F w [v] hk (by simp only[aJ];exact⟨v,_,rfl,hv,rfl⟩)).mono ?_;rintro e' w' ⟨r',OB',⟨L',d,η1,h1,h2,h3,rfl,rfl⟩,hv,hh',hx⟩;obtain⟨u,rfl,h2⟩:=h2;obtain⟨v,rfl,hv⟩:=hv;simp only[aI]at h2;obtain⟨a,c,t',hs,rfl⟩:=h2;simp only[Rel]at hv;subst hv;have hget:(Hp.nil.push (.row 9 1 (aN l))).e.get 0=some (.row 9 1 (aN l)):=rfl;obtain⟨q,hq1,hq2⟩:=h3.en 0 _ hget;obtain⟨⟨a',c',hb,rfl⟩,_⟩:=hq2;have hs:L'.s 0 (aN l).length=some (a,c):=hs;rw[hs]at hb;cases hb;have hlen:(aN l).length=l.length:=cj;obtain⟨us,f4,f5⟩:=gG hh' hq1;have:=J7 f4;subst this;rw[hlen]at f5⊢;refine⟨a,c,rfl,⟨f5.1,?_⟩,⟨hx.os,hx.tape,hx.output,hx.size,λb hb=>hx.block b hb (by simp[ids])⟩,hx.drawn.le⟩;rcases f5.2 with h|⟨g,cap,cur,hv,_,hr⟩
 ·exact .inl h
 ·refine .inr ⟨g,cap,cur,hv,?_,hr⟩;simp only[Value.slice.injEq]at hv;obtain⟨rfl,_,rfl⟩:=hv;refine(hx.new g (ef.2 ⟨_,bw (by rw[<-cq];exact hq1),by simp[aq.ids,Value.ownBlock]⟩)).elim (λh=>by simp[ids]at h) id
open Go Go.Bw in
theorem W7 {l:List (List UInt8)} (hl:l.length<=274877906944) (hF:jE env 100 [.sl 1 (aN l)] 9 1 (aN l)):Bw.Pure env.toCx 57 [.sl 1 (aN l)] (.ret (.sl 1 (aN (fR l)))):=by
 refine⟨⟨_,Tryz.func57,by kernel_rfl,by kernel_rfl⟩,λF w vs hk hr=>?_⟩;simp only[aJ]at hr;obtain⟨v,_,rfl,hv,rfl⟩:=hr;refine(X2 v l w (by omega) (U' hF hk hv)).mono ?_;rintro e w' ⟨a,c,rfl,hown,hg,hd⟩;have hrest:bD env.G w' F []/\Bw.Ext [] w [] w':=⟨⟨by simp,by simp[ids],by simp[ids],λb hF=>nM (hk.bound b hF) hg.size,hk.dZ.keep ⟨hg.size,λb hlt ha=>⟨ha,hg.block b hlt⟩⟩⟩,⟨hg.os,hg.tape,hg.output,hg.size,λb hlt _=>hg.block b hlt,λb hm=>by simp[ids]at hm,mq.of hd⟩⟩;refine⟨_,_,⟨rfl,rfl⟩,⟨_,rfl,?_⟩,hrest.1,hrest.2⟩;simp only[Rel];rcases hown.2 with⟨h0,h1⟩|⟨g',cap',cur,hv,hbase,hb,h1,h2,h3,h4⟩
 ·simp only[Value.slice.injEq]at h0;obtain⟨rfl,h0,rfl⟩:=h0;have:fR l=[]:=jU h1;exact .inl ⟨by rw[this];rfl,none,0,by rw[this];rfl⟩
 ·simp only[Value.slice.injEq]at hv;obtain⟨rfl,_,rfl⟩:=hv;have hgl:g'<w'.heap.size:=(jo.1 hb).1;refine .inr ⟨g',0,c,(fR l).map encStr,by rw[cj],⟨hgl,λhF=>absurd (hk.bound g' hF) (by omega),by simp[ids]⟩,by rw[cj];exact h1,h2,J8,λj u hu=>?_⟩;have h5:cur.toList.take (fR l).length=(fR l).map encStr:=by simpa using h4
  rw[<-h5]at hu;have hj:cur[j]? =some u:=by
   rw[jq]at hu;split at hu
   ·simpa using hu
   ·cases hu
  simp[World.cell?,hb,hj]
open Go Go.Bw
abbrev I6:=List (List UInt8)->Option (List (List UInt8))
def uY:I6:=λa0=>bif decide (a0.length<=274877906944)then some (fR a0)else none
def TH (p:I6):Prop:=∀a0 r,p a0=some r->Bw.Pure env.toCx 57 [.sl 1 (aN a0)] (.ret (.sl 1 (aN r)))
theorem H4:TH uY:=by
 intro a0 r h;rw[uY]at h;cases hd:decide (a0.length<=274877906944)with
 |false=>rw[hd]at h;cases h
 |true=>
  rw[hd,aV]at h;cases h;have hl:=xC hd;refine W7 hl (ZX _ _ ?_);rw[ZY,wy];have:decide ((([]:List (List UInt8))++a0).length<=274877906944)=true:=by simpa using hd
  rw[this];rfl
theorem YO (a0):uY a0=bif decide (a0.length<=274877906944)then some (fR a0)else none:=rfl
end Go.Proofs.YtfgnmgbiijpkiaaGreat
end

section

