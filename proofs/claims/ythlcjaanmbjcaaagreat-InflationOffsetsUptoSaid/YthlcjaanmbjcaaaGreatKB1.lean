/- The base of a program logic over the kit's wp calculus, second making: abstract values, what they say of a world, and that they stay true while other blocks change. -/
import Derived.WalkKit
set_option linter.all false
section
def ao:=@Option.some.injEq
def aP:=@Option.bind_some
def bf:=@Nat.eq_of_beq_eq_true
def bn:=@Bool.and_eq_true
def bq:=@Nat.le_refl
def bV:=@List.mem_of_getElem?
def bW:=@Prod.mk.injEq
def bZ:=@cond_true
def ck:=@List.mem_append
def cw:=@cond_false
def cA:=@List.map_cons
def cB:=@List.mem_map
def cL:=@List.mem_cons
def cM:=@Nat.le_of_ble_eq_true
def cQ:=@Option.some.inj
def cT:=@List.getElem?_eq_some_iff
def cV:=@if_pos
def cW:=@if_neg
def fe:=@List.mem_flatMap
def fH:=@List.all_eq_true
def fI:=@Array.ext'
def fJ:=@List.mem_filter
def fY:=@Bool.false_eq_true
def fZ:=@Array.getElem?_eq_some_iff
def ga:=@Ne.symm
def gz:=@List.append_nil
def gA:=@List.getElem?_of_mem
def gB:=@Nat.add_mul
def gS:=@List.all_cons
def gT:=@List.cons_append
def gU:=@List.append_assoc
def gV:=@List.getElem?_take
def iy:=@Nat.blt_eq
def iz:=@List.length_cons
def iA:=@Bool.not_eq_true'
def jb:=@List.cons.injEq
def jc:=@decide_eq_true_eq
def jd:=@List.nodup_append
def je:=@Nat.lt_or_ge
def jI:=@List.eq_nil_of_length_eq_zero
def jJ:=@List.map_nil
def jK:=@Nat.lt_succ_iff_lt_or_eq
def kC:=@List.mem_singleton
def kD:=@List.length_nil
def kE:=@Nat.lt_of_lt_of_le
def kF:=@Bool.eq_iff_iff
def lv:=@List.mem_append_left
def lx:=@List.length_set
def ly:=@List.length_append
def lz:=@Nat.zero_add
def lA:=@List.set_cons_succ
def lB:=@Nat.zero_le
def lC:=@Int.toNat_natCast
def mI:=@of_decide_eq_true
def mJ:=@List.getElem?_append_left
def mK:=@List.length_map
def o6:=@List.length_take
def o7:=@List.getElem?_cons_zero
def o8:=@List.getElem?_drop
def o9:=@Array.getElem?_eq_none
def rK:=@List.nil_append
def rL:=@List.map_append
def rM:=@Array.length_toList
def rN:=@Bool.or_eq_true
def rO:=@Nat.le_max_left
def rP:=@Nat.le_max_right
def rQ:=@List.set_cons_zero
def rR:=@Nat.beq_refl
def rS:=@Nat.mul_comm
def rT:=@Nat.add_comm
def rU:=@Bool.not_eq_false'
def uM:=@List.take_append_drop
def uN:=@Nat.add_assoc
def uO:=@List.getElem?_append_right
def uP:=@List.perm_append_comm
def uQ:=@Nat.ble_eq_true_of_le
def uR:=@Bool.and_true
def uS:=@Nat.le_mul_of_pos_right
def uT:=@List.take_length
def uU:=@List.take_succ_cons
def uV:=@Nat.one_mul
def uW:=@Nat.le_trans
def uX:=@List.getElem?_eq_none
def uY:=@Array.getD_eq_getD_getElem?
def uZ:=@List.mem_cons_of_mem
def u0:=@Nat.le_succ
def u1:=@Bool.not_true
def u2:=@List.zip_cons_cons
def BC:=@List.mem_range
def BD:=@List.map_drop
def BE:=@List.map_take
def BF:=@List.map_set
def BG:=@List.length_replicate
def BH:=@List.pairwise_cons
def BI:=@List.ext_getElem?
def BJ:=@Array.getElem?_setIfInBounds
def BK:=@Nat.add_zero
def BL:=@List.contains_iff_mem
def BM:=@Bool.not_false
def BN:=@List.length_pos_iff
def BO:=@List.Sublist.refl
def BP:=@List.getElem?_set_ne
def BR:=@List.foldl_cons
def BS:=@Nat.lt_irrefl
def BT:=@Nat.mul_le_mul_right
def BU:=@List.any_eq_true
def BV:=@List.length_eq_zero_iff
def JJ:=@Prod.mk.inj
def JK:=@List.length_drop
def JL:=@Array.ext_getElem?
def JM:=@List.contains_cons
def JN:=@List.getElem?_map
def JO:=@Nat.div_add_mod
def JP:=@List.filter_cons
def JQ:=@List.getElem?_set_self
def JR:=@Option.getD_some
def JS:=@Nat.sub_zero
def JT:=@Option.map_none
def JU:=@Option.map_some
def JV:=@Array.setIfInBounds_comm
def JW:=@List.nodup_cons
def JX:=@List.take_left
def JY:=@Nat.zero_mul
def JZ:=@List.getElem?_cons_succ
def J0:=@List.size_toArray
def J1:=@List.filter_eq_nil_iff
def J2:=@List.any_eq_false
def R2:=@List.mem_append_right
def R3:=@Array.getElem?_modify
def R4:=@List.mem_cons_self
def R5:=@Go.MapKept.run_setObj_map
def R6:=@Go.MapKept.run_getObj_map
def R7:=@Go.MapKept.run_findKey
def R8:=@List.flatMap_cons
def R9:=@List.flatMap_nil
def Sa:=@List.sublist_append_right
def Sc:=@List.Sublist.append
def Sd:=@List.getElem?_append
def Se:=@List.getElem?_singleton
def Sf:=@List.extract_eq_take_drop
def Si:=@List.mem_filterMap
def Sj:=@List.mem_erase_of_ne
def Sk:=@Array.foldl_toList
def Sm:=@Array.toList_zipIdx
def Sn:=@Nat.eq_zero_or_pos
def Sp:=@Option.mem_toList
def Sq:=@List.map_toArray
def Sr:=@Array.mapM_eq_mapM_toList
def Ss:=@Option.isSome_iff_exists
def Su:=@List.eq_nil_iff_forall_not_mem
def Sv:=@Bool.not_eq_true
def Sw:=@Go.WideShapes.sorted_perm
def Sx:=@List.map_replicate
def Tp:=@Nat.eq_or_lt_of_le
def Tq:=@List.pairwise_iff_getElem
noncomputable section
namespace Go.Bw
open Go
inductive AV where
 |v (x:Value)
 |sl (k:Nat) (rows:List (List AV))
 |agg (xs:List AV)
 |bK (xs:List AV)
 |ip (cells:List AV)
 |own (tag b off:Nat)
 |os (tag:Nat) (a:Option Addr) (n c:Nat)
 |oe (tag:Nat) (v:Value) (n:Nat)
 |om (tag r:Nat)
 |fn (f:FuncId) (fs caps:List AV)
 |ba (t:TypeId) (x:AV)
mutual
def Rel (w:World) (A:Nat->Prop):AV->Value->Prop
 | .v x,y=>y=x
 | .sl k rows,y=>(rows=[]/\∃a cap,y= .slice a 0 cap)\/∃b o cap vs,y= .slice (some ⟨b,o,none⟩) rows.length cap/\(b<w.heap.size/\A b)/\rows.length<=cap/\cap<=maxLen/\
   aX w A k rows vs/\∀j u,vs[j]? =some u->w.cell? ⟨b,o+j,none⟩=some u
 | .agg xs,y=>∃vs:List Value,y= .agg vs.toArray/\ax w A xs vs
 | .bK xs,y=>∃vs:List Value,y= .tuple vs.toArray/\ax w A xs vs
 | .ip cs,y=>∃b o vs,y= .pointer (some ⟨b,o,none⟩)/\(b<w.heap.size/\A b)/\ax w A cs vs/\∀j u,vs[j]? =some u->w.cell? ⟨b,o+j,none⟩=some u
 | .own _ b off,y=>y= .pointer (some ⟨b,off,none⟩)
 | .os _ a n c,y=>y= .slice a n c
 | .oe _ v n,y=>∃b len cap,v= .slice (some ⟨b,0,none⟩) len cap/\y= .pointer (some ⟨b,n,none⟩)
 | .om _ r,y=>y= .map (some r)
 | .fn f fs cs,y=>∃us vs:List Value,y= .func (.func f) us.toArray vs.toArray/\ax w A fs us/\ax w A cs vs
 | .ba t x,y=>∃u,y= .iface t u/\Rel w A x u
def ax (w:World) (A:Nat->Prop):List AV->List Value->Prop
 |[],vs=>vs=[]
 |x::xs,vs=>∃v r,vs=v::r/\Rel w A x v/\ax w A xs r
def aX (w:World) (A:Nat->Prop) (k:Nat):List (List AV)->List Value->Prop
 |[],vs=>vs=[]
 |r::rs,vs=>∃v1 v2,vs=v1++v2/\r.length=k/\ax w A r v1/\aX w A k rs v2
end
def b9 (w:World) (A:Nat->Prop) (w':World) (A':Nat->Prop):Prop:=
 w.heap.size<=w'.heap.size/\∀b,b<w.heap.size->A b->A' b/\w'.heap[b]? =w.heap[b]?
theorem b9.refl (w:World) (A:Nat->Prop):b9 w A w A:=⟨bq _,λ_ _ h=>⟨h,rfl⟩⟩
theorem vo {w:World} {b o:Nat} {u:Value} (h:w.cell? ⟨b,o,none⟩=some u):b<w.heap.size:=World.block_lt_of_cell? w ⟨b,o,none⟩ h
section
variable {w w':World} {A A':Nat->Prop}
theorem ax.length:∀{xs:List AV} {vs:List Value},ax w A xs vs->vs.length=xs.length
 |[],_,h=>by simp only[ax]at h;simp[h]
 |_::_,_,h=>by simp only[ax]at h;obtain⟨v,r,rfl,_,h⟩:=h;simp[ax.length h]
theorem aX.length {k:Nat}:∀{xs:List (List AV)} {vs:List Value},aX w A k xs vs->vs.length=xs.length*k
 |[],_,h=>by simp only[aX]at h;simp[h]
 |_::_,_,h=>by
  simp only[aX]at h;obtain⟨v,r,rfl,hk,h1,h⟩:=h;simp[aX.length h,ax.length h1,hk,gB,rT]
mutual
theorem Rel.aU (h:b9 w A w' A'):∀{x:AV} {v:Value},Rel w A x v->Rel w' A' x v
 | .v _,_,h1=>by simp only[Rel]at h1⊢;exact h1
 | .sl k rows,v,h1=>by
  simp only[Rel]at h1⊢;rcases h1 with h1|⟨b,o,cap,vs,h1,h2,h3,h4,h5,h6⟩
  ·exact .inl h1
  ·obtain⟨ha,he⟩:=h.2 b h2.1 h2.2;exact .inr ⟨b,o,cap,vs,h1,⟨kE h2.1 h.1,ha⟩,h3,h4,aX.aU h h5,λj u hu=>(World.cell?_of_block he).trans (h6 j u hu)⟩
 | .agg xs,_,h1=>by simp only[Rel]at h1⊢;obtain⟨vs,e,h2⟩:=h1;exact⟨vs,e,ax.aU h h2⟩
 | .bK xs,_,h1=>by simp only[Rel]at h1⊢;obtain⟨vs,e,h2⟩:=h1;exact⟨vs,e,ax.aU h h2⟩
 | .ip cs,_,h1=>by
  simp only[Rel]at h1⊢;obtain⟨b,o,vs,h1,h2,h5,h6⟩:=h1;obtain⟨ha,he⟩:=h.2 b h2.1 h2.2;exact⟨b,o,vs,h1,⟨kE h2.1 h.1,ha⟩,ax.aU h h5,λj u hu=>(World.cell?_of_block he).trans (h6 j u hu)⟩
 | .own _ _ _,_,h1=>by simp only[Rel]at h1⊢;exact h1
 | .os _ _ _ _,_,h1=>by simp only[Rel]at h1⊢;exact h1
 | .oe _ _ _,_,h1=>by simp only[Rel]at h1⊢;exact h1
 | .om _ _,_,h1=>by simp only[Rel]at h1⊢;exact h1
 | .fn f fs cs,_,h1=>by simp only[Rel]at h1⊢;obtain⟨us,vs,e,h2,h3⟩:=h1;exact⟨us,vs,e,ax.aU h h2,ax.aU h h3⟩
 | .ba t x,_,h1=>by simp only[Rel]at h1⊢;obtain⟨vs,e,h2⟩:=h1;exact⟨vs,e,Rel.aU h h2⟩
theorem ax.aU (h:b9 w A w' A'):∀{x:List AV} {v:List Value},ax w A x v->ax w' A' x v
 |[],_,h1=>by simp only[ax]at h1⊢;exact h1
 |_::_,_,h1=>by simp only[ax]at h1⊢;obtain⟨v,r,e,h2,h3⟩:=h1;exact⟨v,r,e,Rel.aU h h2,ax.aU h h3⟩
theorem aX.aU (h:b9 w A w' A'):∀{k:Nat} {x:List (List AV)} {v:List Value},aX w A k x v->aX w' A' k x v
 |_,[],_,h1=>by simp only[aX]at h1⊢;exact h1
 |_,_::_,_,h1=>by simp only[aX]at h1⊢;obtain⟨v,r,e,hk,h2,h3⟩:=h1;exact⟨v,r,e,hk,ax.aU h h2,aX.aU h h3⟩
end
theorem b9.trans {w'':World} {A'':Nat->Prop} (h:b9 w A w' A') (g:b9 w' A' w'' A''):b9 w A w'' A'':=
 ⟨uW h.1 g.1,λb hb ha=>let⟨h1,h2⟩:=h.2 b hb ha;let⟨g1,g2⟩:=g.2 b (kE hb h.1) h1;⟨g1,g2.trans h2⟩⟩
end
inductive ag where
 |box (b:Nat) (cells:List AV)
 |row (v:Value) (e:TypeId) (k:Nat) (rows:List (List AV))
 |map (r:Nat) (es:List (Value×AV))
 |fact (x:AV) (v:Value)
 |gone
def ag.ids:ag->List Nat
 | .box b _=>[b]
 | .row v _ _ _=>v.ownBlock.toList
 | .map r _=>[r]
 | .fact _ _=>[]
 | .gone=>[]
def dJ (w:World) (A:Nat->Prop):List (Value×AV)->List MapEntry->Prop
 |[],l=>l=[]
 |x::xs,l=>∃e r,l=e::r/\e.key=x.1/\Rel w A x.2 e.val/\dJ w A xs r
def ids (O:List ag):List Nat:=O.flatMap ag.ids
def ag.ok (w:World) (A:Nat->Prop):ag->Prop
 | .box b cells=>∃e vs,w.heap[b]? =some (.cells (List.toArray vs) e (0,0))/\ax w A cells vs
 | .row v e k rows=>∃vs,aX w A k rows vs/\w.ownsRow 0 e k v rows.length vs
 | .map r es=>∃a clock,w.heap[r]? =some (.map (List.toArray a) clock)/\dJ w A es a/\(a.map (·.born)).Nodup/\∀x∈a,x.born<clock
 | .fact x v=>Rel w A x v
 | .gone=>True
def Al (F:Nat->Prop) (O:List ag) (b:Nat):Prop:=¬F b/\b∉ids O
abbrev Gl:=List (Nat×List Value)
def oG (G:Gl) (w:World) (A:Nat->Prop):Prop:=∀p∈G,A p.1/\∃e fz,w.heap[p.1]? =some (.cells p.2.toArray e fz)
structure bh (G:Gl) (w:World) (F:Nat->Prop) (O:List ag):Prop where
 dw:∀x∈O,x.ok w (Al F O)
 nodup:(ids O).Nodup
 free:∀b∈ids O,¬F b
 bound:∀b,F b->b<w.heap.size
 eX:oG G w (Al F O)
def iY (_ _:World):Prop:=True
theorem iY.of {w w':World} (_:w.drawn<=w'.drawn):iY w w':=trivial
theorem iY.trans {w w' w'':World} (_:iY w w') (_:iY w' w''):iY w w'':=trivial
theorem iY.any (w w':World):iY w w':=trivial
structure Ext (O:List ag) (w:World) (O':List ag) (w':World):Prop where
 os:w'.os=w.os
 tape:w'.tape=w.tape
 output:w'.output=w.output
 size:w.heap.size<=w'.heap.size
 block:∀b,b<w.heap.size->b∉ids O->w'.heap[b]? =w.heap[b]?
 new:∀b∈ids O',b∈ids O\/w.heap.size<=b
 drawn:iY w w'
theorem Ext.refl (O:List ag) (w:World):Ext O w O w:=⟨rfl,rfl,rfl,bq _,λ_ _ _=>rfl,λ_ h=> .inl h,.of (bq _)⟩
theorem Ext.trans {O O' O'':List ag} {w w' w'':World} (h:Ext O w O' w') (g:Ext O' w' O'' w''):Ext O w O'' w'' where
 os:=g.os.trans h.os
 tape:=g.tape.trans h.tape
 output:=g.output.trans h.output
 size:=uW h.size g.size
 block:=λb hb hn=>(g.block b (kE hb h.size) (λhm=>(h.new b hm).elim hn (λhle=>absurd hb (Nat.not_lt.2 hle)))).trans (h.block b hb hn)
 new:=λb hb=>(g.new b hb).elim (λhm=>h.new b hm) (λhle=> .inr (uW h.size hle))
 drawn:=h.drawn.trans g.drawn
theorem Ext.keeps {O O':List ag} {w w':World} {F:Nat->Prop} (h:Ext O w O' w'):b9 w (Al F O) w' (Al F O'):=
 ⟨h.size,λb hb ha=>⟨⟨ha.1,λhm=>(h.new b hm).elim ha.2 (λhle=>absurd hb (Nat.not_lt.2 hle))⟩,h.block b hb ha.2⟩⟩
theorem oG.aU {G:Gl} {w w':World} {A A':Nat->Prop} (h:oG G w A) (hk:b9 w A w' A'):oG G w' A':=λp hp=>by
 obtain⟨ha,e,fz,hh⟩:=h p hp;have hlt:p.1<w.heap.size:=(fZ.1 hh).1;obtain⟨h1,h2⟩:=hk.2 p.1 hlt ha;exact⟨h1,e,fz,h2.trans hh⟩
theorem dJ.aU {w w':World} {A A':Nat->Prop} (h:b9 w A w' A'):∀{es:List (Value×AV)} {l:List MapEntry},dJ w A es l->dJ w' A' es l
 |[],_,h1=>by simp only[dJ]at h1⊢;exact h1
 |_::_,_,h1=>by simp only[dJ]at h1⊢;obtain⟨v,r,e,h2,h3,h4⟩:=h1;exact⟨v,r,e,h2,Rel.aU h h3,dJ.aU h h4⟩
theorem ag.ok.lt {w:World} {A:Nat->Prop} {x:ag} (h:x.ok w A):∀b∈x.ids,b<w.heap.size:=by
 intro b hb;cases x with
 |map c es=>simp[ag.ids]at hb;subst hb;obtain⟨e,vs,h1,_⟩:=h;exact(fZ.1 h1).1
 |fact x v=>simp[ag.ids]at hb
 |gone=>simp[ag.ids]at hb
 |box c cells=>simp[ag.ids]at hb;subst hb;obtain⟨e,vs,h1,_⟩:=h;exact(fZ.1 h1).1
 |row v e k rows=>obtain⟨vs,h1,h2⟩:=h;exact(h2.lt b (by simpa[ag.ids]using hb)).2
theorem bh.lt {G:Gl} {w:World} {F:Nat->Prop} {O:List ag} (h:bh G w F O):∀b∈ids O,b<w.heap.size:=by
 intro b hb;obtain⟨x,hx,hb⟩:=fe.1 hb;exact(h.dw x hx).lt b hb
theorem ag.ok.aU {w w':World} {A A':Nat->Prop} {x:ag} (h:x.ok w A) (hk:b9 w A w' A') (hb:∀b∈x.ids,w'.heap[b]? =w.heap[b]?):x.ok w' A':=by
 cases x with
 |map c es=>obtain⟨e,vs,h1,h2,h3⟩:=h;exact⟨e,vs,(hb c (by simp[ag.ids])).trans h1,dJ.aU hk h2,h3⟩
 |fact x v=>exact Rel.aU hk h
 |gone=>trivial
 |box c cells=>obtain⟨e,vs,h1,h2⟩:=h;exact⟨e,vs,(hb c (by simp[ag.ids])).trans h1,ax.aU hk h2⟩
 |row v e k rows=>
  obtain⟨vs,h1,h2,h3⟩:=h;refine⟨vs,aX.aU hk h1,h2,?_⟩;rcases h3 with h3|⟨g,cap,cur,hv,hg,hh,r⟩
  ·exact .inl h3
  ·exact .inr ⟨g,cap,cur,hv,hg,(hb g (by simp[ag.ids,hv,Value.ownBlock])).trans hh,r⟩
theorem bI (l r:List ag):ids (l++r)=ids l++ids r:=by simp[ids]
theorem b4 (x:ag) (r:List ag):ids (x::r)=x.ids++ids r:=by simp[ids]
theorem bh.lq {G:Gl} {w w':World} {F:Nat->Prop} {l r:List ag} {x x':ag} (h:bh G w F (l++x::r)) (hsz:w.heap.size<=w'.heap.size)
  (hw:∀b,b<w.heap.size->b∉x.ids->w'.heap[b]? =w.heap[b]?) (hi:∀b∈x'.ids,b∈x.ids\/w.heap.size<=b) (hn:x'.ids.Nodup) (hx:x'.ok w' (Al F (l++x'::r))):bh G w' F (l++x'::r):=by
 have hlt:=h.lt;have hnd:=h.nodup;have hfr:=h.free;simp only[bI,b4,ck]at hlt hfr;simp only[bI,b4,jd,ck]at hnd;have hk:b9 w (Al F (l++x::r)) w' (Al F (l++x'::r)):=by
  refine⟨hsz,λb hb ha=>?_⟩;simp only[Al,bI,b4,ck,not_or]at ha⊢;refine⟨⟨ha.1,ha.2.1,λhm=>?_,ha.2.2.2⟩,hw b hb ha.2.2.1⟩;rcases hi b hm with h1|h1
  ·exact ha.2.2.1 h1
  ·omega
 have hoth:∀y,y∈l\/y∈r->y.ok w' (Al F (l++x'::r)):=by
  intro y hy;have hok:=h.dw y (by rcases hy with hy|hy<;>simp[hy]);refine hok.aU hk λb hb=>hw b (hok.lt b hb) λhbx=>?_;rcases hy with hy|hy
  ·exact hnd.2.2 b (by exact fe.2 ⟨y,hy,hb⟩) b (.inl hbx) rfl
  ·exact hnd.2.1.2.2 b hbx b (fe.2 ⟨y,hy,hb⟩) rfl
 refine⟨λy hy=>?_,?_,λb hb=>?_,λb hb=>kE (h.bound b hb) hsz,h.eX.aU hk⟩
 ·simp only[ck,cL]at hy;rcases hy with hy|rfl|hy
  ·exact hoth y (.inl hy)
  ·exact hx
  ·exact hoth y (.inr hy)
 ·simp only[bI,b4,jd,ck];refine⟨hnd.1,⟨hn,hnd.2.1.2.1,λa ha b hb hab=>?_⟩,λa ha b hb hab=>?_⟩
  ·subst hab;rcases hi a ha with h1|h1
   ·exact hnd.2.1.2.2 a h1 a hb rfl
   ·have:=hlt a (.inr (.inr hb));omega
  ·subst hab;rcases hb with hb|hb
   ·rcases hi a hb with h1|h1
    ·exact hnd.2.2 a ha a (.inl h1) rfl
    ·have:=hlt a (.inl ha);omega
   ·exact hnd.2.2 a ha a (.inr hb) rfl
 ·simp only[bI,b4,ck]at hb;rcases hb with hb|hb|hb
  ·exact hfr b (.inl hb)
  ·rcases hi b hb with h1|h1
   ·exact hfr b (.inr (.inl h1))
   ·intro hF;have:=h.bound b hF;omega
  ·exact hfr b (.inr (.inr hb))
theorem bh.push {G:Gl} {w w':World} {F:Nat->Prop} {O:List ag} {x:ag} (h:bh G w F O) (hsz:w.heap.size<=w'.heap.size)
  (hw:∀b,b<w.heap.size->w'.heap[b]? =w.heap[b]?) (hi:∀b∈x.ids,w.heap.size<=b) (hn:x.ids.Nodup) (hx:x.ok w' (Al F (O++[x]))):bh G w' F (O++[x]):=by
 have hk:b9 w (Al F O) w' (Al F (O++[x])):=by
  refine⟨hsz,λb hb ha=>?_⟩;simp only[Al,bI,b4,ck,not_or]at ha⊢;exact⟨⟨ha.1,ha.2,λhm=>by have:=hi b hm;omega,by simp[ids]⟩,hw b hb⟩
 refine⟨λy hy=>?_,?_,λb hb=>?_,λb hb=>kE (h.bound b hb) hsz,h.eX.aU hk⟩
 ·simp only[ck,cL,List.not_mem_nil,or_false]at hy;rcases hy with hy|rfl
  ·exact(h.dw y hy).aU hk λb hb=>hw b ((h.dw y hy).lt b hb)
  ·exact hx
 ·simp only[bI,b4,jd,ck];refine⟨h.nodup,⟨hn,by simp[ids],λa _ b hb=>by simp[ids]at hb⟩,λa ha b hb hab=>?_⟩;subst hab;rcases hb with hb|hb
  ·have h1:=h.lt a ha;have h2:=hi a hb;omega
  ·simp[ids]at hb
 ·simp only[bI,b4,ck]at hb;rcases hb with hb|hb|hb
  ·exact h.free b hb
  ·intro hF;have h1:=h.bound b hF;have h2:=hi b hb;omega
  ·simp[ids]at hb
abbrev Sg:=List (Nat×AV)
def look:Sg->Nat->Option AV
 |[],_=>none
 |(k,x)::r,t=>match Nat.beq k t with
  |true=>some x
  |false=>look r t
abbrev Sl:=Nat->Option AV
abbrev dN (w:World) (A:Nat->Prop) (N:Nat) (a:Act) (s:Sl):Prop:=
 a.tmps.size=N/\∀t x,s t=some x->t<N/\Rel w A x (a.tmps.getD t undef)
abbrev mv (w:World) (A:Nat->Prop) (N:Nat) (a:Act) (Z:Sg):Prop:=dN w A N a (look Z)
theorem mv.aU {w w':World} {A A':Nat->Prop} {N:Nat} {a:Act} {Z:Sg} (h:mv w A N a Z) (hk:b9 w A w' A'):mv w' A' N a Z:=
 ⟨h.1,λt x hx=>⟨(h.2 t x hx).1,Rel.aU hk (h.2 t x hx).2⟩⟩
theorem B0 (tmps:Array Value) (d:Nat) (v:Value) (h:d<tmps.size):(tmps.setIfInBounds d v).getD d undef=v:=by
 simp[Array.getD,h]
theorem BZ (tmps:Array Value) (d t:Nat) (v:Value) (h:d≠t):(tmps.setIfInBounds d v).getD t undef=tmps.getD t undef:=by
 simp only[uY,BJ,h,if_false]
def ik (dst:Option Nat) (x:AV) (Z:Sg):Sg:=
 match dst with
 |some d=>(d,x)::Z
 |none=>Z
theorem mv.put {w:World} {A:Nat->Prop} {N:Nat} {a:Act} {Z:Sg} (h:mv w A N a Z) (dst:Option Nat) (hd:∀d,dst=some d->d<N) {x:AV} {v:Value} (hx:Rel w A x v):
  mv w A N (a.put dst v) (ik dst x Z):=by
 cases dst with
 |none=>exact h
 |some d=>
  refine⟨by simp[Act.put,h.1],λt y hy=>?_⟩;simp only[ik,look]at hy;by_cases hdt:d=t
  ·subst hdt;have:Nat.beq d d=true:=rR d;rw[this]at hy;simp only[ao]at hy;subst hy;refine⟨hd d rfl,?_⟩;simp only[Act.put];rw[B0 _ _ _ (by rw[h.1];exact hd d rfl)];exact hx
  ·have:Nat.beq d t=false:=by cases hb:Nat.beq d t with
    |false=>rfl
    |true=>exact absurd (bf hb) hdt
   rw[this]at hy;simp only at hy;obtain⟨h1,h2⟩:=h.2 t y hy;refine⟨h1,?_⟩;simp only[Act.put];rw[BZ _ _ _ _ hdt];exact h2
structure St (G:Gl) (N:Nat) (w:World) (F:Nat->Prop) (a:Act) (Z:Sg) (O:List ag):Prop where
 sg:mv w (Al F O) N a Z
 hp:bh G w F O
 df:a.defers=[]
inductive AE where
 |norm
 |exit (id:Nat)
 |ret
 |aD (x:AV)
def AE.rel (w:World) (A:Nat->Prop):AE->Exit->Prop
 | .norm,e=>e= .normal
 | .exit i,e=>e= .exit i
 | .ret,e=>e= .ret
 | .aD x,e=>∃v,e= .panic [{v,recovered:=false}]/\Rel w A x v
abbrev AQ:=AE->Sg->List ag->Prop
def AE.sl (e:AE) (Z:Sg):Sg:=match e with
 | .aD _=>[]
 |_=>Z
def CQ (G:Gl) (N:Nat) (F:Nat->Prop) (w0:World) (O0:List ag) (Q:AQ) (e:Exit) (a:Act) (w:World):Prop:=
 ∃e0 Z O,Q e0 (e0.sl Z) O/\AE.rel w (Al F O) e0 e/\St G N w F a (e0.sl Z) O/\Ext O0 w0 O w
structure Cx where
 P:Program
 G:Gl
def bg (C:Cx) (N:Nat) (c:Code) (Q:AQ) (Z:Sg) (O:List ag):Prop:=
 ∀F w0 O0 a w,St C.G N w F a Z O->Ext O0 w0 O w->c.wp C.P (CQ C.G N F w0 O0 Q) a w
abbrev AE.then (next:Sg->List ag->Prop) (Q:AQ):AQ:=λe Z O=>match e with
 | .norm=>next Z O
 | .exit i=>Q (.exit i) Z O
 | .ret=>Q .ret Z O
 | .aD x=>Q (.aD x) Z O
abbrev AE.inBlock (id:Nat) (Q:AQ):AQ:=λe Z O=>match e with
 | .norm=>Q .norm Z O
 | .exit i=>match Nat.beq i id with
  |true=>Q .norm Z O
  |false=>Q (.exit i) Z O
 | .ret=>Q .ret Z O
 | .aD x=>Q (.aD x) Z O
section
variable {C:Cx} {N:Nat} {Q:AQ} {Z:Sg} {O:List ag}
theorem CQ.intro {G:Gl} {F:Nat->Prop} {w0:World} {O0:List ag} {e:Exit} {a:Act} {w:World} (e0:AE) (hr:AE.rel w (Al F O) e0 e) (hQ:Q e0 (e0.sl Z) O) (hs:St G N w F a (e0.sl Z) O) (hx:Ext O0 w0 O w):CQ G N F w0 O0 Q e a w:=
 ⟨e0,Z,O,hQ,hr,hs,hx⟩
theorem bg.skip (h:Q .norm Z O):bg C N .skip Q Z O:=λ_ _ _ _ _ hs hx=>wp_skip (CQ.intro .norm rfl h hs hx)
theorem bg.exit {id:Nat} (h:Q (.exit id) Z O):bg C N (.exit id) Q Z O:=λ_ _ _ _ _ hs hx=>wp_exit (CQ.intro (.exit id) rfl h hs hx)
theorem bg.ret (h:Q .ret Z O):bg C N .ret Q Z O:=λ_ _ _ _ _ hs hx=>wp_ret (CQ.intro .ret rfl h hs hx)
theorem bg.label {l:Nat} (h:Q .norm Z O):bg C N (.label l) Q Z O:=λ_ _ _ _ _ hs hx=>wp_label (CQ.intro .norm rfl h hs hx)
theorem bg.mono {c:Code} {Q':AQ} (h:bg C N c Q Z O) (hq:∀e Z O,Q e Z O->Q' e Z O):bg C N c Q' Z O:=λF w0 O0 a w hs hx=>
 wp_mono (h F w0 O0 a w hs hx) λ_ _ _ ⟨e0,Z',O',h1,h2⟩=>⟨e0,Z',O',hq _ _ _ h1,h2⟩
theorem bg.seq {x y:Code} (h:bg C N x (AE.then (bg C N y Q) Q) Z O):bg C N (.seq x y) Q Z O:=λF w0 O0 a w hs hx=>by
 refine wp_seq (wp_mono (h F w0 O0 a w hs hx) ?_);rintro e a' w' ⟨e0,Z',O',h1,h2,h3,h4⟩;cases e0 with
 |norm=>simp only[AE.rel]at h2;subst h2;exact h1 F w0 O0 a' w' h3 h4
 |exit i=>simp only[AE.rel]at h2;subst h2;exact⟨.exit i,Z',O',h1,rfl,h3,h4⟩
 |ret=>simp only[AE.rel]at h2;subst h2;exact⟨.ret,Z',O',h1,rfl,h3,h4⟩
 |aD x=>obtain⟨v,rfl,h2⟩:=h2;exact⟨.aD x,Z',O',h1,⟨v,rfl,h2⟩,h3,h4⟩
theorem bg.block {id:Nat} {c:Code} (h:bg C N c (AE.inBlock id Q) Z O):bg C N (.block id c) Q Z O:=λF w0 O0 a w hs hx=>by
 refine wp_block (wp_mono (h F w0 O0 a w hs hx) ?_);rintro e a' w' ⟨e0,Z',O',h1,h2,h3,h4⟩;cases e0 with
 |norm=>simp only[AE.rel]at h2;subst h2;exact⟨.norm,Z',O',h1,rfl,h3,h4⟩
 |exit i=>
  simp only[AE.rel]at h2;subst h2;simp only[Exit.inBlock];by_cases hi:i=id
  ·subst hi;simp only[AE.inBlock,rR]at h1;rw[cV rfl];exact⟨.norm,Z',O',h1,rfl,h3,h4⟩
  ·rw[cW hi];have:Nat.beq i id=false:=by cases hb:Nat.beq i id with
    |false=>rfl
    |true=>exact absurd (bf hb) hi
   simp only[AE.inBlock,this]at h1;exact⟨.exit i,Z',O',h1,rfl,h3,h4⟩
 |ret=>simp only[AE.rel]at h2;subst h2;exact⟨.ret,Z',O',h1,rfl,h3,h4⟩
 |aD x=>obtain⟨v,rfl,h2⟩:=h2;exact⟨.aD x,Z',O',h1,⟨v,rfl,h2⟩,h3,h4⟩
def ev (s:Sl):Operand->Option AV
 | .tmp t=>s t
 | .const v=>some (.v v)
 | .global g=>some (.v (.pointer (some ⟨g,0,none⟩)))
 | .func f=>some (.v (.func (.func f) #[] #[]))
theorem aY {w:World} {A:Nat->Prop} {a:Act} {s:Sl} (hs:dN w A N a s) {o:Operand} {x:AV} (h:ev s o=some x):Rel w A x (a.eval o):=by
 cases o with
 |tmp t=>exact(hs.2 t x h).2
 |const v=>simp only[ev,ao]at h;subst h;simp[Rel,Act.eval]
 |global g=>simp only[ev,ao]at h;subst h;simp[Rel,Act.eval]
 |func f=>simp only[ev,ao]at h;subst h;simp[Rel,Act.eval]
theorem bg.cond {c:Operand} {x y:Code} {t:Bool} (hc:ev (look Z) c=some (.v (.bool t))) (h1:t=true->bg C N x Q Z O) (h2:t=false->bg C N y Q Z O):bg C N (.cond c x y) Q Z O:=
 λF w0 O0 a w hs hx=>by
  have he:=aY hs.sg hc;simp only[Rel]at he;exact wp_cond_split he (λht=>h1 ht F w0 O0 a w hs hx) (λht=>h2 ht F w0 O0 a w hs hx)
def dm (G:Gl) (N:Nat) (Z:Sg) (O:List ag) (Z':Sg) (O':List ag):Prop:=
 ∀F w a,St G N w F a Z O->St G N w F a Z' O'/\∀b∈ids O',b∈ids O
theorem bg.gM {c:Code} {Z':Sg} {O':List ag} (hw:dm C.G N Z O Z' O') (h:bg C N c Q Z' O'):bg C N c Q Z O:=λF w0 O0 a w hs hx=>by
 obtain⟨h1,h2⟩:=hw F w a hs;exact h F w0 O0 a w h1 (hx.trans ⟨rfl,rfl,rfl,bq _,λ_ _ _=>rfl,λb hb=> .inl (h2 b hb),.of (bq _)⟩)
def pick:List Nat->Sg->Option Sg
 |[],_=>some []
 |t::ts,Z=>match look Z t,pick ts Z with
  |some x,some r=>some ((t,x)::r)
  |_,_=>none
theorem Du:∀{ts:List Nat} {Z Z':Sg},pick ts Z=some Z'->∀t x,look Z' t=some x->look Z t=some x
 |[],_,_,h,t,x,hx=>by simp only[pick,ao]at h;subst h;simp[look]at hx
 |s::ts,Z,Z',h,t,x,hx=>by
  simp only[pick]at h;split at h
  ·rename_i y r h1 h2;simp only[ao]at h;subst h;simp only[look]at hx;cases hb:Nat.beq s t with
   |true=>
    have:=bf hb;subst this;rw[hb]at hx;simp only[ao]at hx;subst hx;exact h1
   |false=>rw[hb]at hx;exact Du h2 t x hx
  ·cases h
theorem dm.pick {G:Gl} (ts:List Nat) {Z':Sg} (h:pick ts Z=some Z'):dm G N Z O Z' O:=λ_ _ _ hs=>
 ⟨⟨⟨hs.sg.1,λt x hx=>hs.sg.2 t x (Du h t x hx)⟩,hs.hp,hs.df⟩,λ_ h=>h⟩
theorem bg.pick {c:Code} (ts:List Nat) {Z':Sg} (hp:pick ts Z=some Z') (h:bg C N c Q Z' O):bg C N c Q Z O:=bg.gM (dm.pick ts hp) h
end
end Go.Bw
end

section
noncomputable section
namespace Go.Bw
open Go
inductive TD where
 |struct (fs:List (Nat×Nat×Nat×Bool))
 |slice (e k:Nat)
 |array (n e k:Nat) (g:Bool)
 |int (k:IntKind)
 |str
 |bool
 |iface
 |other
structure TI where
 d:TD
 size:Nat
 bytes:Nat
 zero:List Value
def tX:Value->Value->Bool
 | .bool a,.bool b=>a==b
 | .int k a,.int k' b=>decide (k=k')&&a==b
 | .string s,.string t=>s.data.toList==t.data.toList
 | .pointer none,.pointer none=>true
 | .slice none 0 0,.slice none 0 0=>true
 | .map none,.map none=>true
 | .nilFunc,.nilFunc=>true
 | .func (.func f) a b,.func (.func g) c d=>Nat.beq f g&&(a.toList.isEmpty&&b.toList.isEmpty&&(c.toList.isEmpty&&d.toList.isEmpty))
 | .nilIface,.nilIface=>true
 |_,_=>false
theorem EC {a b:Value} (h:tX a b=true):a=b:=by
 unfold tX at h;split at h<;>first|rfl|(simp_all;done)|cases h|skip
 ·rename_i s t;cases s;cases t;rename_i s t;cases s;cases t
  simp_all
def oh:List Value->List Value->Bool
 |[],[]=>true
 |a::as,b::bs=>tX a b&&oh as bs
 |_,_=>false
theorem Ee:∀{a b:List Value},oh a b=true->a=b
 |[],[],_=>rfl
 |a::as,b::bs,h=>by
  simp only[oh,bn]at h;rw[EC h.1,Ee h.2]
 |[],_::_,h=>by simp[oh]at h
 |_::_,[],h=>by simp[oh]at h
def eW (P:Program) (t:Nat):Nat:=match P.info? t with
 |some i=>i.size
 |none=>0
def jD (P:Program) (t:Nat):Bool:=match P.underlying t with
 |some (.struct _)=>true
 |some (.array _ _)=>true
 |_=>false
def hasB (P:Program) (t:Nat):Bool:=(P.underlying t).isSome&&(P.info? t).isSome
def eE (P:Program) (d:TD) (u:TypeDesc):Bool:=match d,u with
 | .struct fs,.struct gs=>decide (gs.toList.map (λ(f:Field)=>(f.offset,f.type,eW P f.type,jD P f.type))=fs)&&fs.all λf=>hasB P f.2.1&&Nat.blt 0 f.2.2.1
 | .slice e k,.slice e'=>e==e'&&k==eW P e&&hasB P e
 | .array n e k g,.array n' e'=>n==n'&&e==e'&&k==eW P e&&g==jD P e&&hasB P e&&Nat.blt 1 n
 | .int k,.int k'=>decide (k=k')
 | .str,.string=>true
 | .bool,.bool=>true
 | .iface,.interface _=>true
 | .other,.interface _=>false
 | .other,.struct _=>false
 | .other,.array _ _=>false
 | .other,_=>true
 |_,_=>false
def iv (P:Program) (t:Nat) (i:TI):Bool:=match P.underlying t,P.info? t with
 |some u,some ti=>eE P i.d u&&ti.size==i.size&&ti.bytes==i.bytes&&(match ti.zero with|some z=>oh z.cells.toList i.zero&&Nat.beq i.zero.length i.size|none=>false)
 |_,_=>false
inductive Tr (D:Type) where
 |lf
 |nd (x:Option D) (l r:Tr D)
def gr (n:Nat):Nat:=match n with
 |0=>0
 |m+1=>Nat.mod (m+1) 2
def fv (n:Nat):Nat:=match n with
 |0=>0
 |m+1=>Nat.div (m+1) 2
theorem iE (n:Nat):gr n=Nat.mod n 2:=by cases n<;>rfl
theorem iF (n:Nat):fv n=Nat.div n 2:=by cases n<;>rfl
def Tr.get {D:Type}:Tr D->Nat->Option D
 | .lf,_=>none
 | .nd x l r,n=> @Bool.rec (λ_=>Option D) (@Bool.rec (λ_=>Option D) (r.get (Nat.pred (fv n))) (l.get (fv n)) (Nat.beq (gr n) 1)) x (Nat.beq n 0)
theorem Tr.gH {D:Type} (n:Nat):(Tr.lf:Tr D).get n=none:=rfl
theorem Tr.kU {D:Type} (x:Option D) (l r:Tr D) (n:Nat):(Tr.nd x l r).get n=match Nat.beq n 0 with
  |true=>x
  |false=>match Nat.beq (gr n) 1 with
   |true=>l.get (fv n)
   |false=>r.get (Nat.pred (fv n)):=by
 rw[Tr.get]
 all_goals cases Nat.beq n 0
 all_goals first|rfl|(cases Nat.beq (gr n) 1<;>rfl)
def Tr.fu {D:Type} (p:Nat->D->Bool):Tr D->Nat->Nat->Bool
 | .lf,_,_=>true
 | .nd x l r,a,b=>(match x with
  |some y=>p b y
  |none=>true)&&(l.fu p (2*a) (a+b)&&r.fu p (2*a) (2*a+b))
theorem Tr.wc {D:Type} {p:Nat->D->Bool}:∀{t:Tr D} {a b n:Nat} {x:D},t.fu p a b=true->t.get n=some x->p (a*n+b) x=true
 | .lf,_,_,_,_,_,h=>by simp[Tr.gH]at h
 | .nd y l r,a,b,n,x,hall,h=>by
  simp only[Tr.fu,bn]at hall;simp only[Tr.kU,iE,iF]at h;cases h0:Nat.beq n 0 with
  |true=>
   rw[h0]at h;have:=bf h0;subst this;simp only at h;subst h;simpa using hall.1
  |false=>
   rw[h0]at h;have hne:n≠0:=λe=>by subst e;simp[Nat.beq]at h0
   simp only at h;cases h1:Nat.beq (Nat.mod n 2) 1 with
   |true=>
    rw[h1]at h;have h1:=bf h1;change n%2=1 at h1;have:=Tr.wc hall.2.1 h;have e:2*a*Nat.div n 2+(a+b)=a*n+b:=by
     change 2*a*(n/2)+(a+b)=a*n+b;have:n=2*(n/2)+1:=by omega
     generalize n/2=m at this;subst this;rw[Nat.mul_add,Nat.mul_one,<-Nat.mul_assoc,rS a 2];omega
    rwa[e]at this
   |false=>
    rw[h1]at h;have h1:¬n%2=1:=λe=>by
     have:Nat.beq (Nat.mod n 2) 1=true:=by change Nat.beq (n%2) 1=true;rw[e];rfl
     rw[h1]at this;cases this
    have:=Tr.wc hall.2.2 h;have e:2*a*Nat.pred (Nat.div n 2)+(2*a+b)=a*n+b:=by
     change 2*a*(n/2-1)+(2*a+b)=a*n+b;have:n=2*(n/2-1)+2:=by omega
     generalize n/2-1=m at this;subst this;rw[Nat.mul_add,<-Nat.mul_assoc,rS a 2];omega
    rwa[e]at this
abbrev bt:=Tr TI
def aM (T:bt) (t:Nat):Option TI:=T.get t
def p0 (P:Program) (T:bt):Prop:=∀t i,aM T t=some i->iv P t i=true
theorem LF {P:Program} {T:bt} (h:T.fu (iv P) 1 0=true):p0 P T:=λt i hi=>by
 have:=Tr.wc h hi;simpa using this
structure Env extends Cx where
 T:bt
 tok:p0 P T
section
variable {P:Program} {t:Nat} {i:TI}
theorem dt (h:iv P t i=true):∃u ti,P.underlying t=some u/\P.info? t=some ti/\eE P i.d u=true/\ti.size=i.size/\ti.bytes=i.bytes/\∃z,ti.zero=some z/\z.cells.toList=i.zero:=by
 unfold iv at h;split at h
 ·rename_i u ti hu hi;simp only[bn,beq_iff_eq]at h;obtain⟨⟨⟨h1,h2⟩,h3⟩,h4⟩:=h;split at h4
  ·rename_i z hz;simp only[bn]at h4;exact⟨u,ti,hu,hi,h1,h2,h3,z,hz,Ee h4.1⟩
  ·cases h4
 ·cases h
theorem sD (h:iv P t i=true):i.zero.length=i.size:=by
 unfold iv at h;split at h
 ·simp only[bn,beq_iff_eq]at h;obtain⟨⟨⟨h1,h2⟩,h3⟩,h4⟩:=h;split at h4
  ·simp only[bn]at h4;exact bf h4.2
  ·cases h4
 ·cases h
theorem vZ (h:iv P t i=true) (w:World):(sizeOf t).run P w= .ok i.size w:=by
 obtain⟨u,ti,_,hi,_,hs,_⟩:=dt h;simp[sizeOf,typeInfo,hi,hs]
theorem jm (h:hasB P t=true) (w:World):(sizeOf t).run P w= .ok (eW P t) w:=by
 simp only[hasB,bn,Ss]at h;obtain⟨_,ti,hi⟩:=h;simp[sizeOf,typeInfo,eW,hi]
theorem vY (h:hasB P t=true) (w:World):(isAgg t).run P w= .ok (jD P t) w:=by
 simp only[hasB,bn,Ss]at h;obtain⟨⟨u,hu⟩,_⟩:=h;simp only[isAgg,Sem.run_bind,run_underlying hu,Result.andThen_ok,jD,hu];cases u<;>rfl
def TD.agg:TD->Bool
 | .struct _=>true
 | .array _ _ _ _=>true
 |_=>false
theorem MA (h:iv P t i=true) (w:World):(isAgg t).run P w= .ok i.d.agg w:=by
 obtain⟨u,ti,hu,_,hd,_⟩:=dt h;simp only[isAgg,Sem.run_bind,run_underlying hu,Result.andThen_ok];cases hid:i.d<;>cases u<;>simp_all [eE,TD.agg]
theorem u3 {fs:List (Nat×Nat×Nat×Bool)} (h:iv P t i=true) (hd:i.d= .struct fs):∃gs:Array Field,P.underlying t=some (.struct gs)/\
  ∀(j o ft k:Nat) (g:Bool),fs[j]? =some (o,ft,k,g)->∃f:Field,gs[j]? =some f/\f.offset=o/\f.type=ft/\eW P ft=k/\jD P ft=g/\hasB P ft=true/\0<k:=by
 obtain⟨u,ti,hu,_,hd',_⟩:=dt h;rw[hd]at hd';cases u<;>simp only[eE,fY]at hd';rename_i gs;simp only[bn,jc]at hd';obtain⟨hm,hall⟩:=hd';refine⟨gs,hu,λj o ft k g hj=>?_⟩;have hin:(o,ft,k,g)∈fs:=bV hj;have hh:=fH.1 hall _ hin;simp only[bn]at hh;rw[<-hm,JN]at hj;cases hg:gs.toList[j]? with
 |none=>rw[hg]at hj;cases hj
 |some f=>
  rw[hg]at hj;simp only[JU,ao,bW]at hj;obtain⟨e1,e2,e3,e4⟩:=hj;refine⟨f,by simpa using hg,e1,e2,by rw[<-e2];exact e3,by rw[<-e2];exact e4,hh.1,by have:=hh.2;rwa[iy]at this⟩
theorem J3 {fs:List (Nat×Nat×Nat×Bool)} (h:iv P t i=true) (hd:i.d= .struct fs):∃gs:Array Field,P.underlying t=some (.struct gs)/\
  (∀(j o ft k:Nat) (g:Bool),fs[j]? =some (o,ft,k,g)->∃f:Field,gs[j]? =some f/\f.offset=o/\f.type=ft/\eW P ft=k/\jD P ft=g/\hasB P ft=true/\0<k)/\
  ∀j (hj:j<gs.toList.length),hasB P gs.toList[j].type=true:=by
 obtain⟨gs,hu,h4⟩:=u3 h hd;refine⟨gs,hu,h4,λj hj=>?_⟩;obtain⟨u,ti,hu',_,hd',_⟩:=dt h;rw[hu]at hu';cases hu';rw[hd]at hd';simp only[eE,bn,jc]at hd';obtain⟨hm,_⟩:=hd';have hl:j<fs.length:=by rw[<-hm];simpa using hj
 obtain⟨f,h5,h6,h7,_,_,h8,_⟩:=h4 j fs[j].1 fs[j].2.1 fs[j].2.2.1 fs[j].2.2.2 (by simp[hl]);have:gs.toList[j]=f:=by
  have:=(fZ.1 h5).2;simpa using this
 rw[this,h7];exact h8
end
def yy (op:BinOp) (x y:Value):Option Value:=
 match x,y with
 | .int k a,.int k' b=>match decide (k=k')with
  |false=>none
  |true=>match op with
   | .add=>some (.int k (k.wrap (a+b)))
   | .sub=>some (.int k (k.wrap (a-b)))
   | .mul=>some (.int k (k.wrap (a*b)))
   | .eql=>some (.bool (a==b))
   | .neq=>some (.bool (a !=b))
   | .lss=>some (.bool (decide (a<b)))
   | .leq=>some (.bool (decide (a<=b)))
   | .gtr=>some (.bool (decide (a>b)))
   | .geq=>some (.bool (decide (a>=b)))
   | .rem=>match decide (b=0)with
    |true=>none
    |false=>some (.int k (a.tmod b))
   | .quo=>match decide (b=0)with
    |true=>none
    |false=>some (.int k (k.wrap (a.tdiv b)))
   |_=>none
 | .string a,.string b=>match op with
  | .eql=>some (.bool (a.data.toList==b.data.toList))
  | .neq=>some (.bool (!(a.data.toList==b.data.toList)))
  | .lss=>some (.bool (Op.bytesLess a.data.toList b.data.toList))
  | .leq=>some (.bool (Op.bytesLess a.data.toList b.data.toList||a.data.toList==b.data.toList))
  | .gtr=>some (.bool (!(Op.bytesLess a.data.toList b.data.toList||a.data.toList==b.data.toList)))
  | .geq=>some (.bool (!Op.bytesLess a.data.toList b.data.toList))
  |_=>none
 |_,_=>none
theorem LS {P : Program} {op : BinOp} {t : TypeId} {x y : Operand} {u v r : Value} (h : yy op u v = some r) (w : World) :
    (do eqGuard op t x y u v; binOp op t u v : Sem Value).run P w = .ok r w := by
  unfold yy at h
  split at h
  · rename_i k a k' b
    split at h
    · cases h
    · rename_i hk
      have hk : k = k' := mI hk
      subst hk
      cases op <;> simp only at h <;> first
        | (cases h; done)
        | (simp only [ao] at h; subst h; simp [eqGuard_at_int, binOp, Op.intArith, Op.intCmp]; done)
        | (split at h
           · cases h
           · rename_i hb
             have hb : ¬ b = 0 := of_decide_eq_false hb
             simp only [ao] at h; subst h
             simp [eqGuard_at_int, binOp, Op.intDiv, hb])
  · cases op <;> simp only at h <;> first
      | (cases h; done)
      | (simp only [ao] at h; subst h; simp [eqGuard_at_string, binOp, Op.stringOp, ByteArray.toList_eq]; done)
  · cases h
def yA (op:BinOp) (x y:Value):Option Value:=
 match x,y with
 | .int k a,.int k' b=>match op with
  | .shl=>match decide (b<0)with
   |true=>none
   |false=>some (.int k (k.wrap (a*2^min b.toNat k.bits)))
  | .shr=>match decide (b<0)with
   |true=>none
   |false=>some (.int k (a.fdiv (2^min b.toNat k.bits)))
  | .and=>match decide (k=k')with
   |false=>none
   |true=>some (.int k (k.wrap ((BitVec.ofInt k.bits a&&&BitVec.ofInt k.bits b).toNat:Int)))
  | .or=>match decide (k=k')with
   |false=>none
   |true=>some (.int k (k.wrap ((BitVec.ofInt k.bits a|||BitVec.ofInt k.bits b).toNat:Int)))
  | .xor=>match decide (k=k')with
   |false=>none
   |true=>some (.int k (k.wrap ((BitVec.ofInt k.bits a^^^BitVec.ofInt k.bits b).toNat:Int)))
  | .andNot=>match decide (k=k')with
   |false=>none
   |true=>some (.int k (k.wrap ((BitVec.ofInt k.bits a&&& ~~~BitVec.ofInt k.bits b).toNat:Int)))
  |_=>none
 |_,_=>none
theorem LU {P:Program} {op:BinOp} {t:TypeId} {x y:Operand} {u v r:Value} (h:yA op u v=some r) (w:World):
  (do eqGuard op t x y u v;binOp op t u v:Sem Value).run P w= .ok r w:=by
 unfold yA at h;split at h
 ·rename_i k a k' b;cases op<;>simp only at h<;>try (cases h;done)
  all_goals (split at h<;>try (cases h;done))
  all_goals simp only[ao]at h
  all_goals subst h
  all_goals rename_i hk
  all_goals (simp only[jc,decide_eq_false_iff_not]at hk)
  all_goals first
   |(subst hk;simp[eqGuard_at_int,binOp,Op.intBits];done)
   |(simp[eqGuard,binOp,Op.shift,hk];done)
 ·cases h
def nth {D:Type}:List D->Nat->Option D
 |[],_=>none
 |x::_,0=>some x
 |_::r,n+1=>nth r n
theorem bP {D:Type}:∀(l:List D) (n:Nat),nth l n=l[n]?
 |[],_=>by simp[nth]
 |x::_,0=>by simp[nth]
 |_::r,n+1=>by simp[nth,bP r n]
def og (g:Bool) (xs:List AV) (off k:Nat):Option AV:=match g with
 |true=>some (.agg ((xs.drop off).take k))
 |false=>nth xs off
def fits:List AV->Nat->Bool
 |_,0=>true
 |[],_+1=>false
 |_::r,n+1=>fits r n
theorem EK:∀{l:List AV} {n:Nat},fits l n=true->n<=l.length
 |_,0,_=>lB _
 |[],_+1,h=>by simp[fits]at h
 |_::r,n+1,h=>by simp only[fits]at h;have:=EK h;simp;omega
section
variable {w:World} {A:Nat->Prop}
theorem ax.nth:∀{xs:List AV} {vs:List Value} {n:Nat} {x:AV},ax w A xs vs->Bw.nth xs n=some x->∃v,vs[n]? =some v/\Rel w A x v
 |[],_,_,_,_,h=>by simp[Bw.nth]at h
 |y::_,vs,0,x,hr,h=>by
  simp only[ax]at hr;obtain⟨v,r,rfl,h1,_⟩:=hr;simp only[Bw.nth,ao]at h;subst h;exact⟨v,by simp,h1⟩
 |_::xs,vs,n+1,x,hr,h=>by
  simp only[ax]at hr;obtain⟨v,r,rfl,_,h2⟩:=hr;simp only[Bw.nth]at h;obtain⟨u,h3,h4⟩:=ax.nth h2 h;exact⟨u,by simpa using h3,h4⟩
theorem ax.drop:∀(n:Nat) {xs:List AV} {vs:List Value},ax w A xs vs->ax w A (xs.drop n) (vs.drop n)
 |0,_,_,h=>by simpa using h
 |n+1,[],_,h=>by simp only[ax]at h;subst h;simp[ax]
 |n+1,_::_,_,h=>by simp only[ax]at h;obtain⟨v,r,rfl,_,h⟩:=h;simpa using ax.drop n h
theorem ax.take:∀(n:Nat) {xs:List AV} {vs:List Value},ax w A xs vs->ax w A (xs.take n) (vs.take n)
 |0,_,_,_=>by simp[ax]
 |n+1,[],_,h=>by simp only[ax]at h;subst h;simp[ax]
 |n+1,_::_,_,h=>by simp only[ax]at h;obtain⟨v,r,rfl,h1,h⟩:=h;simp only[uU,ax];exact⟨v,_,rfl,h1,ax.take n h⟩
theorem ax.append:∀{xs ys:List AV} {vs us:List Value},ax w A xs vs->ax w A ys us->ax w A (xs++ys) (vs++us)
 |[],_,_,_,h,g=>by simp only[ax]at h;subst h;simpa using g
 |_::_,_,_,_,h,g=>by simp only[ax]at h;obtain⟨v,r,rfl,h1,h⟩:=h;simp only[gT,ax];exact⟨v,_,rfl,h1,ax.append h g⟩
theorem ax.set:∀{xs:List AV} {vs:List Value} (n:Nat) {x:AV} {v:Value},ax w A xs vs->Rel w A x v->ax w A (xs.set n x) (vs.set n v)
 |[],_,n,_,_,h,_=>by simp only[ax]at h;subst h;simp[ax]
 |_::_,_,0,_,_,h,g=>by simp only[ax]at h;obtain⟨v,r,rfl,_,h⟩:=h;simp only[rQ,ax];exact⟨_,_,rfl,g,h⟩
 |_::_,_,n+1,_,_,h,g=>by simp only[ax]at h;obtain⟨v,r,rfl,h1,h⟩:=h;simp only[lA,ax];exact⟨_,_,rfl,h1,ax.set n h g⟩
theorem Ed {P:Program} {t:TypeId} {g:Bool} (hg:hasB P t=true) (ha:jD P t=g) {xs:List AV} {vs:List Value} (hr:ax w A xs vs) {off:Nat} {x:AV}
  (h:og g xs off (eW P t)=some x) (w':World):∃v,(part t vs.toArray off).run P w'= .ok v w'/\Rel w A x v:=by
 subst ha;simp only[part,Sem.run_bind,vY hg,Result.andThen_ok,Sem.run_ite,jm hg,Sem.run_pure];cases hb:jD P t with
 |true=>
  rw[hb]at h;simp only[og,ao]at h;subst h;refine⟨_,by simp only[if_true];rfl,?_⟩;simp only[Rel];refine⟨(vs.drop off).take (eW P t),?_,(hr.drop off).take _⟩;congr 1;apply fI;simp[Sf]
 |false=>
  rw[hb]at h;simp only[og]at h;obtain⟨v,h1,h2⟩:=hr.nth h;refine⟨v,?_,h2⟩;simp[h1]
