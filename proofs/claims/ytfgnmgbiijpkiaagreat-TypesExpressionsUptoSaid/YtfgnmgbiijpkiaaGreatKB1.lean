/- The base of a program logic over the kit's wp calculus, second making: abstract values, what they say of a world, and that they stay true while other blocks change. -/
import Derived.WalkKit
set_option linter.all false
section
def aA:=@Option.some.injEq
def aN:=@Option.bind_some
def bA:=@Nat.le_refl
def bB:=@Nat.eq_of_beq_eq_true
def bE:=@cond_true
def bI:=@Bool.and_eq_true
def cp:=@cond_false
def cv:=@Prod.mk.injEq
def cy:=@List.mem_of_getElem?
def cM:=@if_neg
def cN:=@List.mem_append
def cZ:=@if_pos
def c8:=@List.getElem?_eq_some_iff
def dc:=@List.mem_cons
def dt:=@List.mem_map
def dw:=@Nat.le_of_ble_eq_true
def dW:=@List.map_cons
def ec:=@List.mem_flatMap
def gw:=@List.append_nil
def gx:=@Bool.eq_iff_iff
def gH:=@List.all_eq_true
def gI:=@Array.ext'
def gJ:=@List.mem_filter
def gV:=@Option.some.inj
def gW:=@Bool.false_eq_true
def gX:=@Ne.symm
def iH:=@Nat.add_mul
def iI:=@List.append_assoc
def iJ:=@Int.toNat_natCast
def je:=@Bool.not_eq_true'
def jg:=@List.all_cons
def jh:=@decide_eq_true_eq
def jK:=@List.cons.injEq
def jL:=@List.length_append
def jM:=@List.length_cons
def jN:=@Array.getElem?_eq_some_iff
def jO:=@Nat.lt_or_ge
def jP:=@List.nodup_append
def jQ:=@Nat.blt_eq
def jR:=@List.getElem?_take
def ky:=@List.cons_append
def lv:=@List.mem_singleton
def lx:=@List.getElem?_of_mem
def lW:=@List.length_nil
def lX:=@List.mem_append_left
def lY:=@List.eq_nil_of_length_eq_zero
def lZ:=@Nat.lt_of_lt_of_le
def l3:=@List.any_eq_true
def mQ:=@List.length_set
def mR:=@List.getElem?_append_left
def mS:=@List.not_mem_nil
def mT:=@List.set_cons_succ
def mU:=@Nat.zero_le
def mV:=@List.getElem?_set_ne
def mW:=@List.getElem?_drop
def oM:=@List.length_map
def oN:=@List.getElem?_cons_zero
def oO:=@Nat.zero_add
def oP:=@Nat.le_trans
def rj:=@List.length_take
def rk:=@Nat.ble_eq_true_of_le
def rl:=@Nat.beq_refl
def rm:=@List.getElem?_set_self
def rn:=@Array.getElem?_eq_none
def uk:=@List.map_nil
def um:=@Nat.le_max_left
def uo:=@Nat.le_max_right
def uq:=@List.set_cons_zero
def uv:=@Bool.and_true
def uw:=@Nat.mul_comm
def ux:=@Array.length_toList
def uy:=@Nat.add_comm
def uz:=@List.getElem?_eq_none
def uA:=@Bool.not_eq_false'
def uB:=@Option.bind_assoc
def xg:=@of_decide_eq_true
def xh:=@List.map_append
def xi:=@List.length_drop
def xj:=@List.perm_append_comm
def xk:=@List.getElem?_append_right
def xl:=@List.flatMap_cons
def xm:=@Nat.le_mul_of_pos_right
def xn:=@List.nil_append
def xo:=@List.take_succ_cons
def xp:=@Nat.one_mul
def xq:=@Nat.add_assoc
def xr:=@Bool.or_eq_true
def xu:=@Array.getD_eq_getD_getElem?
def xv:=@List.mem_cons_of_mem
def xw:=@Nat.le_succ
def xx:=@List.zip_cons_cons
def xy:=@Nat.lt_succ_iff_lt_or_eq
def DW:=@List.length_eq_zero_iff
def DX:=@List.length_replicate
def DY:=@List.map_set
def DZ:=@List.flatMap_nil
def D0:=@List.getElem?_cons_succ
def D1:=@List.take_append_drop
def D2:=@List.getElem?_map
def D3:=@Nat.add_zero
def D4:=@List.contains_iff_mem
def D5:=@Bool.not_false
def D6:=@List.take_length
def D7:=@List.length_pos_iff
def D8:=@List.Sublist.refl
def D9:=@List.foldl_cons
def D':=@Nat.lt_irrefl
def Ea:=@List.mem_range
def Eb:=@Nat.mul_le_mul_right
def Ec:=@Bool.not_true
def Ed:=@List.any_eq_false
def Ml:=@List.map_drop
def Mm:=@List.map_take
def Mn:=@List.mem_append_right
def Mo:=@Nat.div_add_mod
def Mp:=@List.filter_cons
def Mq:=@Option.getD_some
def Mr:=@Nat.sub_zero
def Ms:=@Option.map_none
def Mt:=@Array.setIfInBounds_comm
def Mu:=@List.nodup_cons
def Mv:=@List.take_left
def Mw:=@Nat.zero_mul
def Mx:=@List.size_toArray
def My:=@List.ext_getElem?
def Mz:=@List.filter_eq_nil_iff
def MA:=@Option.bind_eq_some_iff
def MB:=@Prod.mk.inj
def MC:=@List.getElem?_take_of_lt
def MD:=@Bool.and_false
def ME:=@List.getElem?_replicate
def We:=@List.map_replicate
def Wf:=@Array.ext_getElem?
def Wg:=@Array.getElem?_modify
def Wh:=@List.mem_cons_self
def Wi:=@List.perm_middle
def Wj:=@List.sublist_append_right
def Wk:=@List.Sublist.append
def Wl:=@List.getElem?_append
def Wm:=@List.getElem?_singleton
def Wn:=@List.extract_eq_take_drop
def Wo:=@List.mem_filterMap
def Wp:=@Nat.lt_trichotomy
def Wq:=@List.mem_erase_of_ne
def Wr:=@Array.foldl_toList
def Ws:=@Array.toList_zipIdx
def Wt:=@Nat.eq_zero_or_pos
def Wu:=@Option.mem_toList
def Wv:=@List.map_toArray
def Ww:=@Array.mapM_eq_mapM_toList
def Wx:=@Option.isSome_iff_exists
def Wy:=@List.eq_nil_iff_forall_not_mem
def Wz:=@Bool.not_eq_true
noncomputable section
namespace Go.Bw
open Go
inductive AV where
 |v (x:Value)
 |sl (k:Nat) (rows:List (List AV))
 |agg (xs:List AV)
 |bK (xs:List AV)
 |ip (cells:List AV)
 |own (tag b off:Nat)
 |os (tag:Nat) (a:Option Addr) (n c:Nat)
 |oe (tag:Nat) (v:Value) (n:Nat)
 |om (tag r:Nat)
 |fn (f:FuncId) (fs caps:List AV)
 |bu (t:TypeId) (x:AV)
mutual
def Rel (w:World) (A:Nat->Prop):AV->Value->Prop
 | .v x,y=>y=x
 | .sl k rows,y=>(rows=[]/\∃a cap,y= .slice a 0 cap)\/∃b o cap vs,y= .slice (some ⟨b,o,none⟩) rows.length cap/\(b<w.heap.size/\A b)/\rows.length<=cap/\cap<=maxLen/\
   br w A k rows vs/\∀j u,vs[j]? =some u->w.cell? ⟨b,o+j,none⟩=some u
 | .agg xs,y=>∃vs:List Value,y= .agg vs.toArray/\aF w A xs vs
 | .bK xs,y=>∃vs:List Value,y= .tuple vs.toArray/\aF w A xs vs
 | .ip cs,y=>∃b o vs,y= .pointer (some ⟨b,o,none⟩)/\(b<w.heap.size/\A b)/\aF w A cs vs/\∀j u,vs[j]? =some u->w.cell? ⟨b,o+j,none⟩=some u
 | .own _ b off,y=>y= .pointer (some ⟨b,off,none⟩)
 | .os _ a n c,y=>y= .slice a n c
 | .oe _ v n,y=>∃b len cap,v= .slice (some ⟨b,0,none⟩) len cap/\y= .pointer (some ⟨b,n,none⟩)
 | .om _ r,y=>y= .map (some r)
 | .fn f fs cs,y=>∃us vs:List Value,y= .func (.func f) us.toArray vs.toArray/\aF w A fs us/\aF w A cs vs
 | .bu t x,y=>∃u,y= .iface t u/\Rel w A x u
def aF (w:World) (A:Nat->Prop):List AV->List Value->Prop
 |[],vs=>vs=[]
 |x::xs,vs=>∃v r,vs=v::r/\Rel w A x v/\aF w A xs r
def br (w:World) (A:Nat->Prop) (k:Nat):List (List AV)->List Value->Prop
 |[],vs=>vs=[]
 |r::rs,vs=>∃v1 v2,vs=v1++v2/\r.length=k/\aF w A r v1/\br w A k rs v2
end
def cK (w:World) (A:Nat->Prop) (w':World) (A':Nat->Prop):Prop:=
 w.heap.size<=w'.heap.size/\∀b,b<w.heap.size->A b->A' b/\w'.heap[b]? =w.heap[b]?
theorem cK.refl (w:World) (A:Nat->Prop):cK w A w A:=⟨bA _,λ_ _ h=>⟨h,rfl⟩⟩
theorem EY {w:World} {b o:Nat} {u:Value} (h:w.cell? ⟨b,o,none⟩=some u):b<w.heap.size:=World.block_lt_of_cell? w ⟨b,o,none⟩ h
section
variable {w w':World} {A A':Nat->Prop}
theorem aF.length:∀{xs:List AV} {vs:List Value},aF w A xs vs->vs.length=xs.length
 |[],_,h=>by simp only[aF]at h;simp[h]
 |_::_,_,h=>by simp only[aF]at h;obtain⟨v,r,rfl,_,h⟩:=h;simp[aF.length h]
theorem br.length {k:Nat}:∀{xs:List (List AV)} {vs:List Value},br w A k xs vs->vs.length=xs.length*k
 |[],_,h=>by simp only[br]at h;simp[h]
 |_::_,_,h=>by
  simp only[br]at h;obtain⟨v,r,rfl,hk,h1,h⟩:=h;simp[br.length h,aF.length h1,hk,iH,uy]
mutual
theorem Rel.bm (h:cK w A w' A'):∀{x:AV} {v:Value},Rel w A x v->Rel w' A' x v
 | .v _,_,h1=>by simp only[Rel]at h1⊢;exact h1
 | .sl k rows,v,h1=>by
  simp only[Rel]at h1⊢;rcases h1 with h1|⟨b,o,cap,vs,h1,h2,h3,h4,h5,h6⟩
  ·exact .inl h1
  ·obtain⟨ha,he⟩:=h.2 b h2.1 h2.2;exact .inr ⟨b,o,cap,vs,h1,⟨lZ h2.1 h.1,ha⟩,h3,h4,br.bm h h5,λj u hu=>(World.cell?_of_block he).trans (h6 j u hu)⟩
 | .agg xs,_,h1=>by simp only[Rel]at h1⊢;obtain⟨vs,e,h2⟩:=h1;exact⟨vs,e,aF.bm h h2⟩
 | .bK xs,_,h1=>by simp only[Rel]at h1⊢;obtain⟨vs,e,h2⟩:=h1;exact⟨vs,e,aF.bm h h2⟩
 | .ip cs,_,h1=>by
  simp only[Rel]at h1⊢;obtain⟨b,o,vs,h1,h2,h5,h6⟩:=h1;obtain⟨ha,he⟩:=h.2 b h2.1 h2.2;exact⟨b,o,vs,h1,⟨lZ h2.1 h.1,ha⟩,aF.bm h h5,λj u hu=>(World.cell?_of_block he).trans (h6 j u hu)⟩
 | .own _ _ _,_,h1=>by simp only[Rel]at h1⊢;exact h1
 | .os _ _ _ _,_,h1=>by simp only[Rel]at h1⊢;exact h1
 | .oe _ _ _,_,h1=>by simp only[Rel]at h1⊢;exact h1
 | .om _ _,_,h1=>by simp only[Rel]at h1⊢;exact h1
 | .fn f fs cs,_,h1=>by simp only[Rel]at h1⊢;obtain⟨us,vs,e,h2,h3⟩:=h1;exact⟨us,vs,e,aF.bm h h2,aF.bm h h3⟩
 | .bu t x,_,h1=>by simp only[Rel]at h1⊢;obtain⟨vs,e,h2⟩:=h1;exact⟨vs,e,Rel.bm h h2⟩
theorem aF.bm (h:cK w A w' A'):∀{x:List AV} {v:List Value},aF w A x v->aF w' A' x v
 |[],_,h1=>by simp only[aF]at h1⊢;exact h1
 |_::_,_,h1=>by simp only[aF]at h1⊢;obtain⟨v,r,e,h2,h3⟩:=h1;exact⟨v,r,e,Rel.bm h h2,aF.bm h h3⟩
theorem br.bm (h:cK w A w' A'):∀{k:Nat} {x:List (List AV)} {v:List Value},br w A k x v->br w' A' k x v
 |_,[],_,h1=>by simp only[br]at h1⊢;exact h1
 |_,_::_,_,h1=>by simp only[br]at h1⊢;obtain⟨v,r,e,hk,h2,h3⟩:=h1;exact⟨v,r,e,hk,aF.bm h h2,br.bm h h3⟩
end
theorem cK.trans {w'':World} {A'':Nat->Prop} (h:cK w A w' A') (g:cK w' A' w'' A''):cK w A w'' A'':=
 ⟨oP h.1 g.1,λb hb ha=>let⟨h1,h2⟩:=h.2 b hb ha;let⟨g1,g2⟩:=g.2 b (lZ hb h.1) h1;⟨g1,g2.trans h2⟩⟩
end
inductive ah where
 |box (b:Nat) (cells:List AV)
 |row (v:Value) (e:TypeId) (k:Nat) (rows:List (List AV))
 |map (r:Nat) (es:List (Value×AV))
 |fact (x:AV) (v:Value)
 |gone
def ah.ids:ah->List Nat
 | .box b _=>[b]
 | .row v _ _ _=>v.ownBlock.toList
 | .map r _=>[r]
 | .fact _ _=>[]
 | .gone=>[]
def iZ (w:World) (A:Nat->Prop):List (Value×AV)->List MapEntry->Prop
 |[],l=>l=[]
 |x::xs,l=>∃e r,l=e::r/\e.key=x.1/\Rel w A x.2 e.val/\iZ w A xs r
def ids (O:List ah):List Nat:=O.flatMap ah.ids
def ah.ok (w:World) (A:Nat->Prop):ah->Prop
 | .box b cells=>∃e vs,w.heap[b]? =some (.cells (List.toArray vs) e (0,0))/\aF w A cells vs
 | .row v e k rows=>∃vs,br w A k rows vs/\w.ownsRow 0 e k v rows.length vs
 | .map r es=>∃a clock,w.heap[r]? =some (.map (List.toArray a) clock)/\iZ w A es a/\(a.map (·.born)).Nodup/\∀x∈a,x.born<clock
 | .fact x v=>Rel w A x v
 | .gone=>True
def Al (F:Nat->Prop) (O:List ah) (b:Nat):Prop:=¬F b/\b∉ids O
abbrev Gl:=List (Nat×List Value)
def re (G:Gl) (w:World) (A:Nat->Prop):Prop:=∀p∈G,A p.1/\∃e fz,w.heap[p.1]? =some (.cells p.2.toArray e fz)
structure bz (G:Gl) (w:World) (F:Nat->Prop) (O:List ah):Prop where
 ea:∀x∈O,x.ok w (Al F O)
 nodup:(ids O).Nodup
 free:∀b∈ids O,¬F b
 bound:∀b,F b->b<w.heap.size
 dS:re G w (Al F O)
def ll (w w':World):Prop:=w.drawn<=w'.drawn
theorem ll.of {w w':World} (h:w.drawn<=w'.drawn):ll w w':=h
theorem ll.trans {w w' w'':World} (h:ll w w') (g:ll w' w''):ll w w'':=oP h g
theorem ll.le {w w':World} (h:ll w w'):w.drawn<=w'.drawn:=h
structure Ext (O:List ah) (w:World) (η':List ah) (w':World):Prop where
 os:w'.os=w.os
 tape:w'.tape=w.tape
 output:w'.output=w.output
 size:w.heap.size<=w'.heap.size
 block:∀b,b<w.heap.size->b∉ids O->w'.heap[b]? =w.heap[b]?
 new:∀b∈ids η',b∈ids O\/w.heap.size<=b
 drawn:ll w w'
theorem Ext.refl (O:List ah) (w:World):Ext O w O w:=⟨rfl,rfl,rfl,bA _,λ_ _ _=>rfl,λ_ h=> .inl h,.of (bA _)⟩
theorem Ext.trans {O η' O'':List ah} {w w' w'':World} (h:Ext O w η' w') (g:Ext η' w' O'' w''):Ext O w O'' w'' where
 os:=g.os.trans h.os
 tape:=g.tape.trans h.tape
 output:=g.output.trans h.output
 size:=oP h.size g.size
 block:=λb hb hn=>(g.block b (lZ hb h.size) (λhm=>(h.new b hm).elim hn (λhle=>absurd hb (Nat.not_lt.2 hle)))).trans (h.block b hb hn)
 new:=λb hb=>(g.new b hb).elim (λhm=>h.new b hm) (λhle=> .inr (oP h.size hle))
 drawn:=h.drawn.trans g.drawn
theorem Ext.keeps {O η':List ah} {w w':World} {F:Nat->Prop} (h:Ext O w η' w'):cK w (Al F O) w' (Al F η'):=
 ⟨h.size,λb hb ha=>⟨⟨ha.1,λhm=>(h.new b hm).elim ha.2 (λhle=>absurd hb (Nat.not_lt.2 hle))⟩,h.block b hb ha.2⟩⟩
theorem re.bm {G:Gl} {w w':World} {A A':Nat->Prop} (h:re G w A) (hk:cK w A w' A'):re G w' A':=λp hp=>by
 obtain⟨ha,e,fz,hh⟩:=h p hp;have hlt:p.1<w.heap.size:=(jN.1 hh).1;obtain⟨h1,h2⟩:=hk.2 p.1 hlt ha;exact⟨h1,e,fz,h2.trans hh⟩
theorem iZ.bm {w w':World} {A A':Nat->Prop} (h:cK w A w' A'):∀{es:List (Value×AV)} {l:List MapEntry},iZ w A es l->iZ w' A' es l
 |[],_,h1=>by simp only[iZ]at h1⊢;exact h1
 |_::_,_,h1=>by simp only[iZ]at h1⊢;obtain⟨v,r,e,h2,h3,h4⟩:=h1;exact⟨v,r,e,h2,Rel.bm h h3,iZ.bm h h4⟩
theorem ah.ok.lt {w:World} {A:Nat->Prop} {x:ah} (h:x.ok w A):∀b∈x.ids,b<w.heap.size:=by
 intro b hb;cases x with
 |map c es=>simp[ah.ids]at hb;subst hb;obtain⟨e,vs,h1,_⟩:=h;exact(jN.1 h1).1
 |fact x v=>simp[ah.ids]at hb
 |gone=>simp[ah.ids]at hb
 |box c cells=>simp[ah.ids]at hb;subst hb;obtain⟨e,vs,h1,_⟩:=h;exact(jN.1 h1).1
 |row v e k rows=>obtain⟨vs,h1,h2⟩:=h;exact(h2.lt b (by simpa[ah.ids]using hb)).2
theorem bz.lt {G:Gl} {w:World} {F:Nat->Prop} {O:List ah} (h:bz G w F O):∀b∈ids O,b<w.heap.size:=by
 intro b hb;obtain⟨x,hx,hb⟩:=ec.1 hb;exact(h.ea x hx).lt b hb
theorem ah.ok.bm {w w':World} {A A':Nat->Prop} {x:ah} (h:x.ok w A) (hk:cK w A w' A') (hb:∀b∈x.ids,w'.heap[b]? =w.heap[b]?):x.ok w' A':=by
 cases x with
 |map c es=>obtain⟨e,vs,h1,h2,h3⟩:=h;exact⟨e,vs,(hb c (by simp[ah.ids])).trans h1,iZ.bm hk h2,h3⟩
 |fact x v=>exact Rel.bm hk h
 |gone=>trivial
 |box c cells=>obtain⟨e,vs,h1,h2⟩:=h;exact⟨e,vs,(hb c (by simp[ah.ids])).trans h1,aF.bm hk h2⟩
 |row v e k rows=>
  obtain⟨vs,h1,h2,h3⟩:=h;refine⟨vs,br.bm hk h1,h2,?_⟩;rcases h3 with h3|⟨g,cap,cur,hv,hg,hh,r⟩
  ·exact .inl h3
  ·exact .inr ⟨g,cap,cur,hv,hg,(hb g (by simp[ah.ids,hv,Value.ownBlock])).trans hh,r⟩
theorem cg (l r:List ah):ids (l++r)=ids l++ids r:=by simp[ids]
theorem cE (x:ah) (r:List ah):ids (x::r)=x.ids++ids r:=by simp[ids]
theorem bz.oH {G:Gl} {w w':World} {F:Nat->Prop} {l r:List ah} {x x':ah} (h:bz G w F (l++x::r)) (hsz:w.heap.size<=w'.heap.size)
  (hw:∀b,b<w.heap.size->b∉x.ids->w'.heap[b]? =w.heap[b]?) (hi:∀b∈x'.ids,b∈x.ids\/w.heap.size<=b) (hn:x'.ids.Nodup) (hx:x'.ok w' (Al F (l++x'::r))):bz G w' F (l++x'::r):=by
 have hlt:=h.lt;have hnd:=h.nodup;have hfr:=h.free;simp only[cg,cE,cN]at hlt hfr;simp only[cg,cE,jP,cN]at hnd;have hk:cK w (Al F (l++x::r)) w' (Al F (l++x'::r)):=by
  refine⟨hsz,λb hb ha=>?_⟩;simp only[Al,cg,cE,cN,not_or]at ha⊢;refine⟨⟨ha.1,ha.2.1,λhm=>?_,ha.2.2.2⟩,hw b hb ha.2.2.1⟩;rcases hi b hm with h1|h1
  ·exact ha.2.2.1 h1
  ·omega
 have hoth:∀y,y∈l\/y∈r->y.ok w' (Al F (l++x'::r)):=by
  intro y hy;have hok:=h.ea y (by rcases hy with hy|hy<;>simp[hy]);refine hok.bm hk λb hb=>hw b (hok.lt b hb) λhbx=>?_;rcases hy with hy|hy
  ·exact hnd.2.2 b (by exact ec.2 ⟨y,hy,hb⟩) b (.inl hbx) rfl
  ·exact hnd.2.1.2.2 b hbx b (ec.2 ⟨y,hy,hb⟩) rfl
 refine⟨λy hy=>?_,?_,λb hb=>?_,λb hb=>lZ (h.bound b hb) hsz,h.dS.bm hk⟩
 ·simp only[cN,dc]at hy;rcases hy with hy|rfl|hy
  ·exact hoth y (.inl hy)
  ·exact hx
  ·exact hoth y (.inr hy)
 ·simp only[cg,cE,jP,cN];refine⟨hnd.1,⟨hn,hnd.2.1.2.1,λa ha b hb hab=>?_⟩,λa ha b hb hab=>?_⟩
  ·subst hab;rcases hi a ha with h1|h1
   ·exact hnd.2.1.2.2 a h1 a hb rfl
   ·have:=hlt a (.inr (.inr hb));omega
  ·subst hab;rcases hb with hb|hb
   ·rcases hi a hb with h1|h1
    ·exact hnd.2.2 a ha a (.inl h1) rfl
    ·have:=hlt a (.inl ha);omega
   ·exact hnd.2.2 a ha a (.inr hb) rfl
 ·simp only[cg,cE,cN]at hb;rcases hb with hb|hb|hb
  ·exact hfr b (.inl hb)
  ·rcases hi b hb with h1|h1
   ·exact hfr b (.inr (.inl h1))
   ·intro hF;have:=h.bound b hF;omega
  ·exact hfr b (.inr (.inr hb))
theorem bz.push {G:Gl} {w w':World} {F:Nat->Prop} {O:List ah} {x:ah} (h:bz G w F O) (hsz:w.heap.size<=w'.heap.size)
  (hw:∀b,b<w.heap.size->w'.heap[b]? =w.heap[b]?) (hi:∀b∈x.ids,w.heap.size<=b) (hn:x.ids.Nodup) (hx:x.ok w' (Al F (O++[x]))):bz G w' F (O++[x]):=by
 have hk:cK w (Al F O) w' (Al F (O++[x])):=by
  refine⟨hsz,λb hb ha=>?_⟩;simp only[Al,cg,cE,cN,not_or]at ha⊢;exact⟨⟨ha.1,ha.2,λhm=>by have:=hi b hm;omega,by simp[ids]⟩,hw b hb⟩
 refine⟨λy hy=>?_,?_,λb hb=>?_,λb hb=>lZ (h.bound b hb) hsz,h.dS.bm hk⟩
 ·simp only[cN,dc,mS,or_false]at hy;rcases hy with hy|rfl
  ·exact(h.ea y hy).bm hk λb hb=>hw b ((h.ea y hy).lt b hb)
  ·exact hx
 ·simp only[cg,cE,jP,cN];refine⟨h.nodup,⟨hn,by simp[ids],λa _ b hb=>by simp[ids]at hb⟩,λa ha b hb hab=>?_⟩;subst hab;rcases hb with hb|hb
  ·have h1:=h.lt a ha;have h2:=hi a hb;omega
  ·simp[ids]at hb
 ·simp only[cg,cE,cN]at hb;rcases hb with hb|hb|hb
  ·exact h.free b hb
  ·intro hF;have h1:=h.bound b hF;have h2:=hi b hb;omega
  ·simp[ids]at hb
abbrev Sg:=List (Nat×AV)
def look:Sg->Nat->Option AV
 |[],_=>none
 |(k,x)::r,t=>match Nat.beq k t with
  |true=>some x
  |false=>look r t
abbrev Sl:=Nat->Option AV
abbrev ep (w:World) (A:Nat->Prop) (N:Nat) (a:Act) (s:Sl):Prop:=
 a.tmps.size=N/\∀t x,s t=some x->t<N/\Rel w A x (a.tmps.getD t undef)
abbrev ov (w:World) (A:Nat->Prop) (N:Nat) (a:Act) (Z:Sg):Prop:=ep w A N a (look Z)
theorem ov.bm {w w':World} {A A':Nat->Prop} {N:Nat} {a:Act} {Z:Sg} (h:ov w A N a Z) (hk:cK w A w' A'):ov w' A' N a Z:=
 ⟨h.1,λt x hx=>⟨(h.2 t x hx).1,Rel.bm hk (h.2 t x hx).2⟩⟩
theorem Ei (tmps:Array Value) (d:Nat) (v:Value) (h:d<tmps.size):(tmps.setIfInBounds d v).getD d undef=v:=by
 simp[Array.getD,h]
theorem Eg (tmps:Array Value) (d t:Nat) (v:Value) (h:d≠t):(tmps.setIfInBounds d v).getD t undef=tmps.getD t undef:=by
 simp only[xu,Array.getElem?_setIfInBounds,h,if_false]
def jB (dst:Option Nat) (x:AV) (Z:Sg):Sg:=
 match dst with
 |some d=>(d,x)::Z
 |none=>Z
theorem ov.put {w:World} {A:Nat->Prop} {N:Nat} {a:Act} {Z:Sg} (h:ov w A N a Z) (dst:Option Nat) (hd:∀d,dst=some d->d<N) {x:AV} {v:Value} (hx:Rel w A x v):
  ov w A N (a.put dst v) (jB dst x Z):=by
 cases dst with
 |none=>exact h
 |some d=>
  refine⟨by simp[Act.put,h.1],λt y hy=>?_⟩;simp only[jB,look]at hy;by_cases hdt:d=t
  ·subst hdt;have:Nat.beq d d=true:=rl d;rw[this]at hy;simp only[aA]at hy;subst hy;refine⟨hd d rfl,?_⟩;simp only[Act.put];rw[Ei _ _ _ (by rw[h.1];exact hd d rfl)];exact hx
  ·have:Nat.beq d t=false:=by cases hb:Nat.beq d t with
    |false=>rfl
    |true=>exact absurd (bB hb) hdt
   rw[this]at hy;simp only at hy;obtain⟨h1,h2⟩:=h.2 t y hy;refine⟨h1,?_⟩;simp only[Act.put];rw[Eg _ _ _ _ hdt];exact h2
structure St (G:Gl) (N:Nat) (w:World) (F:Nat->Prop) (a:Act) (Z:Sg) (O:List ah):Prop where
 sg:ov w (Al F O) N a Z
 hp:bz G w F O
 df:a.defers=[]
inductive AE where
 |norm
 |exit (id:Nat)
 |ret
 |aO (x:AV)
def AE.rel (w:World) (A:Nat->Prop):AE->Exit->Prop
 | .norm,e=>e= .normal
 | .exit i,e=>e= .exit i
 | .ret,e=>e= .ret
 | .aO x,e=>∃v,e= .panic [{v,recovered:=false}]/\Rel w A x v
abbrev AQ:=AE->Sg->List ah->Prop
def AE.sl (e:AE) (Z:Sg):Sg:=match e with
 | .aO _=>[]
 |_=>Z
def CQ (G:Gl) (N:Nat) (F:Nat->Prop) (w0:World) (O0:List ah) (Q:AQ) (e:Exit) (a:Act) (w:World):Prop:=
 ∃e0 Z O,Q e0 (e0.sl Z) O/\AE.rel w (Al F O) e0 e/\St G N w F a (e0.sl Z) O/\Ext O0 w0 O w
structure Cx where
 P:Program
 G:Gl
def bD (C:Cx) (N:Nat) (c:Code) (Q:AQ) (Z:Sg) (O:List ah):Prop:=
 ∀F w0 O0 a w,St C.G N w F a Z O->Ext O0 w0 O w->c.wp C.P (CQ C.G N F w0 O0 Q) a w
abbrev AE.then (next:Sg->List ah->Prop) (Q:AQ):AQ:=λe Z O=>match e with
 | .norm=>next Z O
 | .exit i=>Q (.exit i) Z O
 | .ret=>Q .ret Z O
 | .aO x=>Q (.aO x) Z O
abbrev AE.inBlock (id:Nat) (Q:AQ):AQ:=λe Z O=>match e with
 | .norm=>Q .norm Z O
 | .exit i=>match Nat.beq i id with
  |true=>Q .norm Z O
  |false=>Q (.exit i) Z O
 | .ret=>Q .ret Z O
 | .aO x=>Q (.aO x) Z O
section
variable {C:Cx} {N:Nat} {Q:AQ} {Z:Sg} {O:List ah}
theorem CQ.intro {G:Gl} {F:Nat->Prop} {w0:World} {O0:List ah} {e:Exit} {a:Act} {w:World} (e0:AE) (hr:AE.rel w (Al F O) e0 e) (hQ:Q e0 (e0.sl Z) O) (hs:St G N w F a (e0.sl Z) O) (hx:Ext O0 w0 O w):CQ G N F w0 O0 Q e a w:=
 ⟨e0,Z,O,hQ,hr,hs,hx⟩
theorem bD.skip (h:Q .norm Z O):bD C N .skip Q Z O:=λ_ _ _ _ _ hs hx=>wp_skip (CQ.intro .norm rfl h hs hx)
theorem bD.exit {id:Nat} (h:Q (.exit id) Z O):bD C N (.exit id) Q Z O:=λ_ _ _ _ _ hs hx=>wp_exit (CQ.intro (.exit id) rfl h hs hx)
theorem bD.ret (h:Q .ret Z O):bD C N .ret Q Z O:=λ_ _ _ _ _ hs hx=>wp_ret (CQ.intro .ret rfl h hs hx)
theorem bD.label {l:Nat} (h:Q .norm Z O):bD C N (.label l) Q Z O:=λ_ _ _ _ _ hs hx=>wp_label (CQ.intro .norm rfl h hs hx)
theorem bD.mono {c:Code} {Q':AQ} (h:bD C N c Q Z O) (hq:∀e Z O,Q e Z O->Q' e Z O):bD C N c Q' Z O:=λF w0 O0 a w hs hx=>
 wp_mono (h F w0 O0 a w hs hx) λ_ _ _ ⟨e0,Z',η',h1,h2⟩=>⟨e0,Z',η',hq _ _ _ h1,h2⟩
theorem bD.seq {x y:Code} (h:bD C N x (AE.then (bD C N y Q) Q) Z O):bD C N (.seq x y) Q Z O:=λF w0 O0 a w hs hx=>by
 refine wp_seq (wp_mono (h F w0 O0 a w hs hx) ?_);rintro e a' w' ⟨e0,Z',η',h1,h2,h3,h4⟩;cases e0 with
 |norm=>simp only[AE.rel]at h2;subst h2;exact h1 F w0 O0 a' w' h3 h4
 |exit i=>simp only[AE.rel]at h2;subst h2;exact⟨.exit i,Z',η',h1,rfl,h3,h4⟩
 |ret=>simp only[AE.rel]at h2;subst h2;exact⟨.ret,Z',η',h1,rfl,h3,h4⟩
 |aO x=>obtain⟨v,rfl,h2⟩:=h2;exact⟨.aO x,Z',η',h1,⟨v,rfl,h2⟩,h3,h4⟩
theorem bD.block {id:Nat} {c:Code} (h:bD C N c (AE.inBlock id Q) Z O):bD C N (.block id c) Q Z O:=λF w0 O0 a w hs hx=>by
 refine wp_block (wp_mono (h F w0 O0 a w hs hx) ?_);rintro e a' w' ⟨e0,Z',η',h1,h2,h3,h4⟩;cases e0 with
 |norm=>simp only[AE.rel]at h2;subst h2;exact⟨.norm,Z',η',h1,rfl,h3,h4⟩
 |exit i=>
  simp only[AE.rel]at h2;subst h2;simp only[Exit.inBlock];by_cases hi:i=id
  ·subst hi;simp only[AE.inBlock,rl]at h1;rw[cZ rfl];exact⟨.norm,Z',η',h1,rfl,h3,h4⟩
  ·rw[cM hi];have:Nat.beq i id=false:=by cases hb:Nat.beq i id with
    |false=>rfl
    |true=>exact absurd (bB hb) hi
   simp only[AE.inBlock,this]at h1;exact⟨.exit i,Z',η',h1,rfl,h3,h4⟩
 |ret=>simp only[AE.rel]at h2;subst h2;exact⟨.ret,Z',η',h1,rfl,h3,h4⟩
 |aO x=>obtain⟨v,rfl,h2⟩:=h2;exact⟨.aO x,Z',η',h1,⟨v,rfl,h2⟩,h3,h4⟩
def ev (s:Sl):Operand->Option AV
 | .tmp t=>s t
 | .const v=>some (.v v)
 | .global g=>some (.v (.pointer (some ⟨g,0,none⟩)))
 | .func f=>some (.v (.func (.func f) #[] #[]))
theorem bt {w:World} {A:Nat->Prop} {a:Act} {s:Sl} (hs:ep w A N a s) {o:Operand} {x:AV} (h:ev s o=some x):Rel w A x (a.eval o):=by
 cases o with
 |tmp t=>exact(hs.2 t x h).2
 |const v=>simp only[ev,aA]at h;subst h;simp[Rel,Act.eval]
 |global g=>simp only[ev,aA]at h;subst h;simp[Rel,Act.eval]
 |func f=>simp only[ev,aA]at h;subst h;simp[Rel,Act.eval]
theorem bD.cond {c:Operand} {x y:Code} {t:Bool} (hc:ev (look Z) c=some (.v (.bool t))) (h1:t=true->bD C N x Q Z O) (h2:t=false->bD C N y Q Z O):bD C N (.cond c x y) Q Z O:=
 λF w0 O0 a w hs hx=>by
  have he:=bt hs.sg hc;simp only[Rel]at he;exact wp_cond_split he (λht=>h1 ht F w0 O0 a w hs hx) (λht=>h2 ht F w0 O0 a w hs hx)
def dV (G:Gl) (N:Nat) (Z:Sg) (O:List ah) (Z':Sg) (η':List ah):Prop:=
 ∀F w a,St G N w F a Z O->St G N w F a Z' η'/\∀b∈ids η',b∈ids O
theorem bD.i' {c:Code} {Z':Sg} {η':List ah} (hw:dV C.G N Z O Z' η') (h:bD C N c Q Z' η'):bD C N c Q Z O:=λF w0 O0 a w hs hx=>by
 obtain⟨h1,h2⟩:=hw F w a hs;exact h F w0 O0 a w h1 (hx.trans ⟨rfl,rfl,rfl,bA _,λ_ _ _=>rfl,λb hb=> .inl (h2 b hb),.of (bA _)⟩)
def pick:List Nat->Sg->Option Sg
 |[],_=>some []
 |t::ts,Z=>match look Z t,pick ts Z with
  |some x,some r=>some ((t,x)::r)
  |_,_=>none
theorem Fq:∀{ts:List Nat} {Z Z':Sg},pick ts Z=some Z'->∀t x,look Z' t=some x->look Z t=some x
 |[],_,_,h,t,x,hx=>by simp only[pick,aA]at h;subst h;simp[look]at hx
 |s::ts,Z,Z',h,t,x,hx=>by
  simp only[pick]at h;split at h
  ·rename_i y r h1 h2;simp only[aA]at h;subst h;simp only[look]at hx;cases hb:Nat.beq s t with
   |true=>
    have:=bB hb;subst this;rw[hb]at hx;simp only[aA]at hx;subst hx;exact h1
   |false=>rw[hb]at hx;exact Fq h2 t x hx
  ·cases h
theorem dV.pick {G:Gl} (ts:List Nat) {Z':Sg} (h:pick ts Z=some Z'):dV G N Z O Z' O:=λ_ _ _ hs=>
 ⟨⟨⟨hs.sg.1,λt x hx=>hs.sg.2 t x (Fq h t x hx)⟩,hs.hp,hs.df⟩,λ_ h=>h⟩
theorem bD.pick {c:Code} (ts:List Nat) {Z':Sg} (hp:pick ts Z=some Z') (h:bD C N c Q Z' O):bD C N c Q Z O:=bD.i' (dV.pick ts hp) h
end
end Go.Bw
end

section
noncomputable section
namespace Go.Bw
open Go
inductive TD where
 |struct (fs:List (Nat×Nat×Nat×Bool))
 |slice (e k:Nat)
 |array (n e k:Nat) (g:Bool)
 |int (k:IntKind)
 |str
 |bool
 |iface
 |other
structure TI where
 d:TD
 size:Nat
 bytes:Nat
 zero:List Value
def wh:Value->Value->Bool
 | .bool a,.bool b=>a==b
 | .int k a,.int k' b=>decide (k=k')&&a==b
 | .string s,.string t=>s.data.toList==t.data.toList
 | .pointer none,.pointer none=>true
 | .slice none 0 0,.slice none 0 0=>true
 | .map none,.map none=>true
 | .nilFunc,.nilFunc=>true
 | .func (.func f) a b,.func (.func g) c d=>Nat.beq f g&&(a.toList.isEmpty&&b.toList.isEmpty&&(c.toList.isEmpty&&d.toList.isEmpty))
 | .nilIface,.nilIface=>true
 |_,_=>false
theorem G9 {a b:Value} (h:wh a b=true):a=b:=by
 unfold wh at h;split at h<;>first|rfl|(simp_all;done)|cases h|skip
 ·rename_i s t;cases s;cases t;rename_i s t;cases s;cases t
  simp_all
def qq:List Value->List Value->Bool
 |[],[]=>true
 |a::as,b::bs=>wh a b&&qq as bs
 |_,_=>false
theorem F7:∀{a b:List Value},qq a b=true->a=b
 |[],[],_=>rfl
 |a::as,b::bs,h=>by
  simp only[qq,bI]at h;rw[G9 h.1,F7 h.2]
 |[],_::_,h=>by simp[qq]at h
 |_::_,[],h=>by simp[qq]at h
def fP (P:Program) (t:Nat):Nat:=match P.info? t with
 |some i=>i.size
 |none=>0
def k9 (P:Program) (t:Nat):Bool:=match P.underlying t with
 |some (.struct _)=>true
 |some (.array _ _)=>true
 |_=>false
def hasB (P:Program) (t:Nat):Bool:=(P.underlying t).isSome&&(P.info? t).isSome
def fy (P:Program) (d:TD) (u:TypeDesc):Bool:=match d,u with
 | .struct fs,.struct gs=>decide (gs.toList.map (λ(f:Field)=>(f.offset,f.type,fP P f.type,k9 P f.type))=fs)&&fs.all λf=>hasB P f.2.1&&Nat.blt 0 f.2.2.1
 | .slice e k,.slice e'=>e==e'&&k==fP P e&&hasB P e
 | .array n e k g,.array n' e'=>n==n'&&e==e'&&k==fP P e&&g==k9 P e&&hasB P e&&Nat.blt 1 n
 | .int k,.int k'=>decide (k=k')
 | .str,.string=>true
 | .bool,.bool=>true
 | .iface,.interface _=>true
 | .other,.interface _=>false
 | .other,.struct _=>false
 | .other,.array _ _=>false
 | .other,_=>true
 |_,_=>false
def jI (P:Program) (t:Nat) (i:TI):Bool:=match P.underlying t,P.info? t with
 |some u,some ti=>fy P i.d u&&ti.size==i.size&&ti.bytes==i.bytes&&(match ti.zero with|some z=>qq z.cells.toList i.zero&&Nat.beq i.zero.length i.size|none=>false)
 |_,_=>false
inductive Tr (D:Type) where
 |lf
 |nd (x:Option D) (l r:Tr D)
def iz (n:Nat):Nat:=match n with
 |0=>0
 |m+1=>Nat.mod (m+1) 2
def gk (n:Nat):Nat:=match n with
 |0=>0
 |m+1=>Nat.div (m+1) 2
theorem jZ (n:Nat):iz n=Nat.mod n 2:=by cases n<;>rfl
theorem ka (n:Nat):gk n=Nat.div n 2:=by cases n<;>rfl
def Tr.get {D:Type}:Tr D->Nat->Option D
 | .lf,_=>none
 | .nd x l r,n=> @Bool.rec (λ_=>Option D) (@Bool.rec (λ_=>Option D) (r.get (Nat.pred (gk n))) (l.get (gk n)) (Nat.beq (iz n) 1)) x (Nat.beq n 0)
theorem Tr.ie {D:Type} (n:Nat):(Tr.lf:Tr D).get n=none:=rfl
theorem Tr.mu {D:Type} (x:Option D) (l r:Tr D) (n:Nat):(Tr.nd x l r).get n=match Nat.beq n 0 with
  |true=>x
  |false=>match Nat.beq (iz n) 1 with
   |true=>l.get (gk n)
   |false=>r.get (Nat.pred (gk n)):=by
 rw[Tr.get]
 all_goals cases Nat.beq n 0
 all_goals first|rfl|(cases Nat.beq (iz n) 1<;>rfl)
def Tr.gh {D:Type} (p:Nat->D->Bool):Tr D->Nat->Nat->Bool
 | .lf,_,_=>true
 | .nd x l r,a,b=>(match x with
  |some y=>p b y
  |none=>true)&&(l.gh p (2*a) (a+b)&&r.gh p (2*a) (2*a+b))
theorem Tr.zf {D:Type} {p:Nat->D->Bool}:∀{t:Tr D} {a b n:Nat} {x:D},t.gh p a b=true->t.get n=some x->p (a*n+b) x=true
 | .lf,_,_,_,_,_,h=>by simp[Tr.ie]at h
 | .nd y l r,a,b,n,x,hall,h=>by
  simp only[Tr.gh,bI]at hall;simp only[Tr.mu,jZ,ka]at h;cases h0:Nat.beq n 0 with
  |true=>
   rw[h0]at h;have:=bB h0;subst this;simp only at h;subst h;simpa using hall.1
  |false=>
   rw[h0]at h;have hne:n≠0:=λe=>by subst e;simp[Nat.beq]at h0
   simp only at h;cases h1:Nat.beq (Nat.mod n 2) 1 with
   |true=>
    rw[h1]at h;have h1:=bB h1;change n%2=1 at h1;have:=Tr.zf hall.2.1 h;have e:2*a*Nat.div n 2+(a+b)=a*n+b:=by
     change 2*a*(n/2)+(a+b)=a*n+b;have:n=2*(n/2)+1:=by omega
     generalize n/2=m at this;subst this;rw[Nat.mul_add,Nat.mul_one,<-Nat.mul_assoc,uw a 2];omega
    rwa[e]at this
   |false=>
    rw[h1]at h;have h1:¬n%2=1:=λe=>by
     have:Nat.beq (Nat.mod n 2) 1=true:=by change Nat.beq (n%2) 1=true;rw[e];rfl
     rw[h1]at this;cases this
    have:=Tr.zf hall.2.2 h;have e:2*a*Nat.pred (Nat.div n 2)+(2*a+b)=a*n+b:=by
     change 2*a*(n/2-1)+(2*a+b)=a*n+b;have:n=2*(n/2-1)+2:=by omega
     generalize n/2-1=m at this;subst this;rw[Nat.mul_add,<-Nat.mul_assoc,uw a 2];omega
    rwa[e]at this
abbrev bO:=Tr TI
def aX (T:bO) (t:Nat):Option TI:=T.get t
def sF (P:Program) (T:bO):Prop:=∀t i,aX T t=some i->jI P t i=true
theorem Oy {P:Program} {T:bO} (h:T.gh (jI P) 1 0=true):sF P T:=λt i hi=>by
 have:=Tr.zf h hi;simpa using this
structure Env extends Cx where
 T:bO
 tok:sF P T
section
variable {P:Program} {t:Nat} {i:TI}
theorem dY (h:jI P t i=true):∃u ti,P.underlying t=some u/\P.info? t=some ti/\fy P i.d u=true/\ti.size=i.size/\ti.bytes=i.bytes/\∃z,ti.zero=some z/\z.cells.toList=i.zero:=by
 unfold jI at h;split at h
 ·rename_i u ti hu hi;simp only[bI,beq_iff_eq]at h;obtain⟨⟨⟨h1,h2⟩,h3⟩,h4⟩:=h;split at h4
  ·rename_i z hz;simp only[bI]at h4;exact⟨u,ti,hu,hi,h1,h2,h3,z,hz,F7 h4.1⟩
  ·cases h4
 ·cases h
theorem va (h:jI P t i=true):i.zero.length=i.size:=by
 unfold jI at h;split at h
 ·simp only[bI,beq_iff_eq]at h;obtain⟨⟨⟨h1,h2⟩,h3⟩,h4⟩:=h;split at h4
  ·simp only[bI]at h4;exact bB h4.2
  ·cases h4
 ·cases h
theorem za (h:jI P t i=true) (w:World):(sizeOf t).run P w= .ok i.size w:=by
 obtain⟨u,ti,_,hi,_,hs,_⟩:=dY h;simp[sizeOf,typeInfo,hi,hs]
theorem kE (h:hasB P t=true) (w:World):(sizeOf t).run P w= .ok (fP P t) w:=by
 simp only[hasB,bI,Wx]at h;obtain⟨_,ti,hi⟩:=h;simp[sizeOf,typeInfo,fP,hi]
theorem yZ (h:hasB P t=true) (w:World):(isAgg t).run P w= .ok (k9 P t) w:=by
 simp only[hasB,bI,Wx]at h;obtain⟨⟨u,hu⟩,_⟩:=h;simp only[isAgg,Sem.run_bind,run_underlying hu,Result.andThen_ok,k9,hu];cases u<;>rfl
def TD.agg:TD->Bool
 | .struct _=>true
 | .array _ _ _ _=>true
 |_=>false
theorem Pr (h:jI P t i=true) (w:World):(isAgg t).run P w= .ok i.d.agg w:=by
 obtain⟨u,ti,hu,_,hd,_⟩:=dY h;simp only[isAgg,Sem.run_bind,run_underlying hu,Result.andThen_ok];cases hid:i.d<;>cases u<;>simp_all [fy,TD.agg]
theorem xz {fs:List (Nat×Nat×Nat×Bool)} (h:jI P t i=true) (hd:i.d= .struct fs):∃gs:Array Field,P.underlying t=some (.struct gs)/\
  ∀(j o ft k:Nat) (g:Bool),fs[j]? =some (o,ft,k,g)->∃f:Field,gs[j]? =some f/\f.offset=o/\f.type=ft/\fP P ft=k/\k9 P ft=g/\hasB P ft=true/\0<k:=by
 obtain⟨u,ti,hu,_,hd',_⟩:=dY h;rw[hd]at hd';cases u<;>simp only[fy,gW]at hd';rename_i gs;simp only[bI,jh]at hd';obtain⟨hm,hall⟩:=hd';refine⟨gs,hu,λj o ft k g hj=>?_⟩;have hin:(o,ft,k,g)∈fs:=cy hj;have hh:=gH.1 hall _ hin;simp only[bI]at hh;rw[<-hm,D2]at hj;cases hg:gs.toList[j]? with
 |none=>rw[hg]at hj;cases hj
 |some f=>
  rw[hg]at hj;simp only[Option.map_some,aA,cv]at hj;obtain⟨e1,e2,e3,e4⟩:=hj;refine⟨f,by simpa using hg,e1,e2,by rw[<-e2];exact e3,by rw[<-e2];exact e4,hh.1,by have:=hh.2;rwa[jQ]at this⟩
theorem MF {fs:List (Nat×Nat×Nat×Bool)} (h:jI P t i=true) (hd:i.d= .struct fs):∃gs:Array Field,P.underlying t=some (.struct gs)/\
  (∀(j o ft k:Nat) (g:Bool),fs[j]? =some (o,ft,k,g)->∃f:Field,gs[j]? =some f/\f.offset=o/\f.type=ft/\fP P ft=k/\k9 P ft=g/\hasB P ft=true/\0<k)/\
  ∀j (hj:j<gs.toList.length),hasB P gs.toList[j].type=true:=by
 obtain⟨gs,hu,h4⟩:=xz h hd;refine⟨gs,hu,h4,λj hj=>?_⟩;obtain⟨u,ti,hu',_,hd',_⟩:=dY h;rw[hu]at hu';cases hu';rw[hd]at hd';simp only[fy,bI,jh]at hd';obtain⟨hm,_⟩:=hd';have hl:j<fs.length:=by rw[<-hm];simpa using hj
 obtain⟨f,h5,h6,h7,_,_,h8,_⟩:=h4 j fs[j].1 fs[j].2.1 fs[j].2.2.1 fs[j].2.2.2 (by simp[hl]);have:gs.toList[j]=f:=by
  have:=(jN.1 h5).2;simpa using this
 rw[this,h7];exact h8
end
def Ca (op:BinOp) (x y:Value):Option Value:=
 match x,y with
 | .int k a,.int k' b=>match decide (k=k')with
  |false=>none
  |true=>match op with
   | .add=>some (.int k (k.wrap (a+b)))
   | .sub=>some (.int k (k.wrap (a-b)))
   | .mul=>some (.int k (k.wrap (a*b)))
   | .eql=>some (.bool (a==b))
   | .neq=>some (.bool (a !=b))
   | .lss=>some (.bool (decide (a<b)))
   | .leq=>some (.bool (decide (a<=b)))
   | .gtr=>some (.bool (decide (a>b)))
   | .geq=>some (.bool (decide (a>=b)))
   | .rem=>match decide (b=0)with
    |true=>none
    |false=>some (.int k (a.tmod b))
   | .quo=>match decide (b=0)with
    |true=>none
    |false=>some (.int k (k.wrap (a.tdiv b)))
   |_=>none
 | .string a,.string b=>match op with
  | .eql=>some (.bool (a.data.toList==b.data.toList))
  | .neq=>some (.bool (!(a.data.toList==b.data.toList)))
  | .lss=>some (.bool (Op.bytesLess a.data.toList b.data.toList))
  | .leq=>some (.bool (Op.bytesLess a.data.toList b.data.toList||a.data.toList==b.data.toList))
  | .gtr=>some (.bool (!(Op.bytesLess a.data.toList b.data.toList||a.data.toList==b.data.toList)))
  | .geq=>some (.bool (!Op.bytesLess a.data.toList b.data.toList))
  |_=>none
 |_,_=>none
theorem OH {P : Program} {op : BinOp} {t : TypeId} {x y : Operand} {u v r : Value} (h : Ca op u v = some r) (w : World) :
    (do eqGuard op t x y u v; binOp op t u v : Sem Value).run P w = .ok r w := by
  unfold Ca at h
  split at h
  · rename_i k a k' b
    split at h
    · cases h
    · rename_i hk
      have hk : k = k' := xg hk
      subst hk
      cases op <;> simp only at h <;> first
        | (cases h; done)
        | (simp only [aA] at h; subst h; simp [eqGuard_at_int, binOp, Op.intArith, Op.intCmp]; done)
        | (split at h
           · cases h
           · rename_i hb
             have hb : ¬ b = 0 := of_decide_eq_false hb
             simp only [aA] at h; subst h
             simp [eqGuard_at_int, binOp, Op.intDiv, hb])
  · cases op <;> simp only at h <;> first
      | (cases h; done)
      | (simp only [aA] at h; subst h; simp [eqGuard_at_string, binOp, Op.stringOp, ByteArray.toList_eq]; done)
  · cases h
def Cb (op:BinOp) (x y:Value):Option Value:=
 match x,y with
 | .int k a,.int k' b=>match op with
  | .shl=>match decide (b<0)with
   |true=>none
   |false=>some (.int k (k.wrap (a*2^min b.toNat k.bits)))
  | .shr=>match decide (b<0)with
   |true=>none
   |false=>some (.int k (a.fdiv (2^min b.toNat k.bits)))
  | .and=>match decide (k=k')with
   |false=>none
   |true=>some (.int k (k.wrap ((BitVec.ofInt k.bits a&&&BitVec.ofInt k.bits b).toNat:Int)))
  | .or=>match decide (k=k')with
   |false=>none
   |true=>some (.int k (k.wrap ((BitVec.ofInt k.bits a|||BitVec.ofInt k.bits b).toNat:Int)))
  | .xor=>match decide (k=k')with
   |false=>none
   |true=>some (.int k (k.wrap ((BitVec.ofInt k.bits a^^^BitVec.ofInt k.bits b).toNat:Int)))
  | .andNot=>match decide (k=k')with
   |false=>none
   |true=>some (.int k (k.wrap ((BitVec.ofInt k.bits a&&& ~~~BitVec.ofInt k.bits b).toNat:Int)))
  |_=>none
 |_,_=>none
theorem OI {P:Program} {op:BinOp} {t:TypeId} {x y:Operand} {u v r:Value} (h:Cb op u v=some r) (w:World):
  (do eqGuard op t x y u v;binOp op t u v:Sem Value).run P w= .ok r w:=by
 unfold Cb at h;split at h
 ·rename_i k a k' b;cases op<;>simp only at h<;>try (cases h;done)
  all_goals (split at h<;>try (cases h;done))
  all_goals simp only[aA]at h
  all_goals subst h
  all_goals rename_i hk
  all_goals (simp only[jh,decide_eq_false_iff_not]at hk)
  all_goals first
   |(subst hk;simp[eqGuard_at_int,binOp,Op.intBits];done)
   |(simp[eqGuard,binOp,Op.shift,hk];done)
 ·cases h
def nth {D:Type}:List D->Nat->Option D
 |[],_=>none
 |x::_,0=>some x
 |_::r,n+1=>nth r n
theorem ck {D:Type}:∀(l:List D) (n:Nat),nth l n=l[n]?
 |[],_=>by simp[nth]
 |x::_,0=>by simp[nth]
 |_::r,n+1=>by simp[nth,ck r n]
def qp (g:Bool) (xs:List AV) (off k:Nat):Option AV:=match g with
 |true=>some (.agg ((xs.drop off).take k))
 |false=>nth xs off
def fits:List AV->Nat->Bool
 |_,0=>true
 |[],_+1=>false
 |_::r,n+1=>fits r n
theorem Hf:∀{l:List AV} {n:Nat},fits l n=true->n<=l.length
 |_,0,_=>mU _
 |[],_+1,h=>by simp[fits]at h
 |_::r,n+1,h=>by simp only[fits]at h;have:=Hf h;simp;omega
section
variable {w:World} {A:Nat->Prop}
theorem aF.nth:∀{xs:List AV} {vs:List Value} {n:Nat} {x:AV},aF w A xs vs->Bw.nth xs n=some x->∃v,vs[n]? =some v/\Rel w A x v
 |[],_,_,_,_,h=>by simp[Bw.nth]at h
 |y::_,vs,0,x,hr,h=>by
  simp only[aF]at hr;obtain⟨v,r,rfl,h1,_⟩:=hr;simp only[Bw.nth,aA]at h;subst h;exact⟨v,by simp,h1⟩
 |_::xs,vs,n+1,x,hr,h=>by
  simp only[aF]at hr;obtain⟨v,r,rfl,_,h2⟩:=hr;simp only[Bw.nth]at h;obtain⟨u,h3,h4⟩:=aF.nth h2 h;exact⟨u,by simpa using h3,h4⟩
theorem aF.drop:∀(n:Nat) {xs:List AV} {vs:List Value},aF w A xs vs->aF w A (xs.drop n) (vs.drop n)
 |0,_,_,h=>by simpa using h
 |n+1,[],_,h=>by simp only[aF]at h;subst h;simp[aF]
 |n+1,_::_,_,h=>by simp only[aF]at h;obtain⟨v,r,rfl,_,h⟩:=h;simpa using aF.drop n h
theorem aF.take:∀(n:Nat) {xs:List AV} {vs:List Value},aF w A xs vs->aF w A (xs.take n) (vs.take n)
 |0,_,_,_=>by simp[aF]
 |n+1,[],_,h=>by simp only[aF]at h;subst h;simp[aF]
 |n+1,_::_,_,h=>by simp only[aF]at h;obtain⟨v,r,rfl,h1,h⟩:=h;simp only[xo,aF];exact⟨v,_,rfl,h1,aF.take n h⟩
theorem aF.append:∀{xs ys:List AV} {vs us:List Value},aF w A xs vs->aF w A ys us->aF w A (xs++ys) (vs++us)
 |[],_,_,_,h,g=>by simp only[aF]at h;subst h;simpa using g
 |_::_,_,_,_,h,g=>by simp only[aF]at h;obtain⟨v,r,rfl,h1,h⟩:=h;simp only[ky,aF];exact⟨v,_,rfl,h1,aF.append h g⟩
theorem aF.set:∀{xs:List AV} {vs:List Value} (n:Nat) {x:AV} {v:Value},aF w A xs vs->Rel w A x v->aF w A (xs.set n x) (vs.set n v)
 |[],_,n,_,_,h,_=>by simp only[aF]at h;subst h;simp[aF]
 |_::_,_,0,_,_,h,g=>by simp only[aF]at h;obtain⟨v,r,rfl,_,h⟩:=h;simp only[uq,aF];exact⟨_,_,rfl,g,h⟩
 |_::_,_,n+1,_,_,h,g=>by simp only[aF]at h;obtain⟨v,r,rfl,h1,h⟩:=h;simp only[mT,aF];exact⟨_,_,rfl,h1,aF.set n h g⟩
theorem F6 {P:Program} {t:TypeId} {g:Bool} (hg:hasB P t=true) (ha:k9 P t=g) {xs:List AV} {vs:List Value} (hr:aF w A xs vs) {off:Nat} {x:AV}
  (h:qp g xs off (fP P t)=some x) (w':World):∃v,(part t vs.toArray off).run P w'= .ok v w'/\Rel w A x v:=by
 subst ha;simp only[part,Sem.run_bind,yZ hg,Result.andThen_ok,Sem.run_ite,kE hg,Sem.run_pure];cases hb:k9 P t with
 |true=>
  rw[hb]at h;simp only[qp,aA]at h;subst h;refine⟨_,by simp only[if_true];rfl,?_⟩;simp only[Rel];refine⟨(vs.drop off).take (fP P t),?_,(hr.drop off).take _⟩;congr 1;apply gI;simp[Wn]
 |false=>
  rw[hb]at h;simp only[qp]at h;obtain⟨v,h1,h2⟩:=hr.nth h;refine⟨v,?_,h2⟩;simp[h1]
