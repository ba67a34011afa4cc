/- The base of a program logic over the kit's wp calculus, second making: abstract values, what they say of a world, and that they stay true while other blocks change. -/
import Derived.WalkKit
set_option linter.all false
section
def ax:=@Option.bind_some
def aB:=@cond_true
def aC:=@cond_false
def aD:=@Option.some.injEq
def aM:=@if_neg
def aY:=@List.mem_of_getElem?
def bf:=@if_pos
def bK:=@Nat.eq_of_beq_eq_true
def bN:=@Bool.and_eq_true
def bU:=@List.mem_append
def bW:=@Nat.le_refl
def ck:=@List.mem_cons
def cr:=@List.getElem?_eq_some_iff
def cM:=@Prod.mk.injEq
def dj:=@List.map_cons
def dy:=@List.mem_map
def dH:=@decide_eq_false
def dN:=@decide_eq_true
def ep:=@Nat.le_of_ble_eq_true
def eN:=@List.take_length
def fA:=@Bool.not_true
def fB:=@List.take_add_one
def fI:=@List.getElem?_take
def fS:=@List.all_eq_true
def gm:=@Nat.mul_le_mul_right
def gD:=@List.length_cons
def gE:=@Array.getElem?_eq_some_iff
def gF:=@List.mem_flatMap
def iv:=@List.length_take
def iw:=@List.mem_filter
def iL:=@List.mem_singleton
def iM:=@List.eq_nil_of_length_eq_zero
def iN:=@Nat.add_mul
def iO:=@Nat.le_trans
def iV:=@of_decide_eq_true
def iW:=@Ne.symm
def jx:=@List.append_nil
def jy:=@List.length_map
def jz:=@List.getElem?_cons_zero
def jA:=@decide_eq_true_eq
def jB:=@List.getElem?_of_mem
def jQ:=@List.cons.injEq
def jR:=@List.cons_append
def jS:=@List.length_append
def ki:=@Bool.false_eq_true
def km:=@List.getElem?_map
def kn:=@Bool.not_eq_true'
def ko:=@Array.ext'
def kP:=@List.all_cons
def kQ:=@List.nodup_append
def lD:=@List.append_assoc
def lE:=@List.map_nil
def lF:=@List.length_set
def lG:=@List.length_nil
def lH:=@List.getElem?_eq_none
def mf:=@Nat.blt_eq
def mg:=@List.mem_append_left
def mh:=@List.getElem?_append_left
def mi:=@Nat.zero_add
def mj:=@Int.toNat_natCast
def mT:=@Nat.zero_le
def mU:=@List.getElem?_cons_succ
def mV:=@Nat.lt_or_ge
def mW:=@Bool.eq_iff_iff
def nU:=@List.ext_getElem?
def nV:=@Nat.lt_of_lt_of_le
def nW:=@Nat.lt_succ_iff_lt_or_eq
def oW:=@List.nil_append
def oX:=@List.map_append
def oY:=@List.length_replicate
def oZ:=@Option.some.inj
def qA:=@Nat.ble_eq_true_of_le
def qB:=@List.set_cons_succ
def qC:=@Bool.and_true
def qD:=@List.filter_cons
def qE:=@Nat.lt_irrefl
def sN:=@Array.getElem?_eq_none
def sO:=@List.flatMap_cons
def sP:=@List.contains_iff_mem
def sQ:=@Bool.or_eq_true
def xo:=@List.getElem?_append_right
def xp:=@Array.length_toList
def xq:=@Nat.mul_one
def xr:=@List.take_succ_cons
def xu:=@List.pairwise_cons
def xv:=@Nat.add_comm
def xw:=@List.getElem?_drop
def xx:=@Int.le_refl
def Dj:=@List.mem_range
def Dk:=@List.take_append_drop
def Dl:=@Array.getElem?_modify
def Dm:=@Array.getElem?_toList
def Dn:=@Nat.le_max_left
def Dp:=@Nat.le_max_right
def Dq:=@List.set_cons_zero
def Dr:=@Nat.beq_refl
def Ds:=@Nat.mul_comm
def Dt:=@Bool.not_false
def Dv:=@List.getElem?_set_ne
def Dw:=@List.mem_cons_of_mem
def Dx:=@Option.bind_fun_some
def Dy:=@List.length_filter_le
def Dz:=@List.zip_cons_cons
def DA:=@List.length_eq_zero_iff
def DB:=@List.map_replicate
def Ha:=@Nat.add_assoc
def Hb:=@List.map_take
def Hc:=@List.perm_append_comm
def Hd:=@List.size_toArray
def He:=@Nat.le_of_eq
def Hf:=@Array.getElem?_append
def Hg:=@List.getElem?_eq_getElem
def Hh:=@List.pairwise_iff_getElem
def Hk:=@Nat.le_mul_of_pos_right
def Hl:=@List.Sublist.refl
def Hm:=@Nat.one_mul
def Hn:=@Array.getD_eq_getD_getElem?
def Ho:=@Nat.le_succ
def Hq:=@List.any_eq_true
def Hr:=@List.drop_length
def Hs:=@List.filter_append
def PJ:=@List.map_set
def PK:=@List.mem_cons_self
def PL:=@Option.map_some
def PM:=@Option.map_none
def PN:=@List.map_toArray
def PO:=@Nat.le_add_right
def PQ:=@Nat.add_zero
def PR:=@List.length_pos_iff
def PS:=@List.getElem?_set_self
def PT:=@List.foldl_cons
def PU:=@List.nodup_cons
def PV:=@List.take_left
def PW:=@List.drop_eq_nil_of_le
def PX:=@List.getElem?_take_of_lt
def PY:=@Int.le_antisymm
def PZ:=@Bool.not_eq_false'
def aaa:=@Prod.mk.inj
def aab:=@List.map_drop
def aac:=@List.length_drop
def aad:=@Array.ext_getElem?
def aae:=@List.map_map
def aaf:=@List.contains_cons
def aag:=@Go.MapKept.run_getObj_map
def aah:=@Go.MapKept.run_findKey
def aai:=@Array.getElem?_setIfInBounds
def aaj:=@List.flatMap_nil
def aak:=@Option.map_eq_some_iff
def aal:=@Nat.div_add_mod
def aam:=@Option.getD_some
def aan:=@Nat.sub_zero
def aao:=@List.mem_filterMap
def aap:=@List.mem_erase_of_ne
def aaq:=@Array.setIfInBounds_comm
def aar:=@Nat.zero_mul
def aas:=@List.not_mem_nil
def aat:=@List.filter_eq_nil_iff
def aau:=@List.filter_eq_self
def aav:=@List.any_eq_false
def aaw:=@List.length_filterMap_le
def aax:=@List.getElem?_concat_length
def aay:=@List.idxOf_lt_length_of_mem
def aaz:=@List.mem_of_mem_take
def anE:=@List.mem_append_right
def anF:=@List.replicate_succ
def anG:=@List.singleton_append
def anH:=@List.take_of_length_le
def anI:=@List.sublist_append_right
def anJ:=@List.Sublist.append
def anK:=@List.getElem?_append
def anL:=@List.getElem?_singleton
def anM:=@List.extract_eq_take_drop
def anN:=@List.length_erase_of_mem
def anO:=@Array.toList_zipIdx
def anP:=@Array.mapM_eq_mapM_toList
def anQ:=@List.getElem_of_mem
def anR:=@Option.isSome_iff_exists
def anS:=@List.eq_nil_iff_forall_not_mem
def anT:=@List.filterMap_cons
def anU:=@Classical.byContradiction
noncomputable section
namespace Go.Bw
open Go
inductive AV where
 |v (x:Value)
 |sl (k:Nat) (rows:List (List AV))
 |agg (xs:List AV)
 |bQ (xs:List AV)
 |ip (cells:List AV)
 |own (tag b off:Nat)
 |os (tag:Nat) (a:Option Addr) (n c:Nat)
 |oe (tag:Nat) (v:Value) (n:Nat)
 |om (tag r:Nat)
 |fn (f:FuncId) (fs caps:List AV)
 |bJ (t:TypeId) (x:AV)
mutual
def Rel (w:World) (A:Nat->Prop):AV->Value->Prop
 | .v x,y=>y=x
 | .sl k rows,y=>(rows=[]/\∃a cap,y= .slice a 0 cap)\/∃b o cap vs,y= .slice (some ⟨b,o,none⟩) rows.length cap/\(b<w.heap.size/\A b)/\rows.length<=cap/\cap<=maxLen/\
   bl w A k rows vs/\∀j u,vs[j]? =some u->w.cell? ⟨b,o+j,none⟩=some u
 | .agg xs,y=>∃vs:List Value,y= .agg vs.toArray/\aL w A xs vs
 | .bQ xs,y=>∃vs:List Value,y= .tuple vs.toArray/\aL w A xs vs
 | .ip cs,y=>∃b o vs,y= .pointer (some ⟨b,o,none⟩)/\(b<w.heap.size/\A b)/\aL w A cs vs/\∀j u,vs[j]? =some u->w.cell? ⟨b,o+j,none⟩=some u
 | .own _ b off,y=>y= .pointer (some ⟨b,off,none⟩)
 | .os _ a n c,y=>y= .slice a n c
 | .oe _ v n,y=>∃b len cap,v= .slice (some ⟨b,0,none⟩) len cap/\y= .pointer (some ⟨b,n,none⟩)
 | .om _ r,y=>y= .map (some r)
 | .fn f fs cs,y=>∃us vs:List Value,y= .func (.func f) us.toArray vs.toArray/\aL w A fs us/\aL w A cs vs
 | .bJ t x,y=>∃u,y= .iface t u/\Rel w A x u
def aL (w:World) (A:Nat->Prop):List AV->List Value->Prop
 |[],vs=>vs=[]
 |x::xs,vs=>∃v r,vs=v::r/\Rel w A x v/\aL w A xs r
def bl (w:World) (A:Nat->Prop) (k:Nat):List (List AV)->List Value->Prop
 |[],vs=>vs=[]
 |r::rs,vs=>∃v1 v2,vs=v1++v2/\r.length=k/\aL w A r v1/\bl w A k rs v2
end
def dC (w:World) (A:Nat->Prop) (w':World) (A':Nat->Prop):Prop:=
 w.heap.size<=w'.heap.size/\∀b,b<w.heap.size->A b->A' b/\w'.heap[b]? =w.heap[b]?
theorem QS {w:World} {b o:Nat} {u:Value} (h:w.cell? ⟨b,o,none⟩=some u):b<w.heap.size:=World.block_lt_of_cell? w ⟨b,o,none⟩ h
section
variable {w w':World} {A A':Nat->Prop}
theorem aL.length:∀{xs:List AV} {vs:List Value},aL w A xs vs->vs.length=xs.length
 |[],_,h=>by simp only[aL]at h;simp[h]
 |_::_,_,h=>by simp only[aL]at h;obtain⟨v,r,rfl,_,h⟩:=h;simp[aL.length h]
theorem bl.length {k:Nat}:∀{xs:List (List AV)} {vs:List Value},bl w A k xs vs->vs.length=xs.length*k
 |[],_,h=>by simp only[bl]at h;simp[h]
 |_::_,_,h=>by
  simp only[bl]at h;obtain⟨v,r,rfl,hk,h1,h⟩:=h;simp[bl.length h,aL.length h1,hk,iN,xv]
mutual
theorem Rel.keep (h:dC w A w' A'):∀{x:AV} {v:Value},Rel w A x v->Rel w' A' x v
 | .v _,_,h1=>by simp only[Rel]at h1⊢;exact h1
 | .sl k rows,v,h1=>by
  simp only[Rel]at h1⊢;rcases h1 with h1|⟨b,o,cap,vs,h1,h2,h3,h4,h5,h6⟩
  ·exact .inl h1
  ·obtain⟨ha,he⟩:=h.2 b h2.1 h2.2;exact .inr ⟨b,o,cap,vs,h1,⟨nV h2.1 h.1,ha⟩,h3,h4,bl.keep h h5,λj u hu=>(World.cell?_of_block he).trans (h6 j u hu)⟩
 | .agg xs,_,h1=>by simp only[Rel]at h1⊢;obtain⟨vs,e,h2⟩:=h1;exact⟨vs,e,aL.keep h h2⟩
 | .bQ xs,_,h1=>by simp only[Rel]at h1⊢;obtain⟨vs,e,h2⟩:=h1;exact⟨vs,e,aL.keep h h2⟩
 | .ip cs,_,h1=>by
  simp only[Rel]at h1⊢;obtain⟨b,o,vs,h1,h2,h5,h6⟩:=h1;obtain⟨ha,he⟩:=h.2 b h2.1 h2.2;exact⟨b,o,vs,h1,⟨nV h2.1 h.1,ha⟩,aL.keep h h5,λj u hu=>(World.cell?_of_block he).trans (h6 j u hu)⟩
 | .own _ _ _,_,h1=>by simp only[Rel]at h1⊢;exact h1
 | .os _ _ _ _,_,h1=>by simp only[Rel]at h1⊢;exact h1
 | .oe _ _ _,_,h1=>by simp only[Rel]at h1⊢;exact h1
 | .om _ _,_,h1=>by simp only[Rel]at h1⊢;exact h1
 | .fn f fs cs,_,h1=>by simp only[Rel]at h1⊢;obtain⟨us,vs,e,h2,h3⟩:=h1;exact⟨us,vs,e,aL.keep h h2,aL.keep h h3⟩
 | .bJ t x,_,h1=>by simp only[Rel]at h1⊢;obtain⟨vs,e,h2⟩:=h1;exact⟨vs,e,Rel.keep h h2⟩
theorem aL.keep (h:dC w A w' A'):∀{x:List AV} {v:List Value},aL w A x v->aL w' A' x v
 |[],_,h1=>by simp only[aL]at h1⊢;exact h1
 |_::_,_,h1=>by simp only[aL]at h1⊢;obtain⟨v,r,e,h2,h3⟩:=h1;exact⟨v,r,e,Rel.keep h h2,aL.keep h h3⟩
theorem bl.keep (h:dC w A w' A'):∀{k:Nat} {x:List (List AV)} {v:List Value},bl w A k x v->bl w' A' k x v
 |_,[],_,h1=>by simp only[bl]at h1⊢;exact h1
 |_,_::_,_,h1=>by simp only[bl]at h1⊢;obtain⟨v,r,e,hk,h2,h3⟩:=h1;exact⟨v,r,e,hk,aL.keep h h2,bl.keep h h3⟩
end
end
inductive aw where
 |box (b:Nat) (cells:List AV)
 |row (v:Value) (e:TypeId) (k:Nat) (rows:List (List AV))
 |map (r:Nat) (es:List (Value×AV))
 |fact (x:AV) (v:Value)
 |gone
def aw.ids:aw->List Nat
 | .box b _=>[b]
 | .row v _ _ _=>v.ownBlock.toList
 | .map r _=>[r]
 | .fact _ _=>[]
 | .gone=>[]
def gb (w:World) (A:Nat->Prop):List (Value×AV)->List MapEntry->Prop
 |[],l=>l=[]
 |x::xs,l=>∃e r,l=e::r/\e.key=x.1/\Rel w A x.2 e.val/\gb w A xs r
def ids (L:List aw):List Nat:=L.flatMap aw.ids
def aw.ok (w:World) (A:Nat->Prop):aw->Prop
 | .box b cells=>∃e vs,w.heap[b]? =some (.cells (List.toArray vs) e (0,0))/\aL w A cells vs
 | .row v e k rows=>∃vs,bl w A k rows vs/\w.ownsRow 0 e k v rows.length vs
 | .map r es=>∃a clock,w.heap[r]? =some (.map (List.toArray a) clock)/\gb w A es a/\(a.map (·.born)).Nodup/\∀x∈a,x.born<clock
 | .fact x v=>Rel w A x v
 | .gone=>True
def Al (F:Nat->Prop) (L:List aw) (b:Nat):Prop:=¬F b/\b∉ids L
abbrev Gl:=List (Nat×List Value)
def w7 (G:Gl) (w:World) (A:Nat->Prop):Prop:=∀p∈G,A p.1/\∃e fz,w.heap[p.1]? =some (.cells p.2.toArray e fz)
structure bG (G:Gl) (w:World) (F:Nat->Prop) (L:List aw):Prop where
 eo:∀x∈L,x.ok w (Al F L)
 nodup:(ids L).Nodup
 free:∀b∈ids L,¬F b
 bound:∀b,F b->b<w.heap.size
 cm:w7 G w (Al F L)
def mP (w w':World):Prop:=w.drawn<=w'.drawn
theorem mP.of {w w':World} (h:w.drawn<=w'.drawn):mP w w':=h
theorem mP.trans {w w' w'':World} (h:mP w w') (g:mP w' w''):mP w w'':=iO h g
theorem mP.le {w w':World} (h:mP w w'):w.drawn<=w'.drawn:=h
structure Ext (L:List aw) (w:World) (L':List aw) (w':World):Prop where
 os:w'.os=w.os
 tape:w'.tape=w.tape
 output:w'.output=w.output
 size:w.heap.size<=w'.heap.size
 block:∀b,b<w.heap.size->b∉ids L->w'.heap[b]? =w.heap[b]?
 new:∀b∈ids L',b∈ids L\/w.heap.size<=b
 drawn:mP w w'
theorem Ext.refl (L:List aw) (w:World):Ext L w L w:=⟨rfl,rfl,rfl,bW _,λ_ _ _=>rfl,λ_ h=> .inl h,.of (bW _)⟩
theorem Ext.trans {L L' L'':List aw} {w w' w'':World} (h:Ext L w L' w') (g:Ext L' w' L'' w''):Ext L w L'' w'' where
 os:=g.os.trans h.os
 tape:=g.tape.trans h.tape
 output:=g.output.trans h.output
 size:=iO h.size g.size
 block:=λb hb hn=>(g.block b (nV hb h.size) (λhm=>(h.new b hm).elim hn (λhle=>absurd hb (Nat.not_lt.2 hle)))).trans (h.block b hb hn)
 new:=λb hb=>(g.new b hb).elim (λhm=>h.new b hm) (λhle=> .inr (iO h.size hle))
 drawn:=h.drawn.trans g.drawn
theorem Ext.keeps {L L':List aw} {w w':World} {F:Nat->Prop} (h:Ext L w L' w'):dC w (Al F L) w' (Al F L'):=
 ⟨h.size,λb hb ha=>⟨⟨ha.1,λhm=>(h.new b hm).elim ha.2 (λhle=>absurd hb (Nat.not_lt.2 hle))⟩,h.block b hb ha.2⟩⟩
theorem w7.keep {G:Gl} {w w':World} {A A':Nat->Prop} (h:w7 G w A) (hk:dC w A w' A'):w7 G w' A':=λp hp=>by
 obtain⟨ha,e,fz,hh⟩:=h p hp;have hlt:p.1<w.heap.size:=(gE.1 hh).1;obtain⟨h1,h2⟩:=hk.2 p.1 hlt ha;exact⟨h1,e,fz,h2.trans hh⟩
theorem gb.keep {w w':World} {A A':Nat->Prop} (h:dC w A w' A'):∀{es:List (Value×AV)} {l:List MapEntry},gb w A es l->gb w' A' es l
 |[],_,h1=>by simp only[gb]at h1⊢;exact h1
 |_::_,_,h1=>by simp only[gb]at h1⊢;obtain⟨v,r,e,h2,h3,h4⟩:=h1;exact⟨v,r,e,h2,Rel.keep h h3,gb.keep h h4⟩
theorem aw.ok.lt {w:World} {A:Nat->Prop} {x:aw} (h:x.ok w A):∀b∈x.ids,b<w.heap.size:=by
 intro b hb;cases x with
 |map c es=>simp[aw.ids]at hb;subst hb;obtain⟨e,vs,h1,_⟩:=h;exact(gE.1 h1).1
 |fact x v=>simp[aw.ids]at hb
 |gone=>simp[aw.ids]at hb
 |box c cells=>simp[aw.ids]at hb;subst hb;obtain⟨e,vs,h1,_⟩:=h;exact(gE.1 h1).1
 |row v e k rows=>obtain⟨vs,h1,h2⟩:=h;exact(h2.lt b (by simpa[aw.ids]using hb)).2
theorem bG.lt {G:Gl} {w:World} {F:Nat->Prop} {L:List aw} (h:bG G w F L):∀b∈ids L,b<w.heap.size:=by
 intro b hb;obtain⟨x,hx,hb⟩:=gF.1 hb;exact(h.eo x hx).lt b hb
theorem aw.ok.keep {w w':World} {A A':Nat->Prop} {x:aw} (h:x.ok w A) (hk:dC w A w' A') (hb:∀b∈x.ids,w'.heap[b]? =w.heap[b]?):x.ok w' A':=by
 cases x with
 |map c es=>obtain⟨e,vs,h1,h2,h3⟩:=h;exact⟨e,vs,(hb c (by simp[aw.ids])).trans h1,gb.keep hk h2,h3⟩
 |fact x v=>exact Rel.keep hk h
 |gone=>trivial
 |box c cells=>obtain⟨e,vs,h1,h2⟩:=h;exact⟨e,vs,(hb c (by simp[aw.ids])).trans h1,aL.keep hk h2⟩
 |row v e k rows=>
  obtain⟨vs,h1,h2,h3⟩:=h;refine⟨vs,bl.keep hk h1,h2,?_⟩;rcases h3 with h3|⟨g,cap,cur,hv,hg,hh,r⟩
  ·exact .inl h3
  ·exact .inr ⟨g,cap,cur,hv,hg,(hb g (by simp[aw.ids,hv,Value.ownBlock])).trans hh,r⟩
theorem cu (l r:List aw):ids (l++r)=ids l++ids r:=by simp[ids]
theorem cC (x:aw) (r:List aw):ids (x::r)=x.ids++ids r:=by simp[ids]
theorem bG.ly {G:Gl} {w w':World} {F:Nat->Prop} {l r:List aw} {x x':aw} (h:bG G w F (l++x::r)) (hsz:w.heap.size<=w'.heap.size)
  (hw:∀b,b<w.heap.size->b∉x.ids->w'.heap[b]? =w.heap[b]?) (hi:∀b∈x'.ids,b∈x.ids\/w.heap.size<=b) (hn:x'.ids.Nodup) (hx:x'.ok w' (Al F (l++x'::r))):bG G w' F (l++x'::r):=by
 have hlt:=h.lt;have hnd:=h.nodup;have hfr:=h.free;simp only[cu,cC,bU]at hlt hfr;simp only[cu,cC,kQ,bU]at hnd;have hk:dC w (Al F (l++x::r)) w' (Al F (l++x'::r)):=by
  refine⟨hsz,λb hb ha=>?_⟩;simp only[Al,cu,cC,bU,not_or]at ha⊢;refine⟨⟨ha.1,ha.2.1,λhm=>?_,ha.2.2.2⟩,hw b hb ha.2.2.1⟩;rcases hi b hm with h1|h1
  ·exact ha.2.2.1 h1
  ·omega
 have hoth:∀y,y∈l\/y∈r->y.ok w' (Al F (l++x'::r)):=by
  intro y hy;have hok:=h.eo y (by rcases hy with hy|hy<;>simp[hy]);refine hok.keep hk λb hb=>hw b (hok.lt b hb) λhbx=>?_;rcases hy with hy|hy
  ·exact hnd.2.2 b (by exact gF.2 ⟨y,hy,hb⟩) b (.inl hbx) rfl
  ·exact hnd.2.1.2.2 b hbx b (gF.2 ⟨y,hy,hb⟩) rfl
 refine⟨λy hy=>?_,?_,λb hb=>?_,λb hb=>nV (h.bound b hb) hsz,h.cm.keep hk⟩
 ·simp only[bU,ck]at hy;rcases hy with hy|rfl|hy
  ·exact hoth y (.inl hy)
  ·exact hx
  ·exact hoth y (.inr hy)
 ·simp only[cu,cC,kQ,bU];refine⟨hnd.1,⟨hn,hnd.2.1.2.1,λa ha b hb hab=>?_⟩,λa ha b hb hab=>?_⟩
  ·subst hab;rcases hi a ha with h1|h1
   ·exact hnd.2.1.2.2 a h1 a hb rfl
   ·have:=hlt a (.inr (.inr hb));omega
  ·subst hab;rcases hb with hb|hb
   ·rcases hi a hb with h1|h1
    ·exact hnd.2.2 a ha a (.inl h1) rfl
    ·have:=hlt a (.inl ha);omega
   ·exact hnd.2.2 a ha a (.inr hb) rfl
 ·simp only[cu,cC,bU]at hb;rcases hb with hb|hb|hb
  ·exact hfr b (.inl hb)
  ·rcases hi b hb with h1|h1
   ·exact hfr b (.inr (.inl h1))
   ·intro hF;have:=h.bound b hF;omega
  ·exact hfr b (.inr (.inr hb))
theorem bG.push {G:Gl} {w w':World} {F:Nat->Prop} {L:List aw} {x:aw} (h:bG G w F L) (hsz:w.heap.size<=w'.heap.size)
  (hw:∀b,b<w.heap.size->w'.heap[b]? =w.heap[b]?) (hi:∀b∈x.ids,w.heap.size<=b) (hn:x.ids.Nodup) (hx:x.ok w' (Al F (L++[x]))):bG G w' F (L++[x]):=by
 have hk:dC w (Al F L) w' (Al F (L++[x])):=by
  refine⟨hsz,λb hb ha=>?_⟩;simp only[Al,cu,cC,bU,not_or]at ha⊢;exact⟨⟨ha.1,ha.2,λhm=>by have:=hi b hm;omega,by simp[ids]⟩,hw b hb⟩
 refine⟨λy hy=>?_,?_,λb hb=>?_,λb hb=>nV (h.bound b hb) hsz,h.cm.keep hk⟩
 ·simp only[bU,ck,aas,or_false]at hy;rcases hy with hy|rfl
  ·exact(h.eo y hy).keep hk λb hb=>hw b ((h.eo y hy).lt b hb)
  ·exact hx
 ·simp only[cu,cC,kQ,bU];refine⟨h.nodup,⟨hn,by simp[ids],λa _ b hb=>by simp[ids]at hb⟩,λa ha b hb hab=>?_⟩;subst hab;rcases hb with hb|hb
  ·have h1:=h.lt a ha;have h2:=hi a hb;omega
  ·simp[ids]at hb
 ·simp only[cu,cC,bU]at hb;rcases hb with hb|hb|hb
  ·exact h.free b hb
  ·intro hF;have h1:=h.bound b hF;have h2:=hi b hb;omega
  ·simp[ids]at hb
abbrev Sg:=List (Nat×AV)
def look:Sg->Nat->Option AV
 |[],_=>none
 |(k,x)::r,t=>match Nat.beq k t with
  |true=>some x
  |false=>look r t
abbrev Sl:=Nat->Option AV
abbrev gz (w:World) (A:Nat->Prop) (N:Nat) (a:Act) (s:Sl):Prop:=
 a.tmps.size=N/\∀t x,s t=some x->t<N/\Rel w A x (a.tmps.getD t undef)
abbrev sn (w:World) (A:Nat->Prop) (N:Nat) (a:Act) (O:Sg):Prop:=gz w A N a (look O)
theorem sn.keep {w w':World} {A A':Nat->Prop} {N:Nat} {a:Act} {O:Sg} (h:sn w A N a O) (hk:dC w A w' A'):sn w' A' N a O:=
 ⟨h.1,λt x hx=>⟨(h.2 t x hx).1,Rel.keep hk (h.2 t x hx).2⟩⟩
theorem P5 (tmps:Array Value) (d:Nat) (v:Value) (h:d<tmps.size):(tmps.setIfInBounds d v).getD d undef=v:=by
 simp[Array.getD,h]
theorem P4 (tmps:Array Value) (d t:Nat) (v:Value) (h:d≠t):(tmps.setIfInBounds d v).getD t undef=tmps.getD t undef:=by
 simp only[Hn,aai,h,if_false]
def lX (dst:Option Nat) (x:AV) (O:Sg):Sg:=
 match dst with
 |some d=>(d,x)::O
 |none=>O
theorem sn.put {w:World} {A:Nat->Prop} {N:Nat} {a:Act} {O:Sg} (h:sn w A N a O) (dst:Option Nat) (hd:∀d,dst=some d->d<N) {x:AV} {v:Value} (hx:Rel w A x v):
  sn w A N (a.put dst v) (lX dst x O):=by
 cases dst with
 |none=>exact h
 |some d=>
  refine⟨by simp[Act.put,h.1],λt y hy=>?_⟩;simp only[lX,look]at hy;by_cases hdt:d=t
  ·subst hdt;have:Nat.beq d d=true:=Dr d;rw[this]at hy;simp only[aD]at hy;subst hy;refine⟨hd d rfl,?_⟩;simp only[Act.put];rw[P5 _ _ _ (by rw[h.1];exact hd d rfl)];exact hx
  ·have:Nat.beq d t=false:=by cases hb:Nat.beq d t with
    |false=>rfl
    |true=>exact absurd (bK hb) hdt
   rw[this]at hy;simp only at hy;obtain⟨h1,h2⟩:=h.2 t y hy;refine⟨h1,?_⟩;simp only[Act.put];rw[P4 _ _ _ _ hdt];exact h2
structure St (G:Gl) (N:Nat) (w:World) (F:Nat->Prop) (a:Act) (O:Sg) (L:List aw):Prop where
 sg:sn w (Al F L) N a O
 hp:bG G w F L
 df:a.defers=[]
inductive AE where
 |norm
 |exit (id:Nat)
 |ret
 |aS (x:AV)
def AE.rel (w:World) (A:Nat->Prop):AE->Exit->Prop
 | .norm,e=>e= .normal
 | .exit i,e=>e= .exit i
 | .ret,e=>e= .ret
 | .aS x,e=>∃v,e= .panic [{v,recovered:=false}]/\Rel w A x v
abbrev AQ:=AE->Sg->List aw->Prop
def AE.sl (e:AE) (O:Sg):Sg:=match e with
 | .aS _=>[]
 |_=>O
def CQ (G:Gl) (N:Nat) (F:Nat->Prop) (w0:World) (L0:List aw) (Q:AQ) (e:Exit) (a:Act) (w:World):Prop:=
 ∃e0 O L,Q e0 (e0.sl O) L/\AE.rel w (Al F L) e0 e/\St G N w F a (e0.sl O) L/\Ext L0 w0 L w
structure Cx where
 P:Program
 G:Gl
def b7 (C:Cx) (N:Nat) (c:Code) (Q:AQ) (O:Sg) (L:List aw):Prop:=
 ∀F w0 L0 a w,St C.G N w F a O L->Ext L0 w0 L w->c.wp C.P (CQ C.G N F w0 L0 Q) a w
abbrev AE.then (next:Sg->List aw->Prop) (Q:AQ):AQ:=λe O L=>match e with
 | .norm=>next O L
 | .exit i=>Q (.exit i) O L
 | .ret=>Q .ret O L
 | .aS x=>Q (.aS x) O L
abbrev AE.inBlock (id:Nat) (Q:AQ):AQ:=λe O L=>match e with
 | .norm=>Q .norm O L
 | .exit i=>match Nat.beq i id with
  |true=>Q .norm O L
  |false=>Q (.exit i) O L
 | .ret=>Q .ret O L
 | .aS x=>Q (.aS x) O L
section
variable {C:Cx} {N:Nat} {Q:AQ} {O:Sg} {L:List aw}
theorem CQ.intro {G:Gl} {F:Nat->Prop} {w0:World} {L0:List aw} {e:Exit} {a:Act} {w:World} (e0:AE) (hr:AE.rel w (Al F L) e0 e) (hQ:Q e0 (e0.sl O) L) (hs:St G N w F a (e0.sl O) L) (hx:Ext L0 w0 L w):CQ G N F w0 L0 Q e a w:=
 ⟨e0,O,L,hQ,hr,hs,hx⟩
theorem b7.skip (h:Q .norm O L):b7 C N .skip Q O L:=λ_ _ _ _ _ hs hx=>wp_skip (CQ.intro .norm rfl h hs hx)
theorem b7.exit {id:Nat} (h:Q (.exit id) O L):b7 C N (.exit id) Q O L:=λ_ _ _ _ _ hs hx=>wp_exit (CQ.intro (.exit id) rfl h hs hx)
theorem b7.ret (h:Q .ret O L):b7 C N .ret Q O L:=λ_ _ _ _ _ hs hx=>wp_ret (CQ.intro .ret rfl h hs hx)
theorem b7.label {l:Nat} (h:Q .norm O L):b7 C N (.label l) Q O L:=λ_ _ _ _ _ hs hx=>wp_label (CQ.intro .norm rfl h hs hx)
theorem b7.mono {c:Code} {Q':AQ} (h:b7 C N c Q O L) (hq:∀e O L,Q e O L->Q' e O L):b7 C N c Q' O L:=λF w0 L0 a w hs hx=>
 wp_mono (h F w0 L0 a w hs hx) λ_ _ _ ⟨e0,O',L',h1,h2⟩=>⟨e0,O',L',hq _ _ _ h1,h2⟩
theorem b7.seq {x y:Code} (h:b7 C N x (AE.then (b7 C N y Q) Q) O L):b7 C N (.seq x y) Q O L:=λF w0 L0 a w hs hx=>by
 refine wp_seq (wp_mono (h F w0 L0 a w hs hx) ?_);rintro e a' w' ⟨e0,O',L',h1,h2,h3,h4⟩;cases e0 with
 |norm=>simp only[AE.rel]at h2;subst h2;exact h1 F w0 L0 a' w' h3 h4
 |exit i=>simp only[AE.rel]at h2;subst h2;exact⟨.exit i,O',L',h1,rfl,h3,h4⟩
 |ret=>simp only[AE.rel]at h2;subst h2;exact⟨.ret,O',L',h1,rfl,h3,h4⟩
 |aS x=>obtain⟨v,rfl,h2⟩:=h2;exact⟨.aS x,O',L',h1,⟨v,rfl,h2⟩,h3,h4⟩
theorem b7.block {id:Nat} {c:Code} (h:b7 C N c (AE.inBlock id Q) O L):b7 C N (.block id c) Q O L:=λF w0 L0 a w hs hx=>by
 refine wp_block (wp_mono (h F w0 L0 a w hs hx) ?_);rintro e a' w' ⟨e0,O',L',h1,h2,h3,h4⟩;cases e0 with
 |norm=>simp only[AE.rel]at h2;subst h2;exact⟨.norm,O',L',h1,rfl,h3,h4⟩
 |exit i=>
  simp only[AE.rel]at h2;subst h2;simp only[Exit.inBlock];by_cases hi:i=id
  ·subst hi;simp only[AE.inBlock,Dr]at h1;rw[bf rfl];exact⟨.norm,O',L',h1,rfl,h3,h4⟩
  ·rw[aM hi];have:Nat.beq i id=false:=by cases hb:Nat.beq i id with
    |false=>rfl
    |true=>exact absurd (bK hb) hi
   simp only[AE.inBlock,this]at h1;exact⟨.exit i,O',L',h1,rfl,h3,h4⟩
 |ret=>simp only[AE.rel]at h2;subst h2;exact⟨.ret,O',L',h1,rfl,h3,h4⟩
 |aS x=>obtain⟨v,rfl,h2⟩:=h2;exact⟨.aS x,O',L',h1,⟨v,rfl,h2⟩,h3,h4⟩
def ev (s:Sl):Operand->Option AV
 | .tmp t=>s t
 | .const v=>some (.v v)
 | .global g=>some (.v (.pointer (some ⟨g,0,none⟩)))
 | .func f=>some (.v (.func (.func f) #[] #[]))
theorem bC {w:World} {A:Nat->Prop} {a:Act} {s:Sl} (hs:gz w A N a s) {o:Operand} {x:AV} (h:ev s o=some x):Rel w A x (a.eval o):=by
 cases o with
 |tmp t=>exact(hs.2 t x h).2
 |const v=>simp only[ev,aD]at h;subst h;simp[Rel,Act.eval]
 |global g=>simp only[ev,aD]at h;subst h;simp[Rel,Act.eval]
 |func f=>simp only[ev,aD]at h;subst h;simp[Rel,Act.eval]
theorem b7.cond {c:Operand} {x y:Code} {t:Bool} (hc:ev (look O) c=some (.v (.bool t))) (h1:t=true->b7 C N x Q O L) (h2:t=false->b7 C N y Q O L):b7 C N (.cond c x y) Q O L:=
 λF w0 L0 a w hs hx=>by
  have he:=bC hs.sg hc;simp only[Rel]at he;exact wp_cond_split he (λht=>h1 ht F w0 L0 a w hs hx) (λht=>h2 ht F w0 L0 a w hs hx)
def eZ (G:Gl) (N:Nat) (O:Sg) (L:List aw) (O':Sg) (L':List aw):Prop:=
 ∀F w a,St G N w F a O L->St G N w F a O' L'/\∀b∈ids L',b∈ids L
theorem b7.ln {c:Code} {O':Sg} {L':List aw} (hw:eZ C.G N O L O' L') (h:b7 C N c Q O' L'):b7 C N c Q O L:=λF w0 L0 a w hs hx=>by
 obtain⟨h1,h2⟩:=hw F w a hs;exact h F w0 L0 a w h1 (hx.trans ⟨rfl,rfl,rfl,bW _,λ_ _ _=>rfl,λb hb=> .inl (h2 b hb),.of (bW _)⟩)
def pick:List Nat->Sg->Option Sg
 |[],_=>some []
 |t::ts,O=>match look O t,pick ts O with
  |some x,some r=>some ((t,x)::r)
  |_,_=>none
end
end Go.Bw
end

section
noncomputable section
namespace Go.Bw
open Go
inductive TD where
 |struct (fs:List (Nat×Nat×Nat×Bool))
 |slice (e k:Nat)
 |array (n e k:Nat) (g:Bool)
 |int (k:IntKind)
 |str
 |bool
 |iface
 |other
structure TI where
 d:TD
 size:Nat
 bytes:Nat
 zero:List Value
def FW:Value->Value->Bool
 | .bool a,.bool b=>a==b
 | .int k a,.int k' b=>decide (k=k')&&a==b
 | .string s,.string t=>s.data.toList==t.data.toList
 | .pointer none,.pointer none=>true
 | .slice none 0 0,.slice none 0 0=>true
 | .map none,.map none=>true
 | .nilFunc,.nilFunc=>true
 | .func (.func f) a b,.func (.func g) c d=>Nat.beq f g&&(a.toList.isEmpty&&b.toList.isEmpty&&(c.toList.isEmpty&&d.toList.isEmpty))
 | .nilIface,.nilIface=>true
 |_,_=>false
theorem TM {a b:Value} (h:FW a b=true):a=b:=by
 unfold FW at h;split at h<;>first|rfl|(simp_all;done)|cases h|skip
 ·rename_i s t;cases s;cases t;rename_i s t;cases s;cases t
  simp_all
def vI:List Value->List Value->Bool
 |[],[]=>true
 |a::as,b::bs=>FW a b&&vI as bs
 |_,_=>false
theorem SG:∀{a b:List Value},vI a b=true->a=b
 |[],[],_=>rfl
 |a::as,b::bs,h=>by
  simp only[vI,bN]at h;rw[TM h.1,SG h.2]
 |[],_::_,h=>by simp[vI]at h
 |_::_,[],h=>by simp[vI]at h
def iR (P:Program) (t:Nat):Nat:=match P.info? t with
 |some i=>i.size
 |none=>0
def nO (P:Program) (t:Nat):Bool:=match P.underlying t with
 |some (.struct _)=>true
 |some (.array _ _)=>true
 |_=>false
def hasB (P:Program) (t:Nat):Bool:=(P.underlying t).isSome&&(P.info? t).isSome
def gX (P:Program) (d:TD) (u:TypeDesc):Bool:=match d,u with
 | .struct fs,.struct gs=>decide (gs.toList.map (λ(f:Field)=>(f.offset,f.type,iR P f.type,nO P f.type))=fs)&&fs.all λf=>hasB P f.2.1&&Nat.blt 0 f.2.2.1
 | .slice e k,.slice e'=>e==e'&&k==iR P e&&hasB P e
 | .array n e k g,.array n' e'=>n==n'&&e==e'&&k==iR P e&&g==nO P e&&hasB P e&&Nat.blt 1 n
 | .int k,.int k'=>decide (k=k')
 | .str,.string=>true
 | .bool,.bool=>true
 | .iface,.interface _=>true
 | .other,.interface _=>false
 | .other,.struct _=>false
 | .other,.array _ _=>false
 | .other,_=>true
 |_,_=>false
def ma (P:Program) (t:Nat) (i:TI):Bool:=match P.underlying t,P.info? t with
 |some u,some ti=>gX P i.d u&&ti.size==i.size&&ti.bytes==i.bytes&&(match ti.zero with|some z=>vI z.cells.toList i.zero&&Nat.beq i.zero.length i.size|none=>false)
 |_,_=>false
inductive Tr (D:Type) where
 |lf
 |nd (x:Option D) (l r:Tr D)
def kH (n:Nat):Nat:=match n with
 |0=>0
 |m+1=>Nat.mod (m+1) 2
def jk (n:Nat):Nat:=match n with
 |0=>0
 |m+1=>Nat.div (m+1) 2
theorem mn (n:Nat):kH n=Nat.mod n 2:=by cases n<;>rfl
theorem mo (n:Nat):jk n=Nat.div n 2:=by cases n<;>rfl
def Tr.get {D:Type}:Tr D->Nat->Option D
 | .lf,_=>none
 | .nd x l r,n=> @Bool.rec (λ_=>Option D) (@Bool.rec (λ_=>Option D) (r.get (Nat.pred (jk n))) (l.get (jk n)) (Nat.beq (kH n) 1)) x (Nat.beq n 0)
theorem Tr.kY {D:Type} (n:Nat):(Tr.lf:Tr D).get n=none:=rfl
theorem Tr.pP {D:Type} (x:Option D) (l r:Tr D) (n:Nat):(Tr.nd x l r).get n=match Nat.beq n 0 with
  |true=>x
  |false=>match Nat.beq (kH n) 1 with
   |true=>l.get (jk n)
   |false=>r.get (Nat.pred (jk n)):=by
 rw[Tr.get]
 all_goals cases Nat.beq n 0
 all_goals first|rfl|(cases Nat.beq (kH n) 1<;>rfl)
def Tr.jj {D:Type} (p:Nat->D->Bool):Tr D->Nat->Nat->Bool
 | .lf,_,_=>true
 | .nd x l r,a,b=>(match x with
  |some y=>p b y
  |none=>true)&&(l.jj p (2*a) (a+b)&&r.jj p (2*a) (2*a+b))
theorem Tr.ID {D:Type} {p:Nat->D->Bool}:∀{t:Tr D} {a b n:Nat} {x:D},t.jj p a b=true->t.get n=some x->p (a*n+b) x=true
 | .lf,_,_,_,_,_,h=>by simp[Tr.kY]at h
 | .nd y l r,a,b,n,x,hall,h=>by
  simp only[Tr.jj,bN]at hall;simp only[Tr.pP,mn,mo]at h;cases h0:Nat.beq n 0 with
  |true=>
   rw[h0]at h;have:=bK h0;subst this;simp only at h;subst h;simpa using hall.1
  |false=>
   rw[h0]at h;have hne:n≠0:=λe=>by subst e;simp[Nat.beq]at h0
   simp only at h;cases h1:Nat.beq (Nat.mod n 2) 1 with
   |true=>
    rw[h1]at h;have h1:=bK h1;change n%2=1 at h1;have:=Tr.ID hall.2.1 h;have e:2*a*Nat.div n 2+(a+b)=a*n+b:=by
     change 2*a*(n/2)+(a+b)=a*n+b;have:n=2*(n/2)+1:=by omega
     generalize n/2=m at this;subst this;rw[Nat.mul_add,xq,<-Nat.mul_assoc,Ds a 2];omega
    rwa[e]at this
   |false=>
    rw[h1]at h;have h1:¬n%2=1:=λe=>by
     have:Nat.beq (Nat.mod n 2) 1=true:=by change Nat.beq (n%2) 1=true;rw[e];rfl
     rw[h1]at this;cases this
    have:=Tr.ID hall.2.2 h;have e:2*a*Nat.pred (Nat.div n 2)+(2*a+b)=a*n+b:=by
     change 2*a*(n/2-1)+(2*a+b)=a*n+b;have:n=2*(n/2-1)+2:=by omega
     generalize n/2-1=m at this;subst this;rw[Nat.mul_add,<-Nat.mul_assoc,Ds a 2];omega
    rwa[e]at this
abbrev b8:=Tr TI
def bc (T:b8) (t:Nat):Option TI:=T.get t
def Ad (P:Program) (T:b8):Prop:=∀t i,bc T t=some i->ma P t i=true
theorem adh {P:Program} {T:b8} (h:T.jj (ma P) 1 0=true):Ad P T:=λt i hi=>by
 have:=Tr.ID h hi;simpa using this
structure Env extends Cx where
 T:b8
 tok:Ad P T
section
variable {P:Program} {t:Nat} {i:TI}
theorem fh (h:ma P t i=true):∃u ti,P.underlying t=some u/\P.info? t=some ti/\gX P i.d u=true/\ti.size=i.size/\ti.bytes=i.bytes/\∃z,ti.zero=some z/\z.cells.toList=i.zero:=by
 unfold ma at h;split at h
 ·rename_i u ti hu hi;simp only[bN,beq_iff_eq]at h;obtain⟨⟨⟨h1,h2⟩,h3⟩,h4⟩:=h;split at h4
  ·rename_i z hz;simp only[bN]at h4;exact⟨u,ti,hu,hi,h1,h2,h3,z,hz,SG h4.1⟩
  ·cases h4
 ·cases h
theorem Et (h:ma P t i=true):i.zero.length=i.size:=by
 unfold ma at h;split at h
 ·simp only[bN,beq_iff_eq]at h;obtain⟨⟨⟨h1,h2⟩,h3⟩,h4⟩:=h;split at h4
  ·simp only[bN]at h4;exact bK h4.2
  ·cases h4
 ·cases h
theorem IB (h:ma P t i=true) (w:World):(sizeOf t).run P w= .ok i.size w:=by
 obtain⟨u,ti,_,hi,_,hs,_⟩:=fh h;simp[sizeOf,typeInfo,hi,hs]
theorem lJ (h:hasB P t=true) (w:World):(sizeOf t).run P w= .ok (iR P t) w:=by
 simp only[hasB,bN,anR]at h;obtain⟨_,ti,hi⟩:=h;simp[sizeOf,typeInfo,iR,hi]
theorem IA (h:hasB P t=true) (w:World):(isAgg t).run P w= .ok (nO P t) w:=by
 simp only[hasB,bN,anR]at h;obtain⟨⟨u,hu⟩,_⟩:=h;simp only[isAgg,Sem.run_bind,run_underlying hu,Result.andThen_ok,nO,hu];cases u<;>rfl
def TD.agg:TD->Bool
 | .struct _=>true
 | .array _ _ _ _=>true
 |_=>false
theorem afa (h:ma P t i=true) (w:World):(isAgg t).run P w= .ok i.d.agg w:=by
 obtain⟨u,ti,hu,_,hd,_⟩:=fh h;simp only[isAgg,Sem.run_bind,run_underlying hu,Result.andThen_ok];cases hid:i.d<;>cases u<;>simp_all [gX,TD.agg]
theorem Ht {fs:List (Nat×Nat×Nat×Bool)} (h:ma P t i=true) (hd:i.d= .struct fs):∃gs:Array Field,P.underlying t=some (.struct gs)/\
  ∀(j o ft k:Nat) (g:Bool),fs[j]? =some (o,ft,k,g)->∃f:Field,gs[j]? =some f/\f.offset=o/\f.type=ft/\iR P ft=k/\nO P ft=g/\hasB P ft=true/\0<k:=by
 obtain⟨u,ti,hu,_,hd',_⟩:=fh h;rw[hd]at hd';cases u<;>simp only[gX,ki]at hd';rename_i gs;simp only[bN,jA]at hd';obtain⟨hm,hall⟩:=hd';refine⟨gs,hu,λj o ft k g hj=>?_⟩;have hin:(o,ft,k,g)∈fs:=aY hj;have hh:=fS.1 hall _ hin;simp only[bN]at hh;rw[<-hm,km]at hj;cases hg:gs.toList[j]? with
 |none=>rw[hg]at hj;cases hj
 |some f=>
  rw[hg]at hj;simp only[PL,aD,cM]at hj;obtain⟨e1,e2,e3,e4⟩:=hj;refine⟨f,by simpa using hg,e1,e2,by rw[<-e2];exact e3,by rw[<-e2];exact e4,hh.1,by have:=hh.2;rwa[mf]at this⟩
theorem aaA {fs:List (Nat×Nat×Nat×Bool)} (h:ma P t i=true) (hd:i.d= .struct fs):∃gs:Array Field,P.underlying t=some (.struct gs)/\
  (∀(j o ft k:Nat) (g:Bool),fs[j]? =some (o,ft,k,g)->∃f:Field,gs[j]? =some f/\f.offset=o/\f.type=ft/\iR P ft=k/\nO P ft=g/\hasB P ft=true/\0<k)/\
  ∀j (hj:j<gs.toList.length),hasB P gs.toList[j].type=true:=by
 obtain⟨gs,hu,h4⟩:=Ht h hd;refine⟨gs,hu,h4,λj hj=>?_⟩;obtain⟨u,ti,hu',_,hd',_⟩:=fh h;rw[hu]at hu';cases hu';rw[hd]at hd';simp only[gX,bN,jA]at hd';obtain⟨hm,_⟩:=hd';have hl:j<fs.length:=by rw[<-hm];simpa using hj
 obtain⟨f,h5,h6,h7,_,_,h8,_⟩:=h4 j fs[j].1 fs[j].2.1 fs[j].2.2.1 fs[j].2.2.2 (by simp[hl]);have:gs.toList[j]=f:=by
  have:=(gE.1 h5).2;simpa using this
 rw[this,h7];exact h8
end
def Lp (op:BinOp) (x y:Value):Option Value:=
 match x,y with
 | .int k a,.int k' b=>match decide (k=k')with
  |false=>none
  |true=>match op with
   | .add=>some (.int k (k.wrap (a+b)))
   | .sub=>some (.int k (k.wrap (a-b)))
   | .mul=>some (.int k (k.wrap (a*b)))
   | .eql=>some (.bool (a==b))
   | .neq=>some (.bool (a !=b))
   | .lss=>some (.bool (decide (a<b)))
   | .leq=>some (.bool (decide (a<=b)))
   | .gtr=>some (.bool (decide (a>b)))
   | .geq=>some (.bool (decide (a>=b)))
   | .rem=>match decide (b=0)with
    |true=>none
    |false=>some (.int k (a.tmod b))
   | .quo=>match decide (b=0)with
    |true=>none
    |false=>some (.int k (k.wrap (a.tdiv b)))
   |_=>none
 | .string a,.string b=>match op with
  | .eql=>some (.bool (a.data.toList==b.data.toList))
  | .neq=>some (.bool (!(a.data.toList==b.data.toList)))
  | .lss=>some (.bool (Op.bytesLess a.data.toList b.data.toList))
  | .leq=>some (.bool (Op.bytesLess a.data.toList b.data.toList||a.data.toList==b.data.toList))
  | .gtr=>some (.bool (!(Op.bytesLess a.data.toList b.data.toList||a.data.toList==b.data.toList)))
  | .geq=>some (.bool (!Op.bytesLess a.data.toList b.data.toList))
  |_=>none
 |_,_=>none
theorem adw {P : Program} {op : BinOp} {t : TypeId} {x y : Operand} {u v r : Value} (h : Lp op u v = some r) (w : World) :
    (do eqGuard op t x y u v; binOp op t u v : Sem Value).run P w = .ok r w := by
  unfold Lp at h
  split at h
  · rename_i k a k' b
    split at h
    · cases h
    · rename_i hk
      have hk : k = k' := iV hk
      subst hk
      cases op <;> simp only at h <;> first
        | (cases h; done)
        | (simp only [aD] at h; subst h; simp [eqGuard_at_int, binOp, Op.intArith, Op.intCmp]; done)
        | (split at h
           · cases h
           · rename_i hb
             have hb : ¬ b = 0 := of_decide_eq_false hb
             simp only [aD] at h; subst h
             simp [eqGuard_at_int, binOp, Op.intDiv, hb])
  · cases op <;> simp only at h <;> first
      | (cases h; done)
      | (simp only [aD] at h; subst h; simp [eqGuard_at_string, binOp, Op.stringOp, ByteArray.toList_eq]; done)
  · cases h
def Lq (op:BinOp) (x y:Value):Option Value:=
 match x,y with
 | .int k a,.int k' b=>match op with
  | .shl=>match decide (b<0)with
   |true=>none
   |false=>some (.int k (k.wrap (a*2^min b.toNat k.bits)))
  | .shr=>match decide (b<0)with
   |true=>none
   |false=>some (.int k (a.fdiv (2^min b.toNat k.bits)))
  | .and=>match decide (k=k')with
   |false=>none
   |true=>some (.int k (k.wrap ((BitVec.ofInt k.bits a&&&BitVec.ofInt k.bits b).toNat:Int)))
  | .or=>match decide (k=k')with
   |false=>none
   |true=>some (.int k (k.wrap ((BitVec.ofInt k.bits a|||BitVec.ofInt k.bits b).toNat:Int)))
  | .xor=>match decide (k=k')with
   |false=>none
   |true=>some (.int k (k.wrap ((BitVec.ofInt k.bits a^^^BitVec.ofInt k.bits b).toNat:Int)))
  | .andNot=>match decide (k=k')with
   |false=>none
   |true=>some (.int k (k.wrap ((BitVec.ofInt k.bits a&&& ~~~BitVec.ofInt k.bits b).toNat:Int)))
  |_=>none
 |_,_=>none
theorem adx {P:Program} {op:BinOp} {t:TypeId} {x y:Operand} {u v r:Value} (h:Lq op u v=some r) (w:World):
  (do eqGuard op t x y u v;binOp op t u v:Sem Value).run P w= .ok r w:=by
 unfold Lq at h;split at h
 ·rename_i k a k' b;cases op<;>simp only at h<;>try (cases h;done)
  all_goals (split at h<;>try (cases h;done))
  all_goals simp only[aD]at h
  all_goals subst h
  all_goals rename_i hk
  all_goals (simp only[jA,decide_eq_false_iff_not]at hk)
  all_goals first
   |(subst hk;simp[eqGuard_at_int,binOp,Op.intBits];done)
   |(simp[eqGuard,binOp,Op.shift,hk];done)
 ·cases h
def nth {D:Type}:List D->Nat->Option D
 |[],_=>none
 |x::_,0=>some x
 |_::r,n+1=>nth r n
theorem cG {D:Type}:∀(l:List D) (n:Nat),nth l n=l[n]?
 |[],_=>by simp[nth]
 |x::_,0=>by simp[nth]
 |_::r,n+1=>by simp[nth,cG r n]
def vH (g:Bool) (xs:List AV) (off k:Nat):Option AV:=match g with
 |true=>some (.agg ((xs.drop off).take k))
 |false=>nth xs off
def fits:List AV->Nat->Bool
 |_,0=>true
 |[],_+1=>false
 |_::r,n+1=>fits r n
theorem TV:∀{l:List AV} {n:Nat},fits l n=true->n<=l.length
 |_,0,_=>mT _
 |[],_+1,h=>by simp[fits]at h
 |_::r,n+1,h=>by simp only[fits]at h;have:=TV h;simp;omega
section
variable {w:World} {A:Nat->Prop}
theorem aL.nth:∀{xs:List AV} {vs:List Value} {n:Nat} {x:AV},aL w A xs vs->Bw.nth xs n=some x->∃v,vs[n]? =some v/\Rel w A x v
 |[],_,_,_,_,h=>by simp[Bw.nth]at h
 |y::_,vs,0,x,hr,h=>by
  simp only[aL]at hr;obtain⟨v,r,rfl,h1,_⟩:=hr;simp only[Bw.nth,aD]at h;subst h;exact⟨v,by simp,h1⟩
 |_::xs,vs,n+1,x,hr,h=>by
  simp only[aL]at hr;obtain⟨v,r,rfl,_,h2⟩:=hr;simp only[Bw.nth]at h;obtain⟨u,h3,h4⟩:=aL.nth h2 h;exact⟨u,by simpa using h3,h4⟩
theorem aL.drop:∀(n:Nat) {xs:List AV} {vs:List Value},aL w A xs vs->aL w A (xs.drop n) (vs.drop n)
 |0,_,_,h=>by simpa using h
 |n+1,[],_,h=>by simp only[aL]at h;subst h;simp[aL]
 |n+1,_::_,_,h=>by simp only[aL]at h;obtain⟨v,r,rfl,_,h⟩:=h;simpa using aL.drop n h
theorem aL.take:∀(n:Nat) {xs:List AV} {vs:List Value},aL w A xs vs->aL w A (xs.take n) (vs.take n)
 |0,_,_,_=>by simp[aL]
 |n+1,[],_,h=>by simp only[aL]at h;subst h;simp[aL]
 |n+1,_::_,_,h=>by simp only[aL]at h;obtain⟨v,r,rfl,h1,h⟩:=h;simp only[xr,aL];exact⟨v,_,rfl,h1,aL.take n h⟩
theorem aL.append:∀{xs ys:List AV} {vs us:List Value},aL w A xs vs->aL w A ys us->aL w A (xs++ys) (vs++us)
 |[],_,_,_,h,g=>by simp only[aL]at h;subst h;simpa using g
 |_::_,_,_,_,h,g=>by simp only[aL]at h;obtain⟨v,r,rfl,h1,h⟩:=h;simp only[jR,aL];exact⟨v,_,rfl,h1,aL.append h g⟩
theorem aL.set:∀{xs:List AV} {vs:List Value} (n:Nat) {x:AV} {v:Value},aL w A xs vs->Rel w A x v->aL w A (xs.set n x) (vs.set n v)
 |[],_,n,_,_,h,_=>by simp only[aL]at h;subst h;simp[aL]
 |_::_,_,0,_,_,h,g=>by simp only[aL]at h;obtain⟨v,r,rfl,_,h⟩:=h;simp only[Dq,aL];exact⟨_,_,rfl,g,h⟩
 |_::_,_,n+1,_,_,h,g=>by simp only[aL]at h;obtain⟨v,r,rfl,h1,h⟩:=h;simp only[qB,aL];exact⟨_,_,rfl,h1,aL.set n h g⟩
theorem SF {P:Program} {t:TypeId} {g:Bool} (hg:hasB P t=true) (ha:nO P t=g) {xs:List AV} {vs:List Value} (hr:aL w A xs vs) {off:Nat} {x:AV}
  (h:vH g xs off (iR P t)=some x) (w':World):∃v,(part t vs.toArray off).run P w'= .ok v w'/\Rel w A x v:=by
 subst ha;simp only[part,Sem.run_bind,IA hg,Result.andThen_ok,Sem.run_ite,lJ hg,Sem.run_pure];cases hb:nO P t with
 |true=>
  rw[hb]at h;simp only[vH,aD]at h;subst h;refine⟨_,by simp only[if_true];rfl,?_⟩;simp only[Rel];refine⟨(vs.drop off).take (iR P t),?_,(hr.drop off).take _⟩;congr 1;apply ko;simp[anM]
 |false=>
  rw[hb]at h;simp only[vH]at h;obtain⟨v,h1,h2⟩:=hr.nth h;refine⟨v,?_,h2⟩;simp[h1]
