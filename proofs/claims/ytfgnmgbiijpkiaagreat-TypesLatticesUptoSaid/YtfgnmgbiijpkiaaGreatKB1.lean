/- The base of a program logic over the kit's wp calculus, second making: abstract values, what they say of a world, and that they stay true while other blocks change. -/
import Derived.WalkKit
set_option linter.all false
section
def aw:=@Option.bind_some
def aE:=@Option.some.injEq
def aV:=@cond_true
def bp:=@cond_false
def bw:=@List.mem_of_getElem?
def bE:=@Nat.eq_of_beq_eq_true
def bL:=@Bool.and_eq_true
def bQ:=@Nat.le_refl
def cm:=@List.mem_cons
def cr:=@List.getElem?_eq_some_iff
def cu:=@Prod.mk.injEq
def cJ:=@List.mem_append
def cM:=@if_neg
def cP:=@List.mem_map
def dj:=@if_pos
def dD:=@Nat.le_of_ble_eq_true
def dP:=@List.map_cons
def ef:=@List.mem_flatMap
def fj:=@Int.toNat_natCast
def fM:=@List.not_mem_nil
def gr:=@List.getElem?_of_mem
def gu:=@Bool.eq_iff_iff
def gT:=@List.length_take
def iz:=@List.append_nil
def iA:=@List.all_eq_true
def iB:=@List.mem_filter
def iN:=@List.length_cons
def iO:=@List.nodup_append
def iP:=@Array.ext'
def iQ:=@Nat.lt_succ_iff_lt_or_eq
def jm:=@Option.some.inj
def jo:=@Array.getElem?_eq_some_iff
def jq:=@List.getElem?_take
def jt:=@List.length_map
def ju:=@Bool.false_eq_true
def jv:=@Ne.symm
def jU:=@List.eq_nil_of_length_eq_zero
def jV:=@List.length_append
def jW:=@List.take_length
def jX:=@List.getElem?_set_ne
def jY:=@Nat.add_mul
def jZ:=@List.append_assoc
def ka:=@List.any_eq_true
def kQ:=@Bool.not_eq_true'
def kR:=@List.all_cons
def lB:=@decide_eq_true_eq
def lC:=@List.cons.injEq
def lD:=@List.getElem?_cons_zero
def lE:=@List.cons_append
def lF:=@Nat.blt_eq
def my:=@List.getElem?_map
def mz:=@Nat.lt_or_ge
def mA:=@List.getElem?_set_self
def nM:=@Nat.lt_of_lt_of_le
def nN:=@List.mem_singleton
def oP:=@List.length_nil
def oQ:=@List.map_append
def oR:=@List.mem_append_left
def oS:=@Nat.zero_add
def oT:=@List.getElem?_eq_none
def qb:=@Nat.le_trans
def qc:=@List.length_set
def qd:=@List.getElem?_cons_succ
def qe:=@List.set_cons_succ
def qf:=@Nat.zero_le
def rY:=@List.getElem?_append_left
def rZ:=@Bool.and_true
def r6:=@Bool.not_eq_false'
def u3:=@List.flatMap_cons
def u4:=@Nat.beq_refl
def u5:=@Bool.not_false
def u6:=@List.getElem?_drop
def u7:=@Array.getElem?_eq_none
def u9:=@List.mem_cons_of_mem
def va:=@List.any_eq_false
def xC:=@of_decide_eq_true
def xD:=@Bool.or_eq_true
def xE:=@List.map_nil
def xF:=@List.pairwise_cons
def xG:=@Nat.le_max_left
def xH:=@Nat.le_max_right
def xI:=@List.set_cons_zero
def xJ:=@Nat.mul_comm
def xK:=@Array.length_toList
def xL:=@List.length_pos_iff
def xM:=@List.nil_append
def xN:=@List.take_succ_cons
def xO:=@Nat.add_comm
def xP:=@List.mem_range
def xQ:=@Bool.not_true
def xR:=@Option.bind_assoc
def B7:=@List.perm_append_comm
def B8:=@List.mem_cons_self
def B9:=@Nat.ble_eq_true_of_le
def B':=@List.getElem?_append_right
def Ca:=@Nat.le_mul_of_pos_right
def Cb:=@Nat.one_mul
def Cc:=@Nat.add_assoc
def Cd:=@Array.getD_eq_getD_getElem?
def Ce:=@List.nodup_cons
def Cf:=@List.ext_getElem?
def Cg:=@Nat.le_succ
def Ch:=@Nat.mul_add
def Ci:=@List.zip_cons_cons
def Cj:=@List.getElem?_take_of_lt
def Ck:=@List.getElem?_replicate
def Jv:=@List.length_eq_zero_iff
def Jw:=@Nat.mul_one
def Jx:=@List.take_left
def Jy:=@List.length_replicate
def Jz:=@List.map_set
def JA:=@List.flatMap_nil
def JB:=@List.take_append_drop
def JC:=@Nat.add_zero
def JD:=@List.contains_iff_mem
def JE:=@List.Sublist.refl
def JF:=@List.foldl_cons
def JG:=@Nat.lt_irrefl
def JH:=@Nat.lt_trichotomy
def JI:=@Nat.mul_le_mul_right
def Ui:=@Array.getElem?_toList
def Uj:=@List.map_drop
def Uk:=@List.map_take
def Ul:=@List.length_drop
def Um:=@List.mem_append_right
def Un:=@Nat.div_add_mod
def Uo:=@List.filter_cons
def Uq:=@Option.getD_some
def Ur:=@Nat.sub_zero
def Ut:=@List.take_of_length_le
def Uu:=@Option.map_none
def Uv:=@Array.setIfInBounds_comm
def Uw:=@Nat.zero_mul
def Ux:=@List.size_toArray
def Uy:=@List.eq_nil_iff_forall_not_mem
def Uz:=@List.filter_eq_nil_iff
def UA:=@Bool.not_eq_true
def UB:=@Prod.mk.inj
def UC:=@Int.tmod_eq_emod_of_nonneg
def UD:=@Bool.and_false
def adh:=@Array.getElem?_modify
def adi:=@List.getElem?_eq_getElem
def adj:=@List.sublist_append_right
def adk:=@List.Sublist.append
def adl:=@List.getElem?_append
def adm:=@List.getElem?_singleton
def adn:=@List.extract_eq_take_drop
def ado:=@List.length_erase_of_mem
def adp:=@List.mem_erase_of_ne
def adq:=@Array.toList_zipIdx
def adr:=@Array.mapM_eq_mapM_toList
def ads:=@List.getElem_of_mem
def adt:=@Option.isSome_iff_exists
def adu:=@List.pairwise_iff_getElem
noncomputable section
namespace Go.Bw
open Go
inductive AV where
 |v (x:Value)
 |sl (k:Nat) (rows:List (List AV))
 |agg (xs:List AV)
 |bN (xs:List AV)
 |ip (cells:List AV)
 |own (tag b off:Nat)
 |os (tag:Nat) (a:Option Addr) (n c:Nat)
 |oe (tag:Nat) (v:Value) (n:Nat)
 |om (tag r:Nat)
 |fn (f:FuncId) (fs caps:List AV)
 |bB (t:TypeId) (x:AV)
mutual
def Rel (w:World) (A:Nat->Prop):AV->Value->Prop
 | .v x,y=>y=x
 | .sl k rows,y=>(rows=[]/\∃a cap,y= .slice a 0 cap)\/∃b o cap vs,y= .slice (some ⟨b,o,none⟩) rows.length cap/\(b<w.heap.size/\A b)/\rows.length<=cap/\cap<=maxLen/\
   bu w A k rows vs/\∀j u,vs[j]? =some u->w.cell? ⟨b,o+j,none⟩=some u
 | .agg xs,y=>∃vs:List Value,y= .agg vs.toArray/\aJ w A xs vs
 | .bN xs,y=>∃vs:List Value,y= .tuple vs.toArray/\aJ w A xs vs
 | .ip cs,y=>∃b o vs,y= .pointer (some ⟨b,o,none⟩)/\(b<w.heap.size/\A b)/\aJ w A cs vs/\∀j u,vs[j]? =some u->w.cell? ⟨b,o+j,none⟩=some u
 | .own _ b off,y=>y= .pointer (some ⟨b,off,none⟩)
 | .os _ a n c,y=>y= .slice a n c
 | .oe _ v n,y=>∃b len cap,v= .slice (some ⟨b,0,none⟩) len cap/\y= .pointer (some ⟨b,n,none⟩)
 | .om _ r,y=>y= .map (some r)
 | .fn f fs cs,y=>∃us vs:List Value,y= .func (.func f) us.toArray vs.toArray/\aJ w A fs us/\aJ w A cs vs
 | .bB t x,y=>∃u,y= .iface t u/\Rel w A x u
def aJ (w:World) (A:Nat->Prop):List AV->List Value->Prop
 |[],vs=>vs=[]
 |x::xs,vs=>∃v r,vs=v::r/\Rel w A x v/\aJ w A xs r
def bu (w:World) (A:Nat->Prop) (k:Nat):List (List AV)->List Value->Prop
 |[],vs=>vs=[]
 |r::rs,vs=>∃v1 v2,vs=v1++v2/\r.length=k/\aJ w A r v1/\bu w A k rs v2
end
def cL (w:World) (A:Nat->Prop) (w':World) (A':Nat->Prop):Prop:=
 w.heap.size<=w'.heap.size/\∀b,b<w.heap.size->A b->A' b/\w'.heap[b]? =w.heap[b]?
theorem cL.refl (w:World) (A:Nat->Prop):cL w A w A:=⟨bQ _,λ_ _ h=>⟨h,rfl⟩⟩
theorem KE {w:World} {b o:Nat} {u:Value} (h:w.cell? ⟨b,o,none⟩=some u):b<w.heap.size:=World.block_lt_of_cell? w ⟨b,o,none⟩ h
section
variable {w w':World} {A A':Nat->Prop}
theorem aJ.length:∀{xs:List AV} {vs:List Value},aJ w A xs vs->vs.length=xs.length
 |[],_,h=>by simp only[aJ]at h;simp[h]
 |_::_,_,h=>by simp only[aJ]at h;obtain⟨v,r,rfl,_,h⟩:=h;simp[aJ.length h]
theorem bu.length {k:Nat}:∀{xs:List (List AV)} {vs:List Value},bu w A k xs vs->vs.length=xs.length*k
 |[],_,h=>by simp only[bu]at h;simp[h]
 |_::_,_,h=>by
  simp only[bu]at h;obtain⟨v,r,rfl,hk,h1,h⟩:=h;simp[bu.length h,aJ.length h1,hk,jY,xO]
mutual
theorem Rel.keep (h:cL w A w' A'):∀{x:AV} {v:Value},Rel w A x v->Rel w' A' x v
 | .v _,_,h1=>by simp only[Rel]at h1⊢;exact h1
 | .sl k rows,v,h1=>by
  simp only[Rel]at h1⊢;rcases h1 with h1|⟨b,o,cap,vs,h1,h2,h3,h4,h5,h6⟩
  ·exact .inl h1
  ·obtain⟨ha,he⟩:=h.2 b h2.1 h2.2;exact .inr ⟨b,o,cap,vs,h1,⟨nM h2.1 h.1,ha⟩,h3,h4,bu.keep h h5,λj u hu=>(World.cell?_of_block he).trans (h6 j u hu)⟩
 | .agg xs,_,h1=>by simp only[Rel]at h1⊢;obtain⟨vs,e,h2⟩:=h1;exact⟨vs,e,aJ.keep h h2⟩
 | .bN xs,_,h1=>by simp only[Rel]at h1⊢;obtain⟨vs,e,h2⟩:=h1;exact⟨vs,e,aJ.keep h h2⟩
 | .ip cs,_,h1=>by
  simp only[Rel]at h1⊢;obtain⟨b,o,vs,h1,h2,h5,h6⟩:=h1;obtain⟨ha,he⟩:=h.2 b h2.1 h2.2;exact⟨b,o,vs,h1,⟨nM h2.1 h.1,ha⟩,aJ.keep h h5,λj u hu=>(World.cell?_of_block he).trans (h6 j u hu)⟩
 | .own _ _ _,_,h1=>by simp only[Rel]at h1⊢;exact h1
 | .os _ _ _ _,_,h1=>by simp only[Rel]at h1⊢;exact h1
 | .oe _ _ _,_,h1=>by simp only[Rel]at h1⊢;exact h1
 | .om _ _,_,h1=>by simp only[Rel]at h1⊢;exact h1
 | .fn f fs cs,_,h1=>by simp only[Rel]at h1⊢;obtain⟨us,vs,e,h2,h3⟩:=h1;exact⟨us,vs,e,aJ.keep h h2,aJ.keep h h3⟩
 | .bB t x,_,h1=>by simp only[Rel]at h1⊢;obtain⟨vs,e,h2⟩:=h1;exact⟨vs,e,Rel.keep h h2⟩
theorem aJ.keep (h:cL w A w' A'):∀{x:List AV} {v:List Value},aJ w A x v->aJ w' A' x v
 |[],_,h1=>by simp only[aJ]at h1⊢;exact h1
 |_::_,_,h1=>by simp only[aJ]at h1⊢;obtain⟨v,r,e,h2,h3⟩:=h1;exact⟨v,r,e,Rel.keep h h2,aJ.keep h h3⟩
theorem bu.keep (h:cL w A w' A'):∀{k:Nat} {x:List (List AV)} {v:List Value},bu w A k x v->bu w' A' k x v
 |_,[],_,h1=>by simp only[bu]at h1⊢;exact h1
 |_,_::_,_,h1=>by simp only[bu]at h1⊢;obtain⟨v,r,e,hk,h2,h3⟩:=h1;exact⟨v,r,e,hk,aJ.keep h h2,bu.keep h h3⟩
end
theorem cL.trans {w'':World} {A'':Nat->Prop} (h:cL w A w' A') (g:cL w' A' w'' A''):cL w A w'' A'':=
 ⟨qb h.1 g.1,λb hb ha=>let⟨h1,h2⟩:=h.2 b hb ha;let⟨g1,g2⟩:=g.2 b (nM hb h.1) h1;⟨g1,g2.trans h2⟩⟩
end
inductive aq where
 |box (b:Nat) (cells:List AV)
 |row (v:Value) (e:TypeId) (k:Nat) (rows:List (List AV))
 |map (r:Nat) (es:List (Value×AV))
 |fact (x:AV) (v:Value)
 |gone
def aq.ids:aq->List Nat
 | .box b _=>[b]
 | .row v _ _ _=>v.ownBlock.toList
 | .map r _=>[r]
 | .fact _ _=>[]
 | .gone=>[]
def kD (w:World) (A:Nat->Prop):List (Value×AV)->List MapEntry->Prop
 |[],l=>l=[]
 |x::xs,l=>∃e r,l=e::r/\e.key=x.1/\Rel w A x.2 e.val/\kD w A xs r
def ids (O:List aq):List Nat:=O.flatMap aq.ids
def aq.ok (w:World) (A:Nat->Prop):aq->Prop
 | .box b cells=>∃e vs,w.heap[b]? =some (.cells (List.toArray vs) e (0,0))/\aJ w A cells vs
 | .row v e k rows=>∃vs,bu w A k rows vs/\w.ownsRow 0 e k v rows.length vs
 | .map r es=>∃a clock,w.heap[r]? =some (.map (List.toArray a) clock)/\kD w A es a/\(a.map (·.born)).Nodup/\∀x∈a,x.born<clock
 | .fact x v=>Rel w A x v
 | .gone=>True
def Al (F:Nat->Prop) (O:List aq) (b:Nat):Prop:=¬F b/\b∉ids O
abbrev Gl:=List (Nat×List Value)
def u2 (G:Gl) (w:World) (A:Nat->Prop):Prop:=∀p∈G,A p.1/\∃e fz,w.heap[p.1]? =some (.cells p.2.toArray e fz)
structure bD (G:Gl) (w:World) (F:Nat->Prop) (O:List aq):Prop where
 eD:∀x∈O,x.ok w (Al F O)
 nodup:(ids O).Nodup
 free:∀b∈ids O,¬F b
 bound:∀b,F b->b<w.heap.size
 dZ:u2 G w (Al F O)
def mq (w w':World):Prop:=w.drawn<=w'.drawn
theorem mq.of {w w':World} (h:w.drawn<=w'.drawn):mq w w':=h
theorem mq.trans {w w' w'':World} (h:mq w w') (g:mq w' w''):mq w w'':=qb h g
theorem mq.le {w w':World} (h:mq w w'):w.drawn<=w'.drawn:=h
structure Ext (O:List aq) (w:World) (O':List aq) (w':World):Prop where
 os:w'.os=w.os
 tape:w'.tape=w.tape
 output:w'.output=w.output
 size:w.heap.size<=w'.heap.size
 block:∀b,b<w.heap.size->b∉ids O->w'.heap[b]? =w.heap[b]?
 new:∀b∈ids O',b∈ids O\/w.heap.size<=b
 drawn:mq w w'
theorem Ext.refl (O:List aq) (w:World):Ext O w O w:=⟨rfl,rfl,rfl,bQ _,λ_ _ _=>rfl,λ_ h=> .inl h,.of (bQ _)⟩
theorem Ext.trans {O O' O'':List aq} {w w' w'':World} (h:Ext O w O' w') (g:Ext O' w' O'' w''):Ext O w O'' w'' where
 os:=g.os.trans h.os
 tape:=g.tape.trans h.tape
 output:=g.output.trans h.output
 size:=qb h.size g.size
 block:=λb hb hn=>(g.block b (nM hb h.size) (λhm=>(h.new b hm).elim hn (λhle=>absurd hb (Nat.not_lt.2 hle)))).trans (h.block b hb hn)
 new:=λb hb=>(g.new b hb).elim (λhm=>h.new b hm) (λhle=> .inr (qb h.size hle))
 drawn:=h.drawn.trans g.drawn
theorem Ext.keeps {O O':List aq} {w w':World} {F:Nat->Prop} (h:Ext O w O' w'):cL w (Al F O) w' (Al F O'):=
 ⟨h.size,λb hb ha=>⟨⟨ha.1,λhm=>(h.new b hm).elim ha.2 (λhle=>absurd hb (Nat.not_lt.2 hle))⟩,h.block b hb ha.2⟩⟩
theorem u2.keep {G:Gl} {w w':World} {A A':Nat->Prop} (h:u2 G w A) (hk:cL w A w' A'):u2 G w' A':=λp hp=>by
 obtain⟨ha,e,fz,hh⟩:=h p hp;have hlt:p.1<w.heap.size:=(jo.1 hh).1;obtain⟨h1,h2⟩:=hk.2 p.1 hlt ha;exact⟨h1,e,fz,h2.trans hh⟩
theorem kD.keep {w w':World} {A A':Nat->Prop} (h:cL w A w' A'):∀{es:List (Value×AV)} {l:List MapEntry},kD w A es l->kD w' A' es l
 |[],_,h1=>by simp only[kD]at h1⊢;exact h1
 |_::_,_,h1=>by simp only[kD]at h1⊢;obtain⟨v,r,e,h2,h3,h4⟩:=h1;exact⟨v,r,e,h2,Rel.keep h h3,kD.keep h h4⟩
theorem aq.ok.lt {w:World} {A:Nat->Prop} {x:aq} (h:x.ok w A):∀b∈x.ids,b<w.heap.size:=by
 intro b hb;cases x with
 |map c es=>simp[aq.ids]at hb;subst hb;obtain⟨e,vs,h1,_⟩:=h;exact(jo.1 h1).1
 |fact x v=>simp[aq.ids]at hb
 |gone=>simp[aq.ids]at hb
 |box c cells=>simp[aq.ids]at hb;subst hb;obtain⟨e,vs,h1,_⟩:=h;exact(jo.1 h1).1
 |row v e k rows=>obtain⟨vs,h1,h2⟩:=h;exact(h2.lt b (by simpa[aq.ids]using hb)).2
theorem bD.lt {G:Gl} {w:World} {F:Nat->Prop} {O:List aq} (h:bD G w F O):∀b∈ids O,b<w.heap.size:=by
 intro b hb;obtain⟨x,hx,hb⟩:=ef.1 hb;exact(h.eD x hx).lt b hb
theorem aq.ok.keep {w w':World} {A A':Nat->Prop} {x:aq} (h:x.ok w A) (hk:cL w A w' A') (hb:∀b∈x.ids,w'.heap[b]? =w.heap[b]?):x.ok w' A':=by
 cases x with
 |map c es=>obtain⟨e,vs,h1,h2,h3⟩:=h;exact⟨e,vs,(hb c (by simp[aq.ids])).trans h1,kD.keep hk h2,h3⟩
 |fact x v=>exact Rel.keep hk h
 |gone=>trivial
 |box c cells=>obtain⟨e,vs,h1,h2⟩:=h;exact⟨e,vs,(hb c (by simp[aq.ids])).trans h1,aJ.keep hk h2⟩
 |row v e k rows=>
  obtain⟨vs,h1,h2,h3⟩:=h;refine⟨vs,bu.keep hk h1,h2,?_⟩;rcases h3 with h3|⟨g,cap,cur,hv,hg,hh,r⟩
  ·exact .inl h3
  ·exact .inr ⟨g,cap,cur,hv,hg,(hb g (by simp[aq.ids,hv,Value.ownBlock])).trans hh,r⟩
theorem cn (l r:List aq):ids (l++r)=ids l++ids r:=by simp[ids]
theorem cF (x:aq) (r:List aq):ids (x::r)=x.ids++ids r:=by simp[ids]
theorem bD.rU {G:Gl} {w w':World} {F:Nat->Prop} {l r:List aq} {x x':aq} (h:bD G w F (l++x::r)) (hsz:w.heap.size<=w'.heap.size)
  (hw:∀b,b<w.heap.size->b∉x.ids->w'.heap[b]? =w.heap[b]?) (hi:∀b∈x'.ids,b∈x.ids\/w.heap.size<=b) (hn:x'.ids.Nodup) (hx:x'.ok w' (Al F (l++x'::r))):bD G w' F (l++x'::r):=by
 have hlt:=h.lt;have hnd:=h.nodup;have hfr:=h.free;simp only[cn,cF,cJ]at hlt hfr;simp only[cn,cF,iO,cJ]at hnd;have hk:cL w (Al F (l++x::r)) w' (Al F (l++x'::r)):=by
  refine⟨hsz,λb hb ha=>?_⟩;simp only[Al,cn,cF,cJ,not_or]at ha⊢;refine⟨⟨ha.1,ha.2.1,λhm=>?_,ha.2.2.2⟩,hw b hb ha.2.2.1⟩;rcases hi b hm with h1|h1
  ·exact ha.2.2.1 h1
  ·omega
 have hoth:∀y,y∈l\/y∈r->y.ok w' (Al F (l++x'::r)):=by
  intro y hy;have hok:=h.eD y (by rcases hy with hy|hy<;>simp[hy]);refine hok.keep hk λb hb=>hw b (hok.lt b hb) λhbx=>?_;rcases hy with hy|hy
  ·exact hnd.2.2 b (by exact ef.2 ⟨y,hy,hb⟩) b (.inl hbx) rfl
  ·exact hnd.2.1.2.2 b hbx b (ef.2 ⟨y,hy,hb⟩) rfl
 refine⟨λy hy=>?_,?_,λb hb=>?_,λb hb=>nM (h.bound b hb) hsz,h.dZ.keep hk⟩
 ·simp only[cJ,cm]at hy;rcases hy with hy|rfl|hy
  ·exact hoth y (.inl hy)
  ·exact hx
  ·exact hoth y (.inr hy)
 ·simp only[cn,cF,iO,cJ];refine⟨hnd.1,⟨hn,hnd.2.1.2.1,λa ha b hb hab=>?_⟩,λa ha b hb hab=>?_⟩
  ·subst hab;rcases hi a ha with h1|h1
   ·exact hnd.2.1.2.2 a h1 a hb rfl
   ·have:=hlt a (.inr (.inr hb));omega
  ·subst hab;rcases hb with hb|hb
   ·rcases hi a hb with h1|h1
    ·exact hnd.2.2 a ha a (.inl h1) rfl
    ·have:=hlt a (.inl ha);omega
   ·exact hnd.2.2 a ha a (.inr hb) rfl
 ·simp only[cn,cF,cJ]at hb;rcases hb with hb|hb|hb
  ·exact hfr b (.inl hb)
  ·rcases hi b hb with h1|h1
   ·exact hfr b (.inr (.inl h1))
   ·intro hF;have:=h.bound b hF;omega
  ·exact hfr b (.inr (.inr hb))
theorem bD.push {G:Gl} {w w':World} {F:Nat->Prop} {O:List aq} {x:aq} (h:bD G w F O) (hsz:w.heap.size<=w'.heap.size)
  (hw:∀b,b<w.heap.size->w'.heap[b]? =w.heap[b]?) (hi:∀b∈x.ids,w.heap.size<=b) (hn:x.ids.Nodup) (hx:x.ok w' (Al F (O++[x]))):bD G w' F (O++[x]):=by
 have hk:cL w (Al F O) w' (Al F (O++[x])):=by
  refine⟨hsz,λb hb ha=>?_⟩;simp only[Al,cn,cF,cJ,not_or]at ha⊢;exact⟨⟨ha.1,ha.2,λhm=>by have:=hi b hm;omega,by simp[ids]⟩,hw b hb⟩
 refine⟨λy hy=>?_,?_,λb hb=>?_,λb hb=>nM (h.bound b hb) hsz,h.dZ.keep hk⟩
 ·simp only[cJ,cm,fM,or_false]at hy;rcases hy with hy|rfl
  ·exact(h.eD y hy).keep hk λb hb=>hw b ((h.eD y hy).lt b hb)
  ·exact hx
 ·simp only[cn,cF,iO,cJ];refine⟨h.nodup,⟨hn,by simp[ids],λa _ b hb=>by simp[ids]at hb⟩,λa ha b hb hab=>?_⟩;subst hab;rcases hb with hb|hb
  ·have h1:=h.lt a ha;have h2:=hi a hb;omega
  ·simp[ids]at hb
 ·simp only[cn,cF,cJ]at hb;rcases hb with hb|hb|hb
  ·exact h.free b hb
  ·intro hF;have h1:=h.bound b hF;have h2:=hi b hb;omega
  ·simp[ids]at hb
abbrev Sg:=List (Nat×AV)
def look:Sg->Nat->Option AV
 |[],_=>none
 |(k,x)::r,t=>match Nat.beq k t with
  |true=>some x
  |false=>look r t
abbrev Sl:=Nat->Option AV
abbrev eY (w:World) (A:Nat->Prop) (N:Nat) (a:Act) (s:Sl):Prop:=
 a.tmps.size=N/\∀t x,s t=some x->t<N/\Rel w A x (a.tmps.getD t undef)
abbrev rN (w:World) (A:Nat->Prop) (N:Nat) (a:Act) (Z:Sg):Prop:=eY w A N a (look Z)
theorem rN.keep {w w':World} {A A':Nat->Prop} {N:Nat} {a:Act} {Z:Sg} (h:rN w A N a Z) (hk:cL w A w' A'):rN w' A' N a Z:=
 ⟨h.1,λt x hx=>⟨(h.2 t x hx).1,Rel.keep hk (h.2 t x hx).2⟩⟩
theorem JO (tmps:Array Value) (d:Nat) (v:Value) (h:d<tmps.size):(tmps.setIfInBounds d v).getD d undef=v:=by
 simp[Array.getD,h]
theorem JL (tmps:Array Value) (d t:Nat) (v:Value) (h:d≠t):(tmps.setIfInBounds d v).getD t undef=tmps.getD t undef:=by
 simp only[Cd,Array.getElem?_setIfInBounds,h,if_false]
def lk (dst:Option Nat) (x:AV) (Z:Sg):Sg:=
 match dst with
 |some d=>(d,x)::Z
 |none=>Z
theorem rN.put {w:World} {A:Nat->Prop} {N:Nat} {a:Act} {Z:Sg} (h:rN w A N a Z) (dst:Option Nat) (hd:∀d,dst=some d->d<N) {x:AV} {v:Value} (hx:Rel w A x v):
  rN w A N (a.put dst v) (lk dst x Z):=by
 cases dst with
 |none=>exact h
 |some d=>
  refine⟨by simp[Act.put,h.1],λt y hy=>?_⟩;simp only[lk,look]at hy;by_cases hdt:d=t
  ·subst hdt;have:Nat.beq d d=true:=u4 d;rw[this]at hy;simp only[aE]at hy;subst hy;refine⟨hd d rfl,?_⟩;simp only[Act.put];rw[JO _ _ _ (by rw[h.1];exact hd d rfl)];exact hx
  ·have:Nat.beq d t=false:=by cases hb:Nat.beq d t with
    |false=>rfl
    |true=>exact absurd (bE hb) hdt
   rw[this]at hy;simp only at hy;obtain⟨h1,h2⟩:=h.2 t y hy;refine⟨h1,?_⟩;simp only[Act.put];rw[JL _ _ _ _ hdt];exact h2
structure St (G:Gl) (N:Nat) (w:World) (F:Nat->Prop) (a:Act) (Z:Sg) (O:List aq):Prop where
 sg:rN w (Al F O) N a Z
 hp:bD G w F O
 df:a.defers=[]
inductive AE where
 |norm
 |exit (id:Nat)
 |ret
 |aO (x:AV)
def AE.rel (w:World) (A:Nat->Prop):AE->Exit->Prop
 | .norm,e=>e= .normal
 | .exit i,e=>e= .exit i
 | .ret,e=>e= .ret
 | .aO x,e=>∃v,e= .panic [{v,recovered:=false}]/\Rel w A x v
abbrev AQ:=AE->Sg->List aq->Prop
def AE.sl (e:AE) (Z:Sg):Sg:=match e with
 | .aO _=>[]
 |_=>Z
def CQ (G:Gl) (N:Nat) (F:Nat->Prop) (w0:World) (η0:List aq) (Q:AQ) (e:Exit) (a:Act) (w:World):Prop:=
 ∃e0 Z O,Q e0 (e0.sl Z) O/\AE.rel w (Al F O) e0 e/\St G N w F a (e0.sl Z) O/\Ext η0 w0 O w
structure Cx where
 P:Program
 G:Gl
def bK (C:Cx) (N:Nat) (c:Code) (Q:AQ) (Z:Sg) (O:List aq):Prop:=
 ∀F w0 η0 a w,St C.G N w F a Z O->Ext η0 w0 O w->c.wp C.P (CQ C.G N F w0 η0 Q) a w
abbrev AE.then (next:Sg->List aq->Prop) (Q:AQ):AQ:=λe Z O=>match e with
 | .norm=>next Z O
 | .exit i=>Q (.exit i) Z O
 | .ret=>Q .ret Z O
 | .aO x=>Q (.aO x) Z O
abbrev AE.inBlock (id:Nat) (Q:AQ):AQ:=λe Z O=>match e with
 | .norm=>Q .norm Z O
 | .exit i=>match Nat.beq i id with
  |true=>Q .norm Z O
  |false=>Q (.exit i) Z O
 | .ret=>Q .ret Z O
 | .aO x=>Q (.aO x) Z O
section
variable {C:Cx} {N:Nat} {Q:AQ} {Z:Sg} {O:List aq}
theorem CQ.intro {G:Gl} {F:Nat->Prop} {w0:World} {η0:List aq} {e:Exit} {a:Act} {w:World} (e0:AE) (hr:AE.rel w (Al F O) e0 e) (hQ:Q e0 (e0.sl Z) O) (hs:St G N w F a (e0.sl Z) O) (hx:Ext η0 w0 O w):CQ G N F w0 η0 Q e a w:=
 ⟨e0,Z,O,hQ,hr,hs,hx⟩
theorem bK.skip (h:Q .norm Z O):bK C N .skip Q Z O:=λ_ _ _ _ _ hs hx=>wp_skip (CQ.intro .norm rfl h hs hx)
theorem bK.exit {id:Nat} (h:Q (.exit id) Z O):bK C N (.exit id) Q Z O:=λ_ _ _ _ _ hs hx=>wp_exit (CQ.intro (.exit id) rfl h hs hx)
theorem bK.ret (h:Q .ret Z O):bK C N .ret Q Z O:=λ_ _ _ _ _ hs hx=>wp_ret (CQ.intro .ret rfl h hs hx)
theorem bK.label {l:Nat} (h:Q .norm Z O):bK C N (.label l) Q Z O:=λ_ _ _ _ _ hs hx=>wp_label (CQ.intro .norm rfl h hs hx)
theorem bK.mono {c:Code} {Q':AQ} (h:bK C N c Q Z O) (hq:∀e Z O,Q e Z O->Q' e Z O):bK C N c Q' Z O:=λF w0 η0 a w hs hx=>
 wp_mono (h F w0 η0 a w hs hx) λ_ _ _ ⟨e0,σ',O',h1,h2⟩=>⟨e0,σ',O',hq _ _ _ h1,h2⟩
theorem bK.seq {x y:Code} (h:bK C N x (AE.then (bK C N y Q) Q) Z O):bK C N (.seq x y) Q Z O:=λF w0 η0 a w hs hx=>by
 refine wp_seq (wp_mono (h F w0 η0 a w hs hx) ?_);rintro e a' w' ⟨e0,σ',O',h1,h2,h3,h4⟩;cases e0 with
 |norm=>simp only[AE.rel]at h2;subst h2;exact h1 F w0 η0 a' w' h3 h4
 |exit i=>simp only[AE.rel]at h2;subst h2;exact⟨.exit i,σ',O',h1,rfl,h3,h4⟩
 |ret=>simp only[AE.rel]at h2;subst h2;exact⟨.ret,σ',O',h1,rfl,h3,h4⟩
 |aO x=>obtain⟨v,rfl,h2⟩:=h2;exact⟨.aO x,σ',O',h1,⟨v,rfl,h2⟩,h3,h4⟩
theorem bK.block {id:Nat} {c:Code} (h:bK C N c (AE.inBlock id Q) Z O):bK C N (.block id c) Q Z O:=λF w0 η0 a w hs hx=>by
 refine wp_block (wp_mono (h F w0 η0 a w hs hx) ?_);rintro e a' w' ⟨e0,σ',O',h1,h2,h3,h4⟩;cases e0 with
 |norm=>simp only[AE.rel]at h2;subst h2;exact⟨.norm,σ',O',h1,rfl,h3,h4⟩
 |exit i=>
  simp only[AE.rel]at h2;subst h2;simp only[Exit.inBlock];by_cases hi:i=id
  ·subst hi;simp only[AE.inBlock,u4]at h1;rw[dj rfl];exact⟨.norm,σ',O',h1,rfl,h3,h4⟩
  ·rw[cM hi];have:Nat.beq i id=false:=by cases hb:Nat.beq i id with
    |false=>rfl
    |true=>exact absurd (bE hb) hi
   simp only[AE.inBlock,this]at h1;exact⟨.exit i,σ',O',h1,rfl,h3,h4⟩
 |ret=>simp only[AE.rel]at h2;subst h2;exact⟨.ret,σ',O',h1,rfl,h3,h4⟩
 |aO x=>obtain⟨v,rfl,h2⟩:=h2;exact⟨.aO x,σ',O',h1,⟨v,rfl,h2⟩,h3,h4⟩
def ev (s:Sl):Operand->Option AV
 | .tmp t=>s t
 | .const v=>some (.v v)
 | .global g=>some (.v (.pointer (some ⟨g,0,none⟩)))
 | .func f=>some (.v (.func (.func f) #[] #[]))
theorem bA {w:World} {A:Nat->Prop} {a:Act} {s:Sl} (hs:eY w A N a s) {o:Operand} {x:AV} (h:ev s o=some x):Rel w A x (a.eval o):=by
 cases o with
 |tmp t=>exact(hs.2 t x h).2
 |const v=>simp only[ev,aE]at h;subst h;simp[Rel,Act.eval]
 |global g=>simp only[ev,aE]at h;subst h;simp[Rel,Act.eval]
 |func f=>simp only[ev,aE]at h;subst h;simp[Rel,Act.eval]
theorem bK.cond {c:Operand} {x y:Code} {t:Bool} (hc:ev (look Z) c=some (.v (.bool t))) (h1:t=true->bK C N x Q Z O) (h2:t=false->bK C N y Q Z O):bK C N (.cond c x y) Q Z O:=
 λF w0 η0 a w hs hx=>by
  have he:=bA hs.sg hc;simp only[Rel]at he;exact wp_cond_split he (λht=>h1 ht F w0 η0 a w hs hx) (λht=>h2 ht F w0 η0 a w hs hx)
def ez (G:Gl) (N:Nat) (Z:Sg) (O:List aq) (σ':Sg) (O':List aq):Prop:=
 ∀F w a,St G N w F a Z O->St G N w F a σ' O'/\∀b∈ids O',b∈ids O
theorem bK.kE {c:Code} {σ':Sg} {O':List aq} (hw:ez C.G N Z O σ' O') (h:bK C N c Q σ' O'):bK C N c Q Z O:=λF w0 η0 a w hs hx=>by
 obtain⟨h1,h2⟩:=hw F w a hs;exact h F w0 η0 a w h1 (hx.trans ⟨rfl,rfl,rfl,bQ _,λ_ _ _=>rfl,λb hb=> .inl (h2 b hb),.of (bQ _)⟩)
def pick:List Nat->Sg->Option Sg
 |[],_=>some []
 |t::ts,Z=>match look Z t,pick ts Z with
  |some x,some r=>some ((t,x)::r)
  |_,_=>none
theorem Lg:∀{ts:List Nat} {Z σ':Sg},pick ts Z=some σ'->∀t x,look σ' t=some x->look Z t=some x
 |[],_,_,h,t,x,hx=>by simp only[pick,aE]at h;subst h;simp[look]at hx
 |s::ts,Z,σ',h,t,x,hx=>by
  simp only[pick]at h;split at h
  ·rename_i y r h1 h2;simp only[aE]at h;subst h;simp only[look]at hx;cases hb:Nat.beq s t with
   |true=>
    have:=bE hb;subst this;rw[hb]at hx;simp only[aE]at hx;subst hx;exact h1
   |false=>rw[hb]at hx;exact Lg h2 t x hx
  ·cases h
theorem ez.pick {G:Gl} (ts:List Nat) {σ':Sg} (h:pick ts Z=some σ'):ez G N Z O σ' O:=λ_ _ _ hs=>
 ⟨⟨⟨hs.sg.1,λt x hx=>hs.sg.2 t x (Lg h t x hx)⟩,hs.hp,hs.df⟩,λ_ h=>h⟩
theorem bK.pick {c:Code} (ts:List Nat) {σ':Sg} (hp:pick ts Z=some σ') (h:bK C N c Q σ' O):bK C N c Q Z O:=bK.kE (ez.pick ts hp) h
end
end Go.Bw
end

section
noncomputable section
namespace Go.Bw
open Go
inductive TD where
 |struct (fs:List (Nat×Nat×Nat×Bool))
 |slice (e k:Nat)
 |array (n e k:Nat) (g:Bool)
 |int (k:IntKind)
 |str
 |bool
 |iface
 |other
structure TI where
 d:TD
 size:Nat
 bytes:Nat
 zero:List Value
def Bi:Value->Value->Bool
 | .bool a,.bool b=>a==b
 | .int k a,.int k' b=>decide (k=k')&&a==b
 | .string s,.string t=>s.data.toList==t.data.toList
 | .pointer none,.pointer none=>true
 | .slice none 0 0,.slice none 0 0=>true
 | .map none,.map none=>true
 | .nilFunc,.nilFunc=>true
 | .func (.func f) a b,.func (.func g) c d=>Nat.beq f g&&(a.toList.isEmpty&&b.toList.isEmpty&&(c.toList.isEmpty&&d.toList.isEmpty))
 | .nilIface,.nilIface=>true
 |_,_=>false
theorem Nc {a b:Value} (h:Bi a b=true):a=b:=by
 unfold Bi at h;split at h<;>first|rfl|(simp_all;done)|cases h|skip
 ·rename_i s t;cases s;cases t;rename_i s t;cases s;cases t
  simp_all
def uj:List Value->List Value->Bool
 |[],[]=>true
 |a::as,b::bs=>Bi a b&&uj as bs
 |_,_=>false
theorem L2:∀{a b:List Value},uj a b=true->a=b
 |[],[],_=>rfl
 |a::as,b::bs,h=>by
  simp only[uj,bL]at h;rw[Nc h.1,L2 h.2]
 |[],_::_,h=>by simp[uj]at h
 |_::_,[],h=>by simp[uj]at h
def gI (P:Program) (t:Nat):Nat:=match P.info? t with
 |some i=>i.size
 |none=>0
def nA (P:Program) (t:Nat):Bool:=match P.underlying t with
 |some (.struct _)=>true
 |some (.array _ _)=>true
 |_=>false
def hasB (P:Program) (t:Nat):Bool:=(P.underlying t).isSome&&(P.info? t).isSome
def gl (P:Program) (d:TD) (u:TypeDesc):Bool:=match d,u with
 | .struct fs,.struct gs=>decide (gs.toList.map (λ(f:Field)=>(f.offset,f.type,gI P f.type,nA P f.type))=fs)&&fs.all λf=>hasB P f.2.1&&Nat.blt 0 f.2.2.1
 | .slice e k,.slice e'=>e==e'&&k==gI P e&&hasB P e
 | .array n e k g,.array n' e'=>n==n'&&e==e'&&k==gI P e&&g==nA P e&&hasB P e&&Nat.blt 1 n
 | .int k,.int k'=>decide (k=k')
 | .str,.string=>true
 | .bool,.bool=>true
 | .iface,.interface _=>true
 | .other,.interface _=>false
 | .other,.struct _=>false
 | .other,.array _ _=>false
 | .other,_=>true
 |_,_=>false
def ly (P:Program) (t:Nat) (i:TI):Bool:=match P.underlying t,P.info? t with
 |some u,some ti=>gl P i.d u&&ti.size==i.size&&ti.bytes==i.bytes&&(match ti.zero with|some z=>uj z.cells.toList i.zero&&Nat.beq i.zero.length i.size|none=>false)
 |_,_=>false
inductive Tr (D:Type) where
 |lf
 |nd (x:Option D) (l r:Tr D)
def jM (n:Nat):Nat:=match n with
 |0=>0
 |m+1=>Nat.mod (m+1) 2
def ij (n:Nat):Nat:=match n with
 |0=>0
 |m+1=>Nat.div (m+1) 2
theorem lW (n:Nat):jM n=Nat.mod n 2:=by cases n<;>rfl
theorem lX (n:Nat):ij n=Nat.div n 2:=by cases n<;>rfl
def Tr.get {D:Type}:Tr D->Nat->Option D
 | .lf,_=>none
 | .nd x l r,n=> @Bool.rec (λ_=>Option D) (@Bool.rec (λ_=>Option D) (r.get (Nat.pred (ij n))) (l.get (ij n)) (Nat.beq (jM n) 1)) x (Nat.beq n 0)
theorem Tr.jD {D:Type} (n:Nat):(Tr.lf:Tr D).get n=none:=rfl
theorem Tr.pI {D:Type} (x:Option D) (l r:Tr D) (n:Nat):(Tr.nd x l r).get n=match Nat.beq n 0 with
  |true=>x
  |false=>match Nat.beq (jM n) 1 with
   |true=>l.get (ij n)
   |false=>r.get (Nat.pred (ij n)):=by
 rw[Tr.get]
 all_goals cases Nat.beq n 0
 all_goals first|rfl|(cases Nat.beq (jM n) 1<;>rfl)
def Tr.ig {D:Type} (p:Nat->D->Bool):Tr D->Nat->Nat->Bool
 | .lf,_,_=>true
 | .nd x l r,a,b=>(match x with
  |some y=>p b y
  |none=>true)&&(l.ig p (2*a) (a+b)&&r.ig p (2*a) (2*a+b))
theorem Tr.Dp {D:Type} {p:Nat->D->Bool}:∀{t:Tr D} {a b n:Nat} {x:D},t.ig p a b=true->t.get n=some x->p (a*n+b) x=true
 | .lf,_,_,_,_,_,h=>by simp[Tr.jD]at h
 | .nd y l r,a,b,n,x,hall,h=>by
  simp only[Tr.ig,bL]at hall;simp only[Tr.pI,lW,lX]at h;cases h0:Nat.beq n 0 with
  |true=>
   rw[h0]at h;have:=bE h0;subst this;simp only at h;subst h;simpa using hall.1
  |false=>
   rw[h0]at h;have hne:n≠0:=λe=>by subst e;simp[Nat.beq]at h0
   simp only at h;cases h1:Nat.beq (Nat.mod n 2) 1 with
   |true=>
    rw[h1]at h;have h1:=bE h1;change n%2=1 at h1;have:=Tr.Dp hall.2.1 h;have e:2*a*Nat.div n 2+(a+b)=a*n+b:=by
     change 2*a*(n/2)+(a+b)=a*n+b;have:n=2*(n/2)+1:=by omega
     generalize n/2=m at this;subst this;rw[Ch,Jw,<-Nat.mul_assoc,xJ a 2];omega
    rwa[e]at this
   |false=>
    rw[h1]at h;have h1:¬n%2=1:=λe=>by
     have:Nat.beq (Nat.mod n 2) 1=true:=by change Nat.beq (n%2) 1=true;rw[e];rfl
     rw[h1]at this;cases this
    have:=Tr.Dp hall.2.2 h;have e:2*a*Nat.pred (Nat.div n 2)+(2*a+b)=a*n+b:=by
     change 2*a*(n/2-1)+(2*a+b)=a*n+b;have:n=2*(n/2-1)+2:=by omega
     generalize n/2-1=m at this;subst this;rw[Ch,<-Nat.mul_assoc,xJ a 2];omega
    rwa[e]at this
abbrev bX:=Tr TI
def a7 (T:bX) (t:Nat):Option TI:=T.get t
def wA (P:Program) (T:bX):Prop:=∀t i,a7 T t=some i->ly P t i=true
theorem W9 {P:Program} {T:bX} (h:T.ig (ly P) 1 0=true):wA P T:=λt i hi=>by
 have:=Tr.Dp h hi;simpa using this
structure Env extends Cx where
 T:bX
 tok:wA P T
section
variable {P:Program} {t:Nat} {i:TI}
theorem eB (h:ly P t i=true):∃u ti,P.underlying t=some u/\P.info? t=some ti/\gl P i.d u=true/\ti.size=i.size/\ti.bytes=i.bytes/\∃z,ti.zero=some z/\z.cells.toList=i.zero:=by
 unfold ly at h;split at h
 ·rename_i u ti hu hi;simp only[bL,beq_iff_eq]at h;obtain⟨⟨⟨h1,h2⟩,h3⟩,h4⟩:=h;split at h4
  ·rename_i z hz;simp only[bL]at h4;exact⟨u,ti,hu,hi,h1,h2,h3,z,hz,L2 h4.1⟩
  ·cases h4
 ·cases h
theorem zE (h:ly P t i=true):i.zero.length=i.size:=by
 unfold ly at h;split at h
 ·simp only[bL,beq_iff_eq]at h;obtain⟨⟨⟨h1,h2⟩,h3⟩,h4⟩:=h;split at h4
  ·simp only[bL]at h4;exact bE h4.2
  ·cases h4
 ·cases h
theorem Dl (h:ly P t i=true) (w:World):(sizeOf t).run P w= .ok i.size w:=by
 obtain⟨u,ti,_,hi,_,hs,_⟩:=eB h;simp[sizeOf,typeInfo,hi,hs]
theorem mG (h:hasB P t=true) (w:World):(sizeOf t).run P w= .ok (gI P t) w:=by
 simp only[hasB,bL,adt]at h;obtain⟨_,ti,hi⟩:=h;simp[sizeOf,typeInfo,gI,hi]
theorem Dk (h:hasB P t=true) (w:World):(isAgg t).run P w= .ok (nA P t) w:=by
 simp only[hasB,bL,adt]at h;obtain⟨⟨u,hu⟩,_⟩:=h;simp only[isAgg,Sem.run_bind,run_underlying hu,Result.andThen_ok,nA,hu];cases u<;>rfl
def TD.agg:TD->Bool
 | .struct _=>true
 | .array _ _ _ _=>true
 |_=>false
theorem Ym (h:ly P t i=true) (w:World):(isAgg t).run P w= .ok i.d.agg w:=by
 obtain⟨u,ti,hu,_,hd,_⟩:=eB h;simp only[isAgg,Sem.run_bind,run_underlying hu,Result.andThen_ok];cases hid:i.d<;>cases u<;>simp_all [gl,TD.agg]
theorem Cl {fs:List (Nat×Nat×Nat×Bool)} (h:ly P t i=true) (hd:i.d= .struct fs):∃gs:Array Field,P.underlying t=some (.struct gs)/\
  ∀(j o ft k:Nat) (g:Bool),fs[j]? =some (o,ft,k,g)->∃f:Field,gs[j]? =some f/\f.offset=o/\f.type=ft/\gI P ft=k/\nA P ft=g/\hasB P ft=true/\0<k:=by
 obtain⟨u,ti,hu,_,hd',_⟩:=eB h;rw[hd]at hd';cases u<;>simp only[gl,ju]at hd';rename_i gs;simp only[bL,lB]at hd';obtain⟨hm,hall⟩:=hd';refine⟨gs,hu,λj o ft k g hj=>?_⟩;have hin:(o,ft,k,g)∈fs:=bw hj;have hh:=iA.1 hall _ hin;simp only[bL]at hh;rw[<-hm,my]at hj;cases hg:gs.toList[j]? with
 |none=>rw[hg]at hj;cases hj
 |some f=>
  rw[hg]at hj;simp only[Option.map_some,aE,cu]at hj;obtain⟨e1,e2,e3,e4⟩:=hj;refine⟨f,by simpa using hg,e1,e2,by rw[<-e2];exact e3,by rw[<-e2];exact e4,hh.1,by have:=hh.2;rwa[lF]at this⟩
theorem UE {fs:List (Nat×Nat×Nat×Bool)} (h:ly P t i=true) (hd:i.d= .struct fs):∃gs:Array Field,P.underlying t=some (.struct gs)/\
  (∀(j o ft k:Nat) (g:Bool),fs[j]? =some (o,ft,k,g)->∃f:Field,gs[j]? =some f/\f.offset=o/\f.type=ft/\gI P ft=k/\nA P ft=g/\hasB P ft=true/\0<k)/\
  ∀j (hj:j<gs.toList.length),hasB P gs.toList[j].type=true:=by
 obtain⟨gs,hu,h4⟩:=Cl h hd;refine⟨gs,hu,h4,λj hj=>?_⟩;obtain⟨u,ti,hu',_,hd',_⟩:=eB h;rw[hu]at hu';cases hu';rw[hd]at hd';simp only[gl,bL,lB]at hd';obtain⟨hm,_⟩:=hd';have hl:j<fs.length:=by rw[<-hm];simpa using hj
 obtain⟨f,h5,h6,h7,_,_,h8,_⟩:=h4 j fs[j].1 fs[j].2.1 fs[j].2.2.1 fs[j].2.2.2 (by simp[hl]);have:gs.toList[j]=f:=by
  have:=(jo.1 h5).2;simpa using this
 rw[this,h7];exact h8
end
def G1 (op:BinOp) (x y:Value):Option Value:=
 match x,y with
 | .int k a,.int k' b=>match decide (k=k')with
  |false=>none
  |true=>match op with
   | .add=>some (.int k (k.wrap (a+b)))
   | .sub=>some (.int k (k.wrap (a-b)))
   | .mul=>some (.int k (k.wrap (a*b)))
   | .eql=>some (.bool (a==b))
   | .neq=>some (.bool (a !=b))
   | .lss=>some (.bool (decide (a<b)))
   | .leq=>some (.bool (decide (a<=b)))
   | .gtr=>some (.bool (decide (a>b)))
   | .geq=>some (.bool (decide (a>=b)))
   | .rem=>match decide (b=0)with
    |true=>none
    |false=>some (.int k (a.tmod b))
   | .quo=>match decide (b=0)with
    |true=>none
    |false=>some (.int k (k.wrap (a.tdiv b)))
   |_=>none
 | .string a,.string b=>match op with
  | .eql=>some (.bool (a.data.toList==b.data.toList))
  | .neq=>some (.bool (!(a.data.toList==b.data.toList)))
  | .lss=>some (.bool (Op.bytesLess a.data.toList b.data.toList))
  | .leq=>some (.bool (Op.bytesLess a.data.toList b.data.toList||a.data.toList==b.data.toList))
  | .gtr=>some (.bool (!(Op.bytesLess a.data.toList b.data.toList||a.data.toList==b.data.toList)))
  | .geq=>some (.bool (!Op.bytesLess a.data.toList b.data.toList))
  |_=>none
 |_,_=>none
theorem Xj {P : Program} {op : BinOp} {t : TypeId} {x y : Operand} {u v r : Value} (h : G1 op u v = some r) (w : World) :
    (do eqGuard op t x y u v; binOp op t u v : Sem Value).run P w = .ok r w := by
  unfold G1 at h
  split at h
  · rename_i k a k' b
    split at h
    · cases h
    · rename_i hk
      have hk : k = k' := xC hk
      subst hk
      cases op <;> simp only at h <;> first
        | (cases h; done)
        | (simp only [aE] at h; subst h; simp [eqGuard_at_int, binOp, Op.intArith, Op.intCmp]; done)
        | (split at h
           · cases h
           · rename_i hb
             have hb : ¬ b = 0 := of_decide_eq_false hb
             simp only [aE] at h; subst h
             simp [eqGuard_at_int, binOp, Op.intDiv, hb])
  · cases op <;> simp only at h <;> first
      | (cases h; done)
      | (simp only [aE] at h; subst h; simp [eqGuard_at_string, binOp, Op.stringOp, ByteArray.toList_eq]; done)
  · cases h
def G3 (op:BinOp) (x y:Value):Option Value:=
 match x,y with
 | .int k a,.int k' b=>match op with
  | .shl=>match decide (b<0)with
   |true=>none
   |false=>some (.int k (k.wrap (a*2^min b.toNat k.bits)))
  | .shr=>match decide (b<0)with
   |true=>none
   |false=>some (.int k (a.fdiv (2^min b.toNat k.bits)))
  | .and=>match decide (k=k')with
   |false=>none
   |true=>some (.int k (k.wrap ((BitVec.ofInt k.bits a&&&BitVec.ofInt k.bits b).toNat:Int)))
  | .or=>match decide (k=k')with
   |false=>none
   |true=>some (.int k (k.wrap ((BitVec.ofInt k.bits a|||BitVec.ofInt k.bits b).toNat:Int)))
  | .xor=>match decide (k=k')with
   |false=>none
   |true=>some (.int k (k.wrap ((BitVec.ofInt k.bits a^^^BitVec.ofInt k.bits b).toNat:Int)))
  | .andNot=>match decide (k=k')with
   |false=>none
   |true=>some (.int k (k.wrap ((BitVec.ofInt k.bits a&&& ~~~BitVec.ofInt k.bits b).toNat:Int)))
  |_=>none
 |_,_=>none
theorem Xk {P:Program} {op:BinOp} {t:TypeId} {x y:Operand} {u v r:Value} (h:G3 op u v=some r) (w:World):
  (do eqGuard op t x y u v;binOp op t u v:Sem Value).run P w= .ok r w:=by
 unfold G3 at h;split at h
 ·rename_i k a k' b;cases op<;>simp only at h<;>try (cases h;done)
  all_goals (split at h<;>try (cases h;done))
  all_goals simp only[aE]at h
  all_goals subst h
  all_goals rename_i hk
  all_goals (simp only[lB,decide_eq_false_iff_not]at hk)
  all_goals first
   |(subst hk;simp[eqGuard_at_int,binOp,Op.intBits];done)
   |(simp[eqGuard,binOp,Op.shift,hk];done)
 ·cases h
def nth {D:Type}:List D->Nat->Option D
 |[],_=>none
 |x::_,0=>some x
 |_::r,n+1=>nth r n
theorem cq {D:Type}:∀(l:List D) (n:Nat),nth l n=l[n]?
 |[],_=>by simp[nth]
 |x::_,0=>by simp[nth]
 |_::r,n+1=>by simp[nth,cq r n]
def ui (g:Bool) (xs:List AV) (off k:Nat):Option AV:=match g with
 |true=>some (.agg ((xs.drop off).take k))
 |false=>nth xs off
def fits:List AV->Nat->Bool
 |_,0=>true
 |[],_+1=>false
 |_::r,n+1=>fits r n
theorem Nk:∀{l:List AV} {n:Nat},fits l n=true->n<=l.length
 |_,0,_=>qf _
 |[],_+1,h=>by simp[fits]at h
 |_::r,n+1,h=>by simp only[fits]at h;have:=Nk h;simp;omega
section
variable {w:World} {A:Nat->Prop}
theorem aJ.nth:∀{xs:List AV} {vs:List Value} {n:Nat} {x:AV},aJ w A xs vs->Bw.nth xs n=some x->∃v,vs[n]? =some v/\Rel w A x v
 |[],_,_,_,_,h=>by simp[Bw.nth]at h
 |y::_,vs,0,x,hr,h=>by
  simp only[aJ]at hr;obtain⟨v,r,rfl,h1,_⟩:=hr;simp only[Bw.nth,aE]at h;subst h;exact⟨v,by simp,h1⟩
 |_::xs,vs,n+1,x,hr,h=>by
  simp only[aJ]at hr;obtain⟨v,r,rfl,_,h2⟩:=hr;simp only[Bw.nth]at h;obtain⟨u,h3,h4⟩:=aJ.nth h2 h;exact⟨u,by simpa using h3,h4⟩
theorem aJ.drop:∀(n:Nat) {xs:List AV} {vs:List Value},aJ w A xs vs->aJ w A (xs.drop n) (vs.drop n)
 |0,_,_,h=>by simpa using h
 |n+1,[],_,h=>by simp only[aJ]at h;subst h;simp[aJ]
 |n+1,_::_,_,h=>by simp only[aJ]at h;obtain⟨v,r,rfl,_,h⟩:=h;simpa using aJ.drop n h
theorem aJ.take:∀(n:Nat) {xs:List AV} {vs:List Value},aJ w A xs vs->aJ w A (xs.take n) (vs.take n)
 |0,_,_,_=>by simp[aJ]
 |n+1,[],_,h=>by simp only[aJ]at h;subst h;simp[aJ]
 |n+1,_::_,_,h=>by simp only[aJ]at h;obtain⟨v,r,rfl,h1,h⟩:=h;simp only[xN,aJ];exact⟨v,_,rfl,h1,aJ.take n h⟩
theorem aJ.append:∀{xs ys:List AV} {vs us:List Value},aJ w A xs vs->aJ w A ys us->aJ w A (xs++ys) (vs++us)
 |[],_,_,_,h,g=>by simp only[aJ]at h;subst h;simpa using g
 |_::_,_,_,_,h,g=>by simp only[aJ]at h;obtain⟨v,r,rfl,h1,h⟩:=h;simp only[lE,aJ];exact⟨v,_,rfl,h1,aJ.append h g⟩
theorem aJ.set:∀{xs:List AV} {vs:List Value} (n:Nat) {x:AV} {v:Value},aJ w A xs vs->Rel w A x v->aJ w A (xs.set n x) (vs.set n v)
 |[],_,n,_,_,h,_=>by simp only[aJ]at h;subst h;simp[aJ]
 |_::_,_,0,_,_,h,g=>by simp only[aJ]at h;obtain⟨v,r,rfl,_,h⟩:=h;simp only[xI,aJ];exact⟨_,_,rfl,g,h⟩
 |_::_,_,n+1,_,_,h,g=>by simp only[aJ]at h;obtain⟨v,r,rfl,h1,h⟩:=h;simp only[qe,aJ];exact⟨_,_,rfl,h1,aJ.set n h g⟩
theorem L1 {P:Program} {t:TypeId} {g:Bool} (hg:hasB P t=true) (ha:nA P t=g) {xs:List AV} {vs:List Value} (hr:aJ w A xs vs) {off:Nat} {x:AV}
  (h:ui g xs off (gI P t)=some x) (w':World):∃v,(part t vs.toArray off).run P w'= .ok v w'/\Rel w A x v:=by
 subst ha;simp only[part,Sem.run_bind,Dk hg,Result.andThen_ok,Sem.run_ite,mG hg,Sem.run_pure];cases hb:nA P t with
 |true=>
  rw[hb]at h;simp only[ui,aE]at h;subst h;refine⟨_,by simp only[if_true];rfl,?_⟩;simp only[Rel];refine⟨(vs.drop off).take (gI P t),?_,(hr.drop off).take _⟩;congr 1;apply iP;simp[adn]
 |false=>
  rw[hb]at h;simp only[ui]at h;obtain⟨v,h1,h2⟩:=hr.nth h;refine⟨v,?_,h2⟩;simp[h1]
