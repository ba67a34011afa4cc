/- The base of a program logic over the kit's wp calculus, second making: abstract values, what they say of a world, and that they stay true while other blocks change. -/
import Derived.WalkKit
set_option linter.all false
section
def ax:=@Option.some.injEq
def aE:=@Option.bind_some
def a6:=@cond_true
def bg:=@Nat.eq_of_beq_eq_true
def bj:=@Bool.and_eq_true
def bl:=@cond_false
def br:=@List.mem_of_getElem?
def bC:=@Nat.le_refl
def bI:=@if_neg
def bZ:=@Prod.mk.injEq
def ck:=@if_pos
def cu:=@List.mem_cons
def cD:=@List.mem_append
def cX:=@List.getElem?_eq_some_iff
def dj:=@Nat.le_of_ble_eq_true
def dk:=@List.mem_map
def dA:=@List.map_cons
def eG:=@List.length_cons
def eU:=@List.mem_flatMap
def ib:=@List.mem_filter
def iM:=@List.append_nil
def iN:=@Bool.false_eq_true
def iO:=@List.cons_append
def iP:=@Ne.symm
def iQ:=@Array.ext'
def iR:=@Int.toNat_natCast
def iS:=@List.length_take
def ju:=@List.all_eq_true
def jv:=@List.length_map
def jw:=@List.all_cons
def jx:=@Nat.add_mul
def jV:=@List.cons.injEq
def jW:=@List.getElem?_of_mem
def jX:=@List.append_assoc
def jY:=@List.not_mem_nil
def kF:=@Array.getElem?_eq_some_iff
def kG:=@Nat.blt_eq
def kH:=@List.take_length
def kI:=@List.getElem?_take
def lr:=@Nat.lt_or_ge
def lu:=@Bool.not_eq_true'
def lv:=@List.eq_nil_of_length_eq_zero
def lx:=@List.length_append
def ly:=@Bool.eq_iff_iff
def me:=@List.nodup_append
def mf:=@List.getElem?_cons_zero
def mN:=@List.mem_singleton
def mO:=@Nat.zero_add
def mP:=@Nat.zero_le
def mQ:=@List.length_nil
def mR:=@Nat.le_trans
def mS:=@List.getElem?_cons_succ
def od:=@Bool.and_true
def og:=@decide_eq_true_eq
def oh:=@List.mem_append_left
def oo:=@List.length_set
def pT:=@List.getElem?_append_left
def pU:=@List.getElem?_map
def pV:=@List.getElem?_set_ne
def pW:=@Nat.lt_of_lt_of_le
def pX:=@List.getElem?_eq_none
def pY:=@Bool.not_true
def sq:=@Option.some.inj
def sr:=@List.set_cons_succ
def ss:=@List.getElem?_set_self
def su:=@List.getElem?_drop
def sv:=@Array.getElem?_eq_none
def sw:=@List.map_nil
def sx:=@Nat.lt_succ_iff_lt_or_eq
def vq:=@Nat.le_max_left
def vt:=@Nat.le_max_right
def vu:=@List.flatMap_cons
def vv:=@Nat.beq_refl
def vw:=@Nat.mul_comm
def vx:=@Bool.not_false
def vy:=@Array.length_toList
def vz:=@List.nil_append
def vA:=@List.take_succ_cons
def vB:=@Nat.add_comm
def vC:=@List.mem_cons_of_mem
def vD:=@List.any_eq_true
def vE:=@List.zip_cons_cons
def zV:=@of_decide_eq_true
def zW:=@List.perm_append_comm
def zX:=@Nat.ble_eq_true_of_le
def zY:=@List.getElem?_append_right
def zZ:=@List.map_append
def z6:=@List.take_append_drop
def z7:=@Nat.le_mul_of_pos_right
def z8:=@List.length_pos_iff
def Aa:=@Nat.one_mul
def Ab:=@Nat.add_assoc
def Ac:=@Bool.or_eq_true
def Ad:=@Array.getD_eq_getD_getElem?
def Ae:=@Nat.le_succ
def Af:=@Nat.mul_add
def Ag:=@List.any_eq_false
def Fv:=@List.set_cons_zero
def Fw:=@Nat.add_zero
def Fx:=@List.contains_iff_mem
def Fy:=@List.Sublist.refl
def Fz:=@List.foldl_cons
def FA:=@Nat.lt_irrefl
def FB:=@List.mem_range
def FC:=@List.length_replicate
def FD:=@Nat.mul_le_mul_right
def FE:=@List.ext_getElem?
def FG:=@List.length_eq_zero_iff
def FH:=@List.map_set
def FI:=@Bool.not_eq_false'
def MR:=@List.mem_cons_self
def MS:=@List.flatMap_nil
def MT:=@List.map_drop
def MU:=@List.map_take
def MV:=@Option.map_eq_some_iff
def MW:=@Nat.div_add_mod
def MX:=@List.filter_cons
def MY:=@Option.getD_some
def MZ:=@Nat.sub_zero
def M0:=@List.take_of_length_le
def M1:=@Option.map_none
def M3:=@List.mem_filterMap
def M4:=@Nat.lt_trichotomy
def M5:=@Array.setIfInBounds_comm
def M6:=@List.nodup_cons
def M7:=@List.take_left
def M8:=@Nat.zero_mul
def M9:=@List.size_toArray
def M':=@List.length_drop
def Na:=@List.filter_eq_nil_iff
def Nb:=@Bool.not_eq_true
def Nc:=@Prod.mk.inj
def Nd:=@List.take_add_one
def Nf:=@List.getElem?_replicate
def Ng:=@Int.tmod_eq_emod_of_nonneg
def Nh:=@List.getElem?_take_of_lt
def Ni:=@Bool.and_false
def XT:=@Array.ext_getElem?
def XU:=@Array.getElem?_modify
def XV:=@List.sublist_append_right
def XW:=@List.Sublist.append
def XX:=@List.getElem?_append
def XY:=@List.getElem?_singleton
def XZ:=@List.extract_eq_take_drop
def X0:=@List.mem_append_right
def X1:=@List.mem_erase_of_ne
def X2:=@Array.foldl_toList
def X3:=@Array.toList_zipIdx
def X4:=@Nat.eq_zero_or_pos
def X5:=@Option.mem_toList
def X6:=@List.map_toArray
def X7:=@Array.mapM_eq_mapM_toList
def X8:=@Option.isSome_iff_exists
def X9:=@List.eq_nil_iff_forall_not_mem
def X':=@List.map_replicate
def Ya:=@List.flatMap_append
def Yb:=@List.length_filterMap_le
noncomputable section
namespace Go.Bw
open Go
inductive AV where
 |v (x:Value)
 |sl (k:Nat) (rows:List (List AV))
 |agg (xs:List AV)
 |bX (xs:List AV)
 |ip (cells:List AV)
 |own (tag b off:Nat)
 |os (tag:Nat) (a:Option Addr) (n c:Nat)
 |oe (tag:Nat) (v:Value) (n:Nat)
 |om (tag r:Nat)
 |fn (f:FuncId) (fs caps:List AV)
 |bd (t:TypeId) (x:AV)
mutual
def Rel (w:World) (A:Nat->Prop):AV->Value->Prop
 | .v x,y=>y=x
 | .sl k rows,y=>(rows=[]/\∃a cap,y= .slice a 0 cap)\/∃b o cap vs,y= .slice (some ⟨b,o,none⟩) rows.length cap/\(b<w.heap.size/\A b)/\rows.length<=cap/\cap<=maxLen/\
   bc w A k rows vs/\∀j u,vs[j]? =some u->w.cell? ⟨b,o+j,none⟩=some u
 | .agg xs,y=>∃vs:List Value,y= .agg vs.toArray/\aG w A xs vs
 | .bX xs,y=>∃vs:List Value,y= .tuple vs.toArray/\aG w A xs vs
 | .ip cs,y=>∃b o vs,y= .pointer (some ⟨b,o,none⟩)/\(b<w.heap.size/\A b)/\aG w A cs vs/\∀j u,vs[j]? =some u->w.cell? ⟨b,o+j,none⟩=some u
 | .own _ b off,y=>y= .pointer (some ⟨b,off,none⟩)
 | .os _ a n c,y=>y= .slice a n c
 | .oe _ v n,y=>∃b len cap,v= .slice (some ⟨b,0,none⟩) len cap/\y= .pointer (some ⟨b,n,none⟩)
 | .om _ r,y=>y= .map (some r)
 | .fn f fs cs,y=>∃us vs:List Value,y= .func (.func f) us.toArray vs.toArray/\aG w A fs us/\aG w A cs vs
 | .bd t x,y=>∃u,y= .iface t u/\Rel w A x u
def aG (w:World) (A:Nat->Prop):List AV->List Value->Prop
 |[],vs=>vs=[]
 |x::xs,vs=>∃v r,vs=v::r/\Rel w A x v/\aG w A xs r
def bc (w:World) (A:Nat->Prop) (k:Nat):List (List AV)->List Value->Prop
 |[],vs=>vs=[]
 |r::rs,vs=>∃v1 v2,vs=v1++v2/\r.length=k/\aG w A r v1/\bc w A k rs v2
end
def cR (w:World) (A:Nat->Prop) (w':World) (A':Nat->Prop):Prop:=
 w.heap.size<=w'.heap.size/\∀b,b<w.heap.size->A b->A' b/\w'.heap[b]? =w.heap[b]?
theorem Gt {w:World} {b o:Nat} {u:Value} (h:w.cell? ⟨b,o,none⟩=some u):b<w.heap.size:=World.block_lt_of_cell? w ⟨b,o,none⟩ h
section
variable {w w':World} {A A':Nat->Prop}
theorem aG.length:∀{xs:List AV} {vs:List Value},aG w A xs vs->vs.length=xs.length
 |[],_,h=>by simp only[aG]at h;simp[h]
 |_::_,_,h=>by simp only[aG]at h;obtain⟨v,r,rfl,_,h⟩:=h;simp[aG.length h]
theorem bc.length {k:Nat}:∀{xs:List (List AV)} {vs:List Value},bc w A k xs vs->vs.length=xs.length*k
 |[],_,h=>by simp only[bc]at h;simp[h]
 |_::_,_,h=>by
  simp only[bc]at h;obtain⟨v,r,rfl,hk,h1,h⟩:=h;simp[bc.length h,aG.length h1,hk,jx,vB]
mutual
theorem Rel.aX (h:cR w A w' A'):∀{x:AV} {v:Value},Rel w A x v->Rel w' A' x v
 | .v _,_,h1=>by simp only[Rel]at h1⊢;exact h1
 | .sl k rows,v,h1=>by
  simp only[Rel]at h1⊢;rcases h1 with h1|⟨b,o,cap,vs,h1,h2,h3,h4,h5,h6⟩
  ·exact .inl h1
  ·obtain⟨ha,he⟩:=h.2 b h2.1 h2.2;exact .inr ⟨b,o,cap,vs,h1,⟨pW h2.1 h.1,ha⟩,h3,h4,bc.aX h h5,λj u hu=>(World.cell?_of_block he).trans (h6 j u hu)⟩
 | .agg xs,_,h1=>by simp only[Rel]at h1⊢;obtain⟨vs,e,h2⟩:=h1;exact⟨vs,e,aG.aX h h2⟩
 | .bX xs,_,h1=>by simp only[Rel]at h1⊢;obtain⟨vs,e,h2⟩:=h1;exact⟨vs,e,aG.aX h h2⟩
 | .ip cs,_,h1=>by
  simp only[Rel]at h1⊢;obtain⟨b,o,vs,h1,h2,h5,h6⟩:=h1;obtain⟨ha,he⟩:=h.2 b h2.1 h2.2;exact⟨b,o,vs,h1,⟨pW h2.1 h.1,ha⟩,aG.aX h h5,λj u hu=>(World.cell?_of_block he).trans (h6 j u hu)⟩
 | .own _ _ _,_,h1=>by simp only[Rel]at h1⊢;exact h1
 | .os _ _ _ _,_,h1=>by simp only[Rel]at h1⊢;exact h1
 | .oe _ _ _,_,h1=>by simp only[Rel]at h1⊢;exact h1
 | .om _ _,_,h1=>by simp only[Rel]at h1⊢;exact h1
 | .fn f fs cs,_,h1=>by simp only[Rel]at h1⊢;obtain⟨us,vs,e,h2,h3⟩:=h1;exact⟨us,vs,e,aG.aX h h2,aG.aX h h3⟩
 | .bd t x,_,h1=>by simp only[Rel]at h1⊢;obtain⟨vs,e,h2⟩:=h1;exact⟨vs,e,Rel.aX h h2⟩
theorem aG.aX (h:cR w A w' A'):∀{x:List AV} {v:List Value},aG w A x v->aG w' A' x v
 |[],_,h1=>by simp only[aG]at h1⊢;exact h1
 |_::_,_,h1=>by simp only[aG]at h1⊢;obtain⟨v,r,e,h2,h3⟩:=h1;exact⟨v,r,e,Rel.aX h h2,aG.aX h h3⟩
theorem bc.aX (h:cR w A w' A'):∀{k:Nat} {x:List (List AV)} {v:List Value},bc w A k x v->bc w' A' k x v
 |_,[],_,h1=>by simp only[bc]at h1⊢;exact h1
 |_,_::_,_,h1=>by simp only[bc]at h1⊢;obtain⟨v,r,e,hk,h2,h3⟩:=h1;exact⟨v,r,e,hk,aG.aX h h2,bc.aX h h3⟩
end
end
inductive aj where
 |box (b:Nat) (cells:List AV)
 |row (v:Value) (e:TypeId) (k:Nat) (rows:List (List AV))
 |map (r:Nat) (es:List (Value×AV))
 |fact (x:AV) (v:Value)
 |gone
def aj.ids:aj->List Nat
 | .box b _=>[b]
 | .row v _ _ _=>v.ownBlock.toList
 | .map r _=>[r]
 | .fact _ _=>[]
 | .gone=>[]
def kn (w:World) (A:Nat->Prop):List (Value×AV)->List MapEntry->Prop
 |[],l=>l=[]
 |x::xs,l=>∃e r,l=e::r/\e.key=x.1/\Rel w A x.2 e.val/\kn w A xs r
def ids (L:List aj):List Nat:=L.flatMap aj.ids
def aj.ok (w:World) (A:Nat->Prop):aj->Prop
 | .box b cells=>∃e vs,w.heap[b]? =some (.cells (List.toArray vs) e (0,0))/\aG w A cells vs
 | .row v e k rows=>∃vs,bc w A k rows vs/\w.ownsRow 0 e k v rows.length vs
 | .map r es=>∃a clock,w.heap[r]? =some (.map (List.toArray a) clock)/\kn w A es a/\(a.map (·.born)).Nodup/\∀x∈a,x.born<clock
 | .fact x v=>Rel w A x v
 | .gone=>True
def Al (F:Nat->Prop) (L:List aj) (b:Nat):Prop:=¬F b/\b∉ids L
abbrev Gl:=List (Nat×List Value)
def rX (G:Gl) (w:World) (A:Nat->Prop):Prop:=∀p∈G,A p.1/\∃e fz,w.heap[p.1]? =some (.cells p.2.toArray e fz)
structure bh (G:Gl) (w:World) (F:Nat->Prop) (L:List aj):Prop where
 ec:∀x∈L,x.ok w (Al F L)
 nodup:(ids L).Nodup
 free:∀b∈ids L,¬F b
 bound:∀b,F b->b<w.heap.size
 b0:rX G w (Al F L)
def n5 (w w':World):Prop:=w.drawn<=w'.drawn
theorem n5.of {w w':World} (h:w.drawn<=w'.drawn):n5 w w':=h
theorem n5.trans {w w' w'':World} (h:n5 w w') (g:n5 w' w''):n5 w w'':=mR h g
structure Ext (L:List aj) (w:World) (L':List aj) (w':World):Prop where
 os:w'.os=w.os
 tape:w'.tape=w.tape
 output:w'.output=w.output
 size:w.heap.size<=w'.heap.size
 block:∀b,b<w.heap.size->b∉ids L->w'.heap[b]? =w.heap[b]?
 new:∀b∈ids L',b∈ids L\/w.heap.size<=b
 drawn:n5 w w'
theorem Ext.refl (L:List aj) (w:World):Ext L w L w:=⟨rfl,rfl,rfl,bC _,λ_ _ _=>rfl,λ_ h=> .inl h,.of (bC _)⟩
theorem Ext.trans {L L' L'':List aj} {w w' w'':World} (h:Ext L w L' w') (g:Ext L' w' L'' w''):Ext L w L'' w'' where
 os:=g.os.trans h.os
 tape:=g.tape.trans h.tape
 output:=g.output.trans h.output
 size:=mR h.size g.size
 block:=λb hb hn=>(g.block b (pW hb h.size) (λhm=>(h.new b hm).elim hn (λhle=>absurd hb (Nat.not_lt.2 hle)))).trans (h.block b hb hn)
 new:=λb hb=>(g.new b hb).elim (λhm=>h.new b hm) (λhle=> .inr (mR h.size hle))
 drawn:=h.drawn.trans g.drawn
theorem Ext.keeps {L L':List aj} {w w':World} {F:Nat->Prop} (h:Ext L w L' w'):cR w (Al F L) w' (Al F L'):=
 ⟨h.size,λb hb ha=>⟨⟨ha.1,λhm=>(h.new b hm).elim ha.2 (λhle=>absurd hb (Nat.not_lt.2 hle))⟩,h.block b hb ha.2⟩⟩
theorem rX.aX {G:Gl} {w w':World} {A A':Nat->Prop} (h:rX G w A) (hk:cR w A w' A'):rX G w' A':=λp hp=>by
 obtain⟨ha,e,fz,hh⟩:=h p hp;have hlt:p.1<w.heap.size:=(kF.1 hh).1;obtain⟨h1,h2⟩:=hk.2 p.1 hlt ha;exact⟨h1,e,fz,h2.trans hh⟩
theorem kn.aX {w w':World} {A A':Nat->Prop} (h:cR w A w' A'):∀{es:List (Value×AV)} {l:List MapEntry},kn w A es l->kn w' A' es l
 |[],_,h1=>by simp only[kn]at h1⊢;exact h1
 |_::_,_,h1=>by simp only[kn]at h1⊢;obtain⟨v,r,e,h2,h3,h4⟩:=h1;exact⟨v,r,e,h2,Rel.aX h h3,kn.aX h h4⟩
theorem aj.ok.lt {w:World} {A:Nat->Prop} {x:aj} (h:x.ok w A):∀b∈x.ids,b<w.heap.size:=by
 intro b hb;cases x with
 |map c es=>simp[aj.ids]at hb;subst hb;obtain⟨e,vs,h1,_⟩:=h;exact(kF.1 h1).1
 |fact x v=>simp[aj.ids]at hb
 |gone=>simp[aj.ids]at hb
 |box c cells=>simp[aj.ids]at hb;subst hb;obtain⟨e,vs,h1,_⟩:=h;exact(kF.1 h1).1
 |row v e k rows=>obtain⟨vs,h1,h2⟩:=h;exact(h2.lt b (by simpa[aj.ids]using hb)).2
theorem bh.lt {G:Gl} {w:World} {F:Nat->Prop} {L:List aj} (h:bh G w F L):∀b∈ids L,b<w.heap.size:=by
 intro b hb;obtain⟨x,hx,hb⟩:=eU.1 hb;exact(h.ec x hx).lt b hb
theorem aj.ok.aX {w w':World} {A A':Nat->Prop} {x:aj} (h:x.ok w A) (hk:cR w A w' A') (hb:∀b∈x.ids,w'.heap[b]? =w.heap[b]?):x.ok w' A':=by
 cases x with
 |map c es=>obtain⟨e,vs,h1,h2,h3⟩:=h;exact⟨e,vs,(hb c (by simp[aj.ids])).trans h1,kn.aX hk h2,h3⟩
 |fact x v=>exact Rel.aX hk h
 |gone=>trivial
 |box c cells=>obtain⟨e,vs,h1,h2⟩:=h;exact⟨e,vs,(hb c (by simp[aj.ids])).trans h1,aG.aX hk h2⟩
 |row v e k rows=>
  obtain⟨vs,h1,h2,h3⟩:=h;refine⟨vs,bc.aX hk h1,h2,?_⟩;rcases h3 with h3|⟨g,cap,cur,hv,hg,hh,r⟩
  ·exact .inl h3
  ·exact .inr ⟨g,cap,cur,hv,hg,(hb g (by simp[aj.ids,hv,Value.ownBlock])).trans hh,r⟩
theorem b5 (l r:List aj):ids (l++r)=ids l++ids r:=by simp[ids]
theorem cy (x:aj) (r:List aj):ids (x::r)=x.ids++ids r:=by simp[ids]
theorem bh.rT {G:Gl} {w w':World} {F:Nat->Prop} {l r:List aj} {x x':aj} (h:bh G w F (l++x::r)) (hsz:w.heap.size<=w'.heap.size)
  (hw:∀b,b<w.heap.size->b∉x.ids->w'.heap[b]? =w.heap[b]?) (hi:∀b∈x'.ids,b∈x.ids\/w.heap.size<=b) (hn:x'.ids.Nodup) (hx:x'.ok w' (Al F (l++x'::r))):bh G w' F (l++x'::r):=by
 have hlt:=h.lt;have hnd:=h.nodup;have hfr:=h.free;simp only[b5,cy,cD]at hlt hfr;simp only[b5,cy,me,cD]at hnd;have hk:cR w (Al F (l++x::r)) w' (Al F (l++x'::r)):=by
  refine⟨hsz,λb hb ha=>?_⟩;simp only[Al,b5,cy,cD,not_or]at ha⊢;refine⟨⟨ha.1,ha.2.1,λhm=>?_,ha.2.2.2⟩,hw b hb ha.2.2.1⟩;rcases hi b hm with h1|h1
  ·exact ha.2.2.1 h1
  ·omega
 have hoth:∀y,y∈l\/y∈r->y.ok w' (Al F (l++x'::r)):=by
  intro y hy;have hok:=h.ec y (by rcases hy with hy|hy<;>simp[hy]);refine hok.aX hk λb hb=>hw b (hok.lt b hb) λhbx=>?_;rcases hy with hy|hy
  ·exact hnd.2.2 b (by exact eU.2 ⟨y,hy,hb⟩) b (.inl hbx) rfl
  ·exact hnd.2.1.2.2 b hbx b (eU.2 ⟨y,hy,hb⟩) rfl
 refine⟨λy hy=>?_,?_,λb hb=>?_,λb hb=>pW (h.bound b hb) hsz,h.b0.aX hk⟩
 ·simp only[cD,cu]at hy;rcases hy with hy|rfl|hy
  ·exact hoth y (.inl hy)
  ·exact hx
  ·exact hoth y (.inr hy)
 ·simp only[b5,cy,me,cD];refine⟨hnd.1,⟨hn,hnd.2.1.2.1,λa ha b hb hab=>?_⟩,λa ha b hb hab=>?_⟩
  ·subst hab;rcases hi a ha with h1|h1
   ·exact hnd.2.1.2.2 a h1 a hb rfl
   ·have:=hlt a (.inr (.inr hb));omega
  ·subst hab;rcases hb with hb|hb
   ·rcases hi a hb with h1|h1
    ·exact hnd.2.2 a ha a (.inl h1) rfl
    ·have:=hlt a (.inl ha);omega
   ·exact hnd.2.2 a ha a (.inr hb) rfl
 ·simp only[b5,cy,cD]at hb;rcases hb with hb|hb|hb
  ·exact hfr b (.inl hb)
  ·rcases hi b hb with h1|h1
   ·exact hfr b (.inr (.inl h1))
   ·intro hF;have:=h.bound b hF;omega
  ·exact hfr b (.inr (.inr hb))
theorem bh.push {G:Gl} {w w':World} {F:Nat->Prop} {L:List aj} {x:aj} (h:bh G w F L) (hsz:w.heap.size<=w'.heap.size)
  (hw:∀b,b<w.heap.size->w'.heap[b]? =w.heap[b]?) (hi:∀b∈x.ids,w.heap.size<=b) (hn:x.ids.Nodup) (hx:x.ok w' (Al F (L++[x]))):bh G w' F (L++[x]):=by
 have hk:cR w (Al F L) w' (Al F (L++[x])):=by
  refine⟨hsz,λb hb ha=>?_⟩;simp only[Al,b5,cy,cD,not_or]at ha⊢;exact⟨⟨ha.1,ha.2,λhm=>by have:=hi b hm;omega,by simp[ids]⟩,hw b hb⟩
 refine⟨λy hy=>?_,?_,λb hb=>?_,λb hb=>pW (h.bound b hb) hsz,h.b0.aX hk⟩
 ·simp only[cD,cu,jY,or_false]at hy;rcases hy with hy|rfl
  ·exact(h.ec y hy).aX hk λb hb=>hw b ((h.ec y hy).lt b hb)
  ·exact hx
 ·simp only[b5,cy,me,cD];refine⟨h.nodup,⟨hn,by simp[ids],λa _ b hb=>by simp[ids]at hb⟩,λa ha b hb hab=>?_⟩;subst hab;rcases hb with hb|hb
  ·have h1:=h.lt a ha;have h2:=hi a hb;omega
  ·simp[ids]at hb
 ·simp only[b5,cy,cD]at hb;rcases hb with hb|hb|hb
  ·exact h.free b hb
  ·intro hF;have h1:=h.bound b hF;have h2:=hi b hb;omega
  ·simp[ids]at hb
abbrev Sg:=List (Nat×AV)
def look:Sg->Nat->Option AV
 |[],_=>none
 |(k,x)::r,t=>match Nat.beq k t with
  |true=>some x
  |false=>look r t
abbrev Sl:=Nat->Option AV
abbrev eZ (w:World) (A:Nat->Prop) (N:Nat) (a:Act) (s:Sl):Prop:=
 a.tmps.size=N/\∀t x,s t=some x->t<N/\Rel w A x (a.tmps.getD t undef)
abbrev pv (w:World) (A:Nat->Prop) (N:Nat) (a:Act) (O:Sg):Prop:=eZ w A N a (look O)
theorem pv.aX {w w':World} {A A':Nat->Prop} {N:Nat} {a:Act} {O:Sg} (h:pv w A N a O) (hk:cR w A w' A'):pv w' A' N a O:=
 ⟨h.1,λt x hx=>⟨(h.2 t x hx).1,Rel.aX hk (h.2 t x hx).2⟩⟩
theorem FN (tmps:Array Value) (d:Nat) (v:Value) (h:d<tmps.size):(tmps.setIfInBounds d v).getD d undef=v:=by
 simp[Array.getD,h]
theorem FL (tmps:Array Value) (d t:Nat) (v:Value) (h:d≠t):(tmps.setIfInBounds d v).getD t undef=tmps.getD t undef:=by
 simp only[Ad,Array.getElem?_setIfInBounds,h,if_false]
def lZ (dst:Option Nat) (x:AV) (O:Sg):Sg:=
 match dst with
 |some d=>(d,x)::O
 |none=>O
theorem pv.put {w:World} {A:Nat->Prop} {N:Nat} {a:Act} {O:Sg} (h:pv w A N a O) (dst:Option Nat) (hd:∀d,dst=some d->d<N) {x:AV} {v:Value} (hx:Rel w A x v):
  pv w A N (a.put dst v) (lZ dst x O):=by
 cases dst with
 |none=>exact h
 |some d=>
  refine⟨by simp[Act.put,h.1],λt y hy=>?_⟩;simp only[lZ,look]at hy;by_cases hdt:d=t
  ·subst hdt;have:Nat.beq d d=true:=vv d;rw[this]at hy;simp only[ax]at hy;subst hy;refine⟨hd d rfl,?_⟩;simp only[Act.put];rw[FN _ _ _ (by rw[h.1];exact hd d rfl)];exact hx
  ·have:Nat.beq d t=false:=by cases hb:Nat.beq d t with
    |false=>rfl
    |true=>exact absurd (bg hb) hdt
   rw[this]at hy;simp only at hy;obtain⟨h1,h2⟩:=h.2 t y hy;refine⟨h1,?_⟩;simp only[Act.put];rw[FL _ _ _ _ hdt];exact h2
structure St (G:Gl) (N:Nat) (w:World) (F:Nat->Prop) (a:Act) (O:Sg) (L:List aj):Prop where
 sg:pv w (Al F L) N a O
 hp:bh G w F L
 df:a.defers=[]
inductive AE where
 |norm
 |exit (id:Nat)
 |ret
 |aJ (x:AV)
def AE.rel (w:World) (A:Nat->Prop):AE->Exit->Prop
 | .norm,e=>e= .normal
 | .exit i,e=>e= .exit i
 | .ret,e=>e= .ret
 | .aJ x,e=>∃v,e= .panic [{v,recovered:=false}]/\Rel w A x v
abbrev AQ:=AE->Sg->List aj->Prop
def AE.sl (e:AE) (O:Sg):Sg:=match e with
 | .aJ _=>[]
 |_=>O
def CQ (G:Gl) (N:Nat) (F:Nat->Prop) (w0:World) (η0:List aj) (Q:AQ) (e:Exit) (a:Act) (w:World):Prop:=
 ∃e0 O L,Q e0 (e0.sl O) L/\AE.rel w (Al F L) e0 e/\St G N w F a (e0.sl O) L/\Ext η0 w0 L w
structure Cx where
 P:Program
 G:Gl
def bH (C:Cx) (N:Nat) (c:Code) (Q:AQ) (O:Sg) (L:List aj):Prop:=
 ∀F w0 η0 a w,St C.G N w F a O L->Ext η0 w0 L w->c.wp C.P (CQ C.G N F w0 η0 Q) a w
abbrev AE.then (next:Sg->List aj->Prop) (Q:AQ):AQ:=λe O L=>match e with
 | .norm=>next O L
 | .exit i=>Q (.exit i) O L
 | .ret=>Q .ret O L
 | .aJ x=>Q (.aJ x) O L
abbrev AE.inBlock (id:Nat) (Q:AQ):AQ:=λe O L=>match e with
 | .norm=>Q .norm O L
 | .exit i=>match Nat.beq i id with
  |true=>Q .norm O L
  |false=>Q (.exit i) O L
 | .ret=>Q .ret O L
 | .aJ x=>Q (.aJ x) O L
section
variable {C:Cx} {N:Nat} {Q:AQ} {O:Sg} {L:List aj}
theorem CQ.intro {G:Gl} {F:Nat->Prop} {w0:World} {η0:List aj} {e:Exit} {a:Act} {w:World} (e0:AE) (hr:AE.rel w (Al F L) e0 e) (hQ:Q e0 (e0.sl O) L) (hs:St G N w F a (e0.sl O) L) (hx:Ext η0 w0 L w):CQ G N F w0 η0 Q e a w:=
 ⟨e0,O,L,hQ,hr,hs,hx⟩
theorem bH.skip (h:Q .norm O L):bH C N .skip Q O L:=λ_ _ _ _ _ hs hx=>wp_skip (CQ.intro .norm rfl h hs hx)
theorem bH.exit {id:Nat} (h:Q (.exit id) O L):bH C N (.exit id) Q O L:=λ_ _ _ _ _ hs hx=>wp_exit (CQ.intro (.exit id) rfl h hs hx)
theorem bH.ret (h:Q .ret O L):bH C N .ret Q O L:=λ_ _ _ _ _ hs hx=>wp_ret (CQ.intro .ret rfl h hs hx)
theorem bH.label {l:Nat} (h:Q .norm O L):bH C N (.label l) Q O L:=λ_ _ _ _ _ hs hx=>wp_label (CQ.intro .norm rfl h hs hx)
theorem bH.mono {c:Code} {Q':AQ} (h:bH C N c Q O L) (hq:∀e O L,Q e O L->Q' e O L):bH C N c Q' O L:=λF w0 η0 a w hs hx=>
 wp_mono (h F w0 η0 a w hs hx) λ_ _ _ ⟨e0,O',L',h1,h2⟩=>⟨e0,O',L',hq _ _ _ h1,h2⟩
theorem bH.seq {x y:Code} (h:bH C N x (AE.then (bH C N y Q) Q) O L):bH C N (.seq x y) Q O L:=λF w0 η0 a w hs hx=>by
 refine wp_seq (wp_mono (h F w0 η0 a w hs hx) ?_);rintro e a' w' ⟨e0,O',L',h1,h2,h3,h4⟩;cases e0 with
 |norm=>simp only[AE.rel]at h2;subst h2;exact h1 F w0 η0 a' w' h3 h4
 |exit i=>simp only[AE.rel]at h2;subst h2;exact⟨.exit i,O',L',h1,rfl,h3,h4⟩
 |ret=>simp only[AE.rel]at h2;subst h2;exact⟨.ret,O',L',h1,rfl,h3,h4⟩
 |aJ x=>obtain⟨v,rfl,h2⟩:=h2;exact⟨.aJ x,O',L',h1,⟨v,rfl,h2⟩,h3,h4⟩
theorem bH.block {id:Nat} {c:Code} (h:bH C N c (AE.inBlock id Q) O L):bH C N (.block id c) Q O L:=λF w0 η0 a w hs hx=>by
 refine wp_block (wp_mono (h F w0 η0 a w hs hx) ?_);rintro e a' w' ⟨e0,O',L',h1,h2,h3,h4⟩;cases e0 with
 |norm=>simp only[AE.rel]at h2;subst h2;exact⟨.norm,O',L',h1,rfl,h3,h4⟩
 |exit i=>
  simp only[AE.rel]at h2;subst h2;simp only[Exit.inBlock];by_cases hi:i=id
  ·subst hi;simp only[AE.inBlock,vv]at h1;rw[ck rfl];exact⟨.norm,O',L',h1,rfl,h3,h4⟩
  ·rw[bI hi];have:Nat.beq i id=false:=by cases hb:Nat.beq i id with
    |false=>rfl
    |true=>exact absurd (bg hb) hi
   simp only[AE.inBlock,this]at h1;exact⟨.exit i,O',L',h1,rfl,h3,h4⟩
 |ret=>simp only[AE.rel]at h2;subst h2;exact⟨.ret,O',L',h1,rfl,h3,h4⟩
 |aJ x=>obtain⟨v,rfl,h2⟩:=h2;exact⟨.aJ x,O',L',h1,⟨v,rfl,h2⟩,h3,h4⟩
def ev (s:Sl):Operand->Option AV
 | .tmp t=>s t
 | .const v=>some (.v v)
 | .global g=>some (.v (.pointer (some ⟨g,0,none⟩)))
 | .func f=>some (.v (.func (.func f) #[] #[]))
theorem a8 {w:World} {A:Nat->Prop} {a:Act} {s:Sl} (hs:eZ w A N a s) {o:Operand} {x:AV} (h:ev s o=some x):Rel w A x (a.eval o):=by
 cases o with
 |tmp t=>exact(hs.2 t x h).2
 |const v=>simp only[ev,ax]at h;subst h;simp[Rel,Act.eval]
 |global g=>simp only[ev,ax]at h;subst h;simp[Rel,Act.eval]
 |func f=>simp only[ev,ax]at h;subst h;simp[Rel,Act.eval]
theorem bH.cond {c:Operand} {x y:Code} {t:Bool} (hc:ev (look O) c=some (.v (.bool t))) (h1:t=true->bH C N x Q O L) (h2:t=false->bH C N y Q O L):bH C N (.cond c x y) Q O L:=
 λF w0 η0 a w hs hx=>by
  have he:=a8 hs.sg hc;simp only[Rel]at he;exact wp_cond_split he (λht=>h1 ht F w0 η0 a w hs hx) (λht=>h2 ht F w0 η0 a w hs hx)
def gT (G:Gl) (N:Nat) (O:Sg) (L:List aj) (O':Sg) (L':List aj):Prop:=
 ∀F w a,St G N w F a O L->St G N w F a O' L'/\∀b∈ids L',b∈ids L
theorem bH.lW {c:Code} {O':Sg} {L':List aj} (hw:gT C.G N O L O' L') (h:bH C N c Q O' L'):bH C N c Q O L:=λF w0 η0 a w hs hx=>by
 obtain⟨h1,h2⟩:=hw F w a hs;exact h F w0 η0 a w h1 (hx.trans ⟨rfl,rfl,rfl,bC _,λ_ _ _=>rfl,λb hb=> .inl (h2 b hb),.of (bC _)⟩)
def pick:List Nat->Sg->Option Sg
 |[],_=>some []
 |t::ts,O=>match look O t,pick ts O with
  |some x,some r=>some ((t,x)::r)
  |_,_=>none
end
end Go.Bw
end

section
noncomputable section
namespace Go.Bw
open Go
inductive TD where
 |struct (fs:List (Nat×Nat×Nat×Bool))
 |slice (e k:Nat)
 |array (n e k:Nat) (g:Bool)
 |int (k:IntKind)
 |str
 |bool
 |iface
 |other
structure TI where
 d:TD
 size:Nat
 bytes:Nat
 zero:List Value
def x6:Value->Value->Bool
 | .bool a,.bool b=>a==b
 | .int k a,.int k' b=>decide (k=k')&&a==b
 | .string s,.string t=>s.data.toList==t.data.toList
 | .pointer none,.pointer none=>true
 | .slice none 0 0,.slice none 0 0=>true
 | .map none,.map none=>true
 | .nilFunc,.nilFunc=>true
 | .func (.func f) a b,.func (.func g) c d=>Nat.beq f g&&(a.toList.isEmpty&&b.toList.isEmpty&&(c.toList.isEmpty&&d.toList.isEmpty))
 | .nilIface,.nilIface=>true
 |_,_=>false
theorem Ii {a b:Value} (h:x6 a b=true):a=b:=by
 unfold x6 at h;split at h<;>first|rfl|(simp_all;done)|cases h|skip
 ·rename_i s t;cases s;cases t;rename_i s t;cases s;cases t
  simp_all
def rm:List Value->List Value->Bool
 |[],[]=>true
 |a::as,b::bs=>x6 a b&&rm as bs
 |_,_=>false
theorem HH:∀{a b:List Value},rm a b=true->a=b
 |[],[],_=>rfl
 |a::as,b::bs,h=>by
  simp only[rm,bj]at h;rw[Ii h.1,HH h.2]
 |[],_::_,h=>by simp[rm]at h
 |_::_,[],h=>by simp[rm]at h
def fW (P:Program) (t:Nat):Nat:=match P.info? t with
 |some i=>i.size
 |none=>0
def l3 (P:Program) (t:Nat):Bool:=match P.underlying t with
 |some (.struct _)=>true
 |some (.array _ _)=>true
 |_=>false
def hasB (P:Program) (t:Nat):Bool:=(P.underlying t).isSome&&(P.info? t).isSome
def fx (P:Program) (d:TD) (u:TypeDesc):Bool:=match d,u with
 | .struct fs,.struct gs=>decide (gs.toList.map (λ(f:Field)=>(f.offset,f.type,fW P f.type,l3 P f.type))=fs)&&fs.all λf=>hasB P f.2.1&&Nat.blt 0 f.2.2.1
 | .slice e k,.slice e'=>e==e'&&k==fW P e&&hasB P e
 | .array n e k g,.array n' e'=>n==n'&&e==e'&&k==fW P e&&g==l3 P e&&hasB P e&&Nat.blt 1 n
 | .int k,.int k'=>decide (k=k')
 | .str,.string=>true
 | .bool,.bool=>true
 | .iface,.interface _=>true
 | .other,.interface _=>false
 | .other,.struct _=>false
 | .other,.array _ _=>false
 | .other,_=>true
 |_,_=>false
def kD (P:Program) (t:Nat) (i:TI):Bool:=match P.underlying t,P.info? t with
 |some u,some ti=>fx P i.d u&&ti.size==i.size&&ti.bytes==i.bytes&&(match ti.zero with|some z=>rm z.cells.toList i.zero&&Nat.beq i.zero.length i.size|none=>false)
 |_,_=>false
inductive Tr (D:Type) where
 |lf
 |nd (x:Option D) (l r:Tr D)
def jg (n:Nat):Nat:=match n with
 |0=>0
 |m+1=>Nat.mod (m+1) 2
def gD (n:Nat):Nat:=match n with
 |0=>0
 |m+1=>Nat.div (m+1) 2
theorem kM (n:Nat):jg n=Nat.mod n 2:=by cases n<;>rfl
theorem kN (n:Nat):gD n=Nat.div n 2:=by cases n<;>rfl
def Tr.get {D:Type}:Tr D->Nat->Option D
 | .lf,_=>none
 | .nd x l r,n=> @Bool.rec (λ_=>Option D) (@Bool.rec (λ_=>Option D) (r.get (Nat.pred (gD n))) (l.get (gD n)) (Nat.beq (jg n) 1)) x (Nat.beq n 0)
theorem Tr.jE {D:Type} (n:Nat):(Tr.lf:Tr D).get n=none:=rfl
theorem Tr.ny {D:Type} (x:Option D) (l r:Tr D) (n:Nat):(Tr.nd x l r).get n=match Nat.beq n 0 with
  |true=>x
  |false=>match Nat.beq (jg n) 1 with
   |true=>l.get (gD n)
   |false=>r.get (Nat.pred (gD n)):=by
 rw[Tr.get]
 all_goals cases Nat.beq n 0
 all_goals first|rfl|(cases Nat.beq (jg n) 1<;>rfl)
def Tr.gB {D:Type} (p:Nat->D->Bool):Tr D->Nat->Nat->Bool
 | .lf,_,_=>true
 | .nd x l r,a,b=>(match x with
  |some y=>p b y
  |none=>true)&&(l.gB p (2*a) (a+b)&&r.gB p (2*a) (2*a+b))
theorem Tr.A9 {D:Type} {p:Nat->D->Bool}:∀{t:Tr D} {a b n:Nat} {x:D},t.gB p a b=true->t.get n=some x->p (a*n+b) x=true
 | .lf,_,_,_,_,_,h=>by simp[Tr.jE]at h
 | .nd y l r,a,b,n,x,hall,h=>by
  simp only[Tr.gB,bj]at hall;simp only[Tr.ny,kM,kN]at h;cases h0:Nat.beq n 0 with
  |true=>
   rw[h0]at h;have:=bg h0;subst this;simp only at h;subst h;simpa using hall.1
  |false=>
   rw[h0]at h;have hne:n≠0:=λe=>by subst e;simp[Nat.beq]at h0
   simp only at h;cases h1:Nat.beq (Nat.mod n 2) 1 with
   |true=>
    rw[h1]at h;have h1:=bg h1;change n%2=1 at h1;have:=Tr.A9 hall.2.1 h;have e:2*a*Nat.div n 2+(a+b)=a*n+b:=by
     change 2*a*(n/2)+(a+b)=a*n+b;have:n=2*(n/2)+1:=by omega
     generalize n/2=m at this;subst this;rw[Af,Nat.mul_one,<-Nat.mul_assoc,vw a 2];omega
    rwa[e]at this
   |false=>
    rw[h1]at h;have h1:¬n%2=1:=λe=>by
     have:Nat.beq (Nat.mod n 2) 1=true:=by change Nat.beq (n%2) 1=true;rw[e];rfl
     rw[h1]at this;cases this
    have:=Tr.A9 hall.2.2 h;have e:2*a*Nat.pred (Nat.div n 2)+(2*a+b)=a*n+b:=by
     change 2*a*(n/2-1)+(2*a+b)=a*n+b;have:n=2*(n/2-1)+2:=by omega
     generalize n/2-1=m at this;subst this;rw[Af,<-Nat.mul_assoc,vw a 2];omega
    rwa[e]at this
abbrev bD:=Tr TI
def aP (T:bD) (t:Nat):Option TI:=T.get t
def tT (P:Program) (T:bD):Prop:=∀t i,aP T t=some i->kD P t i=true
theorem Pt {P:Program} {T:bD} (h:T.gB (kD P) 1 0=true):tT P T:=λt i hi=>by
 have:=Tr.A9 h hi;simpa using this
structure Env extends Cx where
 T:bD
 tok:tT P T
section
variable {P:Program} {t:Nat} {i:TI}
theorem dW (h:kD P t i=true):∃u ti,P.underlying t=some u/\P.info? t=some ti/\fx P i.d u=true/\ti.size=i.size/\ti.bytes=i.bytes/\∃z,ti.zero=some z/\z.cells.toList=i.zero:=by
 unfold kD at h;split at h
 ·rename_i u ti hu hi;simp only[bj,beq_iff_eq]at h;obtain⟨⟨⟨h1,h2⟩,h3⟩,h4⟩:=h;split at h4
  ·rename_i z hz;simp only[bj]at h4;exact⟨u,ti,hu,hi,h1,h2,h3,z,hz,HH h4.1⟩
  ·cases h4
 ·cases h
theorem wE (h:kD P t i=true):i.zero.length=i.size:=by
 unfold kD at h;split at h
 ·simp only[bj,beq_iff_eq]at h;obtain⟨⟨⟨h1,h2⟩,h3⟩,h4⟩:=h;split at h4
  ·simp only[bj]at h4;exact bg h4.2
  ·cases h4
 ·cases h
theorem A6 (h:kD P t i=true) (w:World):(sizeOf t).run P w= .ok i.size w:=by
 obtain⟨u,ti,_,hi,_,hs,_⟩:=dW h;simp[sizeOf,typeInfo,hi,hs]
theorem lD (h:hasB P t=true) (w:World):(sizeOf t).run P w= .ok (fW P t) w:=by
 simp only[hasB,bj,X8]at h;obtain⟨_,ti,hi⟩:=h;simp[sizeOf,typeInfo,fW,hi]
theorem A5 (h:hasB P t=true) (w:World):(isAgg t).run P w= .ok (l3 P t) w:=by
 simp only[hasB,bj,X8]at h;obtain⟨⟨u,hu⟩,_⟩:=h;simp only[isAgg,Sem.run_bind,run_underlying hu,Result.andThen_ok,l3,hu];cases u<;>rfl
def TD.agg:TD->Bool
 | .struct _=>true
 | .array _ _ _ _=>true
 |_=>false
theorem QC (h:kD P t i=true) (w:World):(isAgg t).run P w= .ok i.d.agg w:=by
 obtain⟨u,ti,hu,_,hd,_⟩:=dW h;simp only[isAgg,Sem.run_bind,run_underlying hu,Result.andThen_ok];cases hid:i.d<;>cases u<;>simp_all [fx,TD.agg]
theorem Ah {fs:List (Nat×Nat×Nat×Bool)} (h:kD P t i=true) (hd:i.d= .struct fs):∃gs:Array Field,P.underlying t=some (.struct gs)/\
  ∀(j o ft k:Nat) (g:Bool),fs[j]? =some (o,ft,k,g)->∃f:Field,gs[j]? =some f/\f.offset=o/\f.type=ft/\fW P ft=k/\l3 P ft=g/\hasB P ft=true/\0<k:=by
 obtain⟨u,ti,hu,_,hd',_⟩:=dW h;rw[hd]at hd';cases u<;>simp only[fx,iN]at hd';rename_i gs;simp only[bj,og]at hd';obtain⟨hm,hall⟩:=hd';refine⟨gs,hu,λj o ft k g hj=>?_⟩;have hin:(o,ft,k,g)∈fs:=br hj;have hh:=ju.1 hall _ hin;simp only[bj]at hh;rw[<-hm,pU]at hj;cases hg:gs.toList[j]? with
 |none=>rw[hg]at hj;cases hj
 |some f=>
  rw[hg]at hj;simp only[Option.map_some,ax,bZ]at hj;obtain⟨e1,e2,e3,e4⟩:=hj;refine⟨f,by simpa using hg,e1,e2,by rw[<-e2];exact e3,by rw[<-e2];exact e4,hh.1,by have:=hh.2;rwa[kG]at this⟩
theorem Nj {fs:List (Nat×Nat×Nat×Bool)} (h:kD P t i=true) (hd:i.d= .struct fs):∃gs:Array Field,P.underlying t=some (.struct gs)/\
  (∀(j o ft k:Nat) (g:Bool),fs[j]? =some (o,ft,k,g)->∃f:Field,gs[j]? =some f/\f.offset=o/\f.type=ft/\fW P ft=k/\l3 P ft=g/\hasB P ft=true/\0<k)/\
  ∀j (hj:j<gs.toList.length),hasB P gs.toList[j].type=true:=by
 obtain⟨gs,hu,h4⟩:=Ah h hd;refine⟨gs,hu,h4,λj hj=>?_⟩;obtain⟨u,ti,hu',_,hd',_⟩:=dW h;rw[hu]at hu';cases hu';rw[hd]at hd';simp only[fx,bj,og]at hd';obtain⟨hm,_⟩:=hd';have hl:j<fs.length:=by rw[<-hm];simpa using hj
 obtain⟨f,h5,h6,h7,_,_,h8,_⟩:=h4 j fs[j].1 fs[j].2.1 fs[j].2.2.1 fs[j].2.2.2 (by simp[hl]);have:gs.toList[j]=f:=by
  have:=(kF.1 h5).2;simpa using this
 rw[this,h7];exact h8
end
def DI (op:BinOp) (x y:Value):Option Value:=
 match x,y with
 | .int k a,.int k' b=>match decide (k=k')with
  |false=>none
  |true=>match op with
   | .add=>some (.int k (k.wrap (a+b)))
   | .sub=>some (.int k (k.wrap (a-b)))
   | .mul=>some (.int k (k.wrap (a*b)))
   | .eql=>some (.bool (a==b))
   | .neq=>some (.bool (a !=b))
   | .lss=>some (.bool (decide (a<b)))
   | .leq=>some (.bool (decide (a<=b)))
   | .gtr=>some (.bool (decide (a>b)))
   | .geq=>some (.bool (decide (a>=b)))
   | .rem=>match decide (b=0)with
    |true=>none
    |false=>some (.int k (a.tmod b))
   | .quo=>match decide (b=0)with
    |true=>none
    |false=>some (.int k (k.wrap (a.tdiv b)))
   |_=>none
 | .string a,.string b=>match op with
  | .eql=>some (.bool (a.data.toList==b.data.toList))
  | .neq=>some (.bool (!(a.data.toList==b.data.toList)))
  | .lss=>some (.bool (Op.bytesLess a.data.toList b.data.toList))
  | .leq=>some (.bool (Op.bytesLess a.data.toList b.data.toList||a.data.toList==b.data.toList))
  | .gtr=>some (.bool (!(Op.bytesLess a.data.toList b.data.toList||a.data.toList==b.data.toList)))
  | .geq=>some (.bool (!Op.bytesLess a.data.toList b.data.toList))
  |_=>none
 |_,_=>none
theorem PG {P : Program} {op : BinOp} {t : TypeId} {x y : Operand} {u v r : Value} (h : DI op u v = some r) (w : World) :
    (do eqGuard op t x y u v; binOp op t u v : Sem Value).run P w = .ok r w := by
  unfold DI at h
  split at h
  · rename_i k a k' b
    split at h
    · cases h
    · rename_i hk
      have hk : k = k' := zV hk
      subst hk
      cases op <;> simp only at h <;> first
        | (cases h; done)
        | (simp only [ax] at h; subst h; simp [eqGuard_at_int, binOp, Op.intArith, Op.intCmp]; done)
        | (split at h
           · cases h
           · rename_i hb
             have hb : ¬ b = 0 := of_decide_eq_false hb
             simp only [ax] at h; subst h
             simp [eqGuard_at_int, binOp, Op.intDiv, hb])
  · cases op <;> simp only at h <;> first
      | (cases h; done)
      | (simp only [ax] at h; subst h; simp [eqGuard_at_string, binOp, Op.stringOp, ByteArray.toList_eq]; done)
  · cases h
def DJ (op:BinOp) (x y:Value):Option Value:=
 match x,y with
 | .int k a,.int k' b=>match op with
  | .shl=>match decide (b<0)with
   |true=>none
   |false=>some (.int k (k.wrap (a*2^min b.toNat k.bits)))
  | .shr=>match decide (b<0)with
   |true=>none
   |false=>some (.int k (a.fdiv (2^min b.toNat k.bits)))
  | .and=>match decide (k=k')with
   |false=>none
   |true=>some (.int k (k.wrap ((BitVec.ofInt k.bits a&&&BitVec.ofInt k.bits b).toNat:Int)))
  | .or=>match decide (k=k')with
   |false=>none
   |true=>some (.int k (k.wrap ((BitVec.ofInt k.bits a|||BitVec.ofInt k.bits b).toNat:Int)))
  | .xor=>match decide (k=k')with
   |false=>none
   |true=>some (.int k (k.wrap ((BitVec.ofInt k.bits a^^^BitVec.ofInt k.bits b).toNat:Int)))
  | .andNot=>match decide (k=k')with
   |false=>none
   |true=>some (.int k (k.wrap ((BitVec.ofInt k.bits a&&& ~~~BitVec.ofInt k.bits b).toNat:Int)))
  |_=>none
 |_,_=>none
theorem PH {P:Program} {op:BinOp} {t:TypeId} {x y:Operand} {u v r:Value} (h:DJ op u v=some r) (w:World):
  (do eqGuard op t x y u v;binOp op t u v:Sem Value).run P w= .ok r w:=by
 unfold DJ at h;split at h
 ·rename_i k a k' b;cases op<;>simp only at h<;>try (cases h;done)
  all_goals (split at h<;>try (cases h;done))
  all_goals simp only[ax]at h
  all_goals subst h
  all_goals rename_i hk
  all_goals (simp only[og,decide_eq_false_iff_not]at hk)
  all_goals first
   |(subst hk;simp[eqGuard_at_int,binOp,Op.intBits];done)
   |(simp[eqGuard,binOp,Op.shift,hk];done)
 ·cases h
def nth {D:Type}:List D->Nat->Option D
 |[],_=>none
 |x::_,0=>some x
 |_::r,n+1=>nth r n
theorem b7 {D:Type}:∀(l:List D) (n:Nat),nth l n=l[n]?
 |[],_=>by simp[nth]
 |x::_,0=>by simp[nth]
 |_::r,n+1=>by simp[nth,b7 r n]
def rk (g:Bool) (xs:List AV) (off k:Nat):Option AV:=match g with
 |true=>some (.agg ((xs.drop off).take k))
 |false=>nth xs off
def fits:List AV->Nat->Bool
 |_,0=>true
 |[],_+1=>false
 |_::r,n+1=>fits r n
theorem Ip:∀{l:List AV} {n:Nat},fits l n=true->n<=l.length
 |_,0,_=>mP _
 |[],_+1,h=>by simp[fits]at h
 |_::r,n+1,h=>by simp only[fits]at h;have:=Ip h;simp;omega
section
variable {w:World} {A:Nat->Prop}
theorem aG.nth:∀{xs:List AV} {vs:List Value} {n:Nat} {x:AV},aG w A xs vs->Bw.nth xs n=some x->∃v,vs[n]? =some v/\Rel w A x v
 |[],_,_,_,_,h=>by simp[Bw.nth]at h
 |y::_,vs,0,x,hr,h=>by
  simp only[aG]at hr;obtain⟨v,r,rfl,h1,_⟩:=hr;simp only[Bw.nth,ax]at h;subst h;exact⟨v,by simp,h1⟩
 |_::xs,vs,n+1,x,hr,h=>by
  simp only[aG]at hr;obtain⟨v,r,rfl,_,h2⟩:=hr;simp only[Bw.nth]at h;obtain⟨u,h3,h4⟩:=aG.nth h2 h;exact⟨u,by simpa using h3,h4⟩
theorem aG.drop:∀(n:Nat) {xs:List AV} {vs:List Value},aG w A xs vs->aG w A (xs.drop n) (vs.drop n)
 |0,_,_,h=>by simpa using h
 |n+1,[],_,h=>by simp only[aG]at h;subst h;simp[aG]
 |n+1,_::_,_,h=>by simp only[aG]at h;obtain⟨v,r,rfl,_,h⟩:=h;simpa using aG.drop n h
theorem aG.take:∀(n:Nat) {xs:List AV} {vs:List Value},aG w A xs vs->aG w A (xs.take n) (vs.take n)
 |0,_,_,_=>by simp[aG]
 |n+1,[],_,h=>by simp only[aG]at h;subst h;simp[aG]
 |n+1,_::_,_,h=>by simp only[aG]at h;obtain⟨v,r,rfl,h1,h⟩:=h;simp only[vA,aG];exact⟨v,_,rfl,h1,aG.take n h⟩
theorem aG.append:∀{xs ys:List AV} {vs us:List Value},aG w A xs vs->aG w A ys us->aG w A (xs++ys) (vs++us)
 |[],_,_,_,h,g=>by simp only[aG]at h;subst h;simpa using g
 |_::_,_,_,_,h,g=>by simp only[aG]at h;obtain⟨v,r,rfl,h1,h⟩:=h;simp only[iO,aG];exact⟨v,_,rfl,h1,aG.append h g⟩
theorem HG {P:Program} {t:TypeId} {g:Bool} (hg:hasB P t=true) (ha:l3 P t=g) {xs:List AV} {vs:List Value} (hr:aG w A xs vs) {off:Nat} {x:AV}
  (h:rk g xs off (fW P t)=some x) (w':World):∃v,(part t vs.toArray off).run P w'= .ok v w'/\Rel w A x v:=by
 subst ha;simp only[part,Sem.run_bind,A5 hg,Result.andThen_ok,Sem.run_ite,lD hg,Sem.run_pure];cases hb:l3 P t with
 |true=>
  rw[hb]at h;simp only[rk,ax]at h;subst h;refine⟨_,by simp only[if_true];rfl,?_⟩;simp only[Rel];refine⟨(vs.drop off).take (fW P t),?_,(hr.drop off).take _⟩;congr 1;apply iQ;simp[XZ]
 |false=>
  rw[hb]at h;simp only[rk]at h;obtain⟨v,h1,h2⟩:=hr.nth h;refine⟨v,?_,h2⟩;simp[h1]
