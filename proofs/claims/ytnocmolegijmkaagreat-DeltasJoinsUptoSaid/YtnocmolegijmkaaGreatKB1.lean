/- The base of a program logic over the kit's wp calculus, second making: abstract values, what they say of a world, and that they stay true while other blocks change. -/
import Derived.WalkKit
set_option linter.all false
section
def au:=@Option.bind_some
def aB:=@cond_true
def aC:=@cond_false
def aE:=@Option.some.injEq
def aM:=@if_neg
def aV:=@List.mem_of_getElem?
def bg:=@if_pos
def bQ:=@Nat.eq_of_beq_eq_true
def bS:=@Bool.and_eq_true
def bX:=@Nat.le_refl
def b7:=@List.mem_append
def cq:=@List.mem_cons
def cr:=@List.getElem?_eq_some_iff
def cR:=@Prod.mk.injEq
def dp:=@List.map_cons
def dH:=@decide_eq_false
def dP:=@List.mem_map
def dT:=@decide_eq_true
def eH:=@Nat.le_of_ble_eq_true
def eV:=@List.take_length
def fL:=@Bool.not_true
def fM:=@List.take_add_one
def fT:=@List.getElem?_take
def gf:=@List.all_eq_true
def gg:=@Nat.mul_le_mul_right
def gB:=@List.mem_flatMap
def gP:=@List.length_cons
def gQ:=@Array.getElem?_eq_some_iff
def iK:=@List.length_take
def iL:=@List.getElem?_map
def iM:=@Nat.le_trans
def iN:=@List.mem_filter
def iZ:=@List.mem_singleton
def ja:=@List.length_map
def jb:=@List.eq_nil_of_length_eq_zero
def jc:=@Nat.add_mul
def jl:=@of_decide_eq_true
def jm:=@Ne.symm
def jO:=@List.append_nil
def jP:=@List.getElem?_cons_zero
def jQ:=@decide_eq_true_eq
def jR:=@List.getElem?_of_mem
def kn:=@List.cons.injEq
def ko:=@List.cons_append
def kp:=@List.length_append
def kI:=@Bool.false_eq_true
def kJ:=@Nat.zero_add
def kK:=@List.getElem?_eq_none
def kL:=@Bool.not_eq_true'
def kM:=@Array.ext'
def lx:=@List.all_cons
def ly:=@List.nodup_append
def lX:=@List.append_assoc
def lY:=@List.map_nil
def lZ:=@List.length_set
def l4:=@List.length_nil
def mD:=@Nat.blt_eq
def mE:=@List.mem_append_left
def mF:=@List.getElem?_append_left
def mG:=@Nat.zero_le
def mH:=@Int.toNat_natCast
def nC:=@List.ext_getElem?
def nD:=@List.getElem?_cons_succ
def nE:=@Nat.lt_or_ge
def nF:=@Bool.eq_iff_iff
def oG:=@Nat.lt_of_lt_of_le
def pA:=@List.nil_append
def pB:=@List.length_replicate
def pC:=@Option.some.inj
def pD:=@Nat.lt_succ_iff_lt_or_eq
def qY:=@List.map_append
def qZ:=@Nat.ble_eq_true_of_le
def q7:=@List.set_cons_succ
def q8:=@Bool.and_true
def q9:=@List.filter_cons
def tq:=@Array.getElem?_eq_none
def tr:=@List.flatMap_cons
def tu:=@List.contains_iff_mem
def tv:=@Nat.lt_irrefl
def tz:=@Bool.or_eq_true
def tA:=@Option.bind_fun_some
def xK:=@List.getElem?_append_right
def xL:=@Array.length_toList
def xM:=@Nat.mul_one
def xN:=@List.take_succ_cons
def xO:=@List.pairwise_cons
def xP:=@Nat.add_comm
def xQ:=@List.getElem?_drop
def xR:=@Int.le_refl
def Dw:=@List.mem_range
def Dx:=@List.take_append_drop
def Dy:=@Array.getElem?_modify
def Dz:=@Array.getElem?_toList
def DA:=@Nat.le_max_left
def DB:=@Nat.le_max_right
def DD:=@List.set_cons_zero
def DF:=@Nat.beq_refl
def DG:=@Nat.mul_comm
def DH:=@Bool.not_false
def DI:=@List.getElem?_set_ne
def DJ:=@List.mem_cons_of_mem
def DK:=@List.length_filter_le
def DL:=@List.zip_cons_cons
def DM:=@List.length_eq_zero_iff
def DN:=@List.map_replicate
def Hw:=@Nat.add_assoc
def Hx:=@List.map_take
def Hy:=@List.perm_append_comm
def Hz:=@Option.map_some
def HA:=@List.size_toArray
def HB:=@Nat.le_of_eq
def HC:=@Array.getElem?_append
def HD:=@List.pairwise_iff_getElem
def HE:=@Nat.le_mul_of_pos_right
def HF:=@List.Sublist.refl
def HG:=@Nat.one_mul
def HH:=@List.mem_filterMap
def HI:=@Array.getD_eq_getD_getElem?
def HJ:=@Nat.le_succ
def HK:=@List.any_eq_true
def HL:=@List.drop_length
def HM:=@List.filter_append
def Oz:=@List.map_set
def OA:=@List.mem_cons_self
def OB:=@Option.map_none
def OC:=@List.map_toArray
def OD:=@List.getElem?_eq_getElem
def OE:=@Nat.le_add_right
def OF:=@Nat.add_zero
def OG:=@List.length_pos_iff
def OH:=@List.getElem?_set_self
def OI:=@List.foldl_cons
def OJ:=@List.nodup_cons
def OK:=@List.take_left
def OL:=@List.getElem?_take_of_lt
def OM:=@Int.le_antisymm
def ON:=@Int.le_trans
def OO:=@Bool.not_eq_false'
def OQ:=@List.drop_eq_nil_of_le
def aaa:=@Prod.mk.inj
def aab:=@List.map_drop
def aac:=@List.length_drop
def aad:=@Array.ext_getElem?
def aae:=@List.map_map
def aaf:=@List.contains_cons
def aag:=@Go.MapKept.run_getObj_map
def aah:=@Go.MapKept.run_findKey
def aai:=@Array.getElem?_setIfInBounds
def aaj:=@List.flatMap_nil
def aak:=@Option.map_eq_some_iff
def aal:=@Nat.div_add_mod
def aam:=@Option.getD_some
def aan:=@Nat.sub_zero
def aao:=@List.mem_erase_of_ne
def aap:=@Array.setIfInBounds_comm
def aaq:=@Nat.zero_mul
def aar:=@List.not_mem_nil
def aas:=@List.filter_eq_nil_iff
def aat:=@List.filter_eq_self
def aau:=@List.any_eq_false
def aav:=@List.length_filterMap_le
def aaw:=@List.getElem?_concat_length
def aax:=@List.idxOf_lt_length_of_mem
def aay:=@List.mem_of_mem_take
def anJ:=@List.mem_append_right
def anK:=@List.replicate_succ
def anL:=@List.singleton_append
def anM:=@List.take_of_length_le
def anN:=@List.sublist_append_right
def anO:=@List.Sublist.append
def anP:=@List.getElem?_append
def anQ:=@List.getElem?_singleton
def anR:=@List.extract_eq_take_drop
def anS:=@List.length_erase_of_mem
def anT:=@Array.toList_zipIdx
def anU:=@Array.mapM_eq_mapM_toList
def anV:=@List.getElem_of_mem
def anW:=@Option.isSome_iff_exists
def anX:=@List.eq_nil_iff_forall_not_mem
def anY:=@List.filterMap_cons
def anZ:=@Classical.byContradiction
noncomputable section
namespace Go.Bw
open Go
inductive AV where
 |v (x:Value)
 |sl (k:Nat) (rows:List (List AV))
 |agg (xs:List AV)
 |bY (xs:List AV)
 |ip (cells:List AV)
 |own (tag b off:Nat)
 |os (tag:Nat) (a:Option Addr) (n c:Nat)
 |oe (tag:Nat) (v:Value) (n:Nat)
 |om (tag r:Nat)
 |fn (f:FuncId) (fs caps:List AV)
 |bP (t:TypeId) (x:AV)
mutual
def Rel (w:World) (A:Nat->Prop):AV->Value->Prop
 | .v x,y=>y=x
 | .sl k rows,y=>(rows=[]/\∃a cap,y= .slice a 0 cap)\/∃b o cap vs,y= .slice (some ⟨b,o,none⟩) rows.length cap/\(b<w.heap.size/\A b)/\rows.length<=cap/\cap<=maxLen/\
   bq w A k rows vs/\∀j u,vs[j]? =some u->w.cell? ⟨b,o+j,none⟩=some u
 | .agg xs,y=>∃vs:List Value,y= .agg vs.toArray/\aL w A xs vs
 | .bY xs,y=>∃vs:List Value,y= .tuple vs.toArray/\aL w A xs vs
 | .ip cs,y=>∃b o vs,y= .pointer (some ⟨b,o,none⟩)/\(b<w.heap.size/\A b)/\aL w A cs vs/\∀j u,vs[j]? =some u->w.cell? ⟨b,o+j,none⟩=some u
 | .own _ b off,y=>y= .pointer (some ⟨b,off,none⟩)
 | .os _ a n c,y=>y= .slice a n c
 | .oe _ v n,y=>∃b len cap,v= .slice (some ⟨b,0,none⟩) len cap/\y= .pointer (some ⟨b,n,none⟩)
 | .om _ r,y=>y= .map (some r)
 | .fn f fs cs,y=>∃us vs:List Value,y= .func (.func f) us.toArray vs.toArray/\aL w A fs us/\aL w A cs vs
 | .bP t x,y=>∃u,y= .iface t u/\Rel w A x u
def aL (w:World) (A:Nat->Prop):List AV->List Value->Prop
 |[],vs=>vs=[]
 |x::xs,vs=>∃v r,vs=v::r/\Rel w A x v/\aL w A xs r
def bq (w:World) (A:Nat->Prop) (k:Nat):List (List AV)->List Value->Prop
 |[],vs=>vs=[]
 |r::rs,vs=>∃v1 v2,vs=v1++v2/\r.length=k/\aL w A r v1/\bq w A k rs v2
end
def dF (w:World) (A:Nat->Prop) (w':World) (A':Nat->Prop):Prop:=
 w.heap.size<=w'.heap.size/\∀b,b<w.heap.size->A b->A' b/\w'.heap[b]? =w.heap[b]?
theorem PG {w:World} {b o:Nat} {u:Value} (h:w.cell? ⟨b,o,none⟩=some u):b<w.heap.size:=World.block_lt_of_cell? w ⟨b,o,none⟩ h
section
variable {w w':World} {A A':Nat->Prop}
theorem aL.length:∀{xs:List AV} {vs:List Value},aL w A xs vs->vs.length=xs.length
 |[],_,h=>by simp only[aL]at h;simp[h]
 |_::_,_,h=>by simp only[aL]at h;obtain⟨v,r,rfl,_,h⟩:=h;simp[aL.length h]
theorem bq.length {k:Nat}:∀{xs:List (List AV)} {vs:List Value},bq w A k xs vs->vs.length=xs.length*k
 |[],_,h=>by simp only[bq]at h;simp[h]
 |_::_,_,h=>by
  simp only[bq]at h;obtain⟨v,r,rfl,hk,h1,h⟩:=h;simp[bq.length h,aL.length h1,hk,jc,xP]
mutual
theorem Rel.keep (h:dF w A w' A'):∀{x:AV} {v:Value},Rel w A x v->Rel w' A' x v
 | .v _,_,h1=>by simp only[Rel]at h1⊢;exact h1
 | .sl k rows,v,h1=>by
  simp only[Rel]at h1⊢;rcases h1 with h1|⟨b,o,cap,vs,h1,h2,h3,h4,h5,h6⟩
  ·exact .inl h1
  ·obtain⟨ha,he⟩:=h.2 b h2.1 h2.2;exact .inr ⟨b,o,cap,vs,h1,⟨oG h2.1 h.1,ha⟩,h3,h4,bq.keep h h5,λj u hu=>(World.cell?_of_block he).trans (h6 j u hu)⟩
 | .agg xs,_,h1=>by simp only[Rel]at h1⊢;obtain⟨vs,e,h2⟩:=h1;exact⟨vs,e,aL.keep h h2⟩
 | .bY xs,_,h1=>by simp only[Rel]at h1⊢;obtain⟨vs,e,h2⟩:=h1;exact⟨vs,e,aL.keep h h2⟩
 | .ip cs,_,h1=>by
  simp only[Rel]at h1⊢;obtain⟨b,o,vs,h1,h2,h5,h6⟩:=h1;obtain⟨ha,he⟩:=h.2 b h2.1 h2.2;exact⟨b,o,vs,h1,⟨oG h2.1 h.1,ha⟩,aL.keep h h5,λj u hu=>(World.cell?_of_block he).trans (h6 j u hu)⟩
 | .own _ _ _,_,h1=>by simp only[Rel]at h1⊢;exact h1
 | .os _ _ _ _,_,h1=>by simp only[Rel]at h1⊢;exact h1
 | .oe _ _ _,_,h1=>by simp only[Rel]at h1⊢;exact h1
 | .om _ _,_,h1=>by simp only[Rel]at h1⊢;exact h1
 | .fn f fs cs,_,h1=>by simp only[Rel]at h1⊢;obtain⟨us,vs,e,h2,h3⟩:=h1;exact⟨us,vs,e,aL.keep h h2,aL.keep h h3⟩
 | .bP t x,_,h1=>by simp only[Rel]at h1⊢;obtain⟨vs,e,h2⟩:=h1;exact⟨vs,e,Rel.keep h h2⟩
theorem aL.keep (h:dF w A w' A'):∀{x:List AV} {v:List Value},aL w A x v->aL w' A' x v
 |[],_,h1=>by simp only[aL]at h1⊢;exact h1
 |_::_,_,h1=>by simp only[aL]at h1⊢;obtain⟨v,r,e,h2,h3⟩:=h1;exact⟨v,r,e,Rel.keep h h2,aL.keep h h3⟩
theorem bq.keep (h:dF w A w' A'):∀{k:Nat} {x:List (List AV)} {v:List Value},bq w A k x v->bq w' A' k x v
 |_,[],_,h1=>by simp only[bq]at h1⊢;exact h1
 |_,_::_,_,h1=>by simp only[bq]at h1⊢;obtain⟨v,r,e,hk,h2,h3⟩:=h1;exact⟨v,r,e,hk,aL.keep h h2,bq.keep h h3⟩
end
end
inductive aq where
 |box (b:Nat) (cells:List AV)
 |row (v:Value) (e:TypeId) (k:Nat) (rows:List (List AV))
 |map (r:Nat) (es:List (Value×AV))
 |fact (x:AV) (v:Value)
 |gone
def aq.ids:aq->List Nat
 | .box b _=>[b]
 | .row v _ _ _=>v.ownBlock.toList
 | .map r _=>[r]
 | .fact _ _=>[]
 | .gone=>[]
def gu (w:World) (A:Nat->Prop):List (Value×AV)->List MapEntry->Prop
 |[],l=>l=[]
 |x::xs,l=>∃e r,l=e::r/\e.key=x.1/\Rel w A x.2 e.val/\gu w A xs r
def ids (L:List aq):List Nat:=L.flatMap aq.ids
def aq.ok (w:World) (A:Nat->Prop):aq->Prop
 | .box b cells=>∃e vs,w.heap[b]? =some (.cells (List.toArray vs) e (0,0))/\aL w A cells vs
 | .row v e k rows=>∃vs,bq w A k rows vs/\w.ownsRow 0 e k v rows.length vs
 | .map r es=>∃a clock,w.heap[r]? =some (.map (List.toArray a) clock)/\gu w A es a/\(a.map (·.born)).Nodup/\∀x∈a,x.born<clock
 | .fact x v=>Rel w A x v
 | .gone=>True
def Al (F:Nat->Prop) (L:List aq) (b:Nat):Prop:=¬F b/\b∉ids L
abbrev Gl:=List (Nat×List Value)
def xu (G:Gl) (w:World) (A:Nat->Prop):Prop:=∀p∈G,A p.1/\∃e fz,w.heap[p.1]? =some (.cells p.2.toArray e fz)
structure bM (G:Gl) (w:World) (F:Nat->Prop) (L:List aq):Prop where
 eG:∀x∈L,x.ok w (Al F L)
 nodup:(ids L).Nodup
 free:∀b∈ids L,¬F b
 bound:∀b,F b->b<w.heap.size
 gK:xu G w (Al F L)
def nr (w w':World):Prop:=w.drawn<=w'.drawn
theorem nr.of {w w':World} (h:w.drawn<=w'.drawn):nr w w':=h
theorem nr.trans {w w' w'':World} (h:nr w w') (g:nr w' w''):nr w w'':=iM h g
theorem nr.le {w w':World} (h:nr w w'):w.drawn<=w'.drawn:=h
structure Ext (L:List aq) (w:World) (L':List aq) (w':World):Prop where
 os:w'.os=w.os
 tape:w'.tape=w.tape
 output:w'.output=w.output
 size:w.heap.size<=w'.heap.size
 block:∀b,b<w.heap.size->b∉ids L->w'.heap[b]? =w.heap[b]?
 new:∀b∈ids L',b∈ids L\/w.heap.size<=b
 drawn:nr w w'
theorem Ext.refl (L:List aq) (w:World):Ext L w L w:=⟨rfl,rfl,rfl,bX _,λ_ _ _=>rfl,λ_ h=> .inl h,.of (bX _)⟩
theorem Ext.trans {L L' L'':List aq} {w w' w'':World} (h:Ext L w L' w') (g:Ext L' w' L'' w''):Ext L w L'' w'' where
 os:=g.os.trans h.os
 tape:=g.tape.trans h.tape
 output:=g.output.trans h.output
 size:=iM h.size g.size
 block:=λb hb hn=>(g.block b (oG hb h.size) (λhm=>(h.new b hm).elim hn (λhle=>absurd hb (Nat.not_lt.2 hle)))).trans (h.block b hb hn)
 new:=λb hb=>(g.new b hb).elim (λhm=>h.new b hm) (λhle=> .inr (iM h.size hle))
 drawn:=h.drawn.trans g.drawn
theorem Ext.keeps {L L':List aq} {w w':World} {F:Nat->Prop} (h:Ext L w L' w'):dF w (Al F L) w' (Al F L'):=
 ⟨h.size,λb hb ha=>⟨⟨ha.1,λhm=>(h.new b hm).elim ha.2 (λhle=>absurd hb (Nat.not_lt.2 hle))⟩,h.block b hb ha.2⟩⟩
theorem xu.keep {G:Gl} {w w':World} {A A':Nat->Prop} (h:xu G w A) (hk:dF w A w' A'):xu G w' A':=λp hp=>by
 obtain⟨ha,e,fz,hh⟩:=h p hp;have hlt:p.1<w.heap.size:=(gQ.1 hh).1;obtain⟨h1,h2⟩:=hk.2 p.1 hlt ha;exact⟨h1,e,fz,h2.trans hh⟩
theorem gu.keep {w w':World} {A A':Nat->Prop} (h:dF w A w' A'):∀{es:List (Value×AV)} {l:List MapEntry},gu w A es l->gu w' A' es l
 |[],_,h1=>by simp only[gu]at h1⊢;exact h1
 |_::_,_,h1=>by simp only[gu]at h1⊢;obtain⟨v,r,e,h2,h3,h4⟩:=h1;exact⟨v,r,e,h2,Rel.keep h h3,gu.keep h h4⟩
theorem aq.ok.lt {w:World} {A:Nat->Prop} {x:aq} (h:x.ok w A):∀b∈x.ids,b<w.heap.size:=by
 intro b hb;cases x with
 |map c es=>simp[aq.ids]at hb;subst hb;obtain⟨e,vs,h1,_⟩:=h;exact(gQ.1 h1).1
 |fact x v=>simp[aq.ids]at hb
 |gone=>simp[aq.ids]at hb
 |box c cells=>simp[aq.ids]at hb;subst hb;obtain⟨e,vs,h1,_⟩:=h;exact(gQ.1 h1).1
 |row v e k rows=>obtain⟨vs,h1,h2⟩:=h;exact(h2.lt b (by simpa[aq.ids]using hb)).2
theorem bM.lt {G:Gl} {w:World} {F:Nat->Prop} {L:List aq} (h:bM G w F L):∀b∈ids L,b<w.heap.size:=by
 intro b hb;obtain⟨x,hx,hb⟩:=gB.1 hb;exact(h.eG x hx).lt b hb
theorem aq.ok.keep {w w':World} {A A':Nat->Prop} {x:aq} (h:x.ok w A) (hk:dF w A w' A') (hb:∀b∈x.ids,w'.heap[b]? =w.heap[b]?):x.ok w' A':=by
 cases x with
 |map c es=>obtain⟨e,vs,h1,h2,h3⟩:=h;exact⟨e,vs,(hb c (by simp[aq.ids])).trans h1,gu.keep hk h2,h3⟩
 |fact x v=>exact Rel.keep hk h
 |gone=>trivial
 |box c cells=>obtain⟨e,vs,h1,h2⟩:=h;exact⟨e,vs,(hb c (by simp[aq.ids])).trans h1,aL.keep hk h2⟩
 |row v e k rows=>
  obtain⟨vs,h1,h2,h3⟩:=h;refine⟨vs,bq.keep hk h1,h2,?_⟩;rcases h3 with h3|⟨g,cap,cur,hv,hg,hh,r⟩
  ·exact .inl h3
  ·exact .inr ⟨g,cap,cur,hv,hg,(hb g (by simp[aq.ids,hv,Value.ownBlock])).trans hh,r⟩
theorem cB (l r:List aq):ids (l++r)=ids l++ids r:=by simp[ids]
theorem cJ (x:aq) (r:List aq):ids (x::r)=x.ids++ids r:=by simp[ids]
theorem bM.lU {G:Gl} {w w':World} {F:Nat->Prop} {l r:List aq} {x x':aq} (h:bM G w F (l++x::r)) (hsz:w.heap.size<=w'.heap.size)
  (hw:∀b,b<w.heap.size->b∉x.ids->w'.heap[b]? =w.heap[b]?) (hi:∀b∈x'.ids,b∈x.ids\/w.heap.size<=b) (hn:x'.ids.Nodup) (hx:x'.ok w' (Al F (l++x'::r))):bM G w' F (l++x'::r):=by
 have hlt:=h.lt;have hnd:=h.nodup;have hfr:=h.free;simp only[cB,cJ,b7]at hlt hfr;simp only[cB,cJ,ly,b7]at hnd;have hk:dF w (Al F (l++x::r)) w' (Al F (l++x'::r)):=by
  refine⟨hsz,λb hb ha=>?_⟩;simp only[Al,cB,cJ,b7,not_or]at ha⊢;refine⟨⟨ha.1,ha.2.1,λhm=>?_,ha.2.2.2⟩,hw b hb ha.2.2.1⟩;rcases hi b hm with h1|h1
  ·exact ha.2.2.1 h1
  ·omega
 have hoth:∀y,y∈l\/y∈r->y.ok w' (Al F (l++x'::r)):=by
  intro y hy;have hok:=h.eG y (by rcases hy with hy|hy<;>simp[hy]);refine hok.keep hk λb hb=>hw b (hok.lt b hb) λhbx=>?_;rcases hy with hy|hy
  ·exact hnd.2.2 b (by exact gB.2 ⟨y,hy,hb⟩) b (.inl hbx) rfl
  ·exact hnd.2.1.2.2 b hbx b (gB.2 ⟨y,hy,hb⟩) rfl
 refine⟨λy hy=>?_,?_,λb hb=>?_,λb hb=>oG (h.bound b hb) hsz,h.gK.keep hk⟩
 ·simp only[b7,cq]at hy;rcases hy with hy|rfl|hy
  ·exact hoth y (.inl hy)
  ·exact hx
  ·exact hoth y (.inr hy)
 ·simp only[cB,cJ,ly,b7];refine⟨hnd.1,⟨hn,hnd.2.1.2.1,λa ha b hb hab=>?_⟩,λa ha b hb hab=>?_⟩
  ·subst hab;rcases hi a ha with h1|h1
   ·exact hnd.2.1.2.2 a h1 a hb rfl
   ·have:=hlt a (.inr (.inr hb));omega
  ·subst hab;rcases hb with hb|hb
   ·rcases hi a hb with h1|h1
    ·exact hnd.2.2 a ha a (.inl h1) rfl
    ·have:=hlt a (.inl ha);omega
   ·exact hnd.2.2 a ha a (.inr hb) rfl
 ·simp only[cB,cJ,b7]at hb;rcases hb with hb|hb|hb
  ·exact hfr b (.inl hb)
  ·rcases hi b hb with h1|h1
   ·exact hfr b (.inr (.inl h1))
   ·intro hF;have:=h.bound b hF;omega
  ·exact hfr b (.inr (.inr hb))
theorem bM.push {G:Gl} {w w':World} {F:Nat->Prop} {L:List aq} {x:aq} (h:bM G w F L) (hsz:w.heap.size<=w'.heap.size)
  (hw:∀b,b<w.heap.size->w'.heap[b]? =w.heap[b]?) (hi:∀b∈x.ids,w.heap.size<=b) (hn:x.ids.Nodup) (hx:x.ok w' (Al F (L++[x]))):bM G w' F (L++[x]):=by
 have hk:dF w (Al F L) w' (Al F (L++[x])):=by
  refine⟨hsz,λb hb ha=>?_⟩;simp only[Al,cB,cJ,b7,not_or]at ha⊢;exact⟨⟨ha.1,ha.2,λhm=>by have:=hi b hm;omega,by simp[ids]⟩,hw b hb⟩
 refine⟨λy hy=>?_,?_,λb hb=>?_,λb hb=>oG (h.bound b hb) hsz,h.gK.keep hk⟩
 ·simp only[b7,cq,aar,or_false]at hy;rcases hy with hy|rfl
  ·exact(h.eG y hy).keep hk λb hb=>hw b ((h.eG y hy).lt b hb)
  ·exact hx
 ·simp only[cB,cJ,ly,b7];refine⟨h.nodup,⟨hn,by simp[ids],λa _ b hb=>by simp[ids]at hb⟩,λa ha b hb hab=>?_⟩;subst hab;rcases hb with hb|hb
  ·have h1:=h.lt a ha;have h2:=hi a hb;omega
  ·simp[ids]at hb
 ·simp only[cB,cJ,b7]at hb;rcases hb with hb|hb|hb
  ·exact h.free b hb
  ·intro hF;have h1:=h.bound b hF;have h2:=hi b hb;omega
  ·simp[ids]at hb
abbrev Sg:=List (Nat×AV)
def look:Sg->Nat->Option AV
 |[],_=>none
 |(k,x)::r,t=>match Nat.beq k t with
  |true=>some x
  |false=>look r t
abbrev Sl:=Nat->Option AV
abbrev gM (w:World) (A:Nat->Prop) (N:Nat) (a:Act) (s:Sl):Prop:=
 a.tmps.size=N/\∀t x,s t=some x->t<N/\Rel w A x (a.tmps.getD t undef)
abbrev sR (w:World) (A:Nat->Prop) (N:Nat) (a:Act) (O:Sg):Prop:=gM w A N a (look O)
theorem sR.keep {w w':World} {A A':Nat->Prop} {N:Nat} {a:Act} {O:Sg} (h:sR w A N a O) (hk:dF w A w' A'):sR w' A' N a O:=
 ⟨h.1,λt x hx=>⟨(h.2 t x hx).1,Rel.keep hk (h.2 t x hx).2⟩⟩
theorem OW (tmps:Array Value) (d:Nat) (v:Value) (h:d<tmps.size):(tmps.setIfInBounds d v).getD d undef=v:=by
 simp[Array.getD,h]
theorem OV (tmps:Array Value) (d t:Nat) (v:Value) (h:d≠t):(tmps.setIfInBounds d v).getD t undef=tmps.getD t undef:=by
 simp only[HI,aai,h,if_false]
def mn (dst:Option Nat) (x:AV) (O:Sg):Sg:=
 match dst with
 |some d=>(d,x)::O
 |none=>O
theorem sR.put {w:World} {A:Nat->Prop} {N:Nat} {a:Act} {O:Sg} (h:sR w A N a O) (dst:Option Nat) (hd:∀d,dst=some d->d<N) {x:AV} {v:Value} (hx:Rel w A x v):
  sR w A N (a.put dst v) (mn dst x O):=by
 cases dst with
 |none=>exact h
 |some d=>
  refine⟨by simp[Act.put,h.1],λt y hy=>?_⟩;simp only[mn,look]at hy;by_cases hdt:d=t
  ·subst hdt;have:Nat.beq d d=true:=DF d;rw[this]at hy;simp only[aE]at hy;subst hy;refine⟨hd d rfl,?_⟩;simp only[Act.put];rw[OW _ _ _ (by rw[h.1];exact hd d rfl)];exact hx
  ·have:Nat.beq d t=false:=by cases hb:Nat.beq d t with
    |false=>rfl
    |true=>exact absurd (bQ hb) hdt
   rw[this]at hy;simp only at hy;obtain⟨h1,h2⟩:=h.2 t y hy;refine⟨h1,?_⟩;simp only[Act.put];rw[OV _ _ _ _ hdt];exact h2
structure St (G:Gl) (N:Nat) (w:World) (F:Nat->Prop) (a:Act) (O:Sg) (L:List aq):Prop where
 sg:sR w (Al F L) N a O
 hp:bM G w F L
 df:a.defers=[]
inductive AE where
 |norm
 |exit (id:Nat)
 |ret
 |aT (x:AV)
def AE.rel (w:World) (A:Nat->Prop):AE->Exit->Prop
 | .norm,e=>e= .normal
 | .exit i,e=>e= .exit i
 | .ret,e=>e= .ret
 | .aT x,e=>∃v,e= .panic [{v,recovered:=false}]/\Rel w A x v
abbrev AQ:=AE->Sg->List aq->Prop
def AE.sl (e:AE) (O:Sg):Sg:=match e with
 | .aT _=>[]
 |_=>O
def CQ (G:Gl) (N:Nat) (F:Nat->Prop) (w0:World) (L0:List aq) (Q:AQ) (e:Exit) (a:Act) (w:World):Prop:=
 ∃e0 O L,Q e0 (e0.sl O) L/\AE.rel w (Al F L) e0 e/\St G N w F a (e0.sl O) L/\Ext L0 w0 L w
structure Cx where
 P:Program
 G:Gl
def cm (C:Cx) (N:Nat) (c:Code) (Q:AQ) (O:Sg) (L:List aq):Prop:=
 ∀F w0 L0 a w,St C.G N w F a O L->Ext L0 w0 L w->c.wp C.P (CQ C.G N F w0 L0 Q) a w
abbrev AE.then (next:Sg->List aq->Prop) (Q:AQ):AQ:=λe O L=>match e with
 | .norm=>next O L
 | .exit i=>Q (.exit i) O L
 | .ret=>Q .ret O L
 | .aT x=>Q (.aT x) O L
abbrev AE.inBlock (id:Nat) (Q:AQ):AQ:=λe O L=>match e with
 | .norm=>Q .norm O L
 | .exit i=>match Nat.beq i id with
  |true=>Q .norm O L
  |false=>Q (.exit i) O L
 | .ret=>Q .ret O L
 | .aT x=>Q (.aT x) O L
section
variable {C:Cx} {N:Nat} {Q:AQ} {O:Sg} {L:List aq}
theorem CQ.intro {G:Gl} {F:Nat->Prop} {w0:World} {L0:List aq} {e:Exit} {a:Act} {w:World} (e0:AE) (hr:AE.rel w (Al F L) e0 e) (hQ:Q e0 (e0.sl O) L) (hs:St G N w F a (e0.sl O) L) (hx:Ext L0 w0 L w):CQ G N F w0 L0 Q e a w:=
 ⟨e0,O,L,hQ,hr,hs,hx⟩
theorem cm.skip (h:Q .norm O L):cm C N .skip Q O L:=λ_ _ _ _ _ hs hx=>wp_skip (CQ.intro .norm rfl h hs hx)
theorem cm.exit {id:Nat} (h:Q (.exit id) O L):cm C N (.exit id) Q O L:=λ_ _ _ _ _ hs hx=>wp_exit (CQ.intro (.exit id) rfl h hs hx)
theorem cm.ret (h:Q .ret O L):cm C N .ret Q O L:=λ_ _ _ _ _ hs hx=>wp_ret (CQ.intro .ret rfl h hs hx)
theorem cm.label {l:Nat} (h:Q .norm O L):cm C N (.label l) Q O L:=λ_ _ _ _ _ hs hx=>wp_label (CQ.intro .norm rfl h hs hx)
theorem cm.mono {c:Code} {Q':AQ} (h:cm C N c Q O L) (hq:∀e O L,Q e O L->Q' e O L):cm C N c Q' O L:=λF w0 L0 a w hs hx=>
 wp_mono (h F w0 L0 a w hs hx) λ_ _ _ ⟨e0,O',L',h1,h2⟩=>⟨e0,O',L',hq _ _ _ h1,h2⟩
theorem cm.seq {x y:Code} (h:cm C N x (AE.then (cm C N y Q) Q) O L):cm C N (.seq x y) Q O L:=λF w0 L0 a w hs hx=>by
 refine wp_seq (wp_mono (h F w0 L0 a w hs hx) ?_);rintro e a' w' ⟨e0,O',L',h1,h2,h3,h4⟩;cases e0 with
 |norm=>simp only[AE.rel]at h2;subst h2;exact h1 F w0 L0 a' w' h3 h4
 |exit i=>simp only[AE.rel]at h2;subst h2;exact⟨.exit i,O',L',h1,rfl,h3,h4⟩
 |ret=>simp only[AE.rel]at h2;subst h2;exact⟨.ret,O',L',h1,rfl,h3,h4⟩
 |aT x=>obtain⟨v,rfl,h2⟩:=h2;exact⟨.aT x,O',L',h1,⟨v,rfl,h2⟩,h3,h4⟩
theorem cm.block {id:Nat} {c:Code} (h:cm C N c (AE.inBlock id Q) O L):cm C N (.block id c) Q O L:=λF w0 L0 a w hs hx=>by
 refine wp_block (wp_mono (h F w0 L0 a w hs hx) ?_);rintro e a' w' ⟨e0,O',L',h1,h2,h3,h4⟩;cases e0 with
 |norm=>simp only[AE.rel]at h2;subst h2;exact⟨.norm,O',L',h1,rfl,h3,h4⟩
 |exit i=>
  simp only[AE.rel]at h2;subst h2;simp only[Exit.inBlock];by_cases hi:i=id
  ·subst hi;simp only[AE.inBlock,DF]at h1;rw[bg rfl];exact⟨.norm,O',L',h1,rfl,h3,h4⟩
  ·rw[aM hi];have:Nat.beq i id=false:=by cases hb:Nat.beq i id with
    |false=>rfl
    |true=>exact absurd (bQ hb) hi
   simp only[AE.inBlock,this]at h1;exact⟨.exit i,O',L',h1,rfl,h3,h4⟩
 |ret=>simp only[AE.rel]at h2;subst h2;exact⟨.ret,O',L',h1,rfl,h3,h4⟩
 |aT x=>obtain⟨v,rfl,h2⟩:=h2;exact⟨.aT x,O',L',h1,⟨v,rfl,h2⟩,h3,h4⟩
def ev (s:Sl):Operand->Option AV
 | .tmp t=>s t
 | .const v=>some (.v v)
 | .global g=>some (.v (.pointer (some ⟨g,0,none⟩)))
 | .func f=>some (.v (.func (.func f) #[] #[]))
theorem bH {w:World} {A:Nat->Prop} {a:Act} {s:Sl} (hs:gM w A N a s) {o:Operand} {x:AV} (h:ev s o=some x):Rel w A x (a.eval o):=by
 cases o with
 |tmp t=>exact(hs.2 t x h).2
 |const v=>simp only[ev,aE]at h;subst h;simp[Rel,Act.eval]
 |global g=>simp only[ev,aE]at h;subst h;simp[Rel,Act.eval]
 |func f=>simp only[ev,aE]at h;subst h;simp[Rel,Act.eval]
theorem cm.cond {c:Operand} {x y:Code} {t:Bool} (hc:ev (look O) c=some (.v (.bool t))) (h1:t=true->cm C N x Q O L) (h2:t=false->cm C N y Q O L):cm C N (.cond c x y) Q O L:=
 λF w0 L0 a w hs hx=>by
  have he:=bH hs.sg hc;simp only[Rel]at he;exact wp_cond_split he (λht=>h1 ht F w0 L0 a w hs hx) (λht=>h2 ht F w0 L0 a w hs hx)
def fm (G:Gl) (N:Nat) (O:Sg) (L:List aq) (O':Sg) (L':List aq):Prop:=
 ∀F w a,St G N w F a O L->St G N w F a O' L'/\∀b∈ids L',b∈ids L
theorem cm.lQ {c:Code} {O':Sg} {L':List aq} (hw:fm C.G N O L O' L') (h:cm C N c Q O' L'):cm C N c Q O L:=λF w0 L0 a w hs hx=>by
 obtain⟨h1,h2⟩:=hw F w a hs;exact h F w0 L0 a w h1 (hx.trans ⟨rfl,rfl,rfl,bX _,λ_ _ _=>rfl,λb hb=> .inl (h2 b hb),.of (bX _)⟩)
def pick:List Nat->Sg->Option Sg
 |[],_=>some []
 |t::ts,O=>match look O t,pick ts O with
  |some x,some r=>some ((t,x)::r)
  |_,_=>none
end
end Go.Bw
end

section
noncomputable section
namespace Go.Bw
open Go
inductive TD where
 |struct (fs:List (Nat×Nat×Nat×Bool))
 |slice (e k:Nat)
 |array (n e k:Nat) (g:Bool)
 |int (k:IntKind)
 |str
 |bool
 |iface
 |other
structure TI where
 d:TD
 size:Nat
 bytes:Nat
 zero:List Value
def F':Value->Value->Bool
 | .bool a,.bool b=>a==b
 | .int k a,.int k' b=>decide (k=k')&&a==b
 | .string s,.string t=>s.data.toList==t.data.toList
 | .pointer none,.pointer none=>true
 | .slice none 0 0,.slice none 0 0=>true
 | .map none,.map none=>true
 | .nilFunc,.nilFunc=>true
 | .func (.func f) a b,.func (.func g) c d=>Nat.beq f g&&(a.toList.isEmpty&&b.toList.isEmpty&&(c.toList.isEmpty&&d.toList.isEmpty))
 | .nilIface,.nilIface=>true
 |_,_=>false
theorem Sz {a b:Value} (h:F' a b=true):a=b:=by
 unfold F' at h;split at h<;>first|rfl|(simp_all;done)|cases h|skip
 ·rename_i s t;cases s;cases t;rename_i s t;cases s;cases t
  simp_all
def wj:List Value->List Value->Bool
 |[],[]=>true
 |a::as,b::bs=>F' a b&&wj as bs
 |_,_=>false
theorem Rp:∀{a b:List Value},wj a b=true->a=b
 |[],[],_=>rfl
 |a::as,b::bs,h=>by
  simp only[wj,bS]at h;rw[Sz h.1,Rp h.2]
 |[],_::_,h=>by simp[wj]at h
 |_::_,[],h=>by simp[wj]at h
def jg (P:Program) (t:Nat):Nat:=match P.info? t with
 |some i=>i.size
 |none=>0
def oz (P:Program) (t:Nat):Bool:=match P.underlying t with
 |some (.struct _)=>true
 |some (.array _ _)=>true
 |_=>false
def hasB (P:Program) (t:Nat):Bool:=(P.underlying t).isSome&&(P.info? t).isSome
def iu (P:Program) (d:TD) (u:TypeDesc):Bool:=match d,u with
 | .struct fs,.struct gs=>decide (gs.toList.map (λ(f:Field)=>(f.offset,f.type,jg P f.type,oz P f.type))=fs)&&fs.all λf=>hasB P f.2.1&&Nat.blt 0 f.2.2.1
 | .slice e k,.slice e'=>e==e'&&k==jg P e&&hasB P e
 | .array n e k g,.array n' e'=>n==n'&&e==e'&&k==jg P e&&g==oz P e&&hasB P e&&Nat.blt 1 n
 | .int k,.int k'=>decide (k=k')
 | .str,.string=>true
 | .bool,.bool=>true
 | .iface,.interface _=>true
 | .other,.interface _=>false
 | .other,.struct _=>false
 | .other,.array _ _=>false
 | .other,_=>true
 |_,_=>false
def mz (P:Program) (t:Nat) (i:TI):Bool:=match P.underlying t,P.info? t with
 |some u,some ti=>iu P i.d u&&ti.size==i.size&&ti.bytes==i.bytes&&(match ti.zero with|some z=>wj z.cells.toList i.zero&&Nat.beq i.zero.length i.size|none=>false)
 |_,_=>false
inductive Tr (D:Type) where
 |lf
 |nd (x:Option D) (l r:Tr D)
def lg (n:Nat):Nat:=match n with
 |0=>0
 |m+1=>Nat.mod (m+1) 2
def jE (n:Nat):Nat:=match n with
 |0=>0
 |m+1=>Nat.div (m+1) 2
theorem mL (n:Nat):lg n=Nat.mod n 2:=by cases n<;>rfl
theorem mM (n:Nat):jE n=Nat.div n 2:=by cases n<;>rfl
def Tr.get {D:Type}:Tr D->Nat->Option D
 | .lf,_=>none
 | .nd x l r,n=> @Bool.rec (λ_=>Option D) (@Bool.rec (λ_=>Option D) (r.get (Nat.pred (jE n))) (l.get (jE n)) (Nat.beq (lg n) 1)) x (Nat.beq n 0)
theorem Tr.lI {D:Type} (n:Nat):(Tr.lf:Tr D).get n=none:=rfl
theorem Tr.qe {D:Type} (x:Option D) (l r:Tr D) (n:Nat):(Tr.nd x l r).get n=match Nat.beq n 0 with
  |true=>x
  |false=>match Nat.beq (lg n) 1 with
   |true=>l.get (jE n)
   |false=>r.get (Nat.pred (jE n)):=by
 rw[Tr.get]
 all_goals cases Nat.beq n 0
 all_goals first|rfl|(cases Nat.beq (lg n) 1<;>rfl)
def Tr.jD {D:Type} (p:Nat->D->Bool):Tr D->Nat->Nat->Bool
 | .lf,_,_=>true
 | .nd x l r,a,b=>(match x with
  |some y=>p b y
  |none=>true)&&(l.jD p (2*a) (a+b)&&r.jD p (2*a) (2*a+b))
theorem Tr.I0 {D:Type} {p:Nat->D->Bool}:∀{t:Tr D} {a b n:Nat} {x:D},t.jD p a b=true->t.get n=some x->p (a*n+b) x=true
 | .lf,_,_,_,_,_,h=>by simp[Tr.lI]at h
 | .nd y l r,a,b,n,x,hall,h=>by
  simp only[Tr.jD,bS]at hall;simp only[Tr.qe,mL,mM]at h;cases h0:Nat.beq n 0 with
  |true=>
   rw[h0]at h;have:=bQ h0;subst this;simp only at h;subst h;simpa using hall.1
  |false=>
   rw[h0]at h;have hne:n≠0:=λe=>by subst e;simp[Nat.beq]at h0
   simp only at h;cases h1:Nat.beq (Nat.mod n 2) 1 with
   |true=>
    rw[h1]at h;have h1:=bQ h1;change n%2=1 at h1;have:=Tr.I0 hall.2.1 h;have e:2*a*Nat.div n 2+(a+b)=a*n+b:=by
     change 2*a*(n/2)+(a+b)=a*n+b;have:n=2*(n/2)+1:=by omega
     generalize n/2=m at this;subst this;rw[Nat.mul_add,xM,<-Nat.mul_assoc,DG a 2];omega
    rwa[e]at this
   |false=>
    rw[h1]at h;have h1:¬n%2=1:=λe=>by
     have:Nat.beq (Nat.mod n 2) 1=true:=by change Nat.beq (n%2) 1=true;rw[e];rfl
     rw[h1]at this;cases this
    have:=Tr.I0 hall.2.2 h;have e:2*a*Nat.pred (Nat.div n 2)+(2*a+b)=a*n+b:=by
     change 2*a*(n/2-1)+(2*a+b)=a*n+b;have:n=2*(n/2-1)+2:=by omega
     generalize n/2-1=m at this;subst this;rw[Nat.mul_add,<-Nat.mul_assoc,DG a 2];omega
    rwa[e]at this
abbrev cn:=Tr TI
def bc (T:cn) (t:Nat):Option TI:=T.get t
def Az (P:Program) (T:cn):Prop:=∀t i,bc T t=some i->mz P t i=true
theorem adb {P:Program} {T:cn} (h:T.jD (mz P) 1 0=true):Az P T:=λt i hi=>by
 have:=Tr.I0 h hi;simpa using this
structure Env extends Cx where
 T:cn
 tok:Az P T
section
variable {P:Program} {t:Nat} {i:TI}
theorem fx (h:mz P t i=true):∃u ti,P.underlying t=some u/\P.info? t=some ti/\iu P i.d u=true/\ti.size=i.size/\ti.bytes=i.bytes/\∃z,ti.zero=some z/\z.cells.toList=i.zero:=by
 unfold mz at h;split at h
 ·rename_i u ti hu hi;simp only[bS,beq_iff_eq]at h;obtain⟨⟨⟨h1,h2⟩,h3⟩,h4⟩:=h;split at h4
  ·rename_i z hz;simp only[bS]at h4;exact⟨u,ti,hu,hi,h1,h2,h3,z,hz,Rp h4.1⟩
  ·cases h4
 ·cases h
theorem EA (h:mz P t i=true):i.zero.length=i.size:=by
 unfold mz at h;split at h
 ·simp only[bS,beq_iff_eq]at h;obtain⟨⟨⟨h1,h2⟩,h3⟩,h4⟩:=h;split at h4
  ·simp only[bS]at h4;exact bQ h4.2
  ·cases h4
 ·cases h
theorem IY (h:mz P t i=true) (w:World):(sizeOf t).run P w= .ok i.size w:=by
 obtain⟨u,ti,_,hi,_,hs,_⟩:=fx h;simp[sizeOf,typeInfo,hi,hs]
theorem l7 (h:hasB P t=true) (w:World):(sizeOf t).run P w= .ok (jg P t) w:=by
 simp only[hasB,bS,anW]at h;obtain⟨_,ti,hi⟩:=h;simp[sizeOf,typeInfo,jg,hi]
theorem IX (h:hasB P t=true) (w:World):(isAgg t).run P w= .ok (oz P t) w:=by
 simp only[hasB,bS,anW]at h;obtain⟨⟨u,hu⟩,_⟩:=h;simp only[isAgg,Sem.run_bind,run_underlying hu,Result.andThen_ok,oz,hu];cases u<;>rfl
def TD.agg:TD->Bool
 | .struct _=>true
 | .array _ _ _ _=>true
 |_=>false
theorem ae3 (h:mz P t i=true) (w:World):(isAgg t).run P w= .ok i.d.agg w:=by
 obtain⟨u,ti,hu,_,hd,_⟩:=fx h;simp only[isAgg,Sem.run_bind,run_underlying hu,Result.andThen_ok];cases hid:i.d<;>cases u<;>simp_all [iu,TD.agg]
theorem HN {fs:List (Nat×Nat×Nat×Bool)} (h:mz P t i=true) (hd:i.d= .struct fs):∃gs:Array Field,P.underlying t=some (.struct gs)/\
  ∀(j o ft k:Nat) (g:Bool),fs[j]? =some (o,ft,k,g)->∃f:Field,gs[j]? =some f/\f.offset=o/\f.type=ft/\jg P ft=k/\oz P ft=g/\hasB P ft=true/\0<k:=by
 obtain⟨u,ti,hu,_,hd',_⟩:=fx h;rw[hd]at hd';cases u<;>simp only[iu,kI]at hd';rename_i gs;simp only[bS,jQ]at hd';obtain⟨hm,hall⟩:=hd';refine⟨gs,hu,λj o ft k g hj=>?_⟩;have hin:(o,ft,k,g)∈fs:=aV hj;have hh:=gf.1 hall _ hin;simp only[bS]at hh;rw[<-hm,iL]at hj;cases hg:gs.toList[j]? with
 |none=>rw[hg]at hj;cases hj
 |some f=>
  rw[hg]at hj;simp only[Hz,aE,cR]at hj;obtain⟨e1,e2,e3,e4⟩:=hj;refine⟨f,by simpa using hg,e1,e2,by rw[<-e2];exact e3,by rw[<-e2];exact e4,hh.1,by have:=hh.2;rwa[mD]at this⟩
theorem aaz {fs:List (Nat×Nat×Nat×Bool)} (h:mz P t i=true) (hd:i.d= .struct fs):∃gs:Array Field,P.underlying t=some (.struct gs)/\
  (∀(j o ft k:Nat) (g:Bool),fs[j]? =some (o,ft,k,g)->∃f:Field,gs[j]? =some f/\f.offset=o/\f.type=ft/\jg P ft=k/\oz P ft=g/\hasB P ft=true/\0<k)/\
  ∀j (hj:j<gs.toList.length),hasB P gs.toList[j].type=true:=by
 obtain⟨gs,hu,h4⟩:=HN h hd;refine⟨gs,hu,h4,λj hj=>?_⟩;obtain⟨u,ti,hu',_,hd',_⟩:=fx h;rw[hu]at hu';cases hu';rw[hd]at hd';simp only[iu,bS,jQ]at hd';obtain⟨hm,_⟩:=hd';have hl:j<fs.length:=by rw[<-hm];simpa using hj
 obtain⟨f,h5,h6,h7,_,_,h8,_⟩:=h4 j fs[j].1 fs[j].2.1 fs[j].2.2.1 fs[j].2.2.2 (by simp[hl]);have:gs.toList[j]=f:=by
  have:=(gQ.1 h5).2;simpa using this
 rw[this,h7];exact h8
end
def KS (op:BinOp) (x y:Value):Option Value:=
 match x,y with
 | .int k a,.int k' b=>match decide (k=k')with
  |false=>none
  |true=>match op with
   | .add=>some (.int k (k.wrap (a+b)))
   | .sub=>some (.int k (k.wrap (a-b)))
   | .mul=>some (.int k (k.wrap (a*b)))
   | .eql=>some (.bool (a==b))
   | .neq=>some (.bool (a !=b))
   | .lss=>some (.bool (decide (a<b)))
   | .leq=>some (.bool (decide (a<=b)))
   | .gtr=>some (.bool (decide (a>b)))
   | .geq=>some (.bool (decide (a>=b)))
   | .rem=>match decide (b=0)with
    |true=>none
    |false=>some (.int k (a.tmod b))
   | .quo=>match decide (b=0)with
    |true=>none
    |false=>some (.int k (k.wrap (a.tdiv b)))
   |_=>none
 | .string a,.string b=>match op with
  | .eql=>some (.bool (a.data.toList==b.data.toList))
  | .neq=>some (.bool (!(a.data.toList==b.data.toList)))
  | .lss=>some (.bool (Op.bytesLess a.data.toList b.data.toList))
  | .leq=>some (.bool (Op.bytesLess a.data.toList b.data.toList||a.data.toList==b.data.toList))
  | .gtr=>some (.bool (!(Op.bytesLess a.data.toList b.data.toList||a.data.toList==b.data.toList)))
  | .geq=>some (.bool (!Op.bytesLess a.data.toList b.data.toList))
  |_=>none
 |_,_=>none
theorem adr {P : Program} {op : BinOp} {t : TypeId} {x y : Operand} {u v r : Value} (h : KS op u v = some r) (w : World) :
    (do eqGuard op t x y u v; binOp op t u v : Sem Value).run P w = .ok r w := by
  unfold KS at h
  split at h
  · rename_i k a k' b
    split at h
    · cases h
    · rename_i hk
      have hk : k = k' := jl hk
      subst hk
      cases op <;> simp only at h <;> first
        | (cases h; done)
        | (simp only [aE] at h; subst h; simp [eqGuard_at_int, binOp, Op.intArith, Op.intCmp]; done)
        | (split at h
           · cases h
           · rename_i hb
             have hb : ¬ b = 0 := of_decide_eq_false hb
             simp only [aE] at h; subst h
             simp [eqGuard_at_int, binOp, Op.intDiv, hb])
  · cases op <;> simp only at h <;> first
      | (cases h; done)
      | (simp only [aE] at h; subst h; simp [eqGuard_at_string, binOp, Op.stringOp, ByteArray.toList_eq]; done)
  · cases h
def KT (op:BinOp) (x y:Value):Option Value:=
 match x,y with
 | .int k a,.int k' b=>match op with
  | .shl=>match decide (b<0)with
   |true=>none
   |false=>some (.int k (k.wrap (a*2^min b.toNat k.bits)))
  | .shr=>match decide (b<0)with
   |true=>none
   |false=>some (.int k (a.fdiv (2^min b.toNat k.bits)))
  | .and=>match decide (k=k')with
   |false=>none
   |true=>some (.int k (k.wrap ((BitVec.ofInt k.bits a&&&BitVec.ofInt k.bits b).toNat:Int)))
  | .or=>match decide (k=k')with
   |false=>none
   |true=>some (.int k (k.wrap ((BitVec.ofInt k.bits a|||BitVec.ofInt k.bits b).toNat:Int)))
  | .xor=>match decide (k=k')with
   |false=>none
   |true=>some (.int k (k.wrap ((BitVec.ofInt k.bits a^^^BitVec.ofInt k.bits b).toNat:Int)))
  | .andNot=>match decide (k=k')with
   |false=>none
   |true=>some (.int k (k.wrap ((BitVec.ofInt k.bits a&&& ~~~BitVec.ofInt k.bits b).toNat:Int)))
  |_=>none
 |_,_=>none
theorem ads {P:Program} {op:BinOp} {t:TypeId} {x y:Operand} {u v r:Value} (h:KT op u v=some r) (w:World):
  (do eqGuard op t x y u v;binOp op t u v:Sem Value).run P w= .ok r w:=by
 unfold KT at h;split at h
 ·rename_i k a k' b;cases op<;>simp only at h<;>try (cases h;done)
  all_goals (split at h<;>try (cases h;done))
  all_goals simp only[aE]at h
  all_goals subst h
  all_goals rename_i hk
  all_goals (simp only[jQ,decide_eq_false_iff_not]at hk)
  all_goals first
   |(subst hk;simp[eqGuard_at_int,binOp,Op.intBits];done)
   |(simp[eqGuard,binOp,Op.shift,hk];done)
 ·cases h
def nth {D:Type}:List D->Nat->Option D
 |[],_=>none
 |x::_,0=>some x
 |_::r,n+1=>nth r n
theorem cM {D:Type}:∀(l:List D) (n:Nat),nth l n=l[n]?
 |[],_=>by simp[nth]
 |x::_,0=>by simp[nth]
 |_::r,n+1=>by simp[nth,cM r n]
def wi (g:Bool) (xs:List AV) (off k:Nat):Option AV:=match g with
 |true=>some (.agg ((xs.drop off).take k))
 |false=>nth xs off
def fits:List AV->Nat->Bool
 |_,0=>true
 |[],_+1=>false
 |_::r,n+1=>fits r n
theorem SF:∀{l:List AV} {n:Nat},fits l n=true->n<=l.length
 |_,0,_=>mG _
 |[],_+1,h=>by simp[fits]at h
 |_::r,n+1,h=>by simp only[fits]at h;have:=SF h;simp;omega
section
variable {w:World} {A:Nat->Prop}
theorem aL.nth:∀{xs:List AV} {vs:List Value} {n:Nat} {x:AV},aL w A xs vs->Bw.nth xs n=some x->∃v,vs[n]? =some v/\Rel w A x v
 |[],_,_,_,_,h=>by simp[Bw.nth]at h
 |y::_,vs,0,x,hr,h=>by
  simp only[aL]at hr;obtain⟨v,r,rfl,h1,_⟩:=hr;simp only[Bw.nth,aE]at h;subst h;exact⟨v,by simp,h1⟩
 |_::xs,vs,n+1,x,hr,h=>by
  simp only[aL]at hr;obtain⟨v,r,rfl,_,h2⟩:=hr;simp only[Bw.nth]at h;obtain⟨u,h3,h4⟩:=aL.nth h2 h;exact⟨u,by simpa using h3,h4⟩
theorem aL.drop:∀(n:Nat) {xs:List AV} {vs:List Value},aL w A xs vs->aL w A (xs.drop n) (vs.drop n)
 |0,_,_,h=>by simpa using h
 |n+1,[],_,h=>by simp only[aL]at h;subst h;simp[aL]
 |n+1,_::_,_,h=>by simp only[aL]at h;obtain⟨v,r,rfl,_,h⟩:=h;simpa using aL.drop n h
theorem aL.take:∀(n:Nat) {xs:List AV} {vs:List Value},aL w A xs vs->aL w A (xs.take n) (vs.take n)
 |0,_,_,_=>by simp[aL]
 |n+1,[],_,h=>by simp only[aL]at h;subst h;simp[aL]
 |n+1,_::_,_,h=>by simp only[aL]at h;obtain⟨v,r,rfl,h1,h⟩:=h;simp only[xN,aL];exact⟨v,_,rfl,h1,aL.take n h⟩
theorem aL.append:∀{xs ys:List AV} {vs us:List Value},aL w A xs vs->aL w A ys us->aL w A (xs++ys) (vs++us)
 |[],_,_,_,h,g=>by simp only[aL]at h;subst h;simpa using g
 |_::_,_,_,_,h,g=>by simp only[aL]at h;obtain⟨v,r,rfl,h1,h⟩:=h;simp only[ko,aL];exact⟨v,_,rfl,h1,aL.append h g⟩
theorem aL.set:∀{xs:List AV} {vs:List Value} (n:Nat) {x:AV} {v:Value},aL w A xs vs->Rel w A x v->aL w A (xs.set n x) (vs.set n v)
 |[],_,n,_,_,h,_=>by simp only[aL]at h;subst h;simp[aL]
 |_::_,_,0,_,_,h,g=>by simp only[aL]at h;obtain⟨v,r,rfl,_,h⟩:=h;simp only[DD,aL];exact⟨_,_,rfl,g,h⟩
 |_::_,_,n+1,_,_,h,g=>by simp only[aL]at h;obtain⟨v,r,rfl,h1,h⟩:=h;simp only[q7,aL];exact⟨_,_,rfl,h1,aL.set n h g⟩
theorem Ro {P:Program} {t:TypeId} {g:Bool} (hg:hasB P t=true) (ha:oz P t=g) {xs:List AV} {vs:List Value} (hr:aL w A xs vs) {off:Nat} {x:AV}
  (h:wi g xs off (jg P t)=some x) (w':World):∃v,(part t vs.toArray off).run P w'= .ok v w'/\Rel w A x v:=by
 subst ha;simp only[part,Sem.run_bind,IX hg,Result.andThen_ok,Sem.run_ite,l7 hg,Sem.run_pure];cases hb:oz P t with
 |true=>
  rw[hb]at h;simp only[wi,aE]at h;subst h;refine⟨_,by simp only[if_true];rfl,?_⟩;simp only[Rel];refine⟨(vs.drop off).take (jg P t),?_,(hr.drop off).take _⟩;congr 1;apply kM;simp[anR]
 |false=>
  rw[hb]at h;simp only[wi]at h;obtain⟨v,h1,h2⟩:=hr.nth h;refine⟨v,?_,h2⟩;simp[h1]
