/- The base of a program logic over the kit's wp calculus, second making: abstract values, what they say of a world, and that they stay true while other blocks change. -/
import Derived.WalkKit
set_option linter.all false
section
def aq:=@Option.bind_some
def aE:=@Option.some.injEq
def aO:=@cond_true
def a6:=@cond_false
def bh:=@List.mem_of_getElem?
def bC:=@Nat.eq_of_beq_eq_true
def bG:=@Bool.and_eq_true
def bK:=@if_neg
def bU:=@Nat.le_refl
def cj:=@if_pos
def ck:=@Prod.mk.injEq
def cu:=@List.mem_cons
def cy:=@List.getElem?_eq_some_iff
def cL:=@List.mem_append
def dB:=@List.mem_map
def dJ:=@Nat.le_of_ble_eq_true
def dY:=@List.map_cons
def eH:=@List.mem_flatMap
def fu:=@List.length_cons
def fv:=@Int.toNat_natCast
def fR:=@List.getElem?_of_mem
def gw:=@List.length_take
def gx:=@List.not_mem_nil
def iP:=@Bool.eq_iff_iff
def jd:=@List.append_nil
def je:=@List.all_eq_true
def jg:=@List.take_length
def jh:=@List.mem_filter
def jH:=@Bool.false_eq_true
def jI:=@List.length_map
def jJ:=@List.cons_append
def jK:=@Ne.symm
def jL:=@Array.ext'
def kx:=@List.all_cons
def ky:=@List.getElem?_set_ne
def kz:=@Nat.add_mul
def kA:=@List.length_append
def kB:=@List.append_assoc
def ll:=@List.cons.injEq
def ln:=@List.any_eq_true
def lS:=@Array.getElem?_eq_some_iff
def lT:=@Nat.blt_eq
def lU:=@Bool.not_eq_true'
def lV:=@List.getElem?_take
def lW:=@Nat.lt_succ_iff_lt_or_eq
def mN:=@Nat.lt_or_ge
def mO:=@List.getElem?_cons_zero
def mP:=@List.eq_nil_of_length_eq_zero
def mQ:=@List.getElem?_set_self
def nV:=@List.nodup_append
def nW:=@Nat.le_trans
def nX:=@List.getElem?_cons_succ
def oX:=@List.mem_singleton
def oY:=@Bool.and_true
def oZ:=@Nat.zero_add
def o8:=@Nat.zero_le
def o9:=@List.length_nil
def pc:=@List.getElem?_eq_none
def pd:=@decide_eq_true_eq
def qu:=@List.getElem?_map
def qv:=@List.mem_append_left
def qw:=@List.length_set
def qx:=@Bool.not_true
def sC:=@List.getElem?_append_left
def sD:=@Nat.lt_of_lt_of_le
def sE:=@Bool.not_eq_false'
def vH:=@Option.some.inj
def vI:=@List.set_cons_succ
def vJ:=@Bool.not_false
def vK:=@List.getElem?_drop
def vL:=@Array.getElem?_eq_none
def vM:=@List.map_nil
def vO:=@List.any_eq_false
def Ad:=@Nat.le_max_left
def Ae:=@Nat.le_max_right
def Af:=@List.flatMap_cons
def Ag:=@List.map_append
def Ah:=@Nat.beq_refl
def Ai:=@Nat.mul_comm
def Aj:=@Array.length_toList
def Ak:=@List.length_pos_iff
def Am:=@List.nil_append
def An:=@List.take_succ_cons
def Ao:=@Nat.add_comm
def Ap:=@List.mem_cons_of_mem
def Aq:=@List.zip_cons_cons
def Ar:=@Option.bind_assoc
def DD:=@of_decide_eq_true
def DF:=@List.perm_append_comm
def DG:=@Nat.ble_eq_true_of_le
def DH:=@List.getElem?_append_right
def DI:=@Nat.le_mul_of_pos_right
def DJ:=@Nat.one_mul
def DK:=@Nat.add_assoc
def DL:=@Bool.or_eq_true
def DM:=@Array.getD_eq_getD_getElem?
def DN:=@List.ext_getElem?
def DP:=@Nat.le_succ
def DS:=@Nat.mul_add
def DT:=@List.getElem?_replicate
def DU:=@List.getElem?_take_of_lt
def JT:=@List.set_cons_zero
def JU:=@List.take_append_drop
def JV:=@Nat.add_zero
def JW:=@List.contains_iff_mem
def JX:=@List.Sublist.refl
def JY:=@List.foldl_cons
def JZ:=@Nat.lt_irrefl
def J0:=@Nat.lt_trichotomy
def J1:=@List.mem_range
def J2:=@List.length_replicate
def J3:=@Nat.mul_le_mul_right
def J4:=@Bool.not_eq_true
def J5:=@List.length_eq_zero_iff
def J6:=@List.map_set
def J7:=@List.take_add_one
def SU:=@List.mem_cons_self
def SV:=@List.flatMap_nil
def SX:=@List.map_drop
def SY:=@List.map_take
def SZ:=@Option.map_eq_some_iff
def S0:=@Nat.div_add_mod
def S1:=@List.filter_cons
def S2:=@Option.getD_some
def S3:=@Nat.sub_zero
def S4:=@List.take_of_length_le
def S5:=@Option.map_none
def S6:=@List.mem_filterMap
def S7:=@Array.setIfInBounds_comm
def S8:=@List.nodup_cons
def S9:=@List.take_left
def S':=@Nat.zero_mul
def Ta:=@List.size_toArray
def Tb:=@List.length_drop
def Tc:=@List.filter_eq_nil_iff
def Td:=@Prod.mk.inj
def Te:=@Int.tmod_eq_emod_of_nonneg
def Tf:=@Bool.and_false
def acb:=@Array.getElem?_modify
def acd:=@List.getElem?_eq_getElem
def ace:=@List.sublist_append_right
def acf:=@List.Sublist.append
def acg:=@List.getElem?_append
def ach:=@List.getElem?_singleton
def aci:=@List.extract_eq_take_drop
def acj:=@List.mem_append_right
def ack:=@List.mem_erase_of_ne
def acm:=@Array.toList_zipIdx
def acn:=@Array.mapM_eq_mapM_toList
def aco:=@Option.isSome_iff_exists
def acp:=@List.eq_nil_iff_forall_not_mem
def acq:=@List.flatMap_append
def acr:=@List.length_filterMap_le
def acs:=@Option.bind_fun_some
noncomputable section
namespace Go.Bw
open Go
inductive AV where
 |v (x:Value)
 |sl (k:Nat) (rows:List (List AV))
 |agg (xs:List AV)
 |bZ (xs:List AV)
 |ip (cells:List AV)
 |own (tag b off:Nat)
 |os (tag:Nat) (a:Option Addr) (n c:Nat)
 |oe (tag:Nat) (v:Value) (n:Nat)
 |om (tag r:Nat)
 |fn (f:FuncId) (fs caps:List AV)
 |bA (t:TypeId) (x:AV)
mutual
def Rel (w:World) (A:Nat->Prop):AV->Value->Prop
 | .v x,y=>y=x
 | .sl k rows,y=>(rows=[]/\∃a cap,y= .slice a 0 cap)\/∃b o cap vs,y= .slice (some ⟨b,o,none⟩) rows.length cap/\(b<w.heap.size/\A b)/\rows.length<=cap/\cap<=maxLen/\
   bz w A k rows vs/\∀j u,vs[j]? =some u->w.cell? ⟨b,o+j,none⟩=some u
 | .agg xs,y=>∃vs:List Value,y= .agg vs.toArray/\aJ w A xs vs
 | .bZ xs,y=>∃vs:List Value,y= .tuple vs.toArray/\aJ w A xs vs
 | .ip cs,y=>∃b o vs,y= .pointer (some ⟨b,o,none⟩)/\(b<w.heap.size/\A b)/\aJ w A cs vs/\∀j u,vs[j]? =some u->w.cell? ⟨b,o+j,none⟩=some u
 | .own _ b off,y=>y= .pointer (some ⟨b,off,none⟩)
 | .os _ a n c,y=>y= .slice a n c
 | .oe _ v n,y=>∃b len cap,v= .slice (some ⟨b,0,none⟩) len cap/\y= .pointer (some ⟨b,n,none⟩)
 | .om _ r,y=>y= .map (some r)
 | .fn f fs cs,y=>∃us vs:List Value,y= .func (.func f) us.toArray vs.toArray/\aJ w A fs us/\aJ w A cs vs
 | .bA t x,y=>∃u,y= .iface t u/\Rel w A x u
def aJ (w:World) (A:Nat->Prop):List AV->List Value->Prop
 |[],vs=>vs=[]
 |x::xs,vs=>∃v r,vs=v::r/\Rel w A x v/\aJ w A xs r
def bz (w:World) (A:Nat->Prop) (k:Nat):List (List AV)->List Value->Prop
 |[],vs=>vs=[]
 |r::rs,vs=>∃v1 v2,vs=v1++v2/\r.length=k/\aJ w A r v1/\bz w A k rs v2
end
def dm (w:World) (A:Nat->Prop) (w':World) (A':Nat->Prop):Prop:=
 w.heap.size<=w'.heap.size/\∀b,b<w.heap.size->A b->A' b/\w'.heap[b]? =w.heap[b]?
theorem KR {w:World} {b o:Nat} {u:Value} (h:w.cell? ⟨b,o,none⟩=some u):b<w.heap.size:=World.block_lt_of_cell? w ⟨b,o,none⟩ h
section
variable {w w':World} {A A':Nat->Prop}
theorem aJ.length:∀{xs:List AV} {vs:List Value},aJ w A xs vs->vs.length=xs.length
 |[],_,h=>by simp only[aJ]at h;simp[h]
 |_::_,_,h=>by simp only[aJ]at h;obtain⟨v,r,rfl,_,h⟩:=h;simp[aJ.length h]
theorem bz.length {k:Nat}:∀{xs:List (List AV)} {vs:List Value},bz w A k xs vs->vs.length=xs.length*k
 |[],_,h=>by simp only[bz]at h;simp[h]
 |_::_,_,h=>by
  simp only[bz]at h;obtain⟨v,r,rfl,hk,h1,h⟩:=h;simp[bz.length h,aJ.length h1,hk,kz,Ao]
mutual
theorem Rel.bo (h:dm w A w' A'):∀{x:AV} {v:Value},Rel w A x v->Rel w' A' x v
 | .v _,_,h1=>by simp only[Rel]at h1⊢;exact h1
 | .sl k rows,v,h1=>by
  simp only[Rel]at h1⊢;rcases h1 with h1|⟨b,o,cap,vs,h1,h2,h3,h4,h5,h6⟩
  ·exact .inl h1
  ·obtain⟨ha,he⟩:=h.2 b h2.1 h2.2;exact .inr ⟨b,o,cap,vs,h1,⟨sD h2.1 h.1,ha⟩,h3,h4,bz.bo h h5,λj u hu=>(World.cell?_of_block he).trans (h6 j u hu)⟩
 | .agg xs,_,h1=>by simp only[Rel]at h1⊢;obtain⟨vs,e,h2⟩:=h1;exact⟨vs,e,aJ.bo h h2⟩
 | .bZ xs,_,h1=>by simp only[Rel]at h1⊢;obtain⟨vs,e,h2⟩:=h1;exact⟨vs,e,aJ.bo h h2⟩
 | .ip cs,_,h1=>by
  simp only[Rel]at h1⊢;obtain⟨b,o,vs,h1,h2,h5,h6⟩:=h1;obtain⟨ha,he⟩:=h.2 b h2.1 h2.2;exact⟨b,o,vs,h1,⟨sD h2.1 h.1,ha⟩,aJ.bo h h5,λj u hu=>(World.cell?_of_block he).trans (h6 j u hu)⟩
 | .own _ _ _,_,h1=>by simp only[Rel]at h1⊢;exact h1
 | .os _ _ _ _,_,h1=>by simp only[Rel]at h1⊢;exact h1
 | .oe _ _ _,_,h1=>by simp only[Rel]at h1⊢;exact h1
 | .om _ _,_,h1=>by simp only[Rel]at h1⊢;exact h1
 | .fn f fs cs,_,h1=>by simp only[Rel]at h1⊢;obtain⟨us,vs,e,h2,h3⟩:=h1;exact⟨us,vs,e,aJ.bo h h2,aJ.bo h h3⟩
 | .bA t x,_,h1=>by simp only[Rel]at h1⊢;obtain⟨vs,e,h2⟩:=h1;exact⟨vs,e,Rel.bo h h2⟩
theorem aJ.bo (h:dm w A w' A'):∀{x:List AV} {v:List Value},aJ w A x v->aJ w' A' x v
 |[],_,h1=>by simp only[aJ]at h1⊢;exact h1
 |_::_,_,h1=>by simp only[aJ]at h1⊢;obtain⟨v,r,e,h2,h3⟩:=h1;exact⟨v,r,e,Rel.bo h h2,aJ.bo h h3⟩
theorem bz.bo (h:dm w A w' A'):∀{k:Nat} {x:List (List AV)} {v:List Value},bz w A k x v->bz w' A' k x v
 |_,[],_,h1=>by simp only[bz]at h1⊢;exact h1
 |_,_::_,_,h1=>by simp only[bz]at h1⊢;obtain⟨v,r,e,hk,h2,h3⟩:=h1;exact⟨v,r,e,hk,aJ.bo h h2,bz.bo h h3⟩
end
end
inductive au where
 |box (b:Nat) (cells:List AV)
 |row (v:Value) (e:TypeId) (k:Nat) (rows:List (List AV))
 |map (r:Nat) (es:List (Value×AV))
 |fact (x:AV) (v:Value)
 |gone
def au.ids:au->List Nat
 | .box b _=>[b]
 | .row v _ _ _=>v.ownBlock.toList
 | .map r _=>[r]
 | .fact _ _=>[]
 | .gone=>[]
def lE (w:World) (A:Nat->Prop):List (Value×AV)->List MapEntry->Prop
 |[],l=>l=[]
 |x::xs,l=>∃e r,l=e::r/\e.key=x.1/\Rel w A x.2 e.val/\lE w A xs r
def ids (L:List au):List Nat:=L.flatMap au.ids
def au.ok (w:World) (A:Nat->Prop):au->Prop
 | .box b cells=>∃e vs,w.heap[b]? =some (.cells (List.toArray vs) e (0,0))/\aJ w A cells vs
 | .row v e k rows=>∃vs,bz w A k rows vs/\w.ownsRow 0 e k v rows.length vs
 | .map r es=>∃a clock,w.heap[r]? =some (.map (List.toArray a) clock)/\lE w A es a/\(a.map (·.born)).Nodup/\∀x∈a,x.born<clock
 | .fact x v=>Rel w A x v
 | .gone=>True
def Al (F:Nat->Prop) (L:List au) (b:Nat):Prop:=¬F b/\b∉ids L
abbrev Gl:=List (Nat×List Value)
def vi (G:Gl) (w:World) (A:Nat->Prop):Prop:=∀p∈G,A p.1/\∃e fz,w.heap[p.1]? =some (.cells p.2.toArray e fz)
structure bI (G:Gl) (w:World) (F:Nat->Prop) (L:List au):Prop where
 eN:∀x∈L,x.ok w (Al F L)
 nodup:(ids L).Nodup
 free:∀b∈ids L,¬F b
 bound:∀b,F b->b<w.heap.size
 cm:vi G w (Al F L)
def qo (w w':World):Prop:=w.drawn<=w'.drawn
theorem qo.of {w w':World} (h:w.drawn<=w'.drawn):qo w w':=h
theorem qo.trans {w w' w'':World} (h:qo w w') (g:qo w' w''):qo w w'':=nW h g
structure Ext (L:List au) (w:World) (L':List au) (w':World):Prop where
 os:w'.os=w.os
 tape:w'.tape=w.tape
 output:w'.output=w.output
 size:w.heap.size<=w'.heap.size
 block:∀b,b<w.heap.size->b∉ids L->w'.heap[b]? =w.heap[b]?
 new:∀b∈ids L',b∈ids L\/w.heap.size<=b
 drawn:qo w w'
theorem Ext.refl (L:List au) (w:World):Ext L w L w:=⟨rfl,rfl,rfl,bU _,λ_ _ _=>rfl,λ_ h=> .inl h,.of (bU _)⟩
theorem Ext.trans {L L' L'':List au} {w w' w'':World} (h:Ext L w L' w') (g:Ext L' w' L'' w''):Ext L w L'' w'' where
 os:=g.os.trans h.os
 tape:=g.tape.trans h.tape
 output:=g.output.trans h.output
 size:=nW h.size g.size
 block:=λb hb hn=>(g.block b (sD hb h.size) (λhm=>(h.new b hm).elim hn (λhle=>absurd hb (Nat.not_lt.2 hle)))).trans (h.block b hb hn)
 new:=λb hb=>(g.new b hb).elim (λhm=>h.new b hm) (λhle=> .inr (nW h.size hle))
 drawn:=h.drawn.trans g.drawn
theorem Ext.keeps {L L':List au} {w w':World} {F:Nat->Prop} (h:Ext L w L' w'):dm w (Al F L) w' (Al F L'):=
 ⟨h.size,λb hb ha=>⟨⟨ha.1,λhm=>(h.new b hm).elim ha.2 (λhle=>absurd hb (Nat.not_lt.2 hle))⟩,h.block b hb ha.2⟩⟩
theorem vi.bo {G:Gl} {w w':World} {A A':Nat->Prop} (h:vi G w A) (hk:dm w A w' A'):vi G w' A':=λp hp=>by
 obtain⟨ha,e,fz,hh⟩:=h p hp;have hlt:p.1<w.heap.size:=(lS.1 hh).1;obtain⟨h1,h2⟩:=hk.2 p.1 hlt ha;exact⟨h1,e,fz,h2.trans hh⟩
theorem lE.bo {w w':World} {A A':Nat->Prop} (h:dm w A w' A'):∀{es:List (Value×AV)} {l:List MapEntry},lE w A es l->lE w' A' es l
 |[],_,h1=>by simp only[lE]at h1⊢;exact h1
 |_::_,_,h1=>by simp only[lE]at h1⊢;obtain⟨v,r,e,h2,h3,h4⟩:=h1;exact⟨v,r,e,h2,Rel.bo h h3,lE.bo h h4⟩
theorem au.ok.lt {w:World} {A:Nat->Prop} {x:au} (h:x.ok w A):∀b∈x.ids,b<w.heap.size:=by
 intro b hb;cases x with
 |map c es=>simp[au.ids]at hb;subst hb;obtain⟨e,vs,h1,_⟩:=h;exact(lS.1 h1).1
 |fact x v=>simp[au.ids]at hb
 |gone=>simp[au.ids]at hb
 |box c cells=>simp[au.ids]at hb;subst hb;obtain⟨e,vs,h1,_⟩:=h;exact(lS.1 h1).1
 |row v e k rows=>obtain⟨vs,h1,h2⟩:=h;exact(h2.lt b (by simpa[au.ids]using hb)).2
theorem bI.lt {G:Gl} {w:World} {F:Nat->Prop} {L:List au} (h:bI G w F L):∀b∈ids L,b<w.heap.size:=by
 intro b hb;obtain⟨x,hx,hb⟩:=eH.1 hb;exact(h.eN x hx).lt b hb
theorem au.ok.bo {w w':World} {A A':Nat->Prop} {x:au} (h:x.ok w A) (hk:dm w A w' A') (hb:∀b∈x.ids,w'.heap[b]? =w.heap[b]?):x.ok w' A':=by
 cases x with
 |map c es=>obtain⟨e,vs,h1,h2,h3⟩:=h;exact⟨e,vs,(hb c (by simp[au.ids])).trans h1,lE.bo hk h2,h3⟩
 |fact x v=>exact Rel.bo hk h
 |gone=>trivial
 |box c cells=>obtain⟨e,vs,h1,h2⟩:=h;exact⟨e,vs,(hb c (by simp[au.ids])).trans h1,aJ.bo hk h2⟩
 |row v e k rows=>
  obtain⟨vs,h1,h2,h3⟩:=h;refine⟨vs,bz.bo hk h1,h2,?_⟩;rcases h3 with h3|⟨g,cap,cur,hv,hg,hh,r⟩
  ·exact .inl h3
  ·exact .inr ⟨g,cap,cur,hv,hg,(hb g (by simp[au.ids,hv,Value.ownBlock])).trans hh,r⟩
theorem cp (l r:List au):ids (l++r)=ids l++ids r:=by simp[ids]
theorem cJ (x:au) (r:List au):ids (x::r)=x.ids++ids r:=by simp[ids]
theorem bI.ve {G:Gl} {w w':World} {F:Nat->Prop} {l r:List au} {x x':au} (h:bI G w F (l++x::r)) (hsz:w.heap.size<=w'.heap.size)
  (hw:∀b,b<w.heap.size->b∉x.ids->w'.heap[b]? =w.heap[b]?) (hi:∀b∈x'.ids,b∈x.ids\/w.heap.size<=b) (hn:x'.ids.Nodup) (hx:x'.ok w' (Al F (l++x'::r))):bI G w' F (l++x'::r):=by
 have hlt:=h.lt;have hnd:=h.nodup;have hfr:=h.free;simp only[cp,cJ,cL]at hlt hfr;simp only[cp,cJ,nV,cL]at hnd;have hk:dm w (Al F (l++x::r)) w' (Al F (l++x'::r)):=by
  refine⟨hsz,λb hb ha=>?_⟩;simp only[Al,cp,cJ,cL,not_or]at ha⊢;refine⟨⟨ha.1,ha.2.1,λhm=>?_,ha.2.2.2⟩,hw b hb ha.2.2.1⟩;rcases hi b hm with h1|h1
  ·exact ha.2.2.1 h1
  ·omega
 have hoth:∀y,y∈l\/y∈r->y.ok w' (Al F (l++x'::r)):=by
  intro y hy;have hok:=h.eN y (by rcases hy with hy|hy<;>simp[hy]);refine hok.bo hk λb hb=>hw b (hok.lt b hb) λhbx=>?_;rcases hy with hy|hy
  ·exact hnd.2.2 b (by exact eH.2 ⟨y,hy,hb⟩) b (.inl hbx) rfl
  ·exact hnd.2.1.2.2 b hbx b (eH.2 ⟨y,hy,hb⟩) rfl
 refine⟨λy hy=>?_,?_,λb hb=>?_,λb hb=>sD (h.bound b hb) hsz,h.cm.bo hk⟩
 ·simp only[cL,cu]at hy;rcases hy with hy|rfl|hy
  ·exact hoth y (.inl hy)
  ·exact hx
  ·exact hoth y (.inr hy)
 ·simp only[cp,cJ,nV,cL];refine⟨hnd.1,⟨hn,hnd.2.1.2.1,λa ha b hb hab=>?_⟩,λa ha b hb hab=>?_⟩
  ·subst hab;rcases hi a ha with h1|h1
   ·exact hnd.2.1.2.2 a h1 a hb rfl
   ·have:=hlt a (.inr (.inr hb));omega
  ·subst hab;rcases hb with hb|hb
   ·rcases hi a hb with h1|h1
    ·exact hnd.2.2 a ha a (.inl h1) rfl
    ·have:=hlt a (.inl ha);omega
   ·exact hnd.2.2 a ha a (.inr hb) rfl
 ·simp only[cp,cJ,cL]at hb;rcases hb with hb|hb|hb
  ·exact hfr b (.inl hb)
  ·rcases hi b hb with h1|h1
   ·exact hfr b (.inr (.inl h1))
   ·intro hF;have:=h.bound b hF;omega
  ·exact hfr b (.inr (.inr hb))
theorem bI.push {G:Gl} {w w':World} {F:Nat->Prop} {L:List au} {x:au} (h:bI G w F L) (hsz:w.heap.size<=w'.heap.size)
  (hw:∀b,b<w.heap.size->w'.heap[b]? =w.heap[b]?) (hi:∀b∈x.ids,w.heap.size<=b) (hn:x.ids.Nodup) (hx:x.ok w' (Al F (L++[x]))):bI G w' F (L++[x]):=by
 have hk:dm w (Al F L) w' (Al F (L++[x])):=by
  refine⟨hsz,λb hb ha=>?_⟩;simp only[Al,cp,cJ,cL,not_or]at ha⊢;exact⟨⟨ha.1,ha.2,λhm=>by have:=hi b hm;omega,by simp[ids]⟩,hw b hb⟩
 refine⟨λy hy=>?_,?_,λb hb=>?_,λb hb=>sD (h.bound b hb) hsz,h.cm.bo hk⟩
 ·simp only[cL,cu,gx,or_false]at hy;rcases hy with hy|rfl
  ·exact(h.eN y hy).bo hk λb hb=>hw b ((h.eN y hy).lt b hb)
  ·exact hx
 ·simp only[cp,cJ,nV,cL];refine⟨h.nodup,⟨hn,by simp[ids],λa _ b hb=>by simp[ids]at hb⟩,λa ha b hb hab=>?_⟩;subst hab;rcases hb with hb|hb
  ·have h1:=h.lt a ha;have h2:=hi a hb;omega
  ·simp[ids]at hb
 ·simp only[cp,cJ,cL]at hb;rcases hb with hb|hb|hb
  ·exact h.free b hb
  ·intro hF;have h1:=h.bound b hF;have h2:=hi b hb;omega
  ·simp[ids]at hb
abbrev Sg:=List (Nat×AV)
def look:Sg->Nat->Option AV
 |[],_=>none
 |(k,x)::r,t=>match Nat.beq k t with
  |true=>some x
  |false=>look r t
abbrev Sl:=Nat->Option AV
abbrev fN (w:World) (A:Nat->Prop) (N:Nat) (a:Act) (s:Sl):Prop:=
 a.tmps.size=N/\∀t x,s t=some x->t<N/\Rel w A x (a.tmps.getD t undef)
abbrev rR (w:World) (A:Nat->Prop) (N:Nat) (a:Act) (O:Sg):Prop:=fN w A N a (look O)
theorem rR.bo {w w':World} {A A':Nat->Prop} {N:Nat} {a:Act} {O:Sg} (h:rR w A N a O) (hk:dm w A w' A'):rR w' A' N a O:=
 ⟨h.1,λt x hx=>⟨(h.2 t x hx).1,Rel.bo hk (h.2 t x hx).2⟩⟩
theorem Kb (tmps:Array Value) (d:Nat) (v:Value) (h:d<tmps.size):(tmps.setIfInBounds d v).getD d undef=v:=by
 simp[Array.getD,h]
theorem J' (tmps:Array Value) (d t:Nat) (v:Value) (h:d≠t):(tmps.setIfInBounds d v).getD t undef=tmps.getD t undef:=by
 simp only[DM,Array.getElem?_setIfInBounds,h,if_false]
def nL (dst:Option Nat) (x:AV) (O:Sg):Sg:=
 match dst with
 |some d=>(d,x)::O
 |none=>O
theorem rR.put {w:World} {A:Nat->Prop} {N:Nat} {a:Act} {O:Sg} (h:rR w A N a O) (dst:Option Nat) (hd:∀d,dst=some d->d<N) {x:AV} {v:Value} (hx:Rel w A x v):
  rR w A N (a.put dst v) (nL dst x O):=by
 cases dst with
 |none=>exact h
 |some d=>
  refine⟨by simp[Act.put,h.1],λt y hy=>?_⟩;simp only[nL,look]at hy;by_cases hdt:d=t
  ·subst hdt;have:Nat.beq d d=true:=Ah d;rw[this]at hy;simp only[aE]at hy;subst hy;refine⟨hd d rfl,?_⟩;simp only[Act.put];rw[Kb _ _ _ (by rw[h.1];exact hd d rfl)];exact hx
  ·have:Nat.beq d t=false:=by cases hb:Nat.beq d t with
    |false=>rfl
    |true=>exact absurd (bC hb) hdt
   rw[this]at hy;simp only at hy;obtain⟨h1,h2⟩:=h.2 t y hy;refine⟨h1,?_⟩;simp only[Act.put];rw[J' _ _ _ _ hdt];exact h2
structure St (G:Gl) (N:Nat) (w:World) (F:Nat->Prop) (a:Act) (O:Sg) (L:List au):Prop where
 sg:rR w (Al F L) N a O
 hp:bI G w F L
 df:a.defers=[]
inductive AE where
 |norm
 |exit (id:Nat)
 |ret
 |aM (x:AV)
def AE.rel (w:World) (A:Nat->Prop):AE->Exit->Prop
 | .norm,e=>e= .normal
 | .exit i,e=>e= .exit i
 | .ret,e=>e= .ret
 | .aM x,e=>∃v,e= .panic [{v,recovered:=false}]/\Rel w A x v
abbrev AQ:=AE->Sg->List au->Prop
def AE.sl (e:AE) (O:Sg):Sg:=match e with
 | .aM _=>[]
 |_=>O
def CQ (G:Gl) (N:Nat) (F:Nat->Prop) (w0:World) (η0:List au) (Q:AQ) (e:Exit) (a:Act) (w:World):Prop:=
 ∃e0 O L,Q e0 (e0.sl O) L/\AE.rel w (Al F L) e0 e/\St G N w F a (e0.sl O) L/\Ext η0 w0 L w
structure Cx where
 P:Program
 G:Gl
def bV (C:Cx) (N:Nat) (c:Code) (Q:AQ) (O:Sg) (L:List au):Prop:=
 ∀F w0 η0 a w,St C.G N w F a O L->Ext η0 w0 L w->c.wp C.P (CQ C.G N F w0 η0 Q) a w
abbrev AE.then (next:Sg->List au->Prop) (Q:AQ):AQ:=λe O L=>match e with
 | .norm=>next O L
 | .exit i=>Q (.exit i) O L
 | .ret=>Q .ret O L
 | .aM x=>Q (.aM x) O L
abbrev AE.inBlock (id:Nat) (Q:AQ):AQ:=λe O L=>match e with
 | .norm=>Q .norm O L
 | .exit i=>match Nat.beq i id with
  |true=>Q .norm O L
  |false=>Q (.exit i) O L
 | .ret=>Q .ret O L
 | .aM x=>Q (.aM x) O L
section
variable {C:Cx} {N:Nat} {Q:AQ} {O:Sg} {L:List au}
theorem CQ.intro {G:Gl} {F:Nat->Prop} {w0:World} {η0:List au} {e:Exit} {a:Act} {w:World} (e0:AE) (hr:AE.rel w (Al F L) e0 e) (hQ:Q e0 (e0.sl O) L) (hs:St G N w F a (e0.sl O) L) (hx:Ext η0 w0 L w):CQ G N F w0 η0 Q e a w:=
 ⟨e0,O,L,hQ,hr,hs,hx⟩
theorem bV.skip (h:Q .norm O L):bV C N .skip Q O L:=λ_ _ _ _ _ hs hx=>wp_skip (CQ.intro .norm rfl h hs hx)
theorem bV.exit {id:Nat} (h:Q (.exit id) O L):bV C N (.exit id) Q O L:=λ_ _ _ _ _ hs hx=>wp_exit (CQ.intro (.exit id) rfl h hs hx)
theorem bV.ret (h:Q .ret O L):bV C N .ret Q O L:=λ_ _ _ _ _ hs hx=>wp_ret (CQ.intro .ret rfl h hs hx)
theorem bV.label {l:Nat} (h:Q .norm O L):bV C N (.label l) Q O L:=λ_ _ _ _ _ hs hx=>wp_label (CQ.intro .norm rfl h hs hx)
theorem bV.mono {c:Code} {Q':AQ} (h:bV C N c Q O L) (hq:∀e O L,Q e O L->Q' e O L):bV C N c Q' O L:=λF w0 η0 a w hs hx=>
 wp_mono (h F w0 η0 a w hs hx) λ_ _ _ ⟨e0,O',L',h1,h2⟩=>⟨e0,O',L',hq _ _ _ h1,h2⟩
theorem bV.seq {x y:Code} (h:bV C N x (AE.then (bV C N y Q) Q) O L):bV C N (.seq x y) Q O L:=λF w0 η0 a w hs hx=>by
 refine wp_seq (wp_mono (h F w0 η0 a w hs hx) ?_);rintro e a' w' ⟨e0,O',L',h1,h2,h3,h4⟩;cases e0 with
 |norm=>simp only[AE.rel]at h2;subst h2;exact h1 F w0 η0 a' w' h3 h4
 |exit i=>simp only[AE.rel]at h2;subst h2;exact⟨.exit i,O',L',h1,rfl,h3,h4⟩
 |ret=>simp only[AE.rel]at h2;subst h2;exact⟨.ret,O',L',h1,rfl,h3,h4⟩
 |aM x=>obtain⟨v,rfl,h2⟩:=h2;exact⟨.aM x,O',L',h1,⟨v,rfl,h2⟩,h3,h4⟩
theorem bV.block {id:Nat} {c:Code} (h:bV C N c (AE.inBlock id Q) O L):bV C N (.block id c) Q O L:=λF w0 η0 a w hs hx=>by
 refine wp_block (wp_mono (h F w0 η0 a w hs hx) ?_);rintro e a' w' ⟨e0,O',L',h1,h2,h3,h4⟩;cases e0 with
 |norm=>simp only[AE.rel]at h2;subst h2;exact⟨.norm,O',L',h1,rfl,h3,h4⟩
 |exit i=>
  simp only[AE.rel]at h2;subst h2;simp only[Exit.inBlock];by_cases hi:i=id
  ·subst hi;simp only[AE.inBlock,Ah]at h1;rw[cj rfl];exact⟨.norm,O',L',h1,rfl,h3,h4⟩
  ·rw[bK hi];have:Nat.beq i id=false:=by cases hb:Nat.beq i id with
    |false=>rfl
    |true=>exact absurd (bC hb) hi
   simp only[AE.inBlock,this]at h1;exact⟨.exit i,O',L',h1,rfl,h3,h4⟩
 |ret=>simp only[AE.rel]at h2;subst h2;exact⟨.ret,O',L',h1,rfl,h3,h4⟩
 |aM x=>obtain⟨v,rfl,h2⟩:=h2;exact⟨.aM x,O',L',h1,⟨v,rfl,h2⟩,h3,h4⟩
def ev (s:Sl):Operand->Option AV
 | .tmp t=>s t
 | .const v=>some (.v v)
 | .global g=>some (.v (.pointer (some ⟨g,0,none⟩)))
 | .func f=>some (.v (.func (.func f) #[] #[]))
theorem bq {w:World} {A:Nat->Prop} {a:Act} {s:Sl} (hs:fN w A N a s) {o:Operand} {x:AV} (h:ev s o=some x):Rel w A x (a.eval o):=by
 cases o with
 |tmp t=>exact(hs.2 t x h).2
 |const v=>simp only[ev,aE]at h;subst h;simp[Rel,Act.eval]
 |global g=>simp only[ev,aE]at h;subst h;simp[Rel,Act.eval]
 |func f=>simp only[ev,aE]at h;subst h;simp[Rel,Act.eval]
theorem bV.cond {c:Operand} {x y:Code} {t:Bool} (hc:ev (look O) c=some (.v (.bool t))) (h1:t=true->bV C N x Q O L) (h2:t=false->bV C N y Q O L):bV C N (.cond c x y) Q O L:=
 λF w0 η0 a w hs hx=>by
  have he:=bq hs.sg hc;simp only[Rel]at he;exact wp_cond_split he (λht=>h1 ht F w0 η0 a w hs hx) (λht=>h2 ht F w0 η0 a w hs hx)
def iU (G:Gl) (N:Nat) (O:Sg) (L:List au) (O':Sg) (L':List au):Prop:=
 ∀F w a,St G N w F a O L->St G N w F a O' L'/\∀b∈ids L',b∈ids L
theorem bV.nI {c:Code} {O':Sg} {L':List au} (hw:iU C.G N O L O' L') (h:bV C N c Q O' L'):bV C N c Q O L:=λF w0 η0 a w hs hx=>by
 obtain⟨h1,h2⟩:=hw F w a hs;exact h F w0 η0 a w h1 (hx.trans ⟨rfl,rfl,rfl,bU _,λ_ _ _=>rfl,λb hb=> .inl (h2 b hb),.of (bU _)⟩)
def pick:List Nat->Sg->Option Sg
 |[],_=>some []
 |t::ts,O=>match look O t,pick ts O with
  |some x,some r=>some ((t,x)::r)
  |_,_=>none
end
end Go.Bw
end

section
noncomputable section
namespace Go.Bw
open Go
inductive TD where
 |struct (fs:List (Nat×Nat×Nat×Bool))
 |slice (e k:Nat)
 |array (n e k:Nat) (g:Bool)
 |int (k:IntKind)
 |str
 |bool
 |iface
 |other
structure TI where
 d:TD
 size:Nat
 bytes:Nat
 zero:List Value
def Cv:Value->Value->Bool
 | .bool a,.bool b=>a==b
 | .int k a,.int k' b=>decide (k=k')&&a==b
 | .string s,.string t=>s.data.toList==t.data.toList
 | .pointer none,.pointer none=>true
 | .slice none 0 0,.slice none 0 0=>true
 | .map none,.map none=>true
 | .nilFunc,.nilFunc=>true
 | .func (.func f) a b,.func (.func g) c d=>Nat.beq f g&&(a.toList.isEmpty&&b.toList.isEmpty&&(c.toList.isEmpty&&d.toList.isEmpty))
 | .nilIface,.nilIface=>true
 |_,_=>false
theorem MI {a b:Value} (h:Cv a b=true):a=b:=by
 unfold Cv at h;split at h<;>first|rfl|(simp_all;done)|cases h|skip
 ·rename_i s t;cases s;cases t;rename_i s t;cases s;cases t
  simp_all
def uG:List Value->List Value->Bool
 |[],[]=>true
 |a::as,b::bs=>Cv a b&&uG as bs
 |_,_=>false
theorem Mb:∀{a b:List Value},uG a b=true->a=b
 |[],[],_=>rfl
 |a::as,b::bs,h=>by
  simp only[uG,bG]at h;rw[MI h.1,Mb h.2]
 |[],_::_,h=>by simp[uG]at h
 |_::_,[],h=>by simp[uG]at h
def gR (P:Program) (t:Nat):Nat:=match P.info? t with
 |some i=>i.size
 |none=>0
def nM (P:Program) (t:Nat):Bool:=match P.underlying t with
 |some (.struct _)=>true
 |some (.array _ _)=>true
 |_=>false
def hasB (P:Program) (t:Nat):Bool:=(P.underlying t).isSome&&(P.info? t).isSome
def gb (P:Program) (d:TD) (u:TypeDesc):Bool:=match d,u with
 | .struct fs,.struct gs=>decide (gs.toList.map (λ(f:Field)=>(f.offset,f.type,gR P f.type,nM P f.type))=fs)&&fs.all λf=>hasB P f.2.1&&Nat.blt 0 f.2.2.1
 | .slice e k,.slice e'=>e==e'&&k==gR P e&&hasB P e
 | .array n e k g,.array n' e'=>n==n'&&e==e'&&k==gR P e&&g==nM P e&&hasB P e&&Nat.blt 1 n
 | .int k,.int k'=>decide (k=k')
 | .str,.string=>true
 | .bool,.bool=>true
 | .iface,.interface _=>true
 | .other,.interface _=>false
 | .other,.struct _=>false
 | .other,.array _ _=>false
 | .other,_=>true
 |_,_=>false
def lQ (P:Program) (t:Nat) (i:TI):Bool:=match P.underlying t,P.info? t with
 |some u,some ti=>gb P i.d u&&ti.size==i.size&&ti.bytes==i.bytes&&(match ti.zero with|some z=>uG z.cells.toList i.zero&&Nat.beq i.zero.length i.size|none=>false)
 |_,_=>false
inductive Tr (D:Type) where
 |lf
 |nd (x:Option D) (l r:Tr D)
def jY (n:Nat):Nat:=match n with
 |0=>0
 |m+1=>Nat.mod (m+1) 2
def iH (n:Nat):Nat:=match n with
 |0=>0
 |m+1=>Nat.div (m+1) 2
theorem l6 (n:Nat):jY n=Nat.mod n 2:=by cases n<;>rfl
theorem l7 (n:Nat):iH n=Nat.div n 2:=by cases n<;>rfl
def Tr.get {D:Type}:Tr D->Nat->Option D
 | .lf,_=>none
 | .nd x l r,n=> @Bool.rec (λ_=>Option D) (@Bool.rec (λ_=>Option D) (r.get (Nat.pred (iH n))) (l.get (iH n)) (Nat.beq (jY n) 1)) x (Nat.beq n 0)
theorem Tr.kK {D:Type} (n:Nat):(Tr.lf:Tr D).get n=none:=rfl
theorem Tr.pI {D:Type} (x:Option D) (l r:Tr D) (n:Nat):(Tr.nd x l r).get n=match Nat.beq n 0 with
  |true=>x
  |false=>match Nat.beq (jY n) 1 with
   |true=>l.get (iH n)
   |false=>r.get (Nat.pred (iH n)):=by
 rw[Tr.get]
 all_goals cases Nat.beq n 0
 all_goals first|rfl|(cases Nat.beq (jY n) 1<;>rfl)
def Tr.iF {D:Type} (p:Nat->D->Bool):Tr D->Nat->Nat->Bool
 | .lf,_,_=>true
 | .nd x l r,a,b=>(match x with
  |some y=>p b y
  |none=>true)&&(l.iF p (2*a) (a+b)&&r.iF p (2*a) (2*a+b))
theorem Tr.EI {D:Type} {p:Nat->D->Bool}:∀{t:Tr D} {a b n:Nat} {x:D},t.iF p a b=true->t.get n=some x->p (a*n+b) x=true
 | .lf,_,_,_,_,_,h=>by simp[Tr.kK]at h
 | .nd y l r,a,b,n,x,hall,h=>by
  simp only[Tr.iF,bG]at hall;simp only[Tr.pI,l6,l7]at h;cases h0:Nat.beq n 0 with
  |true=>
   rw[h0]at h;have:=bC h0;subst this;simp only at h;subst h;simpa using hall.1
  |false=>
   rw[h0]at h;have hne:n≠0:=λe=>by subst e;simp[Nat.beq]at h0
   simp only at h;cases h1:Nat.beq (Nat.mod n 2) 1 with
   |true=>
    rw[h1]at h;have h1:=bC h1;change n%2=1 at h1;have:=Tr.EI hall.2.1 h;have e:2*a*Nat.div n 2+(a+b)=a*n+b:=by
     change 2*a*(n/2)+(a+b)=a*n+b;have:n=2*(n/2)+1:=by omega
     generalize n/2=m at this;subst this;rw[DS,Nat.mul_one,<-Nat.mul_assoc,Ai a 2];omega
    rwa[e]at this
   |false=>
    rw[h1]at h;have h1:¬n%2=1:=λe=>by
     have:Nat.beq (Nat.mod n 2) 1=true:=by change Nat.beq (n%2) 1=true;rw[e];rfl
     rw[h1]at this;cases this
    have:=Tr.EI hall.2.2 h;have e:2*a*Nat.pred (Nat.div n 2)+(2*a+b)=a*n+b:=by
     change 2*a*(n/2-1)+(2*a+b)=a*n+b;have:n=2*(n/2-1)+2:=by omega
     generalize n/2-1=m at this;subst this;rw[DS,<-Nat.mul_assoc,Ai a 2];omega
    rwa[e]at this
abbrev bQ:=Tr TI
def aY (T:bQ) (t:Nat):Option TI:=T.get t
def xl (P:Program) (T:bQ):Prop:=∀t i,aY T t=some i->lQ P t i=true
theorem VC {P:Program} {T:bQ} (h:T.iF (lQ P) 1 0=true):xl P T:=λt i hi=>by
 have:=Tr.EI h hi;simpa using this
structure Env extends Cx where
 T:bQ
 tok:xl P T
section
variable {P:Program} {t:Nat} {i:TI}
theorem eI (h:lQ P t i=true):∃u ti,P.underlying t=some u/\P.info? t=some ti/\gb P i.d u=true/\ti.size=i.size/\ti.bytes=i.bytes/\∃z,ti.zero=some z/\z.cells.toList=i.zero:=by
 unfold lQ at h;split at h
 ·rename_i u ti hu hi;simp only[bG,beq_iff_eq]at h;obtain⟨⟨⟨h1,h2⟩,h3⟩,h4⟩:=h;split at h4
  ·rename_i z hz;simp only[bG]at h4;exact⟨u,ti,hu,hi,h1,h2,h3,z,hz,Mb h4.1⟩
  ·cases h4
 ·cases h
theorem Ba (h:lQ P t i=true):i.zero.length=i.size:=by
 unfold lQ at h;split at h
 ·simp only[bG,beq_iff_eq]at h;obtain⟨⟨⟨h1,h2⟩,h3⟩,h4⟩:=h;split at h4
  ·simp only[bG]at h4;exact bC h4.2
  ·cases h4
 ·cases h
theorem EF (h:lQ P t i=true) (w:World):(sizeOf t).run P w= .ok i.size w:=by
 obtain⟨u,ti,_,hi,_,hs,_⟩:=eI h;simp[sizeOf,typeInfo,hi,hs]
theorem mU (h:hasB P t=true) (w:World):(sizeOf t).run P w= .ok (gR P t) w:=by
 simp only[hasB,bG,aco]at h;obtain⟨_,ti,hi⟩:=h;simp[sizeOf,typeInfo,gR,hi]
theorem ED (h:hasB P t=true) (w:World):(isAgg t).run P w= .ok (nM P t) w:=by
 simp only[hasB,bG,aco]at h;obtain⟨⟨u,hu⟩,_⟩:=h;simp only[isAgg,Sem.run_bind,run_underlying hu,Result.andThen_ok,nM,hu];cases u<;>rfl
def TD.agg:TD->Bool
 | .struct _=>true
 | .array _ _ _ _=>true
 |_=>false
theorem WQ (h:lQ P t i=true) (w:World):(isAgg t).run P w= .ok i.d.agg w:=by
 obtain⟨u,ti,hu,_,hd,_⟩:=eI h;simp only[isAgg,Sem.run_bind,run_underlying hu,Result.andThen_ok];cases hid:i.d<;>cases u<;>simp_all [gb,TD.agg]
theorem DV {fs:List (Nat×Nat×Nat×Bool)} (h:lQ P t i=true) (hd:i.d= .struct fs):∃gs:Array Field,P.underlying t=some (.struct gs)/\
  ∀(j o ft k:Nat) (g:Bool),fs[j]? =some (o,ft,k,g)->∃f:Field,gs[j]? =some f/\f.offset=o/\f.type=ft/\gR P ft=k/\nM P ft=g/\hasB P ft=true/\0<k:=by
 obtain⟨u,ti,hu,_,hd',_⟩:=eI h;rw[hd]at hd';cases u<;>simp only[gb,jH]at hd';rename_i gs;simp only[bG,pd]at hd';obtain⟨hm,hall⟩:=hd';refine⟨gs,hu,λj o ft k g hj=>?_⟩;have hin:(o,ft,k,g)∈fs:=bh hj;have hh:=je.1 hall _ hin;simp only[bG]at hh;rw[<-hm,qu]at hj;cases hg:gs.toList[j]? with
 |none=>rw[hg]at hj;cases hj
 |some f=>
  rw[hg]at hj;simp only[Option.map_some,aE,ck]at hj;obtain⟨e1,e2,e3,e4⟩:=hj;refine⟨f,by simpa using hg,e1,e2,by rw[<-e2];exact e3,by rw[<-e2];exact e4,hh.1,by have:=hh.2;rwa[lT]at this⟩
theorem Tg {fs:List (Nat×Nat×Nat×Bool)} (h:lQ P t i=true) (hd:i.d= .struct fs):∃gs:Array Field,P.underlying t=some (.struct gs)/\
  (∀(j o ft k:Nat) (g:Bool),fs[j]? =some (o,ft,k,g)->∃f:Field,gs[j]? =some f/\f.offset=o/\f.type=ft/\gR P ft=k/\nM P ft=g/\hasB P ft=true/\0<k)/\
  ∀j (hj:j<gs.toList.length),hasB P gs.toList[j].type=true:=by
 obtain⟨gs,hu,h4⟩:=DV h hd;refine⟨gs,hu,h4,λj hj=>?_⟩;obtain⟨u,ti,hu',_,hd',_⟩:=eI h;rw[hu]at hu';cases hu';rw[hd]at hd';simp only[gb,bG,pd]at hd';obtain⟨hm,_⟩:=hd';have hl:j<fs.length:=by rw[<-hm];simpa using hj
 obtain⟨f,h5,h6,h7,_,_,h8,_⟩:=h4 j fs[j].1 fs[j].2.1 fs[j].2.2.1 fs[j].2.2.2 (by simp[hl]);have:gs.toList[j]=f:=by
  have:=(lS.1 h5).2;simpa using this
 rw[this,h7];exact h8
end
def Hh (op:BinOp) (x y:Value):Option Value:=
 match x,y with
 | .int k a,.int k' b=>match decide (k=k')with
  |false=>none
  |true=>match op with
   | .add=>some (.int k (k.wrap (a+b)))
   | .sub=>some (.int k (k.wrap (a-b)))
   | .mul=>some (.int k (k.wrap (a*b)))
   | .eql=>some (.bool (a==b))
   | .neq=>some (.bool (a !=b))
   | .lss=>some (.bool (decide (a<b)))
   | .leq=>some (.bool (decide (a<=b)))
   | .gtr=>some (.bool (decide (a>b)))
   | .geq=>some (.bool (decide (a>=b)))
   | .rem=>match decide (b=0)with
    |true=>none
    |false=>some (.int k (a.tmod b))
   | .quo=>match decide (b=0)with
    |true=>none
    |false=>some (.int k (k.wrap (a.tdiv b)))
   |_=>none
 | .string a,.string b=>match op with
  | .eql=>some (.bool (a.data.toList==b.data.toList))
  | .neq=>some (.bool (!(a.data.toList==b.data.toList)))
  | .lss=>some (.bool (Op.bytesLess a.data.toList b.data.toList))
  | .leq=>some (.bool (Op.bytesLess a.data.toList b.data.toList||a.data.toList==b.data.toList))
  | .gtr=>some (.bool (!(Op.bytesLess a.data.toList b.data.toList||a.data.toList==b.data.toList)))
  | .geq=>some (.bool (!Op.bytesLess a.data.toList b.data.toList))
  |_=>none
 |_,_=>none
theorem VO {P : Program} {op : BinOp} {t : TypeId} {x y : Operand} {u v r : Value} (h : Hh op u v = some r) (w : World) :
    (do eqGuard op t x y u v; binOp op t u v : Sem Value).run P w = .ok r w := by
  unfold Hh at h
  split at h
  · rename_i k a k' b
    split at h
    · cases h
    · rename_i hk
      have hk : k = k' := DD hk
      subst hk
      cases op <;> simp only at h <;> first
        | (cases h; done)
        | (simp only [aE] at h; subst h; simp [eqGuard_at_int, binOp, Op.intArith, Op.intCmp]; done)
        | (split at h
           · cases h
           · rename_i hb
             have hb : ¬ b = 0 := of_decide_eq_false hb
             simp only [aE] at h; subst h
             simp [eqGuard_at_int, binOp, Op.intDiv, hb])
  · cases op <;> simp only at h <;> first
      | (cases h; done)
      | (simp only [aE] at h; subst h; simp [eqGuard_at_string, binOp, Op.stringOp, ByteArray.toList_eq]; done)
  · cases h
def Hk (op:BinOp) (x y:Value):Option Value:=
 match x,y with
 | .int k a,.int k' b=>match op with
  | .shl=>match decide (b<0)with
   |true=>none
   |false=>some (.int k (k.wrap (a*2^min b.toNat k.bits)))
  | .shr=>match decide (b<0)with
   |true=>none
   |false=>some (.int k (a.fdiv (2^min b.toNat k.bits)))
  | .and=>match decide (k=k')with
   |false=>none
   |true=>some (.int k (k.wrap ((BitVec.ofInt k.bits a&&&BitVec.ofInt k.bits b).toNat:Int)))
  | .or=>match decide (k=k')with
   |false=>none
   |true=>some (.int k (k.wrap ((BitVec.ofInt k.bits a|||BitVec.ofInt k.bits b).toNat:Int)))
  | .xor=>match decide (k=k')with
   |false=>none
   |true=>some (.int k (k.wrap ((BitVec.ofInt k.bits a^^^BitVec.ofInt k.bits b).toNat:Int)))
  | .andNot=>match decide (k=k')with
   |false=>none
   |true=>some (.int k (k.wrap ((BitVec.ofInt k.bits a&&& ~~~BitVec.ofInt k.bits b).toNat:Int)))
  |_=>none
 |_,_=>none
theorem VP {P:Program} {op:BinOp} {t:TypeId} {x y:Operand} {u v r:Value} (h:Hk op u v=some r) (w:World):
  (do eqGuard op t x y u v;binOp op t u v:Sem Value).run P w= .ok r w:=by
 unfold Hk at h;split at h
 ·rename_i k a k' b;cases op<;>simp only at h<;>try (cases h;done)
  all_goals (split at h<;>try (cases h;done))
  all_goals simp only[aE]at h
  all_goals subst h
  all_goals rename_i hk
  all_goals (simp only[pd,decide_eq_false_iff_not]at hk)
  all_goals first
   |(subst hk;simp[eqGuard_at_int,binOp,Op.intBits];done)
   |(simp[eqGuard,binOp,Op.shift,hk];done)
 ·cases h
def nth {D:Type}:List D->Nat->Option D
 |[],_=>none
 |x::_,0=>some x
 |_::r,n+1=>nth r n
theorem cw {D:Type}:∀(l:List D) (n:Nat),nth l n=l[n]?
 |[],_=>by simp[nth]
 |x::_,0=>by simp[nth]
 |_::r,n+1=>by simp[nth,cw r n]
def uF (g:Bool) (xs:List AV) (off k:Nat):Option AV:=match g with
 |true=>some (.agg ((xs.drop off).take k))
 |false=>nth xs off
def fits:List AV->Nat->Bool
 |_,0=>true
 |[],_+1=>false
 |_::r,n+1=>fits r n
theorem MO:∀{l:List AV} {n:Nat},fits l n=true->n<=l.length
 |_,0,_=>o8 _
 |[],_+1,h=>by simp[fits]at h
 |_::r,n+1,h=>by simp only[fits]at h;have:=MO h;simp;omega
section
variable {w:World} {A:Nat->Prop}
theorem aJ.nth:∀{xs:List AV} {vs:List Value} {n:Nat} {x:AV},aJ w A xs vs->Bw.nth xs n=some x->∃v,vs[n]? =some v/\Rel w A x v
 |[],_,_,_,_,h=>by simp[Bw.nth]at h
 |y::_,vs,0,x,hr,h=>by
  simp only[aJ]at hr;obtain⟨v,r,rfl,h1,_⟩:=hr;simp only[Bw.nth,aE]at h;subst h;exact⟨v,by simp,h1⟩
 |_::xs,vs,n+1,x,hr,h=>by
  simp only[aJ]at hr;obtain⟨v,r,rfl,_,h2⟩:=hr;simp only[Bw.nth]at h;obtain⟨u,h3,h4⟩:=aJ.nth h2 h;exact⟨u,by simpa using h3,h4⟩
theorem aJ.drop:∀(n:Nat) {xs:List AV} {vs:List Value},aJ w A xs vs->aJ w A (xs.drop n) (vs.drop n)
 |0,_,_,h=>by simpa using h
 |n+1,[],_,h=>by simp only[aJ]at h;subst h;simp[aJ]
 |n+1,_::_,_,h=>by simp only[aJ]at h;obtain⟨v,r,rfl,_,h⟩:=h;simpa using aJ.drop n h
theorem aJ.take:∀(n:Nat) {xs:List AV} {vs:List Value},aJ w A xs vs->aJ w A (xs.take n) (vs.take n)
 |0,_,_,_=>by simp[aJ]
 |n+1,[],_,h=>by simp only[aJ]at h;subst h;simp[aJ]
 |n+1,_::_,_,h=>by simp only[aJ]at h;obtain⟨v,r,rfl,h1,h⟩:=h;simp only[An,aJ];exact⟨v,_,rfl,h1,aJ.take n h⟩
theorem aJ.append:∀{xs ys:List AV} {vs us:List Value},aJ w A xs vs->aJ w A ys us->aJ w A (xs++ys) (vs++us)
 |[],_,_,_,h,g=>by simp only[aJ]at h;subst h;simpa using g
 |_::_,_,_,_,h,g=>by simp only[aJ]at h;obtain⟨v,r,rfl,h1,h⟩:=h;simp only[jJ,aJ];exact⟨v,_,rfl,h1,aJ.append h g⟩
theorem Ma {P:Program} {t:TypeId} {g:Bool} (hg:hasB P t=true) (ha:nM P t=g) {xs:List AV} {vs:List Value} (hr:aJ w A xs vs) {off:Nat} {x:AV}
  (h:uF g xs off (gR P t)=some x) (w':World):∃v,(part t vs.toArray off).run P w'= .ok v w'/\Rel w A x v:=by
 subst ha;simp only[part,Sem.run_bind,ED hg,Result.andThen_ok,Sem.run_ite,mU hg,Sem.run_pure];cases hb:nM P t with
 |true=>
  rw[hb]at h;simp only[uF,aE]at h;subst h;refine⟨_,by simp only[if_true];rfl,?_⟩;simp only[Rel];refine⟨(vs.drop off).take (gR P t),?_,(hr.drop off).take _⟩;congr 1;apply jL;simp[aci]
 |false=>
  rw[hb]at h;simp only[uF]at h;obtain⟨v,h1,h2⟩:=hr.nth h;refine⟨v,?_,h2⟩;simp[h1]
