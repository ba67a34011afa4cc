/- The end of a row of one's own cleared. -/
import Derived.Test.YthlcjaanmbjcaaaGreatKE7
import Derived.Lib.SliceRun
import Derived.Lib.SlKeysI
set_option linter.all false
noncomputable section
namespace Go.Bw
open Go
section
variable {N:Nat} {Z:Sg} {O:List ag} {E:Env}
end
section
variable {E:Env} {N K:Nat} {Q:DQ} {Z:TS} {O:Hp} {all rest:List Oper} {k:List It} {o:Oper}
theorem SS.drop {L:au} {s:Sl} (t:Nat) (x:AV) (hs:SS L Z s):SS L (Tr.put 24 Z t none) (λu=>if u=t then some x else s u):=by
 intro u y hy;rcases Tr.dA 24 Z t u _ y hy with⟨rfl,e⟩|⟨hne,e⟩
 ·cases e
 ·obtain⟨z,h1,h2⟩:=hs _ _ e;exact⟨z,by simp only;rw[cW (λh=>hne (by first|exact h|exact h.symm))];exact h1,h2⟩
end
def jY (l:List Int) (n:Int):List Int:=bif l.contains n then l else l++[n]
theorem Ml {a b:Int}:Instr.sameNow (.int .i64) (.int .i64 a) (.int .i64 b)=some (a==b):=by
 obtain⟨r,h1,h2⟩:=Go.MapKept.sameNow_of_keys (d:= .int .i64) (a:= .int .i64 a) (b:= .int .i64 b) (by simp[Go.MapKept.IsKey]) (by simp[Go.MapKept.IsKey]);rw[h1];congr 1;by_cases h:a=b
 ·subst h;simpa using h2.2 rfl
 ·have:¬r=true:=λe=>h (by have:=h2.1 e;simpa using this);simp[h,this]
theorem Ca {w:World} {A:Nat->Prop} {n:Int}:∀{l:List Int} {a:List MapEntry} (i:Nat),dJ w A (dB l) a->
  ∃q,Instr.findNow (.int .i64) (.int .i64 n) a i=some q/\(l.contains n=true->∃j e,q=some (i+j,.bool true)/\a[j]? =some e/\e.key= .int .i64 n/\e.val= .bool true)/\(l.contains n=false->q=none)
 |[],a,i,h=>by
  simp only[dB,jJ,dJ]at h;subst h;exact⟨none,rfl,λe=>by simp at e,λ_=>rfl⟩
 |s::l,a,i,h=>by
  simp only[dB,cA,dJ]at h;obtain⟨e,r,rfl,h1,h2,h3⟩:=h;simp only[Rel]at h2;obtain⟨q,h4,h5,h6⟩:=Ca (n:=n) (l:=l) (i+1) h3;have hs:Instr.sameNow (.int .i64) (.int .i64 n) e.key=some (n==s):=by rw[h1];exact Ml
  cases hk:n==s with
  |true=>
   refine⟨some (i,.bool true),?_,λ_=>⟨0,e,rfl,rfl,?_,h2⟩,λe=>?_⟩
   ·simp only[Instr.findNow,hs,hk,h2]
   ·rw[h1,beq_iff_eq.1 hk]
   ·rw[JM,hk]at e;cases e
  |false=>
   refine⟨q,?_,λe'=>?_,λe=>h6 ?_⟩
   ·simp only[Instr.findNow,hs,hk,h4]
   ·obtain⟨j,e2,g1,g2,g3⟩:=h5 (by rwa[JM,hk,Bool.false_or]at e');exact⟨j+1,e2,by rw[g1];congr 2;omega,by simpa using g2,g3⟩
   ·rwa[JM,hk,Bool.false_or]at e
theorem CB {w:World} {A:Nat->Prop} {s:Int} {b:Nat}:∀{l:List Int} {a:List MapEntry},dJ w A (dB l) a->dJ w A (dB (l++[s])) (a++[{key:= .int .i64 s,val:= .bool true,born:=b}])
 |[],a,h=>by
  simp only[dB,jJ,dJ]at h;subst h;simp only[dB,rK,cA,jJ,dJ,Rel];exact⟨_,_,rfl,rfl,rfl,rfl⟩
 |x::l,a,h=>by
  simp only[dB,cA,dJ]at h;obtain⟨e,r,rfl,h1,h2,h3⟩:=h;simp only[dB,gT,cA,dJ];exact⟨e,_,rfl,h1,h2,CB (l:=l) h3⟩
section
variable {N:Nat} {Z:Sg} {O:List ag} {E:Env}
theorem LG {tg:Nat} {o:Oper} {t kt et:TypeId} {m x y:Operand} {r i:Nat} {l:List Int} {s:Int} (ho:o.op= .mapUpdate t m x y) (hu:E.P.underlying t=some (.map kt et)) (hk:E.P.underlying kt=some (.int .i64))
  (hm:ev (look Z) m=some (.om tg r)) (hi:nth O i=some (.map r (dB l))) (hx:ev (look Z) x=some (.v (.int .i64 s))) (hy:ev (look Z) y=some (.v (.bool true))):qN E.toCx N o Z O (O.set i (.map r (dB (jY l s)))):=λF a w hs=>by
 have h1:=aY hs.sg hm;have h2:=aY hs.sg hx;have h3':=aY hs.sg hy;simp only[Rel]at h1 h2 h3';obtain⟨ll,rr,rfl,hset⟩:=lG hi;rw[hset];obtain⟨es,clock,h3,h4,hnd,hlt⟩:=hs.hp.dw (.map r (dB l)) (by simp);obtain⟨q,h5,h6,h7⟩:=Ca (n:=s) 0 h4;have hck:(Instr.checkKey false 10000 kt (.int .i64 s)).run E.P w= .ok () w:=Go.MapKept.run_checkKey (d:= .int .i64) hk (by simp[Go.MapKept.IsKey]) false 9999;cases hc:l.contains s with
 |true=>
  obtain⟨j,e,rfl,g1,g2,g3⟩:=h6 hc;have hadd:jY l s=l:=by simp only[jY,hc,bZ]
  rw[hadd];have hmod:es.modify j (λe=>{key:= .int .i64 s,val:= .bool true,born:=e.born})=es:=by
   apply BI;intro i;rw[List.getElem?_modify];by_cases hij:j=i
   ·subst hij;rw[g1];cases e;simp only at g2 g3;subst g2 g3;simp
   ·simp[hij]
  have hb:r<w.heap.size:=(fZ.1 h3).1;have hrun:(Instr.mapUpdate t (.map (some r)) (.int .i64 s) (.bool true)).run E.P w= .ok () {w with heap:=w.heap.setIfInBounds r (.map (List.toArray es) clock)}:=by
   have:=R5 (P:=E.P) (.map (List.toArray es) clock) h3;simp only[lz]at h5;simp[Instr.mapUpdate,run_underlying hu,R6 h3,hck,R7 hk (show Instr.findNow (.int .i64) (.int .i64 s) (List.toArray es).toList 0=some (some (j,.bool true))from h5),g2,g1,Go.MapKept.run_keyThatStays (d:= .int .i64) (show Go.MapKept.IsKey (.int .i64) (.int .i64 s)by simp[Go.MapKept.IsKey]),Result.andThen,hmod];simpa using this
  have hsame:w.heap.setIfInBounds r (.map (List.toArray es) clock)=w.heap:=by
   apply JL;intro i;rw[BJ];split
   ·rename_i hri;subst hri;first|exact h3.symm|rw[cV hb,h3]
   ·rfl
  rw[hsame]at hrun;refine⟨w,?_,hs.hp,Ext.refl _ _⟩;simp[execOp,ho,h1,h2,h3',hrun]
 |false=>
 have:=h7 hc;subst this;have hadd:jY l s=l++[s]:=by simp only[jY,hc,cw]
 rw[hadd];obtain⟨w',hw'⟩:∃w',(Instr.mapUpdate t (.map (some r)) (.int .i64 s) (.bool true)).run E.P w= .ok () w'/\w'={w with heap:=w.heap.setIfInBounds r (.map (es.toArray.push {key:= .int .i64 s,val:= .bool true,born:=clock}) (clock+1))}:=by
  refine⟨_,?_,rfl⟩;simp[Instr.mapUpdate,run_underlying hu,R6 h3,hck,R7 hk (show Instr.findNow (.int .i64) (.int .i64 s) (List.toArray es).toList 0=some none from h5),R5 _ h3,Result.andThen]
 obtain⟨g1,rfl⟩:=hw';have hb:r<w.heap.size:=(fZ.1 h3).1;have hoth:∀b,b∉ag.ids (.map r (dB l))->(w.heap.setIfInBounds r (.map (es.toArray.push {key:= .int .i64 s,val:= .bool true,born:=clock}) (clock+1)))[b]? =w.heap[b]? :=λb hb=>by
  have:r≠b:=λe=>hb (by simp[ag.ids,e]);simp[BJ,this]
 have hext:Ext (ll++ag.map r (dB l)::rr) w (ll++ag.map r (dB (l++[s]))::rr) {w with heap:=w.heap.setIfInBounds r (.map (es.toArray.push {key:= .int .i64 s,val:= .bool true,born:=clock}) (clock+1))}:=by
  refine⟨rfl,rfl,rfl,by simp,λb _ hn=>hoth b λhb=>hn (by simp[bI,b4,hb]),λb hb=> .inl ?_,.of (bq _)⟩;simpa[bI,b4,ag.ids]using hb
 refine⟨_,?_,?_,hext⟩
 ·simp[execOp,ho,h1,h2,h3',g1]
 ·refine hs.hp.lq (by simp) (λb _ hn=>hoth b hn) (λb hb=> .inl hb) (by simp[ag.ids]) ?_;refine⟨es++[{key:= .int .i64 s,val:= .bool true,born:=clock}],clock+1,by simp[BJ,hb],(CB h4).aU hext.keeps,?_,?_⟩
  ·simp only[rL,cA,jJ];refine jd.2 ⟨hnd,by simp,λx hx y hy e=>?_⟩;simp at hy;subst hy;subst e;obtain⟨z,hz,e⟩:=cB.1 hx;have:=hlt z hz;omega
  ·intro x hx;rcases ck.1 hx with hx|hx
   ·have:=hlt x hx;omega
   ·simp at hx;subst hx;simp
end
section
variable {E:Env} {N K:Nat} {Q:DQ} {Z:TS} {O:Hp} {all rest:List Oper} {k:List It} {o:Oper}
theorem ai.LH {d n:Nat} {t:TypeId} {ty:TypeId} {pos:String} {after:Array Edge} (hn:O.n=n) (hd:Nat.blt d N=true) (h:ai E N K (.ops all rest::k) Q (Tr.put 24 Z d (some (.om n))) ⟨Tr.put 24 O.e n (some (.bL [])),n+1⟩):
  ai E N K (.ops all (⟨some d,.makeMap t none,ty,pos,after,none⟩::rest)::k) Q Z O:=by
 subst hn;unfold ai at h⊢;simp only[dq]at h⊢;intro L ZB ηB hs hh;refine aQ.kj rfl hd (Cj rfl) ?_;rintro x O' ⟨b,rfl,rfl⟩;have hdom:=hh.eC O.n (bq _);have hl:L.le (L.dK O.n b):=au.pD hdom.1;have hbn:(L.dK O.n b).b O.n=some b:=by simp[au.dK]
 refine DO.up hl (h _ _ _ ((hs.mono hl).put (some d) (by simp only[aw];exact⟨b,_,hbn,rfl⟩)) ?_);exact hh.push hl (λ_ _=>rfl) (λi hi=>by simp[au.dK,hi]) ⟨b,hbn,rfl⟩
theorem ai.jY {t kt et:TypeId} {m x y:Operand} {ty:TypeId} {pos:String} {after:Array Edge} {i:Nat} {l:List Int} {s:Int} (hu:E.P.underlying t=some (.map kt et)) (hk:E.P.underlying kt=some (.int .i64))
  (hm:aL Z m=some (.om i)) (hi:O.e.get i=some (.bL l)) (hx:aL Z x=some (.d (.v (.int .i64 s)))) (hy:aL Z y=some (.d (.v (.bool true)))) (h:ai E N K (.ops all rest::k) Q Z (O.set i (.bL (Bw.jY l s)))):
  ai E N K (.ops all (⟨none,.mapUpdate t m x y,ty,pos,after,none⟩::rest)::k) Q Z O:=by
 unfold ai at h⊢;simp only[dq]at h⊢;intro L ZB ηB hs hh;obtain⟨y1,h2,h3⟩:=bz hs hm;simp only[aw]at h3;obtain⟨b,t',h3,rfl⟩:=h3;obtain⟨y2,g2,g3⟩:=bz hs hx;simp only[aw]at g3;subst g3;obtain⟨y3,g4,g5⟩:=bz hs hy;simp only[aw]at g5;subst g5;obtain⟨q,h6,h7⟩:=hh.en i _ hi;obtain⟨b',h8,rfl⟩:=h7;rw[h3]at h8;cases h8;refine aQ.ue rfl rfl (LG rfl hu hk h2 h6 g2 g4) ?_;exact h _ _ _ hs (hh.set (.refl L) (λ_ _=>rfl) (λ_ _=>rfl) (hh.lt hi) ⟨b,h3,rfl⟩)
end
def mh (x:Int):List Int->List Int
 |[]=>[x]
 |y::l=>bif decide (x<=y)then x::y::l else y::mh x l
def gh:List Int->List Int
 |[]=>[]
 |x::l=>mh x (gh l)
theorem vF (x:Int):∀l:List Int,(mh x l).Perm (x::l)
 |[]=> .refl _
 |y::l=>by
  unfold mh;cases decide (x<=y)with
  |true=>exact .refl _
  |false=>exact((vF x l).cons y).trans (.swap x y l)
theorem vp:∀l:List Int,(gh l).Perm l
 |[]=> .refl _
 |x::l=>(vF x _).trans ((vp l).cons x)
theorem Ch (x:Int):∀{l:List Int},l.Pairwise (·<= ·)->(mh x l).Pairwise (·<= ·)
 |[],_=>by simp[mh]
 |y::l,h=>by
  unfold mh;rw[BH]at h;cases hd:decide (x<=y)with
  |true=>
   have:=mI hd;exact BH.2 ⟨λz hz=>by rcases cL.1 hz with rfl|hz;exact this;exact Int.le_trans this (h.1 z hz),BH.2 h⟩
  |false=>
   have:=of_decide_eq_false hd;exact BH.2 ⟨λz hz=>by rcases cL.1 ((vF x l).mem_iff.1 hz)with rfl|hz;omega;exact h.1 z hz,Ch x h.2⟩
theorem B':∀l:List Int,(gh l).Pairwise (·<= ·)
 |[]=> .nil
 |x::l=>Ch x (B' l)
theorem J5 {l l':List Int} (h:l.Perm l'):l.mergeSort (λx y=>decide (x<=y))=gh l':=by
 refine List.Perm.eq_of_pairwise (le:=λa b=>a<=b) (λa b _ _ h1 h2=>Int.le_antisymm h1 h2) ?_ (B' l') (((List.mergeSort_perm l _).trans h).trans (vp l').symm);refine(List.pairwise_mergeSort (le:=λx y:Int=>decide (x<=y)) (λa b c h g=>?_) (λa b=>?_) l).imp λh=>mI h
 ·simp only[jc]at*;exact Int.le_trans h g
 ·simp only[rN,jc];exact Int.le_total a b
def qM (l:List Int):Bool:=decide (l.Nodup)&&(Nat.ble l.length 1000000&&l.all λn=>decide (-9223372036854775808<=n)&&decide (n<=9223372036854775807))
def vq (P:Program) (g gk:FuncId):Prop:=∀(Bm b:Nat) (ks:List Int) (w:World) (es:List MapEntry) (clock:Nat),w.cell? ⟨Bm,0,none⟩=some (.map (some b))->Bm<w.heap.size->w.heap[b]? =some (.map (List.toArray es) clock)->es.map (·.key)=ks.map encZ->
 (es.map (·.born)).Nodup->(∀x∈es,x.born<clock)->qM ks=true->
 Calls P g #[.func (.func gk) #[] #[.pointer (some ⟨Bm,0,none⟩)]] w λe w'=>∃v t,e= .returned v/\w'.ownsRow w.heap.size t 1 v (gh ks).length ((gh ks).map encZ)/\Go.RowKit.Below w.heap.size w w'
theorem Ci {w:World} {A:Nat->Prop}:∀{l:List Int},aX w A 1 (bM .i64 l) (l.map encZ)
 |[]=>by simp[bM,aX]
 |s::l=>by
  simp only[bM,cA,aX,ax,Rel];exact⟨[encZ s],l.map encZ,rfl,rfl,⟨_,[],rfl,rfl,rfl⟩,Ci (l:=l)⟩
theorem C1 {w:World} {A:Nat->Prop}:∀{l:List Int} {a:List MapEntry},dJ w A (dB l) a->a.map (·.key)=l.map encZ
 |[],a,h=>by simp only[dB,jJ,dJ]at h;subst h;rfl
 |x::l,a,h=>by
  simp only[dB,cA,dJ]at h;obtain⟨e,r,rfl,h1,h2,h3⟩:=h;rw[cA,C1 (l:=l) h3,h1];rfl
inductive iO:List CV->List CV->Prop where
 |nil:iO [] []
 |same {c:CV} {r r':List CV}:iO r r'->iO (c::r) (c::r')
 |d {x y:AV} {r r':List CV}:bw x y->iO r r'->iO (.d x::r) (.d y::r')
theorem iO.inst {L:au} {xs' xs:List CV} (h:iO xs' xs):∀{ys:List AV},aC L xs' ys->∃us,aC L xs us/\∀w A vs,ax w A ys vs->ax w A us vs:=by
 induction h with
 |nil=>exactλ{ys} hy=>⟨ys,hy,λ_ _ _ h=>h⟩
 |same _ ih=>
  intro ys hy;simp only[aC]at hy;obtain⟨y,r,rfl,h1,h2⟩:=hy;obtain⟨us,h3,h4⟩:=ih h2;refine⟨y::us,by simp only[aC];exact⟨y,us,rfl,h1,h3⟩,λw A vs h=>?_⟩;simp only[ax]at h⊢;obtain⟨v,t,rfl,h5,h6⟩:=h;exact⟨v,t,rfl,h5,h4 _ _ _ h6⟩
 |d hi _ ih=>
  intro ys hy;simp only[aC,aw]at hy;obtain⟨y,r,rfl,rfl,h2⟩:=hy;obtain⟨us,h3,h4⟩:=ih h2;refine⟨_::us,by simp only[aC,aw];exact⟨_,us,rfl,rfl,h3⟩,λw A vs h=>?_⟩;simp only[ax]at h⊢;obtain⟨v,t,rfl,h5,h6⟩:=h;exact⟨v,t,rfl,hi _ _ _ h5,h4 _ _ _ h6⟩
theorem eP.imp {E:Env} {g:FuncId} {xs xs':List CV} {e0 e1:ig} {y:AV} (h:eP E g xs e0 y e1) (hi:iO xs' xs):eP E g xs' e0 y e1:=λL _ ηB hys hh=>by
 obtain⟨us,h1,h2⟩:=hi.inst hys;have:=h L us ηB h1 hh;exact⟨this.1,λF w vs hH hR=>this.2 F w vs hH (h2 _ _ _ hR)⟩
section
variable {E:Env} {N K:Nat} {Q:DQ} {Z:TS} {O:Hp} {all rest:List Oper} {k:List It} {o:Oper}
theorem de.sorted {g gk:FuncId} {i m:Nat} {l:List Int} (hc:pt E.P g) (hs:vq E.P g gk) (hi:O.e.get i=some (.box [.om m])) (hm:O.e.get m=some (.bL l)) (hok:qM l=true):
  de E g [.fn gk [] [.own i 0]] O (λr O'=>r= .ret (.d (.sl 1 (bM .i64 (gh l))))/\O'=O):=λL ys ηB hys hh=>by
 refine⟨hc,λF w vs hH hR=>?_⟩;simp only[aC,aw]at hys;obtain⟨y,r,rfl,⟨us,cs,rfl,rfl,⟨y2,r2,rfl,⟨b,t',hb,rfl⟩,rfl⟩⟩,rfl⟩:=hys;simp only[ax,Rel]at hR;obtain⟨v,r3,rfl,⟨us',vs',rfl,rfl,⟨v4,r4,rfl,rfl,rfl⟩⟩,rfl⟩:=hR
 --the box
 obtain⟨q,hq1,hq2⟩:=hh.en i _ hi;obtain⟨b',cs',hb',rfl,hcs⟩:=hq2;rw[hb]at hb';cases hb';simp only[aC,aw]at hcs;obtain⟨y5,r5,rfl,⟨b5,t5,hb5,rfl⟩,rfl⟩:=hcs;obtain⟨e6,vs6,hheap,hvs⟩:=fg hH hq1;simp only[ax,Rel]at hvs;obtain⟨v7,r7,rfl,rfl,rfl⟩:=hvs
 --the map
 obtain⟨q2,hp1,hp2⟩:=hh.en m _ hm;obtain⟨b8,hb8,rfl⟩:=hp2;rw[hb5]at hb8;cases hb8;obtain⟨es,clock,hmap,hrel,hnd,hlt⟩:=fg hH hp1;have hcell:w.cell? ⟨b,0,none⟩=some (.map (some b5)):=lD hheap _ _ (by simp);refine(hs b b5 l w es clock hcell (vo hcell) hmap (C1 hrel) hnd hlt hok).mono ?_;rintro e w' ⟨v,t,rfl,hrow,hbel⟩;have hlat:gl w w':=⟨hbel.size,λb hb=>hbel.block b hb⟩;refine⟨.ret (.sl 1 (bM .i64 (gh l))),ηB,⟨L,.ret (.d (.sl 1 (bM .i64 (gh l)))),O,λ_ _=>⟨λ_ h=>h,λ_ _ h=>h⟩,⟨_,rfl,rfl⟩,hh,rfl,rfl⟩,⟨v,rfl,?_⟩,hH.later hlat,⟨hbel.os,hbel.tape,hbel.output,hbel.size,λb hb _=>hbel.block b hb,λ_ hb=> .inl hb,iY.any _ _⟩⟩;have hlen:(bM .i64 (gh l)).length=(gh l).length:=by simp[bM]
 simp only[Rel];rcases hrow.2 with⟨rfl,h0⟩|⟨g9,cap,cur,rfl,hbase,hg9,h1,h2,h3,h4⟩
 ·left;rw[jI h0];exact⟨rfl,_,_,rfl⟩
 ·right;have hgl:g9<w'.heap.size:=(fZ.1 hg9).1;refine⟨g9,0,cap,_,by rw[hlen],⟨hgl,λhF=>absurd (hH.bound _ hF) (by omega),λhm=>absurd (hH.lt _ hm) (by omega)⟩,by rw[hlen];exact h1,h2,Ci,λj u hj=>?_⟩;rw[<-h4,gV]at hj;split at hj
  ·simp only[World.cell?,hg9];simpa using hj
  ·cases hj
theorem ai.sorted {dst:Option Nat} {f:Operand} {args:List Operand} {g gk:FuncId} {i m:Nat} {l:List Int} {tys:Array TypeId} {ty:TypeId} {pos:String} {after:Array Edge}
  (hcl:pt E.P g) (hs:vq E.P g gk) (hok:qM l=true) (hc:cu Z f args=some (g,[.fn gk [] [.own i 0]])) (hi:O.e.get i=some (.box [.om m])) (hm:O.e.get m=some (.bL l)) (hd:bE N dst=true)
  (k1:ai E N K (.ops all rest::k) Q (br Z dst (.d (.sl 1 (bM .i64 (gh l))))) O):ai E N K (.ops all (⟨dst,.call {callee:= .value f,args:=args.toArray,argTypes:=tys},ty,pos,after,none⟩::rest)::k) Q Z O:=
 DO.call (de.sorted hcl hs hi hm hok) hc hd (λx O' hq=>by obtain⟨e,rfl⟩:=hq;cases e;exact k1) (λx O' hq=>by cases hq.1)
