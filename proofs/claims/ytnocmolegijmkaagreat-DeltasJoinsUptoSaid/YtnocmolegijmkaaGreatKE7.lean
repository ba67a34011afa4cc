/- More steps: a slot's length in other words; copy over a row of one's own; maps of one's own with keys that are strings. -/
import Derived.Test.YtnocmolegijmkaaGreatKE3
import Derived.MapKept
import Derived.Sort.Grow
import Derived.Sort.EncStr
set_option linter.all false
section
noncomputable section
namespace Go.Bw
open Go
section
variable {N:Nat} {O:Sg} {L:List aq} {E:Env}
theorem Q8 {tg:Nat} {o:Oper} {s x:Operand} {t u:TypeId} (ho:o.op= .call {callee:= .builtin .copy,args:= #[s,x],argTypes:= #[t,u]}) {i:Nat} {a0:Option Addr} {n0 c0:Nat} {e k sz by':Nat} {z:List Value} {rows rows2:List (List AV)}
  (ht:bc E.T t=some ⟨.slice e k,sz,by',z⟩) (hs':ev (look O) s=some (.os tg a0 n0 c0)) (hi:nth L i=some (.row (.slice a0 n0 c0) e k rows)) (hn0:n0=rows.length)
  (hsrc:∀F a w,St E.G N w F a O L->jX w (Al F L) k (a.eval x) rows2) (h1:fU rows2=true) (hl2:rows2.length=rows.length):
  pr E.toCx N o O L (λr L'=>r= .v (.int .i64 (rows.length:Nat))/\L'=L.set i (.row (.slice a0 n0 c0) e k rows2)):=λF a w hs=>by
 obtain⟨v,hvd⟩:∃v,v=Value.slice a0 n0 c0:=⟨_,rfl⟩;rw[<-hvd]at hi⊢;have hv:=bH hs.sg hs';simp only[Rel]at hv;rw[<-hvd]at hv;obtain⟨hu,hke,hh⟩:=kO (E.tok _ _ ht) rfl;have hsz:∀w',(sizeOf e).run E.P w'= .ok k w':=λw'=>by rw[hke];exact l7 hh w'
 obtain⟨l,r,rfl,hset⟩:=mJ hi;simp only[hset];obtain⟨vs,h3,h4⟩:=hs.hp.eG (.row v e k rows) (by simp);obtain⟨ad,m,c,vs2,h5,h6,h7,h8,h9⟩:=hsrc F a w hs;have hmn:m=rows.length:=by omega
 have hones:=HQ h1 h7;have hvl:vs.length=rows.length*k:=h3.length;have hv2l:vs2.length=rows.length*k:=by rw[h7.length,hl2]
 subst hn0;have hids:∀b∈aq.ids (.row v e k rows2),b∈aq.ids (.row v e k rows)\/w.heap.size<=b:=λb hb=> .inl hb;have hnd:(aq.ids (.row v e k rows2)).Nodup:=by cases hob:v.ownBlock<;>simp[aq.ids,hob]
 --the run
 have hrun:∃w',(Builtin.copy_ #[t,u] o.type #[v,a.eval x]).run E.P w= .ok (.int .i64 (rows.length:Nat)) w'/\w'.ownsRow 0 e k v rows.length vs2/\w'.os=w.os/\w'.tape=w.tape/\(w'.output=w.output/\w'.drawn=w.drawn)/\w'.heap.size=w.heap.size/\∀b,b∉aq.ids (.row v e k rows)->w'.heap[b]? =w.heap[b]? :=by
  rw[h5];obtain⟨h40,h4⟩:=h4;rcases h4 with⟨hvn,h0⟩|⟨g,cap,cur,hvg,_,hg,hnc,hcm,hcs,htake⟩
  ·have hm0:m=0:=by omega
   have hr0:rows.length=0:=h0;have hv2:vs2=[]:=jb (by rw[hv2l,hr0];simp);subst hv2;refine⟨w,?_,⟨by rw[hr0];simp,.inl ⟨hvn,h0⟩⟩,rfl,rfl,⟨rfl,rfl⟩,rfl,λ_ _=>rfl⟩;have hl0:∀ad,(loadCells ad 0).run E.P w= .ok #[] w:=λad=>by have:=run_loadCells_list (P:=E.P) w ad [] (by simp);simpa using this
   rw[hvn];cases ad<;>simp[Builtin.copy_,run_underlying hu,hsz,Builtin.lenOf,Builtin.firstCells,hm0,hl0,hr0,goInt]
  ·have hcurlen:rows.length*k<=cur.toList.length:=by simp only[xL];rw[hcs];exact gg k hnc
   have hg':w.heap[g]? =some (.cells cur.toList.toArray e (0,0)):=by simpa using hg
   obtain⟨w',h6',h7',h8',h9',h10,h11,h12⟩:=xS (P:=E.P) g e vs2 0 0 cur.toList w hg' (by omega) hones;have hown:aq.ids (.row v e k rows)=[g]:=by simp[aq.ids,hvg,Value.ownBlock]
   refine⟨w',?_,⟨by rw[hv2l],.inr ⟨g,cap,_,hvg,mG _,h7',hnc,hcm,?_,?_⟩⟩,h8',h9',h10,h11,λb hb=>h12 b (λe=>hb (by rw[hown,e];simp))⟩
   ·have hfc:(Builtin.firstCells k rows.length (.slice ad m c)).run E.P w= .ok vs2.toArray w:=by
     cases ad with
     |some a1=>exact run_firstCells_some (P:=E.P) w k rows.length a1 m c vs2 hv2l (λj u hj=>h9 a1 rfl j u hj)
     |none=>
      have:rows.length=0:=by rw[<-hmn];exact h8 rfl
      have hv2:vs2=[]:=jb (by rw[hv2l,this];simp);rw[hv2];exact run_firstCells_none (P:=E.P) w k rows.length m c
    rw[hvg];have hmin:Nat.min m rows.length=rows.length:=by rw[hmn];exact Nat.min_self _
    simp[Builtin.copy_,run_underlying hu,hsz,Builtin.lenOf,hmin,hfc,h6',goInt]
   ·simp only[HA];rw[ra (by simpa[hv2l]using hcurlen)];simpa using hcs
   ·apply nC;intro i;rw[fT,rj (by simpa[hv2l]using hcurlen)];by_cases hi':i<rows.length*k
    ·rw[bg hi',bg (by omega)];simp
    ·rw[aM hi',kK (by omega)]
 obtain⟨w',g1,g2,g3,g4,g5,g6,g7⟩:=hrun;have hext:Ext (l++aq.row v e k rows::r) w (l++aq.row v e k rows2::r) w':=by
  refine⟨g3,g4,g5.1,by omega,λb _ hn=>g7 b λhb=>hn (by simp[cB,cJ,hb]),λb hb=> .inl ?_,.of (HB g5.2.symm)⟩;simpa[cB,cJ,aq.ids]using hb
 refine⟨.int .i64 (rows.length:Nat),w',_,_,⟨rfl,rfl⟩,?_,by simp only[Rel],?_,hext⟩
 ·simp only[execOp,ho,resolve,invoke,builtin,Sem.run_bind,Sem.run_pure,Result.andThen_ok,OC,dp,lY,hv,g1]
 ·refine hs.hp.lU (by omega) (λb _ hn=>g7 b hn) hids hnd ?_;exact⟨vs2,h7.keep hext.keeps,by rw[hl2];exact g2⟩
end
section
variable {E:Env} {N K:Nat} {Q:DQ} {O:TS} {L:Hp} {all rest:List Oper} {k:List It} {o:Oper}
theorem SS.oB {Z:aN} {s:Sl} (t:Nat) {i n m:Nat} (ht:O.get t=some (.os i n)) (h:n=m) (hs:SS Z O s):SS Z (Tr.put 24 O t (some (.os i m))) s:=by
 subst h;intro u x hx;rcases Tr.fy 24 O t u _ x hx with⟨rfl,e⟩|⟨_,e⟩
 ·cases e;exact hs _ _ ht
 ·exact hs _ _ e
theorem ao.oB (t:Nat) {i n m:Nat} (ht:O.get t=some (.os i n)) (h:n=m) (hk:ao E N K (.ops all rest::k) Q (Tr.put 24 O t (some (.os i m))) L):ao E N K (.ops all rest::k) Q O L:=by
 unfold ao at hk⊢;simp only[dq]at hk⊢;exact DO.agy (λZ s hs=>hs.oB t ht h) hk
theorem b5.copy {i n:Nat} {s' p:Operand} {t u:TypeId} {e kk sz by':Nat} {z:List Value} {rows rows2:List (List AV)} (ho:o.op= .call {callee:= .builtin .copy,args:= #[s',p],argTypes:= #[t,u]})
  (hs':aY O s'=some (.os i n)) (hi:L.e.get i=some (.row e kk rows)) (hn:n=rows.length) (hx:la E O L kk p rows2) (ht:bc E.T t=some ⟨.slice e kk,sz,by',z⟩) (h1:fU rows2=true) (hl:rows2.length=rows.length):
  b5 E N o O L (λr L'=>r= .ret (.d (.v (.int .i64 (rows.length:Nat))))/\L'=L.set i (.row e kk rows2)):=λZ s LB hs hh=>by
 obtain⟨y,h2,h3⟩:=cu hs hs';simp only[aK]at h3;obtain⟨a,c,t',h3,rfl⟩:=h3;obtain⟨q,h6,h7⟩:=hh.en i _ hi;obtain⟨⟨a',c',h8,rfl⟩,h9⟩:=h7;subst hn;rw[h3]at h8;cases h8;refine(dG.GO (Q8 ho ht (oP (Z:=Z) (by simp[ho,Op.operands,Call.operands]) h2) h6 rfl (hx.YU hs hh (by simp[ho,Op.operands,Call.operands])) h1 hl)).mono ?_;rintro r L' ⟨y,rfl,rfl,rfl⟩;exact⟨_,.ret (.d (.v (.int .i64 (rows.length:Nat)))),L.set i (.row e kk rows2),.refl Z,⟨_,rfl,rfl⟩,hh.set (.refl Z) (λ_ _=>rfl) (λ_ _=>rfl) (hh.lt hi) ⟨⟨a,c,by rw[hl];exact h3,by rw[hl]⟩,λm hm=>h9 m (by omega)⟩,rfl,rfl⟩
end
section
variable {E:Env} {N K:Nat} {Q:DQ} {O:TS} {L:Hp} {all rest:List Oper} {k:List It} {o:Oper}
theorem ao.copy {i n:Nat} {dst:Option Nat} {s' p:Operand} {t u:TypeId} {ty:TypeId} {pos:String} {after:Array Edge} {e kk sz by':Nat} {z:List Value} {rows rows2:List (List AV)}
  (hs':aY O s'=some (.os i n)) (hi:L.e.get i=some (.row e kk rows)) (hn:n=rows.length) (hx:la E O L kk p rows2) (ht:bc E.T t=some ⟨.slice e kk,sz,by',z⟩) (h1:fU rows2=true) (hl:rows2.length=rows.length) (hd:cP N dst=true)
  (kk1:ao E N K (.ops all rest::k) Q (cv O dst (.d (.v (.int .i64 (rows.length:Nat))))) (L.set i (.row e kk rows2))):
  ao E N K (.ops all (⟨dst,.call {callee:= .builtin .copy,args:= #[s',p],argTypes:= #[t,u]},ty,pos,after,none⟩::rest)::k) Q O L:=by
 unfold ao at kk1⊢;simp only[dq]at kk1⊢;intro Z σB LB hs hh;obtain⟨y,h2,h3⟩:=cu hs hs';simp only[aK]at h3;obtain⟨a,c,t',h3,rfl⟩:=h3;obtain⟨q,h6,h7⟩:=hh.en i _ hi;obtain⟨⟨a',c',h8,rfl⟩,h9⟩:=h7;subst hn;rw[h3]at h8;cases h8;refine cj.qS rfl hd (Q8 rfl ht h2 h6 rfl (hx.ok hs hh) h1 hl) ?_;rintro r L' ⟨rfl,rfl⟩;exact kk1 _ _ _ (hs.put dst (x:= .d _) rfl) (hh.set (.refl Z) (λ_ _=>rfl) (λ_ _=>rfl) (hh.lt hi) ⟨⟨a,c,by rw[hl];exact h3,by rw[hl]⟩,λm hm=>h9 m (by omega)⟩)
end
theorem aeM {key s:List UInt8}:Instr.sameNow .string (.string ⟨⟨key⟩⟩) (.string ⟨⟨s⟩⟩)=some (key==s):=by
 obtain⟨r,h1,h2⟩:=Go.MapKept.sameNow_of_keys (d:= .string) (a:= .string ⟨⟨key⟩⟩) (b:= .string ⟨⟨s⟩⟩) (by simp[Go.MapKept.IsKey]) (by simp[Go.MapKept.IsKey]);rw[h1];congr 1;by_cases h:key=s
 ·subst h;simpa using h2.2 rfl
 ·have:¬r=true:=λe=>h (by have:=h2.1 e;simpa using this);simp[h,this]
theorem H3 {w:World} {A:Nat->Prop} {key:List UInt8}:∀{l:List (List UInt8)} {a:List MapEntry} (i:Nat),gu w A (jC l) a->
  ∃q,Instr.findNow .string (.string ⟨⟨key⟩⟩) a i=some q/\(l.contains key=true->∃j,q=some (j,.bool true))/\(l.contains key=false->q=none)
 |[],a,i,h=>by
  simp only[jC,lY,gu]at h;subst h;exact⟨none,rfl,λe=>by simp at e,λ_=>rfl⟩
 |s::l,a,i,h=>by
  simp only[jC,dp,gu]at h;obtain⟨e,r,rfl,h1,h2,h3⟩:=h;simp only[Rel]at h2;obtain⟨q,h4,h5,h6⟩:=H3 (key:=key) (l:=l) (i+1) h3;have hs:Instr.sameNow .string (.string ⟨⟨key⟩⟩) e.key=some (key==s):=by rw[h1];exact aeM
  cases hk:key==s with
  |true=>
   refine⟨some (i,.bool true),?_,λ_=>⟨i,rfl⟩,λe=>?_⟩
   ·simp only[Instr.findNow,hs,hk,h2]
   ·rw[aaf,hk]at e;cases e
  |false=>
   refine⟨q,?_,λe=>h5 ?_,λe=>h6 ?_⟩
   ·simp only[Instr.findNow,hs,hk,h4]
   ·rwa[aaf,hk,Bool.false_or]at e
   ·rwa[aaf,hk,Bool.false_or]at e
theorem HR {P:Program} {kt:TypeId} (hk:P.underlying kt=some .string) (b:Bool) (s:ByteArray) (w:World):(Instr.checkKey b 10000 kt (.string s)).run P w= .ok () w:=Go.MapKept.run_checkKey (d:= .string) hk (by simp[Go.MapKept.IsKey]) b 9999
section
variable {N:Nat} {O:Sg} {L:List aq} {E:Env}
theorem aa6 {o:Oper} {t:TypeId} (ho:o.op= .makeMap t none):pr E.toCx N o O L (λx L'=>∃r,x= .om L.length r/\L'=L++[.map r []]):=λF a w hs=>by
 have hext:=nK w (.map #[] 0) L (.map w.heap.size []) (by simp[aq.ids]);refine⟨.map (some w.heap.size),w.alloc (.map #[] 0),_,_,⟨w.heap.size,rfl,rfl⟩,by simp[execOp,ho,Instr.makeMap,Result.andThen],by simp only[Rel],?_,hext⟩;refine hs.hp.push (by simp) (λb hb=>lA w _ b hb) (by simp[aq.ids]) (by simp[aq.ids]) ?_;exact⟨[],0,l6 w _,by simp[gu],by simp,by simp⟩
theorem aaG {tg:Nat} {o:Oper} {t kt et:TypeId} {m x:Operand} {r i:Nat} {l:List (List UInt8)} {s:List UInt8} (ho:o.op= .lookup t m x false) (hu:E.P.underlying t=some (.map kt et)) (hk:E.P.underlying kt=some .string) (hz:∀w,(zeroValue et).run E.P w= .ok (.bool false) w)
  (hm:ev (look O) m=some (.om tg r)) (hi:nth L i=some (.map r (jC l))) (hx:ev (look O) x=some (.v (.string ⟨⟨s⟩⟩))):pv E.toCx N o O L (.v (.bool (l.contains s))):=λF a w hs=>by
 have h1:=bH hs.sg hm;have h2:=bH hs.sg hx;simp only[Rel]at h1 h2;obtain⟨es,clock,h3,h4,_⟩:=ju hs.hp hi;have hb:r<w.heap.size:=(gQ.1 h3).1;obtain⟨q,h5,h6,h7⟩:=H3 (key:=s) 0 h4;refine⟨.bool (l.contains s),by simp only[Rel],λw' hw'=>?_⟩;have h8:w'.heap[r]? =some (.map (List.toArray es) clock):=(hw'.2 r hb).trans h3;cases hc:l.contains s with
 |true=>
  obtain⟨j,rfl⟩:=h6 hc;simp[execOp,ho,h1,h2,Instr.lookup,run_underlying hu,aag h8,HR hk,aah hk h5,Result.andThen]
 |false=>
  have:=h7 hc;subst this;simp[execOp,ho,h1,h2,Instr.lookup,run_underlying hu,aag h8,HR hk,aah hk h5,hz,Result.andThen]
theorem Qb {w:World} {A:Nat->Prop} {s:List UInt8} {b:Nat}:∀{l:List (List UInt8)} {a:List MapEntry},gu w A (jC l) a->gu w A (jC (l++[s])) (a++[{key:= .string ⟨⟨s⟩⟩,val:= .bool true,born:=b}])
 |[],a,h=>by
  simp only[jC,lY,gu]at h;subst h;simp only[jC,pA,dp,lY,gu,Rel];exact⟨_,_,rfl,rfl,rfl,rfl⟩
 |x::l,a,h=>by
  simp only[jC,dp,gu]at h;obtain⟨e,r,rfl,h1,h2,h3⟩:=h;simp only[jC,ko,dp,gu];exact⟨e,_,rfl,h1,h2,Qb (l:=l) h3⟩
theorem abA {tg:Nat} {o:Oper} {t kt et:TypeId} {m x y:Operand} {r i:Nat} {l:List (List UInt8)} {s:List UInt8} (ho:o.op= .mapUpdate t m x y) (hu:E.P.underlying t=some (.map kt et)) (hk:E.P.underlying kt=some .string)
  (hm:ev (look O) m=some (.om tg r)) (hi:nth L i=some (.map r (jC l))) (hx:ev (look O) x=some (.v (.string ⟨⟨s⟩⟩))) (hy:ev (look O) y=some (.v (.bool true))) (hc:l.contains s=false):Cv E.toCx N o O L (L.set i (.map r (jC (l++[s])))):=λF a w hs=>by
 have h1:=bH hs.sg hm;have h2:=bH hs.sg hx;have h3':=bH hs.sg hy;simp only[Rel]at h1 h2 h3';obtain⟨ll,rr,rfl,hset⟩:=mJ hi;rw[hset];obtain⟨es,clock,h3,h4,hnd,hlt⟩:=hs.hp.eG (.map r (jC l)) (by simp);obtain⟨q,h5,_,h7⟩:=H3 (key:=s) 0 h4;have:=h7 hc;subst this;have hrun:∃w',(Instr.mapUpdate t (.map (some r)) (.string ⟨⟨s⟩⟩) (.bool true)).run E.P w= .ok () w'/\w'.heap[r]? =some (.map (List.toArray (es++[{key:= .string ⟨⟨s⟩⟩,val:= .bool true,born:=clock}])) (clock+1))/\w'.os=w.os/\w'.tape=w.tape/\(w'.output=w.output/\w'.drawn=w.drawn)/\w'.heap.size=w.heap.size/\∀b,b≠r->w'.heap[b]? =w.heap[b]? :=by
  obtain⟨w',hw'⟩:∃w',(Instr.mapUpdate t (.map (some r)) (.string ⟨⟨s⟩⟩) (.bool true)).run E.P w= .ok () w'/\w'={w with heap:=w.heap.setIfInBounds r (.map (es.toArray.push {key:= .string ⟨⟨s⟩⟩,val:= .bool true,born:=clock}) (clock+1))}:=by
   refine⟨_,?_,rfl⟩;simp[Instr.mapUpdate,run_underlying hu,aag h3,HR hk,aah hk (show Instr.findNow .string (.string ⟨⟨s⟩⟩) (List.toArray es).toList 0=some none from h5),Go.MapKept.run_setObj_map _ h3,Result.andThen]
  obtain⟨hw',rfl⟩:=hw';have hb:r<w.heap.size:=(gQ.1 h3).1;refine⟨_,hw',?_,rfl,rfl,⟨rfl,rfl⟩,by simp,λb hb=>?_⟩
  ·simp[aai,hb]
  ·simp[aai,jm hb]
 obtain⟨w',g1,g2,g3,g4,g5,g6,g7⟩:=hrun;have hoth:∀b,b∉aq.ids (.map r (jC l))->w'.heap[b]? =w.heap[b]? :=λb hb=>g7 b (λe=>hb (by simp[aq.ids,e]));have hext:Ext (ll++aq.map r (jC l)::rr) w (ll++aq.map r (jC (l++[s]))::rr) w':=by
  refine⟨g3,g4,g5.1,by omega,λb _ hn=>hoth b λhb=>hn (by simp[cB,cJ,hb]),λb hb=> .inl ?_,.of (HB g5.2.symm)⟩;simpa[cB,cJ,aq.ids]using hb
 refine⟨w',?_,?_,hext⟩
 ·simp[execOp,ho,h1,h2,h3',g1]
 ·refine hs.hp.lU (by omega) (λb _ hn=>hoth b hn) (λb hb=> .inl hb) (by simp[aq.ids]) ?_;refine⟨_,_,g2,(Qb h4).keep hext.keeps,?_,?_⟩
  ·simp only[qY,dp,lY];refine ly.2 ⟨hnd,by simp,λx hx y hy e=>?_⟩;simp at hy;subst hy;subst e;obtain⟨z,hz,e⟩:=dP.1 hx;have:=hlt z hz;omega
  ·intro x hx;rcases b7.1 hx with hx|hx
   ·have:=hlt x hx;omega
   ·simp at hx;subst hx;simp
end
section
variable {E:Env} {N K:Nat} {Q:DQ} {O:TS} {L:Hp} {all rest:List Oper} {k:List It} {o:Oper}
theorem ao.makeMap {d n:Nat} {t:TypeId} {ty:TypeId} {pos:String} {after:Array Edge} (hn:L.n=n) (hd:Nat.blt d N=true) (h:ao E N K (.ops all rest::k) Q (Tr.put 24 O d (some (.om n))) ⟨Tr.put 24 L.e n (some (.set [])),n+1⟩):
  ao E N K (.ops all (⟨some d,.makeMap t none,ty,pos,after,none⟩::rest)::k) Q O L:=by
 subst hn;unfold ao at h⊢;simp only[dq]at h⊢;intro Z σB LB hs hh;refine cj.qS rfl hd (aa6 rfl) ?_;rintro x L' ⟨b,rfl,rfl⟩;have hdom:=hh.iX L.n (bX _);have hl:Z.le (Z.gL L.n b):=aN.EW hdom.1;have hbn:(Z.gL L.n b).b L.n=some b:=by simp[aN.gL]
 refine DO.up hl (h _ _ _ ((hs.mono hl).put (some d) (by simp only[aK];exact⟨b,_,hbn,rfl⟩)) ?_);exact hh.push hl (λ_ _=>rfl) (λi hi=>by simp[aN.gL,hi]) ⟨b,hbn,rfl⟩
theorem bl.acd {t kt et:TypeId} {m x:Operand} {i:Nat} {l:List (List UInt8)} {s:List UInt8} (ho:o.op= .lookup t m x false) (hu:E.P.underlying t=some (.map kt et)) (hk:E.P.underlying kt=some .string) (hz:∀w,(zeroValue et).run E.P w= .ok (.bool false) w)
  (hm:aY O m=some (.om i)) (hi:L.e.get i=some (.set l)) (hx:aY O x=some (.d (.v (.string ⟨⟨s⟩⟩)))):bl E N o O L (.d (.v (.bool (l.contains s)))):=λZ s' LB hs hh=>by
 obtain⟨y1,h2,h3⟩:=cu hs hm;simp only[aK]at h3;obtain⟨b,t',h3,rfl⟩:=h3;obtain⟨y2,g2,g3⟩:=cu hs hx;simp only[aK]at g3;subst g3;obtain⟨q,h6,h7⟩:=hh.en i _ hi;obtain⟨b',h8,rfl⟩:=h7;rw[h3]at h8;cases h8;exact⟨_,rfl,ck.oC (aaG ho hu hk hz (by rw[fV (by simp[ho,Op.operands])];exact h2) h6 (by rw[fV (by simp[ho,Op.operands])];exact g2))⟩
theorem ao.afX {t kt et:TypeId} {m x y:Operand} {ty:TypeId} {pos:String} {after:Array Edge} {i:Nat} {l:List (List UInt8)} {s:List UInt8} (hu:E.P.underlying t=some (.map kt et)) (hk:E.P.underlying kt=some .string)
  (hm:aY O m=some (.om i)) (hi:L.e.get i=some (.set l)) (hx:aY O x=some (.d (.v (.string ⟨⟨s⟩⟩)))) (hy:aY O y=some (.d (.v (.bool true)))) (hc:l.contains s=false) (h:ao E N K (.ops all rest::k) Q O (L.set i (.set (l++[s])))):
  ao E N K (.ops all (⟨none,.mapUpdate t m x y,ty,pos,after,none⟩::rest)::k) Q O L:=by
 unfold ao at h⊢;simp only[dq]at h⊢;intro Z σB LB hs hh;obtain⟨y1,h2,h3⟩:=cu hs hm;simp only[aK]at h3;obtain⟨b,t',h3,rfl⟩:=h3;obtain⟨y2,g2,g3⟩:=cu hs hx;simp only[aK]at g3;subst g3;obtain⟨y3,g4,g5⟩:=cu hs hy;simp only[aK]at g5;subst g5;obtain⟨q,h6,h7⟩:=hh.en i _ hi;obtain⟨b',h8,rfl⟩:=h7;rw[h3]at h8;cases h8;refine cj.Ni rfl rfl (abA rfl hu hk h2 h6 g2 g4 hc) ?_;exact h _ _ _ hs (hh.set (.refl Z) (λ_ _=>rfl) (λ_ _=>rfl) (hh.lt hi) ⟨b,h3,rfl⟩)
end
end Go.Bw
end

section
noncomputable section
namespace Go.Bw
open Go Go.Proofs
section
variable {E:Env} {g:FuncId} {f:List (List UInt8)->List (List UInt8)}
def IM (P:Program) (g:FuncId) (f:List (List UInt8)->List (List UInt8)):Prop:=
 (∀(fR off cap:Nat) (ss:List (List UInt8)) (w:World),Go.Sort.Holds encStr w fR off ss.toArray->fR<w.heap.size->ss.length<4611686018427387904->
  Calls P g #[.slice (some ⟨fR,off,none⟩) ss.length cap] w λe w'=>e= .returned (.tuple #[])/\∃n os,w'=Go.Sort.grow (Go.Sort.putRow encStr (Go.Sort.ahead w n) fR off (f ss).toArray) os)/\
 (∀(p:Option Addr) (cap:Nat) (w:World),Calls P g #[.slice p 0 cap] w λe w'=>e= .returned (.tuple #[])/\w'=w)
theorem H0 {w:World} {A:Nat->Prop}:∀{l:List (List UInt8)} {vs:List Value},bq w A 1 (aG l) vs->vs=l.map encStr
 |[],vs,h=>by simpa[aG,bq]using h
 |s::l,vs,h=>by
  simp only[aG,dp,bq,aL,Rel]at h;obtain⟨v1,v2,rfl,_,⟨v,r,rfl,rfl,rfl⟩,h2⟩:=h;have:=H0 (l:=l) h2;subst this;rfl
theorem H2 {w:World} {A:Nat->Prop}:∀{l:List (List UInt8)},bq w A 1 (aG l) (l.map encStr)
 |[]=>by simp[aG,bq]
 |s::l=>by
  simp only[aG,dp,bq,aL,Rel];exact⟨[encStr s],l.map encStr,rfl,rfl,⟨_,[],rfl,rfl,rfl⟩,H2 (l:=l)⟩
theorem aby (hc:pN E.P g) (hs:IM E.P g f) (hf:∀ss,(f ss).length=ss.length) {e tag n c:Nat} {a0:Option Addr} {l:List (List UInt8)} (hn:n=l.length) (hl:l.length<4611686018427387904):
  lN E.toCx g [.os tag a0 n c] [.row (.slice a0 n c) e 1 (aG l)] λr L'=>r= .ret (.bY [])/\L'=[.row (.slice a0 n c) e 1 (aG (f l))]:=by
 refine⟨hc,λF w vs hk hr=>?_⟩;simp only[aL,Rel]at hr;obtain⟨v,_,rfl,hv,rfl⟩:=hr;subst hn;obtain⟨us,h3,h4⟩:=hk.eG (.row (.slice a0 l.length c) e 1 (aG l)) (by simp);have hus:=H0 h3;subst hus;have hret:∀(w':World) (A:Nat->Prop),AR.rel w' A (.ret (.bY [])) (.returned (.tuple #[])):=λw' A=>⟨_,rfl,by simp only[Rel,aL];exact⟨[],rfl,rfl⟩⟩;rw[<-hv]at hk h3 h4⊢;obtain⟨h40,h4⟩:=h4;rcases h4 with⟨hvn,h0⟩|⟨b,cap,cur,hvg,hbase,hg,hnc,hcm,hcs,htake⟩
 ·have hl0:l=[]:=jb (by rw[bN]at h0;exact h0);have hf0:f []=[]:=jb (hf []);subst hl0;rw[hvn];refine(hs.2 none 0 w).mono λe' w' ⟨he,hw⟩=>?_;subst he hw;refine⟨_,_,⟨rfl,rfl⟩,hret _ _,?_,?_⟩
  ·rw[hf0,<-hvn];exact hk
  ·rw[hf0];exact Ext.refl _ _
 ·rw[bN]at*
  have hb:b<w.heap.size:=(gQ.1 hg).1;have hcur:cur.toList.take l.length=l.map encStr:=by simpa using htake
  have hsz:l.length<=cur.size:=by rw[hcs];omega
  have hcell:∀j,j<l.length->cur[j]? =some (encStr l[j]!):=λj hj=>by
   have:=congrArg (λt=>t[j]?) hcur;simp only[fT,hj,if_true,iL]at this;rw[<-Dz,this];simp[hj]
  have hH:Go.Sort.Holds encStr w b 0 l.toArray:=λj hj=>by
   have hj':j<l.length:=by simpa using hj
   constructor
   ·simp[World.cell?,hg,hcell j hj']
   ·simp[World.frozen?,hg]
  rw[hvg];refine(hs.1 b 0 cap l w hH hb hl).mono λe' w' ⟨he,k,os,hw⟩=>?_;subst he;have hheap:w'.heap=w.heap.modify b (Go.Sort.onCells (Go.Sort.putCells encStr 0 (f l).toArray))++os:=by rw[hw];rfl
  have hwb:w'.heap[b]? =some (.cells (Go.Sort.putCells encStr 0 (f l).toArray cur) e (0,0)):=by
   rw[hheap,HC,bg (by simpa using hb),Dy,bg rfl,hg];rfl
  have hwo:∀j,j<w.heap.size->j≠b->w'.heap[j]? =w.heap[j]? :=λj hj hne=>by
   rw[hheap,HC,bg (by simpa using hj),Dy,aM (jm hne)]
  have hws:w.heap.size<=w'.heap.size:=by rw[hheap];simp
  have hids:aq.ids (.row v e 1 (aG l))=[b]:=by simp[aq.ids,hvg,Value.ownBlock]
  have hids':aq.ids (.row v e 1 (aG (f l)))=[b]:=by simp[aq.ids,hvg,Value.ownBlock]
  refine⟨_,_,⟨rfl,rfl⟩,hret _ _,?_,?_⟩
  ·rw[<-hvg];refine bM.lU (l:=[]) (r:=[]) hk hws (λj hj hn=>hwo j hj λe=>hn (by rw[hids,e];simp)) (λj hj=> .inl (by rw[hids];rw[hids']at hj;exact hj)) (by rw[hids'];simp) ?_;refine⟨(f l).map encStr,H2,by simp[bN],.inr ⟨b,cap,_,by rw[hvg,bN,hf],hbase,hwb,by rw[bN,hf];exact hnc,hcm,?_,?_⟩⟩
   ·simpa[Go.Sort.putCells]using hcs
   ·apply nC;intro i;rw[fT,bN,xM,iL,hf];by_cases hi:i<l.length
    ·rw[bg hi];have hi2:i<(f l).length:=by rw[hf];exact hi
     have hi3:i<cur.size:=by omega
     simp[Go.Sort.putCells,hi2,hi3]
    ·rw[aM hi,kK (by rw[hf];omega)];rfl
  ·rw[<-hvg];refine⟨by rw[hw];rfl,by rw[hw];rfl,by rw[hw];rfl,hws,λj hj hn=>hwo j hj λe=>hn (by simp only[cJ,b7,hids];left;simp[e]),λj hj=> .inl ?_,.of (by rw[hw];exact OE _ _)⟩;simpa[cJ,hids,hids']using hj
theorem kv.sort (hc:pN E.P g) (hs:IM E.P g f) (hf:∀ss,(f ss).length=ss.length) {e n:Nat} {l:List (List UInt8)} (hn:n=l.length) (hl:l.length<4611686018427387904):
  kv E g [.os 0 n] (.row e 1 (aG l)) (.bY []) (.row e 1 (aG (f l))):=λZ ys LB hi hh=>by
 simp only[aS]at hi;obtain⟨y,_,rfl,hy,rfl⟩:=hi;simp only[aK]at hy;obtain⟨a,c,t',h3,rfl⟩:=hy;have hget:(jH [(lR.row e 1 (aG l)).c]).e.get 0=some (.row e 1 (aG l)):=rfl;obtain⟨q,h6,h7⟩:=hh.en 0 _ hget;obtain⟨⟨a',c',h8,rfl⟩,h9⟩:=h7;rw[bN]at h8 h9 h6;subst hn;rw[h3]at h8;cases h8;have hlen:LB.length=1:=hh.len;obtain⟨z,rfl⟩:∃z,LB=[z]:=by
  match LB,hlen with
  |[z],_=>exact⟨z,rfl⟩
 simp only[cM,jP,aE]at h6;subst h6;refine(aby hc hs hf rfl hl).mono ?_;rintro r L' ⟨rfl,rfl⟩;refine⟨Z,.ret (.d (.bY [])),(jH [(lR.row e 1 (aG l)).c]).set 0 (.row e 1 (aG (f l))),?_,⟨_,rfl,rfl⟩,?_,?_⟩
 ·exactλ_ _=>⟨λ_ h=>h,λ_ _ h=>h⟩
 ·have:=hh.set (x:= .row e 1 (aG (f l))) (y:= .row (.slice a l.length c) e 1 (aG (f l))) (.refl Z) (λ_ _=>rfl) (λ_ _=>rfl) (i:=0) (by show 0<1;omega) ⟨⟨a,c,by rw[bN,hf];exact h3,by rw[bN,hf]⟩,λm hm=>h9 m (by rw[bN,hf]at hm;omega)⟩
  exact this
 ·exact⟨_,_,_,_,rfl,rfl,aW,rfl,.refl _,.refl _⟩
theorem UC {w:World} {A:Nat->Prop}:∀{xs vs:List Value},aL w A (xs.map .v) vs->vs=xs
 |[],vs,h=>by simpa[aL]using h
 |x::xs,vs,h=>by
  simp only[dp,aL,Rel]at h;obtain⟨v,r,rfl,rfl,h⟩:=h;rw[UC h]
theorem abz (hc:pN E.P g) {xs:List Value} {v:Value} (h:∀w,Calls E.P g xs.toArray w λe w'=>e= .returned v/\w'=w):Pure E.toCx g (xs.map .v) (.ret (.v v)):=by
 refine⟨hc,λF w vs hk hr=>?_⟩;rw[UC hr];refine(h w).mono ?_;rintro e w' ⟨rfl,rfl⟩;exact⟨_,_,⟨rfl,rfl⟩,⟨_,rfl,by simp only[Rel]⟩,hk,Ext.refl _ _⟩
