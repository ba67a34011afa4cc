/- More steps: a slot's length in other words; copy over a row of one's own; maps of one's own with keys that are strings. -/
import Derived.Test.YtmbalfjhlngncaaGreatKE3
import Derived.MapKept
import Derived.Sort.Grow
import Derived.Sort.EncStr
set_option linter.all false
section
noncomputable section
namespace Go.Bw
open Go
section
variable {N:Nat} {Z:Sg} {O:List aq} {E:Env}
theorem Pl {tg:Nat} {o:Oper} {s x:Operand} {t u:TypeId} (ho:o.op= .call {callee:= .builtin .copy,args:= #[s,x],argTypes:= #[t,u]}) {i:Nat} {a0:Option Addr} {n0 c0:Nat} {e k sz by':Nat} {z:List Value} {rows rows2:List (List AV)}
  (ht:aZ E.T t=some ⟨.slice e k,sz,by',z⟩) (hs':ev (look Z) s=some (.os tg a0 n0 c0)) (hi:nth O i=some (.row (.slice a0 n0 c0) e k rows)) (hn0:n0=rows.length)
  (hsrc:∀F a w,St E.G N w F a Z O->iT w (Al F O) k (a.eval x) rows2) (h1:fb rows2=true) (hl2:rows2.length=rows.length):
  mX E.toCx N o Z O (λr O'=>r= .v (.int .i64 (rows.length:Nat))/\O'=O.set i (.row (.slice a0 n0 c0) e k rows2)):=λF a w hs=>by
 obtain⟨v,hvd⟩:∃v,v=Value.slice a0 n0 c0:=⟨_,rfl⟩;rw[<-hvd]at hi⊢;have hv:=bz hs.sg hs';simp only[Rel]at hv;rw[<-hvd]at hv;obtain⟨hu,hke,hh⟩:=jm (E.tok _ _ ht) rfl;have hsz:∀w',(sizeOf e).run E.P w'= .ok k w':=λw'=>by rw[hke];exact kn hh w'
 obtain⟨l,r,rfl,hset⟩:=lG hi;simp only[hset];obtain⟨vs,h3,h4⟩:=hs.hp.dR (.row v e k rows) (by simp);obtain⟨ad,m,c,vs2,h5,h6,h7,h8,h9⟩:=hsrc F a w hs;have hmn:m=rows.length:=by omega
 have hones:=FN h1 h7;have hvl:vs.length=rows.length*k:=h3.length;have hv2l:vs2.length=rows.length*k:=by rw[h7.length,hl2]
 subst hn0;have hids:∀b∈aq.ids (.row v e k rows2),b∈aq.ids (.row v e k rows)\/w.heap.size<=b:=λb hb=> .inl hb;have hnd:(aq.ids (.row v e k rows2)).Nodup:=by cases hob:v.ownBlock<;>simp[aq.ids,hob]
 --the run
 have hrun:∃w',(Builtin.copy_ #[t,u] o.type #[v,a.eval x]).run E.P w= .ok (.int .i64 (rows.length:Nat)) w'/\w'.ownsRow 0 e k v rows.length vs2/\w'.os=w.os/\w'.tape=w.tape/\(w'.output=w.output/\w'.drawn=w.drawn)/\w'.heap.size=w.heap.size/\∀b,b∉aq.ids (.row v e k rows)->w'.heap[b]? =w.heap[b]? :=by
  rw[h5];obtain⟨h40,h4⟩:=h4;rcases h4 with⟨hvn,h0⟩|⟨g,cap,cur,hvg,_,hg,hnc,hcm,hcs,htake⟩
  ·have hm0:m=0:=by omega
   have hr0:rows.length=0:=h0;have hv2:vs2=[]:=gT (by rw[hv2l,hr0];simp);subst hv2;refine⟨w,?_,⟨by rw[hr0];simp,.inl ⟨hvn,h0⟩⟩,rfl,rfl,⟨rfl,rfl⟩,rfl,λ_ _=>rfl⟩;have hl0:∀ad,(loadCells ad 0).run E.P w= .ok #[] w:=λad=>by have:=run_loadCells_list (P:=E.P) w ad [] (by simp);simpa using this
   rw[hvn];cases ad<;>simp[Builtin.copy_,run_underlying hu,hsz,Builtin.lenOf,Builtin.firstCells,hm0,hl0,hr0,goInt]
  ·have hcurlen:rows.length*k<=cur.toList.length:=by simp only[vV];rw[hcs];exact fE k hnc
   have hg':w.heap[g]? =some (.cells cur.toList.toArray e (0,0)):=by simpa using hg
   obtain⟨w',h6',h7',h8',h9',h10,h11,h12⟩:=wg (P:=E.P) g e vs2 0 0 cur.toList w hg' (by omega) hones;have hown:aq.ids (.row v e k rows)=[g]:=by simp[aq.ids,hvg,Value.ownBlock]
   refine⟨w',?_,⟨by rw[hv2l],.inr ⟨g,cap,_,hvg,mg _,h7',hnc,hcm,?_,?_⟩⟩,h8',h9',h10,h11,λb hb=>h12 b (λe=>hb (by rw[hown,e];simp))⟩
   ·have hfc:(Builtin.firstCells k rows.length (.slice ad m c)).run E.P w= .ok vs2.toArray w:=by
     cases ad with
     |some a1=>exact run_firstCells_some (P:=E.P) w k rows.length a1 m c vs2 hv2l (λj u hj=>h9 a1 rfl j u hj)
     |none=>
      have:rows.length=0:=by rw[<-hmn];exact h8 rfl
      have hv2:vs2=[]:=gT (by rw[hv2l,this];simp);rw[hv2];exact run_firstCells_none (P:=E.P) w k rows.length m c
    rw[hvg];have hmin:Nat.min m rows.length=rows.length:=by rw[hmn];exact Nat.min_self _
    simp[Builtin.copy_,run_underlying hu,hsz,Builtin.lenOf,hmin,hfc,h6',goInt]
   ·simp only[Fw];rw[pV (by simpa[hv2l]using hcurlen)];simpa using hcs
   ·apply nc;intro i;rw[eX,p4 (by simpa[hv2l]using hcurlen)];by_cases hi':i<rows.length*k
    ·rw[bq hi',bq (by omega)];simp
    ·rw[aN hi',kM (by omega)]
 obtain⟨w',g1,g2,g3,g4,g5,g6,g7⟩:=hrun;have hext:Ext (l++aq.row v e k rows::r) w (l++aq.row v e k rows2::r) w':=by
  refine⟨g3,g4,g5.1,by omega,λb _ hn=>g7 b λhb=>hn (by simp[cd,cv,hb]),λb hb=> .inl ?_,Fx g5.2.symm⟩;simpa[cd,cv,aq.ids]using hb
 refine⟨.int .i64 (rows.length:Nat),w',_,_,⟨rfl,rfl⟩,?_,by simp only[Rel],?_,hext⟩
 ·simp only[execOp,ho,resolve,invoke,builtin,Sem.run_bind,Sem.run_pure,Result.andThen_ok,MK,dg,kK,hv,g1]
 ·refine hs.hp.kE (by omega) (λb _ hn=>g7 b hn) hids hnd ?_;exact⟨vs2,h7.keep hext.keeps,by rw[hl2];exact g2⟩
end
section
variable {E:Env} {N K:Nat} {Q:DQ} {Z:TS} {O:Hp} {all rest:List Oper} {k:List It} {o:Oper}
theorem SS.mY {W:aJ} {s:Sl} (t:Nat) {i n m:Nat} (ht:Z.get t=some (.os i n)) (h:n=m) (hs:SS W Z s):SS W (Tr.put 24 Z t (some (.os i m))) s:=by
 subst h;intro u x hx;rcases Tr.eB 24 Z t u _ x hx with⟨rfl,e⟩|⟨_,e⟩
 ·cases e;exact hs _ _ ht
 ·exact hs _ _ e
theorem ak.mY (t:Nat) {i n m:Nat} (ht:Z.get t=some (.os i n)) (h:n=m) (hk:ak E N K (.ops all rest::k) Q (Tr.put 24 Z t (some (.os i m))) O):ak E N K (.ops all rest::k) Q Z O:=by
 unfold ak at hk⊢;simp only[dq]at hk⊢;exact DO.aeK (λW s hs=>hs.mY t ht h) hk
theorem bK.copy {i n:Nat} {s' p:Operand} {t u:TypeId} {e kk sz by':Nat} {z:List Value} {rows rows2:List (List AV)} (ho:o.op= .call {callee:= .builtin .copy,args:= #[s',p],argTypes:= #[t,u]})
  (hs':aW Z s'=some (.os i n)) (hi:O.e.get i=some (.row e kk rows)) (hn:n=rows.length) (hx:jR E Z O kk p rows2) (ht:aZ E.T t=some ⟨.slice e kk,sz,by',z⟩) (h1:fb rows2=true) (hl:rows2.length=rows.length):
  bK E N o Z O (λr O'=>r= .ret (.d (.v (.int .i64 (rows.length:Nat))))/\O'=O.set i (.row e kk rows2)):=λW s ηB hs hh=>by
 obtain⟨y,h2,h3⟩:=bY hs hs';simp only[aG]at h3;obtain⟨a,c,t',h3,rfl⟩:=h3;obtain⟨q,h6,h7⟩:=hh.en i _ hi;obtain⟨⟨a',c',h8,rfl⟩,h9⟩:=h7;subst hn;rw[h3]at h8;cases h8;refine(dc.EX (Pl ho ht (nw (W:=W) (by simp[ho,Op.operands,Call.operands]) h2) h6 rfl (hx.Xc hs hh (by simp[ho,Op.operands,Call.operands])) h1 hl)).mono ?_;rintro r O' ⟨y,rfl,rfl,rfl⟩;exact⟨_,.ret (.d (.v (.int .i64 (rows.length:Nat)))),O.set i (.row e kk rows2),.refl W,⟨_,rfl,rfl⟩,hh.set (.refl W) (λ_ _=>rfl) (λ_ _=>rfl) (hh.lt hi) ⟨⟨a,c,by rw[hl];exact h3,by rw[hl]⟩,λm hm=>h9 m (by omega)⟩,rfl,rfl⟩
end
section
variable {E:Env} {N K:Nat} {Q:DQ} {Z:TS} {O:Hp} {all rest:List Oper} {k:List It} {o:Oper}
theorem ak.copy {i n:Nat} {dst:Option Nat} {s' p:Operand} {t u:TypeId} {ty:TypeId} {pos:String} {after:Array Edge} {e kk sz by':Nat} {z:List Value} {rows rows2:List (List AV)}
  (hs':aW Z s'=some (.os i n)) (hi:O.e.get i=some (.row e kk rows)) (hn:n=rows.length) (hx:jR E Z O kk p rows2) (ht:aZ E.T t=some ⟨.slice e kk,sz,by',z⟩) (h1:fb rows2=true) (hl:rows2.length=rows.length) (hd:cw N dst=true)
  (kk1:ak E N K (.ops all rest::k) Q (bW Z dst (.d (.v (.int .i64 (rows.length:Nat))))) (O.set i (.row e kk rows2))):
  ak E N K (.ops all (⟨dst,.call {callee:= .builtin .copy,args:= #[s',p],argTypes:= #[t,u]},ty,pos,after,none⟩::rest)::k) Q Z O:=by
 unfold ak at kk1⊢;simp only[dq]at kk1⊢;intro W ZB ηB hs hh;obtain⟨y,h2,h3⟩:=bY hs hs';simp only[aG]at h3;obtain⟨a,c,t',h3,rfl⟩:=h3;obtain⟨q,h6,h7⟩:=hh.en i _ hi;obtain⟨⟨a',c',h8,rfl⟩,h9⟩:=h7;subst hn;rw[h3]at h8;cases h8;refine bf.l9 rfl hd (Pl rfl ht h2 h6 rfl (hx.ok hs hh) h1 hl) ?_;rintro r O' ⟨rfl,rfl⟩;exact kk1 _ _ _ (hs.put dst (x:= .d _) rfl) (hh.set (.refl W) (λ_ _=>rfl) (λ_ _=>rfl) (hh.lt hi) ⟨⟨a,c,by rw[hl];exact h3,by rw[hl]⟩,λm hm=>h9 m (by omega)⟩)
end
theorem ac4 {key s:List UInt8}:Instr.sameNow .string (.string ⟨⟨key⟩⟩) (.string ⟨⟨s⟩⟩)=some (key==s):=by
 obtain⟨r,h1,h2⟩:=Go.MapKept.sameNow_of_keys (d:= .string) (a:= .string ⟨⟨key⟩⟩) (b:= .string ⟨⟨s⟩⟩) (by simp[Go.MapKept.IsKey]) (by simp[Go.MapKept.IsKey]);rw[h1];congr 1;by_cases h:key=s
 ·subst h;simpa using h2.2 rfl
 ·have:¬r=true:=λe=>h (by have:=h2.1 e;simpa using this);simp[h,this]
theorem FZ {w:World} {A:Nat->Prop} {key:List UInt8}:∀{l:List (List UInt8)} {a:List MapEntry} (i:Nat),gO w A (iD l) a->
  ∃q,Instr.findNow .string (.string ⟨⟨key⟩⟩) a i=some q/\(l.contains key=true->∃j,q=some (j,.bool true))/\(l.contains key=false->q=none)
 |[],a,i,h=>by
  simp only[iD,kK,gO]at h;subst h;exact⟨none,rfl,λe=>by simp at e,λ_=>rfl⟩
 |s::l,a,i,h=>by
  simp only[iD,dg,gO]at h;obtain⟨e,r,rfl,h1,h2,h3⟩:=h;simp only[Rel]at h2;obtain⟨q,h4,h5,h6⟩:=FZ (key:=key) (l:=l) (i+1) h3;have hs:Instr.sameNow .string (.string ⟨⟨key⟩⟩) e.key=some (key==s):=by rw[h1];exact ac4
  cases hk:key==s with
  |true=>
   refine⟨some (i,.bool true),?_,λ_=>⟨i,rfl⟩,λe=>?_⟩
   ·simp only[Instr.findNow,hs,hk,h2]
   ·rw[Yu,hk]at e;cases e
  |false=>
   refine⟨q,?_,λe=>h5 ?_,λe=>h6 ?_⟩
   ·simp only[Instr.findNow,hs,hk,h4]
   ·rwa[Yu,hk,Bool.false_or]at e
   ·rwa[Yu,hk,Bool.false_or]at e
theorem FO {P:Program} {kt:TypeId} (hk:P.underlying kt=some .string) (b:Bool) (s:ByteArray) (w:World):(Instr.checkKey b 10000 kt (.string s)).run P w= .ok () w:=Go.MapKept.run_checkKey (d:= .string) hk (by simp[Go.MapKept.IsKey]) b 9999
section
variable {N:Nat} {Z:Sg} {O:List aq} {E:Env}
theorem Zh {o:Oper} {t:TypeId} (ho:o.op= .makeMap t none):mX E.toCx N o Z O (λx O'=>∃r,x= .om O.length r/\O'=O++[.map r []]):=λF a w hs=>by
 have hext:=lF w (.map #[] 0) O (.map w.heap.size []) (by simp[aq.ids]);refine⟨.map (some w.heap.size),w.alloc (.map #[] 0),_,_,⟨w.heap.size,rfl,rfl⟩,by simp[execOp,ho,Instr.makeMap,Result.andThen],by simp only[Rel],?_,hext⟩;refine hs.hp.push (by simp) (λb hb=>jE w _ b hb) (by simp[aq.ids]) (by simp[aq.ids]) ?_;exact⟨[],0,km w _,by simp[gO],by simp,by simp⟩
theorem YS {tg:Nat} {o:Oper} {t kt et:TypeId} {m x:Operand} {r i:Nat} {l:List (List UInt8)} {s:List UInt8} (ho:o.op= .lookup t m x false) (hu:E.P.underlying t=some (.map kt et)) (hk:E.P.underlying kt=some .string) (hz:∀w,(zeroValue et).run E.P w= .ok (.bool false) w)
  (hm:ev (look Z) m=some (.om tg r)) (hi:nth O i=some (.map r (iD l))) (hx:ev (look Z) x=some (.v (.string ⟨⟨s⟩⟩))):ma E.toCx N o Z O (.v (.bool (l.contains s))):=λF a w hs=>by
 have h1:=bz hs.sg hm;have h2:=bz hs.sg hx;simp only[Rel]at h1 h2;obtain⟨es,clock,h3,h4,_⟩:=iP hs.hp hi;have hb:r<w.heap.size:=(fS.1 h3).1;obtain⟨q,h5,h6,h7⟩:=FZ (key:=s) 0 h4;refine⟨.bool (l.contains s),by simp only[Rel],λw' hw'=>?_⟩;have h8:w'.heap[r]? =some (.map (List.toArray es) clock):=(hw'.2 r hb).trans h3;cases hc:l.contains s with
 |true=>
  obtain⟨j,rfl⟩:=h6 hc;simp[execOp,ho,h1,h2,Instr.lookup,run_underlying hu,Yv h8,FO hk,Yw hk h5,Result.andThen]
 |false=>
  have:=h7 hc;subst this;simp[execOp,ho,h1,h2,Instr.lookup,run_underlying hu,Yv h8,FO hk,Yw hk h5,hz,Result.andThen]
theorem Ov {w:World} {A:Nat->Prop} {s:List UInt8} {b:Nat}:∀{l:List (List UInt8)} {a:List MapEntry},gO w A (iD l) a->gO w A (iD (l++[s])) (a++[{key:= .string ⟨⟨s⟩⟩,val:= .bool true,born:=b}])
 |[],a,h=>by
  simp only[iD,kK,gO]at h;subst h;simp only[iD,pO,dg,kK,gO,Rel];exact⟨_,_,rfl,rfl,rfl,rfl⟩
 |x::l,a,h=>by
  simp only[iD,dg,gO]at h;obtain⟨e,r,rfl,h1,h2,h3⟩:=h;simp only[iD,ke,dg,gO];exact⟨e,_,rfl,h1,h2,Ov (l:=l) h3⟩
theorem ZM {tg:Nat} {o:Oper} {t kt et:TypeId} {m x y:Operand} {r i:Nat} {l:List (List UInt8)} {s:List UInt8} (ho:o.op= .mapUpdate t m x y) (hu:E.P.underlying t=some (.map kt et)) (hk:E.P.underlying kt=some .string)
  (hm:ev (look Z) m=some (.om tg r)) (hi:nth O i=some (.map r (iD l))) (hx:ev (look Z) x=some (.v (.string ⟨⟨s⟩⟩))) (hy:ev (look Z) y=some (.v (.bool true))) (hc:l.contains s=false):A8 E.toCx N o Z O (O.set i (.map r (iD (l++[s])))):=λF a w hs=>by
 have h1:=bz hs.sg hm;have h2:=bz hs.sg hx;have h3':=bz hs.sg hy;simp only[Rel]at h1 h2 h3';obtain⟨ll,rr,rfl,hset⟩:=lG hi;rw[hset];obtain⟨es,clock,h3,h4,hnd,hlt⟩:=hs.hp.dR (.map r (iD l)) (by simp);obtain⟨q,h5,_,h7⟩:=FZ (key:=s) 0 h4;have:=h7 hc;subst this;have hrun:∃w',(Instr.mapUpdate t (.map (some r)) (.string ⟨⟨s⟩⟩) (.bool true)).run E.P w= .ok () w'/\w'.heap[r]? =some (.map (List.toArray (es++[{key:= .string ⟨⟨s⟩⟩,val:= .bool true,born:=clock}])) (clock+1))/\w'.os=w.os/\w'.tape=w.tape/\(w'.output=w.output/\w'.drawn=w.drawn)/\w'.heap.size=w.heap.size/\∀b,b≠r->w'.heap[b]? =w.heap[b]? :=by
  obtain⟨w',hw'⟩:∃w',(Instr.mapUpdate t (.map (some r)) (.string ⟨⟨s⟩⟩) (.bool true)).run E.P w= .ok () w'/\w'={w with heap:=w.heap.setIfInBounds r (.map (es.toArray.push {key:= .string ⟨⟨s⟩⟩,val:= .bool true,born:=clock}) (clock+1))}:=by
   refine⟨_,?_,rfl⟩;simp[Instr.mapUpdate,run_underlying hu,Yv h3,FO hk,Yw hk (show Instr.findNow .string (.string ⟨⟨s⟩⟩) (List.toArray es).toList 0=some none from h5),Go.MapKept.run_setObj_map _ h3,Result.andThen]
  obtain⟨hw',rfl⟩:=hw';have hb:r<w.heap.size:=(fS.1 h3).1;refine⟨_,hw',?_,rfl,rfl,⟨rfl,rfl⟩,by simp,λb hb=>?_⟩
  ·simp[Yx,hb]
  ·simp[Yx,ij hb]
 obtain⟨w',g1,g2,g3,g4,g5,g6,g7⟩:=hrun;have hoth:∀b,b∉aq.ids (.map r (iD l))->w'.heap[b]? =w.heap[b]? :=λb hb=>g7 b (λe=>hb (by simp[aq.ids,e]));have hext:Ext (ll++aq.map r (iD l)::rr) w (ll++aq.map r (iD (l++[s]))::rr) w':=by
  refine⟨g3,g4,g5.1,by omega,λb _ hn=>hoth b λhb=>hn (by simp[cd,cv,hb]),λb hb=> .inl ?_,Fx g5.2.symm⟩;simpa[cd,cv,aq.ids]using hb
 refine⟨w',?_,?_,hext⟩
 ·simp[execOp,ho,h1,h2,h3',g1]
 ·refine hs.hp.kE (by omega) (λb _ hn=>hoth b hn) (λb hb=> .inl hb) (by simp[aq.ids]) ?_;refine⟨_,_,g2,(Ov h4).keep hext.keeps,?_,?_⟩
  ·simp only[pP,dg,kK];refine kg.2 ⟨hnd,by simp,λx hx y hy e=>?_⟩;simp at hy;subst hy;subst e;obtain⟨z,hz,e⟩:=dE.1 hx;have:=hlt z hz;omega
  ·intro x hx;rcases bO.1 hx with hx|hx
   ·have:=hlt x hx;omega
   ·simp at hx;subst hx;simp
end
section
variable {E:Env} {N K:Nat} {Q:DQ} {Z:TS} {O:Hp} {all rest:List Oper} {k:List It} {o:Oper}
theorem ak.makeMap {d n:Nat} {t:TypeId} {ty:TypeId} {pos:String} {after:Array Edge} (hn:O.n=n) (hd:Nat.blt d N=true) (h:ak E N K (.ops all rest::k) Q (Tr.put 24 Z d (some (.om n))) ⟨Tr.put 24 O.e n (some (.set [])),n+1⟩):
  ak E N K (.ops all (⟨some d,.makeMap t none,ty,pos,after,none⟩::rest)::k) Q Z O:=by
 subst hn;unfold ak at h⊢;simp only[dq]at h⊢;intro W ZB ηB hs hh;refine bf.l9 rfl hd (Zh rfl) ?_;rintro x O' ⟨b,rfl,rfl⟩;have hdom:=hh.gQ O.n (bS _);have hl:W.le (W.fM O.n b):=aJ.C4 hdom.1;have hbn:(W.fM O.n b).b O.n=some b:=by simp[aJ.fM]
 refine DO.up hl (h _ _ _ ((hs.mono hl).put (some d) (by simp only[aG];exact⟨b,_,hbn,rfl⟩)) ?_);exact hh.push hl (λ_ _=>rfl) (λi hi=>by simp[aJ.fM,hi]) ⟨b,hbn,rfl⟩
theorem bd.aan {t kt et:TypeId} {m x:Operand} {i:Nat} {l:List (List UInt8)} {s:List UInt8} (ho:o.op= .lookup t m x false) (hu:E.P.underlying t=some (.map kt et)) (hk:E.P.underlying kt=some .string) (hz:∀w,(zeroValue et).run E.P w= .ok (.bool false) w)
  (hm:aW Z m=some (.om i)) (hi:O.e.get i=some (.set l)) (hx:aW Z x=some (.d (.v (.string ⟨⟨s⟩⟩)))):bd E N o Z O (.d (.v (.bool (l.contains s)))):=λW s' ηB hs hh=>by
 obtain⟨y1,h2,h3⟩:=bY hs hm;simp only[aG]at h3;obtain⟨b,t',h3,rfl⟩:=h3;obtain⟨y2,g2,g3⟩:=bY hs hx;simp only[aG]at g3;subst g3;obtain⟨q,h6,h7⟩:=hh.en i _ hi;obtain⟨b',h8,rfl⟩:=h7;rw[h3]at h8;cases h8;exact⟨_,rfl,bP.mZ (YS ho hu hk hz (by rw[fc (by simp[ho,Op.operands])];exact h2) h6 (by rw[fc (by simp[ho,Op.operands])];exact g2))⟩
theorem ak.aeh {t kt et:TypeId} {m x y:Operand} {ty:TypeId} {pos:String} {after:Array Edge} {i:Nat} {l:List (List UInt8)} {s:List UInt8} (hu:E.P.underlying t=some (.map kt et)) (hk:E.P.underlying kt=some .string)
  (hm:aW Z m=some (.om i)) (hi:O.e.get i=some (.set l)) (hx:aW Z x=some (.d (.v (.string ⟨⟨s⟩⟩)))) (hy:aW Z y=some (.d (.v (.bool true)))) (hc:l.contains s=false) (h:ak E N K (.ops all rest::k) Q Z (O.set i (.set (l++[s])))):
  ak E N K (.ops all (⟨none,.mapUpdate t m x y,ty,pos,after,none⟩::rest)::k) Q Z O:=by
 unfold ak at h⊢;simp only[dq]at h⊢;intro W ZB ηB hs hh;obtain⟨y1,h2,h3⟩:=bY hs hm;simp only[aG]at h3;obtain⟨b,t',h3,rfl⟩:=h3;obtain⟨y2,g2,g3⟩:=bY hs hx;simp only[aG]at g3;subst g3;obtain⟨y3,g4,g5⟩:=bY hs hy;simp only[aG]at g5;subst g5;obtain⟨q,h6,h7⟩:=hh.en i _ hi;obtain⟨b',h8,rfl⟩:=h7;rw[h3]at h8;cases h8;refine bf.EY rfl rfl (ZM rfl hu hk h2 h6 g2 g4 hc) ?_;exact h _ _ _ hs (hh.set (.refl W) (λ_ _=>rfl) (λ_ _=>rfl) (hh.lt hi) ⟨b,h3,rfl⟩)
end
end Go.Bw
end

section
noncomputable section
namespace Go.Bw
open Go Go.Proofs
section
variable {E:Env} {g:FuncId} {f:List (List UInt8)->List (List UInt8)}
def GN (P:Program) (g:FuncId) (f:List (List UInt8)->List (List UInt8)):Prop:=
 (∀(eV off cap:Nat) (ss:List (List UInt8)) (w:World),Go.Sort.Holds encStr w eV off ss.toArray->eV<w.heap.size->ss.length<4611686018427387904->
  Calls P g #[.slice (some ⟨eV,off,none⟩) ss.length cap] w λe w'=>e= .returned (.tuple #[])/\∃n os,w'=Go.Sort.grow (Go.Sort.putRow encStr (Go.Sort.ahead w n) eV off (f ss).toArray) os)/\
 (∀(p:Option Addr) (cap:Nat) (w:World),Calls P g #[.slice p 0 cap] w λe w'=>e= .returned (.tuple #[])/\w'=w)
theorem FX {w:World} {A:Nat->Prop}:∀{l:List (List UInt8)} {vs:List Value},bo w A 1 (aB l) vs->vs=l.map encStr
 |[],vs,h=>by simpa[aB,bo]using h
 |s::l,vs,h=>by
  simp only[aB,dg,bo,aH,Rel]at h;obtain⟨v1,v2,rfl,_,⟨v,r,rfl,rfl,rfl⟩,h2⟩:=h;have:=FX (l:=l) h2;subst this;rfl
theorem FY {w:World} {A:Nat->Prop}:∀{l:List (List UInt8)},bo w A 1 (aB l) (l.map encStr)
 |[]=>by simp[aB,bo]
 |s::l=>by
  simp only[aB,dg,bo,aH,Rel];exact⟨[encStr s],l.map encStr,rfl,rfl,⟨_,[],rfl,rfl,rfl⟩,FY (l:=l)⟩
theorem ZK (hc:oC E.P g) (hs:GN E.P g f) (hf:∀ss,(f ss).length=ss.length) {e tag n c:Nat} {a0:Option Addr} {l:List (List UInt8)} (hn:n=l.length) (hl:l.length<4611686018427387904):
  iA E.toCx g [.os tag a0 n c] [.row (.slice a0 n c) e 1 (aB l)] λr O'=>r= .ret (.bX [])/\O'=[.row (.slice a0 n c) e 1 (aB (f l))]:=by
 refine⟨hc,λF w vs hk hr=>?_⟩;simp only[aH,Rel]at hr;obtain⟨v,_,rfl,hv,rfl⟩:=hr;subst hn;obtain⟨us,h3,h4⟩:=hk.dR (.row (.slice a0 l.length c) e 1 (aB l)) (by simp);have hus:=FX h3;subst hus;have hret:∀(w':World) (A:Nat->Prop),AR.rel w' A (.ret (.bX [])) (.returned (.tuple #[])):=λw' A=>⟨_,rfl,by simp only[Rel,aH];exact⟨[],rfl,rfl⟩⟩;rw[<-hv]at hk h3 h4⊢;obtain⟨h40,h4⟩:=h4;rcases h4 with⟨hvn,h0⟩|⟨b,cap,cur,hvg,hbase,hg,hnc,hcm,hcs,htake⟩
 ·have hl0:l=[]:=gT (by rw[bD]at h0;exact h0);have hf0:f []=[]:=gT (hf []);subst hl0;rw[hvn];refine(hs.2 none 0 w).mono λe' w' ⟨he,hw⟩=>?_;subst he hw;refine⟨_,_,⟨rfl,rfl⟩,hret _ _,?_,?_⟩
  ·rw[hf0,<-hvn];exact hk
  ·rw[hf0];exact Ext.refl _ _
 ·rw[bD]at*
  have hb:b<w.heap.size:=(fS.1 hg).1;have hcur:cur.toList.take l.length=l.map encStr:=by simpa using htake
  have hsz:l.length<=cur.size:=by rw[hcs];omega
  have hcell:∀j,j<l.length->cur[j]? =some (encStr l[j]!):=λj hj=>by
   have:=congrArg (λt=>t[j]?) hcur;simp only[eX,hj,if_true,kf]at this;rw[<-BO,this];simp[hj]
  have hH:Go.Sort.Holds encStr w b 0 l.toArray:=λj hj=>by
   have hj':j<l.length:=by simpa using hj
   constructor
   ·simp[World.cell?,hg,hcell j hj']
   ·simp[World.frozen?,hg]
  rw[hvg];refine(hs.1 b 0 cap l w hH hb hl).mono λe' w' ⟨he,k,os,hw⟩=>?_;subst he;have hheap:w'.heap=w.heap.modify b (Go.Sort.onCells (Go.Sort.putCells encStr 0 (f l).toArray))++os:=by rw[hw];rfl
  have hwb:w'.heap[b]? =some (.cells (Go.Sort.putCells encStr 0 (f l).toArray cur) e (0,0)):=by
   rw[hheap,Fy,bq (by simpa using hb),BM,bq rfl,hg];rfl
  have hwo:∀j,j<w.heap.size->j≠b->w'.heap[j]? =w.heap[j]? :=λj hj hne=>by
   rw[hheap,Fy,bq (by simpa using hj),BM,aN (ij hne)]
  have hws:w.heap.size<=w'.heap.size:=by rw[hheap];simp
  have hids:aq.ids (.row v e 1 (aB l))=[b]:=by simp[aq.ids,hvg,Value.ownBlock]
  have hids':aq.ids (.row v e 1 (aB (f l)))=[b]:=by simp[aq.ids,hvg,Value.ownBlock]
  refine⟨_,_,⟨rfl,rfl⟩,hret _ _,?_,?_⟩
  ·rw[<-hvg];refine bG.kE (l:=[]) (r:=[]) hk hws (λj hj hn=>hwo j hj λe=>hn (by rw[hids,e];simp)) (λj hj=> .inl (by rw[hids];rw[hids']at hj;exact hj)) (by rw[hids'];simp) ?_;refine⟨(f l).map encStr,FY,by simp[bD],.inr ⟨b,cap,_,by rw[hvg,bD,hf],hbase,hwb,by rw[bD,hf];exact hnc,hcm,?_,?_⟩⟩
   ·simpa[Go.Sort.putCells]using hcs
   ·apply nc;intro i;rw[eX,bD,vW,kf,hf];by_cases hi:i<l.length
    ·rw[bq hi];have hi2:i<(f l).length:=by rw[hf];exact hi
     have hi3:i<cur.size:=by omega
     simp[Go.Sort.putCells,hi2,hi3]
    ·rw[aN hi,kM (by rw[hf];omega)];rfl
  ·rw[<-hvg];refine⟨by rw[hw];rfl,by rw[hw];rfl,by rw[hw];rfl,hws,λj hj hn=>hwo j hj λe=>hn (by simp only[cv,bO,hids];left;simp[e]),λj hj=> .inl ?_,by rw[hw];exact MM _ _⟩;simpa[cv,hids,hids']using hj
theorem iS.sort (hc:oC E.P g) (hs:GN E.P g f) (hf:∀ss,(f ss).length=ss.length) {e n:Nat} {l:List (List UInt8)} (hn:n=l.length) (hl:l.length<4611686018427387904):
  iS E g [.os 0 n] (.row e 1 (aB l)) (.bX []) (.row e 1 (aB (f l))):=λW ys ηB hi hh=>by
 simp only[aQ]at hi;obtain⟨y,_,rfl,hy,rfl⟩:=hi;simp only[aG]at hy;obtain⟨a,c,t',h3,rfl⟩:=hy;have hget:(iG [(jQ.row e 1 (aB l)).c]).e.get 0=some (.row e 1 (aB l)):=rfl;obtain⟨q,h6,h7⟩:=hh.en 0 _ hget;obtain⟨⟨a',c',h8,rfl⟩,h9⟩:=h7;rw[bD]at h8 h9 h6;subst hn;rw[h3]at h8;cases h8;have hlen:ηB.length=1:=hh.len;obtain⟨z,rfl⟩:∃z,ηB=[z]:=by
  match ηB,hlen with
  |[z],_=>exact⟨z,rfl⟩
 simp only[cA,jj,aC]at h6;subst h6;refine(ZK hc hs hf rfl hl).mono ?_;rintro r O' ⟨rfl,rfl⟩;refine⟨W,.ret (.d (.bX [])),(iG [(jQ.row e 1 (aB l)).c]).set 0 (.row e 1 (aB (f l))),?_,⟨_,rfl,rfl⟩,?_,?_⟩
 ·exactλ_ _=>⟨λ_ h=>h,λ_ _ h=>h⟩
 ·have:=hh.set (x:= .row e 1 (aB (f l))) (y:= .row (.slice a l.length c) e 1 (aB (f l))) (.refl W) (λ_ _=>rfl) (λ_ _=>rfl) (i:=0) (by show 0<1;omega) ⟨⟨a,c,by rw[bD,hf];exact h3,by rw[bD,hf]⟩,λm hm=>h9 m (by rw[bD,hf]at hm;omega)⟩
  exact this
 ·exact⟨_,_,_,_,rfl,rfl,aV,rfl,.refl _,.refl _⟩
theorem SN {w:World} {A:Nat->Prop}:∀{xs vs:List Value},aH w A (xs.map .v) vs->vs=xs
 |[],vs,h=>by simpa[aH]using h
 |x::xs,vs,h=>by
  simp only[dg,aH,Rel]at h;obtain⟨v,r,rfl,rfl,h⟩:=h;rw[SN h]
theorem ZL (hc:oC E.P g) {xs:List Value} {v:Value} (h:∀w,Calls E.P g xs.toArray w λe w'=>e= .returned v/\w'=w):Pure E.toCx g (xs.map .v) (.ret (.v v)):=by
 refine⟨hc,λF w vs hk hr=>?_⟩;rw[SN hr];refine(h w).mono ?_;rintro e w' ⟨rfl,rfl⟩;exact⟨_,_,⟨rfl,rfl⟩,⟨_,rfl,by simp only[Rel]⟩,hk,Ext.refl _ _⟩
