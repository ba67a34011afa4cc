/- The function that turns faults into results. -/
import Derived.Test.YtnocmolegijmkaaGreatKEnv
import Derived.Tactics
import Derived.Tactics2
import Derived.Defers
import Derived.Recover
import Derived.Laws.Pointers
set_option linter.all false
section
namespace Go.Proofs.YtnocmolegijmkaaGreat
open Go Go.Bw Go.Proofs.Tryz
abbrev zF:AV:= .agg [.v (.int .i64 0),.v (.int .i64 0)]
theorem PJ (w:World) (b o:Nat) (cs:Array Value) (e:TypeId) (fz:Nat×Nat) (v:Value) (h:w.heap[b]? =some (.cells cs e fz)) (hv:cs[o]? =some v):w.setCell ⟨b,o,none⟩ v=w:=by
 have hcs:cs.setIfInBounds o v=cs:=by
  apply aad;intro i;by_cases hi:o=i
  ·subst hi;rw[Array.getElem?_setIfInBounds_self_of_lt (gQ.1 hv).1,hv]
  ·rw[Array.getElem?_setIfInBounds_ne hi]
 have hh:∀f:Obj->Obj,f (.cells cs e fz)= .cells cs e fz->w.heap.modify b f=w.heap:=by
  intro f hf;apply aad;intro i;rw[Dy];by_cases hi:b=i
  ·subst hi;simp[h,hf]
  ·simp[hi]
 unfold World.setCell;rw[hh _ (by simp[hcs])]
theorem aeJ {c:Code} {N b:Nat} {cells cells':List AV} {O:TS} {σB:Sg} {F:Nat->Prop} {w:World} {a:Act}
  (h:ao env N 1 [.code c] (λe _ L'=>e= .norm/\L'.e.get 0=some (.box (cells'.map .d))) O (Hp.nil.push (.box (cells.map .d))))
  (hs:SS ⟨λt=>if t=0 then some b else none,λ_ _=>none⟩ O (Bw.look σB)) (hst:St env.G N w F a σB [.box b cells]):
  c.wp Tryz.prog (λe a' w'=>e= .normal/\a'.tmps.size=N/\a'.defers=[]/\bM env.G w' F [.box b cells']/\Ext [.box b cells] w [.box b cells'] w') a w:=by
 have hh:HS ⟨λt=>if t=0 then some b else none,λ_ _=>none⟩ (Hp.nil.push (.box (cells.map .d))) [.box b cells]:=by
  refine⟨λi x hx=>?_,rfl,λt ht=>?_⟩
  ·rcases Tr.fy 24 _ 0 i _ x hx with⟨rfl,h1⟩|⟨_,h1⟩
   ·cases h1;exact⟨.box b cells,rfl,b,cells,by simp,rfl,jv _⟩
   ·simp[Hp.nil,Tr.get]at h1
  ·have:t≠0:=by simp only[Hp.push,Hp.nil]at ht;omega
   simp[this]
 refine wp_mono ((ao.one h) _ σB _ hs hh F w [.box b cells] a w hst (Ext.refl _ _)) ?_;rintro e a' w' ⟨e0,O',LB',⟨Z',d,O1,L1,hl,hi,hs',hh',hd,hg⟩,hrel,hst',hx⟩;subst hd;simp only[DE.inst]at hi;subst hi;simp only[AE.rel]at hrel;obtain⟨y,hy,b',cs',hb',rfl,hcs⟩:=hh'.en 0 _ hg;have h0:=(hl 0 (by omega)).1;have:b'=b:=by
  rw[hb']at h0;simpa using h0
 subst this;have hcs:=pK (zs:=cells') (by
  have key:∀l:List AV,iT (l.map .d)=some l:=by
   intro l;induction l with
   |nil=>rfl
   |cons y l ih=>simp[iT,ih]
  exact key cells') hcs
 subst hcs;cases LB' with
 |nil=>simp[nth]at hy
 |cons x r=>
  simp only[nth,aE]at hy;subst hy;exact⟨hrel,hst'.sg.1,hst'.df,bM.drop (L:=[_]) (W:=r) hst'.hp,Ext.drop (L':=[_]) (W:=r) hx⟩
theorem ab' (b:Nat) (k1 k2:IntKind) (x y:Int) (older:List PanicEntry) (F:Nat->Prop) (w:World) (hH:bM env.G w F [.box b [.v (.int .i64 0),.v (.int .i64 0)]]):
  CallsD Tryz.prog 115 #[.pointer (some ⟨b,0,none⟩)] (.panicking ({v:= .iface 75 (.agg #[.int k1 x,.int k2 y]),recovered:=false}::older)) w λe u' w'=>
   e= .returned (.tuple #[])/\u'= .panicking ({v:= .iface 75 (.agg #[.int k1 x,.int k2 y]),recovered:=true}::older)/\bM env.G w' F [.box b [.v (.int k1 x),.v (.int k2 y)]]/\Ext [.box b [.v (.int .i64 0),.v (.int .i64 0)]] w [.box b [.v (.int k1 x),.v (.int k2 y)]] w':=by
 refine callsD_of_wpS func115 rfl λc₀ cs hu=>?_;apply wpS_seq;apply wpS_region;simp[wpOpsS,go_sem,recoverD,hu,ntmps115,Exit.thenS];refine wpS_of_wp ?_;refine wp_mono (aeJ (N:=16) (cells':=[.v (.int k1 x),.v (.int k2 y)]) (O:=Tr.put 24 (Tr.put 24 .lf 1 (some (.d (.bP 75 (.agg [.v (.int k1 x),.v (.int k2 y)]))))) 0 (some (.own 0 0))) (σB:=[(0,.own 0 b 0),(1,.bP 75 (.agg [.v (.int k1 x),.v (.int k2 y)]))]) ?_ ?_ ⟨⟨?_,?_⟩,hH,rfl⟩) ?_
 ·refine aeK mixed 400 rfl ⟨rfl,rfl⟩
 ·intro t z hz;rcases Tr.fy 24 _ 0 t _ z hz with⟨rfl,h1⟩|⟨h0,hz⟩
  ·cases h1;exact⟨.own 0 b 0,rfl,by simp only[aK];exact⟨b,0,by simp,rfl⟩⟩
  ·rcases Tr.fy 24 _ 1 t _ z hz with⟨rfl,h1⟩|⟨_,hz⟩
   ·cases h1;exact⟨_,rfl,rfl⟩
   ·simp[Tr.get]at hz
 ·simp
 ·intro t z hz;simp only[Bw.look]at hz;split at hz
  ·rename_i hb;have:=bQ hb;subst this;cases hz;exact⟨by omega,by simp[Rel]⟩
  ·split at hz
   ·rename_i hb;have:=bQ hb;subst this;cases hz;exact⟨by omega,by simp[Rel,aL]⟩
   ·cases hz
 ·rintro e a' w' ⟨rfl,h1,h2,h3,h4⟩;refine⟨h2,_,rfl,?_⟩;simp[results,Tryz.results115,h3,h4,go_sem]
theorem abx (b:Nat) (w:World):CallsD Tryz.prog 115 #[.pointer (some ⟨b,0,none⟩)] .returning w λe u' w'=>e= .returned (.tuple #[])/\u'= .returning/\w'=w:=by
 refine callsD_of_wpS func115 rfl λc₀ cs hu=>?_;apply wpS_seq;apply wpS_region;simp[wpOpsS,go_sem,recoverD,hu,ntmps115,Exit.thenS];apply wpS_seq;apply wpS_region;simp[wpOpsS,go_sem,Exit.thenS,eqGuard];refine wpS_cond (t:=false) (by simp[Act.eval,Array.replicate]) ?_;simp only[kI,if_false];refine wpS_of_wp (wp_skip ?_);cases c₀
 simp_all [bodyPostS,results,Tryz.results115]
theorem P9:sF env 76 75 zF:=by
 intro g fs cs L Q h hp;refine⟨⟨_,func76,rfl,by kernel_rfl⟩,λF w vs hH hargs=>?_⟩;simp only[aL,Rel]at hargs;obtain⟨v,r,rfl,⟨us,ks,rfl,h1,h2⟩,rfl⟩:=hargs;show Calls Tryz.prog 76 _ w _;refine calls_of_wp_defers func76 rfl ?_;have hmf:∀(fn:Fn) (first cap:Array Value) (w:World),(Instr.makeFunc fn first cap).run Tryz.prog w= .ok (.func fn first cap) w:=λ_ _ _ _=>rfl;apply wp_seq;apply wp_region;simp[wpOps,go_sem,Exit.then,ntmps76];refine .inl ?_;apply wp_seq;apply wp_region;simp[wpOps,go_sem,Exit.then,hmf];refine .inl ?_;refine .inl ?_;apply wp_seq;apply wp_region;simp[wpOps,go_sem,Exit.then];refine .inl ?_;refine .inl ?_;have hcf:∀(ws:Array Value) (w':World),(callFunc g ws).run Tryz.prog w'= .ok (.enter g ws) w':=by
  intro ws w';obtain⟨fn,hf,hbody,hname⟩:=h.1;have hf':Tryz.prog.funcs[g]? =some fn:=hf;simp only[callFunc,Sem.run_bind,run_program,Result.andThen_ok,hf',hname,hbody,kI,if_false,Sem.run_pure]
 rw[hcf,Oper.upon_enter];obtain⟨b,hbdef⟩:∃b,b=w.heap.size:=⟨_,rfl⟩;have hpush:bM env.G (w.alloc (.cells #[.int .i64 0,.int .i64 0] 75)) F (L++[.box w.heap.size [.v (.int .i64 0),.v (.int .i64 0)]]):=by
  refine hH.push (by simp) (λb hb=>lA w _ b hb) (by simp[aq.ids]) (by simp[aq.ids]) ?_;exact⟨75,[.int .i64 0,.int .i64 0],l6 w _,by simp[aL,Rel]⟩
 have hext0:=nK w (.cells #[.int .i64 0,.int .i64 0] 75) L (.box w.heap.size [.v (.int .i64 0),.v (.int .i64 0)]) (by simp[aq.ids]);have hargs:aL (w.alloc (.cells #[.int .i64 0,.int .i64 0] 75)) (Al (λx=>F x\/x∈ids [.box w.heap.size [.v (.int .i64 0),.v (.int .i64 0)]]) L) (fs++cs) (us++ks):=by
  rw[oO];exact(h1.append h2).keep hext0.keeps
 have hlt:w.heap.size<(w.alloc (.cells #[.int .i64 0,.int .i64 0] 75)).heap.size:=by simp
 have hbn:w.heap.size∉ids L:=λhm=>by have:=hH.lt _ hm;omega
 have hblk0:(w.alloc (.cells #[.int .i64 0,.int .i64 0] 75)).heap[w.heap.size]? =some (.cells #[.int .i64 0,.int .i64 0] 75):=l6 w _;refine(h.2 _ _ (us++ks) hpush.front hargs).mono ?_;rintro e w' ⟨r,L',hQ,hv,hh,hext⟩;obtain⟨g1,g2⟩:=bM.back hpush hh hext;have hblk:w'.heap[w.heap.size]? =some (.cells #[.int .i64 0,.int .i64 0] 75):=(hext.block _ hlt hbn).trans hblk0;have hx0:=hext0.trans g2;rw[<-hbdef]at*
 generalize w.alloc (.cells #[.int .i64 0,.int .i64 0] 75)=w1 at*
 cases r with
 |ret x=>
  obtain⟨v,rfl,hv⟩:=hv;have hc0:w'.cell? ⟨b,0,none⟩=some (.int .i64 0):=by simp[World.cell?,hblk]
  have hc1:w'.cell? ⟨b,1,none⟩=some (.int .i64 0):=by simp[World.cell?,hblk]
  have hz0:w'.frozen? ⟨b,0,none⟩=false:=by simp[World.frozen?,hblk]
  have hz1:w'.frozen? ⟨b,1,none⟩=false:=by simp[World.frozen?,hblk]
  have hs0:=PJ w' b 0 _ _ _ (.int .i64 0) hblk rfl;have hs1:=PJ w' b 1 _ _ _ (.int .i64 0) hblk rfl;apply wp_seq;apply wp_region;simp[wpOps,go_sem,Exit.then,hc0,hc1,hz0,hz1,hs0,hs1];refine .inl ?_;refine .inl ?_;refine wp_ret ?_;simp only[bodyPostD];refine leaves_cons (f:=115) (args:= #[.pointer (some ⟨b,0,none⟩)]) (by simp) (by simp[go_sem]) ?_;refine(abx b _).mono ?_;rintro e u' w'' ⟨rfl,rfl,rfl⟩;simp[Leaves,settle,results,Tryz.results76,go_sem,hc0,hc1];exact⟨.ret zF,L',.inl ⟨⟨x,hQ⟩,rfl⟩,⟨_,rfl,by simp[Rel,aL,zF]⟩,g1.drop,hx0.drop⟩
 |aT x=>
  obtain⟨v,rfl,hv⟩:=hv;simp only[Exit.then,bodyPostD];obtain⟨y,rfl,hf⟩:=hp x L' hQ;obtain⟨k1,a,k2,c,rfl⟩:∃k1 a k2 c,y= .agg [.v (.int k1 a),.v (.int k2 c)]:=by
   unfold nY at hf;split at hf
   ·exact⟨_,_,_,_,rfl⟩
   ·cases hf
  simp only[Rel,aL]at hv;obtain⟨u,rfl,vs,rfl,v1,r1,rfl,rfl,v2,r2,rfl,rfl,rfl⟩:=hv;refine leaves_cons (f:=115) (args:= #[.pointer (some ⟨b,0,none⟩)]) (by simp) (by simp[go_sem]) ?_;have gp:([aq.box b [.v (.int .i64 0),.v (.int .i64 0)]]++L').Perm (L'++[aq.box b [.v (.int .i64 0),.v (.int .i64 0)]]):=Hy;have g1':=bM.perm gp.symm g1;refine(ab' b k1 k2 a c [] _ w' g1'.front).mono ?_;rintro e u' w'' ⟨rfl,rfl,h3,h4⟩;obtain⟨q1,q2⟩:=bM.back g1' h3 h4;have q1':=bM.perm Hy q1;have q2':=((hx0.perm gp.symm).trans q2).perm Hy;obtain⟨e0,vs0,hb0,hr0⟩:=h3.eG _ (OA ..);simp only[aL,Rel]at hr0;obtain⟨_,_,rfl,rfl,_,_,rfl,rfl,rfl⟩:=hr0;have hc0:w''.cell? ⟨b,0,none⟩=some (.int k1 a):=by simp[World.cell?,hb0]
  have hc1:w''.cell? ⟨b,1,none⟩=some (.int k2 c):=by simp[World.cell?,hb0]
  simp[Leaves,settle,results,Tryz.results76,go_sem,hc0,hc1];exact⟨.ret (.agg [.v (.int k1 a),.v (.int k2 c)]),L',.inr ⟨_,hQ,rfl⟩,⟨_,rfl,by simp[Rel,aL]⟩,q1'.drop,q2'.drop⟩
end Go.Proofs.YtnocmolegijmkaaGreat
end

section
namespace Go.Proofs.YtnocmolegijmkaaGreat
open Go Go.Bw
section
variable {D:Type} {r:List D->List (List AV)} {c:D->List AV}
abbrev gb (r:List D->List (List AV)) (c:D->List AV):Prop:=(∀a b,r (a++b)=r a++r b)/\(∀x l,r (x::l)=c x::r l)/\(r []=[])/\(∀k l,r (l.drop k)=(r l).drop k)/\(∀k l,r (l.take k)=(r l).take k)/\(∀l i x,r (l.set i x)=(r l).set i (c x))
abbrev gw (r:List D->List (List AV)):Prop:=∀l,(r l).length=l.length
variable (h:∀l,r l=l.map c)
include h
theorem gk (l):(r l).length=l.length:=by rw[h,ja]
theorem nX {l} {i:Nat} {x} (e:l[i]? =some x):(r l)[i]? =some (c x):=by rw[h];exact get_map e
theorem afQ (a b):r (a++b)=r a++r b:=by simp only[h,qY]
theorem aeG (n:Nat) (l):r (l.drop n)=(r l).drop n:=by simp only[h,aab]
theorem aeH (n:Nat) (l):r (l.take n)=(r l).take n:=by simp only[h,Hx]
theorem aeI (x l):r (x::l)=c x::r l:=by simp only[h,dp]
theorem afR:r []=[]:=by rw[h];rfl
theorem afS (l) (i:Nat) (x):r (l.set i x)=(r l).set i (c x):=by simp only[h,Oz]
theorem gl:gb r c:=⟨afQ h,aeI h,afR h,aeG h,aeH h,afS h⟩
theorem nP (hc:∀x,fU [c x]=true) (l):fU (r l)=true:=by rw[h];exact HZ hc l
end
structure aX where
 If:(List (List UInt8))
 dY:(List UInt8)
def aX.cs (x:aX):List AV:=[.sl 1 (aG x.If),.v (.string ⟨⟨x.dY⟩⟩)]
def aX.rows (l:List aX):List (List AV):=l.map aX.cs
theorem aX.bh (l:List aX):aX.rows l=l.map aX.cs:=rfl
def aX.aH:= @gk _ _ _ aX.bh
def aX.aF:= @nX _ _ _ aX.bh
def aX.cC:= @nP _ _ _ aX.bh λ_=>rfl
structure ag where
 Kind:Int
 Lo:Int
 Hi:Int
 Names:(List (List UInt8))
 ai:(List ag)
 bO:(List aX)
mutual
def ag.cells:ag->List AV
 |⟨vKind,vLo,vHi,vNames,vParts,vRules⟩=>[.v (.int .i64 vKind),.v (.int .i64 vLo),.v (.int .i64 vHi),.sl 1 (aG vNames),.sl 6 (ag.rows vParts),.sl 2 (aX.rows vRules)]
def ag.rows:List ag->List (List AV)
 |[]=>[]
 |x::r=>ag.cells x::ag.rows r
end
def ag.cs (x:ag):List AV:=[.v (.int .i64 x.Kind),.v (.int .i64 x.Lo),.v (.int .i64 x.Hi),.sl 1 (aG x.Names),.sl 6 (ag.rows x.ai),.sl 2 (aX.rows x.bO)]
theorem ag.rq:∀x:ag,ag.cells x=ag.cs x
 |⟨vKind,vLo,vHi,vNames,vParts,vRules⟩=>by first|rfl|simp only[ag.cells,ag.cs]
theorem ag.bh:∀l:List ag,ag.rows l=l.map ag.cs
 |[]=>by simp only[ag.rows,lY]
 |x::r=>by simp only[ag.rows,ag.rq,ag.bh r,dp]
def ag.aH:= @gk _ _ _ ag.bh
def ag.aF:= @nX _ _ _ ag.bh
def ag.cC:= @nP _ _ _ ag.bh λ_=>rfl
structure TParam where
 Name:(List UInt8)
 a6:Int
def TParam.cs (x:TParam):List AV:=[.v (.string ⟨⟨x.Name⟩⟩),.v (.int .i64 x.a6)]
def TParam.rows (l:List TParam):List (List AV):=l.map TParam.cs
theorem TParam.bh (l:List TParam):TParam.rows l=l.map TParam.cs:=rfl
def TParam.aH:= @gk _ _ _ TParam.bh
def TParam.aF:= @nX _ _ _ TParam.bh
def TParam.cC:= @nP _ _ _ TParam.bh λ_=>rfl
structure aQ where
 a6:Int
 aD:ag
def aQ.cs (x:aQ):List AV:=[.v (.int .i64 x.a6),.v (.int .i64 x.aD.Kind),.v (.int .i64 x.aD.Lo),.v (.int .i64 x.aD.Hi),.sl 1 (aG x.aD.Names),.sl 6 (ag.rows x.aD.ai),.sl 2 (aX.rows x.aD.bO)]
def aQ.rows (l:List aQ):List (List AV):=l.map aQ.cs
theorem aQ.bh (l:List aQ):aQ.rows l=l.map aQ.cs:=rfl
def aQ.aH:= @gk _ _ _ aQ.bh
structure ab where
 Op:Int
 aO:aQ
 N:Int
 Text:(List UInt8)
 At:Int
 Kids:(List ab)
mutual
def ab.cells:ab->List AV
 |⟨vOp,vType_,vN,vText,vAt,vKids⟩=>[.v (.int .i64 vOp),.v (.int .i64 vType_.a6),.v (.int .i64 vType_.aD.Kind),.v (.int .i64 vType_.aD.Lo),.v (.int .i64 vType_.aD.Hi),.sl 1 (aG vType_.aD.Names),.sl 6 (ag.rows vType_.aD.ai),.sl 2 (aX.rows vType_.aD.bO),.v (.int .i64 vN),.v (.string ⟨⟨vText⟩⟩),.v (.int .i64 vAt),.sl 12 (ab.rows vKids)]
def ab.rows:List ab->List (List AV)
 |[]=>[]
 |x::r=>ab.cells x::ab.rows r
end
def ab.cs (x:ab):List AV:=[.v (.int .i64 x.Op),.v (.int .i64 x.aO.a6),.v (.int .i64 x.aO.aD.Kind),.v (.int .i64 x.aO.aD.Lo),.v (.int .i64 x.aO.aD.Hi),.sl 1 (aG x.aO.aD.Names),.sl 6 (ag.rows x.aO.aD.ai),.sl 2 (aX.rows x.aO.aD.bO),.v (.int .i64 x.N),.v (.string ⟨⟨x.Text⟩⟩),.v (.int .i64 x.At),.sl 12 (ab.rows x.Kids)]
theorem ab.rq:∀x:ab,ab.cells x=ab.cs x
 |⟨vOp,vType_,vN,vText,vAt,vKids⟩=>by first|rfl|simp only[ab.cells,ab.cs]
theorem ab.bh:∀l:List ab,ab.rows l=l.map ab.cs
 |[]=>by simp only[ab.rows,lY]
 |x::r=>by simp only[ab.rows,ab.rq,ab.bh r,dp]
def ab.aH:= @gk _ _ _ ab.bh
def ab.aF:= @nX _ _ _ ab.bh
def ab.cC:= @nP _ _ _ ab.bh λ_=>rfl
structure cw where
 Name:(List UInt8)
 On:(List UInt8)
 Params:(List TParam)
 Result:Int
 Body:ab
def cw.cs (x:cw):List AV:=[.v (.string ⟨⟨x.Name⟩⟩),.v (.string ⟨⟨x.On⟩⟩),.sl 2 (TParam.rows x.Params),.v (.int .i64 x.Result),.v (.int .i64 x.Body.Op),.v (.int .i64 x.Body.aO.a6),.v (.int .i64 x.Body.aO.aD.Kind),.v (.int .i64 x.Body.aO.aD.Lo),.v (.int .i64 x.Body.aO.aD.Hi),.sl 1 (aG x.Body.aO.aD.Names),.sl 6 (ag.rows x.Body.aO.aD.ai),.sl 2 (aX.rows x.Body.aO.aD.bO),.v (.int .i64 x.Body.N),.v (.string ⟨⟨x.Body.Text⟩⟩),.v (.int .i64 x.Body.At),.sl 12 (ab.rows x.Body.Kids)]
def cw.rows (l:List cw):List (List AV):=l.map cw.cs
theorem cw.bh (l:List cw):cw.rows l=l.map cw.cs:=rfl
def cw.aH:= @gk _ _ _ cw.bh
structure ah where
 Process:Int
 N:Int
def ah.cs (x:ah):List AV:=[.v (.int .i64 x.Process),.v (.int .i64 x.N)]
def ah.rows (l:List ah):List (List AV):=l.map ah.cs
theorem ah.bh (l:List ah):ah.rows l=l.map ah.cs:=rfl
def ah.aH:= @gk _ _ _ ah.bh
def ah.aF:= @nX _ _ _ ah.bh
def ah.cC:= @nP _ _ _ ah.bh λ_=>rfl
structure az where
 a8:(List ah)
 Name:(List UInt8)
def az.cs (x:az):List AV:=[.sl 2 (ah.rows x.a8),.v (.string ⟨⟨x.Name⟩⟩)]
def az.rows (l:List az):List (List AV):=l.map az.cs
theorem az.bh (l:List az):az.rows l=l.map az.cs:=rfl
def az.aH:= @gk _ _ _ az.bh
def az.aF:= @nX _ _ _ az.bh
def az.cC:= @nP _ _ _ az.bh λ_=>rfl
structure af where
 N:Int
 Names:(List (List UInt8))
 ai:(List af)
 Entries:(List az)
mutual
def af.cells:af->List AV
 |⟨vN,vNames,vParts,vEntries⟩=>[.v (.int .i64 vN),.sl 1 (aG vNames),.sl 4 (af.rows vParts),.sl 2 (az.rows vEntries)]
def af.rows:List af->List (List AV)
 |[]=>[]
 |x::r=>af.cells x::af.rows r
end
def af.cs (x:af):List AV:=[.v (.int .i64 x.N),.sl 1 (aG x.Names),.sl 4 (af.rows x.ai),.sl 2 (az.rows x.Entries)]
theorem af.rq:∀x:af,af.cells x=af.cs x
 |⟨vN,vNames,vParts,vEntries⟩=>by first|rfl|simp only[af.cells,af.cs]
theorem af.bh:∀l:List af,af.rows l=l.map af.cs
 |[]=>by simp only[af.rows,lY]
 |x::r=>by simp only[af.rows,af.rq,af.bh r,dp]
def af.aH:= @gk _ _ _ af.bh
def af.aF:= @nX _ _ _ af.bh
def af.cC:= @nP _ _ _ af.bh λ_=>rfl
structure bD where
 a6:Int
 N:Int
 Name:(List UInt8)
 Names:(List (List UInt8))
def bD.cs (x:bD):List AV:=[.v (.int .i64 x.a6),.v (.int .i64 x.N),.v (.string ⟨⟨x.Name⟩⟩),.sl 1 (aG x.Names)]
def bD.rows (l:List bD):List (List AV):=l.map bD.cs
theorem bD.bh (l:List bD):bD.rows l=l.map bD.cs:=rfl
def bD.aH:= @gk _ _ _ bD.bh
def bD.aF:= @nX _ _ _ bD.bh
structure aI where
 Kind:Int
 Text:(List UInt8)
 N:Int
 At:Int
 Kids:(List aI)
mutual
def aI.cells:aI->List AV
 |⟨vKind,vText,vN,vAt,vKids⟩=>[.v (.int .i64 vKind),.v (.string ⟨⟨vText⟩⟩),.v (.int .i64 vN),.v (.int .i64 vAt),.sl 5 (aI.rows vKids)]
def aI.rows:List aI->List (List AV)
 |[]=>[]
 |x::r=>aI.cells x::aI.rows r
end
def aI.cs (x:aI):List AV:=[.v (.int .i64 x.Kind),.v (.string ⟨⟨x.Text⟩⟩),.v (.int .i64 x.N),.v (.int .i64 x.At),.sl 5 (aI.rows x.Kids)]
theorem aI.rq:∀x:aI,aI.cells x=aI.cs x
 |⟨vKind,vText,vN,vAt,vKids⟩=>by first|rfl|simp only[aI.cells,aI.cs]
theorem aI.bh:∀l:List aI,aI.rows l=l.map aI.cs
 |[]=>by simp only[aI.rows,lY]
 |x::r=>by simp only[aI.rows,aI.rq,aI.bh r,dp]
def aI.aH:= @gk _ _ _ aI.bh
def aI.aF:= @nX _ _ _ aI.bh
def aI.cC:= @nP _ _ _ aI.bh λ_=>rfl
structure fA where
 Code:Int
 At:Int
def fA.cs (x:fA):List AV:=[.v (.int .i64 x.Code),.v (.int .i64 x.At)]
def fA.rows (l:List fA):List (List AV):=l.map fA.cs
theorem fA.bh (l:List fA):fA.rows l=l.map fA.cs:=rfl
def fA.aH:= @gk _ _ _ fA.bh
structure dU where
 nodes:Int
def dU.cs (x:dU):List AV:=[.v (.int .i64 x.nodes)]
def dU.rows (l:List dU):List (List AV):=l.map dU.cs
theorem dU.bh (l:List dU):dU.rows l=l.map dU.cs:=rfl
def dU.aH:= @gk _ _ _ dU.bh
structure cI where
 l:ag
 params:(List TParam)
def cI.cs (x:cI):List AV:=[.v (.int .i64 x.l.Kind),.v (.int .i64 x.l.Lo),.v (.int .i64 x.l.Hi),.sl 1 (aG x.l.Names),.sl 6 (ag.rows x.l.ai),.sl 2 (aX.rows x.l.bO),.sl 2 (TParam.rows x.params)]
def cI.rows (l:List cI):List (List AV):=l.map cI.cs
theorem cI.bh (l:List cI):cI.rows l=l.map cI.cs:=rfl
def cI.aH:= @gk _ _ _ cI.bh
structure bZ where
 d:bD
 v:af
def bZ.cs (x:bZ):List AV:=[.v (.int .i64 x.d.a6),.v (.int .i64 x.d.N),.v (.string ⟨⟨x.d.Name⟩⟩),.sl 1 (aG x.d.Names),.v (.int .i64 x.v.N),.sl 1 (aG x.v.Names),.sl 4 (af.rows x.v.ai),.sl 2 (az.rows x.v.Entries)]
def bZ.rows (l:List bZ):List (List AV):=l.map bZ.cs
theorem bZ.bh (l:List bZ):bZ.rows l=l.map bZ.cs:=rfl
def bZ.aH:= @gk _ _ _ bZ.bh
structure cG where
 state:af
 args:(List bD)
def cG.cs (x:cG):List AV:=[.v (.int .i64 x.state.N),.sl 1 (aG x.state.Names),.sl 4 (af.rows x.state.ai),.sl 2 (az.rows x.state.Entries),.sl 4 (bD.rows x.args)]
def cG.rows (l:List cG):List (List AV):=l.map cG.cs
theorem cG.bh (l:List cG):cG.rows l=l.map cG.cs:=rfl
def cG.aH:= @gk _ _ _ cG.bh
structure jo where
 L:ag
 Params:(List TParam)
def jo.cs (x:jo):List AV:=[.v (.int .i64 x.L.Kind),.v (.int .i64 x.L.Lo),.v (.int .i64 x.L.Hi),.sl 1 (aG x.L.Names),.sl 6 (ag.rows x.L.ai),.sl 2 (aX.rows x.L.bO),.sl 2 (TParam.rows x.Params)]
def jo.rows (l:List jo):List (List AV):=l.map jo.cs
theorem jo.bh (l:List jo):jo.rows l=l.map jo.cs:=rfl
def jo.aH:= @gk _ _ _ jo.bh
structure jq where
 data:(List Int)
def jq.cs (x:jq):List AV:=[.sl 1 (dX .u8 x.data)]
def jq.rows (l:List jq):List (List AV):=l.map jq.cs
theorem jq.bh (l:List jq):jq.rows l=l.map jq.cs:=rfl
def jq.aH:= @gk _ _ _ jq.bh
structure jt where
 data:(List Int)
 at_:Int
 item:Int
 err:Int
def jt.cs (x:jt):List AV:=[.sl 1 (dX .u8 x.data),.v (.int .i64 x.at_),.v (.int .i64 x.item),.v (.int .i64 x.err)]
def jt.rows (l:List jt):List (List AV):=l.map jt.cs
theorem jt.bh (l:List jt):jt.rows l=l.map jt.cs:=rfl
def jt.aH:= @gk _ _ _ jt.bh
structure de where
 oN:(List Int)
 me:Int
def de.cs (x:de):List AV:=[.sl 1 (dX .i64 x.oN),.v (.int .i64 x.me)]
def de.rows (l:List de):List (List AV):=l.map de.cs
theorem de.bh (l:List de):de.rows l=l.map de.cs:=rfl
def de.aH:= @gk _ _ _ de.bh
def de.aF:= @nX _ _ _ de.bh
def de.cC:= @nP _ _ _ de.bh λ_=>rfl
structure dQ where
 oJ:(List (List UInt8))
 rules:(List de)
def dQ.cs (x:dQ):List AV:=[.sl 1 (aG x.oJ),.sl 2 (de.rows x.rules)]
def dQ.rows (l:List dQ):List (List AV):=l.map dQ.cs
theorem dQ.bh (l:List dQ):dQ.rows l=l.map dQ.cs:=rfl
def dQ.aH:= @gk _ _ _ dQ.bh
structure dt where
 F6:Int
 name:Int
def dt.cs (x:dt):List AV:=[.v (.int .i64 x.F6),.v (.int .i64 x.name)]
def dt.rows (l:List dt):List (List AV):=l.map dt.cs
theorem dt.bh (l:List dt):dt.rows l=l.map dt.cs:=rfl
def dt.aH:= @gk _ _ _ dt.bh
def dt.cC:= @nP _ _ _ dt.bh λ_=>rfl
theorem je:gb aX.rows aX.cs/\gb ag.rows ag.cs/\gb TParam.rows TParam.cs/\gb aQ.rows aQ.cs/\gb ab.rows ab.cs/\gb cw.rows cw.cs/\gb ah.rows ah.cs/\gb az.rows az.cs/\gb af.rows af.cs/\gb bD.rows bD.cs/\gb aI.rows aI.cs/\gb fA.rows fA.cs/\gb dU.rows dU.cs/\gb cI.rows cI.cs/\gb bZ.rows bZ.cs/\gb cG.rows cG.cs/\gb jo.rows jo.cs/\gb jq.rows jq.cs/\gb jt.rows jt.cs/\gb de.rows de.cs/\gb dQ.rows dQ.cs/\gb dt.rows dt.cs/\(∀a b,aG (a++b)=aG a++aG b)/\(∀x r,aG (x::r)=[.v (.string ⟨⟨x⟩⟩)]::aG r)/\(∀k x r,dX k (x::r)=[.v (.int k x)]::dX k r)/\(aG []=[])/\(∀k,dX k []=[])/\(∀(k:Nat) l,aG (l.drop k)=(aG l).drop k)/\(∀(k:Nat) l,aG (l.take k)=(aG l).take k)/\(∀k a b,dX k (a++b)=dX k a++dX k b)/\(∀a b,dA (a++b)=dA a++dA b)/\(∀l (i:Nat) x,aG (l.set i x)=(aG l).set i [.v (.string ⟨⟨x⟩⟩)])/\(∀k l (i:Nat) x,dX k (l.set i x)=(dX k l).set i [.v (.int k x)])/\(∀l (i:Nat) x,dA (l.set i x)=(dA l).set i [.v (.bool x)]):=⟨gl aX.bh,gl ag.bh,gl TParam.bh,gl aQ.bh,gl ab.bh,gl cw.bh,gl ah.bh,gl az.bh,gl af.bh,gl bD.bh,gl aI.bh,gl fA.bh,gl dU.bh,gl cI.bh,gl bZ.bh,gl cG.bh,gl jo.bh,gl jq.bh,gl jt.bh,gl de.bh,gl dQ.bh,gl dt.bh,(λ_ _=>ab7),(λ_ _=>rfl),(λ_ _ _=>rfl),rfl,(λ_=>rfl),(λ_ _=>PH),(λ_ _=>PI),(λ_ _ _=>ab8),(λ_ _=>ab9),(λ_ _ _=>Oz),(λ_ _ _ _=>Oz),(λ_ _ _=>Oz)⟩
theorem AO:gw aX.rows/\gw ag.rows/\gw TParam.rows/\gw aQ.rows/\gw ab.rows/\gw cw.rows/\gw ah.rows/\gw az.rows/\gw af.rows/\gw bD.rows/\gw aI.rows/\gw fA.rows/\gw dU.rows/\gw cI.rows/\gw bZ.rows/\gw cG.rows/\gw jo.rows/\gw jq.rows/\gw jt.rows/\gw de.rows/\gw dQ.rows/\gw dt.rows/\(∀l,(aG l).length=l.length)/\(∀k l,(dX k l).length=l.length)/\(∀l,(dA l).length=l.length):=⟨aX.aH,ag.aH,TParam.aH,aQ.aH,ab.aH,cw.aH,ah.aH,az.aH,af.aH,bD.aH,aI.aH,fA.aH,dU.aH,cI.aH,bZ.aH,cG.aH,jo.aH,jq.aH,jt.aH,de.aH,dQ.aH,dt.aH,(λ_=>bN),(λ_ _=>oK),(λ_=>tV)⟩
abbrev ag.z:ag:={Kind:=0,Lo:=0,Hi:=0,Names:=[],ai:=[],bO:=[]:ag}
abbrev aQ.z:aQ:={a6:=0,aD:={Kind:=0,Lo:=0,Hi:=0,Names:=[],ai:=[],bO:=[]:ag}:aQ}
abbrev ab.z:ab:={Op:=0,aO:={a6:=0,aD:={Kind:=0,Lo:=0,Hi:=0,Names:=[],ai:=[],bO:=[]:ag}:aQ},N:=0,Text:=[],At:=0,Kids:=[]:ab}
abbrev cw.z:cw:={Name:=[],On:=[],Params:=[],Result:=0,Body:={Op:=0,aO:={a6:=0,aD:={Kind:=0,Lo:=0,Hi:=0,Names:=[],ai:=[],bO:=[]:ag}:aQ},N:=0,Text:=[],At:=0,Kids:=[]:ab}:cw}
abbrev af.z:af:={N:=0,Names:=[],ai:=[],Entries:=[]:af}
abbrev bD.z:bD:={a6:=0,N:=0,Name:=[],Names:=[]:bD}
abbrev aI.z:aI:={Kind:=0,Text:=[],N:=0,At:=0,Kids:=[]:aI}
abbrev fA.z:fA:={Code:=0,At:=0:fA}
abbrev dU.z:dU:={nodes:=0:dU}
theorem zi {p:Prop} (h:p:=by(try simp only[je]);repeat(first|exact cz.refl _|exact cz.nil _|exact cN.nil|exact eu.nil|exact cN.refl _|exact eu.refl _|exact cz.of (by simp only[je];rfl)|(dsimp only;try simp only[je])|apply cz.agg|apply cz.bY|apply cz.ip|apply cz.fn|apply cN.cons|apply cz.sl|apply eu.cons|apply eu.append)):p:=h
theorem zp {p:Prop} (h:p:=by repeat(first|exact aJ.nil|refine aJ.cons rfl (bl.eA (cl:=false) rfl aW) ?_|refine aJ.skip rfl ?_|refine aJ.cons rfl (fb (cl:=false) rfl aW) ?_)):p:=h
theorem zg {p:Prop} (h:p:=by first|rfl|simp only[lZ]|simp only[AO,lZ,pB,kp,gP,l4]):p:=h
theorem zn {p:Prop} (h:p:=by first|rfl|(simp only[je];rfl)|(simp only[je,lZ];rfl)|(simp only[aX.cs,ag.cs,TParam.cs,aQ.cs,ab.cs,cw.cs,ah.cs,az.cs,af.cs,bD.cs,aI.cs,fA.cs,dU.cs,cI.cs,bZ.cs,cG.cs,jo.cs,jq.cs,jt.cs,de.cs,dQ.cs,dt.cs,je,lZ];rfl)):p:=h
theorem zq {D:Type} {l:List D} {i:Nat} {x:D} {p:Prop} (h:l[i]? =some x) (k:i<l.length->p:=by intro h0;first|exact h0|(simpa only[AO,kp,lZ,pB,gP,l4,iK,aac,iO]using h0)):p:=k (cr.1 h).1
theorem zo {c p:Prop} [Decidable c] (h:decide c=true) (k:c->p:=by intro h0;simp only[AO,kp,lZ,gP,l4,iO]at h0⊢;omega):p:=k (jl h)
theorem zk {p:Prop} (h:p:=by kernel_rfl):p:=h
