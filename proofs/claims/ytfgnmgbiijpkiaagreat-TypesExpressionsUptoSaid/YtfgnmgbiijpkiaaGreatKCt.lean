/- The function that turns faults into results. -/
import Derived.Test.YtfgnmgbiijpkiaaGreatKEnv
import Derived.Tactics
import Derived.Tactics2
import Derived.Defers
import Derived.Recover
import Derived.Laws.Pointers
set_option linter.all false
section
namespace Go.Proofs.YtfgnmgbiijpkiaaGreat
open Go Go.Bw Go.Proofs.Tryz
abbrev zF:AV:= .agg [.v (.int .i64 0),.v (.int .i64 0)]
theorem EK (w:World) (b o:Nat) (cs:Array Value) (e:TypeId) (fz:Nat×Nat) (v:Value) (h:w.heap[b]? =some (.cells cs e fz)) (hv:cs[o]? =some v):w.setCell ⟨b,o,none⟩ v=w:=by
 have hcs:cs.setIfInBounds o v=cs:=by
  apply Wf;intro i;by_cases hi:o=i
  ·subst hi;rw[Array.getElem?_setIfInBounds_self_of_lt (jN.1 hv).1,hv]
  ·rw[Array.getElem?_setIfInBounds_ne hi]
 have hh:∀f:Obj->Obj,f (.cells cs e fz)= .cells cs e fz->w.heap.modify b f=w.heap:=by
  intro f hf;apply Wf;intro i;rw[Wg];by_cases hi:b=i
  ·subst hi;simp[h,hf]
  ·simp[hi]
 unfold World.setCell;rw[hh _ (by simp[hcs])]
theorem O' {c:Code} {N b:Nat} {cells cells':List AV} {Z:TS} {ZB:Sg} {F:Nat->Prop} {w:World} {a:Act}
  (h:af env N 1 [.code c] (λe _ η'=>e= .norm/\η'.e.get 0=some (.box (cells'.map .d))) Z (Hp.nil.push (.box (cells.map .d))))
  (hs:SS ⟨λt=>if t=0 then some b else none,λ_ _=>none⟩ Z (Bw.look ZB)) (hst:St env.G N w F a ZB [.box b cells]):
  c.wp Tryz.prog (λe a' w'=>e= .normal/\a'.tmps.size=N/\a'.defers=[]/\bz env.G w' F [.box b cells']/\Ext [.box b cells] w [.box b cells'] w') a w:=by
 have hh:HS ⟨λt=>if t=0 then some b else none,λ_ _=>none⟩ (Hp.nil.push (.box (cells.map .d))) [.box b cells]:=by
  refine⟨λi x hx=>?_,rfl,λt ht=>?_⟩
  ·rcases Tr.dU 24 _ 0 i _ x hx with⟨rfl,h1⟩|⟨_,h1⟩
   ·cases h1;exact⟨.box b cells,rfl,b,cells,by simp,rfl,fG _⟩
   ·simp[Hp.nil,Tr.get]at h1
  ·have:t≠0:=by simp only[Hp.push,Hp.nil]at ht;omega
   simp[this]
 refine wp_mono ((af.one h) _ ZB _ hs hh F w [.box b cells] a w hst (Ext.refl _ _)) ?_;rintro e a' w' ⟨e0,Z',OB',⟨L',d,Z1,O1,hl,hi,hs',hh',hd,hg⟩,hrel,hst',hx⟩;subst hd;simp only[DE.inst]at hi;subst hi;simp only[AE.rel]at hrel;obtain⟨y,hy,b',cs',hb',rfl,hcs⟩:=hh'.en 0 _ hg;have h0:=(hl 0 (by omega)).1;have:b'=b:=by
  rw[hb']at h0;simpa using h0
 subst this;have hcs:=kD (zs:=cells') (by
  have key:∀l:List AV,eF (l.map .d)=some l:=by
   intro l;induction l with
   |nil=>rfl
   |cons y l ih=>simp[eF,ih]
  exact key cells') hcs
 subst hcs;cases OB' with
 |nil=>simp[nth]at hy
 |cons x r=>
  simp only[nth,aA]at hy;subst hy;exact⟨hrel,hst'.sg.1,hst'.df,bz.drop (O:=[_]) (W:=r) hst'.hp,Ext.drop (η':=[_]) (W:=r) hx⟩
theorem NP (b:Nat) (k1 k2:IntKind) (x y:Int) (older:List PanicEntry) (F:Nat->Prop) (w:World) (hH:bz env.G w F [.box b [.v (.int .i64 0),.v (.int .i64 0)]]):
  CallsD Tryz.prog 79 #[.pointer (some ⟨b,0,none⟩)] (.panicking ({v:= .iface 28 (.agg #[.int k1 x,.int k2 y]),recovered:=false}::older)) w λe u' w'=>
   e= .returned (.tuple #[])/\u'= .panicking ({v:= .iface 28 (.agg #[.int k1 x,.int k2 y]),recovered:=true}::older)/\bz env.G w' F [.box b [.v (.int k1 x),.v (.int k2 y)]]/\Ext [.box b [.v (.int .i64 0),.v (.int .i64 0)]] w [.box b [.v (.int k1 x),.v (.int k2 y)]] w':=by
 refine callsD_of_wpS func79 rfl λc₀ cs hu=>?_;apply wpS_seq;apply wpS_region;simp[wpOpsS,go_sem,recoverD,hu,ntmps79,Exit.thenS];refine wpS_of_wp ?_;refine wp_mono (O' (N:=16) (cells':=[.v (.int k1 x),.v (.int k2 y)]) (Z:=Tr.put 24 (Tr.put 24 .lf 1 (some (.d (.bu 28 (.agg [.v (.int k1 x),.v (.int k2 y)]))))) 0 (some (.own 0 0))) (ZB:=[(0,.own 0 b 0),(1,.bu 28 (.agg [.v (.int k1 x),.v (.int k2 y)]))]) ?_ ?_ ⟨⟨?_,?_⟩,hH,rfl⟩) ?_
 ·refine Pa mixed 400 rfl ⟨rfl,rfl⟩
 ·intro t z hz;rcases Tr.dU 24 _ 0 t _ z hz with⟨rfl,h1⟩|⟨h0,hz⟩
  ·cases h1;exact⟨.own 0 b 0,rfl,by simp only[aE];exact⟨b,0,by simp,rfl⟩⟩
  ·rcases Tr.dU 24 _ 1 t _ z hz with⟨rfl,h1⟩|⟨_,hz⟩
   ·cases h1;exact⟨_,rfl,rfl⟩
   ·simp[Tr.get]at hz
 ·simp
 ·intro t z hz;simp only[Bw.look]at hz;split at hz
  ·rename_i hb;have:=bB hb;subst this;cases hz;exact⟨by omega,by simp[Rel]⟩
  ·split at hz
   ·rename_i hb;have:=bB hb;subst this;cases hz;exact⟨by omega,by simp[Rel,aF]⟩
   ·cases hz
 ·rintro e a' w' ⟨rfl,h1,h2,h3,h4⟩;refine⟨h2,_,rfl,?_⟩;simp[results,Tryz.results79,h3,h4,go_sem]
theorem Ni (b:Nat) (w:World):CallsD Tryz.prog 79 #[.pointer (some ⟨b,0,none⟩)] .returning w λe u' w'=>e= .returned (.tuple #[])/\u'= .returning/\w'=w:=by
 refine callsD_of_wpS func79 rfl λc₀ cs hu=>?_;apply wpS_seq;apply wpS_region;simp[wpOpsS,go_sem,recoverD,hu,ntmps79,Exit.thenS];apply wpS_seq;apply wpS_region;simp[wpOpsS,go_sem,Exit.thenS,eqGuard];refine wpS_cond (t:=false) (by simp[Act.eval,Array.replicate]) ?_;simp only[gW,if_false];refine wpS_of_wp (wp_skip ?_);cases c₀
 simp_all [bodyPostS,results,Tryz.results79]
theorem E5:nZ env 33 28 zF:=by
 intro g fs cs O Q h hp;refine⟨⟨_,func33,rfl,by kernel_rfl⟩,λF w vs hH hargs=>?_⟩;simp only[aF,Rel]at hargs;obtain⟨v,r,rfl,⟨us,ks,rfl,h1,h2⟩,rfl⟩:=hargs;show Calls Tryz.prog 33 _ w _;refine calls_of_wp_defers func33 rfl ?_;have hmf:∀(fn:Fn) (first cap:Array Value) (w:World),(Instr.makeFunc fn first cap).run Tryz.prog w= .ok (.func fn first cap) w:=λ_ _ _ _=>rfl;apply wp_seq;apply wp_region;simp[wpOps,go_sem,Exit.then,ntmps33];refine .inl ?_;apply wp_seq;apply wp_region;simp[wpOps,go_sem,Exit.then,hmf];refine .inl ?_;refine .inl ?_;apply wp_seq;apply wp_region;simp[wpOps,go_sem,Exit.then];refine .inl ?_;refine .inl ?_;have hcf:∀(ws:Array Value) (w':World),(callFunc g ws).run Tryz.prog w'= .ok (.enter g ws) w':=by
  intro ws w';obtain⟨fn,hf,hbody,hname⟩:=h.1;have hf':Tryz.prog.funcs[g]? =some fn:=hf;simp only[callFunc,Sem.run_bind,run_program,Result.andThen_ok,hf',hname,hbody,gW,if_false,Sem.run_pure]
 rw[hcf,Oper.upon_enter];obtain⟨b,hbdef⟩:∃b,b=w.heap.size:=⟨_,rfl⟩;have hpush:bz env.G (w.alloc (.cells #[.int .i64 0,.int .i64 0] 28)) F (O++[.box w.heap.size [.v (.int .i64 0),.v (.int .i64 0)]]):=by
  refine hH.push (by simp) (λb hb=>gY w _ b hb) (by simp[ah.ids]) (by simp[ah.ids]) ?_;exact⟨28,[.int .i64 0,.int .i64 0],iN w _,by simp[aF,Rel]⟩
 have hext0:=jS w (.cells #[.int .i64 0,.int .i64 0] 28) O (.box w.heap.size [.v (.int .i64 0),.v (.int .i64 0)]) (by simp[ah.ids]);have hargs:aF (w.alloc (.cells #[.int .i64 0,.int .i64 0] 28)) (Al (λx=>F x\/x∈ids [.box w.heap.size [.v (.int .i64 0),.v (.int .i64 0)]]) O) (fs++cs) (us++ks):=by
  rw[kG];exact(h1.append h2).bm hext0.keeps
 have hlt:w.heap.size<(w.alloc (.cells #[.int .i64 0,.int .i64 0] 28)).heap.size:=by simp
 have hbn:w.heap.size∉ids O:=λhm=>by have:=hH.lt _ hm;omega
 have hblk0:(w.alloc (.cells #[.int .i64 0,.int .i64 0] 28)).heap[w.heap.size]? =some (.cells #[.int .i64 0,.int .i64 0] 28):=iN w _;refine(h.2 _ _ (us++ks) hpush.front hargs).mono ?_;rintro e w' ⟨r,η',hQ,hv,hh,hext⟩;obtain⟨g1,g2⟩:=bz.back hpush hh hext;have hblk:w'.heap[w.heap.size]? =some (.cells #[.int .i64 0,.int .i64 0] 28):=(hext.block _ hlt hbn).trans hblk0;have hx0:=hext0.trans g2;rw[<-hbdef]at*
 generalize w.alloc (.cells #[.int .i64 0,.int .i64 0] 28)=w1 at*
 cases r with
 |ret x=>
  obtain⟨v,rfl,hv⟩:=hv;have hc0:w'.cell? ⟨b,0,none⟩=some (.int .i64 0):=by simp[World.cell?,hblk]
  have hc1:w'.cell? ⟨b,1,none⟩=some (.int .i64 0):=by simp[World.cell?,hblk]
  have hz0:w'.frozen? ⟨b,0,none⟩=false:=by simp[World.frozen?,hblk]
  have hz1:w'.frozen? ⟨b,1,none⟩=false:=by simp[World.frozen?,hblk]
  have hs0:=EK w' b 0 _ _ _ (.int .i64 0) hblk rfl;have hs1:=EK w' b 1 _ _ _ (.int .i64 0) hblk rfl;apply wp_seq;apply wp_region;simp[wpOps,go_sem,Exit.then,hc0,hc1,hz0,hz1,hs0,hs1];refine .inl ?_;refine .inl ?_;refine wp_ret ?_;simp only[bodyPostD];refine leaves_cons (f:=79) (args:= #[.pointer (some ⟨b,0,none⟩)]) (by simp) (by simp[go_sem]) ?_;refine(Ni b _).mono ?_;rintro e u' w'' ⟨rfl,rfl,rfl⟩;simp[Leaves,settle,results,Tryz.results33,go_sem,hc0,hc1];exact⟨.ret zF,η',.inl ⟨⟨x,hQ⟩,rfl⟩,⟨_,rfl,by simp[Rel,aF,zF]⟩,g1.drop,hx0.drop⟩
 |aO x=>
  obtain⟨v,rfl,hv⟩:=hv;simp only[Exit.then,bodyPostD];obtain⟨y,rfl,hf⟩:=hp x η' hQ;obtain⟨k1,a,k2,c,rfl⟩:∃k1 a k2 c,y= .agg [.v (.int k1 a),.v (.int k2 c)]:=by
   unfold kP at hf;split at hf
   ·exact⟨_,_,_,_,rfl⟩
   ·cases hf
  simp only[Rel,aF]at hv;obtain⟨u,rfl,vs,rfl,v1,r1,rfl,rfl,v2,r2,rfl,rfl,rfl⟩:=hv;refine leaves_cons (f:=79) (args:= #[.pointer (some ⟨b,0,none⟩)]) (by simp) (by simp[go_sem]) ?_;have gp:([ah.box b [.v (.int .i64 0),.v (.int .i64 0)]]++η').Perm (η'++[ah.box b [.v (.int .i64 0),.v (.int .i64 0)]]):=xj;have g1':=bz.perm gp.symm g1;refine(NP b k1 k2 a c [] _ w' g1'.front).mono ?_;rintro e u' w'' ⟨rfl,rfl,h3,h4⟩;obtain⟨q1,q2⟩:=bz.back g1' h3 h4;have q1':=bz.perm xj q1;have q2':=((hx0.perm gp.symm).trans q2).perm xj;obtain⟨e0,vs0,hb0,hr0⟩:=h3.ea _ (Wh ..);simp only[aF,Rel]at hr0;obtain⟨_,_,rfl,rfl,_,_,rfl,rfl,rfl⟩:=hr0;have hc0:w''.cell? ⟨b,0,none⟩=some (.int k1 a):=by simp[World.cell?,hb0]
  have hc1:w''.cell? ⟨b,1,none⟩=some (.int k2 c):=by simp[World.cell?,hb0]
  simp[Leaves,settle,results,Tryz.results33,go_sem,hc0,hc1];exact⟨.ret (.agg [.v (.int k1 a),.v (.int k2 c)]),η',.inr ⟨_,hQ,rfl⟩,⟨_,rfl,by simp[Rel,aF]⟩,q1'.drop,q2'.drop⟩
end Go.Proofs.YtfgnmgbiijpkiaaGreat
end

section
namespace Go.Proofs.YtfgnmgbiijpkiaaGreat
open Go Go.Bw
section
variable {D:Type} {r:List D->List (List AV)} {c:D->List AV}
abbrev fS (r:List D->List (List AV)) (c:D->List AV):Prop:=(∀a b,r (a++b)=r a++r b)/\(∀x l,r (x::l)=c x::r l)/\(r []=[])/\(∀k l,r (l.drop k)=(r l).drop k)/\(∀k l,r (l.take k)=(r l).take k)/\(∀l i x,r (l.set i x)=(r l).set i (c x))
abbrev gn (r:List D->List (List AV)):Prop:=∀l,(r l).length=l.length
variable (h:∀l,r l=l.map c)
include h
theorem fZ (l):(r l).length=l.length:=by rw[h,oM]
theorem nM {l} {i:Nat} {x} (e:l[i]? =some x):(r l)[i]? =some (c x):=by rw[h];exact get_map e
theorem PY (a b):r (a++b)=r a++r b:=by simp only[h,xh]
theorem O7 (n:Nat) (l):r (l.drop n)=(r l).drop n:=by simp only[h,Ml]
theorem O8 (n:Nat) (l):r (l.take n)=(r l).take n:=by simp only[h,Mm]
theorem O9 (x l):r (x::l)=c x::r l:=by simp only[h,dW]
theorem PZ:r []=[]:=by rw[h];rfl
theorem P0 (l) (i:Nat) (x):r (l.set i x)=(r l).set i (c x):=by simp only[h,DY]
theorem ga:fS r c:=⟨PY h,O9 h,PZ h,O7 h,O8 h,P0 h⟩
theorem rQ (hc:∀x,fF [c x]=true) (l):fF (r l)=true:=by rw[h];exact Ey hc l
end
structure ae where
 Kind:Int
 Text:(List UInt8)
 N:Int
 At:Int
 Kids:(List ae)
mutual
def ae.cells:ae->List AV
 |⟨vKind,vText,vN,vAt,vKids⟩=>[.v (.int .i64 vKind),.v (.string ⟨⟨vText⟩⟩),.v (.int .i64 vN),.v (.int .i64 vAt),.sl 5 (ae.rows vKids)]
def ae.rows:List ae->List (List AV)
 |[]=>[]
 |x::r=>ae.cells x::ae.rows r
end
def ae.cs (x:ae):List AV:=[.v (.int .i64 x.Kind),.v (.string ⟨⟨x.Text⟩⟩),.v (.int .i64 x.N),.v (.int .i64 x.At),.sl 5 (ae.rows x.Kids)]
theorem ae.rK:∀x:ae,ae.cells x=ae.cs x
 |⟨vKind,vText,vN,vAt,vKids⟩=>by first|rfl|simp only[ae.cells,ae.cs]
theorem ae.bL:∀l:List ae,ae.rows l=l.map ae.cs
 |[]=>by simp only[ae.rows,uk]
 |x::r=>by simp only[ae.rows,ae.rK,ae.bL r,dW]
def ae.bc:= @fZ _ _ _ ae.bL
def ae.aM:= @nM _ _ _ ae.bL
def ae.bS:= @rQ _ _ _ ae.bL λ_=>rfl
structure aK where
 Code:Int
 At:Int
def aK.cs (x:aK):List AV:=[.v (.int .i64 x.Code),.v (.int .i64 x.At)]
def aK.rows (l:List aK):List (List AV):=l.map aK.cs
theorem aK.bL (l:List aK):aK.rows l=l.map aK.cs:=rfl
def aK.bc:= @fZ _ _ _ aK.bL
structure aV where
 If:(List (List UInt8))
 eU:(List UInt8)
def aV.cs (x:aV):List AV:=[.sl 1 (bn x.If),.v (.string ⟨⟨x.eU⟩⟩)]
def aV.rows (l:List aV):List (List AV):=l.map aV.cs
theorem aV.bL (l:List aV):aV.rows l=l.map aV.cs:=rfl
def aV.bc:= @fZ _ _ _ aV.bL
def aV.aM:= @nM _ _ _ aV.bL
def aV.bS:= @rQ _ _ _ aV.bL λ_=>rfl
structure ai where
 Kind:Int
 Lo:Int
 Hi:Int
 Names:(List (List UInt8))
 aB:(List ai)
 bw:(List aV)
mutual
def ai.cells:ai->List AV
 |⟨vKind,vLo,vHi,vNames,vParts,vRules⟩=>[.v (.int .i64 vKind),.v (.int .i64 vLo),.v (.int .i64 vHi),.sl 1 (bn vNames),.sl 6 (ai.rows vParts),.sl 2 (aV.rows vRules)]
def ai.rows:List ai->List (List AV)
 |[]=>[]
 |x::r=>ai.cells x::ai.rows r
end
def ai.cs (x:ai):List AV:=[.v (.int .i64 x.Kind),.v (.int .i64 x.Lo),.v (.int .i64 x.Hi),.sl 1 (bn x.Names),.sl 6 (ai.rows x.aB),.sl 2 (aV.rows x.bw)]
theorem ai.rK:∀x:ai,ai.cells x=ai.cs x
 |⟨vKind,vLo,vHi,vNames,vParts,vRules⟩=>by first|rfl|simp only[ai.cells,ai.cs]
theorem ai.bL:∀l:List ai,ai.rows l=l.map ai.cs
 |[]=>by simp only[ai.rows,uk]
 |x::r=>by simp only[ai.rows,ai.rK,ai.bL r,dW]
def ai.bc:= @fZ _ _ _ ai.bL
def ai.aM:= @nM _ _ _ ai.bL
def ai.bS:= @rQ _ _ _ ai.bL λ_=>rfl
structure cP where
 Name:(List UInt8)
 aj:ai
def cP.cs (x:cP):List AV:=[.v (.string ⟨⟨x.Name⟩⟩),.v (.int .i64 x.aj.Kind),.v (.int .i64 x.aj.Lo),.v (.int .i64 x.aj.Hi),.sl 1 (bn x.aj.Names),.sl 6 (ai.rows x.aj.aB),.sl 2 (aV.rows x.aj.bw)]
def cP.rows (l:List cP):List (List AV):=l.map cP.cs
theorem cP.bL (l:List cP):cP.rows l=l.map cP.cs:=rfl
def cP.bc:= @fZ _ _ _ cP.bL
structure TParam where
 Name:(List UInt8)
 aS:Int
def TParam.cs (x:TParam):List AV:=[.v (.string ⟨⟨x.Name⟩⟩),.v (.int .i64 x.aS)]
def TParam.rows (l:List TParam):List (List AV):=l.map TParam.cs
theorem TParam.bL (l:List TParam):TParam.rows l=l.map TParam.cs:=rfl
def TParam.bc:= @fZ _ _ _ TParam.bL
def TParam.aM:= @nM _ _ _ TParam.bL
structure az where
 aS:Int
 aj:ai
def az.cs (x:az):List AV:=[.v (.int .i64 x.aS),.v (.int .i64 x.aj.Kind),.v (.int .i64 x.aj.Lo),.v (.int .i64 x.aj.Hi),.sl 1 (bn x.aj.Names),.sl 6 (ai.rows x.aj.aB),.sl 2 (aV.rows x.aj.bw)]
def az.rows (l:List az):List (List AV):=l.map az.cs
theorem az.bL (l:List az):az.rows l=l.map az.cs:=rfl
def az.bc:= @fZ _ _ _ az.bL
def az.aM:= @nM _ _ _ az.bL
structure ab where
 Op:Int
 ak:az
 N:Int
 Text:(List UInt8)
 At:Int
 Kids:(List ab)
mutual
def ab.cells:ab->List AV
 |⟨vOp,vType_,vN,vText,vAt,vKids⟩=>[.v (.int .i64 vOp),.v (.int .i64 vType_.aS),.v (.int .i64 vType_.aj.Kind),.v (.int .i64 vType_.aj.Lo),.v (.int .i64 vType_.aj.Hi),.sl 1 (bn vType_.aj.Names),.sl 6 (ai.rows vType_.aj.aB),.sl 2 (aV.rows vType_.aj.bw),.v (.int .i64 vN),.v (.string ⟨⟨vText⟩⟩),.v (.int .i64 vAt),.sl 12 (ab.rows vKids)]
def ab.rows:List ab->List (List AV)
 |[]=>[]
 |x::r=>ab.cells x::ab.rows r
end
def ab.cs (x:ab):List AV:=[.v (.int .i64 x.Op),.v (.int .i64 x.ak.aS),.v (.int .i64 x.ak.aj.Kind),.v (.int .i64 x.ak.aj.Lo),.v (.int .i64 x.ak.aj.Hi),.sl 1 (bn x.ak.aj.Names),.sl 6 (ai.rows x.ak.aj.aB),.sl 2 (aV.rows x.ak.aj.bw),.v (.int .i64 x.N),.v (.string ⟨⟨x.Text⟩⟩),.v (.int .i64 x.At),.sl 12 (ab.rows x.Kids)]
theorem ab.rK:∀x:ab,ab.cells x=ab.cs x
 |⟨vOp,vType_,vN,vText,vAt,vKids⟩=>by first|rfl|simp only[ab.cells,ab.cs]
theorem ab.bL:∀l:List ab,ab.rows l=l.map ab.cs
 |[]=>by simp only[ab.rows,uk]
 |x::r=>by simp only[ab.rows,ab.rK,ab.bL r,dW]
def ab.bc:= @fZ _ _ _ ab.bL
def ab.aM:= @nM _ _ _ ab.bL
def ab.bS:= @rQ _ _ _ ab.bL λ_=>rfl
structure cz where
 Name:(List UInt8)
 On:(List UInt8)
 Params:(List TParam)
 Result:Int
 Body:ab
def cz.cs (x:cz):List AV:=[.v (.string ⟨⟨x.Name⟩⟩),.v (.string ⟨⟨x.On⟩⟩),.sl 2 (TParam.rows x.Params),.v (.int .i64 x.Result),.v (.int .i64 x.Body.Op),.v (.int .i64 x.Body.ak.aS),.v (.int .i64 x.Body.ak.aj.Kind),.v (.int .i64 x.Body.ak.aj.Lo),.v (.int .i64 x.Body.ak.aj.Hi),.sl 1 (bn x.Body.ak.aj.Names),.sl 6 (ai.rows x.Body.ak.aj.aB),.sl 2 (aV.rows x.Body.ak.aj.bw),.v (.int .i64 x.Body.N),.v (.string ⟨⟨x.Body.Text⟩⟩),.v (.int .i64 x.Body.At),.sl 12 (ab.rows x.Body.Kids)]
def cz.rows (l:List cz):List (List AV):=l.map cz.cs
theorem cz.bL (l:List cz):cz.rows l=l.map cz.cs:=rfl
def cz.bc:= @fZ _ _ _ cz.bL
structure dJ where
 pI:(List cP)
 pJ:(List cz)
 Queries:(List cz)
def dJ.cs (x:dJ):List AV:=[.sl 7 (cP.rows x.pI),.sl 16 (cz.rows x.pJ),.sl 16 (cz.rows x.Queries)]
def dJ.rows (l:List dJ):List (List AV):=l.map dJ.cs
theorem dJ.bL (l:List dJ):dJ.rows l=l.map dJ.cs:=rfl
def dJ.bc:= @fZ _ _ _ dJ.bL
structure fe where
 count:Int
 used:(List (List UInt8))
 FL:(List cP)
 out:dJ
def fe.cs (x:fe):List AV:=[.v (.int .i64 x.count),.sl 1 (bn x.used),.sl 7 (cP.rows x.FL),.sl 7 (cP.rows x.out.pI),.sl 16 (cz.rows x.out.pJ),.sl 16 (cz.rows x.out.Queries)]
def fe.rows (l:List fe):List (List AV):=l.map fe.cs
theorem fe.bL (l:List fe):fe.rows l=l.map fe.cs:=rfl
def fe.bc:= @fZ _ _ _ fe.bL
structure bR where
 l:ai
 params:(List TParam)
def bR.cs (x:bR):List AV:=[.v (.int .i64 x.l.Kind),.v (.int .i64 x.l.Lo),.v (.int .i64 x.l.Hi),.sl 1 (bn x.l.Names),.sl 6 (ai.rows x.l.aB),.sl 2 (aV.rows x.l.bw),.sl 2 (TParam.rows x.params)]
def bR.rows (l:List bR):List (List AV):=l.map bR.cs
theorem bR.bL (l:List bR):bR.rows l=l.map bR.cs:=rfl
def bR.bc:= @fZ _ _ _ bR.bL
structure cr where
 L:ai
 Params:(List TParam)
def cr.cs (x:cr):List AV:=[.v (.int .i64 x.L.Kind),.v (.int .i64 x.L.Lo),.v (.int .i64 x.L.Hi),.sl 1 (bn x.L.Names),.sl 6 (ai.rows x.L.aB),.sl 2 (aV.rows x.L.bw),.sl 2 (TParam.rows x.Params)]
def cr.rows (l:List cr):List (List AV):=l.map cr.cs
theorem cr.bL (l:List cr):cr.rows l=l.map cr.cs:=rfl
def cr.bc:= @fZ _ _ _ cr.bL
structure fb where
 known:(List cP)
def fb.cs (x:fb):List AV:=[.sl 7 (cP.rows x.known)]
def fb.rows (l:List fb):List (List AV):=l.map fb.cs
theorem fb.bL (l:List fb):fb.rows l=l.map fb.cs:=rfl
def fb.bc:= @fZ _ _ _ fb.bL
structure bl where
 Kind:Int
 Text:(List UInt8)
 N:Int
 At:Int
def bl.cs (x:bl):List AV:=[.v (.int .i64 x.Kind),.v (.string ⟨⟨x.Text⟩⟩),.v (.int .i64 x.N),.v (.int .i64 x.At)]
def bl.rows (l:List bl):List (List AV):=l.map bl.cs
theorem bl.bL (l:List bl):bl.rows l=l.map bl.cs:=rfl
def bl.bc:= @fZ _ _ _ bl.bL
def bl.aM:= @nM _ _ _ bl.bL
def bl.bS:= @rQ _ _ _ bl.bL λ_=>rfl
structure ay where
 T:(List bl)
 I:Int
 Open:Int
 aI:Bool
 aP:aK
def ay.cs (x:ay):List AV:=[.sl 4 (bl.rows x.T),.v (.int .i64 x.I),.v (.int .i64 x.Open),.v (.bool x.aI),.v (.int .i64 x.aP.Code),.v (.int .i64 x.aP.At)]
def ay.rows (l:List ay):List (List AV):=l.map ay.cs
theorem ay.bL (l:List ay):ay.rows l=l.map ay.cs:=rfl
def ay.bc:= @fZ _ _ _ ay.bL
structure fc where
 nodes:Int
def fc.cs (x:fc):List AV:=[.v (.int .i64 x.nodes)]
def fc.rows (l:List fc):List (List AV):=l.map fc.cs
theorem fc.bL (l:List fc):fc.rows l=l.map fc.cs:=rfl
def fc.bc:= @fZ _ _ _ fc.bL
theorem aG:fS ae.rows ae.cs/\fS aK.rows aK.cs/\fS aV.rows aV.cs/\fS ai.rows ai.cs/\fS cP.rows cP.cs/\fS TParam.rows TParam.cs/\fS az.rows az.cs/\fS ab.rows ab.cs/\fS cz.rows cz.cs/\fS dJ.rows dJ.cs/\fS fe.rows fe.cs/\fS bR.rows bR.cs/\fS cr.rows cr.cs/\fS fb.rows fb.cs/\fS bl.rows bl.cs/\fS ay.rows ay.cs/\fS fc.rows fc.cs/\(∀a b,bn (a++b)=bn a++bn b)/\(∀x r,bn (x::r)=[.v (.string ⟨⟨x⟩⟩)]::bn r)/\(∀k x r,eC k (x::r)=[.v (.int k x)]::eC k r)/\(bn []=[])/\(∀k,eC k []=[])/\(∀(k:Nat) l,bn (l.drop k)=(bn l).drop k)/\(∀(k:Nat) l,bn (l.take k)=(bn l).take k)/\(∀k a b,eC k (a++b)=eC k a++eC k b)/\(∀a b,gL (a++b)=gL a++gL b)/\(∀l (i:Nat) x,bn (l.set i x)=(bn l).set i [.v (.string ⟨⟨x⟩⟩)])/\(∀k l (i:Nat) x,eC k (l.set i x)=(eC k l).set i [.v (.int k x)])/\(∀l (i:Nat) x,gL (l.set i x)=(gL l).set i [.v (.bool x)]):=⟨ga ae.bL,ga aK.bL,ga aV.bL,ga ai.bL,ga cP.bL,ga TParam.bL,ga az.bL,ga ab.bL,ga cz.bL,ga dJ.bL,ga fe.bL,ga bR.bL,ga cr.bL,ga fb.bL,ga bl.bL,ga ay.bL,ga fc.bL,(λ_ _=>NL),(λ_ _=>rfl),(λ_ _ _=>rfl),rfl,(λ_=>rfl),(λ_ _=>Ng),(λ_ _=>Nh),(λ_ _ _=>NM),(λ_ _=>NN),(λ_ _ _=>DY),(λ_ _ _ _=>DY),(λ_ _ _=>DY)⟩
theorem sY:gn ae.rows/\gn aK.rows/\gn aV.rows/\gn ai.rows/\gn cP.rows/\gn TParam.rows/\gn az.rows/\gn ab.rows/\gn cz.rows/\gn dJ.rows/\gn fe.rows/\gn bR.rows/\gn cr.rows/\gn fb.rows/\gn bl.rows/\gn ay.rows/\gn fc.rows/\(∀l,(bn l).length=l.length)/\(∀k l,(eC k l).length=l.length)/\(∀l,(gL l).length=l.length):=⟨ae.bc,aK.bc,aV.bc,ai.bc,cP.bc,TParam.bc,az.bc,ab.bc,cz.bc,dJ.bc,fe.bc,bR.bc,cr.bc,fb.bc,bl.bc,ay.bc,fc.bc,(λ_=>du),(λ_ _=>xX),(λ_=>NO)⟩
abbrev ae.z:ae:={Kind:=0,Text:=[],N:=0,At:=0,Kids:=[]:ae}
abbrev aK.z:aK:={Code:=0,At:=0:aK}
abbrev aV.z:aV:={If:=[],eU:=[]:aV}
abbrev ai.z:ai:={Kind:=0,Lo:=0,Hi:=0,Names:=[],aB:=[],bw:=[]:ai}
abbrev cP.z:cP:={Name:=[],aj:={Kind:=0,Lo:=0,Hi:=0,Names:=[],aB:=[],bw:=[]:ai}:cP}
abbrev TParam.z:TParam:={Name:=[],aS:=0:TParam}
abbrev az.z:az:={aS:=0,aj:={Kind:=0,Lo:=0,Hi:=0,Names:=[],aB:=[],bw:=[]:ai}:az}
abbrev ab.z:ab:={Op:=0,ak:={aS:=0,aj:={Kind:=0,Lo:=0,Hi:=0,Names:=[],aB:=[],bw:=[]:ai}:az},N:=0,Text:=[],At:=0,Kids:=[]:ab}
abbrev cz.z:cz:={Name:=[],On:=[],Params:=[],Result:=0,Body:={Op:=0,ak:={aS:=0,aj:={Kind:=0,Lo:=0,Hi:=0,Names:=[],aB:=[],bw:=[]:ai}:az},N:=0,Text:=[],At:=0,Kids:=[]:ab}:cz}
abbrev dJ.z:dJ:={pI:=[],pJ:=[],Queries:=[]:dJ}
abbrev fe.z:fe:={count:=0,used:=[],FL:=[],out:={pI:=[],pJ:=[],Queries:=[]:dJ}:fe}
abbrev bR.z:bR:={l:={Kind:=0,Lo:=0,Hi:=0,Names:=[],aB:=[],bw:=[]:ai},params:=[]:bR}
abbrev cr.z:cr:={L:={Kind:=0,Lo:=0,Hi:=0,Names:=[],aB:=[],bw:=[]:ai},Params:=[]:cr}
abbrev fb.z:fb:={known:=[]:fb}
abbrev bl.z:bl:={Kind:=0,Text:=[],N:=0,At:=0:bl}
abbrev ay.z:ay:={T:=[],I:=0,Open:=0,aI:=false,aP:={Code:=0,At:=0:aK}:ay}
abbrev fc.z:fc:={nodes:=0:fc}
theorem zi {p:Prop} (h:p:=by(try simp only[aG]);repeat(first|exact bQ.refl _|exact bQ.nil _|exact bP.nil|exact de.nil|exact bP.refl _|exact de.refl _|exact bQ.of (by simp only[aG];rfl)|(dsimp only;try simp only[aG])|apply bQ.agg|apply bQ.bK|apply bQ.ip|apply bQ.fn|apply bP.cons|apply bQ.sl|apply de.cons|apply de.append)):p:=h
theorem zp {p:Prop} (h:p:=by repeat(first|exact aD.nil|refine aD.cons rfl (a8.dk (cl:=false) rfl aT) ?_|refine aD.skip rfl ?_|refine aD.cons rfl (dK (cl:=false) rfl aT) ?_)):p:=h
theorem zg {p:Prop} (h:p:=by first|rfl|simp only[mQ]|simp only[sY,mQ,DX,jL,jM,lW]):p:=h
theorem zn {p:Prop} (h:p:=by first|rfl|(simp only[aG];rfl)|(simp only[aG,mQ];rfl)|(simp only[ae.cs,aK.cs,aV.cs,ai.cs,cP.cs,TParam.cs,az.cs,ab.cs,cz.cs,dJ.cs,fe.cs,bR.cs,cr.cs,fb.cs,bl.cs,ay.cs,fc.cs,aG,mQ];rfl)):p:=h
theorem zq {D:Type} {l:List D} {i:Nat} {x:D} {p:Prop} (h:l[i]? =some x) (k:i<l.length->p:=by intro h0;first|exact h0|(simpa only[sY,jL,mQ,DX,jM,lW,rj,xi,fD]using h0)):p:=k (c8.1 h).1
theorem zo {c p:Prop} [Decidable c] (h:decide c=true) (k:c->p:=by intro h0;simp only[sY,jL,mQ,jM,lW,fD]at h0⊢;omega):p:=k (xg h)
theorem zk {p:Prop} (h:p:=by kernel_rfl):p:=h
