/- The function that turns faults into results. -/
import Derived.Test.YthlcjaanmbjcaaaGreatKEnv
import Derived.Tactics
import Derived.Tactics2
import Derived.Defers
import Derived.Recover
import Derived.Laws.Pointers
set_option linter.all false
section
namespace Go.Proofs.YthlcjaanmbjcaaaGreat
open Go Go.Bw Go.Proofs.Tryz
abbrev zF:AV:= .agg [.v (.int .i64 0),.v (.int .i64 0)]
theorem CA (w:World) (b o:Nat) (cs:Array Value) (e:TypeId) (fz:Nat×Nat) (v:Value) (h:w.heap[b]? =some (.cells cs e fz)) (hv:cs[o]? =some v):w.setCell ⟨b,o,none⟩ v=w:=by
 have hcs:cs.setIfInBounds o v=cs:=by
  apply JL;intro i;by_cases hi:o=i
  ·subst hi;rw[Array.getElem?_setIfInBounds_self_of_lt (fZ.1 hv).1,hv]
  ·rw[Array.getElem?_setIfInBounds_ne hi]
 have hh:∀f:Obj->Obj,f (.cells cs e fz)= .cells cs e fz->w.heap.modify b f=w.heap:=by
  intro f hf;apply JL;intro i;rw[R3];by_cases hi:b=i
  ·subst hi;simp[h,hf]
  ·simp[hi]
 unfold World.setCell;rw[hh _ (by simp[hcs])]
theorem Mj {c:Code} {N b:Nat} {cells cells':List AV} {Z:TS} {ZB:Sg} {F:Nat->Prop} {w:World} {a:Act}
  (h:ai env N 1 [.code c] (λe _ O'=>e= .norm/\O'.e.get 0=some (.box (cells'.map .d))) Z (Hp.nil.push (.box (cells.map .d))))
  (hs:SS ⟨λt=>if t=0 then some b else none,λ_ _=>none⟩ Z (Bw.look ZB)) (hst:St env.G N w F a ZB [.box b cells]):
  c.wp Tryz.prog (λe a' w'=>e= .normal/\a'.tmps.size=N/\a'.defers=[]/\bh env.G w' F [.box b cells']/\Ext [.box b cells] w [.box b cells'] w') a w:=by
 have hh:HS ⟨λt=>if t=0 then some b else none,λ_ _=>none⟩ (Hp.nil.push (.box (cells.map .d))) [.box b cells]:=by
  refine⟨λi x hx=>?_,rfl,λt ht=>?_⟩
  ·rcases Tr.dA 24 _ 0 i _ x hx with⟨rfl,h1⟩|⟨_,h1⟩
   ·cases h1;exact⟨.box b cells,rfl,b,cells,by simp,rfl,fi _⟩
   ·simp[Hp.nil,Tr.get]at h1
  ·have:t≠0:=by simp only[Hp.push,Hp.nil]at ht;omega
   simp[this]
 refine wp_mono ((ai.one h) _ ZB _ hs hh F w [.box b cells] a w hst (Ext.refl _ _)) ?_;rintro e a' w' ⟨e0,Z',OB',⟨L',d,Z1,O1,hl,hi,hs',hh',hd,hg⟩,hrel,hst',hx⟩;subst hd;simp only[DE.inst]at hi;subst hi;simp only[AE.rel]at hrel;obtain⟨y,hy,b',cs',hb',rfl,hcs⟩:=hh'.en 0 _ hg;have h0:=(hl 0 (by omega)).1;have:b'=b:=by
  rw[hb']at h0;simpa using h0
 subst this;have hcs:=jk (zs:=cells') (by
  have key:∀l:List AV,eg (l.map .d)=some l:=by
   intro l;induction l with
   |nil=>rfl
   |cons y l ih=>simp[eg,ih]
  exact key cells') hcs
 subst hcs;cases OB' with
 |nil=>simp[nth]at hy
 |cons x r=>
  simp only[nth,ao]at hy;subst hy;exact⟨hrel,hst'.sg.1,hst'.df,bh.drop (O:=[_]) (W:=r) hst'.hp,Ext.drop (O':=[_]) (W:=r) hx⟩
theorem La (b:Nat) (k1 k2:IntKind) (x y:Int) (older:List PanicEntry) (F:Nat->Prop) (w:World) (hH:bh env.G w F [.box b [.v (.int .i64 0),.v (.int .i64 0)]]):
  CallsD Tryz.prog 100 #[.pointer (some ⟨b,0,none⟩)] (.panicking ({v:= .iface 87 (.agg #[.int k1 x,.int k2 y]),recovered:=false}::older)) w λe u' w'=>
   e= .returned (.tuple #[])/\u'= .panicking ({v:= .iface 87 (.agg #[.int k1 x,.int k2 y]),recovered:=true}::older)/\bh env.G w' F [.box b [.v (.int k1 x),.v (.int k2 y)]]/\Ext [.box b [.v (.int .i64 0),.v (.int .i64 0)]] w [.box b [.v (.int k1 x),.v (.int k2 y)]] w':=by
 refine callsD_of_wpS func100 rfl λc₀ cs hu=>?_;apply wpS_seq;apply wpS_region;simp[wpOpsS,go_sem,recoverD,hu,ntmps100,Exit.thenS];refine wpS_of_wp ?_;refine wp_mono (Mj (N:=16) (cells':=[.v (.int k1 x),.v (.int k2 y)]) (Z:=Tr.put 24 (Tr.put 24 .lf 1 (some (.d (.ba 87 (.agg [.v (.int k1 x),.v (.int k2 y)]))))) 0 (some (.own 0 0))) (ZB:=[(0,.own 0 b 0),(1,.ba 87 (.agg [.v (.int k1 x),.v (.int k2 y)]))]) ?_ ?_ ⟨⟨?_,?_⟩,hH,rfl⟩) ?_
 ·refine Mk mixed 400 rfl ⟨rfl,rfl⟩
 ·intro t z hz;rcases Tr.dA 24 _ 0 t _ z hz with⟨rfl,h1⟩|⟨h0,hz⟩
  ·cases h1;exact⟨.own 0 b 0,rfl,by simp only[aw];exact⟨b,0,by simp,rfl⟩⟩
  ·rcases Tr.dA 24 _ 1 t _ z hz with⟨rfl,h1⟩|⟨_,hz⟩
   ·cases h1;exact⟨_,rfl,rfl⟩
   ·simp[Tr.get]at hz
 ·simp
 ·intro t z hz;simp only[Bw.look]at hz;split at hz
  ·rename_i hb;have:=bf hb;subst this;cases hz;exact⟨by omega,by simp[Rel]⟩
  ·split at hz
   ·rename_i hb;have:=bf hb;subst this;cases hz;exact⟨by omega,by simp[Rel,ax]⟩
   ·cases hz
 ·rintro e a' w' ⟨rfl,h1,h2,h3,h4⟩;refine⟨h2,_,rfl,?_⟩;simp[results,Tryz.results100,h3,h4,go_sem]
theorem KC (b:Nat) (w:World):CallsD Tryz.prog 100 #[.pointer (some ⟨b,0,none⟩)] .returning w λe u' w'=>e= .returned (.tuple #[])/\u'= .returning/\w'=w:=by
 refine callsD_of_wpS func100 rfl λc₀ cs hu=>?_;apply wpS_seq;apply wpS_region;simp[wpOpsS,go_sem,recoverD,hu,ntmps100,Exit.thenS];apply wpS_seq;apply wpS_region;simp[wpOpsS,go_sem,Exit.thenS,eqGuard];refine wpS_cond (t:=false) (by simp[Act.eval,Array.replicate]) ?_;simp only[fY,if_false];refine wpS_of_wp (wp_skip ?_);cases c₀
 simp_all [bodyPostS,results,Tryz.results100]
theorem Lb:oo env 71 87 zF:=by
 intro g fs cs O Q h hp;refine⟨⟨_,func71,rfl,by kernel_rfl⟩,λF w vs hH hargs=>?_⟩;simp only[ax,Rel]at hargs;obtain⟨v,r,rfl,⟨us,ks,rfl,h1,h2⟩,rfl⟩:=hargs;show Calls Tryz.prog 71 _ w _;refine calls_of_wp_defers func71 rfl ?_;have hmf:∀(fn:Fn) (first cap:Array Value) (w:World),(Instr.makeFunc fn first cap).run Tryz.prog w= .ok (.func fn first cap) w:=λ_ _ _ _=>rfl;apply wp_seq;apply wp_region;simp[wpOps,go_sem,Exit.then,ntmps71];refine .inl ?_;apply wp_seq;apply wp_region;simp[wpOps,go_sem,Exit.then,hmf];refine .inl ?_;refine .inl ?_;apply wp_seq;apply wp_region;simp[wpOps,go_sem,Exit.then];refine .inl ?_;refine .inl ?_;have hcf:∀(ws:Array Value) (w':World),(callFunc g ws).run Tryz.prog w'= .ok (.enter g ws) w':=by
  intro ws w';obtain⟨fn,hf,hbody,hname⟩:=h.1;have hf':Tryz.prog.funcs[g]? =some fn:=hf;simp only[callFunc,Sem.run_bind,run_program,Result.andThen_ok,hf',hname,hbody,fY,if_false,Sem.run_pure]
 rw[hcf,Oper.upon_enter];obtain⟨b,hbdef⟩:∃b,b=w.heap.size:=⟨_,rfl⟩;have hpush:bh env.G (w.alloc (.cells #[.int .i64 0,.int .i64 0] 87)) F (O++[.box w.heap.size [.v (.int .i64 0),.v (.int .i64 0)]]):=by
  refine hH.push (by simp) (λb hb=>gb w _ b hb) (by simp[ag.ids]) (by simp[ag.ids]) ?_;exact⟨87,[.int .i64 0,.int .i64 0],gE w _,by simp[ax,Rel]⟩
 have hext0:=iB w (.cells #[.int .i64 0,.int .i64 0] 87) O (.box w.heap.size [.v (.int .i64 0),.v (.int .i64 0)]) (by simp[ag.ids]);have hargs:ax (w.alloc (.cells #[.int .i64 0,.int .i64 0] 87)) (Al (λx=>F x\/x∈ids [.box w.heap.size [.v (.int .i64 0),.v (.int .i64 0)]]) O) (fs++cs) (us++ks):=by
  rw[jN];exact(h1.append h2).aU hext0.keeps
 have hlt:w.heap.size<(w.alloc (.cells #[.int .i64 0,.int .i64 0] 87)).heap.size:=by simp
 have hbn:w.heap.size∉ids O:=λhm=>by have:=hH.lt _ hm;omega
 have hblk0:(w.alloc (.cells #[.int .i64 0,.int .i64 0] 87)).heap[w.heap.size]? =some (.cells #[.int .i64 0,.int .i64 0] 87):=gE w _;refine(h.2 _ _ (us++ks) hpush.front hargs).mono ?_;rintro e w' ⟨r,O',hQ,hv,hh,hext⟩;obtain⟨g1,g2⟩:=bh.back hpush hh hext;have hblk:w'.heap[w.heap.size]? =some (.cells #[.int .i64 0,.int .i64 0] 87):=(hext.block _ hlt hbn).trans hblk0;have hx0:=hext0.trans g2;rw[<-hbdef]at*
 generalize w.alloc (.cells #[.int .i64 0,.int .i64 0] 87)=w1 at*
 cases r with
 |ret x=>
  obtain⟨v,rfl,hv⟩:=hv;have hc0:w'.cell? ⟨b,0,none⟩=some (.int .i64 0):=by simp[World.cell?,hblk]
  have hc1:w'.cell? ⟨b,1,none⟩=some (.int .i64 0):=by simp[World.cell?,hblk]
  have hz0:w'.frozen? ⟨b,0,none⟩=false:=by simp[World.frozen?,hblk]
  have hz1:w'.frozen? ⟨b,1,none⟩=false:=by simp[World.frozen?,hblk]
  have hs0:=CA w' b 0 _ _ _ (.int .i64 0) hblk rfl;have hs1:=CA w' b 1 _ _ _ (.int .i64 0) hblk rfl;apply wp_seq;apply wp_region;simp[wpOps,go_sem,Exit.then,hc0,hc1,hz0,hz1,hs0,hs1];refine .inl ?_;refine .inl ?_;refine wp_ret ?_;simp only[bodyPostD];refine leaves_cons (f:=100) (args:= #[.pointer (some ⟨b,0,none⟩)]) (by simp) (by simp[go_sem]) ?_;refine(KC b _).mono ?_;rintro e u' w'' ⟨rfl,rfl,rfl⟩;simp[Leaves,settle,results,Tryz.results71,go_sem,hc0,hc1];exact⟨.ret zF,O',.inl ⟨⟨x,hQ⟩,rfl⟩,⟨_,rfl,by simp[Rel,ax,zF]⟩,g1.drop,hx0.drop⟩
 |aD x=>
  obtain⟨v,rfl,hv⟩:=hv;simp only[Exit.then,bodyPostD];obtain⟨y,rfl,hf⟩:=hp x O' hQ;obtain⟨k1,a,k2,c,rfl⟩:∃k1 a k2 c,y= .agg [.v (.int k1 a),.v (.int k2 c)]:=by
   unfold jv at hf;split at hf
   ·exact⟨_,_,_,_,rfl⟩
   ·cases hf
  simp only[Rel,ax]at hv;obtain⟨u,rfl,vs,rfl,v1,r1,rfl,rfl,v2,r2,rfl,rfl,rfl⟩:=hv;refine leaves_cons (f:=100) (args:= #[.pointer (some ⟨b,0,none⟩)]) (by simp) (by simp[go_sem]) ?_;have gp:([ag.box b [.v (.int .i64 0),.v (.int .i64 0)]]++O').Perm (O'++[ag.box b [.v (.int .i64 0),.v (.int .i64 0)]]):=uP;have g1':=bh.perm gp.symm g1;refine(La b k1 k2 a c [] _ w' g1'.front).mono ?_;rintro e u' w'' ⟨rfl,rfl,h3,h4⟩;obtain⟨q1,q2⟩:=bh.back g1' h3 h4;have q1':=bh.perm uP q1;have q2':=((hx0.perm gp.symm).trans q2).perm uP;obtain⟨e0,vs0,hb0,hr0⟩:=h3.dw _ (R4 ..);simp only[ax,Rel]at hr0;obtain⟨_,_,rfl,rfl,_,_,rfl,rfl,rfl⟩:=hr0;have hc0:w''.cell? ⟨b,0,none⟩=some (.int k1 a):=by simp[World.cell?,hb0]
  have hc1:w''.cell? ⟨b,1,none⟩=some (.int k2 c):=by simp[World.cell?,hb0]
  simp[Leaves,settle,results,Tryz.results71,go_sem,hc0,hc1];exact⟨.ret (.agg [.v (.int k1 a),.v (.int k2 c)]),O',.inr ⟨_,hQ,rfl⟩,⟨_,rfl,by simp[Rel,ax]⟩,q1'.drop,q2'.drop⟩
end Go.Proofs.YthlcjaanmbjcaaaGreat
end

section
namespace Go.Proofs.YthlcjaanmbjcaaaGreat
open Go Go.Bw
section
variable {D:Type} {r:List D->List (List AV)} {c:D->List AV}
abbrev im (r:List D->List (List AV)) (c:D->List AV):Prop:=(∀a b,r (a++b)=r a++r b)/\(∀x l,r (x::l)=c x::r l)/\(r []=[])/\(∀k l,r (l.drop k)=(r l).drop k)/\(∀k l,r (l.take k)=(r l).take k)/\(∀l i x,r (l.set i x)=(r l).set i (c x))
abbrev iX (r:List D->List (List AV)):Prop:=∀l,(r l).length=l.length
variable (h:∀l,r l=l.map c)
include h
theorem iG (l):(r l).length=l.length:=by rw[h,mK]
theorem pN {l} {i:Nat} {x} (e:l[i]? =some x):(r l)[i]? =some (c x):=by rw[h];exact get_map e
theorem Ng (a b):r (a++b)=r a++r b:=by simp only[h,rL]
theorem Mg (n:Nat) (l):r (l.drop n)=(r l).drop n:=by simp only[h,BD]
theorem Mh (n:Nat) (l):r (l.take n)=(r l).take n:=by simp only[h,BE]
theorem Mi (x l):r (x::l)=c x::r l:=by simp only[h,cA]
theorem Nh:r []=[]:=by rw[h];rfl
theorem Ni (l) (i:Nat) (x):r (l.set i x)=(r l).set i (c x):=by simp only[h,BF]
theorem iH:im r c:=⟨Ng h,Mi h,Nh h,Mg h,Mh h,Ni h⟩
theorem sL (hc:∀x,eo [c x]=true) (l):eo (r l)=true:=by rw[h];exact vh hc l
end
structure aK where
 If:(List (List UInt8))
 er:(List UInt8)
def aK.cs (x:aK):List AV:=[.sl 1 (aW x.If),.v (.string ⟨⟨x.er⟩⟩)]
def aK.rows (l:List aK):List (List AV):=l.map aK.cs
theorem aK.bR (l:List aK):aK.rows l=l.map aK.cs:=rfl
def aK.a8:= @iG _ _ _ aK.bR
def aK.aE:= @pN _ _ _ aK.bR
def aK.dU:= @sL _ _ _ aK.bR λ_=>rfl
structure af where
 Kind:Int
 Lo:Int
 Hi:Int
 Names:(List (List UInt8))
 az:(List af)
 a6:(List aK)
mutual
def af.cells:af->List AV
 |⟨vKind,vLo,vHi,vNames,vParts,vRules⟩=>[.v (.int .i64 vKind),.v (.int .i64 vLo),.v (.int .i64 vHi),.sl 1 (aW vNames),.sl 6 (af.rows vParts),.sl 2 (aK.rows vRules)]
def af.rows:List af->List (List AV)
 |[]=>[]
 |x::r=>af.cells x::af.rows r
end
def af.cs (x:af):List AV:=[.v (.int .i64 x.Kind),.v (.int .i64 x.Lo),.v (.int .i64 x.Hi),.sl 1 (aW x.Names),.sl 6 (af.rows x.az),.sl 2 (aK.rows x.a6)]
theorem af.pr:∀x:af,af.cells x=af.cs x
 |⟨vKind,vLo,vHi,vNames,vParts,vRules⟩=>by first|rfl|simp only[af.cells,af.cs]
theorem af.bR:∀l:List af,af.rows l=l.map af.cs
 |[]=>by simp only[af.rows,jJ]
 |x::r=>by simp only[af.rows,af.pr,af.bR r,cA]
def af.a8:= @iG _ _ _ af.bR
def af.aE:= @pN _ _ _ af.bR
def af.dU:= @sL _ _ _ af.bR λ_=>rfl
structure TParam where
 Name:(List UInt8)
 aS:Int
def TParam.cs (x:TParam):List AV:=[.v (.string ⟨⟨x.Name⟩⟩),.v (.int .i64 x.aS)]
def TParam.rows (l:List TParam):List (List AV):=l.map TParam.cs
theorem TParam.bR (l:List TParam):TParam.rows l=l.map TParam.cs:=rfl
def TParam.a8:= @iG _ _ _ TParam.bR
def TParam.aE:= @pN _ _ _ TParam.bR
structure aB where
 aS:Int
 aF:af
def aB.cs (x:aB):List AV:=[.v (.int .i64 x.aS),.v (.int .i64 x.aF.Kind),.v (.int .i64 x.aF.Lo),.v (.int .i64 x.aF.Hi),.sl 1 (aW x.aF.Names),.sl 6 (af.rows x.aF.az),.sl 2 (aK.rows x.aF.a6)]
def aB.rows (l:List aB):List (List AV):=l.map aB.cs
theorem aB.bR (l:List aB):aB.rows l=l.map aB.cs:=rfl
def aB.a8:= @iG _ _ _ aB.bR
structure ab where
 Op:Int
 aA:aB
 N:Int
 Text:(List UInt8)
 At:Int
 Kids:(List ab)
mutual
def ab.cells:ab->List AV
 |⟨vOp,vType_,vN,vText,vAt,vKids⟩=>[.v (.int .i64 vOp),.v (.int .i64 vType_.aS),.v (.int .i64 vType_.aF.Kind),.v (.int .i64 vType_.aF.Lo),.v (.int .i64 vType_.aF.Hi),.sl 1 (aW vType_.aF.Names),.sl 6 (af.rows vType_.aF.az),.sl 2 (aK.rows vType_.aF.a6),.v (.int .i64 vN),.v (.string ⟨⟨vText⟩⟩),.v (.int .i64 vAt),.sl 12 (ab.rows vKids)]
def ab.rows:List ab->List (List AV)
 |[]=>[]
 |x::r=>ab.cells x::ab.rows r
end
def ab.cs (x:ab):List AV:=[.v (.int .i64 x.Op),.v (.int .i64 x.aA.aS),.v (.int .i64 x.aA.aF.Kind),.v (.int .i64 x.aA.aF.Lo),.v (.int .i64 x.aA.aF.Hi),.sl 1 (aW x.aA.aF.Names),.sl 6 (af.rows x.aA.aF.az),.sl 2 (aK.rows x.aA.aF.a6),.v (.int .i64 x.N),.v (.string ⟨⟨x.Text⟩⟩),.v (.int .i64 x.At),.sl 12 (ab.rows x.Kids)]
theorem ab.pr:∀x:ab,ab.cells x=ab.cs x
 |⟨vOp,vType_,vN,vText,vAt,vKids⟩=>by first|rfl|simp only[ab.cells,ab.cs]
theorem ab.bR:∀l:List ab,ab.rows l=l.map ab.cs
 |[]=>by simp only[ab.rows,jJ]
 |x::r=>by simp only[ab.rows,ab.pr,ab.bR r,cA]
def ab.a8:= @iG _ _ _ ab.bR
def ab.aE:= @pN _ _ _ ab.bR
def ab.dU:= @sL _ _ _ ab.bR λ_=>rfl
structure bl where
 Name:(List UInt8)
 On:(List UInt8)
 Params:(List TParam)
 Result:Int
 Body:ab
def bl.cs (x:bl):List AV:=[.v (.string ⟨⟨x.Name⟩⟩),.v (.string ⟨⟨x.On⟩⟩),.sl 2 (TParam.rows x.Params),.v (.int .i64 x.Result),.v (.int .i64 x.Body.Op),.v (.int .i64 x.Body.aA.aS),.v (.int .i64 x.Body.aA.aF.Kind),.v (.int .i64 x.Body.aA.aF.Lo),.v (.int .i64 x.Body.aA.aF.Hi),.sl 1 (aW x.Body.aA.aF.Names),.sl 6 (af.rows x.Body.aA.aF.az),.sl 2 (aK.rows x.Body.aA.aF.a6),.v (.int .i64 x.Body.N),.v (.string ⟨⟨x.Body.Text⟩⟩),.v (.int .i64 x.Body.At),.sl 12 (ab.rows x.Body.Kids)]
def bl.rows (l:List bl):List (List AV):=l.map bl.cs
theorem bl.bR (l:List bl):bl.rows l=l.map bl.cs:=rfl
def bl.a8:= @iG _ _ _ bl.bR
structure bd where
 path:(List Int)
def bd.cs (x:bd):List AV:=[.sl 1 (bM .i64 x.path)]
def bd.rows (l:List bd):List (List AV):=l.map bd.cs
theorem bd.bR (l:List bd):bd.rows l=l.map bd.cs:=rfl
def bd.a8:= @iG _ _ _ bd.bR
structure aj where
 Kind:Int
 Text:(List UInt8)
 N:Int
 At:Int
 Kids:(List aj)
mutual
def aj.cells:aj->List AV
 |⟨vKind,vText,vN,vAt,vKids⟩=>[.v (.int .i64 vKind),.v (.string ⟨⟨vText⟩⟩),.v (.int .i64 vN),.v (.int .i64 vAt),.sl 5 (aj.rows vKids)]
def aj.rows:List aj->List (List AV)
 |[]=>[]
 |x::r=>aj.cells x::aj.rows r
end
def aj.cs (x:aj):List AV:=[.v (.int .i64 x.Kind),.v (.string ⟨⟨x.Text⟩⟩),.v (.int .i64 x.N),.v (.int .i64 x.At),.sl 5 (aj.rows x.Kids)]
theorem aj.pr:∀x:aj,aj.cells x=aj.cs x
 |⟨vKind,vText,vN,vAt,vKids⟩=>by first|rfl|simp only[aj.cells,aj.cs]
theorem aj.bR:∀l:List aj,aj.rows l=l.map aj.cs
 |[]=>by simp only[aj.rows,jJ]
 |x::r=>by simp only[aj.rows,aj.pr,aj.bR r,cA]
def aj.a8:= @iG _ _ _ aj.bR
def aj.aE:= @pN _ _ _ aj.bR
def aj.dU:= @sL _ _ _ aj.bR λ_=>rfl
structure dc where
 Code:Int
 At:Int
def dc.cs (x:dc):List AV:=[.v (.int .i64 x.Code),.v (.int .i64 x.At)]
def dc.rows (l:List dc):List (List AV):=l.map dc.cs
theorem dc.bR (l:List dc):dc.rows l=l.map dc.cs:=rfl
def dc.a8:= @iG _ _ _ dc.bR
structure cC where
 nodes:Int
def cC.cs (x:cC):List AV:=[.v (.int .i64 x.nodes)]
def cC.rows (l:List cC):List (List AV):=l.map cC.cs
theorem cC.bR (l:List cC):cC.rows l=l.map cC.cs:=rfl
def cC.a8:= @iG _ _ _ cC.bR
structure bH where
 l:af
 params:(List TParam)
def bH.cs (x:bH):List AV:=[.v (.int .i64 x.l.Kind),.v (.int .i64 x.l.Lo),.v (.int .i64 x.l.Hi),.sl 1 (aW x.l.Names),.sl 6 (af.rows x.l.az),.sl 2 (aK.rows x.l.a6),.sl 2 (TParam.rows x.params)]
def bH.rows (l:List bH):List (List AV):=l.map bH.cs
theorem bH.bR (l:List bH):bH.rows l=l.map bH.cs:=rfl
def bH.a8:= @iG _ _ _ bH.bR
theorem cp:im aK.rows aK.cs/\im af.rows af.cs/\im TParam.rows TParam.cs/\im aB.rows aB.cs/\im ab.rows ab.cs/\im bl.rows bl.cs/\im bd.rows bd.cs/\im aj.rows aj.cs/\im dc.rows dc.cs/\im cC.rows cC.cs/\im bH.rows bH.cs/\(∀a b,aW (a++b)=aW a++aW b)/\(∀x r,aW (x::r)=[.v (.string ⟨⟨x⟩⟩)]::aW r)/\(∀k x r,bM k (x::r)=[.v (.int k x)]::bM k r)/\(aW []=[])/\(∀k,bM k []=[])/\(∀(k:Nat) l,aW (l.drop k)=(aW l).drop k)/\(∀(k:Nat) l,aW (l.take k)=(aW l).take k)/\(∀k a b,bM k (a++b)=bM k a++bM k b)/\(∀a b,fP (a++b)=fP a++fP b)/\(∀l (i:Nat) x,aW (l.set i x)=(aW l).set i [.v (.string ⟨⟨x⟩⟩)])/\(∀k l (i:Nat) x,bM k (l.set i x)=(bM k l).set i [.v (.int k x)])/\(∀l (i:Nat) x,fP (l.set i x)=(fP l).set i [.v (.bool x)]):=⟨iH aK.bR,iH af.bR,iH TParam.bR,iH aB.bR,iH ab.bR,iH bl.bR,iH bd.bR,iH aj.bR,iH dc.bR,iH cC.bR,iH bH.bR,(λ_ _=>K6),(λ_ _=>rfl),(λ_ _ _=>rfl),rfl,(λ_=>rfl),(λ_ _=>KA),(λ_ _=>KB),(λ_ _ _=>K7),(λ_ _=>K8),(λ_ _ _=>BF),(λ_ _ _ _=>BF),(λ_ _ _=>BF)⟩
theorem ql:iX aK.rows/\iX af.rows/\iX TParam.rows/\iX aB.rows/\iX ab.rows/\iX bl.rows/\iX bd.rows/\iX aj.rows/\iX dc.rows/\iX cC.rows/\iX bH.rows/\(∀l,(aW l).length=l.length)/\(∀k l,(bM k l).length=l.length)/\(∀l,(fP l).length=l.length):=⟨aK.a8,af.a8,TParam.a8,aB.a8,ab.a8,bl.a8,bd.a8,aj.a8,dc.a8,cC.a8,bH.a8,(λ_=>cX),(λ_ _=>kI),(λ_=>K9)⟩
abbrev aK.z:aK:={If:=[],er:=[]:aK}
abbrev af.z:af:={Kind:=0,Lo:=0,Hi:=0,Names:=[],az:=[],a6:=[]:af}
abbrev TParam.z:TParam:={Name:=[],aS:=0:TParam}
abbrev aB.z:aB:={aS:=0,aF:={Kind:=0,Lo:=0,Hi:=0,Names:=[],az:=[],a6:=[]:af}:aB}
abbrev ab.z:ab:={Op:=0,aA:={aS:=0,aF:={Kind:=0,Lo:=0,Hi:=0,Names:=[],az:=[],a6:=[]:af}:aB},N:=0,Text:=[],At:=0,Kids:=[]:ab}
abbrev bl.z:bl:={Name:=[],On:=[],Params:=[],Result:=0,Body:={Op:=0,aA:={aS:=0,aF:={Kind:=0,Lo:=0,Hi:=0,Names:=[],az:=[],a6:=[]:af}:aB},N:=0,Text:=[],At:=0,Kids:=[]:ab}:bl}
abbrev bd.z:bd:={path:=[]:bd}
abbrev aj.z:aj:={Kind:=0,Text:=[],N:=0,At:=0,Kids:=[]:aj}
abbrev dc.z:dc:={Code:=0,At:=0:dc}
abbrev cC.z:cC:={nodes:=0:cC}
abbrev bH.z:bH:={l:={Kind:=0,Lo:=0,Hi:=0,Names:=[],az:=[],a6:=[]:af},params:=[]:bH}
theorem zi {p:Prop} (h:p:=by(try simp only[cp]);repeat(first|exact bw.refl _|exact bw.nil _|exact bx.nil|exact cE.nil|exact bx.refl _|exact cE.refl _|exact bw.of (by simp only[cp];rfl)|(dsimp only;try simp only[cp])|apply bw.agg|apply bw.bK|apply bw.ip|apply bw.fn|apply bx.cons|apply bw.sl|apply cE.cons|apply cE.append)):p:=h
theorem zp {p:Prop} (h:p:=by repeat(first|exact ak.nil|refine ak.cons rfl (aN.cK (cl:=false) rfl aI) ?_|refine ak.skip rfl ?_|refine ak.cons rfl (dk (cl:=false) rfl aI) ?_)):p:=h
theorem zg {p:Prop} (h:p:=by first|rfl|simp only[lx]|simp only[ql,lx,BG,ly,iz,kD]):p:=h
theorem zn {p:Prop} (h:p:=by first|rfl|(simp only[cp];rfl)|(simp only[cp,lx];rfl)|(simp only[aK.cs,af.cs,TParam.cs,aB.cs,ab.cs,bl.cs,bd.cs,aj.cs,dc.cs,cC.cs,bH.cs,cp,lx];rfl)):p:=h
theorem zq {D:Type} {l:List D} {i:Nat} {x:D} {p:Prop} (h:l[i]? =some x) (k:i<l.length->p:=by intro h0;first|exact h0|(simpa only[ql,ly,lx,BG,iz,kD,o6,JK,eN]using h0)):p:=k (cT.1 h).1
theorem zo {c p:Prop} [Decidable c] (h:decide c=true) (k:c->p:=by intro h0;simp only[ql,ly,lx,iz,kD,eN]at h0⊢;omega):p:=k (mI h)
theorem zk {p:Prop} (h:p:=by kernel_rfl):p:=h
