/- The function that turns faults into results. -/
import Derived.Test.YtnocmolegijmkaaGreatKEnv
import Derived.Tactics
import Derived.Tactics2
import Derived.Defers
import Derived.Recover
import Derived.Laws.Pointers
set_option linter.all false
section
namespace Go.Proofs.YtnocmolegijmkaaGreat
open Go Go.Bw Go.Proofs.Tryz
abbrev zF:AV:= .agg [.v (.int .i64 0),.v (.int .i64 0)]
theorem KF (w:World) (b o:Nat) (cs:Array Value) (e:TypeId) (fz:Nat×Nat) (v:Value) (h:w.heap[b]? =some (.cells cs e fz)) (hv:cs[o]? =some v):w.setCell ⟨b,o,none⟩ v=w:=by
 have hcs:cs.setIfInBounds o v=cs:=by
  apply Array.ext_getElem?;intro i;by_cases hi:o=i
  ·subst hi;rw[Array.getElem?_setIfInBounds_self_of_lt (lS.1 hv).1,hv]
  ·rw[Array.getElem?_setIfInBounds_ne hi]
 have hh:∀f:Obj->Obj,f (.cells cs e fz)= .cells cs e fz->w.heap.modify b f=w.heap:=by
  intro f hf;apply Array.ext_getElem?;intro i;rw[acb];by_cases hi:b=i
  ·subst hi;simp[h,hf]
  ·simp[hi]
 unfold World.setCell;rw[hh _ (by simp[hcs])]
theorem Ww {c:Code} {N b:Nat} {cells cells':List AV} {O:TS} {OB:Sg} {F:Nat->Prop} {w:World} {a:Act}
  (h:az env N 1 [.code c] (λe _ L'=>e= .norm/\L'.e.get 0=some (.box (cells'.map .d))) O (Hp.nil.push (.box (cells.map .d))))
  (hs:SS ⟨λt=>if t=0 then some b else none,λ_ _=>none⟩ O (Bw.look OB)) (hst:St env.G N w F a OB [.box b cells]):
  c.wp Tryz.prog (λe a' w'=>e= .normal/\a'.tmps.size=N/\a'.defers=[]/\bI env.G w' F [.box b cells']/\Ext [.box b cells] w [.box b cells'] w') a w:=by
 have hh:HS ⟨λt=>if t=0 then some b else none,λ_ _=>none⟩ (Hp.nil.push (.box (cells.map .d))) [.box b cells]:=by
  refine⟨λi x hx=>?_,rfl,λt ht=>?_⟩
  ·rcases Tr.fb 24 _ 0 i _ x hx with⟨rfl,h1⟩|⟨_,h1⟩
   ·cases h1;exact⟨.box b cells,rfl,b,cells,by simp,rfl,ir _⟩
   ·simp[Hp.nil,Tr.get]at h1
  ·have:t≠0:=by simp only[Hp.push,Hp.nil]at ht;omega
   simp[this]
 refine wp_mono ((az.one h) _ OB _ hs hh F w [.box b cells] a w hst (Ext.refl _ _)) ?_;rintro e a' w' ⟨e0,O',LB',⟨Z',d,O1,η1,hl,hi,hs',hh',hd,hg⟩,hrel,hst',hx⟩;subst hd;simp only[DE.inst]at hi;subst hi;simp only[AE.rel]at hrel;obtain⟨y,hy,b',cs',hb',rfl,hcs⟩:=hh'.en 0 _ hg;have h0:=(hl 0 (by omega)).1;have:b'=b:=by
  rw[hb']at h0;simpa using h0
 subst this;have hcs:=pg (zs:=cells') (by
  have key:∀l:List AV,fU (l.map .d)=some l:=by
   intro l;induction l with
   |nil=>rfl
   |cons y l ih=>simp[fU,ih]
  exact key cells') hcs
 subst hcs;cases LB' with
 |nil=>simp[nth]at hy
 |cons x r=>
  simp only[nth,aE]at hy;subst hy;exact⟨hrel,hst'.sg.1,hst'.df,bI.drop (L:=[_]) (W:=r) hst'.hp,Ext.drop (L':=[_]) (W:=r) hx⟩
theorem UL (b:Nat) (k1 k2:IntKind) (x y:Int) (older:List PanicEntry) (F:Nat->Prop) (w:World) (hH:bI env.G w F [.box b [.v (.int .i64 0),.v (.int .i64 0)]]):
  CallsD Tryz.prog 115 #[.pointer (some ⟨b,0,none⟩)] (.panicking ({v:= .iface 75 (.agg #[.int k1 x,.int k2 y]),recovered:=false}::older)) w λe u' w'=>
   e= .returned (.tuple #[])/\u'= .panicking ({v:= .iface 75 (.agg #[.int k1 x,.int k2 y]),recovered:=true}::older)/\bI env.G w' F [.box b [.v (.int k1 x),.v (.int k2 y)]]/\Ext [.box b [.v (.int .i64 0),.v (.int .i64 0)]] w [.box b [.v (.int k1 x),.v (.int k2 y)]] w':=by
 refine callsD_of_wpS func115 rfl λc₀ cs hu=>?_;apply wpS_seq;apply wpS_region;simp[wpOpsS,go_sem,recoverD,hu,ntmps115,Exit.thenS];refine wpS_of_wp ?_;refine wp_mono (Ww (N:=16) (cells':=[.v (.int k1 x),.v (.int k2 y)]) (O:=Tr.put 24 (Tr.put 24 .lf 1 (some (.d (.bA 75 (.agg [.v (.int k1 x),.v (.int k2 y)]))))) 0 (some (.own 0 0))) (OB:=[(0,.own 0 b 0),(1,.bA 75 (.agg [.v (.int k1 x),.v (.int k2 y)]))]) ?_ ?_ ⟨⟨?_,?_⟩,hH,rfl⟩) ?_
 ·refine Wx mixed 400 rfl ⟨rfl,rfl⟩
 ·intro t z hz;rcases Tr.fb 24 _ 0 t _ z hz with⟨rfl,h1⟩|⟨h0,hz⟩
  ·cases h1;exact⟨.own 0 b 0,rfl,by simp only[aG];exact⟨b,0,by simp,rfl⟩⟩
  ·rcases Tr.fb 24 _ 1 t _ z hz with⟨rfl,h1⟩|⟨_,hz⟩
   ·cases h1;exact⟨_,rfl,rfl⟩
   ·simp[Tr.get]at hz
 ·simp
 ·intro t z hz;simp only[Bw.look]at hz;split at hz
  ·rename_i hb;have:=bC hb;subst this;cases hz;exact⟨by omega,by simp[Rel]⟩
  ·split at hz
   ·rename_i hb;have:=bC hb;subst this;cases hz;exact⟨by omega,by simp[Rel,aJ]⟩
   ·cases hz
 ·rintro e a' w' ⟨rfl,h1,h2,h3,h4⟩;refine⟨h2,_,rfl,?_⟩;simp[results,Tryz.results115,h3,h4,go_sem]
theorem T4 (b:Nat) (w:World):CallsD Tryz.prog 115 #[.pointer (some ⟨b,0,none⟩)] .returning w λe u' w'=>e= .returned (.tuple #[])/\u'= .returning/\w'=w:=by
 refine callsD_of_wpS func115 rfl λc₀ cs hu=>?_;apply wpS_seq;apply wpS_region;simp[wpOpsS,go_sem,recoverD,hu,ntmps115,Exit.thenS];apply wpS_seq;apply wpS_region;simp[wpOpsS,go_sem,Exit.thenS,eqGuard];refine wpS_cond (t:=false) (by simp[Act.eval,Array.replicate]) ?_;simp only[jH,if_false];refine wpS_of_wp (wp_skip ?_);cases c₀
 simp_all [bodyPostS,results,Tryz.results115]
theorem K0:rH env 76 75 zF:=by
 intro g fs cs L Q h hp;refine⟨⟨_,func76,rfl,by kernel_rfl⟩,λF w vs hH hargs=>?_⟩;simp only[aJ,Rel]at hargs;obtain⟨v,r,rfl,⟨us,ks,rfl,h1,h2⟩,rfl⟩:=hargs;show Calls Tryz.prog 76 _ w _;refine calls_of_wp_defers func76 rfl ?_;have hmf:∀(fn:Fn) (first cap:Array Value) (w:World),(Instr.makeFunc fn first cap).run Tryz.prog w= .ok (.func fn first cap) w:=λ_ _ _ _=>rfl;apply wp_seq;apply wp_region;simp[wpOps,go_sem,Exit.then,ntmps76];refine .inl ?_;apply wp_seq;apply wp_region;simp[wpOps,go_sem,Exit.then,hmf];refine .inl ?_;refine .inl ?_;apply wp_seq;apply wp_region;simp[wpOps,go_sem,Exit.then];refine .inl ?_;refine .inl ?_;have hcf:∀(ws:Array Value) (w':World),(callFunc g ws).run Tryz.prog w'= .ok (.enter g ws) w':=by
  intro ws w';obtain⟨fn,hf,hbody,hname⟩:=h.1;have hf':Tryz.prog.funcs[g]? =some fn:=hf;simp only[callFunc,Sem.run_bind,run_program,Result.andThen_ok,hf',hname,hbody,jH,if_false,Sem.run_pure]
 rw[hcf,Oper.upon_enter];obtain⟨b,hbdef⟩:∃b,b=w.heap.size:=⟨_,rfl⟩;have hpush:bI env.G (w.alloc (.cells #[.int .i64 0,.int .i64 0] 75)) F (L++[.box w.heap.size [.v (.int .i64 0),.v (.int .i64 0)]]):=by
  refine hH.push (by simp) (λb hb=>lq w _ b hb) (by simp[au.ids]) (by simp[au.ids]) ?_;exact⟨75,[.int .i64 0,.int .i64 0],lX w _,by simp[aJ,Rel]⟩
 have hext0:=n9 w (.cells #[.int .i64 0,.int .i64 0] 75) L (.box w.heap.size [.v (.int .i64 0),.v (.int .i64 0)]) (by simp[au.ids]);have hargs:aJ (w.alloc (.cells #[.int .i64 0,.int .i64 0] 75)) (Al (λx=>F x\/x∈ids [.box w.heap.size [.v (.int .i64 0),.v (.int .i64 0)]]) L) (fs++cs) (us++ks):=by
  rw[od];exact(h1.append h2).bo hext0.keeps
 have hlt:w.heap.size<(w.alloc (.cells #[.int .i64 0,.int .i64 0] 75)).heap.size:=by simp
 have hbn:w.heap.size∉ids L:=λhm=>by have:=hH.lt _ hm;omega
 have hblk0:(w.alloc (.cells #[.int .i64 0,.int .i64 0] 75)).heap[w.heap.size]? =some (.cells #[.int .i64 0,.int .i64 0] 75):=lX w _;refine(h.2 _ _ (us++ks) hpush.front hargs).mono ?_;rintro e w' ⟨r,L',hQ,hv,hh,hext⟩;obtain⟨g1,g2⟩:=bI.back hpush hh hext;have hblk:w'.heap[w.heap.size]? =some (.cells #[.int .i64 0,.int .i64 0] 75):=(hext.block _ hlt hbn).trans hblk0;have hx0:=hext0.trans g2;rw[<-hbdef]at*
 generalize w.alloc (.cells #[.int .i64 0,.int .i64 0] 75)=w1 at*
 cases r with
 |ret x=>
  obtain⟨v,rfl,hv⟩:=hv;have hc0:w'.cell? ⟨b,0,none⟩=some (.int .i64 0):=by simp[World.cell?,hblk]
  have hc1:w'.cell? ⟨b,1,none⟩=some (.int .i64 0):=by simp[World.cell?,hblk]
  have hz0:w'.frozen? ⟨b,0,none⟩=false:=by simp[World.frozen?,hblk]
  have hz1:w'.frozen? ⟨b,1,none⟩=false:=by simp[World.frozen?,hblk]
  have hs0:=KF w' b 0 _ _ _ (.int .i64 0) hblk rfl;have hs1:=KF w' b 1 _ _ _ (.int .i64 0) hblk rfl;apply wp_seq;apply wp_region;simp[wpOps,go_sem,Exit.then,hc0,hc1,hz0,hz1,hs0,hs1];refine .inl ?_;refine .inl ?_;refine wp_ret ?_;simp only[bodyPostD];refine leaves_cons (f:=115) (args:= #[.pointer (some ⟨b,0,none⟩)]) (by simp) (by simp[go_sem]) ?_;refine(T4 b _).mono ?_;rintro e u' w'' ⟨rfl,rfl,rfl⟩;simp[Leaves,settle,results,Tryz.results76,go_sem,hc0,hc1];exact⟨.ret zF,L',.inl ⟨⟨x,hQ⟩,rfl⟩,⟨_,rfl,by simp[Rel,aJ,zF]⟩,g1.drop,hx0.drop⟩
 |aM x=>
  obtain⟨v,rfl,hv⟩:=hv;simp only[Exit.then,bodyPostD];obtain⟨y,rfl,hf⟩:=hp x L' hQ;obtain⟨k1,a,k2,c,rfl⟩:∃k1 a k2 c,y= .agg [.v (.int k1 a),.v (.int k2 c)]:=by
   unfold nr at hf;split at hf
   ·exact⟨_,_,_,_,rfl⟩
   ·cases hf
  simp only[Rel,aJ]at hv;obtain⟨u,rfl,vs,rfl,v1,r1,rfl,rfl,v2,r2,rfl,rfl,rfl⟩:=hv;refine leaves_cons (f:=115) (args:= #[.pointer (some ⟨b,0,none⟩)]) (by simp) (by simp[go_sem]) ?_;have gp:([au.box b [.v (.int .i64 0),.v (.int .i64 0)]]++L').Perm (L'++[au.box b [.v (.int .i64 0),.v (.int .i64 0)]]):=DF;have g1':=bI.perm gp.symm g1;refine(UL b k1 k2 a c [] _ w' g1'.front).mono ?_;rintro e u' w'' ⟨rfl,rfl,h3,h4⟩;obtain⟨q1,q2⟩:=bI.back g1' h3 h4;have q1':=bI.perm DF q1;have q2':=((hx0.perm gp.symm).trans q2).perm DF;obtain⟨e0,vs0,hb0,hr0⟩:=h3.eN _ (SU ..);simp only[aJ,Rel]at hr0;obtain⟨_,_,rfl,rfl,_,_,rfl,rfl,rfl⟩:=hr0;have hc0:w''.cell? ⟨b,0,none⟩=some (.int k1 a):=by simp[World.cell?,hb0]
  have hc1:w''.cell? ⟨b,1,none⟩=some (.int k2 c):=by simp[World.cell?,hb0]
  simp[Leaves,settle,results,Tryz.results76,go_sem,hc0,hc1];exact⟨.ret (.agg [.v (.int k1 a),.v (.int k2 c)]),L',.inr ⟨_,hQ,rfl⟩,⟨_,rfl,by simp[Rel,aJ]⟩,q1'.drop,q2'.drop⟩
end Go.Proofs.YtnocmolegijmkaaGreat
end

section
namespace Go.Proofs.YtnocmolegijmkaaGreat
open Go Go.Bw
section
variable {D:Type} {r:List D->List (List AV)} {c:D->List AV}
abbrev fp (r:List D->List (List AV)) (c:D->List AV):Prop:=(∀a b,r (a++b)=r a++r b)/\(∀x l,r (x::l)=c x::r l)/\(r []=[])/\(∀k l,r (l.drop k)=(r l).drop k)/\(∀k l,r (l.take k)=(r l).take k)/\(∀l i x,r (l.set i x)=(r l).set i (c x))
abbrev fG (r:List D->List (List AV)):Prop:=∀l,(r l).length=l.length
variable (h:∀l,r l=l.map c)
include h
theorem fx (l):(r l).length=l.length:=by rw[h,jI]
theorem ov {l} {i:Nat} {x} (e:l[i]? =some x):(r l)[i]? =some (c x):=by rw[h];exact get_map e
theorem XW (a b):r (a++b)=r a++r b:=by simp only[h,Ag]
theorem WZ (n:Nat) (l):r (l.drop n)=(r l).drop n:=by simp only[h,SX]
theorem W0 (n:Nat) (l):r (l.take n)=(r l).take n:=by simp only[h,SY]
theorem W1 (x l):r (x::l)=c x::r l:=by simp only[h,dY]
theorem XX:r []=[]:=by rw[h];rfl
theorem XY (l) (i:Nat) (x):r (l.set i x)=(r l).set i (c x):=by simp only[h,J6]
theorem fy:fp r c:=⟨XW h,W1 h,XX h,WZ h,W0 h,XY h⟩
theorem wP (hc:∀x,gC [c x]=true) (l):gC (r l)=true:=by rw[h];exact Ko hc l
end
structure aP where
 If:(List (List UInt8))
 eY:(List UInt8)
def aP.cs (x:aP):List AV:=[.sl 1 (aT x.If),.v (.string ⟨⟨x.eY⟩⟩)]
def aP.rows (l:List aP):List (List AV):=l.map aP.cs
theorem aP.bw (l:List aP):aP.rows l=l.map aP.cs:=rfl
def aP.aB:= @fx _ _ _ aP.bw
def aP.aI:= @ov _ _ _ aP.bw
def aP.de:= @wP _ _ _ aP.bw λ_=>rfl
structure ah where
 Kind:Int
 Lo:Int
 Hi:Int
 Names:(List (List UInt8))
 aw:(List ah)
 aX:(List aP)
mutual
def ah.cells:ah->List AV
 |⟨vKind,vLo,vHi,vNames,vParts,vRules⟩=>[.v (.int .i64 vKind),.v (.int .i64 vLo),.v (.int .i64 vHi),.sl 1 (aT vNames),.sl 6 (ah.rows vParts),.sl 2 (aP.rows vRules)]
def ah.rows:List ah->List (List AV)
 |[]=>[]
 |x::r=>ah.cells x::ah.rows r
end
def ah.cs (x:ah):List AV:=[.v (.int .i64 x.Kind),.v (.int .i64 x.Lo),.v (.int .i64 x.Hi),.sl 1 (aT x.Names),.sl 6 (ah.rows x.aw),.sl 2 (aP.rows x.aX)]
theorem ah.qK:∀x:ah,ah.cells x=ah.cs x
 |⟨vKind,vLo,vHi,vNames,vParts,vRules⟩=>by first|rfl|simp only[ah.cells,ah.cs]
theorem ah.bw:∀l:List ah,ah.rows l=l.map ah.cs
 |[]=>by simp only[ah.rows,vM]
 |x::r=>by simp only[ah.rows,ah.qK,ah.bw r,dY]
def ah.aB:= @fx _ _ _ ah.bw
def ah.aI:= @ov _ _ _ ah.bw
def ah.de:= @wP _ _ _ ah.bw λ_=>rfl
structure TParam where
 Name:(List UInt8)
 aK:Int
def TParam.cs (x:TParam):List AV:=[.v (.string ⟨⟨x.Name⟩⟩),.v (.int .i64 x.aK)]
def TParam.rows (l:List TParam):List (List AV):=l.map TParam.cs
theorem TParam.bw (l:List TParam):TParam.rows l=l.map TParam.cs:=rfl
def TParam.aB:= @fx _ _ _ TParam.bw
def TParam.aI:= @ov _ _ _ TParam.bw
def TParam.de:= @wP _ _ _ TParam.bw λ_=>rfl
structure ay where
 aK:Int
 ai:ah
def ay.cs (x:ay):List AV:=[.v (.int .i64 x.aK),.v (.int .i64 x.ai.Kind),.v (.int .i64 x.ai.Lo),.v (.int .i64 x.ai.Hi),.sl 1 (aT x.ai.Names),.sl 6 (ah.rows x.ai.aw),.sl 2 (aP.rows x.ai.aX)]
def ay.rows (l:List ay):List (List AV):=l.map ay.cs
theorem ay.bw (l:List ay):ay.rows l=l.map ay.cs:=rfl
def ay.aB:= @fx _ _ _ ay.bw
def ay.aI:= @ov _ _ _ ay.bw
structure ab where
 Op:Int
 aj:ay
 N:Int
 Text:(List UInt8)
 At:Int
 Kids:(List ab)
mutual
def ab.cells:ab->List AV
 |⟨vOp,vType_,vN,vText,vAt,vKids⟩=>[.v (.int .i64 vOp),.v (.int .i64 vType_.aK),.v (.int .i64 vType_.ai.Kind),.v (.int .i64 vType_.ai.Lo),.v (.int .i64 vType_.ai.Hi),.sl 1 (aT vType_.ai.Names),.sl 6 (ah.rows vType_.ai.aw),.sl 2 (aP.rows vType_.ai.aX),.v (.int .i64 vN),.v (.string ⟨⟨vText⟩⟩),.v (.int .i64 vAt),.sl 12 (ab.rows vKids)]
def ab.rows:List ab->List (List AV)
 |[]=>[]
 |x::r=>ab.cells x::ab.rows r
end
def ab.cs (x:ab):List AV:=[.v (.int .i64 x.Op),.v (.int .i64 x.aj.aK),.v (.int .i64 x.aj.ai.Kind),.v (.int .i64 x.aj.ai.Lo),.v (.int .i64 x.aj.ai.Hi),.sl 1 (aT x.aj.ai.Names),.sl 6 (ah.rows x.aj.ai.aw),.sl 2 (aP.rows x.aj.ai.aX),.v (.int .i64 x.N),.v (.string ⟨⟨x.Text⟩⟩),.v (.int .i64 x.At),.sl 12 (ab.rows x.Kids)]
theorem ab.qK:∀x:ab,ab.cells x=ab.cs x
 |⟨vOp,vType_,vN,vText,vAt,vKids⟩=>by first|rfl|simp only[ab.cells,ab.cs]
theorem ab.bw:∀l:List ab,ab.rows l=l.map ab.cs
 |[]=>by simp only[ab.rows,vM]
 |x::r=>by simp only[ab.rows,ab.qK,ab.bw r,dY]
def ab.aB:= @fx _ _ _ ab.bw
def ab.aI:= @ov _ _ _ ab.bw
def ab.de:= @wP _ _ _ ab.bw λ_=>rfl
structure bD where
 Name:(List UInt8)
 On:(List UInt8)
 Params:(List TParam)
 Result:Int
 Body:ab
def bD.cs (x:bD):List AV:=[.v (.string ⟨⟨x.Name⟩⟩),.v (.string ⟨⟨x.On⟩⟩),.sl 2 (TParam.rows x.Params),.v (.int .i64 x.Result),.v (.int .i64 x.Body.Op),.v (.int .i64 x.Body.aj.aK),.v (.int .i64 x.Body.aj.ai.Kind),.v (.int .i64 x.Body.aj.ai.Lo),.v (.int .i64 x.Body.aj.ai.Hi),.sl 1 (aT x.Body.aj.ai.Names),.sl 6 (ah.rows x.Body.aj.ai.aw),.sl 2 (aP.rows x.Body.aj.ai.aX),.v (.int .i64 x.Body.N),.v (.string ⟨⟨x.Body.Text⟩⟩),.v (.int .i64 x.Body.At),.sl 12 (ab.rows x.Body.Kids)]
def bD.rows (l:List bD):List (List AV):=l.map bD.cs
theorem bD.bw (l:List bD):bD.rows l=l.map bD.cs:=rfl
def bD.aB:= @fx _ _ _ bD.bw
structure fM where
 Process:Int
 N:Int
def fM.cs (x:fM):List AV:=[.v (.int .i64 x.Process),.v (.int .i64 x.N)]
def fM.rows (l:List fM):List (List AV):=l.map fM.cs
theorem fM.bw (l:List fM):fM.rows l=l.map fM.cs:=rfl
def fM.aB:= @fx _ _ _ fM.bw
structure eC where
 GN:(List fM)
 Name:(List UInt8)
def eC.cs (x:eC):List AV:=[.sl 2 (fM.rows x.GN),.v (.string ⟨⟨x.Name⟩⟩)]
def eC.rows (l:List eC):List (List AV):=l.map eC.cs
theorem eC.bw (l:List eC):eC.rows l=l.map eC.cs:=rfl
def eC.aB:= @fx _ _ _ eC.bw
def eC.aI:= @ov _ _ _ eC.bw
structure cq where
 N:Int
 Names:(List (List UInt8))
 aw:(List cq)
 Entries:(List eC)
mutual
def cq.cells:cq->List AV
 |⟨vN,vNames,vParts,vEntries⟩=>[.v (.int .i64 vN),.sl 1 (aT vNames),.sl 4 (cq.rows vParts),.sl 2 (eC.rows vEntries)]
def cq.rows:List cq->List (List AV)
 |[]=>[]
 |x::r=>cq.cells x::cq.rows r
end
def cq.cs (x:cq):List AV:=[.v (.int .i64 x.N),.sl 1 (aT x.Names),.sl 4 (cq.rows x.aw),.sl 2 (eC.rows x.Entries)]
theorem cq.qK:∀x:cq,cq.cells x=cq.cs x
 |⟨vN,vNames,vParts,vEntries⟩=>by first|rfl|simp only[cq.cells,cq.cs]
theorem cq.bw:∀l:List cq,cq.rows l=l.map cq.cs
 |[]=>by simp only[cq.rows,vM]
 |x::r=>by simp only[cq.rows,cq.qK,cq.bw r,dY]
def cq.aB:= @fx _ _ _ cq.bw
def cq.aI:= @ov _ _ _ cq.bw
structure eh where
 aK:Int
 N:Int
 Name:(List UInt8)
 Names:(List (List UInt8))
def eh.cs (x:eh):List AV:=[.v (.int .i64 x.aK),.v (.int .i64 x.N),.v (.string ⟨⟨x.Name⟩⟩),.sl 1 (aT x.Names)]
def eh.rows (l:List eh):List (List AV):=l.map eh.cs
theorem eh.bw (l:List eh):eh.rows l=l.map eh.cs:=rfl
def eh.aB:= @fx _ _ _ eh.bw
def eh.aI:= @ov _ _ _ eh.bw
structure af where
 Kind:Int
 Text:(List UInt8)
 N:Int
 At:Int
 Kids:(List af)
mutual
def af.cells:af->List AV
 |⟨vKind,vText,vN,vAt,vKids⟩=>[.v (.int .i64 vKind),.v (.string ⟨⟨vText⟩⟩),.v (.int .i64 vN),.v (.int .i64 vAt),.sl 5 (af.rows vKids)]
def af.rows:List af->List (List AV)
 |[]=>[]
 |x::r=>af.cells x::af.rows r
end
def af.cs (x:af):List AV:=[.v (.int .i64 x.Kind),.v (.string ⟨⟨x.Text⟩⟩),.v (.int .i64 x.N),.v (.int .i64 x.At),.sl 5 (af.rows x.Kids)]
theorem af.qK:∀x:af,af.cells x=af.cs x
 |⟨vKind,vText,vN,vAt,vKids⟩=>by first|rfl|simp only[af.cells,af.cs]
theorem af.bw:∀l:List af,af.rows l=l.map af.cs
 |[]=>by simp only[af.rows,vM]
 |x::r=>by simp only[af.rows,af.qK,af.bw r,dY]
def af.aB:= @fx _ _ _ af.bw
def af.aI:= @ov _ _ _ af.bw
def af.de:= @wP _ _ _ af.bw λ_=>rfl
structure aS where
 Code:Int
 At:Int
def aS.cs (x:aS):List AV:=[.v (.int .i64 x.Code),.v (.int .i64 x.At)]
def aS.rows (l:List aS):List (List AV):=l.map aS.cs
theorem aS.bw (l:List aS):aS.rows l=l.map aS.cs:=rfl
def aS.aB:= @fx _ _ _ aS.bw
structure dh where
 nodes:Int
def dh.cs (x:dh):List AV:=[.v (.int .i64 x.nodes)]
def dh.rows (l:List dh):List (List AV):=l.map dh.cs
theorem dh.bw (l:List dh):dh.rows l=l.map dh.cs:=rfl
def dh.aB:= @fx _ _ _ dh.bw
structure bJ where
 l:ah
 params:(List TParam)
def bJ.cs (x:bJ):List AV:=[.v (.int .i64 x.l.Kind),.v (.int .i64 x.l.Lo),.v (.int .i64 x.l.Hi),.sl 1 (aT x.l.Names),.sl 6 (ah.rows x.l.aw),.sl 2 (aP.rows x.l.aX),.sl 2 (TParam.rows x.params)]
def bJ.rows (l:List bJ):List (List AV):=l.map bJ.cs
theorem bJ.bw (l:List bJ):bJ.rows l=l.map bJ.cs:=rfl
def bJ.aB:= @fx _ _ _ bJ.bw
structure ie where
 d:eh
 v:cq
def ie.cs (x:ie):List AV:=[.v (.int .i64 x.d.aK),.v (.int .i64 x.d.N),.v (.string ⟨⟨x.d.Name⟩⟩),.sl 1 (aT x.d.Names),.v (.int .i64 x.v.N),.sl 1 (aT x.v.Names),.sl 4 (cq.rows x.v.aw),.sl 2 (eC.rows x.v.Entries)]
def ie.rows (l:List ie):List (List AV):=l.map ie.cs
theorem ie.bw (l:List ie):ie.rows l=l.map ie.cs:=rfl
def ie.aB:= @fx _ _ _ ie.bw
structure il where
 state:cq
 args:(List eh)
def il.cs (x:il):List AV:=[.v (.int .i64 x.state.N),.sl 1 (aT x.state.Names),.sl 4 (cq.rows x.state.aw),.sl 2 (eC.rows x.state.Entries),.sl 4 (eh.rows x.args)]
def il.rows (l:List il):List (List AV):=l.map il.cs
theorem il.bw (l:List il):il.rows l=l.map il.cs:=rfl
def il.aB:= @fx _ _ _ il.bw
structure cC where
 L:ah
 Params:(List TParam)
def cC.cs (x:cC):List AV:=[.v (.int .i64 x.L.Kind),.v (.int .i64 x.L.Lo),.v (.int .i64 x.L.Hi),.sl 1 (aT x.L.Names),.sl 6 (ah.rows x.L.aw),.sl 2 (aP.rows x.L.aX),.sl 2 (TParam.rows x.Params)]
def cC.rows (l:List cC):List (List AV):=l.map cC.cs
theorem cC.bw (l:List cC):cC.rows l=l.map cC.cs:=rfl
def cC.aB:= @fx _ _ _ cC.bw
structure ig where
 data:(List Int)
def ig.cs (x:ig):List AV:=[.sl 1 (ep .u8 x.data)]
def ig.rows (l:List ig):List (List AV):=l.map ig.cs
theorem ig.bw (l:List ig):ig.rows l=l.map ig.cs:=rfl
def ig.aB:= @fx _ _ _ ig.bw
structure ij where
 data:(List Int)
 at_:Int
 item:Int
 err:Int
def ij.cs (x:ij):List AV:=[.sl 1 (ep .u8 x.data),.v (.int .i64 x.at_),.v (.int .i64 x.item),.v (.int .i64 x.err)]
def ij.rows (l:List ij):List (List AV):=l.map ij.cs
theorem ij.bw (l:List ij):ij.rows l=l.map ij.cs:=rfl
def ij.aB:= @fx _ _ _ ij.bw
structure gy where
 V2:(List Int)
 ZO:Int
def gy.cs (x:gy):List AV:=[.sl 1 (ep .i64 x.V2),.v (.int .i64 x.ZO)]
def gy.rows (l:List gy):List (List AV):=l.map gy.cs
theorem gy.bw (l:List gy):gy.rows l=l.map gy.cs:=rfl
def gy.aB:= @fx _ _ _ gy.bw
structure gZ where
 U':(List (List UInt8))
 rules:(List gy)
def gZ.cs (x:gZ):List AV:=[.sl 1 (aT x.U'),.sl 2 (gy.rows x.rules)]
def gZ.rows (l:List gZ):List (List AV):=l.map gZ.cs
theorem gZ.bw (l:List gZ):gZ.rows l=l.map gZ.cs:=rfl
def gZ.aB:= @fx _ _ _ gZ.bw
structure ib where
 aca:Int
 name:Int
def ib.cs (x:ib):List AV:=[.v (.int .i64 x.aca),.v (.int .i64 x.name)]
def ib.rows (l:List ib):List (List AV):=l.map ib.cs
theorem ib.bw (l:List ib):ib.rows l=l.map ib.cs:=rfl
def ib.aB:= @fx _ _ _ ib.bw
theorem iB:fp aP.rows aP.cs/\fp ah.rows ah.cs/\fp TParam.rows TParam.cs/\fp ay.rows ay.cs/\fp ab.rows ab.cs/\fp bD.rows bD.cs/\fp fM.rows fM.cs/\fp eC.rows eC.cs/\fp cq.rows cq.cs/\fp eh.rows eh.cs/\fp af.rows af.cs/\fp aS.rows aS.cs/\fp dh.rows dh.cs/\fp bJ.rows bJ.cs/\fp ie.rows ie.cs/\fp il.rows il.cs/\fp cC.rows cC.cs/\fp ig.rows ig.cs/\fp ij.rows ij.cs/\fp gy.rows gy.cs/\fp gZ.rows gZ.cs/\fp ib.rows ib.cs/\(∀a b,aT (a++b)=aT a++aT b)/\(∀x r,aT (x::r)=[.v (.string ⟨⟨x⟩⟩)]::aT r)/\(∀k x r,ep k (x::r)=[.v (.int k x)]::ep k r)/\(aT []=[])/\(∀k,ep k []=[])/\(∀(k:Nat) l,aT (l.drop k)=(aT l).drop k)/\(∀(k:Nat) l,aT (l.take k)=(aT l).take k)/\(∀k a b,ep k (a++b)=ep k a++ep k b)/\(∀a b,jm (a++b)=jm a++jm b)/\(∀l (i:Nat) x,aT (l.set i x)=(aT l).set i [.v (.string ⟨⟨x⟩⟩)])/\(∀k l (i:Nat) x,ep k (l.set i x)=(ep k l).set i [.v (.int k x)])/\(∀l (i:Nat) x,jm (l.set i x)=(jm l).set i [.v (.bool x)]):=⟨fy aP.bw,fy ah.bw,fy TParam.bw,fy ay.bw,fy ab.bw,fy bD.bw,fy fM.bw,fy eC.bw,fy cq.bw,fy eh.bw,fy af.bw,fy aS.bw,fy dh.bw,fy bJ.bw,fy ie.bw,fy il.bw,fy cC.bw,fy ig.bw,fy ij.bw,fy gy.bw,fy gZ.bw,fy ib.bw,(λ_ _=>US),(λ_ _=>rfl),(λ_ _ _=>rfl),rfl,(λ_=>rfl),(λ_ _=>T5),(λ_ _=>T6),(λ_ _ _=>UQ),(λ_ _=>UR),(λ_ _ _=>J6),(λ_ _ _ _=>J6),(λ_ _ _=>J6)⟩
theorem yV:fG aP.rows/\fG ah.rows/\fG TParam.rows/\fG ay.rows/\fG ab.rows/\fG bD.rows/\fG fM.rows/\fG eC.rows/\fG cq.rows/\fG eh.rows/\fG af.rows/\fG aS.rows/\fG dh.rows/\fG bJ.rows/\fG ie.rows/\fG il.rows/\fG cC.rows/\fG ig.rows/\fG ij.rows/\fG gy.rows/\fG gZ.rows/\fG ib.rows/\(∀l,(aT l).length=l.length)/\(∀k l,(ep k l).length=l.length)/\(∀l,(jm l).length=l.length):=⟨aP.aB,ah.aB,TParam.aB,ay.aB,ab.aB,bD.aB,fM.aB,eC.aB,cq.aB,eh.aB,af.aB,aS.aB,dh.aB,bJ.aB,ie.aB,il.aB,cC.aB,ig.aB,ij.aB,gy.aB,gZ.aB,ib.aB,(λ_=>cv),(λ_ _=>qD),(λ_=>UP)⟩
abbrev ah.z:ah:={Kind:=0,Lo:=0,Hi:=0,Names:=[],aw:=[],aX:=[]:ah}
abbrev ay.z:ay:={aK:=0,ai:={Kind:=0,Lo:=0,Hi:=0,Names:=[],aw:=[],aX:=[]:ah}:ay}
abbrev ab.z:ab:={Op:=0,aj:={aK:=0,ai:={Kind:=0,Lo:=0,Hi:=0,Names:=[],aw:=[],aX:=[]:ah}:ay},N:=0,Text:=[],At:=0,Kids:=[]:ab}
abbrev bD.z:bD:={Name:=[],On:=[],Params:=[],Result:=0,Body:={Op:=0,aj:={aK:=0,ai:={Kind:=0,Lo:=0,Hi:=0,Names:=[],aw:=[],aX:=[]:ah}:ay},N:=0,Text:=[],At:=0,Kids:=[]:ab}:bD}
abbrev cq.z:cq:={N:=0,Names:=[],aw:=[],Entries:=[]:cq}
abbrev af.z:af:={Kind:=0,Text:=[],N:=0,At:=0,Kids:=[]:af}
abbrev aS.z:aS:={Code:=0,At:=0:aS}
abbrev dh.z:dh:={nodes:=0:dh}
theorem zi {p:Prop} (h:p:=by(try simp only[iB]);repeat(first|exact bX.refl _|exact bX.nil _|exact b7.nil|exact dp.nil|exact b7.refl _|exact dp.refl _|exact bX.of (by simp only[iB];rfl)|(dsimp only;try simp only[iB])|apply bX.agg|apply bX.bZ|apply bX.ip|apply bX.fn|apply b7.cons|apply bX.sl|apply dp.cons|apply dp.append)):p:=h
theorem zp {p:Prop} (h:p:=by repeat(first|exact aF.nil|refine aF.cons rfl (ba.dt (cl:=false) rfl aW) ?_|refine aF.skip rfl ?_|refine aF.cons rfl (dZ (cl:=false) rfl aW) ?_)):p:=h
theorem zg {p:Prop} (h:p:=by first|rfl|simp only[qw]|simp only[yV,qw,J2,kA,fu,o9]):p:=h
theorem zn {p:Prop} (h:p:=by first|rfl|(simp only[iB];rfl)|(simp only[iB,qw];rfl)|(simp only[aP.cs,ah.cs,TParam.cs,ay.cs,ab.cs,bD.cs,fM.cs,eC.cs,cq.cs,eh.cs,af.cs,aS.cs,dh.cs,bJ.cs,ie.cs,il.cs,cC.cs,ig.cs,ij.cs,gy.cs,gZ.cs,ib.cs,iB,qw];rfl)):p:=h
theorem zq {D:Type} {l:List D} {i:Nat} {x:D} {p:Prop} (h:l[i]? =some x) (k:i<l.length->p:=by intro h0;first|exact h0|(simpa only[yV,kA,qw,J2,fu,o9,gw,Tb,gA]using h0)):p:=k (cy.1 h).1
theorem zo {c p:Prop} [Decidable c] (h:decide c=true) (k:c->p:=by intro h0;simp only[yV,kA,qw,fu,o9,gA]at h0⊢;omega):p:=k (DD h)
theorem zk {p:Prop} (h:p:=by kernel_rfl):p:=h
