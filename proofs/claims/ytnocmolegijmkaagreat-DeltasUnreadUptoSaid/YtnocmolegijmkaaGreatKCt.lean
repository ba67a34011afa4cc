/- The function that turns faults into results. -/
import Derived.Test.YtnocmolegijmkaaGreatKEnv
import Derived.Tactics
import Derived.Tactics2
import Derived.Defers
import Derived.Recover
import Derived.Laws.Pointers
set_option linter.all false
section
namespace Go.Proofs.YtnocmolegijmkaaGreat
open Go Go.Bw Go.Proofs.Tryz
abbrev zF:AV:= .agg [.v (.int .i64 0),.v (.int .i64 0)]
theorem QV (w:World) (b o:Nat) (cs:Array Value) (e:TypeId) (fz:Nat×Nat) (v:Value) (h:w.heap[b]? =some (.cells cs e fz)) (hv:cs[o]? =some v):w.setCell ⟨b,o,none⟩ v=w:=by
 have hcs:cs.setIfInBounds o v=cs:=by
  apply aad;intro i;by_cases hi:o=i
  ·subst hi;rw[Array.getElem?_setIfInBounds_self_of_lt (gE.1 hv).1,hv]
  ·rw[Array.getElem?_setIfInBounds_ne hi]
 have hh:∀f:Obj->Obj,f (.cells cs e fz)= .cells cs e fz->w.heap.modify b f=w.heap:=by
  intro f hf;apply aad;intro i;rw[Dl];by_cases hi:b=i
  ·subst hi;simp[h,hf]
  ·simp[hi]
 unfold World.setCell;rw[hh _ (by simp[hcs])]
theorem aeR {c:Code} {N b:Nat} {cells cells':List AV} {O:TS} {OB:Sg} {F:Nat->Prop} {w:World} {a:Act}
  (h:au env N 1 [.code c] (λe _ L'=>e= .norm/\L'.e.get 0=some (.box (cells'.map .d))) O (Hp.nil.push (.box (cells.map .d))))
  (hs:SS ⟨λt=>if t=0 then some b else none,λ_ _=>none⟩ O (Bw.look OB)) (hst:St env.G N w F a OB [.box b cells]):
  c.wp Tryz.prog (λe a' w'=>e= .normal/\a'.tmps.size=N/\a'.defers=[]/\bG env.G w' F [.box b cells']/\Ext [.box b cells] w [.box b cells'] w') a w:=by
 have hh:HS ⟨λt=>if t=0 then some b else none,λ_ _=>none⟩ (Hp.nil.push (.box (cells.map .d))) [.box b cells]:=by
  refine⟨λi x hx=>?_,rfl,λt ht=>?_⟩
  ·rcases Tr.fi 24 _ 0 i _ x hx with⟨rfl,h1⟩|⟨_,h1⟩
   ·cases h1;exact⟨.box b cells,rfl,b,cells,by simp,rfl,jb _⟩
   ·simp[Hp.nil,Tr.get]at h1
  ·have:t≠0:=by simp only[Hp.push,Hp.nil]at ht;omega
   simp[this]
 refine wp_mono ((au.one h) _ OB _ hs hh F w [.box b cells] a w hst (Ext.refl _ _)) ?_;rintro e a' w' ⟨e0,O',LB',⟨Z',d,O1,L1,hl,hi,hs',hh',hd,hg⟩,hrel,hst',hx⟩;subst hd;simp only[DE.inst]at hi;subst hi;simp only[AE.rel]at hrel;obtain⟨y,hy,b',cs',hb',rfl,hcs⟩:=hh'.en 0 _ hg;have h0:=(hl 0 (by omega)).1;have:b'=b:=by
  rw[hb']at h0;simpa using h0
 subst this;have hcs:=pe (zs:=cells') (by
  have key:∀l:List AV,iG (l.map .d)=some l:=by
   intro l;induction l with
   |nil=>rfl
   |cons y l ih=>simp[iG,ih]
  exact key cells') hcs
 subst hcs;cases LB' with
 |nil=>simp[nth]at hy
 |cons x r=>
  simp only[nth,aD]at hy;subst hy;exact⟨hrel,hst'.sg.1,hst'.df,bG.drop (L:=[_]) (W:=r) hst'.hp,Ext.drop (L':=[_]) (W:=r) hx⟩
theorem aca (b:Nat) (k1 k2:IntKind) (x y:Int) (older:List PanicEntry) (F:Nat->Prop) (w:World) (hH:bG env.G w F [.box b [.v (.int .i64 0),.v (.int .i64 0)]]):
  CallsD Tryz.prog 115 #[.pointer (some ⟨b,0,none⟩)] (.panicking ({v:= .iface 75 (.agg #[.int k1 x,.int k2 y]),recovered:=false}::older)) w λe u' w'=>
   e= .returned (.tuple #[])/\u'= .panicking ({v:= .iface 75 (.agg #[.int k1 x,.int k2 y]),recovered:=true}::older)/\bG env.G w' F [.box b [.v (.int k1 x),.v (.int k2 y)]]/\Ext [.box b [.v (.int .i64 0),.v (.int .i64 0)]] w [.box b [.v (.int k1 x),.v (.int k2 y)]] w':=by
 refine callsD_of_wpS func115 rfl λc₀ cs hu=>?_;apply wpS_seq;apply wpS_region;simp[wpOpsS,go_sem,recoverD,hu,ntmps115,Exit.thenS];refine wpS_of_wp ?_;refine wp_mono (aeR (N:=16) (cells':=[.v (.int k1 x),.v (.int k2 y)]) (O:=Tr.put 24 (Tr.put 24 .lf 1 (some (.d (.bJ 75 (.agg [.v (.int k1 x),.v (.int k2 y)]))))) 0 (some (.own 0 0))) (OB:=[(0,.own 0 b 0),(1,.bJ 75 (.agg [.v (.int k1 x),.v (.int k2 y)]))]) ?_ ?_ ⟨⟨?_,?_⟩,hH,rfl⟩) ?_
 ·refine aeS mixed 400 rfl ⟨rfl,rfl⟩
 ·intro t z hz;rcases Tr.fi 24 _ 0 t _ z hz with⟨rfl,h1⟩|⟨h0,hz⟩
  ·cases h1;exact⟨.own 0 b 0,rfl,by simp only[aK];exact⟨b,0,by simp,rfl⟩⟩
  ·rcases Tr.fi 24 _ 1 t _ z hz with⟨rfl,h1⟩|⟨_,hz⟩
   ·cases h1;exact⟨_,rfl,rfl⟩
   ·simp[Tr.get]at hz
 ·simp
 ·intro t z hz;simp only[Bw.look]at hz;split at hz
  ·rename_i hb;have:=bK hb;subst this;cases hz;exact⟨by omega,by simp[Rel]⟩
  ·split at hz
   ·rename_i hb;have:=bK hb;subst this;cases hz;exact⟨by omega,by simp[Rel,aL]⟩
   ·cases hz
 ·rintro e a' w' ⟨rfl,h1,h2,h3,h4⟩;refine⟨h2,_,rfl,?_⟩;simp[results,Tryz.results115,h3,h4,go_sem]
theorem aby (b:Nat) (w:World):CallsD Tryz.prog 115 #[.pointer (some ⟨b,0,none⟩)] .returning w λe u' w'=>e= .returned (.tuple #[])/\u'= .returning/\w'=w:=by
 refine callsD_of_wpS func115 rfl λc₀ cs hu=>?_;apply wpS_seq;apply wpS_region;simp[wpOpsS,go_sem,recoverD,hu,ntmps115,Exit.thenS];apply wpS_seq;apply wpS_region;simp[wpOpsS,go_sem,Exit.thenS,eqGuard];refine wpS_cond (t:=false) (by simp[Act.eval,Array.replicate]) ?_;simp only[ki,if_false];refine wpS_of_wp (wp_skip ?_);cases c₀
 simp_all [bodyPostS,results,Tryz.results115]
theorem Rk:rZ env 76 75 zF:=by
 intro g fs cs L Q h hp;refine⟨⟨_,func76,rfl,by kernel_rfl⟩,λF w vs hH hargs=>?_⟩;simp only[aL,Rel]at hargs;obtain⟨v,r,rfl,⟨us,ks,rfl,h1,h2⟩,rfl⟩:=hargs;show Calls Tryz.prog 76 _ w _;refine calls_of_wp_defers func76 rfl ?_;have hmf:∀(fn:Fn) (first cap:Array Value) (w:World),(Instr.makeFunc fn first cap).run Tryz.prog w= .ok (.func fn first cap) w:=λ_ _ _ _=>rfl;apply wp_seq;apply wp_region;simp[wpOps,go_sem,Exit.then,ntmps76];refine .inl ?_;apply wp_seq;apply wp_region;simp[wpOps,go_sem,Exit.then,hmf];refine .inl ?_;refine .inl ?_;apply wp_seq;apply wp_region;simp[wpOps,go_sem,Exit.then];refine .inl ?_;refine .inl ?_;have hcf:∀(ws:Array Value) (w':World),(callFunc g ws).run Tryz.prog w'= .ok (.enter g ws) w':=by
  intro ws w';obtain⟨fn,hf,hbody,hname⟩:=h.1;have hf':Tryz.prog.funcs[g]? =some fn:=hf;simp only[callFunc,Sem.run_bind,run_program,Result.andThen_ok,hf',hname,hbody,ki,if_false,Sem.run_pure]
 rw[hcf,Oper.upon_enter];obtain⟨b,hbdef⟩:∃b,b=w.heap.size:=⟨_,rfl⟩;have hpush:bG env.G (w.alloc (.cells #[.int .i64 0,.int .i64 0] 75)) F (L++[.box w.heap.size [.v (.int .i64 0),.v (.int .i64 0)]]):=by
  refine hH.push (by simp) (λb hb=>kS w _ b hb) (by simp[aw.ids]) (by simp[aw.ids]) ?_;exact⟨75,[.int .i64 0,.int .i64 0],lI w _,by simp[aL,Rel]⟩
 have hext0:=nb w (.cells #[.int .i64 0,.int .i64 0] 75) L (.box w.heap.size [.v (.int .i64 0),.v (.int .i64 0)]) (by simp[aw.ids]);have hargs:aL (w.alloc (.cells #[.int .i64 0,.int .i64 0] 75)) (Al (λx=>F x\/x∈ids [.box w.heap.size [.v (.int .i64 0),.v (.int .i64 0)]]) L) (fs++cs) (us++ks):=by
  rw[oo];exact(h1.append h2).keep hext0.keeps
 have hlt:w.heap.size<(w.alloc (.cells #[.int .i64 0,.int .i64 0] 75)).heap.size:=by simp
 have hbn:w.heap.size∉ids L:=λhm=>by have:=hH.lt _ hm;omega
 have hblk0:(w.alloc (.cells #[.int .i64 0,.int .i64 0] 75)).heap[w.heap.size]? =some (.cells #[.int .i64 0,.int .i64 0] 75):=lI w _;refine(h.2 _ _ (us++ks) hpush.front hargs).mono ?_;rintro e w' ⟨r,L',hQ,hv,hh,hext⟩;obtain⟨g1,g2⟩:=bG.back hpush hh hext;have hblk:w'.heap[w.heap.size]? =some (.cells #[.int .i64 0,.int .i64 0] 75):=(hext.block _ hlt hbn).trans hblk0;have hx0:=hext0.trans g2;rw[<-hbdef]at*
 generalize w.alloc (.cells #[.int .i64 0,.int .i64 0] 75)=w1 at*
 cases r with
 |ret x=>
  obtain⟨v,rfl,hv⟩:=hv;have hc0:w'.cell? ⟨b,0,none⟩=some (.int .i64 0):=by simp[World.cell?,hblk]
  have hc1:w'.cell? ⟨b,1,none⟩=some (.int .i64 0):=by simp[World.cell?,hblk]
  have hz0:w'.frozen? ⟨b,0,none⟩=false:=by simp[World.frozen?,hblk]
  have hz1:w'.frozen? ⟨b,1,none⟩=false:=by simp[World.frozen?,hblk]
  have hs0:=QV w' b 0 _ _ _ (.int .i64 0) hblk rfl;have hs1:=QV w' b 1 _ _ _ (.int .i64 0) hblk rfl;apply wp_seq;apply wp_region;simp[wpOps,go_sem,Exit.then,hc0,hc1,hz0,hz1,hs0,hs1];refine .inl ?_;refine .inl ?_;refine wp_ret ?_;simp only[bodyPostD];refine leaves_cons (f:=115) (args:= #[.pointer (some ⟨b,0,none⟩)]) (by simp) (by simp[go_sem]) ?_;refine(aby b _).mono ?_;rintro e u' w'' ⟨rfl,rfl,rfl⟩;simp[Leaves,settle,results,Tryz.results76,go_sem,hc0,hc1];exact⟨.ret zF,L',.inl ⟨⟨x,hQ⟩,rfl⟩,⟨_,rfl,by simp[Rel,aL,zF]⟩,g1.drop,hx0.drop⟩
 |aS x=>
  obtain⟨v,rfl,hv⟩:=hv;simp only[Exit.then,bodyPostD];obtain⟨y,rfl,hf⟩:=hp x L' hQ;obtain⟨k1,a,k2,c,rfl⟩:∃k1 a k2 c,y= .agg [.v (.int k1 a),.v (.int k2 c)]:=by
   unfold nB at hf;split at hf
   ·exact⟨_,_,_,_,rfl⟩
   ·cases hf
  simp only[Rel,aL]at hv;obtain⟨u,rfl,vs,rfl,v1,r1,rfl,rfl,v2,r2,rfl,rfl,rfl⟩:=hv;refine leaves_cons (f:=115) (args:= #[.pointer (some ⟨b,0,none⟩)]) (by simp) (by simp[go_sem]) ?_;have gp:([aw.box b [.v (.int .i64 0),.v (.int .i64 0)]]++L').Perm (L'++[aw.box b [.v (.int .i64 0),.v (.int .i64 0)]]):=Hc;have g1':=bG.perm gp.symm g1;refine(aca b k1 k2 a c [] _ w' g1'.front).mono ?_;rintro e u' w'' ⟨rfl,rfl,h3,h4⟩;obtain⟨q1,q2⟩:=bG.back g1' h3 h4;have q1':=bG.perm Hc q1;have q2':=((hx0.perm gp.symm).trans q2).perm Hc;obtain⟨e0,vs0,hb0,hr0⟩:=h3.eo _ (PK ..);simp only[aL,Rel]at hr0;obtain⟨_,_,rfl,rfl,_,_,rfl,rfl,rfl⟩:=hr0;have hc0:w''.cell? ⟨b,0,none⟩=some (.int k1 a):=by simp[World.cell?,hb0]
  have hc1:w''.cell? ⟨b,1,none⟩=some (.int k2 c):=by simp[World.cell?,hb0]
  simp[Leaves,settle,results,Tryz.results76,go_sem,hc0,hc1];exact⟨.ret (.agg [.v (.int k1 a),.v (.int k2 c)]),L',.inr ⟨_,hQ,rfl⟩,⟨_,rfl,by simp[Rel,aL]⟩,q1'.drop,q2'.drop⟩
end Go.Proofs.YtnocmolegijmkaaGreat
end

section
namespace Go.Proofs.YtnocmolegijmkaaGreat
open Go Go.Bw
section
variable {D:Type} {r:List D->List (List AV)} {c:D->List AV}
abbrev fR (r:List D->List (List AV)) (c:D->List AV):Prop:=(∀a b,r (a++b)=r a++r b)/\(∀x l,r (x::l)=c x::r l)/\(r []=[])/\(∀k l,r (l.drop k)=(r l).drop k)/\(∀k l,r (l.take k)=(r l).take k)/\(∀l i x,r (l.set i x)=(r l).set i (c x))
abbrev gf (r:List D->List (List AV)):Prop:=∀l,(r l).length=l.length
variable (h:∀l,r l=l.map c)
include h
theorem fW (l):(r l).length=l.length:=by rw[h,jy]
theorem nA {l} {i:Nat} {x} (e:l[i]? =some x):(r l)[i]? =some (c x):=by rw[h];exact get_map e
theorem afW (a b):r (a++b)=r a++r b:=by simp only[h,oX]
theorem aeO (n:Nat) (l):r (l.drop n)=(r l).drop n:=by simp only[h,aab]
theorem aeP (n:Nat) (l):r (l.take n)=(r l).take n:=by simp only[h,Hb]
theorem aeQ (x l):r (x::l)=c x::r l:=by simp only[h,dj]
theorem afX:r []=[]:=by rw[h];rfl
theorem afY (l) (i:Nat) (x):r (l.set i x)=(r l).set i (c x):=by simp only[h,PJ]
theorem fX:fR r c:=⟨afW h,aeQ h,afX h,aeO h,aeP h,afY h⟩
theorem ni (hc:∀x,fJ [c x]=true) (l):fJ (r l)=true:=by rw[h];exact HE hc l
end
structure aV where
 If:(List (List UInt8))
 dT:(List UInt8)
def aV.cs (x:aV):List AV:=[.sl 1 (aG x.If),.v (.string ⟨⟨x.dT⟩⟩)]
def aV.rows (l:List aV):List (List AV):=l.map aV.cs
theorem aV.bg (l:List aV):aV.rows l=l.map aV.cs:=rfl
def aV.aF:= @fW _ _ _ aV.bg
def aV.aE:= @nA _ _ _ aV.bg
def aV.cv:= @ni _ _ _ aV.bg λ_=>rfl
structure ai where
 Kind:Int
 Lo:Int
 Hi:Int
 Names:(List (List UInt8))
 ak:(List ai)
 bI:(List aV)
mutual
def ai.cells:ai->List AV
 |⟨vKind,vLo,vHi,vNames,vParts,vRules⟩=>[.v (.int .i64 vKind),.v (.int .i64 vLo),.v (.int .i64 vHi),.sl 1 (aG vNames),.sl 6 (ai.rows vParts),.sl 2 (aV.rows vRules)]
def ai.rows:List ai->List (List AV)
 |[]=>[]
 |x::r=>ai.cells x::ai.rows r
end
def ai.cs (x:ai):List AV:=[.v (.int .i64 x.Kind),.v (.int .i64 x.Lo),.v (.int .i64 x.Hi),.sl 1 (aG x.Names),.sl 6 (ai.rows x.ak),.sl 2 (aV.rows x.bI)]
theorem ai.qS:∀x:ai,ai.cells x=ai.cs x
 |⟨vKind,vLo,vHi,vNames,vParts,vRules⟩=>by first|rfl|simp only[ai.cells,ai.cs]
theorem ai.bg:∀l:List ai,ai.rows l=l.map ai.cs
 |[]=>by simp only[ai.rows,lE]
 |x::r=>by simp only[ai.rows,ai.qS,ai.bg r,dj]
def ai.aF:= @fW _ _ _ ai.bg
def ai.aE:= @nA _ _ _ ai.bg
def ai.cv:= @ni _ _ _ ai.bg λ_=>rfl
structure TParam where
 Name:(List UInt8)
 a6:Int
def TParam.cs (x:TParam):List AV:=[.v (.string ⟨⟨x.Name⟩⟩),.v (.int .i64 x.a6)]
def TParam.rows (l:List TParam):List (List AV):=l.map TParam.cs
theorem TParam.bg (l:List TParam):TParam.rows l=l.map TParam.cs:=rfl
def TParam.aF:= @fW _ _ _ TParam.bg
def TParam.aE:= @nA _ _ _ TParam.bg
def TParam.cv:= @ni _ _ _ TParam.bg λ_=>rfl
structure aP where
 a6:Int
 aJ:ai
def aP.cs (x:aP):List AV:=[.v (.int .i64 x.a6),.v (.int .i64 x.aJ.Kind),.v (.int .i64 x.aJ.Lo),.v (.int .i64 x.aJ.Hi),.sl 1 (aG x.aJ.Names),.sl 6 (ai.rows x.aJ.ak),.sl 2 (aV.rows x.aJ.bI)]
def aP.rows (l:List aP):List (List AV):=l.map aP.cs
theorem aP.bg (l:List aP):aP.rows l=l.map aP.cs:=rfl
def aP.aF:= @fW _ _ _ aP.bg
structure ab where
 Op:Int
 aO:aP
 N:Int
 Text:(List UInt8)
 At:Int
 Kids:(List ab)
mutual
def ab.cells:ab->List AV
 |⟨vOp,vType_,vN,vText,vAt,vKids⟩=>[.v (.int .i64 vOp),.v (.int .i64 vType_.a6),.v (.int .i64 vType_.aJ.Kind),.v (.int .i64 vType_.aJ.Lo),.v (.int .i64 vType_.aJ.Hi),.sl 1 (aG vType_.aJ.Names),.sl 6 (ai.rows vType_.aJ.ak),.sl 2 (aV.rows vType_.aJ.bI),.v (.int .i64 vN),.v (.string ⟨⟨vText⟩⟩),.v (.int .i64 vAt),.sl 12 (ab.rows vKids)]
def ab.rows:List ab->List (List AV)
 |[]=>[]
 |x::r=>ab.cells x::ab.rows r
end
def ab.cs (x:ab):List AV:=[.v (.int .i64 x.Op),.v (.int .i64 x.aO.a6),.v (.int .i64 x.aO.aJ.Kind),.v (.int .i64 x.aO.aJ.Lo),.v (.int .i64 x.aO.aJ.Hi),.sl 1 (aG x.aO.aJ.Names),.sl 6 (ai.rows x.aO.aJ.ak),.sl 2 (aV.rows x.aO.aJ.bI),.v (.int .i64 x.N),.v (.string ⟨⟨x.Text⟩⟩),.v (.int .i64 x.At),.sl 12 (ab.rows x.Kids)]
theorem ab.qS:∀x:ab,ab.cells x=ab.cs x
 |⟨vOp,vType_,vN,vText,vAt,vKids⟩=>by first|rfl|simp only[ab.cells,ab.cs]
theorem ab.bg:∀l:List ab,ab.rows l=l.map ab.cs
 |[]=>by simp only[ab.rows,lE]
 |x::r=>by simp only[ab.rows,ab.qS,ab.bg r,dj]
def ab.aF:= @fW _ _ _ ab.bg
def ab.aE:= @nA _ _ _ ab.bg
def ab.cv:= @ni _ _ _ ab.bg λ_=>rfl
structure b9 where
 Name:(List UInt8)
 On:(List UInt8)
 Params:(List TParam)
 Result:Int
 Body:ab
def b9.cs (x:b9):List AV:=[.v (.string ⟨⟨x.Name⟩⟩),.v (.string ⟨⟨x.On⟩⟩),.sl 2 (TParam.rows x.Params),.v (.int .i64 x.Result),.v (.int .i64 x.Body.Op),.v (.int .i64 x.Body.aO.a6),.v (.int .i64 x.Body.aO.aJ.Kind),.v (.int .i64 x.Body.aO.aJ.Lo),.v (.int .i64 x.Body.aO.aJ.Hi),.sl 1 (aG x.Body.aO.aJ.Names),.sl 6 (ai.rows x.Body.aO.aJ.ak),.sl 2 (aV.rows x.Body.aO.aJ.bI),.v (.int .i64 x.Body.N),.v (.string ⟨⟨x.Body.Text⟩⟩),.v (.int .i64 x.Body.At),.sl 12 (ab.rows x.Body.Kids)]
def b9.rows (l:List b9):List (List AV):=l.map b9.cs
theorem b9.bg (l:List b9):b9.rows l=l.map b9.cs:=rfl
def b9.aF:= @fW _ _ _ b9.bg
structure aj where
 Process:Int
 N:Int
def aj.cs (x:aj):List AV:=[.v (.int .i64 x.Process),.v (.int .i64 x.N)]
def aj.rows (l:List aj):List (List AV):=l.map aj.cs
theorem aj.bg (l:List aj):aj.rows l=l.map aj.cs:=rfl
def aj.aF:= @fW _ _ _ aj.bg
def aj.aE:= @nA _ _ _ aj.bg
def aj.cv:= @ni _ _ _ aj.bg λ_=>rfl
structure az where
 a8:(List aj)
 Name:(List UInt8)
def az.cs (x:az):List AV:=[.sl 2 (aj.rows x.a8),.v (.string ⟨⟨x.Name⟩⟩)]
def az.rows (l:List az):List (List AV):=l.map az.cs
theorem az.bg (l:List az):az.rows l=l.map az.cs:=rfl
def az.aF:= @fW _ _ _ az.bg
def az.aE:= @nA _ _ _ az.bg
def az.cv:= @ni _ _ _ az.bg λ_=>rfl
structure ah where
 N:Int
 Names:(List (List UInt8))
 ak:(List ah)
 Entries:(List az)
mutual
def ah.cells:ah->List AV
 |⟨vN,vNames,vParts,vEntries⟩=>[.v (.int .i64 vN),.sl 1 (aG vNames),.sl 4 (ah.rows vParts),.sl 2 (az.rows vEntries)]
def ah.rows:List ah->List (List AV)
 |[]=>[]
 |x::r=>ah.cells x::ah.rows r
end
def ah.cs (x:ah):List AV:=[.v (.int .i64 x.N),.sl 1 (aG x.Names),.sl 4 (ah.rows x.ak),.sl 2 (az.rows x.Entries)]
theorem ah.qS:∀x:ah,ah.cells x=ah.cs x
 |⟨vN,vNames,vParts,vEntries⟩=>by first|rfl|simp only[ah.cells,ah.cs]
theorem ah.bg:∀l:List ah,ah.rows l=l.map ah.cs
 |[]=>by simp only[ah.rows,lE]
 |x::r=>by simp only[ah.rows,ah.qS,ah.bg r,dj]
def ah.aF:= @fW _ _ _ ah.bg
def ah.aE:= @nA _ _ _ ah.bg
def ah.cv:= @ni _ _ _ ah.bg λ_=>rfl
structure br where
 a6:Int
 N:Int
 Name:(List UInt8)
 Names:(List (List UInt8))
def br.cs (x:br):List AV:=[.v (.int .i64 x.a6),.v (.int .i64 x.N),.v (.string ⟨⟨x.Name⟩⟩),.sl 1 (aG x.Names)]
def br.rows (l:List br):List (List AV):=l.map br.cs
theorem br.bg (l:List br):br.rows l=l.map br.cs:=rfl
def br.aF:= @fW _ _ _ br.bg
def br.aE:= @nA _ _ _ br.bg
structure aH where
 Kind:Int
 Text:(List UInt8)
 N:Int
 At:Int
 Kids:(List aH)
mutual
def aH.cells:aH->List AV
 |⟨vKind,vText,vN,vAt,vKids⟩=>[.v (.int .i64 vKind),.v (.string ⟨⟨vText⟩⟩),.v (.int .i64 vN),.v (.int .i64 vAt),.sl 5 (aH.rows vKids)]
def aH.rows:List aH->List (List AV)
 |[]=>[]
 |x::r=>aH.cells x::aH.rows r
end
def aH.cs (x:aH):List AV:=[.v (.int .i64 x.Kind),.v (.string ⟨⟨x.Text⟩⟩),.v (.int .i64 x.N),.v (.int .i64 x.At),.sl 5 (aH.rows x.Kids)]
theorem aH.qS:∀x:aH,aH.cells x=aH.cs x
 |⟨vKind,vText,vN,vAt,vKids⟩=>by first|rfl|simp only[aH.cells,aH.cs]
theorem aH.bg:∀l:List aH,aH.rows l=l.map aH.cs
 |[]=>by simp only[aH.rows,lE]
 |x::r=>by simp only[aH.rows,aH.qS,aH.bg r,dj]
def aH.aF:= @fW _ _ _ aH.bg
def aH.aE:= @nA _ _ _ aH.bg
def aH.cv:= @ni _ _ _ aH.bg λ_=>rfl
structure fj where
 Code:Int
 At:Int
def fj.cs (x:fj):List AV:=[.v (.int .i64 x.Code),.v (.int .i64 x.At)]
def fj.rows (l:List fj):List (List AV):=l.map fj.cs
theorem fj.bg (l:List fj):fj.rows l=l.map fj.cs:=rfl
def fj.aF:= @fW _ _ _ fj.bg
structure dO where
 nodes:Int
def dO.cs (x:dO):List AV:=[.v (.int .i64 x.nodes)]
def dO.rows (l:List dO):List (List AV):=l.map dO.cs
theorem dO.bg (l:List dO):dO.rows l=l.map dO.cs:=rfl
def dO.aF:= @fW _ _ _ dO.bg
structure cD where
 l:ai
 params:(List TParam)
def cD.cs (x:cD):List AV:=[.v (.int .i64 x.l.Kind),.v (.int .i64 x.l.Lo),.v (.int .i64 x.l.Hi),.sl 1 (aG x.l.Names),.sl 6 (ai.rows x.l.ak),.sl 2 (aV.rows x.l.bI),.sl 2 (TParam.rows x.params)]
def cD.rows (l:List cD):List (List AV):=l.map cD.cs
theorem cD.bg (l:List cD):cD.rows l=l.map cD.cs:=rfl
def cD.aF:= @fW _ _ _ cD.bg
structure bP where
 d:br
 v:ah
def bP.cs (x:bP):List AV:=[.v (.int .i64 x.d.a6),.v (.int .i64 x.d.N),.v (.string ⟨⟨x.d.Name⟩⟩),.sl 1 (aG x.d.Names),.v (.int .i64 x.v.N),.sl 1 (aG x.v.Names),.sl 4 (ah.rows x.v.ak),.sl 2 (az.rows x.v.Entries)]
def bP.rows (l:List bP):List (List AV):=l.map bP.cs
theorem bP.bg (l:List bP):bP.rows l=l.map bP.cs:=rfl
def bP.aF:= @fW _ _ _ bP.bg
structure cL where
 state:ah
 args:(List br)
def cL.cs (x:cL):List AV:=[.v (.int .i64 x.state.N),.sl 1 (aG x.state.Names),.sl 4 (ah.rows x.state.ak),.sl 2 (az.rows x.state.Entries),.sl 4 (br.rows x.args)]
def cL.rows (l:List cL):List (List AV):=l.map cL.cs
theorem cL.bg (l:List cL):cL.rows l=l.map cL.cs:=rfl
def cL.aF:= @fW _ _ _ cL.bg
structure iX where
 L:ai
 Params:(List TParam)
def iX.cs (x:iX):List AV:=[.v (.int .i64 x.L.Kind),.v (.int .i64 x.L.Lo),.v (.int .i64 x.L.Hi),.sl 1 (aG x.L.Names),.sl 6 (ai.rows x.L.ak),.sl 2 (aV.rows x.L.bI),.sl 2 (TParam.rows x.Params)]
def iX.rows (l:List iX):List (List AV):=l.map iX.cs
theorem iX.bg (l:List iX):iX.rows l=l.map iX.cs:=rfl
def iX.aF:= @fW _ _ _ iX.bg
structure iY where
 data:(List Int)
def iY.cs (x:iY):List AV:=[.sl 1 (dS .u8 x.data)]
def iY.rows (l:List iY):List (List AV):=l.map iY.cs
theorem iY.bg (l:List iY):iY.rows l=l.map iY.cs:=rfl
def iY.aF:= @fW _ _ _ iY.bg
structure iZ where
 data:(List Int)
 at_:Int
 item:Int
 err:Int
def iZ.cs (x:iZ):List AV:=[.sl 1 (dS .u8 x.data),.v (.int .i64 x.at_),.v (.int .i64 x.item),.v (.int .i64 x.err)]
def iZ.rows (l:List iZ):List (List AV):=l.map iZ.cs
theorem iZ.bg (l:List iZ):iZ.rows l=l.map iZ.cs:=rfl
def iZ.aF:= @fW _ _ _ iZ.bg
structure dd where
 oh:(List Int)
 lR:Int
def dd.cs (x:dd):List AV:=[.sl 1 (dS .i64 x.oh),.v (.int .i64 x.lR)]
def dd.rows (l:List dd):List (List AV):=l.map dd.cs
theorem dd.bg (l:List dd):dd.rows l=l.map dd.cs:=rfl
def dd.aF:= @fW _ _ _ dd.bg
def dd.aE:= @nA _ _ _ dd.bg
def dd.cv:= @ni _ _ _ dd.bg λ_=>rfl
structure dI where
 n5:(List (List UInt8))
 rules:(List dd)
def dI.cs (x:dI):List AV:=[.sl 1 (aG x.n5),.sl 2 (dd.rows x.rules)]
def dI.rows (l:List dI):List (List AV):=l.map dI.cs
theorem dI.bg (l:List dI):dI.rows l=l.map dI.cs:=rfl
def dI.aF:= @fW _ _ _ dI.bg
structure dm where
 FR:Int
 name:Int
def dm.cs (x:dm):List AV:=[.v (.int .i64 x.FR),.v (.int .i64 x.name)]
def dm.rows (l:List dm):List (List AV):=l.map dm.cs
theorem dm.bg (l:List dm):dm.rows l=l.map dm.cs:=rfl
def dm.aF:= @fW _ _ _ dm.bg
def dm.cv:= @ni _ _ _ dm.bg λ_=>rfl
theorem iQ:fR aV.rows aV.cs/\fR ai.rows ai.cs/\fR TParam.rows TParam.cs/\fR aP.rows aP.cs/\fR ab.rows ab.cs/\fR b9.rows b9.cs/\fR aj.rows aj.cs/\fR az.rows az.cs/\fR ah.rows ah.cs/\fR br.rows br.cs/\fR aH.rows aH.cs/\fR fj.rows fj.cs/\fR dO.rows dO.cs/\fR cD.rows cD.cs/\fR bP.rows bP.cs/\fR cL.rows cL.cs/\fR iX.rows iX.cs/\fR iY.rows iY.cs/\fR iZ.rows iZ.cs/\fR dd.rows dd.cs/\fR dI.rows dI.cs/\fR dm.rows dm.cs/\(∀a b,aG (a++b)=aG a++aG b)/\(∀x r,aG (x::r)=[.v (.string ⟨⟨x⟩⟩)]::aG r)/\(∀k x r,dS k (x::r)=[.v (.int k x)]::dS k r)/\(aG []=[])/\(∀k,dS k []=[])/\(∀(k:Nat) l,aG (l.drop k)=(aG l).drop k)/\(∀(k:Nat) l,aG (l.take k)=(aG l).take k)/\(∀k a b,dS k (a++b)=dS k a++dS k b)/\(∀a b,du (a++b)=du a++du b)/\(∀l (i:Nat) x,aG (l.set i x)=(aG l).set i [.v (.string ⟨⟨x⟩⟩)])/\(∀k l (i:Nat) x,dS k (l.set i x)=(dS k l).set i [.v (.int k x)])/\(∀l (i:Nat) x,du (l.set i x)=(du l).set i [.v (.bool x)]):=⟨fX aV.bg,fX ai.bg,fX TParam.bg,fX aP.bg,fX ab.bg,fX b9.bg,fX aj.bg,fX az.bg,fX ah.bg,fX br.bg,fX aH.bg,fX fj.bg,fX dO.bg,fX cD.bg,fX bP.bg,fX cL.bg,fX iX.bg,fX iY.bg,fX iZ.bg,fX dd.bg,fX dI.bg,fX dm.bg,(λ_ _=>ab8),(λ_ _=>rfl),(λ_ _ _=>rfl),rfl,(λ_=>rfl),(λ_ _=>QT),(λ_ _=>QU),(λ_ _ _=>ab9),(λ_ _=>ab'),(λ_ _ _=>PJ),(λ_ _ _ _=>PJ),(λ_ _ _=>PJ)⟩
theorem As:gf aV.rows/\gf ai.rows/\gf TParam.rows/\gf aP.rows/\gf ab.rows/\gf b9.rows/\gf aj.rows/\gf az.rows/\gf ah.rows/\gf br.rows/\gf aH.rows/\gf fj.rows/\gf dO.rows/\gf cD.rows/\gf bP.rows/\gf cL.rows/\gf iX.rows/\gf iY.rows/\gf iZ.rows/\gf dd.rows/\gf dI.rows/\gf dm.rows/\(∀l,(aG l).length=l.length)/\(∀k l,(dS k l).length=l.length)/\(∀l,(du l).length=l.length):=⟨aV.aF,ai.aF,TParam.aF,aP.aF,ab.aF,b9.aF,aj.aF,az.aF,ah.aF,br.aF,aH.aF,fj.aF,dO.aF,cD.aF,bP.aF,cL.aF,iX.aF,iY.aF,iZ.aF,dd.aF,dI.aF,dm.aF,(λ_=>bH),(λ_ _=>n9),(λ_=>tp)⟩
abbrev ai.z:ai:={Kind:=0,Lo:=0,Hi:=0,Names:=[],ak:=[],bI:=[]:ai}
abbrev aP.z:aP:={a6:=0,aJ:={Kind:=0,Lo:=0,Hi:=0,Names:=[],ak:=[],bI:=[]:ai}:aP}
abbrev ab.z:ab:={Op:=0,aO:={a6:=0,aJ:={Kind:=0,Lo:=0,Hi:=0,Names:=[],ak:=[],bI:=[]:ai}:aP},N:=0,Text:=[],At:=0,Kids:=[]:ab}
abbrev b9.z:b9:={Name:=[],On:=[],Params:=[],Result:=0,Body:={Op:=0,aO:={a6:=0,aJ:={Kind:=0,Lo:=0,Hi:=0,Names:=[],ak:=[],bI:=[]:ai}:aP},N:=0,Text:=[],At:=0,Kids:=[]:ab}:b9}
abbrev ah.z:ah:={N:=0,Names:=[],ak:=[],Entries:=[]:ah}
abbrev br.z:br:={a6:=0,N:=0,Name:=[],Names:=[]:br}
abbrev aH.z:aH:={Kind:=0,Text:=[],N:=0,At:=0,Kids:=[]:aH}
abbrev fj.z:fj:={Code:=0,At:=0:fj}
abbrev dO.z:dO:={nodes:=0:dO}
theorem zi {p:Prop} (h:p:=by(try simp only[iQ]);repeat(first|exact cq.refl _|exact cq.nil _|exact cH.nil|exact ea.nil|exact cH.refl _|exact ea.refl _|exact cq.of (by simp only[iQ];rfl)|(dsimp only;try simp only[iQ])|apply cq.agg|apply cq.bQ|apply cq.ip|apply cq.fn|apply cH.cons|apply cq.sl|apply ea.cons|apply ea.append)):p:=h
theorem zp {p:Prop} (h:p:=by repeat(first|exact aI.nil|refine aI.cons rfl (bh.eb (cl:=false) rfl aU) ?_|refine aI.skip rfl ?_|refine aI.cons rfl (eS (cl:=false) rfl aU) ?_)):p:=h
theorem zg {p:Prop} (h:p:=by first|rfl|simp only[lF]|simp only[As,lF,oY,jS,gD,lG]):p:=h
theorem zn {p:Prop} (h:p:=by first|rfl|(simp only[iQ];rfl)|(simp only[iQ,lF];rfl)|(simp only[aV.cs,ai.cs,TParam.cs,aP.cs,ab.cs,b9.cs,aj.cs,az.cs,ah.cs,br.cs,aH.cs,fj.cs,dO.cs,cD.cs,bP.cs,cL.cs,iX.cs,iY.cs,iZ.cs,dd.cs,dI.cs,dm.cs,iQ,lF];rfl)):p:=h
theorem zq {D:Type} {l:List D} {i:Nat} {x:D} {p:Prop} (h:l[i]? =some x) (k:i<l.length->p:=by intro h0;first|exact h0|(simpa only[As,jS,lF,oY,gD,lG,iv,aac,iA]using h0)):p:=k (cr.1 h).1
theorem zo {c p:Prop} [Decidable c] (h:decide c=true) (k:c->p:=by intro h0;simp only[As,jS,lF,gD,lG,iA]at h0⊢;omega):p:=k (iV h)
theorem zk {p:Prop} (h:p:=by kernel_rfl):p:=h
