/- The function that turns faults into results. -/
import Derived.Test.YtmbalfjhlngncaaGreatKEnv
import Derived.Tactics
import Derived.Tactics2
import Derived.Defers
import Derived.Recover
import Derived.Laws.Pointers
set_option linter.all false
section
namespace Go.Proofs.YtmbalfjhlngncaaGreat
open Go Go.Bw Go.Proofs.Tryz
abbrev zF:AV:= .agg [.v (.int .i64 0),.v (.int .i64 0)]
theorem NR (w:World) (b o:Nat) (cs:Array Value) (e:TypeId) (fz:Nat×Nat) (v:Value) (h:w.heap[b]? =some (.cells cs e fz)) (hv:cs[o]? =some v):w.setCell ⟨b,o,none⟩ v=w:=by
 have hcs:cs.setIfInBounds o v=cs:=by
  apply Ys;intro i;by_cases hi:o=i
  ·subst hi;rw[Array.getElem?_setIfInBounds_self_of_lt (fS.1 hv).1,hv]
  ·rw[Array.getElem?_setIfInBounds_ne hi]
 have hh:∀f:Obj->Obj,f (.cells cs e fz)= .cells cs e fz->w.heap.modify b f=w.heap:=by
  intro f hf;apply Ys;intro i;rw[BM];by_cases hi:b=i
  ·subst hi;simp[h,hf]
  ·simp[hi]
 unfold World.setCell;rw[hh _ (by simp[hcs])]
theorem ac1 {c:Code} {N b:Nat} {cells cells':List AV} {Z:TS} {ZB:Sg} {F:Nat->Prop} {w:World} {a:Act}
  (h:ak env N 1 [.code c] (λe _ O'=>e= .norm/\O'.e.get 0=some (.box (cells'.map .d))) Z (Hp.nil.push (.box (cells.map .d))))
  (hs:SS ⟨λt=>if t=0 then some b else none,λ_ _=>none⟩ Z (Bw.look ZB)) (hst:St env.G N w F a ZB [.box b cells]):
  c.wp Tryz.prog (λe a' w'=>e= .normal/\a'.tmps.size=N/\a'.defers=[]/\bG env.G w' F [.box b cells']/\Ext [.box b cells] w [.box b cells'] w') a w:=by
 have hh:HS ⟨λt=>if t=0 then some b else none,λ_ _=>none⟩ (Hp.nil.push (.box (cells.map .d))) [.box b cells]:=by
  refine⟨λi x hx=>?_,rfl,λt ht=>?_⟩
  ·rcases Tr.eB 24 _ 0 i _ x hx with⟨rfl,h1⟩|⟨_,h1⟩
   ·cases h1;exact⟨.box b cells,rfl,b,cells,by simp,rfl,iq _⟩
   ·simp[Hp.nil,Tr.get]at h1
  ·have:t≠0:=by simp only[Hp.push,Hp.nil]at ht;omega
   simp[this]
 refine wp_mono ((ak.one h) _ ZB _ hs hh F w [.box b cells] a w hst (Ext.refl _ _)) ?_;rintro e a' w' ⟨e0,Z',OB',⟨W',d,Z1,O1,hl,hi,hs',hh',hd,hg⟩,hrel,hst',hx⟩;subst hd;simp only[DE.inst]at hi;subst hi;simp only[AE.rel]at hrel;obtain⟨y,hy,b',cs',hb',rfl,hcs⟩:=hh'.en 0 _ hg;have h0:=(hl 0 (by omega)).1;have:b'=b:=by
  rw[hb']at h0;simpa using h0
 subst this;have hcs:=mr (zs:=cells') (by
  have key:∀l:List AV,fL (l.map .d)=some l:=by
   intro l;induction l with
   |nil=>rfl
   |cons y l ih=>simp[fL,ih]
  exact key cells') hcs
 subst hcs;cases OB' with
 |nil=>simp[nth]at hy
 |cons x r=>
  simp only[nth,aC]at hy;subst hy;exact⟨hrel,hst'.sg.1,hst'.df,bG.drop (O:=[_]) (L:=r) hst'.hp,Ext.drop (O':=[_]) (L:=r) hx⟩
theorem aaj (b:Nat) (k1 k2:IntKind) (x y:Int) (older:List PanicEntry) (F:Nat->Prop) (w:World) (hH:bG env.G w F [.box b [.v (.int .i64 0),.v (.int .i64 0)]]):
  CallsD Tryz.prog 176 #[.pointer (some ⟨b,0,none⟩)] (.panicking ({v:= .iface 87 (.agg #[.int k1 x,.int k2 y]),recovered:=false}::older)) w λe u' w'=>
   e= .returned (.tuple #[])/\u'= .panicking ({v:= .iface 87 (.agg #[.int k1 x,.int k2 y]),recovered:=true}::older)/\bG env.G w' F [.box b [.v (.int k1 x),.v (.int k2 y)]]/\Ext [.box b [.v (.int .i64 0),.v (.int .i64 0)]] w [.box b [.v (.int k1 x),.v (.int k2 y)]] w':=by
 refine callsD_of_wpS func176 rfl λc₀ cs hu=>?_;apply wpS_seq;apply wpS_region;simp[wpOpsS,go_sem,recoverD,hu,ntmps176,Exit.thenS];refine wpS_of_wp ?_;refine wp_mono (ac1 (N:=16) (cells':=[.v (.int k1 x),.v (.int k2 y)]) (Z:=Tr.put 24 (Tr.put 24 .lf 1 (some (.d (.bC 87 (.agg [.v (.int k1 x),.v (.int k2 y)]))))) 0 (some (.own 0 0))) (ZB:=[(0,.own 0 b 0),(1,.bC 87 (.agg [.v (.int k1 x),.v (.int k2 y)]))]) ?_ ?_ ⟨⟨?_,?_⟩,hH,rfl⟩) ?_
 ·refine ac2 mixed 400 rfl ⟨rfl,rfl⟩
 ·intro t z hz;rcases Tr.eB 24 _ 0 t _ z hz with⟨rfl,h1⟩|⟨h0,hz⟩
  ·cases h1;exact⟨.own 0 b 0,rfl,by simp only[aG];exact⟨b,0,by simp,rfl⟩⟩
  ·rcases Tr.eB 24 _ 1 t _ z hz with⟨rfl,h1⟩|⟨_,hz⟩
   ·cases h1;exact⟨_,rfl,rfl⟩
   ·simp[Tr.get]at hz
 ·simp
 ·intro t z hz;simp only[Bw.look]at hz;split at hz
  ·rename_i hb;have:=bI hb;subst this;cases hz;exact⟨by omega,by simp[Rel]⟩
  ·split at hz
   ·rename_i hb;have:=bI hb;subst this;cases hz;exact⟨by omega,by simp[Rel,aH]⟩
   ·cases hz
 ·rintro e a' w' ⟨rfl,h1,h2,h3,h4⟩;refine⟨h2,_,rfl,?_⟩;simp[results,Tryz.results176,h3,h4,go_sem]
theorem ZJ (b:Nat) (w:World):CallsD Tryz.prog 176 #[.pointer (some ⟨b,0,none⟩)] .returning w λe u' w'=>e= .returned (.tuple #[])/\u'= .returning/\w'=w:=by
 refine callsD_of_wpS func176 rfl λc₀ cs hu=>?_;apply wpS_seq;apply wpS_region;simp[wpOpsS,go_sem,recoverD,hu,ntmps176,Exit.thenS];apply wpS_seq;apply wpS_region;simp[wpOpsS,go_sem,Exit.thenS,eqGuard];refine wpS_cond (t:=false) (by simp[Act.eval,Array.replicate]) ?_;simp only[jA,if_false];refine wpS_of_wp (wp_skip ?_);cases c₀
 simp_all [bodyPostS,results,Tryz.results176]
theorem aak:uO env 109 87 zF:=by
 intro g fs cs O Q h hp;refine⟨⟨_,func109,rfl,by kernel_rfl⟩,λF w vs hH hargs=>?_⟩;simp only[aH,Rel]at hargs;obtain⟨v,r,rfl,⟨us,ks,rfl,h1,h2⟩,rfl⟩:=hargs;show Calls Tryz.prog 109 _ w _;refine calls_of_wp_defers func109 rfl ?_;have hmf:∀(fn:Fn) (first cap:Array Value) (w:World),(Instr.makeFunc fn first cap).run Tryz.prog w= .ok (.func fn first cap) w:=λ_ _ _ _=>rfl;apply wp_seq;apply wp_region;simp[wpOps,go_sem,Exit.then,ntmps109];refine .inl ?_;apply wp_seq;apply wp_region;simp[wpOps,go_sem,Exit.then,hmf];refine .inl ?_;refine .inl ?_;apply wp_seq;apply wp_region;simp[wpOps,go_sem,Exit.then];refine .inl ?_;refine .inl ?_;have hcf:∀(ws:Array Value) (w':World),(callFunc g ws).run Tryz.prog w'= .ok (.enter g ws) w':=by
  intro ws w';obtain⟨fn,hf,hbody,hname⟩:=h.1;have hf':Tryz.prog.funcs[g]? =some fn:=hf;simp only[callFunc,Sem.run_bind,run_program,Result.andThen_ok,hf',hname,hbody,jA,if_false,Sem.run_pure]
 rw[hcf,Oper.upon_enter];obtain⟨b,hbdef⟩:∃b,b=w.heap.size:=⟨_,rfl⟩;have hpush:bG env.G (w.alloc (.cells #[.int .i64 0,.int .i64 0] 87)) F (O++[.box w.heap.size [.v (.int .i64 0),.v (.int .i64 0)]]):=by
  refine hH.push (by simp) (λb hb=>jE w _ b hb) (by simp[aq.ids]) (by simp[aq.ids]) ?_;exact⟨87,[.int .i64 0,.int .i64 0],km w _,by simp[aH,Rel]⟩
 have hext0:=lF w (.cells #[.int .i64 0,.int .i64 0] 87) O (.box w.heap.size [.v (.int .i64 0),.v (.int .i64 0)]) (by simp[aq.ids]);have hargs:aH (w.alloc (.cells #[.int .i64 0,.int .i64 0] 87)) (Al (λx=>F x\/x∈ids [.box w.heap.size [.v (.int .i64 0),.v (.int .i64 0)]]) O) (fs++cs) (us++ks):=by
  rw[nr];exact(h1.append h2).keep hext0.keeps
 have hlt:w.heap.size<(w.alloc (.cells #[.int .i64 0,.int .i64 0] 87)).heap.size:=by simp
 have hbn:w.heap.size∉ids O:=λhm=>by have:=hH.lt _ hm;omega
 have hblk0:(w.alloc (.cells #[.int .i64 0,.int .i64 0] 87)).heap[w.heap.size]? =some (.cells #[.int .i64 0,.int .i64 0] 87):=km w _;refine(h.2 _ _ (us++ks) hpush.front hargs).mono ?_;rintro e w' ⟨r,O',hQ,hv,hh,hext⟩;obtain⟨g1,g2⟩:=bG.back hpush hh hext;have hblk:w'.heap[w.heap.size]? =some (.cells #[.int .i64 0,.int .i64 0] 87):=(hext.block _ hlt hbn).trans hblk0;have hx0:=hext0.trans g2;rw[<-hbdef]at*
 generalize w.alloc (.cells #[.int .i64 0,.int .i64 0] 87)=w1 at*
 cases r with
 |ret x=>
  obtain⟨v,rfl,hv⟩:=hv;have hc0:w'.cell? ⟨b,0,none⟩=some (.int .i64 0):=by simp[World.cell?,hblk]
  have hc1:w'.cell? ⟨b,1,none⟩=some (.int .i64 0):=by simp[World.cell?,hblk]
  have hz0:w'.frozen? ⟨b,0,none⟩=false:=by simp[World.frozen?,hblk]
  have hz1:w'.frozen? ⟨b,1,none⟩=false:=by simp[World.frozen?,hblk]
  have hs0:=NR w' b 0 _ _ _ (.int .i64 0) hblk rfl;have hs1:=NR w' b 1 _ _ _ (.int .i64 0) hblk rfl;apply wp_seq;apply wp_region;simp[wpOps,go_sem,Exit.then,hc0,hc1,hz0,hz1,hs0,hs1];refine .inl ?_;refine .inl ?_;refine wp_ret ?_;simp only[bodyPostD];refine leaves_cons (f:=176) (args:= #[.pointer (some ⟨b,0,none⟩)]) (by simp) (by simp[go_sem]) ?_;refine(ZJ b _).mono ?_;rintro e u' w'' ⟨rfl,rfl,rfl⟩;simp[Leaves,settle,results,Tryz.results109,go_sem,hc0,hc1];exact⟨.ret zF,O',.inl ⟨⟨x,hQ⟩,rfl⟩,⟨_,rfl,by simp[Rel,aH,zF]⟩,g1.drop,hx0.drop⟩
 |aO x=>
  obtain⟨v,rfl,hv⟩:=hv;simp only[Exit.then,bodyPostD];obtain⟨y,rfl,hf⟩:=hp x O' hQ;obtain⟨k1,a,k2,c,rfl⟩:∃k1 a k2 c,y= .agg [.v (.int k1 a),.v (.int k2 c)]:=by
   unfold mJ at hf;split at hf
   ·exact⟨_,_,_,_,rfl⟩
   ·cases hf
  simp only[Rel,aH]at hv;obtain⟨u,rfl,vs,rfl,v1,r1,rfl,rfl,v2,r2,rfl,rfl,rfl⟩:=hv;refine leaves_cons (f:=176) (args:= #[.pointer (some ⟨b,0,none⟩)]) (by simp) (by simp[go_sem]) ?_;have gp:([aq.box b [.v (.int .i64 0),.v (.int .i64 0)]]++O').Perm (O'++[aq.box b [.v (.int .i64 0),.v (.int .i64 0)]]):=Fv;have g1':=bG.perm gp.symm g1;refine(aaj b k1 k2 a c [] _ w' g1'.front).mono ?_;rintro e u' w'' ⟨rfl,rfl,h3,h4⟩;obtain⟨q1,q2⟩:=bG.back g1' h3 h4;have q1':=bG.perm Fv q1;have q2':=((hx0.perm gp.symm).trans q2).perm Fv;obtain⟨e0,vs0,hb0,hr0⟩:=h3.dR _ (MH ..);simp only[aH,Rel]at hr0;obtain⟨_,_,rfl,rfl,_,_,rfl,rfl,rfl⟩:=hr0;have hc0:w''.cell? ⟨b,0,none⟩=some (.int k1 a):=by simp[World.cell?,hb0]
  have hc1:w''.cell? ⟨b,1,none⟩=some (.int k2 c):=by simp[World.cell?,hb0]
  simp[Leaves,settle,results,Tryz.results109,go_sem,hc0,hc1];exact⟨.ret (.agg [.v (.int k1 a),.v (.int k2 c)]),O',.inr ⟨_,hQ,rfl⟩,⟨_,rfl,by simp[Rel,aH]⟩,q1'.drop,q2'.drop⟩
end Go.Proofs.YtmbalfjhlngncaaGreat
end

section
namespace Go.Proofs.YtmbalfjhlngncaaGreat
open Go Go.Bw
section
variable {α:Type} {r:List α->List (List AV)} {c:α->List AV}
abbrev fA (r:List α->List (List AV)) (c:α->List AV):Prop:=(∀a b,r (a++b)=r a++r b)/\(∀x l,r (x::l)=c x::r l)/\(r []=[])/\(∀k l,r (l.drop k)=(r l).drop k)/\(∀k l,r (l.take k)=(r l).take k)/\(∀l i x,r (l.set i x)=(r l).set i (c x))
abbrev fO (r:List α->List (List AV)):Prop:=∀l,(r l).length=l.length
variable (h:∀l,r l=l.map c)
include h
theorem fI (l):(r l).length=l.length:=by rw[h,iK]
theorem mI {l} {i:Nat} {x} (e:l[i]? =some x):(r l)[i]? =some (c x):=by rw[h];exact get_map e
theorem aec (a b):r (a++b)=r a++r b:=by simp only[h,pP]
theorem acY (n:Nat) (l):r (l.drop n)=(r l).drop n:=by simp only[h,Yq]
theorem acZ (n:Nat) (l):r (l.take n)=(r l).take n:=by simp only[h,Fu]
theorem ac0 (x l):r (x::l)=c x::r l:=by simp only[h,dg]
theorem aed:r []=[]:=by rw[h];rfl
theorem aee (l) (i:Nat) (x):r (l.set i x)=(r l).set i (c x):=by simp only[h,MG]
theorem fJ:fA r c:=⟨aec h,ac0 h,aed h,acY h,acZ h,aee h⟩
theorem mz (hc:∀x,fb [c x]=true) (l):fb (r l)=true:=by rw[h];exact FW hc l
end
structure aU where
 If:(List (List UInt8))
 dt:(List UInt8)
def aU.cs (x:aU):List AV:=[.sl 1 (aB x.If),.v (.string ⟨⟨x.dt⟩⟩)]
def aU.rows (l:List aU):List (List AV):=l.map aU.cs
theorem aU.bh (l:List aU):aU.rows l=l.map aU.cs:=rfl
def aU.aI:= @fI _ _ _ aU.bh
def aU.aA:= @mI _ _ _ aU.bh
def aU.cm:= @mz _ _ _ aU.bh λ_=>rfl
structure ah where
 Kind:Int
 Lo:Int
 Hi:Int
 Names:(List (List UInt8))
 aj:(List ah)
 bl:(List aU)
mutual
def ah.cells:ah->List AV
 |⟨vKind,vLo,vHi,vNames,vParts,vRules⟩=>[.v (.int .i64 vKind),.v (.int .i64 vLo),.v (.int .i64 vHi),.sl 1 (aB vNames),.sl 6 (ah.rows vParts),.sl 2 (aU.rows vRules)]
def ah.rows:List ah->List (List AV)
 |[]=>[]
 |x::r=>ah.cells x::ah.rows r
end
def ah.cs (x:ah):List AV:=[.v (.int .i64 x.Kind),.v (.int .i64 x.Lo),.v (.int .i64 x.Hi),.sl 1 (aB x.Names),.sl 6 (ah.rows x.aj),.sl 2 (aU.rows x.bl)]
theorem ah.qc:∀x:ah,ah.cells x=ah.cs x
 |⟨vKind,vLo,vHi,vNames,vParts,vRules⟩=>by first|rfl|simp only[ah.cells,ah.cs]
theorem ah.bh:∀l:List ah,ah.rows l=l.map ah.cs
 |[]=>by simp only[ah.rows,kK]
 |x::r=>by simp only[ah.rows,ah.qc,ah.bh r,dg]
def ah.aI:= @fI _ _ _ ah.bh
def ah.aA:= @mI _ _ _ ah.bh
def ah.cm:= @mz _ _ _ ah.bh λ_=>rfl
structure TParam where
 Name:(List UInt8)
 aX:Int
def TParam.cs (x:TParam):List AV:=[.v (.string ⟨⟨x.Name⟩⟩),.v (.int .i64 x.aX)]
def TParam.rows (l:List TParam):List (List AV):=l.map TParam.cs
theorem TParam.bh (l:List TParam):TParam.rows l=l.map TParam.cs:=rfl
def TParam.aI:= @fI _ _ _ TParam.bh
def TParam.aA:= @mI _ _ _ TParam.bh
structure aP where
 aX:Int
 aL:ah
def aP.cs (x:aP):List AV:=[.v (.int .i64 x.aX),.v (.int .i64 x.aL.Kind),.v (.int .i64 x.aL.Lo),.v (.int .i64 x.aL.Hi),.sl 1 (aB x.aL.Names),.sl 6 (ah.rows x.aL.aj),.sl 2 (aU.rows x.aL.bl)]
def aP.rows (l:List aP):List (List AV):=l.map aP.cs
theorem aP.bh (l:List aP):aP.rows l=l.map aP.cs:=rfl
def aP.aI:= @fI _ _ _ aP.bh
structure ae where
 Op:Int
 aK:aP
 N:Int
 Text:(List UInt8)
 At:Int
 Kids:(List ae)
mutual
def ae.cells:ae->List AV
 |⟨vOp,vType_,vN,vText,vAt,vKids⟩=>[.v (.int .i64 vOp),.v (.int .i64 vType_.aX),.v (.int .i64 vType_.aL.Kind),.v (.int .i64 vType_.aL.Lo),.v (.int .i64 vType_.aL.Hi),.sl 1 (aB vType_.aL.Names),.sl 6 (ah.rows vType_.aL.aj),.sl 2 (aU.rows vType_.aL.bl),.v (.int .i64 vN),.v (.string ⟨⟨vText⟩⟩),.v (.int .i64 vAt),.sl 12 (ae.rows vKids)]
def ae.rows:List ae->List (List AV)
 |[]=>[]
 |x::r=>ae.cells x::ae.rows r
end
def ae.cs (x:ae):List AV:=[.v (.int .i64 x.Op),.v (.int .i64 x.aK.aX),.v (.int .i64 x.aK.aL.Kind),.v (.int .i64 x.aK.aL.Lo),.v (.int .i64 x.aK.aL.Hi),.sl 1 (aB x.aK.aL.Names),.sl 6 (ah.rows x.aK.aL.aj),.sl 2 (aU.rows x.aK.aL.bl),.v (.int .i64 x.N),.v (.string ⟨⟨x.Text⟩⟩),.v (.int .i64 x.At),.sl 12 (ae.rows x.Kids)]
theorem ae.qc:∀x:ae,ae.cells x=ae.cs x
 |⟨vOp,vType_,vN,vText,vAt,vKids⟩=>by first|rfl|simp only[ae.cells,ae.cs]
theorem ae.bh:∀l:List ae,ae.rows l=l.map ae.cs
 |[]=>by simp only[ae.rows,kK]
 |x::r=>by simp only[ae.rows,ae.qc,ae.bh r,dg]
def ae.aI:= @fI _ _ _ ae.bh
def ae.aA:= @mI _ _ _ ae.bh
def ae.cm:= @mz _ _ _ ae.bh λ_=>rfl
structure bU where
 Name:(List UInt8)
 On:(List UInt8)
 Params:(List TParam)
 Result:Int
 Body:ae
def bU.cs (x:bU):List AV:=[.v (.string ⟨⟨x.Name⟩⟩),.v (.string ⟨⟨x.On⟩⟩),.sl 2 (TParam.rows x.Params),.v (.int .i64 x.Result),.v (.int .i64 x.Body.Op),.v (.int .i64 x.Body.aK.aX),.v (.int .i64 x.Body.aK.aL.Kind),.v (.int .i64 x.Body.aK.aL.Lo),.v (.int .i64 x.Body.aK.aL.Hi),.sl 1 (aB x.Body.aK.aL.Names),.sl 6 (ah.rows x.Body.aK.aL.aj),.sl 2 (aU.rows x.Body.aK.aL.bl),.v (.int .i64 x.Body.N),.v (.string ⟨⟨x.Body.Text⟩⟩),.v (.int .i64 x.Body.At),.sl 12 (ae.rows x.Body.Kids)]
def bU.rows (l:List bU):List (List AV):=l.map bU.cs
theorem bU.bh (l:List bU):bU.rows l=l.map bU.cs:=rfl
def bU.aI:= @fI _ _ _ bU.bh
structure ai where
 Process:Int
 N:Int
def ai.cs (x:ai):List AV:=[.v (.int .i64 x.Process),.v (.int .i64 x.N)]
def ai.rows (l:List ai):List (List AV):=l.map ai.cs
theorem ai.bh (l:List ai):ai.rows l=l.map ai.cs:=rfl
def ai.aI:= @fI _ _ _ ai.bh
def ai.aA:= @mI _ _ _ ai.bh
def ai.cm:= @mz _ _ _ ai.bh λ_=>rfl
structure ax where
 aY:(List ai)
 Name:(List UInt8)
def ax.cs (x:ax):List AV:=[.sl 2 (ai.rows x.aY),.v (.string ⟨⟨x.Name⟩⟩)]
def ax.rows (l:List ax):List (List AV):=l.map ax.cs
theorem ax.bh (l:List ax):ax.rows l=l.map ax.cs:=rfl
def ax.aI:= @fI _ _ _ ax.bh
def ax.aA:= @mI _ _ _ ax.bh
def ax.cm:= @mz _ _ _ ax.bh λ_=>rfl
structure af where
 N:Int
 Names:(List (List UInt8))
 aj:(List af)
 Entries:(List ax)
mutual
def af.cells:af->List AV
 |⟨vN,vNames,vParts,vEntries⟩=>[.v (.int .i64 vN),.sl 1 (aB vNames),.sl 4 (af.rows vParts),.sl 2 (ax.rows vEntries)]
def af.rows:List af->List (List AV)
 |[]=>[]
 |x::r=>af.cells x::af.rows r
end
def af.cs (x:af):List AV:=[.v (.int .i64 x.N),.sl 1 (aB x.Names),.sl 4 (af.rows x.aj),.sl 2 (ax.rows x.Entries)]
theorem af.qc:∀x:af,af.cells x=af.cs x
 |⟨vN,vNames,vParts,vEntries⟩=>by first|rfl|simp only[af.cells,af.cs]
theorem af.bh:∀l:List af,af.rows l=l.map af.cs
 |[]=>by simp only[af.rows,kK]
 |x::r=>by simp only[af.rows,af.qc,af.bh r,dg]
def af.aI:= @fI _ _ _ af.bh
def af.aA:= @mI _ _ _ af.bh
def af.cm:= @mz _ _ _ af.bh λ_=>rfl
structure aR where
 aX:Int
 N:Int
 Name:(List UInt8)
 Names:(List (List UInt8))
def aR.cs (x:aR):List AV:=[.v (.int .i64 x.aX),.v (.int .i64 x.N),.v (.string ⟨⟨x.Name⟩⟩),.sl 1 (aB x.Names)]
def aR.rows (l:List aR):List (List AV):=l.map aR.cs
theorem aR.bh (l:List aR):aR.rows l=l.map aR.cs:=rfl
def aR.aI:= @fI _ _ _ aR.bh
def aR.aA:= @mI _ _ _ aR.bh
def aR.cm:= @mz _ _ _ aR.bh λ_=>rfl
structure fT where
 D:aR
 V:af
def fT.cs (x:fT):List AV:=[.v (.int .i64 x.D.aX),.v (.int .i64 x.D.N),.v (.string ⟨⟨x.D.Name⟩⟩),.sl 1 (aB x.D.Names),.v (.int .i64 x.V.N),.sl 1 (aB x.V.Names),.sl 4 (af.rows x.V.aj),.sl 2 (ax.rows x.V.Entries)]
def fT.rows (l:List fT):List (List AV):=l.map fT.cs
theorem fT.bh (l:List fT):fT.rows l=l.map fT.cs:=rfl
def fT.aI:= @fI _ _ _ fT.bh
structure az where
 Kind:Int
 Text:(List UInt8)
 N:Int
 At:Int
 Kids:(List az)
mutual
def az.cells:az->List AV
 |⟨vKind,vText,vN,vAt,vKids⟩=>[.v (.int .i64 vKind),.v (.string ⟨⟨vText⟩⟩),.v (.int .i64 vN),.v (.int .i64 vAt),.sl 5 (az.rows vKids)]
def az.rows:List az->List (List AV)
 |[]=>[]
 |x::r=>az.cells x::az.rows r
end
def az.cs (x:az):List AV:=[.v (.int .i64 x.Kind),.v (.string ⟨⟨x.Text⟩⟩),.v (.int .i64 x.N),.v (.int .i64 x.At),.sl 5 (az.rows x.Kids)]
theorem az.qc:∀x:az,az.cells x=az.cs x
 |⟨vKind,vText,vN,vAt,vKids⟩=>by first|rfl|simp only[az.cells,az.cs]
theorem az.bh:∀l:List az,az.rows l=l.map az.cs
 |[]=>by simp only[az.rows,kK]
 |x::r=>by simp only[az.rows,az.qc,az.bh r,dg]
def az.aI:= @fI _ _ _ az.bh
def az.aA:= @mI _ _ _ az.bh
def az.cm:= @mz _ _ _ az.bh λ_=>rfl
structure eF where
 Code:Int
 At:Int
def eF.cs (x:eF):List AV:=[.v (.int .i64 x.Code),.v (.int .i64 x.At)]
def eF.rows (l:List eF):List (List AV):=l.map eF.cs
theorem eF.bh (l:List eF):eF.rows l=l.map eF.cs:=rfl
def eF.aI:= @fI _ _ _ eF.bh
structure bL where
 d:aR
 v:af
def bL.cs (x:bL):List AV:=[.v (.int .i64 x.d.aX),.v (.int .i64 x.d.N),.v (.string ⟨⟨x.d.Name⟩⟩),.sl 1 (aB x.d.Names),.v (.int .i64 x.v.N),.sl 1 (aB x.v.Names),.sl 4 (af.rows x.v.aj),.sl 2 (ax.rows x.v.Entries)]
def bL.rows (l:List bL):List (List AV):=l.map bL.cs
theorem bL.bh (l:List bL):bL.rows l=l.map bL.cs:=rfl
def bL.aI:= @fI _ _ _ bL.bh
structure cG where
 state:af
 args:(List aR)
def cG.cs (x:cG):List AV:=[.v (.int .i64 x.state.N),.sl 1 (aB x.state.Names),.sl 4 (af.rows x.state.aj),.sl 2 (ax.rows x.state.Entries),.sl 4 (aR.rows x.args)]
def cG.rows (l:List cG):List (List AV):=l.map cG.cs
theorem cG.bh (l:List cG):cG.rows l=l.map cG.cs:=rfl
def cG.aI:= @fI _ _ _ cG.bh
structure fU where
 L:ah
 Params:(List TParam)
def fU.cs (x:fU):List AV:=[.v (.int .i64 x.L.Kind),.v (.int .i64 x.L.Lo),.v (.int .i64 x.L.Hi),.sl 1 (aB x.L.Names),.sl 6 (ah.rows x.L.aj),.sl 2 (aU.rows x.L.bl),.sl 2 (TParam.rows x.Params)]
def fU.rows (l:List fU):List (List AV):=l.map fU.cs
theorem fU.bh (l:List fU):fU.rows l=l.map fU.cs:=rfl
def fU.aI:= @fI _ _ _ fU.bh
structure dy where
 nodes:Int
def dy.cs (x:dy):List AV:=[.v (.int .i64 x.nodes)]
def dy.rows (l:List dy):List (List AV):=l.map dy.cs
theorem dy.bh (l:List dy):dy.rows l=l.map dy.cs:=rfl
def dy.aI:= @fI _ _ _ dy.bh
structure cx where
 l:ah
 params:(List TParam)
def cx.cs (x:cx):List AV:=[.v (.int .i64 x.l.Kind),.v (.int .i64 x.l.Lo),.v (.int .i64 x.l.Hi),.sl 1 (aB x.l.Names),.sl 6 (ah.rows x.l.aj),.sl 2 (aU.rows x.l.bl),.sl 2 (TParam.rows x.params)]
def cx.rows (l:List cx):List (List AV):=l.map cx.cs
theorem cx.bh (l:List cx):cx.rows l=l.map cx.cs:=rfl
def cx.aI:= @fI _ _ _ cx.bh
structure cK where
 mu:(List Int)
 ky:Int
def cK.cs (x:cK):List AV:=[.sl 1 (dJ .i64 x.mu),.v (.int .i64 x.ky)]
def cK.rows (l:List cK):List (List AV):=l.map cK.cs
theorem cK.bh (l:List cK):cK.rows l=l.map cK.cs:=rfl
def cK.aI:= @fI _ _ _ cK.bh
def cK.aA:= @mI _ _ _ cK.bh
def cK.cm:= @mz _ _ _ cK.bh λ_=>rfl
structure cY where
 mo:(List (List UInt8))
 rules:(List cK)
def cY.cs (x:cY):List AV:=[.sl 1 (aB x.mo),.sl 2 (cK.rows x.rules)]
def cY.rows (l:List cY):List (List AV):=l.map cY.cs
theorem cY.bh (l:List cY):cY.rows l=l.map cY.cs:=rfl
def cY.aI:= @fI _ _ _ cY.bh
structure cQ where
 yB:Int
 name:Int
def cQ.cs (x:cQ):List AV:=[.v (.int .i64 x.yB),.v (.int .i64 x.name)]
def cQ.rows (l:List cQ):List (List AV):=l.map cQ.cs
theorem cQ.bh (l:List cQ):cQ.rows l=l.map cQ.cs:=rfl
def cQ.aI:= @fI _ _ _ cQ.bh
def cQ.cm:= @mz _ _ _ cQ.bh λ_=>rfl
theorem gW:fA aU.rows aU.cs/\fA ah.rows ah.cs/\fA TParam.rows TParam.cs/\fA aP.rows aP.cs/\fA ae.rows ae.cs/\fA bU.rows bU.cs/\fA ai.rows ai.cs/\fA ax.rows ax.cs/\fA af.rows af.cs/\fA aR.rows aR.cs/\fA fT.rows fT.cs/\fA az.rows az.cs/\fA eF.rows eF.cs/\fA bL.rows bL.cs/\fA cG.rows cG.cs/\fA fU.rows fU.cs/\fA dy.rows dy.cs/\fA cx.rows cx.cs/\fA cK.rows cK.cs/\fA cY.rows cY.cs/\fA cQ.rows cQ.cs/\(∀a b,aB (a++b)=aB a++aB b)/\(∀x r,aB (x::r)=[.v (.string ⟨⟨x⟩⟩)]::aB r)/\(∀k x r,dJ k (x::r)=[.v (.int k x)]::dJ k r)/\(aB []=[])/\(∀k,dJ k []=[])/\(∀(k:Nat) l,aB (l.drop k)=(aB l).drop k)/\(∀(k:Nat) l,aB (l.take k)=(aB l).take k)/\(∀k a b,dJ k (a++b)=dJ k a++dJ k b)/\(∀a b,c9 (a++b)=c9 a++c9 b)/\(∀l (i:Nat) x,aB (l.set i x)=(aB l).set i [.v (.string ⟨⟨x⟩⟩)])/\(∀k l (i:Nat) x,dJ k (l.set i x)=(dJ k l).set i [.v (.int k x)])/\(∀l (i:Nat) x,c9 (l.set i x)=(c9 l).set i [.v (.bool x)]):=⟨fJ aU.bh,fJ ah.bh,fJ TParam.bh,fJ aP.bh,fJ ae.bh,fJ bU.bh,fJ ai.bh,fJ ax.bh,fJ af.bh,fJ aR.bh,fJ fT.bh,fJ az.bh,fJ eF.bh,fJ bL.bh,fJ cG.bh,fJ fU.bh,fJ dy.bh,fJ cx.bh,fJ cK.bh,fJ cY.bh,fJ cQ.bh,(λ_ _=>aag),(λ_ _=>rfl),(λ_ _ _=>rfl),rfl,(λ_=>rfl),(λ_ _=>NP),(λ_ _=>NQ),(λ_ _ _=>aah),(λ_ _=>aai),(λ_ _ _=>MG),(λ_ _ _ _=>MG),(λ_ _ _=>MG)⟩
theorem yD:fO aU.rows/\fO ah.rows/\fO TParam.rows/\fO aP.rows/\fO ae.rows/\fO bU.rows/\fO ai.rows/\fO ax.rows/\fO af.rows/\fO aR.rows/\fO fT.rows/\fO az.rows/\fO eF.rows/\fO bL.rows/\fO cG.rows/\fO fU.rows/\fO dy.rows/\fO cx.rows/\fO cK.rows/\fO cY.rows/\fO cQ.rows/\(∀l,(aB l).length=l.length)/\(∀k l,(dJ k l).length=l.length)/\(∀l,(c9 l).length=l.length):=⟨aU.aI,ah.aI,TParam.aI,aP.aI,ae.aI,bU.aI,ai.aI,ax.aI,af.aI,aR.aI,fT.aI,az.aI,eF.aI,bL.aI,cG.aI,fU.aI,dy.aI,cx.aI,cK.aI,cY.aI,cQ.aI,(λ_=>bD),(λ_ _=>nj),(λ_=>sx)⟩
abbrev aU.z:aU:={If:=[],dt:=[]:aU}
abbrev ah.z:ah:={Kind:=0,Lo:=0,Hi:=0,Names:=[],aj:=[],bl:=[]:ah}
abbrev TParam.z:TParam:={Name:=[],aX:=0:TParam}
abbrev aP.z:aP:={aX:=0,aL:={Kind:=0,Lo:=0,Hi:=0,Names:=[],aj:=[],bl:=[]:ah}:aP}
abbrev ae.z:ae:={Op:=0,aK:={aX:=0,aL:={Kind:=0,Lo:=0,Hi:=0,Names:=[],aj:=[],bl:=[]:ah}:aP},N:=0,Text:=[],At:=0,Kids:=[]:ae}
abbrev bU.z:bU:={Name:=[],On:=[],Params:=[],Result:=0,Body:={Op:=0,aK:={aX:=0,aL:={Kind:=0,Lo:=0,Hi:=0,Names:=[],aj:=[],bl:=[]:ah}:aP},N:=0,Text:=[],At:=0,Kids:=[]:ae}:bU}
abbrev ai.z:ai:={Process:=0,N:=0:ai}
abbrev ax.z:ax:={aY:=[],Name:=[]:ax}
abbrev af.z:af:={N:=0,Names:=[],aj:=[],Entries:=[]:af}
abbrev aR.z:aR:={aX:=0,N:=0,Name:=[],Names:=[]:aR}
abbrev fT.z:fT:={D:={aX:=0,N:=0,Name:=[],Names:=[]:aR},V:={N:=0,Names:=[],aj:=[],Entries:=[]:af}:fT}
abbrev az.z:az:={Kind:=0,Text:=[],N:=0,At:=0,Kids:=[]:az}
abbrev eF.z:eF:={Code:=0,At:=0:eF}
abbrev bL.z:bL:={d:={aX:=0,N:=0,Name:=[],Names:=[]:aR},v:={N:=0,Names:=[],aj:=[],Entries:=[]:af}:bL}
abbrev cG.z:cG:={state:={N:=0,Names:=[],aj:=[],Entries:=[]:af},args:=[]:cG}
abbrev fU.z:fU:={L:={Kind:=0,Lo:=0,Hi:=0,Names:=[],aj:=[],bl:=[]:ah},Params:=[]:fU}
abbrev dy.z:dy:={nodes:=0:dy}
abbrev cx.z:cx:={l:={Kind:=0,Lo:=0,Hi:=0,Names:=[],aj:=[],bl:=[]:ah},params:=[]:cx}
abbrev cK.z:cK:={mu:=[],ky:=0:cK}
abbrev cY.z:cY:={mo:=[],rules:=[]:cY}
abbrev cQ.z:cQ:={yB:=0,name:=0:cQ}
theorem zi {p:Prop} (h:p:=by(try simp only[gW]);repeat(first|exact bV.refl _|exact bV.nil _|exact b8.nil|exact du.nil|exact b8.refl _|exact du.refl _|exact bV.of (by simp only[gW];rfl)|(dsimp only;try simp only[gW])|apply bV.agg|apply bV.bX|apply bV.ip|apply bV.fn|apply b8.cons|apply bV.sl|apply du.cons|apply du.append)):p:=h
theorem zp {p:Prop} (h:p:=by repeat(first|exact aE.nil|refine aE.cons rfl (bd.dK (cl:=false) rfl aV) ?_|refine aE.skip rfl ?_|refine aE.cons rfl (ep (cl:=false) rfl aV) ?_)):p:=h
theorem zg {p:Prop} (h:p:=by first|rfl|simp only[kL]|simp only[yD,kL,oh,jB,kI,lA]):p:=h
theorem zn {p:Prop} (h:p:=by first|rfl|(simp only[gW];rfl)|(simp only[gW,kL];rfl)|(simp only[aU.cs,ah.cs,TParam.cs,aP.cs,ae.cs,bU.cs,ai.cs,ax.cs,af.cs,aR.cs,fT.cs,az.cs,eF.cs,bL.cs,cG.cs,fU.cs,dy.cs,cx.cs,cK.cs,cY.cs,cQ.cs,gW,kL];rfl)):p:=h
theorem zq {α:Type} {l:List α} {i:Nat} {x:α} {p:Prop} (h:l[i]? =some x) (k:i<l.length->p:=by intro h0;first|exact h0|(simpa only[yD,jB,kL,oh,kI,lA,gU,Yr,gH]using h0)):p:=k (b9.1 h).1
theorem zo {c p:Prop} [Decidable c] (h:decide c=true) (k:c->p:=by intro h0;simp only[yD,jB,kL,kI,lA,gH]at h0⊢;omega):p:=k (ig h)
theorem zk {p:Prop} (h:p:=by kernel_rfl):p:=h
