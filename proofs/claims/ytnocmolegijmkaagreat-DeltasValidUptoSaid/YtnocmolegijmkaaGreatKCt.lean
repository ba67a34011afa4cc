/- The function that turns faults into results. -/
import Derived.Test.YtnocmolegijmkaaGreatKEnv
import Derived.Tactics
import Derived.Tactics2
import Derived.Defers
import Derived.Recover
import Derived.Laws.Pointers
set_option linter.all false
section
namespace Go.Proofs.YtnocmolegijmkaaGreat
open Go Go.Bw Go.Proofs.Tryz
abbrev zF:AV:= .agg [.v (.int .i64 0),.v (.int .i64 0)]
theorem Ge (w:World) (b o:Nat) (cs:Array Value) (e:TypeId) (fz:Nat×Nat) (v:Value) (h:w.heap[b]? =some (.cells cs e fz)) (hv:cs[o]? =some v):w.setCell ⟨b,o,none⟩ v=w:=by
 have hcs:cs.setIfInBounds o v=cs:=by
  apply XT;intro i;by_cases hi:o=i
  ·subst hi;rw[Array.getElem?_setIfInBounds_self_of_lt (kF.1 hv).1,hv]
  ·rw[Array.getElem?_setIfInBounds_ne hi]
 have hh:∀f:Obj->Obj,f (.cells cs e fz)= .cells cs e fz->w.heap.modify b f=w.heap:=by
  intro f hf;apply XT;intro i;rw[XU];by_cases hi:b=i
  ·subst hi;simp[h,hf]
  ·simp[hi]
 unfold World.setCell;rw[hh _ (by simp[hcs])]
theorem Qi {c:Code} {N b:Nat} {cells cells':List AV} {O:TS} {OB:Sg} {F:Nat->Prop} {w:World} {a:Act}
  (h:ao env N 1 [.code c] (λe _ L'=>e= .norm/\L'.e.get 0=some (.box (cells'.map .d))) O (Hp.nil.push (.box (cells.map .d))))
  (hs:SS ⟨λt=>if t=0 then some b else none,λ_ _=>none⟩ O (Bw.look OB)) (hst:St env.G N w F a OB [.box b cells]):
  c.wp Tryz.prog (λe a' w'=>e= .normal/\a'.tmps.size=N/\a'.defers=[]/\bh env.G w' F [.box b cells']/\Ext [.box b cells] w [.box b cells'] w') a w:=by
 have hh:HS ⟨λt=>if t=0 then some b else none,λ_ _=>none⟩ (Hp.nil.push (.box (cells.map .d))) [.box b cells]:=by
  refine⟨λi x hx=>?_,rfl,λt ht=>?_⟩
  ·rcases Tr.eu 24 _ 0 i _ x hx with⟨rfl,h1⟩|⟨_,h1⟩
   ·cases h1;exact⟨.box b cells,rfl,b,cells,by simp,rfl,gv _⟩
   ·simp[Hp.nil,Tr.get]at h1
  ·have:t≠0:=by simp only[Hp.push,Hp.nil]at ht;omega
   simp[this]
 refine wp_mono ((ao.one h) _ OB _ hs hh F w [.box b cells] a w hst (Ext.refl _ _)) ?_;rintro e a' w' ⟨e0,O',LB',⟨Z',d,O1,η1,hl,hi,hs',hh',hd,hg⟩,hrel,hst',hx⟩;subst hd;simp only[DE.inst]at hi;subst hi;simp only[AE.rel]at hrel;obtain⟨y,hy,b',cs',hb',rfl,hcs⟩:=hh'.en 0 _ hg;have h0:=(hl 0 (by omega)).1;have:b'=b:=by
  rw[hb']at h0;simpa using h0
 subst this;have hcs:=mU (zs:=cells') (by
  have key:∀l:List AV,fM (l.map .d)=some l:=by
   intro l;induction l with
   |nil=>rfl
   |cons y l ih=>simp[fM,ih]
  exact key cells') hcs
 subst hcs;cases LB' with
 |nil=>simp[nth]at hy
 |cons x r=>
  simp only[nth,ax]at hy;subst hy;exact⟨hrel,hst'.sg.1,hst'.df,bh.drop (L:=[_]) (W:=r) hst'.hp,Ext.drop (L':=[_]) (W:=r) hx⟩
theorem OD (b:Nat) (k1 k2:IntKind) (x y:Int) (older:List PanicEntry) (F:Nat->Prop) (w:World) (hH:bh env.G w F [.box b [.v (.int .i64 0),.v (.int .i64 0)]]):
  CallsD Tryz.prog 115 #[.pointer (some ⟨b,0,none⟩)] (.panicking ({v:= .iface 75 (.agg #[.int k1 x,.int k2 y]),recovered:=false}::older)) w λe u' w'=>
   e= .returned (.tuple #[])/\u'= .panicking ({v:= .iface 75 (.agg #[.int k1 x,.int k2 y]),recovered:=true}::older)/\bh env.G w' F [.box b [.v (.int k1 x),.v (.int k2 y)]]/\Ext [.box b [.v (.int .i64 0),.v (.int .i64 0)]] w [.box b [.v (.int k1 x),.v (.int k2 y)]] w':=by
 refine callsD_of_wpS func115 rfl λc₀ cs hu=>?_;apply wpS_seq;apply wpS_region;simp[wpOpsS,go_sem,recoverD,hu,ntmps115,Exit.thenS];refine wpS_of_wp ?_;refine wp_mono (Qi (N:=16) (cells':=[.v (.int k1 x),.v (.int k2 y)]) (O:=Tr.put 24 (Tr.put 24 .lf 1 (some (.d (.bd 75 (.agg [.v (.int k1 x),.v (.int k2 y)]))))) 0 (some (.own 0 0))) (OB:=[(0,.own 0 b 0),(1,.bd 75 (.agg [.v (.int k1 x),.v (.int k2 y)]))]) ?_ ?_ ⟨⟨?_,?_⟩,hH,rfl⟩) ?_
 ·refine Qj mixed 400 rfl ⟨rfl,rfl⟩
 ·intro t z hz;rcases Tr.eu 24 _ 0 t _ z hz with⟨rfl,h1⟩|⟨h0,hz⟩
  ·cases h1;exact⟨.own 0 b 0,rfl,by simp only[aC];exact⟨b,0,by simp,rfl⟩⟩
  ·rcases Tr.eu 24 _ 1 t _ z hz with⟨rfl,h1⟩|⟨_,hz⟩
   ·cases h1;exact⟨_,rfl,rfl⟩
   ·simp[Tr.get]at hz
 ·simp
 ·intro t z hz;simp only[Bw.look]at hz;split at hz
  ·rename_i hb;have:=bg hb;subst this;cases hz;exact⟨by omega,by simp[Rel]⟩
  ·split at hz
   ·rename_i hb;have:=bg hb;subst this;cases hz;exact⟨by omega,by simp[Rel,aG]⟩
   ·cases hz
 ·rintro e a' w' ⟨rfl,h1,h2,h3,h4⟩;refine⟨h2,_,rfl,?_⟩;simp[results,Tryz.results115,h3,h4,go_sem]
theorem N2 (b:Nat) (w:World):CallsD Tryz.prog 115 #[.pointer (some ⟨b,0,none⟩)] .returning w λe u' w'=>e= .returned (.tuple #[])/\u'= .returning/\w'=w:=by
 refine callsD_of_wpS func115 rfl λc₀ cs hu=>?_;apply wpS_seq;apply wpS_region;simp[wpOpsS,go_sem,recoverD,hu,ntmps115,Exit.thenS];apply wpS_seq;apply wpS_region;simp[wpOpsS,go_sem,Exit.thenS,eqGuard];refine wpS_cond (t:=false) (by simp[Act.eval,Array.replicate]) ?_;simp only[iN,if_false];refine wpS_of_wp (wp_skip ?_);cases c₀
 simp_all [bodyPostS,results,Tryz.results115]
theorem GD:pe env 76 75 zF:=by
 intro g fs cs L Q h hp;refine⟨⟨_,func76,rfl,by kernel_rfl⟩,λF w vs hH hargs=>?_⟩;simp only[aG,Rel]at hargs;obtain⟨v,r,rfl,⟨us,ks,rfl,h1,h2⟩,rfl⟩:=hargs;show Calls Tryz.prog 76 _ w _;refine calls_of_wp_defers func76 rfl ?_;have hmf:∀(fn:Fn) (first cap:Array Value) (w:World),(Instr.makeFunc fn first cap).run Tryz.prog w= .ok (.func fn first cap) w:=λ_ _ _ _=>rfl;apply wp_seq;apply wp_region;simp[wpOps,go_sem,Exit.then,ntmps76];refine .inl ?_;apply wp_seq;apply wp_region;simp[wpOps,go_sem,Exit.then,hmf];refine .inl ?_;refine .inl ?_;apply wp_seq;apply wp_region;simp[wpOps,go_sem,Exit.then];refine .inl ?_;refine .inl ?_;have hcf:∀(ws:Array Value) (w':World),(callFunc g ws).run Tryz.prog w'= .ok (.enter g ws) w':=by
  intro ws w';obtain⟨fn,hf,hbody,hname⟩:=h.1;have hf':Tryz.prog.funcs[g]? =some fn:=hf;simp only[callFunc,Sem.run_bind,run_program,Result.andThen_ok,hf',hname,hbody,iN,if_false,Sem.run_pure]
 rw[hcf,Oper.upon_enter];obtain⟨b,hbdef⟩:∃b,b=w.heap.size:=⟨_,rfl⟩;have hpush:bh env.G (w.alloc (.cells #[.int .i64 0,.int .i64 0] 75)) F (L++[.box w.heap.size [.v (.int .i64 0),.v (.int .i64 0)]]):=by
  refine hH.push (by simp) (λb hb=>jZ w _ b hb) (by simp[aj.ids]) (by simp[aj.ids]) ?_;exact⟨75,[.int .i64 0,.int .i64 0],kJ w _,by simp[aG,Rel]⟩
 have hext0:=mi w (.cells #[.int .i64 0,.int .i64 0] 75) L (.box w.heap.size [.v (.int .i64 0),.v (.int .i64 0)]) (by simp[aj.ids]);have hargs:aG (w.alloc (.cells #[.int .i64 0,.int .i64 0] 75)) (Al (λx=>F x\/x∈ids [.box w.heap.size [.v (.int .i64 0),.v (.int .i64 0)]]) L) (fs++cs) (us++ks):=by
  rw[ml];exact(h1.append h2).aX hext0.keeps
 have hlt:w.heap.size<(w.alloc (.cells #[.int .i64 0,.int .i64 0] 75)).heap.size:=by simp
 have hbn:w.heap.size∉ids L:=λhm=>by have:=hH.lt _ hm;omega
 have hblk0:(w.alloc (.cells #[.int .i64 0,.int .i64 0] 75)).heap[w.heap.size]? =some (.cells #[.int .i64 0,.int .i64 0] 75):=kJ w _;refine(h.2 _ _ (us++ks) hpush.front hargs).mono ?_;rintro e w' ⟨r,L',hQ,hv,hh,hext⟩;obtain⟨g1,g2⟩:=bh.back hpush hh hext;have hblk:w'.heap[w.heap.size]? =some (.cells #[.int .i64 0,.int .i64 0] 75):=(hext.block _ hlt hbn).trans hblk0;have hx0:=hext0.trans g2;rw[<-hbdef]at*
 generalize w.alloc (.cells #[.int .i64 0,.int .i64 0] 75)=w1 at*
 cases r with
 |ret x=>
  obtain⟨v,rfl,hv⟩:=hv;have hc0:w'.cell? ⟨b,0,none⟩=some (.int .i64 0):=by simp[World.cell?,hblk]
  have hc1:w'.cell? ⟨b,1,none⟩=some (.int .i64 0):=by simp[World.cell?,hblk]
  have hz0:w'.frozen? ⟨b,0,none⟩=false:=by simp[World.frozen?,hblk]
  have hz1:w'.frozen? ⟨b,1,none⟩=false:=by simp[World.frozen?,hblk]
  have hs0:=Ge w' b 0 _ _ _ (.int .i64 0) hblk rfl;have hs1:=Ge w' b 1 _ _ _ (.int .i64 0) hblk rfl;apply wp_seq;apply wp_region;simp[wpOps,go_sem,Exit.then,hc0,hc1,hz0,hz1,hs0,hs1];refine .inl ?_;refine .inl ?_;refine wp_ret ?_;simp only[bodyPostD];refine leaves_cons (f:=115) (args:= #[.pointer (some ⟨b,0,none⟩)]) (by simp) (by simp[go_sem]) ?_;refine(N2 b _).mono ?_;rintro e u' w'' ⟨rfl,rfl,rfl⟩;simp[Leaves,settle,results,Tryz.results76,go_sem,hc0,hc1];exact⟨.ret zF,L',.inl ⟨⟨x,hQ⟩,rfl⟩,⟨_,rfl,by simp[Rel,aG,zF]⟩,g1.drop,hx0.drop⟩
 |aJ x=>
  obtain⟨v,rfl,hv⟩:=hv;simp only[Exit.then,bodyPostD];obtain⟨y,rfl,hf⟩:=hp x L' hQ;obtain⟨k1,a,k2,c,rfl⟩:∃k1 a k2 c,y= .agg [.v (.int k1 a),.v (.int k2 c)]:=by
   unfold lJ at hf;split at hf
   ·exact⟨_,_,_,_,rfl⟩
   ·cases hf
  simp only[Rel,aG]at hv;obtain⟨u,rfl,vs,rfl,v1,r1,rfl,rfl,v2,r2,rfl,rfl,rfl⟩:=hv;refine leaves_cons (f:=115) (args:= #[.pointer (some ⟨b,0,none⟩)]) (by simp) (by simp[go_sem]) ?_;have gp:([aj.box b [.v (.int .i64 0),.v (.int .i64 0)]]++L').Perm (L'++[aj.box b [.v (.int .i64 0),.v (.int .i64 0)]]):=zW;have g1':=bh.perm gp.symm g1;refine(OD b k1 k2 a c [] _ w' g1'.front).mono ?_;rintro e u' w'' ⟨rfl,rfl,h3,h4⟩;obtain⟨q1,q2⟩:=bh.back g1' h3 h4;have q1':=bh.perm zW q1;have q2':=((hx0.perm gp.symm).trans q2).perm zW;obtain⟨e0,vs0,hb0,hr0⟩:=h3.ec _ (MR ..);simp only[aG,Rel]at hr0;obtain⟨_,_,rfl,rfl,_,_,rfl,rfl,rfl⟩:=hr0;have hc0:w''.cell? ⟨b,0,none⟩=some (.int k1 a):=by simp[World.cell?,hb0]
  have hc1:w''.cell? ⟨b,1,none⟩=some (.int k2 c):=by simp[World.cell?,hb0]
  simp[Leaves,settle,results,Tryz.results76,go_sem,hc0,hc1];exact⟨.ret (.agg [.v (.int k1 a),.v (.int k2 c)]),L',.inr ⟨_,hQ,rfl⟩,⟨_,rfl,by simp[Rel,aG]⟩,q1'.drop,q2'.drop⟩
end Go.Proofs.YtnocmolegijmkaaGreat
end

section
namespace Go.Proofs.YtnocmolegijmkaaGreat
open Go Go.Bw
section
variable {D:Type} {r:List D->List (List AV)} {c:D->List AV}
abbrev eE (r:List D->List (List AV)) (c:D->List AV):Prop:=(∀a b,r (a++b)=r a++r b)/\(∀x l,r (x::l)=c x::r l)/\(r []=[])/\(∀k l,r (l.drop k)=(r l).drop k)/\(∀k l,r (l.take k)=(r l).take k)/\(∀l i x,r (l.set i x)=(r l).set i (c x))
abbrev eS (r:List D->List (List AV)):Prop:=∀l,(r l).length=l.length
variable (h:∀l,r l=l.map c)
include h
theorem eI (l):(r l).length=l.length:=by rw[h,jv]
theorem nI {l} {i:Nat} {x} (e:l[i]? =some x):(r l)[i]? =some (c x):=by rw[h];exact get_map e
theorem RJ (a b):r (a++b)=r a++r b:=by simp only[h,zZ]
theorem QL (n:Nat) (l):r (l.drop n)=(r l).drop n:=by simp only[h,MT]
theorem QM (n:Nat) (l):r (l.take n)=(r l).take n:=by simp only[h,MU]
theorem QN (x l):r (x::l)=c x::r l:=by simp only[h,dA]
theorem RK:r []=[]:=by rw[h];rfl
theorem RL (l) (i:Nat) (x):r (l.set i x)=(r l).set i (c x):=by simp only[h,FH]
theorem eJ:eE r c:=⟨RJ h,QN h,RK h,QL h,QM h,RL h⟩
theorem tj (hc:∀x,fI [c x]=true) (l):fI (r l)=true:=by rw[h];exact F1 hc l
end
structure aN where
 If:(List (List UInt8))
 fO:(List UInt8)
def aN.cs (x:aN):List AV:=[.sl 1 (aW x.If),.v (.string ⟨⟨x.fO⟩⟩)]
def aN.rows (l:List aN):List (List AV):=l.map aN.cs
theorem aN.bf (l:List aN):aN.rows l=l.map aN.cs:=rfl
def aN.aH:= @eI _ _ _ aN.bf
def aN.aM:= @nI _ _ _ aN.bf
def aN.dJ:= @tj _ _ _ aN.bf λ_=>rfl
structure ai where
 Kind:Int
 Lo:Int
 Hi:Int
 Names:(List (List UInt8))
 aB:(List ai)
 aY:(List aN)
mutual
def ai.cells:ai->List AV
 |⟨vKind,vLo,vHi,vNames,vParts,vRules⟩=>[.v (.int .i64 vKind),.v (.int .i64 vLo),.v (.int .i64 vHi),.sl 1 (aW vNames),.sl 6 (ai.rows vParts),.sl 2 (aN.rows vRules)]
def ai.rows:List ai->List (List AV)
 |[]=>[]
 |x::r=>ai.cells x::ai.rows r
end
def ai.cs (x:ai):List AV:=[.v (.int .i64 x.Kind),.v (.int .i64 x.Lo),.v (.int .i64 x.Hi),.sl 1 (aW x.Names),.sl 6 (ai.rows x.aB),.sl 2 (aN.rows x.aY)]
theorem ai.oD:∀x:ai,ai.cells x=ai.cs x
 |⟨vKind,vLo,vHi,vNames,vParts,vRules⟩=>by first|rfl|simp only[ai.cells,ai.cs]
theorem ai.bf:∀l:List ai,ai.rows l=l.map ai.cs
 |[]=>by simp only[ai.rows,sw]
 |x::r=>by simp only[ai.rows,ai.oD,ai.bf r,dA]
def ai.aH:= @eI _ _ _ ai.bf
def ai.aM:= @nI _ _ _ ai.bf
def ai.dJ:= @tj _ _ _ ai.bf λ_=>rfl
structure TParam where
 Name:(List UInt8)
 aL:Int
def TParam.cs (x:TParam):List AV:=[.v (.string ⟨⟨x.Name⟩⟩),.v (.int .i64 x.aL)]
def TParam.rows (l:List TParam):List (List AV):=l.map TParam.cs
theorem TParam.bf (l:List TParam):TParam.rows l=l.map TParam.cs:=rfl
def TParam.aH:= @eI _ _ _ TParam.bf
def TParam.aM:= @nI _ _ _ TParam.bf
def TParam.dJ:= @tj _ _ _ TParam.bf λ_=>rfl
structure ay where
 aL:Int
 aw:ai
def ay.cs (x:ay):List AV:=[.v (.int .i64 x.aL),.v (.int .i64 x.aw.Kind),.v (.int .i64 x.aw.Lo),.v (.int .i64 x.aw.Hi),.sl 1 (aW x.aw.Names),.sl 6 (ai.rows x.aw.aB),.sl 2 (aN.rows x.aw.aY)]
def ay.rows (l:List ay):List (List AV):=l.map ay.cs
theorem ay.bf (l:List ay):ay.rows l=l.map ay.cs:=rfl
def ay.aH:= @eI _ _ _ ay.bf
structure ab where
 Op:Int
 aq:ay
 N:Int
 Text:(List UInt8)
 At:Int
 Kids:(List ab)
mutual
def ab.cells:ab->List AV
 |⟨vOp,vType_,vN,vText,vAt,vKids⟩=>[.v (.int .i64 vOp),.v (.int .i64 vType_.aL),.v (.int .i64 vType_.aw.Kind),.v (.int .i64 vType_.aw.Lo),.v (.int .i64 vType_.aw.Hi),.sl 1 (aW vType_.aw.Names),.sl 6 (ai.rows vType_.aw.aB),.sl 2 (aN.rows vType_.aw.aY),.v (.int .i64 vN),.v (.string ⟨⟨vText⟩⟩),.v (.int .i64 vAt),.sl 12 (ab.rows vKids)]
def ab.rows:List ab->List (List AV)
 |[]=>[]
 |x::r=>ab.cells x::ab.rows r
end
def ab.cs (x:ab):List AV:=[.v (.int .i64 x.Op),.v (.int .i64 x.aq.aL),.v (.int .i64 x.aq.aw.Kind),.v (.int .i64 x.aq.aw.Lo),.v (.int .i64 x.aq.aw.Hi),.sl 1 (aW x.aq.aw.Names),.sl 6 (ai.rows x.aq.aw.aB),.sl 2 (aN.rows x.aq.aw.aY),.v (.int .i64 x.N),.v (.string ⟨⟨x.Text⟩⟩),.v (.int .i64 x.At),.sl 12 (ab.rows x.Kids)]
theorem ab.oD:∀x:ab,ab.cells x=ab.cs x
 |⟨vOp,vType_,vN,vText,vAt,vKids⟩=>by first|rfl|simp only[ab.cells,ab.cs]
theorem ab.bf:∀l:List ab,ab.rows l=l.map ab.cs
 |[]=>by simp only[ab.rows,sw]
 |x::r=>by simp only[ab.rows,ab.oD,ab.bf r,dA]
def ab.aH:= @eI _ _ _ ab.bf
def ab.aM:= @nI _ _ _ ab.bf
def ab.dJ:= @tj _ _ _ ab.bf λ_=>rfl
structure bA where
 Name:(List UInt8)
 On:(List UInt8)
 Params:(List TParam)
 Result:Int
 Body:ab
def bA.cs (x:bA):List AV:=[.v (.string ⟨⟨x.Name⟩⟩),.v (.string ⟨⟨x.On⟩⟩),.sl 2 (TParam.rows x.Params),.v (.int .i64 x.Result),.v (.int .i64 x.Body.Op),.v (.int .i64 x.Body.aq.aL),.v (.int .i64 x.Body.aq.aw.Kind),.v (.int .i64 x.Body.aq.aw.Lo),.v (.int .i64 x.Body.aq.aw.Hi),.sl 1 (aW x.Body.aq.aw.Names),.sl 6 (ai.rows x.Body.aq.aw.aB),.sl 2 (aN.rows x.Body.aq.aw.aY),.v (.int .i64 x.Body.N),.v (.string ⟨⟨x.Body.Text⟩⟩),.v (.int .i64 x.Body.At),.sl 12 (ab.rows x.Body.Kids)]
def bA.rows (l:List bA):List (List AV):=l.map bA.cs
theorem bA.bf (l:List bA):bA.rows l=l.map bA.cs:=rfl
def bA.aH:= @eI _ _ _ bA.bf
structure eY where
 Process:Int
 N:Int
def eY.cs (x:eY):List AV:=[.v (.int .i64 x.Process),.v (.int .i64 x.N)]
def eY.rows (l:List eY):List (List AV):=l.map eY.cs
theorem eY.bf (l:List eY):eY.rows l=l.map eY.cs:=rfl
def eY.aH:= @eI _ _ _ eY.bf
structure dQ where
 Da:(List eY)
 Name:(List UInt8)
def dQ.cs (x:dQ):List AV:=[.sl 2 (eY.rows x.Da),.v (.string ⟨⟨x.Name⟩⟩)]
def dQ.rows (l:List dQ):List (List AV):=l.map dQ.cs
theorem dQ.bf (l:List dQ):dQ.rows l=l.map dQ.cs:=rfl
def dQ.aH:= @eI _ _ _ dQ.bf
def dQ.aM:= @nI _ _ _ dQ.bf
structure b6 where
 N:Int
 Names:(List (List UInt8))
 aB:(List b6)
 Entries:(List dQ)
mutual
def b6.cells:b6->List AV
 |⟨vN,vNames,vParts,vEntries⟩=>[.v (.int .i64 vN),.sl 1 (aW vNames),.sl 4 (b6.rows vParts),.sl 2 (dQ.rows vEntries)]
def b6.rows:List b6->List (List AV)
 |[]=>[]
 |x::r=>b6.cells x::b6.rows r
end
def b6.cs (x:b6):List AV:=[.v (.int .i64 x.N),.sl 1 (aW x.Names),.sl 4 (b6.rows x.aB),.sl 2 (dQ.rows x.Entries)]
theorem b6.oD:∀x:b6,b6.cells x=b6.cs x
 |⟨vN,vNames,vParts,vEntries⟩=>by first|rfl|simp only[b6.cells,b6.cs]
theorem b6.bf:∀l:List b6,b6.rows l=l.map b6.cs
 |[]=>by simp only[b6.rows,sw]
 |x::r=>by simp only[b6.rows,b6.oD,b6.bf r,dA]
def b6.aH:= @eI _ _ _ b6.bf
def b6.aM:= @nI _ _ _ b6.bf
structure dF where
 aL:Int
 N:Int
 Name:(List UInt8)
 Names:(List (List UInt8))
def dF.cs (x:dF):List AV:=[.v (.int .i64 x.aL),.v (.int .i64 x.N),.v (.string ⟨⟨x.Name⟩⟩),.sl 1 (aW x.Names)]
def dF.rows (l:List dF):List (List AV):=l.map dF.cs
theorem dF.bf (l:List dF):dF.rows l=l.map dF.cs:=rfl
def dF.aH:= @eI _ _ _ dF.bf
def dF.aM:= @nI _ _ _ dF.bf
structure af where
 Kind:Int
 Text:(List UInt8)
 N:Int
 At:Int
 Kids:(List af)
mutual
def af.cells:af->List AV
 |⟨vKind,vText,vN,vAt,vKids⟩=>[.v (.int .i64 vKind),.v (.string ⟨⟨vText⟩⟩),.v (.int .i64 vN),.v (.int .i64 vAt),.sl 5 (af.rows vKids)]
def af.rows:List af->List (List AV)
 |[]=>[]
 |x::r=>af.cells x::af.rows r
end
def af.cs (x:af):List AV:=[.v (.int .i64 x.Kind),.v (.string ⟨⟨x.Text⟩⟩),.v (.int .i64 x.N),.v (.int .i64 x.At),.sl 5 (af.rows x.Kids)]
theorem af.oD:∀x:af,af.cells x=af.cs x
 |⟨vKind,vText,vN,vAt,vKids⟩=>by first|rfl|simp only[af.cells,af.cs]
theorem af.bf:∀l:List af,af.rows l=l.map af.cs
 |[]=>by simp only[af.rows,sw]
 |x::r=>by simp only[af.rows,af.oD,af.bf r,dA]
def af.aH:= @eI _ _ _ af.bf
def af.aM:= @nI _ _ _ af.bf
def af.dJ:= @tj _ _ _ af.bf λ_=>rfl
structure dX where
 Code:Int
 At:Int
def dX.cs (x:dX):List AV:=[.v (.int .i64 x.Code),.v (.int .i64 x.At)]
def dX.rows (l:List dX):List (List AV):=l.map dX.cs
theorem dX.bf (l:List dX):dX.rows l=l.map dX.cs:=rfl
def dX.aH:= @eI _ _ _ dX.bf
structure cN where
 nodes:Int
def cN.cs (x:cN):List AV:=[.v (.int .i64 x.nodes)]
def cN.rows (l:List cN):List (List AV):=l.map cN.cs
theorem cN.bf (l:List cN):cN.rows l=l.map cN.cs:=rfl
def cN.aH:= @eI _ _ _ cN.bf
structure bm where
 l:ai
 params:(List TParam)
def bm.cs (x:bm):List AV:=[.v (.int .i64 x.l.Kind),.v (.int .i64 x.l.Lo),.v (.int .i64 x.l.Hi),.sl 1 (aW x.l.Names),.sl 6 (ai.rows x.l.aB),.sl 2 (aN.rows x.l.aY),.sl 2 (TParam.rows x.params)]
def bm.rows (l:List bm):List (List AV):=l.map bm.cs
theorem bm.bf (l:List bm):bm.rows l=l.map bm.cs:=rfl
def bm.aH:= @eI _ _ _ bm.bf
structure gn where
 d:dF
 v:b6
def gn.cs (x:gn):List AV:=[.v (.int .i64 x.d.aL),.v (.int .i64 x.d.N),.v (.string ⟨⟨x.d.Name⟩⟩),.sl 1 (aW x.d.Names),.v (.int .i64 x.v.N),.sl 1 (aW x.v.Names),.sl 4 (b6.rows x.v.aB),.sl 2 (dQ.rows x.v.Entries)]
def gn.rows (l:List gn):List (List AV):=l.map gn.cs
theorem gn.bf (l:List gn):gn.rows l=l.map gn.cs:=rfl
def gn.aH:= @eI _ _ _ gn.bf
structure gu where
 state:b6
 args:(List dF)
def gu.cs (x:gu):List AV:=[.v (.int .i64 x.state.N),.sl 1 (aW x.state.Names),.sl 4 (b6.rows x.state.aB),.sl 2 (dQ.rows x.state.Entries),.sl 4 (dF.rows x.args)]
def gu.rows (l:List gu):List (List AV):=l.map gu.cs
theorem gu.bf (l:List gu):gu.rows l=l.map gu.cs:=rfl
def gu.aH:= @eI _ _ _ gu.bf
structure gk where
 L:ai
 Params:(List TParam)
def gk.cs (x:gk):List AV:=[.v (.int .i64 x.L.Kind),.v (.int .i64 x.L.Lo),.v (.int .i64 x.L.Hi),.sl 1 (aW x.L.Names),.sl 6 (ai.rows x.L.aB),.sl 2 (aN.rows x.L.aY),.sl 2 (TParam.rows x.Params)]
def gk.rows (l:List gk):List (List AV):=l.map gk.cs
theorem gk.bf (l:List gk):gk.rows l=l.map gk.cs:=rfl
def gk.aH:= @eI _ _ _ gk.bf
structure gq where
 data:(List Int)
def gq.cs (x:gq):List AV:=[.sl 1 (dL .u8 x.data)]
def gq.rows (l:List gq):List (List AV):=l.map gq.cs
theorem gq.bf (l:List gq):gq.rows l=l.map gq.cs:=rfl
def gq.aH:= @eI _ _ _ gq.bf
structure gr where
 data:(List Int)
 at_:Int
 item:Int
 err:Int
def gr.cs (x:gr):List AV:=[.sl 1 (dL .u8 x.data),.v (.int .i64 x.at_),.v (.int .i64 x.item),.v (.int .i64 x.err)]
def gr.rows (l:List gr):List (List AV):=l.map gr.cs
theorem gr.bf (l:List gr):gr.rows l=l.map gr.cs:=rfl
def gr.aH:= @eI _ _ _ gr.bf
structure fF where
 PU:(List Int)
 TZ:Int
def fF.cs (x:fF):List AV:=[.sl 1 (dL .i64 x.PU),.v (.int .i64 x.TZ)]
def fF.rows (l:List fF):List (List AV):=l.map fF.cs
theorem fF.bf (l:List fF):fF.rows l=l.map fF.cs:=rfl
def fF.aH:= @eI _ _ _ fF.bf
structure gl where
 O3:(List (List UInt8))
 rules:(List fF)
def gl.cs (x:gl):List AV:=[.sl 1 (aW x.O3),.sl 2 (fF.rows x.rules)]
def gl.rows (l:List gl):List (List AV):=l.map gl.cs
theorem gl.bf (l:List gl):gl.rows l=l.map gl.cs:=rfl
def gl.aH:= @eI _ _ _ gl.bf
structure gm where
 VU:Int
 name:Int
def gm.cs (x:gm):List AV:=[.v (.int .i64 x.VU),.v (.int .i64 x.name)]
def gm.rows (l:List gm):List (List AV):=l.map gm.cs
theorem gm.bf (l:List gm):gm.rows l=l.map gm.cs:=rfl
def gm.aH:= @eI _ _ _ gm.bf
theorem gz:eE aN.rows aN.cs/\eE ai.rows ai.cs/\eE TParam.rows TParam.cs/\eE ay.rows ay.cs/\eE ab.rows ab.cs/\eE bA.rows bA.cs/\eE eY.rows eY.cs/\eE dQ.rows dQ.cs/\eE b6.rows b6.cs/\eE dF.rows dF.cs/\eE af.rows af.cs/\eE dX.rows dX.cs/\eE cN.rows cN.cs/\eE bm.rows bm.cs/\eE gn.rows gn.cs/\eE gu.rows gu.cs/\eE gk.rows gk.cs/\eE gq.rows gq.cs/\eE gr.rows gr.cs/\eE fF.rows fF.cs/\eE gl.rows gl.cs/\eE gm.rows gm.cs/\(∀a b,aW (a++b)=aW a++aW b)/\(∀x r,aW (x::r)=[.v (.string ⟨⟨x⟩⟩)]::aW r)/\(∀k x r,dL k (x::r)=[.v (.int k x)]::dL k r)/\(aW []=[])/\(∀k,dL k []=[])/\(∀(k:Nat) l,aW (l.drop k)=(aW l).drop k)/\(∀(k:Nat) l,aW (l.take k)=(aW l).take k)/\(∀k a b,dL k (a++b)=dL k a++dL k b)/\(∀a b,iz (a++b)=iz a++iz b)/\(∀l (i:Nat) x,aW (l.set i x)=(aW l).set i [.v (.string ⟨⟨x⟩⟩)])/\(∀k l (i:Nat) x,dL k (l.set i x)=(dL k l).set i [.v (.int k x)])/\(∀l (i:Nat) x,iz (l.set i x)=(iz l).set i [.v (.bool x)]):=⟨eJ aN.bf,eJ ai.bf,eJ TParam.bf,eJ ay.bf,eJ ab.bf,eJ bA.bf,eJ eY.bf,eJ dQ.bf,eJ b6.bf,eJ dF.bf,eJ af.bf,eJ dX.bf,eJ cN.bf,eJ bm.bf,eJ gn.bf,eJ gu.bf,eJ gk.bf,eJ gq.bf,eJ gr.bf,eJ fF.bf,eJ gl.bf,eJ gm.bf,(λ_ _=>OK),(λ_ _=>rfl),(λ_ _ _=>rfl),rfl,(λ_=>rfl),(λ_ _=>N3),(λ_ _=>N4),(λ_ _ _=>OI),(λ_ _=>OJ),(λ_ _ _=>FH),(λ_ _ _ _=>FH),(λ_ _ _=>FH)⟩
theorem uW:eS aN.rows/\eS ai.rows/\eS TParam.rows/\eS ay.rows/\eS ab.rows/\eS bA.rows/\eS eY.rows/\eS dQ.rows/\eS b6.rows/\eS dF.rows/\eS af.rows/\eS dX.rows/\eS cN.rows/\eS bm.rows/\eS gn.rows/\eS gu.rows/\eS gk.rows/\eS gq.rows/\eS gr.rows/\eS fF.rows/\eS gl.rows/\eS gm.rows/\(∀l,(aW l).length=l.length)/\(∀k l,(dL k l).length=l.length)/\(∀l,(iz l).length=l.length):=⟨aN.aH,ai.aH,TParam.aH,ay.aH,ab.aH,bA.aH,eY.aH,dQ.aH,b6.aH,dF.aH,af.aH,dX.aH,cN.aH,bm.aH,gn.aH,gu.aH,gk.aH,gq.aH,gr.aH,fF.aH,gl.aH,gm.aH,(λ_=>eh),(λ_ _=>oy),(λ_=>OH)⟩
abbrev ai.z:ai:={Kind:=0,Lo:=0,Hi:=0,Names:=[],aB:=[],aY:=[]:ai}
abbrev ay.z:ay:={aL:=0,aw:={Kind:=0,Lo:=0,Hi:=0,Names:=[],aB:=[],aY:=[]:ai}:ay}
abbrev ab.z:ab:={Op:=0,aq:={aL:=0,aw:={Kind:=0,Lo:=0,Hi:=0,Names:=[],aB:=[],aY:=[]:ai}:ay},N:=0,Text:=[],At:=0,Kids:=[]:ab}
abbrev bA.z:bA:={Name:=[],On:=[],Params:=[],Result:=0,Body:={Op:=0,aq:={aL:=0,aw:={Kind:=0,Lo:=0,Hi:=0,Names:=[],aB:=[],aY:=[]:ai}:ay},N:=0,Text:=[],At:=0,Kids:=[]:ab}:bA}
abbrev b6.z:b6:={N:=0,Names:=[],aB:=[],Entries:=[]:b6}
abbrev af.z:af:={Kind:=0,Text:=[],N:=0,At:=0,Kids:=[]:af}
abbrev dX.z:dX:={Code:=0,At:=0:dX}
abbrev cN.z:cN:={nodes:=0:cN}
theorem zi {p:Prop} (h:p:=by(try simp only[gz]);repeat(first|exact bO.refl _|exact bO.nil _|exact bS.nil|exact cU.nil|exact bS.refl _|exact cU.refl _|exact bO.of (by simp only[gz];rfl)|(dsimp only;try simp only[gz])|apply bO.agg|apply bO.bX|apply bO.ip|apply bO.fn|apply bS.cons|apply bO.sl|apply cU.cons|apply cU.append)):p:=h
theorem zp {p:Prop} (h:p:=by repeat(first|exact az.nil|refine az.cons rfl (aR.dc (cl:=false) rfl aV) ?_|refine az.skip rfl ?_|refine az.cons rfl (dK (cl:=false) rfl aV) ?_)):p:=h
theorem zg {p:Prop} (h:p:=by first|rfl|simp only[oo]|simp only[uW,oo,FC,lx,eG,mQ]):p:=h
theorem zn {p:Prop} (h:p:=by first|rfl|(simp only[gz];rfl)|(simp only[gz,oo];rfl)|(simp only[aN.cs,ai.cs,TParam.cs,ay.cs,ab.cs,bA.cs,eY.cs,dQ.cs,b6.cs,dF.cs,af.cs,dX.cs,cN.cs,bm.cs,gn.cs,gu.cs,gk.cs,gq.cs,gr.cs,fF.cs,gl.cs,gm.cs,gz,oo];rfl)):p:=h
theorem zq {D:Type} {l:List D} {i:Nat} {x:D} {p:Prop} (h:l[i]? =some x) (k:i<l.length->p:=by intro h0;first|exact h0|(simpa only[uW,lx,oo,FC,eG,mQ,iS,M',fH]using h0)):p:=k (cX.1 h).1
theorem zo {c p:Prop} [Decidable c] (h:decide c=true) (k:c->p:=by intro h0;simp only[uW,lx,oo,eG,mQ,fH]at h0⊢;omega):p:=k (zV h)
theorem zk {p:Prop} (h:p:=by kernel_rfl):p:=h
