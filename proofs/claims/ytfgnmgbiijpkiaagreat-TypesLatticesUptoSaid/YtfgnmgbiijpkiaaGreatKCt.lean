/- The function that turns faults into results. -/
import Derived.Test.YtfgnmgbiijpkiaaGreatKEnv
import Derived.Tactics
import Derived.Tactics2
import Derived.Defers
import Derived.Recover
import Derived.Laws.Pointers
set_option linter.all false
section
namespace Go.Proofs.YtfgnmgbiijpkiaaGreat
open Go Go.Bw Go.Proofs.Tryz
abbrev zF:AV:= .agg [.v (.int .i64 0),.v (.int .i64 0)]
theorem Kp (w:World) (b o:Nat) (cs:Array Value) (e:TypeId) (fz:Nat×Nat) (v:Value) (h:w.heap[b]? =some (.cells cs e fz)) (hv:cs[o]? =some v):w.setCell ⟨b,o,none⟩ v=w:=by
 have hcs:cs.setIfInBounds o v=cs:=by
  apply Array.ext_getElem?;intro i;by_cases hi:o=i
  ·subst hi;rw[Array.getElem?_setIfInBounds_self_of_lt (jo.1 hv).1,hv]
  ·rw[Array.getElem?_setIfInBounds_ne hi]
 have hh:∀f:Obj->Obj,f (.cells cs e fz)= .cells cs e fz->w.heap.modify b f=w.heap:=by
  intro f hf;apply Array.ext_getElem?;intro i;rw[adh];by_cases hi:b=i
  ·subst hi;simp[h,hf]
  ·simp[hi]
 unfold World.setCell;rw[hh _ (by simp[hcs])]
theorem X6 {c:Code} {N b:Nat} {cells cells':List AV} {Z:TS} {ZB:Sg} {F:Nat->Prop} {w:World} {a:Act}
  (h:ak env N 1 [.code c] (λe _ O'=>e= .norm/\O'.e.get 0=some (.box (cells'.map .d))) Z (Hp.nil.push (.box (cells.map .d))))
  (hs:SS ⟨λt=>if t=0 then some b else none,λ_ _=>none⟩ Z (Bw.look ZB)) (hst:St env.G N w F a ZB [.box b cells]):
  c.wp Tryz.prog (λe a' w'=>e= .normal/\a'.tmps.size=N/\a'.defers=[]/\bD env.G w' F [.box b cells']/\Ext [.box b cells] w [.box b cells'] w') a w:=by
 have hh:HS ⟨λt=>if t=0 then some b else none,λ_ _=>none⟩ (Hp.nil.push (.box (cells.map .d))) [.box b cells]:=by
  refine⟨λi x hx=>?_,rfl,λt ht=>?_⟩
  ·rcases Tr.ep 24 _ 0 i _ x hx with⟨rfl,h1⟩|⟨_,h1⟩
   ·cases h1;exact⟨.box b cells,rfl,b,cells,by simp,rfl,gA _⟩
   ·simp[Hp.nil,Tr.get]at h1
  ·have:t≠0:=by simp only[Hp.push,Hp.nil]at ht;omega
   simp[this]
 refine wp_mono ((ak.one h) _ ZB _ hs hh F w [.box b cells] a w hst (Ext.refl _ _)) ?_;rintro e a' w' ⟨e0,σ',OB',⟨L',d,σ1,η1,hl,hi,hs',hh',hd,hg⟩,hrel,hst',hx⟩;subst hd;simp only[DE.inst]at hi;subst hi;simp only[AE.rel]at hrel;obtain⟨y,hy,b',cs',hb',rfl,hcs⟩:=hh'.en 0 _ hg;have h0:=(hl 0 (by omega)).1;have:b'=b:=by
  rw[hb']at h0;simpa using h0
 subst this;have hcs:=mF (zs:=cells') (by
  have key:∀l:List AV,fq (l.map .d)=some l:=by
   intro l;induction l with
   |nil=>rfl
   |cons y l ih=>simp[fq,ih]
  exact key cells') hcs
 subst hcs;cases OB' with
 |nil=>simp[nth]at hy
 |cons x r=>
  simp only[nth,aE]at hy;subst hy;exact⟨hrel,hst'.sg.1,hst'.df,bD.drop (O:=[_]) (W:=r) hst'.hp,Ext.drop (O':=[_]) (W:=r) hx⟩
theorem We (b:Nat) (k1 k2:IntKind) (x y:Int) (older:List PanicEntry) (F:Nat->Prop) (w:World) (hH:bD env.G w F [.box b [.v (.int .i64 0),.v (.int .i64 0)]]):
  CallsD Tryz.prog 79 #[.pointer (some ⟨b,0,none⟩)] (.panicking ({v:= .iface 28 (.agg #[.int k1 x,.int k2 y]),recovered:=false}::older)) w λe u' w'=>
   e= .returned (.tuple #[])/\u'= .panicking ({v:= .iface 28 (.agg #[.int k1 x,.int k2 y]),recovered:=true}::older)/\bD env.G w' F [.box b [.v (.int k1 x),.v (.int k2 y)]]/\Ext [.box b [.v (.int .i64 0),.v (.int .i64 0)]] w [.box b [.v (.int k1 x),.v (.int k2 y)]] w':=by
 refine callsD_of_wpS func79 rfl λc₀ cs hu=>?_;apply wpS_seq;apply wpS_region;simp[wpOpsS,go_sem,recoverD,hu,ntmps79,Exit.thenS];refine wpS_of_wp ?_;refine wp_mono (X6 (N:=16) (cells':=[.v (.int k1 x),.v (.int k2 y)]) (Z:=Tr.put 24 (Tr.put 24 .lf 1 (some (.d (.bB 28 (.agg [.v (.int k1 x),.v (.int k2 y)]))))) 0 (some (.own 0 0))) (ZB:=[(0,.own 0 b 0),(1,.bB 28 (.agg [.v (.int k1 x),.v (.int k2 y)]))]) ?_ ?_ ⟨⟨?_,?_⟩,hH,rfl⟩) ?_
 ·refine X7 mixed 400 rfl ⟨rfl,rfl⟩
 ·intro t z hz;rcases Tr.ep 24 _ 0 t _ z hz with⟨rfl,h1⟩|⟨h0,hz⟩
  ·cases h1;exact⟨.own 0 b 0,rfl,by simp only[aI];exact⟨b,0,by simp,rfl⟩⟩
  ·rcases Tr.ep 24 _ 1 t _ z hz with⟨rfl,h1⟩|⟨_,hz⟩
   ·cases h1;exact⟨_,rfl,rfl⟩
   ·simp[Tr.get]at hz
 ·simp
 ·intro t z hz;simp only[Bw.look]at hz;split at hz
  ·rename_i hb;have:=bE hb;subst this;cases hz;exact⟨by omega,by simp[Rel]⟩
  ·split at hz
   ·rename_i hb;have:=bE hb;subst this;cases hz;exact⟨by omega,by simp[Rel,aJ]⟩
   ·cases hz
 ·rintro e a' w' ⟨rfl,h1,h2,h3,h4⟩;refine⟨h2,_,rfl,?_⟩;simp[results,Tryz.results79,h3,h4,go_sem]
theorem Vv (b:Nat) (w:World):CallsD Tryz.prog 79 #[.pointer (some ⟨b,0,none⟩)] .returning w λe u' w'=>e= .returned (.tuple #[])/\u'= .returning/\w'=w:=by
 refine callsD_of_wpS func79 rfl λc₀ cs hu=>?_;apply wpS_seq;apply wpS_region;simp[wpOpsS,go_sem,recoverD,hu,ntmps79,Exit.thenS];apply wpS_seq;apply wpS_region;simp[wpOpsS,go_sem,Exit.thenS,eqGuard];refine wpS_cond (t:=false) (by simp[Act.eval,Array.replicate]) ?_;simp only[ju,if_false];refine wpS_of_wp (wp_skip ?_);cases c₀
 simp_all [bodyPostS,results,Tryz.results79]
theorem KU:rC env 33 28 zF:=by
 intro g fs cs O Q h hp;refine⟨⟨_,func33,rfl,by kernel_rfl⟩,λF w vs hH hargs=>?_⟩;simp only[aJ,Rel]at hargs;obtain⟨v,r,rfl,⟨us,ks,rfl,h1,h2⟩,rfl⟩:=hargs;show Calls Tryz.prog 33 _ w _;refine calls_of_wp_defers func33 rfl ?_;have hmf:∀(fn:Fn) (first cap:Array Value) (w:World),(Instr.makeFunc fn first cap).run Tryz.prog w= .ok (.func fn first cap) w:=λ_ _ _ _=>rfl;apply wp_seq;apply wp_region;simp[wpOps,go_sem,Exit.then,ntmps33];refine .inl ?_;apply wp_seq;apply wp_region;simp[wpOps,go_sem,Exit.then,hmf];refine .inl ?_;refine .inl ?_;apply wp_seq;apply wp_region;simp[wpOps,go_sem,Exit.then];refine .inl ?_;refine .inl ?_;have hcf:∀(ws:Array Value) (w':World),(callFunc g ws).run Tryz.prog w'= .ok (.enter g ws) w':=by
  intro ws w';obtain⟨fn,hf,hbody,hname⟩:=h.1;have hf':Tryz.prog.funcs[g]? =some fn:=hf;simp only[callFunc,Sem.run_bind,run_program,Result.andThen_ok,hf',hname,hbody,ju,if_false,Sem.run_pure]
 rw[hcf,Oper.upon_enter];obtain⟨b,hbdef⟩:∃b,b=w.heap.size:=⟨_,rfl⟩;have hpush:bD env.G (w.alloc (.cells #[.int .i64 0,.int .i64 0] 28)) F (O++[.box w.heap.size [.v (.int .i64 0),.v (.int .i64 0)]]):=by
  refine hH.push (by simp) (λb hb=>jw w _ b hb) (by simp[aq.ids]) (by simp[aq.ids]) ?_;exact⟨28,[.int .i64 0,.int .i64 0],kh w _,by simp[aJ,Rel]⟩
 have hext0:=lH w (.cells #[.int .i64 0,.int .i64 0] 28) O (.box w.heap.size [.v (.int .i64 0),.v (.int .i64 0)]) (by simp[aq.ids]);have hargs:aJ (w.alloc (.cells #[.int .i64 0,.int .i64 0] 28)) (Al (λx=>F x\/x∈ids [.box w.heap.size [.v (.int .i64 0),.v (.int .i64 0)]]) O) (fs++cs) (us++ks):=by
  rw[mI];exact(h1.append h2).keep hext0.keeps
 have hlt:w.heap.size<(w.alloc (.cells #[.int .i64 0,.int .i64 0] 28)).heap.size:=by simp
 have hbn:w.heap.size∉ids O:=λhm=>by have:=hH.lt _ hm;omega
 have hblk0:(w.alloc (.cells #[.int .i64 0,.int .i64 0] 28)).heap[w.heap.size]? =some (.cells #[.int .i64 0,.int .i64 0] 28):=kh w _;refine(h.2 _ _ (us++ks) hpush.front hargs).mono ?_;rintro e w' ⟨r,O',hQ,hv,hh,hext⟩;obtain⟨g1,g2⟩:=bD.back hpush hh hext;have hblk:w'.heap[w.heap.size]? =some (.cells #[.int .i64 0,.int .i64 0] 28):=(hext.block _ hlt hbn).trans hblk0;have hx0:=hext0.trans g2;rw[<-hbdef]at*
 generalize w.alloc (.cells #[.int .i64 0,.int .i64 0] 28)=w1 at*
 cases r with
 |ret x=>
  obtain⟨v,rfl,hv⟩:=hv;have hc0:w'.cell? ⟨b,0,none⟩=some (.int .i64 0):=by simp[World.cell?,hblk]
  have hc1:w'.cell? ⟨b,1,none⟩=some (.int .i64 0):=by simp[World.cell?,hblk]
  have hz0:w'.frozen? ⟨b,0,none⟩=false:=by simp[World.frozen?,hblk]
  have hz1:w'.frozen? ⟨b,1,none⟩=false:=by simp[World.frozen?,hblk]
  have hs0:=Kp w' b 0 _ _ _ (.int .i64 0) hblk rfl;have hs1:=Kp w' b 1 _ _ _ (.int .i64 0) hblk rfl;apply wp_seq;apply wp_region;simp[wpOps,go_sem,Exit.then,hc0,hc1,hz0,hz1,hs0,hs1];refine .inl ?_;refine .inl ?_;refine wp_ret ?_;simp only[bodyPostD];refine leaves_cons (f:=79) (args:= #[.pointer (some ⟨b,0,none⟩)]) (by simp) (by simp[go_sem]) ?_;refine(Vv b _).mono ?_;rintro e u' w'' ⟨rfl,rfl,rfl⟩;simp[Leaves,settle,results,Tryz.results33,go_sem,hc0,hc1];exact⟨.ret zF,O',.inl ⟨⟨x,hQ⟩,rfl⟩,⟨_,rfl,by simp[Rel,aJ,zF]⟩,g1.drop,hx0.drop⟩
 |aO x=>
  obtain⟨v,rfl,hv⟩:=hv;simp only[Exit.then,bodyPostD];obtain⟨y,rfl,hf⟩:=hp x O' hQ;obtain⟨k1,a,k2,c,rfl⟩:∃k1 a k2 c,y= .agg [.v (.int k1 a),.v (.int k2 c)]:=by
   unfold mY at hf;split at hf
   ·exact⟨_,_,_,_,rfl⟩
   ·cases hf
  simp only[Rel,aJ]at hv;obtain⟨u,rfl,vs,rfl,v1,r1,rfl,rfl,v2,r2,rfl,rfl,rfl⟩:=hv;refine leaves_cons (f:=79) (args:= #[.pointer (some ⟨b,0,none⟩)]) (by simp) (by simp[go_sem]) ?_;have gp:([aq.box b [.v (.int .i64 0),.v (.int .i64 0)]]++O').Perm (O'++[aq.box b [.v (.int .i64 0),.v (.int .i64 0)]]):=B7;have g1':=bD.perm gp.symm g1;refine(We b k1 k2 a c [] _ w' g1'.front).mono ?_;rintro e u' w'' ⟨rfl,rfl,h3,h4⟩;obtain⟨q1,q2⟩:=bD.back g1' h3 h4;have q1':=bD.perm B7 q1;have q2':=((hx0.perm gp.symm).trans q2).perm B7;obtain⟨e0,vs0,hb0,hr0⟩:=h3.eD _ (B8 ..);simp only[aJ,Rel]at hr0;obtain⟨_,_,rfl,rfl,_,_,rfl,rfl,rfl⟩:=hr0;have hc0:w''.cell? ⟨b,0,none⟩=some (.int k1 a):=by simp[World.cell?,hb0]
  have hc1:w''.cell? ⟨b,1,none⟩=some (.int k2 c):=by simp[World.cell?,hb0]
  simp[Leaves,settle,results,Tryz.results33,go_sem,hc0,hc1];exact⟨.ret (.agg [.v (.int k1 a),.v (.int k2 c)]),O',.inr ⟨_,hQ,rfl⟩,⟨_,rfl,by simp[Rel,aJ]⟩,q1'.drop,q2'.drop⟩
end Go.Proofs.YtfgnmgbiijpkiaaGreat
end

section
namespace Go.Proofs.YtfgnmgbiijpkiaaGreat
open Go Go.Bw
def Z3 {D:Type} (k:Nat) (f:List D->List (List AV)) (l:List (List D)):List (List AV):=l.map λx=>[.sl k (f x)]
theorem sA {D:Type} {k:Nat} {f:List D->List (List AV)} {l:List (List D)} {i:Nat} {x:List D} (h:l[i]? =some x):(Z3 k f l)[i]? =some [.sl k (f x)]:=get_map h
section
variable {D:Type} {r:List D->List (List AV)} {c:D->List AV}
abbrev gO (r:List D->List (List AV)) (c:D->List AV):Prop:=(∀a b,r (a++b)=r a++r b)/\(∀x l,r (x::l)=c x::r l)/\(r []=[])/\(∀k l,r (l.drop k)=(r l).drop k)/\(∀k l,r (l.take k)=(r l).take k)/\(∀l i x,r (l.set i x)=(r l).set i (c x))
abbrev il (r:List D->List (List AV)):Prop:=∀l,(r l).length=l.length
variable (h:∀l,r l=l.map c)
include h
theorem gY (l):(r l).length=l.length:=by rw[h,jt]
theorem nU {l} {i:Nat} {x} (e:l[i]? =some x):(r l)[i]? =some (c x):=by rw[h];exact get_map e
theorem YQ (a b):r (a++b)=r a++r b:=by simp only[h,oQ]
theorem X3 (n:Nat) (l):r (l.drop n)=(r l).drop n:=by simp only[h,Uj]
theorem X4 (n:Nat) (l):r (l.take n)=(r l).take n:=by simp only[h,Uk]
theorem X5 (x l):r (x::l)=c x::r l:=by simp only[h,dP]
theorem YR:r []=[]:=by rw[h];rfl
theorem YS (l) (i:Nat) (x):r (l.set i x)=(r l).set i (c x):=by simp only[h,Jz]
theorem gZ:gO r c:=⟨YQ h,X5 h,YR h,X3 h,X4 h,YS h⟩
theorem vK (hc:∀x,gy [c x]=true) (l):gy (r l)=true:=by rw[h];exact J9 hc l
end
structure ab where
 Kind:Int
 Text:(List UInt8)
 N:Int
 At:Int
 Kids:(List ab)
mutual
def ab.cells:ab->List AV
 |⟨vKind,vText,vN,vAt,vKids⟩=>[.v (.int .i64 vKind),.v (.string ⟨⟨vText⟩⟩),.v (.int .i64 vN),.v (.int .i64 vAt),.sl 5 (ab.rows vKids)]
def ab.rows:List ab->List (List AV)
 |[]=>[]
 |x::r=>ab.cells x::ab.rows r
end
def ab.cs (x:ab):List AV:=[.v (.int .i64 x.Kind),.v (.string ⟨⟨x.Text⟩⟩),.v (.int .i64 x.N),.v (.int .i64 x.At),.sl 5 (ab.rows x.Kids)]
theorem ab.vt:∀x:ab,ab.cells x=ab.cs x
 |⟨vKind,vText,vN,vAt,vKids⟩=>by first|rfl|simp only[ab.cells,ab.cs]
theorem ab.bS:∀l:List ab,ab.rows l=l.map ab.cs
 |[]=>by simp only[ab.rows,xE]
 |x::r=>by simp only[ab.rows,ab.vt,ab.bS r,dP]
def ab.aD:= @gY _ _ _ ab.bS
def ab.aF:= @nU _ _ _ ab.bS
def ab.aeE:= @X3 _ _ _ ab.bS
def ab.aeF:= @X4 _ _ _ ab.bS
def ab.bU:= @vK _ _ _ ab.bS λ_=>rfl
structure aM where
 Code:Int
 At:Int
def aM.cs (x:aM):List AV:=[.v (.int .i64 x.Code),.v (.int .i64 x.At)]
def aM.rows (l:List aM):List (List AV):=l.map aM.cs
theorem aM.bS (l:List aM):aM.rows l=l.map aM.cs:=rfl
def aM.aD:= @gY _ _ _ aM.bS
structure aU where
 If:(List (List UInt8))
 eP:(List UInt8)
def aU.cs (x:aU):List AV:=[.sl 1 (aN x.If),.v (.string ⟨⟨x.eP⟩⟩)]
def aU.rows (l:List aU):List (List AV):=l.map aU.cs
theorem aU.bS (l:List aU):aU.rows l=l.map aU.cs:=rfl
def aU.aD:= @gY _ _ _ aU.bS
def aU.aF:= @nU _ _ _ aU.bS
def aU.bU:= @vK _ _ _ aU.bS λ_=>rfl
structure ah where
 Kind:Int
 Lo:Int
 Hi:Int
 Names:(List (List UInt8))
 ax:(List ah)
 aZ:(List aU)
mutual
def ah.cells:ah->List AV
 |⟨vKind,vLo,vHi,vNames,vParts,vRules⟩=>[.v (.int .i64 vKind),.v (.int .i64 vLo),.v (.int .i64 vHi),.sl 1 (aN vNames),.sl 6 (ah.rows vParts),.sl 2 (aU.rows vRules)]
def ah.rows:List ah->List (List AV)
 |[]=>[]
 |x::r=>ah.cells x::ah.rows r
end
def ah.cs (x:ah):List AV:=[.v (.int .i64 x.Kind),.v (.int .i64 x.Lo),.v (.int .i64 x.Hi),.sl 1 (aN x.Names),.sl 6 (ah.rows x.ax),.sl 2 (aU.rows x.aZ)]
theorem ah.vt:∀x:ah,ah.cells x=ah.cs x
 |⟨vKind,vLo,vHi,vNames,vParts,vRules⟩=>by first|rfl|simp only[ah.cells,ah.cs]
theorem ah.bS:∀l:List ah,ah.rows l=l.map ah.cs
 |[]=>by simp only[ah.rows,xE]
 |x::r=>by simp only[ah.rows,ah.vt,ah.bS r,dP]
def ah.aD:= @gY _ _ _ ah.bS
def ah.aF:= @nU _ _ _ ah.bS
def ah.bU:= @vK _ _ _ ah.bS λ_=>rfl
structure bt where
 Name:(List UInt8)
 aj:ah
def bt.cs (x:bt):List AV:=[.v (.string ⟨⟨x.Name⟩⟩),.v (.int .i64 x.aj.Kind),.v (.int .i64 x.aj.Lo),.v (.int .i64 x.aj.Hi),.sl 1 (aN x.aj.Names),.sl 6 (ah.rows x.aj.ax),.sl 2 (aU.rows x.aj.aZ)]
def bt.rows (l:List bt):List (List AV):=l.map bt.cs
theorem bt.bS (l:List bt):bt.rows l=l.map bt.cs:=rfl
def bt.aD:= @gY _ _ _ bt.bS
def bt.aF:= @nU _ _ _ bt.bS
structure TParam where
 Name:(List UInt8)
 aP:Int
def TParam.cs (x:TParam):List AV:=[.v (.string ⟨⟨x.Name⟩⟩),.v (.int .i64 x.aP)]
def TParam.rows (l:List TParam):List (List AV):=l.map TParam.cs
theorem TParam.bS (l:List TParam):TParam.rows l=l.map TParam.cs:=rfl
def TParam.aD:= @gY _ _ _ TParam.bS
def TParam.aF:= @nU _ _ _ TParam.bS
structure az where
 aP:Int
 aj:ah
def az.cs (x:az):List AV:=[.v (.int .i64 x.aP),.v (.int .i64 x.aj.Kind),.v (.int .i64 x.aj.Lo),.v (.int .i64 x.aj.Hi),.sl 1 (aN x.aj.Names),.sl 6 (ah.rows x.aj.ax),.sl 2 (aU.rows x.aj.aZ)]
def az.rows (l:List az):List (List AV):=l.map az.cs
theorem az.bS (l:List az):az.rows l=l.map az.cs:=rfl
def az.aD:= @gY _ _ _ az.bS
def az.aF:= @nU _ _ _ az.bS
structure ae where
 Op:Int
 ai:az
 N:Int
 Text:(List UInt8)
 At:Int
 Kids:(List ae)
mutual
def ae.cells:ae->List AV
 |⟨vOp,vType_,vN,vText,vAt,vKids⟩=>[.v (.int .i64 vOp),.v (.int .i64 vType_.aP),.v (.int .i64 vType_.aj.Kind),.v (.int .i64 vType_.aj.Lo),.v (.int .i64 vType_.aj.Hi),.sl 1 (aN vType_.aj.Names),.sl 6 (ah.rows vType_.aj.ax),.sl 2 (aU.rows vType_.aj.aZ),.v (.int .i64 vN),.v (.string ⟨⟨vText⟩⟩),.v (.int .i64 vAt),.sl 12 (ae.rows vKids)]
def ae.rows:List ae->List (List AV)
 |[]=>[]
 |x::r=>ae.cells x::ae.rows r
end
def ae.cs (x:ae):List AV:=[.v (.int .i64 x.Op),.v (.int .i64 x.ai.aP),.v (.int .i64 x.ai.aj.Kind),.v (.int .i64 x.ai.aj.Lo),.v (.int .i64 x.ai.aj.Hi),.sl 1 (aN x.ai.aj.Names),.sl 6 (ah.rows x.ai.aj.ax),.sl 2 (aU.rows x.ai.aj.aZ),.v (.int .i64 x.N),.v (.string ⟨⟨x.Text⟩⟩),.v (.int .i64 x.At),.sl 12 (ae.rows x.Kids)]
theorem ae.vt:∀x:ae,ae.cells x=ae.cs x
 |⟨vOp,vType_,vN,vText,vAt,vKids⟩=>by first|rfl|simp only[ae.cells,ae.cs]
theorem ae.bS:∀l:List ae,ae.rows l=l.map ae.cs
 |[]=>by simp only[ae.rows,xE]
 |x::r=>by simp only[ae.rows,ae.vt,ae.bS r,dP]
def ae.aD:= @gY _ _ _ ae.bS
def ae.aF:= @nU _ _ _ ae.bS
def ae.bU:= @vK _ _ _ ae.bS λ_=>rfl
structure bl where
 Name:(List UInt8)
 On:(List UInt8)
 Params:(List TParam)
 Result:Int
 Body:ae
def bl.cs (x:bl):List AV:=[.v (.string ⟨⟨x.Name⟩⟩),.v (.string ⟨⟨x.On⟩⟩),.sl 2 (TParam.rows x.Params),.v (.int .i64 x.Result),.v (.int .i64 x.Body.Op),.v (.int .i64 x.Body.ai.aP),.v (.int .i64 x.Body.ai.aj.Kind),.v (.int .i64 x.Body.ai.aj.Lo),.v (.int .i64 x.Body.ai.aj.Hi),.sl 1 (aN x.Body.ai.aj.Names),.sl 6 (ah.rows x.Body.ai.aj.ax),.sl 2 (aU.rows x.Body.ai.aj.aZ),.v (.int .i64 x.Body.N),.v (.string ⟨⟨x.Body.Text⟩⟩),.v (.int .i64 x.Body.At),.sl 12 (ae.rows x.Body.Kids)]
def bl.rows (l:List bl):List (List AV):=l.map bl.cs
theorem bl.bS (l:List bl):bl.rows l=l.map bl.cs:=rfl
def bl.aD:= @gY _ _ _ bl.bS
def bl.aF:= @nU _ _ _ bl.bS
structure cp where
 bH:(List bt)
 cQ:(List bl)
 Queries:(List bl)
def cp.cs (x:cp):List AV:=[.sl 7 (bt.rows x.bH),.sl 16 (bl.rows x.cQ),.sl 16 (bl.rows x.Queries)]
def cp.rows (l:List cp):List (List AV):=l.map cp.cs
theorem cp.bS (l:List cp):cp.rows l=l.map cp.cs:=rfl
def cp.aD:= @gY _ _ _ cp.bS
structure fO where
 count:Int
 used:(List (List UInt8))
 LJ:(List bt)
 out:cp
def fO.cs (x:fO):List AV:=[.v (.int .i64 x.count),.sl 1 (aN x.used),.sl 7 (bt.rows x.LJ),.sl 7 (bt.rows x.out.bH),.sl 16 (bl.rows x.out.cQ),.sl 16 (bl.rows x.out.Queries)]
def fO.rows (l:List fO):List (List AV):=l.map fO.cs
theorem fO.bS (l:List fO):fO.rows l=l.map fO.cs:=rfl
def fO.aD:= @gY _ _ _ fO.bS
structure bO where
 l:ah
 params:(List TParam)
def bO.cs (x:bO):List AV:=[.v (.int .i64 x.l.Kind),.v (.int .i64 x.l.Lo),.v (.int .i64 x.l.Hi),.sl 1 (aN x.l.Names),.sl 6 (ah.rows x.l.ax),.sl 2 (aU.rows x.l.aZ),.sl 2 (TParam.rows x.params)]
def bO.rows (l:List bO):List (List AV):=l.map bO.cs
theorem bO.bS (l:List bO):bO.rows l=l.map bO.cs:=rfl
def bO.aD:= @gY _ _ _ bO.bS
structure cA where
 L:ah
 Params:(List TParam)
def cA.cs (x:cA):List AV:=[.v (.int .i64 x.L.Kind),.v (.int .i64 x.L.Lo),.v (.int .i64 x.L.Hi),.sl 1 (aN x.L.Names),.sl 6 (ah.rows x.L.ax),.sl 2 (aU.rows x.L.aZ),.sl 2 (TParam.rows x.Params)]
def cA.rows (l:List cA):List (List AV):=l.map cA.cs
theorem cA.bS (l:List cA):cA.rows l=l.map cA.cs:=rfl
def cA.aD:= @gY _ _ _ cA.bS
structure fN where
 known:(List bt)
def fN.cs (x:fN):List AV:=[.sl 7 (bt.rows x.known)]
def fN.rows (l:List fN):List (List AV):=l.map fN.cs
theorem fN.bS (l:List fN):fN.rows l=l.map fN.cs:=rfl
def fN.aD:= @gY _ _ _ fN.bS
structure bG where
 Kind:Int
 Text:(List UInt8)
 N:Int
 At:Int
def bG.cs (x:bG):List AV:=[.v (.int .i64 x.Kind),.v (.string ⟨⟨x.Text⟩⟩),.v (.int .i64 x.N),.v (.int .i64 x.At)]
def bG.rows (l:List bG):List (List AV):=l.map bG.cs
theorem bG.bS (l:List bG):bG.rows l=l.map bG.cs:=rfl
def bG.aD:= @gY _ _ _ bG.bS
def bG.aF:= @nU _ _ _ bG.bS
def bG.bU:= @vK _ _ _ bG.bS λ_=>rfl
structure aC where
 T:(List bG)
 I:Int
 Open:Int
 aR:Bool
 aT:aM
def aC.cs (x:aC):List AV:=[.sl 4 (bG.rows x.T),.v (.int .i64 x.I),.v (.int .i64 x.Open),.v (.bool x.aR),.v (.int .i64 x.aT.Code),.v (.int .i64 x.aT.At)]
def aC.rows (l:List aC):List (List AV):=l.map aC.cs
theorem aC.bS (l:List aC):aC.rows l=l.map aC.cs:=rfl
def aC.aD:= @gY _ _ _ aC.bS
structure dp where
 nodes:Int
def dp.cs (x:dp):List AV:=[.v (.int .i64 x.nodes)]
def dp.rows (l:List dp):List (List AV):=l.map dp.cs
theorem dp.bS (l:List dp):dp.rows l=l.map dp.cs:=rfl
def dp.aD:= @gY _ _ _ dp.bS
theorem fE:gO ab.rows ab.cs/\gO aM.rows aM.cs/\gO aU.rows aU.cs/\gO ah.rows ah.cs/\gO bt.rows bt.cs/\gO TParam.rows TParam.cs/\gO az.rows az.cs/\gO ae.rows ae.cs/\gO bl.rows bl.cs/\gO cp.rows cp.cs/\gO fO.rows fO.cs/\gO bO.rows bO.cs/\gO cA.rows cA.cs/\gO fN.rows fN.cs/\gO bG.rows bG.cs/\gO aC.rows aC.cs/\gO dp.rows dp.cs/\(∀a b,aN (a++b)=aN a++aN b)/\(∀x r,aN (x::r)=[.v (.string ⟨⟨x⟩⟩)]::aN r)/\(∀k x r,eW k (x::r)=[.v (.int k x)]::eW k r)/\(aN []=[])/\(∀k,eW k []=[])/\(∀(k:Nat) l,aN (l.drop k)=(aN l).drop k)/\(∀(k:Nat) l,aN (l.take k)=(aN l).take k)/\(∀k a b,eW k (a++b)=eW k a++eW k b)/\(∀a b,iW (a++b)=iW a++iW b)/\(∀l (i:Nat) x,aN (l.set i x)=(aN l).set i [.v (.string ⟨⟨x⟩⟩)])/\(∀k l (i:Nat) x,eW k (l.set i x)=(eW k l).set i [.v (.int k x)])/\(∀l (i:Nat) x,iW (l.set i x)=(iW l).set i [.v (.bool x)]):=⟨gZ ab.bS,gZ aM.bS,gZ aU.bS,gZ ah.bS,gZ bt.bS,gZ TParam.bS,gZ az.bS,gZ ae.bS,gZ bl.bS,gZ cp.bS,gZ fO.bS,gZ bO.bS,gZ cA.bS,gZ fN.bS,gZ bG.bS,gZ aC.bS,gZ dp.bS,(λ_ _=>Wa),(λ_ _=>rfl),(λ_ _ _=>rfl),rfl,(λ_=>rfl),(λ_ _=>Vt),(λ_ _=>Vu),(λ_ _ _=>Wb),(λ_ _=>Wc),(λ_ _ _=>Jz),(λ_ _ _ _=>Jz),(λ_ _ _=>Jz)⟩
theorem wZ:il ab.rows/\il aM.rows/\il aU.rows/\il ah.rows/\il bt.rows/\il TParam.rows/\il az.rows/\il ae.rows/\il bl.rows/\il cp.rows/\il fO.rows/\il bO.rows/\il cA.rows/\il fN.rows/\il bG.rows/\il aC.rows/\il dp.rows/\(∀l,(aN l).length=l.length)/\(∀k l,(eW k l).length=l.length)/\(∀l,(iW l).length=l.length):=⟨ab.aD,aM.aD,aU.aD,ah.aD,bt.aD,TParam.aD,az.aD,ae.aD,bl.aD,cp.aD,fO.aD,bO.aD,cA.aD,fN.aD,bG.aD,aC.aD,dp.aD,(λ_=>cj),(λ_ _=>ql),(λ_=>Wd)⟩
abbrev ab.z:ab:={Kind:=0,Text:=[],N:=0,At:=0,Kids:=[]:ab}
abbrev aM.z:aM:={Code:=0,At:=0:aM}
abbrev aU.z:aU:={If:=[],eP:=[]:aU}
abbrev ah.z:ah:={Kind:=0,Lo:=0,Hi:=0,Names:=[],ax:=[],aZ:=[]:ah}
abbrev bt.z:bt:={Name:=[],aj:={Kind:=0,Lo:=0,Hi:=0,Names:=[],ax:=[],aZ:=[]:ah}:bt}
abbrev TParam.z:TParam:={Name:=[],aP:=0:TParam}
abbrev az.z:az:={aP:=0,aj:={Kind:=0,Lo:=0,Hi:=0,Names:=[],ax:=[],aZ:=[]:ah}:az}
abbrev ae.z:ae:={Op:=0,ai:={aP:=0,aj:={Kind:=0,Lo:=0,Hi:=0,Names:=[],ax:=[],aZ:=[]:ah}:az},N:=0,Text:=[],At:=0,Kids:=[]:ae}
abbrev bl.z:bl:={Name:=[],On:=[],Params:=[],Result:=0,Body:={Op:=0,ai:={aP:=0,aj:={Kind:=0,Lo:=0,Hi:=0,Names:=[],ax:=[],aZ:=[]:ah}:az},N:=0,Text:=[],At:=0,Kids:=[]:ae}:bl}
abbrev cp.z:cp:={bH:=[],cQ:=[],Queries:=[]:cp}
abbrev fO.z:fO:={count:=0,used:=[],LJ:=[],out:={bH:=[],cQ:=[],Queries:=[]:cp}:fO}
abbrev bO.z:bO:={l:={Kind:=0,Lo:=0,Hi:=0,Names:=[],ax:=[],aZ:=[]:ah},params:=[]:bO}
abbrev cA.z:cA:={L:={Kind:=0,Lo:=0,Hi:=0,Names:=[],ax:=[],aZ:=[]:ah},Params:=[]:cA}
abbrev fN.z:fN:={known:=[]:fN}
abbrev bG.z:bG:={Kind:=0,Text:=[],N:=0,At:=0:bG}
abbrev aC.z:aC:={T:=[],I:=0,Open:=0,aR:=false,aT:={Code:=0,At:=0:aM}:aC}
abbrev dp.z:dp:={nodes:=0:dp}
theorem zi {p:Prop} (h:p:=by(try simp only[fE]);repeat(first|exact b4.refl _|exact b4.nil _|exact bZ.nil|exact dm.nil|exact bZ.refl _|exact dm.refl _|exact b4.of (by simp only[fE];rfl)|(dsimp only;try simp only[fE])|apply b4.agg|apply b4.bN|apply b4.ip|apply b4.fn|apply bZ.cons|apply b4.sl|apply dm.cons|apply dm.append)):p:=h
theorem zp {p:Prop} (h:p:=by repeat(first|exact aG.nil|refine aG.cons rfl (bg.du (cl:=false) rfl aW) ?_|refine aG.skip rfl ?_|refine aG.cons rfl (dX (cl:=false) rfl aW) ?_)):p:=h
theorem zg {p:Prop} (h:p:=by first|rfl|simp only[qc]|simp only[wZ,qc,Jy,jV,iN,oP]):p:=h
theorem zn {p:Prop} (h:p:=by first|rfl|(simp only[fE];rfl)|(simp only[fE,qc];rfl)|(simp only[ab.cs,aM.cs,aU.cs,ah.cs,bt.cs,TParam.cs,az.cs,ae.cs,bl.cs,cp.cs,fO.cs,bO.cs,cA.cs,fN.cs,bG.cs,aC.cs,dp.cs,fE,qc];rfl)):p:=h
theorem zq {D:Type} {l:List D} {i:Nat} {x:D} {p:Prop} (h:l[i]? =some x) (k:i<l.length->p:=by intro h0;first|exact h0|(simpa only[wZ,jV,qc,Jy,iN,oP,gT,Ul,gw]using h0)):p:=k (cr.1 h).1
theorem zo {c p:Prop} [Decidable c] (h:decide c=true) (k:c->p:=by intro h0;simp only[wZ,jV,qc,iN,oP,gw]at h0⊢;omega):p:=k (xC h)
theorem zk {p:Prop} (h:p:=by kernel_rfl):p:=h
