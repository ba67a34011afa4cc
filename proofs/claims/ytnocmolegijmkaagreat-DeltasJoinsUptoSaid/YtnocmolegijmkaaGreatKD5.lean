/- The abstract machine, fifth part: what is still to be done, as a list; regions whose order is open; panics. -/
import Derived.Test.YtnocmolegijmkaaGreatKB14
set_option linter.all false
noncomputable section
namespace Go.Bw
open Go
theorem cj.panic {C:Cx} {N:Nat} {Q:AQ} {O:Sg} {L:List aq} {ops:Array Oper} {rest:List Oper} {o:Oper} {p:Operand} {t:TypeId} {y:AV} (hg:o.guard=none) (ho:o.op= .panic p) (hp:ev (look O) p=some (.bP t y)) (k:Q (.aT (.bP t y)) [] L):
  cj C N ops (o::rest) Q O L:=λF w0 L0 a w hs hx=>by
 unfold wpList;rw[bg (by simp[Region.wanted,hg])];refine .inl ?_;have h1:=bH hs.sg hp;have h0:=h1;simp only[Rel]at h0;obtain⟨u,h0,_⟩:=h0;have hrun:(execOp a.eval o).run C.P w= .halt (.panic (.iface t u)) w:=by simp[execOp,ho,Instr.panic,h0]
 unfold Oper.wp;rw[hrun];rw[h0]at h1;exact⟨.aT (.bP t y),[],L,k,⟨_,rfl,h1⟩,⟨⟨hs.sg.1,λt x hx=>by simp[AE.sl,look]at hx⟩,hs.hp,hs.df⟩,hx⟩
section
variable {E:Env} {N K:Nat} {Q:DQ} {O:TS} {L:Hp} {o:Oper} {x:CV} {all rest:List Oper}
theorem Kv {Z:aN} (s:Sl):SS Z .lf s:=λt x hx=>by simp[Tr.lI]at hx
theorem DO.panic {p:Operand} (hg:o.guard=none) (ho:o.op= .panic p) {t:TypeId} {y:CV} (hp:aY O p=some (.bP t y)) (k:Q (.aT (.bP t y)) .lf L):DO E N K all (o::rest) Q O L:=λZ σB LB hs hh=>by
 obtain⟨z,h1,h2⟩:=cu hs hp;have h3:=h2;simp only[aK]at h3;obtain⟨u,rfl,_⟩:=h3;exact cj.panic hg ho h1 ⟨Z,.aT (.bP t y),.lf,L,.refl K Z,⟨_,rfl,h2⟩,Kv _,hh,k⟩
theorem DO.J3 {p:Operand} (hg:o.guard=none) (ho:o.op= .panic p) {t:TypeId} {y:AV} (hp:aY O p=some (.d (.bP t y))) (k:Q (.aT (.d (.bP t y))) .lf L):DO E N K all (o::rest) Q O L:=λZ σB LB hs hh=>by
 obtain⟨z,h1,h2⟩:=cu hs hp;simp only[aK]at h2;subst h2;exact cj.panic hg ho h1 ⟨Z,.aT (.d (.bP t y)),.lf,L,.refl K Z,⟨_,rfl,rfl⟩,Kv _,hh,k⟩
theorem DO.UQ {j d e:Nat} {want t:Bool} {op:Op} {ty:TypeId} {pos:String} {after:Array Edge} {oj:Oper} (hj:nth all j=some oj) (hjd:oj.dst=some d) (ht:O.get d=some (.d (.v (.bool t))))
  (h1:t=want->DO E N K all (⟨some e,op,ty,pos,after,none⟩::rest) Q (Tr.put 24 O d (some (.d (.v (.bool want))))) L)
  (h2:t= !want->DO E N K all rest Q (Tr.put 24 (Tr.put 24 O d (some (.d (.v (.bool !want))))) e (some (.d (.v undef)))) L)
  (hd:Nat.blt e N=true):DO E N K all (⟨some e,op,ty,pos,after,some (j,want)⟩::rest) Q O L:=λZ σB LB hs hh=>by
 obtain⟨y,h3,h4⟩:=hs d _ ht;simp only[aK]at h4;subst h4;have hjB:(all.toArray[j]?).bind (·.dst)=some d:=by rw[cM]at hj;simp[hj,hjd]
 have hput:∀b,t=b->SS Z (Tr.put 24 O d (some (.d (.v (.bool b))))) (look ((d,.v (.bool b))::σB)):=λb hb=>by
  subst hb;exact hs.put (some d) (x:= .d (.v (.bool t))) (y:= .v (.bool t)) rfl
 exact cj.bR hjB h3 (λe=>h1 e Z _ LB (hput want e) hh) (λe'=>h2 e' Z _ LB ((hput _ e').put (some e) (x:= .d (.v undef)) (y:= .v undef) rfl) hh) hd
theorem DO.J2 {j d e:Nat} {want:Bool} {op:Op} {ty:TypeId} {pos:String} {after:Array Edge} {oj:Oper} (hj:nth all j=some oj) (hjd:oj.dst=some d) (ht:O.get d=some (.d (.v undef)))
  (h2:DO E N K all rest Q (Tr.put 24 O e (some (.d (.v undef)))) L) (hd:Nat.blt e N=true):DO E N K all (⟨some e,op,ty,pos,after,some (j,want)⟩::rest) Q O L:=λZ σB LB hs hh=>by
 obtain⟨y,h3,h4⟩:=hs d _ ht;simp only[aK]at h4;subst h4;have hjB:(all.toArray[j]?).bind (·.dst)=some d:=by rw[cM]at hj;simp[hj,hjd]
 exact cj.J2 hjB h3 (h2 Z _ LB (hs.put (some e) (x:= .d (.v undef)) (y:= .v undef) rfl) hh) hd
def fE (Z:aN):List (Nat×List CV)->Nu->Prop
 |[],ys=>ys=[]
 |x::xs,ys=>∃y r,ys=y::r/\y.1=x.1/\aS Z x.2 y.2/\fE Z xs r
theorem fE.append {Z:aN}:∀{xs xs':List (Nat×List CV)} {ys ys':Nu},fE Z xs ys->fE Z xs' ys'->fE Z (xs++xs') (ys++ys')
 |[],_,_,_,h,g=>by simp only[fE]at h;subst h;simpa using g
 |_::_,_,_,_,h,g=>by simp only[fE]at h;obtain⟨y,r,rfl,h1,h2,h⟩:=h;simp only[ko,fE];exact⟨y,_,rfl,h1,h2,fE.append h g⟩
theorem fE.mem {Z:aN}:∀{xs:List (Nat×List CV)} {ys:Nu},fE Z xs ys->∀p∈ys,∃q∈xs,q.1=p.1
 |[],_,h,p,hp=>by simp only[fE]at h;subst h;cases hp
 |x::_,_,h,p,hp=>by
  simp only[fE]at h;obtain⟨y,r,rfl,h1,_,h⟩:=h;rcases cq.1 hp with rfl|hp
  ·exact⟨x,by simp,h1.symm⟩
  ·obtain⟨q,h2,h3⟩:=fE.mem h p hp;exact⟨q,by simp[h2],h3⟩
def Cy (K:Nat) (Z:aN) (Q:DQ):Sl->List aq->Prop:=λs L'=>∃O1,(∀t x,look O1 t=some x->s t=some x)/\lift K Z Q .norm O1 L'
def tj (K:Nat) (Z:aN) (Q:DQ):AV->List aq->Prop:=λx L'=>lift K Z Q (.aT x) [] L'
def eP (E:Env) (N K:Nat) (all:List Oper) (tl:List (Nat×Oper×TK)) (A:b6) (Q:DQ) (L:Hp) (pre:List Oper) (O:TS) (W:List (Nat×List CV)):Prop:=
 ∀Z s LB WB,SS Z O s->HS Z L LB->fE Z W WB->sL E.toCx N LB all.toArray (λst=>∃O',(∀t x,look O' t=some x->st.1 t=some x)/\
  jD st.2 λzs=>kC E.toCx N all.toArray (Cy K Z Q) (tj K Z Q) tl A [] (sM A (look (gX LB.length zs++O'))) (LB++dw zs)) pre (s,WB)
theorem SS.bm {Z:aN} {s:Sl} (hs:SS Z O s) (dst:Option Nat) {y:AV} (hx:aK Z x y):SS Z (cv O dst x) (bm s dst (some y)):=by
 cases dst with
 |none=>exact hs
 |some d=>
  intro t z hz;rcases Tr.fy 24 O d t (some x) z hz with⟨rfl,h1⟩|⟨hne,h1⟩
  ·cases h1;exact⟨y,by simp[Bw.bm],hx⟩
  ·obtain⟨u,h2,h3⟩:=hs t z h1;exact⟨u,by simp[Bw.bm,hne,h2],h3⟩
theorem SS.del {Z:aN} {s:Sl} (hs:SS Z O s) (d:Nat):SS Z (Tr.put 24 O d none) (Bw.bm s (some d) none):=by
 intro t z hz;rcases Tr.fy 24 O d t none z hz with⟨_,h1⟩|⟨hne,h1⟩
 ·cases h1
 ·obtain⟨u,h2,h3⟩:=hs t z h1;exact⟨u,by simp[Bw.bm,hne,h2],h3⟩
def cZ (all:List Oper) (o:Oper) (O:TS):Option Bool:=match o.guard with
 |none=>some true
 |some (j,want)=>match(nth all j).bind (·.dst)with
  |none=>some false
  |some d=>match O.get d with
   |some (.d (.v (.bool b)))=>some (b==want)
   |some (.d (.v (.tuple _)))=>some false
   |_=>none
theorem lB {Z:aN} {s:Sl} (hs:SS Z O s) {b:Bool} (h:cZ all o O=some b):lH all.toArray o s=some b:=by
 unfold cZ at h;unfold lH;cases hg:o.guard with
 |none=>rw[hg]at h;exact h
 |some p=>
  obtain⟨j,want⟩:=p;rw[hg]at h;simp only at h⊢;have hj:(all.toArray[j]?).bind (·.dst)=(nth all j).bind (·.dst):=by rw[cM];simp
  rw[hj];cases hd:(nth all j).bind (·.dst)with
  |none=>rw[hd]at h;exact h
  |some d=>
   rw[hd]at h;simp only at h⊢;split at h
   ·rename_i q hq;obtain⟨y,h1,h2⟩:=hs d _ hq;simp only[aK]at h2;subst h2;simp only[h1];exact h
   ·rename_i q hq;obtain⟨y,h1,h2⟩:=hs d _ hq;simp only[aK]at h2;subst h2;simp only[h1];exact h
   ·cases h
def mT (o:Oper) (W:List (Nat×List CV)):Bool:=match o.dst with
 |none=>true
 |some d=>W.all λp=>!Nat.beq p.1 d
theorem Iv {Z:aN} {W:List (Nat×List CV)} {WB:Nu} (h:mT o W=true) (hn:fE Z W WB):fresh o WB:=by
 intro d hd p hp he;unfold mT at h;rw[hd]at h;simp only[gf,kL]at h;obtain⟨q,h1,h2⟩:=hn.mem p hp;have:=h q h1;rw[h2,he,DF]at this;cases this
theorem eP.val {pre:List Oper} {A:b6} {tl:List (Nat×Oper×TK)} {W:List (Nat×List CV)} (hd:cP N o.dst=true) (hw:cZ all o O=some true) (hf:mT o W=true) (h:bl E N o O L x) (k:eP E N K all tl A Q L pre (cv O o.dst x) W):
  eP E N K all tl A Q L (o::pre) O W:=λZ s LB WB hs hh hn=>by
 obtain⟨y,h1,h2⟩:=h Z s LB hs hh;exact⟨Iv hf hn,some y,[],⟨hd,.inl ⟨lB hs hw,.inl ⟨y,h2,rfl,rfl⟩⟩⟩,by simpa using k Z _ LB WB (hs.bm o.dst h1) hh hn⟩
theorem eP.skip {pre:List Oper} {A:b6} {tl:List (Nat×Oper×TK)} {W:List (Nat×List CV)} (hd:cP N o.dst=true) (hw:cZ all o O=some false) (hf:mT o W=true) (k:eP E N K all tl A Q L pre (cv O o.dst (.d (.v undef))) W):
  eP E N K all tl A Q L (o::pre) O W:=λZ s LB WB hs hh hn=>by
 exact⟨Iv hf hn,some (.v undef),[],⟨hd,.inr ⟨lB hs hw,rfl,rfl⟩⟩,by simpa using k Z _ LB WB (hs.bm o.dst rfl) hh hn⟩
theorem eP.new {pre:List Oper} {A:b6} {tl:List (Nat×Oper×TK)} {W:List (Nat×List CV)} {d:Nat} {cells:List CV} (hdd:o.dst=some d) (hd:Nat.blt d N=true) (hw:cZ all o O=some true) (hf:mT o W=true) (h:∀Z s LB,SS Z O s->HS Z L LB->∃cs,aS Z cells cs/\gA E.toCx N o s LB cs)
  (k:eP E N K all tl A Q L pre (Tr.put 24 O d none) (W++[(d,cells)])):eP E N K all tl A Q L (o::pre) O W:=λZ s LB WB hs hh hn=>by
 obtain⟨cs,h1,h2⟩:=h Z s LB hs hh;refine⟨Iv hf hn,none,[(d,cs)],⟨by rw[hdd];exact hd,.inl ⟨lB hs hw,.inr ⟨d,cs,hdd,h2,rfl,rfl⟩⟩⟩,?_⟩;rw[hdd];exact k Z _ LB _ (hs.del d) hh (hn.append (by simp only[fE];exact⟨_,_,rfl,rfl,h1,rfl⟩))
theorem bl.Wv {cells:List AV} (h:∀Z s LB,SS Z O s->HS Z L LB->∃cs,aS Z (cells.map .d) cs/\gA E.toCx N o s LB cs):bl E N o O L (.d (.ip cells)):=λZ s LB hs hh=>by
 obtain⟨cs,h1,h2⟩:=h Z s LB hs hh;have:cs=cells:=by
  have:=pK (zs:=cells) (by
   have key:∀l:List AV,iT (l.map .d)=some l:=by
    intro l;induction l with
    |nil=>rfl
    |cons y l ih=>simp[iT,ih]
   exact key cells) h1
  exact this
 subst this;exact⟨_,rfl,h2.frozen⟩
theorem bl.lit {t:TypeId} {n:Nat} {parts:Array (Nat×Operand)} {e k sz by' sz' by'':Nat} {z z':List Value} {td':TD} {cells:List AV} (ho:o.op= .buildSlice t n parts)
  (ht:bc E.T t=some ⟨.slice e k,sz,by',z⟩) (hte:bc E.T e=some ⟨td',sz',by'',z'⟩) (hf:fD k (dS O) (iU n (z'.map .v)) parts.toList=some cells) (hb:Nat.ble (n*k) 16777216=true) (hk:Nat.ble 1 k=true):
  bl E N o O L (.d (.sl k (chunk n k cells))):=λ_ _ _ hs _=>⟨_,rfl,(ck.lit ho ht hte hf hb hk).mono λ_ _ _ hy=>lL hs hy⟩
theorem eP.guard {pre:List Oper} {A:b6} {tl:List (Nat×Oper×TK)} {W:List (Nat×List CV)} {d:Nat} {b:Bool} (hb:O.get d=some (.d (.v (.bool b)))) (h1:b=true->eP E N K all tl A Q L pre (Tr.put 24 O d (some (.d (.v (.bool true))))) W)
  (h2:b=false->eP E N K all tl A Q L pre (Tr.put 24 O d (some (.d (.v (.bool false))))) W):eP E N K all tl A Q L pre O W:=λZ s LB WB hs hh hn=>by
 have key:SS Z (Tr.put 24 O d (some (.d (.v (.bool b))))) s:=λt z hz=>by
  rcases Tr.fy 24 O d t _ z hz with⟨rfl,h3⟩|⟨_,h3⟩
  ·cases h3;exact hs _ _ hb
  ·exact hs t z h3
 cases b with
 |true=>exact h1 rfl Z s LB WB key hh hn
 |false=>exact h2 rfl Z s LB WB key hh hn
def Tr.keys {D:Type}:Tr D->List Nat
 | .lf=>[]
 | .nd _ l r=>0::(l.keys.map (2* ·+1)++r.keys.map (2* ·+2))
theorem Tr.mem_keys {D:Type}:∀{t:Tr D} {n:Nat} {x:D},t.get n=some x->n∈t.keys
 | .lf,_,_,h=>by simp[Tr.lI]at h
 | .nd y l r,n,x,h=>by
  simp only[Tr.qe,mL,mM]at h;simp only[Tr.keys,cq,b7,dP];cases h0:Nat.beq n 0 with
  |true=>exact .inl (bQ h0)
  |false=>
   rw[h0]at h;have h0:=iP h0;simp only at h;cases h1:Nat.beq (Nat.mod n 2) 1 with
   |true=>
    rw[h1]at h;have h1:=bQ h1;change n%2=1 at h1;exact .inr (.inl ⟨_,Tr.mem_keys h,by change 2*(n/2)+1=n;omega⟩)
   |false=>
    rw[h1]at h;have h1:=iP h1;change ¬n%2=1 at h1;exact .inr (.inr ⟨_,Tr.mem_keys h,by change 2*(n/2-1)+2=n;omega⟩)
def fB:List (Nat×List CV)->TS->Hp->TS×Hp
 |[],O,L=>(O,L)
 |(d,cs)::r,O,L=>fB r (Tr.put 24 O d (some (.own L.n 0))) (L.push (.box cs))
theorem Qj {d:Nat} {y:AV}:∀{l r:Sg},d∉l.map (·.1)->∀t,look ((d,y)::(l++r)) t=look (l++(d,y)::r) t
 |[],_,_,_=>rfl
 |(e,z)::l,r,hd,t=>by
  simp only[dp,cq,not_or]at hd;have ih:=Qj (y:=y) (r:=r) hd.2 t;simp only[ko,look]at ih⊢;cases h1:Nat.beq d t with
  |true=>
   rw[h1]at ih;have:Nat.beq e t=false:=by
    cases h2:Nat.beq e t with
    |false=>rfl
    |true=>exact absurd ((bQ h1).trans (bQ h2).symm) hd.1
   rw[this];exact ih
  |false=>
   rw[h1]at ih;cases h2:Nat.beq e t with
   |true=>rfl
   |false=>exact ih
theorem Qk:∀(zs:List ((Nat×List AV)×Nat)) (n:Nat),(gX n zs).map (·.1)=zs.map λz=>z.1.1
 |[],_=>rfl
 |z::zs,n=>by simp[gX,Qk zs (n+1)]
theorem IU : ∀ {W : List (Nat × List CV)} {Z : aN} {O : TS} {L : Hp} {σB : Sg} {LB : List aq} {zs : List ((Nat × List AV) × Nat)}, SS Z O (look σB) → HS Z L LB → fE Z W (zs.map (·.1)) → fW (W.map (·.1)) = true →
    ∃ Z', Z.le Z' ∧ SS Z' (fB W O L).1 (look (gX LB.length zs ++ σB)) ∧ HS Z' (fB W O L).2 (LB ++ dw zs)
  | [], Z, O, L, σB, LB, zs, hs, hh, hn, _ => by
    simp only [fE, List.map_eq_nil_iff] at hn; subst hn
    exact ⟨Z, .refl Z, hs, by have h0 : LB ++ dw [] = LB := by simp [dw]
                              rw [h0]; exact hh⟩
  | (d, cs) :: W, Z, O, L, σB, LB, zs, hs, hh, hn, hnd => by
    simp only [fE] at hn
    obtain ⟨y, r, he, h1, h2, hn⟩ := hn
    match zs, he with
    | ((d', us), b) :: zs, he =>
      simp only [dp, kn] at he
      obtain ⟨rfl, rfl⟩ := he
      simp only at h1 h2
      subst h1
      simp only [dp, fW, bS, kL] at hnd
      have hdom := hh.iX L.n (bX _)
      have hl : Z.le (Z.gL L.n b) := aN.EW hdom.1
      have hbn : (Z.gL L.n b).b L.n = some b := by simp [aN.gL]
      have hs1 : SS (Z.gL L.n b) (Tr.put 24 O d' (some (.own L.n 0))) (look ((d', .own LB.length b 0) :: σB)) := (hs.mono hl).put (some d') (x := .own L.n 0) (by simp only [aK]; exact ⟨b, LB.length, hbn, rfl⟩)
      have hh1 : HS (Z.gL L.n b) (L.push (.box cs)) (LB ++ [.box b us]) := hh.push hl (fun _ _ => rfl) (fun i hi => by simp [aN.gL, hi]) ⟨b, us, hbn, rfl, h2.mono hl⟩
      have nmono : ∀ {W : List (Nat × List CV)} {ys : Nu}, fE Z W ys → fE (Z.gL L.n b) W ys := by
        intro W
        induction W with
        | nil => intro ys h; exact h
        | cons q W ih =>
          intro ys h
          simp only [fE] at h ⊢
          obtain ⟨y, r, e, g1, g2, g3⟩ := h
          exact ⟨y, r, e, g1, g2.mono hl, ih g3⟩
      obtain ⟨Z', h3, h4, h5⟩ := IU (zs := zs) hs1 hh1 (nmono hn) hnd.2
      refine ⟨Z', hl.trans h3, ?_, ?_⟩
      · have hd : d' ∉ (gX (LB ++ [aq.box b us]).length zs).map (·.1) := by
          rw [Qk]
          intro hm
          obtain ⟨z, hz, he⟩ := dP.1 hm
          obtain ⟨q, g1, g2⟩ := hn.mem z.1 (dP.2 ⟨z, hz, rfl⟩)
          have : (W.map (·.1)).contains d' = true := by rw [tu]; exact dP.2 ⟨q, g1, by rw [g2, he]⟩
          rw [hnd.1] at this; cases this
        intro t x hx
        obtain ⟨u, g1, g2⟩ := h4 t x hx
        refine ⟨u, ?_, g2⟩
        have hlen : (LB ++ [aq.box b us]).length = LB.length + 1 := by simp
        rw [hlen] at g1 hd
        show look ((d', .own LB.length b 0) :: (gX (LB.length + 1) zs ++ σB)) t = some u
        rw [Qj hd]; exact g1
      · have : LB ++ dw (((d', us), b) :: zs) = (LB ++ [aq.box b us]) ++ dw zs := by simp [dw]
        rw [this]; exact h5
def gr (Z:aN):List (Nat×Oper×CV)->gY->Prop
 |[],ys=>ys=[]
 |x::xs,ys=>∃y r,ys=y::r/\y.1=x.1/\y.2.1=x.2.1/\aK Z x.2.2 y.2.2/\gr Z xs r
theorem gr.mono {Z Z':aN} (h:Z.le Z'):∀{xs:List (Nat×Oper×CV)} {ys:gY},gr Z xs ys->gr Z' xs ys
 |[],_,h1=>by simp only[gr]at h1⊢;exact h1
 |_::_,_,h1=>by simp only[gr]at h1⊢;obtain⟨y,r,e,h2,h3,h4,h5⟩:=h1;exact⟨y,r,e,h2,h3,h4.mono h,gr.mono h h5⟩
def dg (all:List Oper) (j:Nat) (pend:List (Nat×Oper×CV)):List (Nat×Oper×CV):=pend.filter λp=>!fj all.toArray p.1 j
theorem gr.keep {Z:aN} (j:Nat):∀{xs:List (Nat×Oper×CV)} {ys:gY},gr Z xs ys->gr Z (dg all j xs) (du all.toArray j ys)
 |[],_,h1=>by simp only[gr]at h1;subst h1;rfl
 |x::xs,_,h1=>by
  simp only[gr]at h1;obtain⟨y,r,rfl,h2,h3,h4,h5⟩:=h1;have ih:=gr.keep j h5;simp only[dg,du,q9,h2]at ih⊢;cases fj all.toArray x.1 j with
  |true=>exact ih
  |false=>simp only[DH,if_true,gr];exact⟨y,_,rfl,h2,h3,h4,ih⟩
theorem gr.mem {Z:aN}:∀{xs:List (Nat×Oper×CV)} {ys:gY},gr Z xs ys->∀p∈ys,∃q∈xs,p.1=q.1/\p.2.1=q.2.1/\aK Z q.2.2 p.2.2
 |[],_,h,p,hp=>by simp only[gr]at h;subst h;cases hp
 |x::_,_,h,p,hp=>by
  simp only[gr]at h;obtain⟨y,r,rfl,h1,h2,h3,h⟩:=h;rcases cq.1 hp with rfl|hp
  ·exact⟨x,by simp,h1,h2,h3⟩
  ·obtain⟨q,g1,g2⟩:=gr.mem h p hp;exact⟨q,by simp[g1],g2⟩
def AT (E:Env) (N:Nat) (all:List Oper) (o:Oper) (O:TS) (L:Hp) (x:CV):Prop:=(cZ all o O=some true/\bl E N o O L x)\/(cZ all o O=some false/\x= .d (.v undef))
def aJ (E:Env) (N:Nat) (all:List Oper) (pend:List (Nat×Oper×CV)) (O:TS) (L:Hp):Prop:=∀p∈pend,AT E N all p.2.1 O L p.2.2
theorem AT.ok {Z:aN} {s:Sl} {LB:List aq} (hs:SS Z O s) (hh:HS Z L LB) (h:AT E N all o O L x):∃y,aK Z x y/\lu E.toCx N all.toArray o s LB y:=by
 rcases h with⟨h1,h2⟩|⟨h1,rfl⟩
 ·obtain⟨y,h3,h4⟩:=h2 Z s LB hs hh;exact⟨y,h3,.inl ⟨lB hs h1,h4⟩⟩
 ·exact⟨.v undef,rfl,.inr ⟨lB hs h1,rfl⟩⟩
theorem aJ.ok {Z:aN} {s:Sl} {LB:List aq} {pend:List (Nat×Oper×CV)} {pb:gY} (hs:SS Z O s) (hh:HS Z L LB) (h:aJ E N all pend O L) (hp:gr Z pend pb):mc E.toCx N all.toArray pb s LB:=λp hpm=>by
 obtain⟨q,h1,h2,h3,h4⟩:=hp.mem p hpm;rw[h3];rcases h q h1 with⟨g1,g2⟩|⟨g1,g2⟩
 ·obtain⟨y,g3,g4⟩:=g2 Z s LB hs hh;exact .inl ⟨lB hs g1,ck.same g3 h4 g4⟩
 ·rw[g2]at h4;simp only[aK]at h4;exact .inr ⟨lB hs g1,h4⟩
theorem SS.up {Z:aN} {s s':Sl} (h:SS Z O s) (hu:∀t x,s t=some x->s' t=some x):SS Z O s':=λt x hx=>by
 obtain⟨y,h1,h2⟩:=h t x hx;exact⟨y,hu t y h1,h2⟩
def eh (A:b6):List (Nat×List CV):=A.map λp=>(p.2.1,p.2.2.map .d)
def Ai:b6->TS->TS
 |[],O=>O
 |p::A,O=>Ai A (Tr.put 24 O p.2.1 none)
theorem PN:∀{A:b6} {O:TS} {t:Nat} {x:CV},(Ai A O).get t=some x->t∉A.map (·.2.1)/\O.get t=some x
 |[],_,_,_,h=>⟨by simp,h⟩
 |p::A,O,t,x,h=>by
  obtain⟨h1,h2⟩:=PN (A:=A) h;rcases Tr.fy 24 O p.2.1 t none x h2 with⟨_,h3⟩|⟨h3,h4⟩
  ·cases h3
  ·exact⟨by simp only[dp,cq,not_or];exact⟨h3,h1⟩,h4⟩
theorem Re {Z:aN}:∀A:b6,fE Z (eh A) (nk A)
 |[]=>rfl
 |p::A=>by
  simp only[eh,nk,dp,fE];exact⟨_,_,rfl,rfl,jv _,Re A⟩
def cV (E:Env) (N K:Nat) (all:List Oper) (Q:DQ) (l:List (Nat×Oper×TK)) (A:b6) (pend:List (Nat×Oper×CV)) (O:TS) (L:Hp):Prop:=
 ∀Z s LB pb,SS Z O s->HS Z L LB->gr Z pend pb->kC E.toCx N all.toArray (Cy K Z Q) (tj K Z Q) l A pb s LB
theorem rn {C:Cx} {ops:Array Oper} {Qn Qn':Sl->List aq->Prop} {Qp Qp':AV->List aq->Prop} (h1:∀s L,Qn s L->Qn' s L) (h2:∀x L,Qp x L->Qp' x L):∀{l:List (Nat×Oper×TK)} {A:b6} {pend:gY} {s:Sl} {L:List aq},
  kC C N ops Qn Qp l A pend s L->kC C N ops Qn' Qp' l A pend s L
 |[],_,_,_,_,h=>⟨h.1,h1 _ _ h.2⟩
 |(i,o,.fl)::r,_,_,_,_,h=>by
  obtain⟨g1,g2,y,g3⟩:=h;exact⟨g1,g2,y,g3.imp (λ⟨a,b⟩=>⟨a,rn h1 h2 b⟩) λ⟨a,b⟩=>⟨a,rn h1 h2 b⟩⟩
 |(i,o,.one)::r,_,_,_,_,h=>by
  obtain⟨g1,g2⟩:=h;exact⟨g1,Eu g2 λzs _ ⟨b1,b2⟩=>⟨b1,b2.imp (λ⟨a1,R,a2,a3,a4⟩=>⟨a1,R,a2,λx L' hR=>rn h1 h2 (a3 x L' hR),λx L' hR=>h2 _ _ (a4 x L' hR)⟩) λ⟨a1,a2⟩=>⟨a1,rn h1 h2 a2⟩⟩⟩
 |[(_,_,.two)],_,_,_,_,h=>h
 |(i,o,.two)::(j,o',x)::r,_,_,_,_,h=>by
  obtain⟨g1,g2,g3⟩:=h;have up:∀{o:Oper} {s:Sl} {L:List aq} {nx nx':Sl->List aq->Prop},gZ C N ops o s L nx Qp->(∀s L,nx s L->nx' s L)->gZ C N ops o s L nx' Qp':=λh hn=>
   ⟨h.1,h.2.imp (λ⟨a1,R,a2,a3,a4⟩=>⟨a1,R,a2,λx L' hR=>hn _ _ (a3 x L' hR),λx L' hR=>h2 _ _ (a4 x L' hR)⟩) λ⟨a1,a2⟩=>⟨a1,hn _ _ a2⟩⟩
  exact⟨g1,up g2 λs1 L1 q=>⟨q.1,up q.2 λs2 L2 q=>rn h1 h2 q⟩,up g3 λs1 L1 q=>⟨q.1,up q.2 λs2 L2 q=>rn h1 h2 q⟩⟩
theorem cV.up {Z Z':aN} (hl:Z.le Z') {l:List (Nat×Oper×TK)} {A:b6} {pb:gY} {s:Sl} {LB:List aq} (h:kC E.toCx N all.toArray (Cy K Z' Q) (tj K Z' Q) l A pb s LB):kC E.toCx N all.toArray (Cy K Z Q) (tj K Z Q) l A pb s LB:=
 rn (λ_ _ ⟨O1,h1,h2⟩=>⟨O1,h1,rm (hl.toK K) (λ_ _ _ h=>h) h2⟩) (λ_ _ h=>rm (hl.toK K) (λ_ _ _ h=>h) h) h
section
variable {l:List (Nat×Oper×TK)} {A:b6} {pend:List (Nat×Oper×CV)} {i:Nat}
theorem cV.nil (hp:aJ E N all pend O L) (h:Q .norm O L):cV E N K all Q [] A pend O L:=λZ s LB pb hs hh hpi=>by
 refine⟨hp.ok hs hh hpi,ee s O.keys,λt x hx=>(lC hx).2,tR (d:= .norm) rfl (λt x hx=>?_) hh h⟩;obtain⟨y,h1,h2⟩:=hs t x hx;exact⟨y,by rw[tB (Tr.mem_keys hx)];exact h1,h2⟩
theorem cV.fl (hp:aJ E N all pend O L) (hd:cP N o.dst=true) (hv:AT E N all o O L x) (k:cV E N K all Q l A ((i,o,x)::pend) (cv O o.dst x) L):cV E N K all Q ((i,o,.fl)::l) A pend O L:=λZ s LB pb hs hh hpi=>by
 obtain⟨y,h1,h2⟩:=hv.ok hs hh;exact⟨hp.ok hs hh hpi,hd,y,.inl ⟨h2,k Z _ LB _ (hs.bm o.dst h1) hh (by simp only[gr];exact⟨_,_,rfl,rfl,rfl,h1,hpi⟩)⟩⟩
def bE (E:Env) (N:Nat) (o:Oper) (O:TS) (x:CV):Prop:=∀Z s LB,SS Z O s->∃y,aK Z x y/\ck E.toCx N o s LB y
theorem cV.st (hp:aJ E N all pend O L) (hd:cP N o.dst=true) (hv:(cZ all o O=some true/\bE E N o O x)\/(cZ all o O=some false/\x= .d (.v undef))) (k:cV E N K all Q l A pend (cv O o.dst x) L):cV E N K all Q ((i,o,.fl)::l) A pend O L:=λZ s LB pb hs hh hpi=>by
 rcases hv with⟨hw,hv⟩|⟨hw,rfl⟩
 ·obtain⟨y,h1,_⟩:=hv Z s [] hs;refine⟨hp.ok hs hh hpi,hd,y,.inr ⟨λL'=> .inl ⟨lB hs hw,?_⟩,k Z _ LB _ (hs.bm o.dst h1) hh hpi⟩⟩;obtain⟨y',g1,g2⟩:=hv Z s L' hs;exact ck.same g1 h1 g2
 ·exact⟨hp.ok hs hh hpi,hd,.v undef,.inr ⟨λL'=> .inr ⟨lB hs hw,rfl⟩,k Z _ LB _ (hs.bm o.dst rfl) hh hpi⟩⟩
theorem cV.YY {Z:aN} {s:Sl} {LB:List aq} {M:b6} (hs:SS Z O s) (hh:HS Z L LB) (hnd:fW ((eh M).map (·.1))=true) {zs:List ((Nat×List AV)×Nat)} (hz:zs.map (·.1)=nk M):
  ∃Z',Z.le Z'/\SS Z' (fB (eh M) O L).1 (ir LB.length zs s)/\HS Z' (fB (eh M) O L).2 (LB++dw zs):=by
 have hs':SS Z O (look (ee s O.keys)):=λt x hx=>by
  obtain⟨y,h1,h2⟩:=hs t x hx;exact⟨y,by rw[tB (Tr.mem_keys hx)];exact h1,h2⟩
 obtain⟨Z',h1,h2,h3⟩:=IU (zs:=zs) hs' hh (by rw[hz];exact Re M) hnd;refine⟨Z',h1,h2.up λt x hx=>?_,h3⟩;simp only[ir];cases hl:look (gX LB.length zs) t with
 |some y=>
  have happ:∀(l r:Sg) (y:AV),look l t=some y->look (l++r) t=some y:=by
   intro l r
   induction l with
   |nil=>intro y h;simp[look]at h
   |cons p l ih=>
    intro y h;obtain⟨k,v⟩:=p;simp only[ko,look]at h⊢;split
    ·rename_i hb;rw[hb]at h;exact h
    ·rename_i hb;rw[hb]at h;exact ih y h
  rw[happ _ _ y hl]at hx;exact hx
 |none=>
  have happ:∀(l r:Sg),look l t=none->look (l++r) t=look r t:=by
   intro l r
   induction l with
   |nil=>intro _;rfl
   |cons p l ih=>
    intro h;obtain⟨k,v⟩:=p;simp only[ko,look]at h⊢;split
    ·rename_i hb;rw[hb]at h;cases h
    ·rename_i hb;rw[hb]at h;exact ih h
  rw[happ _ _ hl]at hx;exact(lC hx).2
theorem cV.skip (hp:aJ E N all pend O L) (hnd:fW ((eh (cD all.toArray i A)).map (·.1))=true) (hd:cP N o.dst=true) (hw:cZ all o (fB (eh (cD all.toArray i A)) O L).1=some false)
  (k:cV E N K all Q l (cO all.toArray i A) (dg all i pend) (cv (fB (eh (cD all.toArray i A)) O L).1 o.dst (.d (.v undef))) (fB (eh (cD all.toArray i A)) O L).2):cV E N K all Q ((i,o,.one)::l) A pend O L:=λZ s LB pb hs hh hpi=>
 ⟨hp.ok hs hh hpi,yn λzs hz=>by
  obtain⟨Z1,hl1,hs1,hh1⟩:=cV.YY hs hh hnd hz;exact⟨hd,.inr ⟨lB hs1 hw,cV.up hl1 (k Z1 _ _ _ (hs1.bm o.dst rfl) hh1 ((hpi.mono hl1).keep i))⟩⟩⟩
theorem cV.pw {R:DR->Hp->Prop} (hp:aJ E N all pend O L) (hnd:fW ((eh (cD all.toArray i A)).map (·.1))=true) (hd:cP N o.dst=true) {O1:TS} {L1:Hp} (cU:fB (eh (cD all.toArray i A)) O L=(O1,L1)) (hw:cZ all o O1=some true) (h:b5 E N o O1 L1 R)
  (k1:∀x L',R (.ret x) L'->cV E N K all Q l (cO all.toArray i A) (dg all i pend) (cv O1 o.dst x) L')
  (k2:∀x L',R (.aT x) L'->Q (.aT x) .lf L'):cV E N K all Q ((i,o,.one)::l) A pend O L:=λZ s LB pb hs hh hpi=>by
 refine⟨hp.ok hs hh hpi,yn λzs hz=>?_⟩;obtain⟨Z1,hl1,hs1,hh1⟩:=cV.YY hs hh hnd hz;rw[cU]at hs1 hh1;refine⟨hd,.inl ⟨lB hs1 hw,_,h Z1 _ _ hs1 hh1,?_,?_⟩⟩
 ·rintro y LB' ⟨Z',d,L',hl,hi,hh',hR⟩;cases d with
  |ret x=>
   obtain⟨y',e,hi⟩:=hi;cases e;exact cV.up (hl1.trans hl) (k1 x L' hR Z' _ LB' _ ((hs1.mono hl).bm o.dst hi) hh' ((hpi.mono (hl1.trans hl)).keep i))
  |aT x=>obtain⟨y',e,_⟩:=hi;cases e
 ·rintro y LB' ⟨Z',d,L',hl,hi,hh',hR⟩;cases d with
  |ret x=>obtain⟨y',e,_⟩:=hi;cases e
  |aT x=>
   obtain⟨y',e,hi⟩:=hi;cases e;exact⟨Z',.aT x,.lf,L',(hl1.trans hl).toK K,⟨y,rfl,hi⟩,Kv _,hh',k2 x L' hR⟩
theorem cV.pair {j:Nat} {o':Oper} {x:TK} {L1 L2 L3:Hp} (hp:aJ E N all pend O L) (hd:o.dst=none) (hd':o'.dst=none) (hw:cZ all o O=some true) (hw':cZ all o' O=some true)
  (h1:b5 E N o O L (λr L'=>r= .ret (.d (.v undef))/\L'=L1)) (p1:aJ E N all (dg all i pend) O L1) (h2:b5 E N o' O L1 (λr L'=>r= .ret (.d (.v undef))/\L'=L3))
  (h3:b5 E N o' O L (λr L'=>r= .ret (.d (.v undef))/\L'=L2)) (p2:aJ E N all (dg all j pend) O L2) (h4:b5 E N o O L2 (λr L'=>r= .ret (.d (.v undef))/\L'=L3))
  (k:cV E N K all Q l A (dg all j (dg all i pend)) O L3):cV E N K all Q ((i,o,.two)::(j,o',x)::l) A pend O L:=λZ s LB pb hs hh hpi=>by
 have go:∀{oa ob:Oper} {ia:Nat} {La:Hp},oa.dst=none->ob.dst=none->cZ all oa O=some true->cZ all ob O=some true->b5 E N oa O L (λr L'=>r= .ret (.d (.v undef))/\L'=La)->aJ E N all (dg all ia pend) O La->
   b5 E N ob O La (λr L'=>r= .ret (.d (.v undef))/\L'=L3)->
   gZ E.toCx N all.toArray oa s LB (λs1 L1=>mc E.toCx N all.toArray (du all.toArray ia pb) s1 L1/\gZ E.toCx N all.toArray ob s1 L1 (kC E.toCx N all.toArray (Cy K Z Q) (tj K Z Q) l A (du all.toArray j (du all.toArray i pb))) (tj K Z Q)) (tj K Z Q):=by
  intro oa ob ia La da db wa wb ha pa hb;refine⟨by rw[da];rfl,.inl ⟨lB hs wa,_,ha Z s LB hs hh,?_,?_⟩⟩
  ·rintro y LB' ⟨Z',d,L',hl,hi,hh',rfl,rfl⟩;rw[da];refine⟨pa.ok (hs.mono hl) hh' ((hpi.mono hl).keep ia),by rw[db];rfl,.inl ⟨lB hs wb,_,hb Z' s LB' (hs.mono hl) hh',?_,?_⟩⟩
   ·rintro y' LB2 ⟨Z2,d2,L2',hl2,hi2,hh2,rfl,rfl⟩;rw[db];exact cV.up (hl.trans hl2) (k Z2 s LB2 _ (hs.mono (hl.trans hl2)) hh2 (((hpi.mono (hl.trans hl2)).keep i).keep j))
   ·rintro y' LB2 ⟨Z2,d2,L2',hl2,hi2,hh2,rfl,rfl⟩;obtain⟨_,e,_⟩:=hi2;cases e
  ·rintro y LB' ⟨Z',d,L',hl,hi,hh',rfl,rfl⟩;obtain⟨_,e,_⟩:=hi;cases e
 exact⟨hp.ok hs hh hpi,go hd hd' hw hw' h1 p1 h2,go hd' hd hw' hw h3 p2 h4⟩
end
theorem eP.nil {A:b6} {tl:List (Nat×Oper×TK)} {W:List (Nat×List CV)} (hnd:fW (W.map (·.1))=true) (k:cV E N K all Q tl A [] (Ai A (fB W O L).1) (fB W O L).2):eP E N K all tl A Q L [] O W:=λZ s LB WB hs hh hn=>by
 refine⟨ee s O.keys,λt x hx=>(lC hx).2,?_⟩;have hs':SS Z O (look (ee s O.keys)):=λt x hx=>by
  obtain⟨y,h1,h2⟩:=hs t x hx;exact⟨y,by rw[tB (Tr.mem_keys hx)];exact h1,h2⟩
 refine yn λzs hz=>?_;obtain⟨Z',h1,h2,h3⟩:=IU (zs:=zs) hs' hh (by rw[hz];exact hn) hnd;refine cV.up h1 (k Z' _ _ [] (λt x hx=>?_) h3 rfl);obtain⟨g1,g2⟩:=PN hx;obtain⟨y,g3,g4⟩:=h2 t x g2;refine⟨y,?_,g4⟩;unfold sM;have:(A.map (·.2.1)).contains t=false:=by
  cases hc:(A.map (·.2.1)).contains t with
  |false=>rfl
  |true=>exact absurd (tu.1 hc) g1
 rw[this];exact g3
theorem DC.open {id:Nat} {l:List Oper} (pre:List Nat) (tl:List (Nat×TK)) (al:List Nat) (A:b6) (hm:E.P.follows .mixedOrders=true) (hA:oy E.T l.toArray N al=some A) (hB:qd l.toArray pre tl al=true) (hl:Nat.beq (gT l.toArray pre).length pre.length=true) (h:eP E N K l (kU l.toArray tl) A Q L (gT l.toArray pre) O []):
  DC E N K (.region id l.toArray true) Q O L:=λZ σB LB hs hh=>
 cm.aeW pre tl al A hm hA hB (bQ hl) (Iw (λ_ ⟨O',h1,h2⟩=>⟨O',h1,h2⟩) (h Z _ LB [] hs hh rfl))
end
def lr (E:Env) (fs:List (Nat×List AV×AV)):Prop:=∀f∈fs,Pure E.toCx f.1 f.2.1 (.ret f.2.2)
inductive It where
 |code (c:Code)
 |fR (id:Nat)
 |ops (all rest:List Oper)
 |lex (all:List Oper) (tl:List (Nat×Oper×TK)) (A:b6) (pre:List Oper) (W:List (Nat×List CV))
 |tl (all:List Oper) (l:List (Nat×Oper×TK)) (A:b6) (pend:List (Nat×Oper×CV)) (fs:List (Nat×List AV×AV))
 |lp (next:TS->Hp->Prop)
 |oD (m:Nat) (c:Code)
 |fr (N K:Nat) (O:TS) (dst:Option Nat) (rs:List ResultVar)
 |ct (N K:Nat) (O:TS) (dst:Option Nat) (rs:List ResultVar) (ty:TypeId) (z:AV)
def nY:AV->Bool
 | .agg [.v (.int _ _),.v (.int _ _)]=>true
 |_=>false
def dq (E:Env):Nat->Nat->List It->DQ->DQ
 |_,_,[],Q=>Q
 |N,K,.code c::k,Q=>λe O L=>match e with
  | .norm=>DC E N K c (dq E N K k Q) O L
  | .exit i=>dq E N K k Q (.exit i) O L
  | .ret=>dq E N K k Q .ret O L
  | .aT x=>dq E N K k Q (.aT x) O L
 |N,K,.fR id::k,Q=>λe O L=>match e with
  | .norm=>dq E N K k Q .norm O L
  | .exit i=>match Nat.beq i id with
   |true=>dq E N K k Q .norm O L
   |false=>dq E N K k Q (.exit i) O L
  | .ret=>dq E N K k Q .ret O L
  | .aT x=>dq E N K k Q (.aT x) O L
 |N,K,.ops all rest::k,Q=>λe O L=>match e with
  | .norm=>DO E N K all rest (dq E N K k Q) O L
  | .exit i=>dq E N K k Q (.exit i) O L
  | .ret=>dq E N K k Q .ret O L
  | .aT x=>dq E N K k Q (.aT x) O L
 |N,K,.lex all tl A pre W::k,Q=>λe O L=>match e with
  | .norm=>eP E N K all tl A (dq E N K k Q) L pre O W
  | .exit i=>dq E N K k Q (.exit i) O L
  | .ret=>dq E N K k Q .ret O L
  | .aT x=>dq E N K k Q (.aT x) O L
 |N,K,.tl all l A pend fs::k,Q=>λe O L=>match e with
  | .norm=>lr E fs->cV E N K all (dq E N K k Q) l A pend O L
  | .exit i=>dq E N K k Q (.exit i) O L
  | .ret=>dq E N K k Q .ret O L
  | .aT x=>dq E N K k Q (.aT x) O L
 |N,K,.lp next::k,Q=>λe O L=>match e with
  | .norm=>next O L
  | .exit i=>dq E N K k Q (.exit i) O L
  | .ret=>dq E N K k Q .ret O L
  | .aT x=>dq E N K k Q (.aT x) O L
 |N,K,.oD m c::k,Q=>λe O L=>match e with
  | .norm=>pU E N K c (dq E N K k Q) m O L
  | .exit i=>dq E N K k Q (.exit i) O L
  | .ret=>dq E N K k Q .ret O L
  | .aT x=>dq E N K k Q (.aT x) O L
 |_,_,.fr N' K' O' dst rs::k,Q=>λe O L=>match e with
  | .norm=>∃xs,eX E.T O L rs=some xs/\dq E N' K' k Q .norm (cv O' dst (fY xs)) L
  | .ret=>∃xs,eX E.T O L rs=some xs/\dq E N' K' k Q .norm (cv O' dst (fY xs)) L
  | .exit _=>False
  | .aT x=>dq E N' K' k Q (.aT x) .lf L
 |_,_,.ct N' K' O' dst rs ty z::k,Q=>λe O L=>match e with
  | .norm=>∃xs,eX E.T O L rs=some xs/\dq E N' K' k Q .norm (cv O' dst (.d z)) L
  | .ret=>∃xs,eX E.T O L rs=some xs/\dq E N' K' k Q .norm (cv O' dst (.d z)) L
  | .exit _=>False
  | .aT x=>∃y,(x= .bP ty (.d y)\/x= .d (.bP ty y))/\nY y=true/\dq E N' K' k Q .norm (cv O' dst (.d y)) L
def ao (E:Env) (N K:Nat) (todo:List It) (Q:DQ) (O:TS) (L:Hp):Prop:=dq E N K todo Q .norm O L
section
variable {E:Env} {N K:Nat} {Q:DQ} {O:TS} {L:Hp} {k:List It}
theorem aeT (b:Code):DE.then (DC E N K b (dq E N K k Q)) (dq E N K k Q)=dq E N K (.code b::k) Q:=by funext e O L;cases e<;>rfl
theorem af9 (i:Nat):DE.inBlock i (dq E N K k Q)=dq E N K (.fR i::k) Q:=by funext e O L;cases e<;>rfl
theorem agM (next:TS->Hp->Prop):DE.then next (dq E N K k Q)=dq E N K (.lp next::k) Q:=by funext e O L;cases e<;>rfl
theorem UR (m:Nat) (c:Code):DE.then (pU E N K c (dq E N K k Q) m) (dq E N K k Q)=dq E N K (.oD m c::k) Q:=by funext e O L;cases e<;>rfl
def lM (id:Nat):List It->Option (List It)
 |[]=>none
 | .fR i::k=>match Nat.beq id i with
  |true=>some k
  |false=>lM id k
 | .code _::k=>lM id k
 | .ops _ _::k=>lM id k
 | .lex _ _ _ _ _::k=>lM id k
 | .tl _ _ _ _ _::k=>lM id k
 | .lp _::k=>lM id k
 | .oD _ _::k=>lM id k
 | .fr _ _ _ _ _::_=>none
 | .ct _ _ _ _ _ _ _::_=>none
theorem pT {id:Nat}:∀{k k':List It},lM id k=some k'->dq E N K k Q (.exit id)=dq E N K k' Q .norm
 |[],_,h=>by simp[lM]at h
 | .code _::k,k',h=>by funext O L;simp only[dq];rw[pT (k:=k) h]
 | .ops _ _::k,k',h=>by funext O L;simp only[dq];rw[pT (k:=k) h]
 | .lex _ _ _ _ _::k,k',h=>by funext O L;simp only[dq];rw[pT (k:=k) h]
 | .tl _ _ _ _ _::k,k',h=>by funext O L;simp only[dq];rw[pT (k:=k) h]
 | .lp _::k,k',h=>by funext O L;simp only[dq];rw[pT (k:=k) h]
 | .oD _ _::k,k',h=>by funext O L;simp only[dq];rw[pT (k:=k) h]
 | .fr _ _ _ _ _::_,_,h=>by simp[lM]at h
 | .ct _ _ _ _ _ _ _::_,_,h=>by simp[lM]at h
 | .fR i::k,k',h=>by
  funext O L;simp only[lM]at h;simp only[dq];cases hb:Nat.beq id i with
  |true=>rw[hb]at h;simp only[aE]at h;subst h;rfl
  |false=>rw[hb]at h;simp only;rw[pT (k:=k) h]
def oh:List It->List It
 |[]=>[]
 | .fr N K O dst rs::k=> .fr N K O dst rs::k
 | .ct N K O dst rs ty z::k=> .ct N K O dst rs ty z::k
 |_::k=>oh k
theorem nZ:∀(k:List It),dq E N K k Q .ret=dq E N K (oh k) Q .ret
 |[]=>rfl
 | .code _::k=>by funext O L;simp only[dq,oh];rw[nZ k]
 | .fR _::k=>by funext O L;simp only[dq,oh];rw[nZ k]
 | .ops _ _::k=>by funext O L;simp only[dq,oh];rw[nZ k]
 | .lex _ _ _ _ _::k=>by funext O L;simp only[dq,oh];rw[nZ k]
 | .tl _ _ _ _ _::k=>by funext O L;simp only[dq,oh];rw[nZ k]
 | .lp _::k=>by funext O L;simp only[dq,oh];rw[nZ k]
 | .oD _ _::k=>by funext O L;simp only[dq,oh];rw[nZ k]
 | .fr _ _ _ _ _::_=>rfl
 | .ct _ _ _ _ _ _ _::_=>rfl
def kW:List It->Option (Nat×Nat×TS×Option Nat×TypeId×List It)
 |[]=>none
 | .ct N K O dst _ ty _::k=>some (N,K,O,dst,ty,k)
 |_::k=>kW k
theorem mS {x:CV}:∀(k:List It) (N K:Nat) (O:TS),kW k=none->(Q (.aT x) .lf L->dq E N K k Q (.aT x) .lf L)
 |[],_,_,_,_,h=>h
 | .code _::k,N,K,O,hp,h=>mS k N K O hp h
 | .fR _::k,N,K,O,hp,h=>mS k N K O hp h
 | .ops _ _::k,N,K,O,hp,h=>mS k N K O hp h
 | .lex _ _ _ _ _::k,N,K,O,hp,h=>mS k N K O hp h
 | .tl _ _ _ _ _::k,N,K,O,hp,h=>mS k N K O hp h
 | .lp _::k,N,K,O,hp,h=>mS k N K O hp h
 | .oD _ _::k,N,K,O,hp,h=>mS k N K O hp h
 | .fr N' K' _ _ _::k,_,_,O,hp,h=>mS k N' K' O hp h
 | .ct _ _ _ _ _ _ _::_,_,_,_,hp,_=>by simp[kW]at hp
theorem nQ {x:CV} {y:AV} {N' K' ty:Nat} {O':TS} {dst:Option Nat} {k':List It} (hx:x= .bP ty (.d y)\/x= .d (.bP ty y)) (hy:nY y=true):∀(k:List It) (N K:Nat),kW k=some (N',K',O',dst,ty,k')->(dq E N' K' k' Q .norm (cv O' dst (.d y)) L->dq E N K k Q (.aT x) .lf L)
 |[],_,_,hp,_=>by simp[kW]at hp
 | .code _::k,N,K,hp,h=>nQ hx hy k N K hp h
 | .fR _::k,N,K,hp,h=>nQ hx hy k N K hp h
 | .ops _ _::k,N,K,hp,h=>nQ hx hy k N K hp h
 | .lex _ _ _ _ _::k,N,K,hp,h=>nQ hx hy k N K hp h
 | .tl _ _ _ _ _::k,N,K,hp,h=>nQ hx hy k N K hp h
 | .lp _::k,N,K,hp,h=>nQ hx hy k N K hp h
 | .oD _ _::k,N,K,hp,h=>nQ hx hy k N K hp h
 | .fr N1 K1 _ _ _::k,_,_,hp,h=>nQ hx hy k N1 K1 hp h
 | .ct N1 K1 O1 dst1 rs1 ty1 z1::k,_,_,hp,h=>by
  simp only[kW,aE,cR]at hp;obtain⟨rfl,rfl,rfl,rfl,rfl,rfl⟩:=hp;exact⟨y,hx,hy,h⟩
def sF (E:Env) (f:FuncId) (ty:TypeId) (z:AV):Prop:=∀(g:FuncId) (fs cs:List AV) (L:List aq) (Q:AR->List aq->Prop),lN E.toCx g (fs++cs) L Q->(∀x L',Q (.aT x) L'->∃y,x= .bP ty y/\nY y=true)->
 lN E.toCx f [.fn g fs cs] L (λr L'=>(∃x,Q (.ret x) L'/\r= .ret z)\/∃x,Q (.aT (.bP ty x)) L'/\r= .ret x)
theorem Pb {Z:aN} {x:CV} {y:AV} {ty:Nat} {y0:AV} (hx:x= .bP ty (.d y0)\/x= .d (.bP ty y0)) (hi:aK Z x y):y= .bP ty y0:=by
 rcases hx with rfl|rfl
 ·simp only[aK]at hi;obtain⟨u,rfl,rfl⟩:=hi;rfl
 ·simp only[aK]at hi;exact hi
theorem gm.ct {f g:FuncId} {ty:TypeId} {z:AV} (hct:sF E f ty z) {fs cs:List CV} {Q':DR->Hp->Prop} (h:gm E g (fs++cs) L Q') (hp:∀x L',Q' (.aT x) L'->∃y,(x= .bP ty (.d y)\/x= .d (.bP ty y))/\nY y=true):
  gm E f [.fn g fs cs] L (λr L'=>(∃x,Q' (.ret x) L'/\r= .ret (.d z))\/∃x y,Q' (.aT x) L'/\(x= .bP ty (.d y)\/x= .d (.bP ty y))/\nY y=true/\r= .ret (.d y)):=λZ ys LB hi hh=>by
 simp only[aS,aK]at hi;obtain⟨y,r,rfl,⟨us,vs,rfl,h1,h2⟩,rfl⟩:=hi;refine(hct g us vs LB _ (h Z (us++vs) LB (h1.append h2) hh) ?_).mono ?_
 ·rintro x LB' ⟨Z',d,L1,g1,g2,g3,g4⟩;cases d with
  |ret x'=>obtain⟨y',e,_⟩:=g2;cases e
  |aT x'=>
   obtain⟨y',e,g2⟩:=g2;cases e;obtain⟨y0,q1,q2⟩:=hp _ _ g4;exact⟨y0,Pb q1 g2,q2⟩
 ·rintro r LB' (⟨x,⟨Z',d,L1,g1,g2,g3,g4⟩,rfl⟩|⟨x,⟨Z',d,L1,g1,g2,g3,g4⟩,rfl⟩)
  ·cases d with
   |ret x'=>exact⟨Z',.ret (.d z),L1,g1,⟨z,rfl,rfl⟩,g3,.inl ⟨x',g4,rfl⟩⟩
   |aT x'=>obtain⟨y',e,_⟩:=g2;cases e
  ·cases d with
   |ret x'=>obtain⟨y',e,_⟩:=g2;cases e
   |aT x'=>
    obtain⟨y',e,g2⟩:=g2;cases e;obtain⟨y0,q1,q2⟩:=hp _ _ g4;have:=Pb q1 g2;cases this;exact⟨Z',.ret (.d x),L1,g1,⟨x,rfl,rfl⟩,g3,.inr ⟨x',x,g4,q1,q2,rfl⟩⟩
def GR:CV->Option (FuncId×List CV×List CV)
 | .fn g fs cs=>some (g,fs,cs)
 | .d (.fn g fs cs)=>some (g,fs.map .d,cs.map .d)
 |_=>none
theorem adm {Z:aN} {x:CV} {g:FuncId} {fs cs:List CV} (h:GR x=some (g,fs,cs)) {y:AV} (hi:aK Z x y):aK Z (.fn g fs cs) y:=by
 unfold GR at h;split at h
 ·simp only[aE,cR]at h;obtain⟨rfl,rfl,rfl⟩:=h;exact hi
 ·simp only[aE,cR]at h;obtain⟨rfl,rfl,rfl⟩:=h;simp only[aK]at hi⊢;subst hi;exact⟨_,_,rfl,jv _,jv _⟩
 ·cases h
theorem ao.one {c:Code} (h:ao E N K [.code c] Q O L):DC E N K c Q O L:=h
theorem ao.loop {c:Code} (ts:List Nat) (m:Nat) (I:Nat->List (Nat×CV)->List bC->Prop) (n:Nat) (hK:K<=m) {l:List (Nat×CV)} {es:List bC} (hm:m<=L.n) (hp:fC m ts O=some l) (he:mf m L=some es) (h0:I n l es)
  (round:∀n l es,I n l es->ao E N K (.code c:: .lp (λO1 L1=>∃n',n'<n/\∃l' es',m<=L1.n/\fC m ts O1=some l'/\mf m L1=some es'/\I n' l' es')::k) Q (qV l) (jH es)):ao E N K (.code (.loop c)::k) Q O L:=
 DC.loop ts m I n hK hm hp he h0 λn l es hI=>by
  have:=round n l es hI;unfold ao at this;simp only[dq]at this;rw[agM];exact this
theorem ao.lp {next:TS->Hp->Prop} (h:next O L):ao E N K (.lp next::k) Q O L:=h
theorem ao.inl {dst:Option Nat} {f:Operand} {args:List Operand} {g:FuncId} {cs:List CV} {tys:Array TypeId} {ty:TypeId} {pos:String} {after:Array Edge} {fn:Func} {c:Code} {rs:List ResultVar} {nt:Nat} {all rest:List Oper}
  (hc:eI O f args=some (g,cs)) (hf:E.P.funcs[g]? =some fn) (hb:fn.body=some c) (hname:(fn.name== "runtime.NumGoroutine")=false) (hrs:fn.results=rs.toArray) (hnt:fn.ntmps=nt) (hn:Nat.ble cs.length nt=true) (hd:cP N dst=true)
  (h:ao E nt L.n (.code c:: .fr N K O dst rs:: .ops all rest::k) Q (jy 0 cs) L):ao E N K (.ops all (⟨dst,.call {callee:= .value f,args:=args.toArray,argTypes:=tys},ty,pos,after,none⟩::rest)::k) Q O L:=by
 show DO E N K all _ (dq E N K k Q) O L;refine DO.call (Q':=λr L'=>match r with
  | .ret x=>DO E N K all rest (dq E N K k Q) (cv O dst x) L'
  | .aT x=>dq E N K k Q (.aT x) .lf L') ?_ hc hd (λ_ _ h=>h) (λ_ _ h=>h)
 refine gm.enter hf hb hname rs hrs nt hnt hn (DC.mono h ?_);intro e O1 L1 h1;cases e with
 |norm=>exact h1
 |ret=>exact h1
 |exit i=>exact h1
 |aT x=>exact h1
theorem ao.ct {dst:Option Nat} {f:Operand} {args:List Operand} {f0 g:FuncId} {x:CV} {fs cs:List CV} {ty':TypeId} {z:AV} {tys:Array TypeId} {ty:TypeId} {pos:String} {after:Array Edge} {fn:Func} {c:Code} {rs:List ResultVar} {nt:Nat} {all rest:List Oper}
  (hct:sF E f0 ty' z) (hc:eI O f args=some (f0,[x])) (hx:GR x=some (g,fs,cs)) (hf:E.P.funcs[g]? =some fn) (hb:fn.body=some c) (hname:(fn.name== "runtime.NumGoroutine")=false) (hrs:fn.results=rs.toArray) (hnt:fn.ntmps=nt) (hn:Nat.ble (fs++cs).length nt=true) (hd:cP N dst=true)
  (h:ao E nt L.n (.code c:: .ct N K O dst rs ty' z:: .ops all rest::k) Q (jy 0 (fs++cs)) L):ao E N K (.ops all (⟨dst,.call {callee:= .value f,args:=args.toArray,argTypes:=tys},ty,pos,after,none⟩::rest)::k) Q O L:=by
 show DO E N K all _ (dq E N K k Q) O L;have key:gm E g (fs++cs) L (λr L'=>match r with
  | .ret _=>DO E N K all rest (dq E N K k Q) (cv O dst (.d z)) L'
  | .aT x=>∃y,(x= .bP ty' (.d y)\/x= .d (.bP ty' y))/\nY y=true/\DO E N K all rest (dq E N K k Q) (cv O dst (.d y)) L'):=by
  refine gm.enter hf hb hname rs hrs nt hnt hn (DC.mono h ?_);intro e O1 L1 h1;cases e with
  |norm=>exact h1
  |ret=>exact h1
  |exit i=>exact h1
  |aT x=>exact h1
 have key2:gm E f0 [x] L (λr L'=>match r with
  | .ret y=>DO E N K all rest (dq E N K k Q) (cv O dst y) L'
  | .aT _=>False):=λZ ys LB hi hh=>by
  have hi':aS Z [.fn g fs cs] ys:=by
   simp only[aS]at hi;obtain⟨y,r,rfl,h1,rfl⟩:=hi;have:=adm hx h1;simp only[aS];exact⟨y,[],rfl,this,rfl⟩
  refine(gm.ct hct key (λx L' hx=>?_) Z ys LB hi' hh).mono ?_
  ·obtain⟨y,h1,h2,_⟩:=hx;exact⟨y,h1,h2⟩
  ·rintro r LB' ⟨Z',d,L1,g1,g2,g3,(⟨x,g4,rfl⟩|⟨x,y,⟨y',q1,q2,q3⟩,q4,q5,rfl⟩)⟩
   ·exact⟨Z',_,L1,g1,g2,g3,g4⟩
   ·refine⟨Z',_,L1,g1,g2,g3,?_⟩;have:y=y':=by
     rcases q1 with rfl|rfl<;>rcases q4 with e|e<;>cases e<;>rfl
    subst this;exact q3
 exact DO.call key2 hc hd (λ_ _ h=>h) (λ_ _ h=>h.elim)
theorem ao.gW {o:Oper} {i:Nat} {f:Operand} {args:List Operand} {g:FuncId} {cs:List CV} {tys:Array TypeId} {fn:Func} {c:Code} {rs:List ResultVar} {nt:Nat} {all:List Oper} {l:List (Nat×Oper×TK)} {A:b6} {pend:List (Nat×Oper×CV)} {fs:List (Nat×List AV×AV)} {O1:TS} {L1:Hp} (ho:o.op= .call {callee:= .value f,args:=args.toArray,argTypes:=tys})
  (hp:lr E fs->aJ E N all pend O L) (hnd':fW ((eh (cD all.toArray i A)).map (·.1))=true) (cU:fB (eh (cD all.toArray i A)) O L=(O1,L1)) (hw:cZ all o O1=some true) (hc:eI O1 f args=some (g,cs)) (hf:E.P.funcs[g]? =some fn) (hb:fn.body=some c) (hname:(fn.name== "runtime.NumGoroutine")=false) (hrs:fn.results=rs.toArray) (hnt:fn.ntmps=nt) (hn:Nat.ble cs.length nt=true) (hd:cP N o.dst=true)
  (h:ao E nt L1.n (.code c:: .fr N K O1 o.dst rs:: .tl all l (cO all.toArray i A) (dg all i pend) fs::k) Q (jy 0 cs) L1):ao E N K (.tl all ((i,o,.one)::l) A pend fs::k) Q O L:=by
 show lr E fs->cV E N K all (dq E N K k Q) _ A pend O L;intro hfs;refine cV.pw (R:=λr L'=>match r with
  | .ret x=>lr E fs->cV E N K all (dq E N K k Q) l (cO all.toArray i A) (dg all i pend) (cv O1 o.dst x) L'
  | .aT x=>dq E N K k Q (.aT x) .lf L') (hp hfs) hnd' hd cU hw (b5.call ho ?_ hc) (λ_ _ h=>h hfs) (λ_ _ h=>h)
 refine gm.enter hf hb hname rs hrs nt hnt hn (DC.mono h ?_);intro e O1 L1 h1;cases e with
 |norm=>exact h1
 |ret=>exact h1
 |exit i=>exact h1
 |aT x=>exact h1
