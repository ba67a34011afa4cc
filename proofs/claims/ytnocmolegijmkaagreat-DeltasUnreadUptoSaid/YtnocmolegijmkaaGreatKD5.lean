/- The abstract machine, fifth part: what is still to be done, as a list; regions whose order is open; panics. -/
import Derived.Test.YtnocmolegijmkaaGreatKB14
set_option linter.all false
noncomputable section
namespace Go.Bw
open Go
theorem bX.panic {C:Cx} {N:Nat} {Q:AQ} {O:Sg} {L:List aw} {ops:Array Oper} {rest:List Oper} {o:Oper} {p:Operand} {t:TypeId} {y:AV} (hg:o.guard=none) (ho:o.op= .panic p) (hp:ev (look O) p=some (.bJ t y)) (k:Q (.aS (.bJ t y)) [] L):
  bX C N ops (o::rest) Q O L:=λF w0 L0 a w hs hx=>by
 unfold wpList;rw[bf (by simp[Region.wanted,hg])];refine .inl ?_;have h1:=bC hs.sg hp;have h0:=h1;simp only[Rel]at h0;obtain⟨u,h0,_⟩:=h0;have hrun:(execOp a.eval o).run C.P w= .halt (.panic (.iface t u)) w:=by simp[execOp,ho,Instr.panic,h0]
 unfold Oper.wp;rw[hrun];rw[h0]at h1;exact⟨.aS (.bJ t y),[],L,k,⟨_,rfl,h1⟩,⟨⟨hs.sg.1,λt x hx=>by simp[AE.sl,look]at hx⟩,hs.hp,hs.df⟩,hx⟩
section
variable {E:Env} {N K:Nat} {Q:DQ} {O:TS} {L:Hp} {o:Oper} {x:CV} {all rest:List Oper}
theorem J8 {Z:aN} (s:Sl):SS Z .lf s:=λt x hx=>by simp[Tr.kY]at hx
theorem DO.panic {p:Operand} (hg:o.guard=none) (ho:o.op= .panic p) {t:TypeId} {y:CV} (hp:aX O p=some (.bJ t y)) (k:Q (.aS (.bJ t y)) .lf L):DO E N K all (o::rest) Q O L:=λZ OB LB hs hh=>by
 obtain⟨z,h1,h2⟩:=cg hs hp;have h3:=h2;simp only[aK]at h3;obtain⟨u,rfl,_⟩:=h3;exact bX.panic hg ho h1 ⟨Z,.aS (.bJ t y),.lf,L,.refl K Z,⟨_,rfl,h2⟩,J8 _,hh,k⟩
theorem DO.JE {p:Operand} (hg:o.guard=none) (ho:o.op= .panic p) {t:TypeId} {y:AV} (hp:aX O p=some (.d (.bJ t y))) (k:Q (.aS (.d (.bJ t y))) .lf L):DO E N K all (o::rest) Q O L:=λZ OB LB hs hh=>by
 obtain⟨z,h1,h2⟩:=cg hs hp;simp only[aK]at h2;subst h2;exact bX.panic hg ho h1 ⟨Z,.aS (.d (.bJ t y)),.lf,L,.refl K Z,⟨_,rfl,rfl⟩,J8 _,hh,k⟩
theorem DO.VV {j d e:Nat} {want t:Bool} {op:Op} {ty:TypeId} {pos:String} {after:Array Edge} {oj:Oper} (hj:nth all j=some oj) (hjd:oj.dst=some d) (ht:O.get d=some (.d (.v (.bool t))))
  (h1:t=want->DO E N K all (⟨some e,op,ty,pos,after,none⟩::rest) Q (Tr.put 24 O d (some (.d (.v (.bool want))))) L)
  (h2:t= !want->DO E N K all rest Q (Tr.put 24 (Tr.put 24 O d (some (.d (.v (.bool !want))))) e (some (.d (.v undef)))) L)
  (hd:Nat.blt e N=true):DO E N K all (⟨some e,op,ty,pos,after,some (j,want)⟩::rest) Q O L:=λZ OB LB hs hh=>by
 obtain⟨y,h3,h4⟩:=hs d _ ht;simp only[aK]at h4;subst h4;have hjB:(all.toArray[j]?).bind (·.dst)=some d:=by rw[cG]at hj;simp[hj,hjd]
 have hput:∀b,t=b->SS Z (Tr.put 24 O d (some (.d (.v (.bool b))))) (look ((d,.v (.bool b))::OB)):=λb hb=>by
  subst hb;exact hs.put (some d) (x:= .d (.v (.bool t))) (y:= .v (.bool t)) rfl
 exact bX.bL hjB h3 (λe=>h1 e Z _ LB (hput want e) hh) (λe'=>h2 e' Z _ LB ((hput _ e').put (some e) (x:= .d (.v undef)) (y:= .v undef) rfl) hh) hd
theorem DO.JD {j d e:Nat} {want:Bool} {op:Op} {ty:TypeId} {pos:String} {after:Array Edge} {oj:Oper} (hj:nth all j=some oj) (hjd:oj.dst=some d) (ht:O.get d=some (.d (.v undef)))
  (h2:DO E N K all rest Q (Tr.put 24 O e (some (.d (.v undef)))) L) (hd:Nat.blt e N=true):DO E N K all (⟨some e,op,ty,pos,after,some (j,want)⟩::rest) Q O L:=λZ OB LB hs hh=>by
 obtain⟨y,h3,h4⟩:=hs d _ ht;simp only[aK]at h4;subst h4;have hjB:(all.toArray[j]?).bind (·.dst)=some d:=by rw[cG]at hj;simp[hj,hjd]
 exact bX.JD hjB h3 (h2 Z _ LB (hs.put (some e) (x:= .d (.v undef)) (y:= .v undef) rfl) hh) hd
def fq (Z:aN):List (Nat×List CV)->Nu->Prop
 |[],ys=>ys=[]
 |x::xs,ys=>∃y r,ys=y::r/\y.1=x.1/\aR Z x.2 y.2/\fq Z xs r
theorem fq.append {Z:aN}:∀{xs xs':List (Nat×List CV)} {ys ys':Nu},fq Z xs ys->fq Z xs' ys'->fq Z (xs++xs') (ys++ys')
 |[],_,_,_,h,g=>by simp only[fq]at h;subst h;simpa using g
 |_::_,_,_,_,h,g=>by simp only[fq]at h;obtain⟨y,r,rfl,h1,h2,h⟩:=h;simp only[jR,fq];exact⟨y,_,rfl,h1,h2,fq.append h g⟩
theorem fq.mem {Z:aN}:∀{xs:List (Nat×List CV)} {ys:Nu},fq Z xs ys->∀p∈ys,∃q∈xs,q.1=p.1
 |[],_,h,p,hp=>by simp only[fq]at h;subst h;cases hp
 |x::_,_,h,p,hp=>by
  simp only[fq]at h;obtain⟨y,r,rfl,h1,_,h⟩:=h;rcases ck.1 hp with rfl|hp
  ·exact⟨x,by simp,h1.symm⟩
  ·obtain⟨q,h2,h3⟩:=fq.mem h p hp;exact⟨q,by simp[h2],h3⟩
def Cn (K:Nat) (Z:aN) (Q:DQ):Sl->List aw->Prop:=λs L'=>∃O1,(∀t x,look O1 t=some x->s t=some x)/\lift K Z Q .norm O1 L'
def sI (K:Nat) (Z:aN) (Q:DQ):AV->List aw->Prop:=λx L'=>lift K Z Q (.aS x) [] L'
def eI (E:Env) (N K:Nat) (all:List Oper) (tl:List (Nat×Oper×TK)) (A:bS) (Q:DQ) (L:Hp) (pre:List Oper) (O:TS) (W:List (Nat×List CV)):Prop:=
 ∀Z s LB WB,SS Z O s->HS Z L LB->fq Z W WB->sd E.toCx N LB all.toArray (λst=>∃O',(∀t x,look O' t=some x->st.1 t=some x)/\
  jj st.2 λzs=>kb E.toCx N all.toArray (Cn K Z Q) (sI K Z Q) tl A [] (se A (look (gL LB.length zs++O'))) (LB++dt zs)) pre (s,WB)
theorem SS.bj {Z:aN} {s:Sl} (hs:SS Z O s) (dst:Option Nat) {y:AV} (hx:aK Z x y):SS Z (cj O dst x) (bj s dst (some y)):=by
 cases dst with
 |none=>exact hs
 |some d=>
  intro t z hz;rcases Tr.fi 24 O d t (some x) z hz with⟨rfl,h1⟩|⟨hne,h1⟩
  ·cases h1;exact⟨y,by simp[Bw.bj],hx⟩
  ·obtain⟨u,h2,h3⟩:=hs t z h1;exact⟨u,by simp[Bw.bj,hne,h2],h3⟩
theorem SS.del {Z:aN} {s:Sl} (hs:SS Z O s) (d:Nat):SS Z (Tr.put 24 O d none) (Bw.bj s (some d) none):=by
 intro t z hz;rcases Tr.fi 24 O d t none z hz with⟨_,h1⟩|⟨hne,h1⟩
 ·cases h1
 ·obtain⟨u,h2,h3⟩:=hs t z h1;exact⟨u,by simp[Bw.bj,hne,h2],h3⟩
def cX (all:List Oper) (o:Oper) (O:TS):Option Bool:=match o.guard with
 |none=>some true
 |some (j,want)=>match(nth all j).bind (·.dst)with
  |none=>some false
  |some d=>match O.get d with
   |some (.d (.v (.bool b)))=>some (b==want)
   |some (.d (.v (.tuple _)))=>some false
   |_=>none
theorem kT {Z:aN} {s:Sl} (hs:SS Z O s) {b:Bool} (h:cX all o O=some b):kW all.toArray o s=some b:=by
 unfold cX at h;unfold kW;cases hg:o.guard with
 |none=>rw[hg]at h;exact h
 |some p=>
  obtain⟨j,want⟩:=p;rw[hg]at h;simp only at h⊢;have hj:(all.toArray[j]?).bind (·.dst)=(nth all j).bind (·.dst):=by rw[cG];simp
  rw[hj];cases hd:(nth all j).bind (·.dst)with
  |none=>rw[hd]at h;exact h
  |some d=>
   rw[hd]at h;simp only at h⊢;split at h
   ·rename_i q hq;obtain⟨y,h1,h2⟩:=hs d _ hq;simp only[aK]at h2;subst h2;simp only[h1];exact h
   ·rename_i q hq;obtain⟨y,h1,h2⟩:=hs d _ hq;simp only[aK]at h2;subst h2;simp only[h1];exact h
   ·cases h
def mx (o:Oper) (W:List (Nat×List CV)):Bool:=match o.dst with
 |none=>true
 |some d=>W.all λp=>!Nat.beq p.1 d
theorem H8 {Z:aN} {W:List (Nat×List CV)} {WB:Nu} (h:mx o W=true) (hn:fq Z W WB):fresh o WB:=by
 intro d hd p hp he;unfold mx at h;rw[hd]at h;simp only[fS,kn]at h;obtain⟨q,h1,h2⟩:=hn.mem p hp;have:=h q h1;rw[h2,he,Dr]at this;cases this
theorem eI.val {pre:List Oper} {A:bS} {tl:List (Nat×Oper×TK)} {W:List (Nat×List CV)} (hd:cK N o.dst=true) (hw:cX all o O=some true) (hf:mx o W=true) (h:bh E N o O L x) (k:eI E N K all tl A Q L pre (cj O o.dst x) W):
  eI E N K all tl A Q L (o::pre) O W:=λZ s LB WB hs hh hn=>by
 obtain⟨y,h1,h2⟩:=h Z s LB hs hh;exact⟨H8 hf hn,some y,[],⟨hd,.inl ⟨kT hs hw,.inl ⟨y,h2,rfl,rfl⟩⟩⟩,by simpa using k Z _ LB WB (hs.bj o.dst h1) hh hn⟩
theorem eI.skip {pre:List Oper} {A:bS} {tl:List (Nat×Oper×TK)} {W:List (Nat×List CV)} (hd:cK N o.dst=true) (hw:cX all o O=some false) (hf:mx o W=true) (k:eI E N K all tl A Q L pre (cj O o.dst (.d (.v undef))) W):
  eI E N K all tl A Q L (o::pre) O W:=λZ s LB WB hs hh hn=>by
 exact⟨H8 hf hn,some (.v undef),[],⟨hd,.inr ⟨kT hs hw,rfl,rfl⟩⟩,by simpa using k Z _ LB WB (hs.bj o.dst rfl) hh hn⟩
theorem eI.new {pre:List Oper} {A:bS} {tl:List (Nat×Oper×TK)} {W:List (Nat×List CV)} {d:Nat} {cells:List CV} (hdd:o.dst=some d) (hd:Nat.blt d N=true) (hw:cX all o O=some true) (hf:mx o W=true) (h:∀Z s LB,SS Z O s->HS Z L LB->∃cs,aR Z cells cs/\gl E.toCx N o s LB cs)
  (k:eI E N K all tl A Q L pre (Tr.put 24 O d none) (W++[(d,cells)])):eI E N K all tl A Q L (o::pre) O W:=λZ s LB WB hs hh hn=>by
 obtain⟨cs,h1,h2⟩:=h Z s LB hs hh;refine⟨H8 hf hn,none,[(d,cs)],⟨by rw[hdd];exact hd,.inl ⟨kT hs hw,.inr ⟨d,cs,hdd,h2,rfl,rfl⟩⟩⟩,?_⟩;rw[hdd];exact k Z _ LB _ (hs.del d) hh (hn.append (by simp only[fq];exact⟨_,_,rfl,rfl,h1,rfl⟩))
theorem bh.XN {cells:List AV} (h:∀Z s LB,SS Z O s->HS Z L LB->∃cs,aR Z (cells.map .d) cs/\gl E.toCx N o s LB cs):bh E N o O L (.d (.ip cells)):=λZ s LB hs hh=>by
 obtain⟨cs,h1,h2⟩:=h Z s LB hs hh;have:cs=cells:=by
  have:=pe (zs:=cells) (by
   have key:∀l:List AV,iG (l.map .d)=some l:=by
    intro l;induction l with
    |nil=>rfl
    |cons y l ih=>simp[iG,ih]
   exact key cells) h1
  exact this
 subst this;exact⟨_,rfl,h2.frozen⟩
theorem bh.lit {t:TypeId} {n:Nat} {parts:Array (Nat×Operand)} {e k sz by' sz' by'':Nat} {z z':List Value} {td':TD} {cells:List AV} (ho:o.op= .buildSlice t n parts)
  (ht:bc E.T t=some ⟨.slice e k,sz,by',z⟩) (hte:bc E.T e=some ⟨td',sz',by'',z'⟩) (hf:fp k (dK O) (iH n (z'.map .v)) parts.toList=some cells) (hb:Nat.ble (n*k) 16777216=true) (hk:Nat.ble 1 k=true):
  bh E N o O L (.d (.sl k (chunk n k cells))):=λ_ _ _ hs _=>⟨_,rfl,(bZ.lit ho ht hte hf hb hk).mono λ_ _ _ hy=>lb hs hy⟩
theorem eI.guard {pre:List Oper} {A:bS} {tl:List (Nat×Oper×TK)} {W:List (Nat×List CV)} {d:Nat} {b:Bool} (hb:O.get d=some (.d (.v (.bool b)))) (h1:b=true->eI E N K all tl A Q L pre (Tr.put 24 O d (some (.d (.v (.bool true))))) W)
  (h2:b=false->eI E N K all tl A Q L pre (Tr.put 24 O d (some (.d (.v (.bool false))))) W):eI E N K all tl A Q L pre O W:=λZ s LB WB hs hh hn=>by
 have key:SS Z (Tr.put 24 O d (some (.d (.v (.bool b))))) s:=λt z hz=>by
  rcases Tr.fi 24 O d t _ z hz with⟨rfl,h3⟩|⟨_,h3⟩
  ·cases h3;exact hs _ _ hb
  ·exact hs t z h3
 cases b with
 |true=>exact h1 rfl Z s LB WB key hh hn
 |false=>exact h2 rfl Z s LB WB key hh hn
def Tr.keys {D:Type}:Tr D->List Nat
 | .lf=>[]
 | .nd _ l r=>0::(l.keys.map (2* ·+1)++r.keys.map (2* ·+2))
theorem Tr.mem_keys {D:Type}:∀{t:Tr D} {n:Nat} {x:D},t.get n=some x->n∈t.keys
 | .lf,_,_,h=>by simp[Tr.kY]at h
 | .nd y l r,n,x,h=>by
  simp only[Tr.pP,mn,mo]at h;simp only[Tr.keys,ck,bU,dy];cases h0:Nat.beq n 0 with
  |true=>exact .inl (bK h0)
  |false=>
   rw[h0]at h;have h0:=iB h0;simp only at h;cases h1:Nat.beq (Nat.mod n 2) 1 with
   |true=>
    rw[h1]at h;have h1:=bK h1;change n%2=1 at h1;exact .inr (.inl ⟨_,Tr.mem_keys h,by change 2*(n/2)+1=n;omega⟩)
   |false=>
    rw[h1]at h;have h1:=iB h1;change ¬n%2=1 at h1;exact .inr (.inr ⟨_,Tr.mem_keys h,by change 2*(n/2-1)+2=n;omega⟩)
def fm:List (Nat×List CV)->TS->Hp->TS×Hp
 |[],O,L=>(O,L)
 |(d,cs)::r,O,L=>fm r (Tr.put 24 O d (some (.own L.n 0))) (L.push (.box cs))
theorem Rs {d:Nat} {y:AV}:∀{l r:Sg},d∉l.map (·.1)->∀t,look ((d,y)::(l++r)) t=look (l++(d,y)::r) t
 |[],_,_,_=>rfl
 |(e,z)::l,r,hd,t=>by
  simp only[dj,ck,not_or]at hd;have ih:=Rs (y:=y) (r:=r) hd.2 t;simp only[jR,look]at ih⊢;cases h1:Nat.beq d t with
  |true=>
   rw[h1]at ih;have:Nat.beq e t=false:=by
    cases h2:Nat.beq e t with
    |false=>rfl
    |true=>exact absurd ((bK h1).trans (bK h2).symm) hd.1
   rw[this];exact ih
  |false=>
   rw[h1]at ih;cases h2:Nat.beq e t with
   |true=>rfl
   |false=>exact ih
theorem Rt:∀(zs:List ((Nat×List AV)×Nat)) (n:Nat),(gL n zs).map (·.1)=zs.map λz=>z.1.1
 |[],_=>rfl
 |z::zs,n=>by simp[gL,Rt zs (n+1)]
theorem Ix : ∀ {W : List (Nat × List CV)} {Z : aN} {O : TS} {L : Hp} {OB : Sg} {LB : List aw} {zs : List ((Nat × List AV) × Nat)}, SS Z O (look OB) → HS Z L LB → fq Z W (zs.map (·.1)) → fL (W.map (·.1)) = true →
    ∃ Z', Z.le Z' ∧ SS Z' (fm W O L).1 (look (gL LB.length zs ++ OB)) ∧ HS Z' (fm W O L).2 (LB ++ dt zs)
  | [], Z, O, L, OB, LB, zs, hs, hh, hn, _ => by
    simp only [fq, List.map_eq_nil_iff] at hn; subst hn
    exact ⟨Z, .refl Z, hs, by have h0 : LB ++ dt [] = LB := by simp [dt]
                              rw [h0]; exact hh⟩
  | (d, cs) :: W, Z, O, L, OB, LB, zs, hs, hh, hn, hnd => by
    simp only [fq] at hn
    obtain ⟨y, r, he, h1, h2, hn⟩ := hn
    match zs, he with
    | ((d', us), b) :: zs, he =>
      simp only [dj, jQ] at he
      obtain ⟨rfl, rfl⟩ := he
      simp only at h1 h2
      subst h1
      simp only [dj, fL, bN, kn] at hnd
      have hdom := hh.iJ L.n (bW _)
      have hl : Z.le (Z.gy L.n b) := aN.EL hdom.1
      have hbn : (Z.gy L.n b).b L.n = some b := by simp [aN.gy]
      have hs1 : SS (Z.gy L.n b) (Tr.put 24 O d' (some (.own L.n 0))) (look ((d', .own LB.length b 0) :: OB)) := (hs.mono hl).put (some d') (x := .own L.n 0) (by simp only [aK]; exact ⟨b, LB.length, hbn, rfl⟩)
      have hh1 : HS (Z.gy L.n b) (L.push (.box cs)) (LB ++ [.box b us]) := hh.push hl (fun _ _ => rfl) (fun i hi => by simp [aN.gy, hi]) ⟨b, us, hbn, rfl, h2.mono hl⟩
      have nmono : ∀ {W : List (Nat × List CV)} {ys : Nu}, fq Z W ys → fq (Z.gy L.n b) W ys := by
        intro W
        induction W with
        | nil => intro ys h; exact h
        | cons q W ih =>
          intro ys h
          simp only [fq] at h ⊢
          obtain ⟨y, r, e, g1, g2, g3⟩ := h
          exact ⟨y, r, e, g1, g2.mono hl, ih g3⟩
      obtain ⟨Z', h3, h4, h5⟩ := Ix (zs := zs) hs1 hh1 (nmono hn) hnd.2
      refine ⟨Z', hl.trans h3, ?_, ?_⟩
      · have hd : d' ∉ (gL (LB ++ [aw.box b us]).length zs).map (·.1) := by
          rw [Rt]
          intro hm
          obtain ⟨z, hz, he⟩ := dy.1 hm
          obtain ⟨q, g1, g2⟩ := hn.mem z.1 (dy.2 ⟨z, hz, rfl⟩)
          have : (W.map (·.1)).contains d' = true := by rw [sP]; exact dy.2 ⟨q, g1, by rw [g2, he]⟩
          rw [hnd.1] at this; cases this
        intro t x hx
        obtain ⟨u, g1, g2⟩ := h4 t x hx
        refine ⟨u, ?_, g2⟩
        have hlen : (LB ++ [aw.box b us]).length = LB.length + 1 := by simp
        rw [hlen] at g1 hd
        show look ((d', .own LB.length b 0) :: (gL (LB.length + 1) zs ++ OB)) t = some u
        rw [Rs hd]; exact g1
      · have : LB ++ dt (((d', us), b) :: zs) = (LB ++ [aw.box b us]) ++ dt zs := by simp [dt]
        rw [this]; exact h5
def ga (Z:aN):List (Nat×Oper×CV)->gM->Prop
 |[],ys=>ys=[]
 |x::xs,ys=>∃y r,ys=y::r/\y.1=x.1/\y.2.1=x.2.1/\aK Z x.2.2 y.2.2/\ga Z xs r
theorem ga.mono {Z Z':aN} (h:Z.le Z'):∀{xs:List (Nat×Oper×CV)} {ys:gM},ga Z xs ys->ga Z' xs ys
 |[],_,h1=>by simp only[ga]at h1⊢;exact h1
 |_::_,_,h1=>by simp only[ga]at h1⊢;obtain⟨y,r,e,h2,h3,h4,h5⟩:=h1;exact⟨y,r,e,h2,h3,h4.mono h,ga.mono h h5⟩
def de (all:List Oper) (j:Nat) (pend:List (Nat×Oper×CV)):List (Nat×Oper×CV):=pend.filter λp=>!eY all.toArray p.1 j
theorem ga.keep {Z:aN} (j:Nat):∀{xs:List (Nat×Oper×CV)} {ys:gM},ga Z xs ys->ga Z (de all j xs) (dp all.toArray j ys)
 |[],_,h1=>by simp only[ga]at h1;subst h1;rfl
 |x::xs,_,h1=>by
  simp only[ga]at h1;obtain⟨y,r,rfl,h2,h3,h4,h5⟩:=h1;have ih:=ga.keep j h5;simp only[de,dp,qD,h2]at ih⊢;cases eY all.toArray x.1 j with
  |true=>exact ih
  |false=>simp only[Dt,if_true,ga];exact⟨y,_,rfl,h2,h3,h4,ih⟩
theorem ga.mem {Z:aN}:∀{xs:List (Nat×Oper×CV)} {ys:gM},ga Z xs ys->∀p∈ys,∃q∈xs,p.1=q.1/\p.2.1=q.2.1/\aK Z q.2.2 p.2.2
 |[],_,h,p,hp=>by simp only[ga]at h;subst h;cases hp
 |x::_,_,h,p,hp=>by
  simp only[ga]at h;obtain⟨y,r,rfl,h1,h2,h3,h⟩:=h;rcases ck.1 hp with rfl|hp
  ·exact⟨x,by simp,h1,h2,h3⟩
  ·obtain⟨q,g1,g2⟩:=ga.mem h p hp;exact⟨q,by simp[g1],g2⟩
def Av (E:Env) (N:Nat) (all:List Oper) (o:Oper) (O:TS) (L:Hp) (x:CV):Prop:=(cX all o O=some true/\bh E N o O L x)\/(cX all o O=some false/\x= .d (.v undef))
def aI (E:Env) (N:Nat) (all:List Oper) (pend:List (Nat×Oper×CV)) (O:TS) (L:Hp):Prop:=∀p∈pend,Av E N all p.2.1 O L p.2.2
theorem Av.ok {Z:aN} {s:Sl} {LB:List aw} (hs:SS Z O s) (hh:HS Z L LB) (h:Av E N all o O L x):∃y,aK Z x y/\kL E.toCx N all.toArray o s LB y:=by
 rcases h with⟨h1,h2⟩|⟨h1,rfl⟩
 ·obtain⟨y,h3,h4⟩:=h2 Z s LB hs hh;exact⟨y,h3,.inl ⟨kT hs h1,h4⟩⟩
 ·exact⟨.v undef,rfl,.inr ⟨kT hs h1,rfl⟩⟩
theorem aI.ok {Z:aN} {s:Sl} {LB:List aw} {pend:List (Nat×Oper×CV)} {pb:gM} (hs:SS Z O s) (hh:HS Z L LB) (h:aI E N all pend O L) (hp:ga Z pend pb):lQ E.toCx N all.toArray pb s LB:=λp hpm=>by
 obtain⟨q,h1,h2,h3,h4⟩:=hp.mem p hpm;rw[h3];rcases h q h1 with⟨g1,g2⟩|⟨g1,g2⟩
 ·obtain⟨y,g3,g4⟩:=g2 Z s LB hs hh;exact .inl ⟨kT hs g1,bZ.same g3 h4 g4⟩
 ·rw[g2]at h4;simp only[aK]at h4;exact .inr ⟨kT hs g1,h4⟩
theorem SS.up {Z:aN} {s s':Sl} (h:SS Z O s) (hu:∀t x,s t=some x->s' t=some x):SS Z O s':=λt x hx=>by
 obtain⟨y,h1,h2⟩:=h t x hx;exact⟨y,hu t y h1,h2⟩
def dX (A:bS):List (Nat×List CV):=A.map λp=>(p.2.1,p.2.2.map .d)
def zK:bS->TS->TS
 |[],O=>O
 |p::A,O=>zK A (Tr.put 24 O p.2.1 none)
theorem QZ:∀{A:bS} {O:TS} {t:Nat} {x:CV},(zK A O).get t=some x->t∉A.map (·.2.1)/\O.get t=some x
 |[],_,_,_,h=>⟨by simp,h⟩
 |p::A,O,t,x,h=>by
  obtain⟨h1,h2⟩:=QZ (A:=A) h;rcases Tr.fi 24 O p.2.1 t none x h2 with⟨_,h3⟩|⟨h3,h4⟩
  ·cases h3
  ·exact⟨by simp only[dj,ck,not_or];exact⟨h3,h1⟩,h4⟩
theorem Sv {Z:aN}:∀A:bS,fq Z (dX A) (mO A)
 |[]=>rfl
 |p::A=>by
  simp only[dX,mO,dj,fq];exact⟨_,_,rfl,rfl,jb _,Sv A⟩
def cT (E:Env) (N K:Nat) (all:List Oper) (Q:DQ) (l:List (Nat×Oper×TK)) (A:bS) (pend:List (Nat×Oper×CV)) (O:TS) (L:Hp):Prop:=
 ∀Z s LB pb,SS Z O s->HS Z L LB->ga Z pend pb->kb E.toCx N all.toArray (Cn K Z Q) (sI K Z Q) l A pb s LB
theorem qQ {C:Cx} {ops:Array Oper} {Qn Qn':Sl->List aw->Prop} {Qp Qp':AV->List aw->Prop} (h1:∀s L,Qn s L->Qn' s L) (h2:∀x L,Qp x L->Qp' x L):∀{l:List (Nat×Oper×TK)} {A:bS} {pend:gM} {s:Sl} {L:List aw},
  kb C N ops Qn Qp l A pend s L->kb C N ops Qn' Qp' l A pend s L
 |[],_,_,_,_,h=>⟨h.1,h1 _ _ h.2⟩
 |(i,o,.fl)::r,_,_,_,_,h=>by
  obtain⟨g1,g2,y,g3⟩:=h;exact⟨g1,g2,y,g3.imp (λ⟨a,b⟩=>⟨a,qQ h1 h2 b⟩) λ⟨a,b⟩=>⟨a,qQ h1 h2 b⟩⟩
 |(i,o,.one)::r,_,_,_,_,h=>by
  obtain⟨g1,g2⟩:=h;exact⟨g1,Em g2 λzs _ ⟨b1,b2⟩=>⟨b1,b2.imp (λ⟨a1,R,a2,a3,a4⟩=>⟨a1,R,a2,λx L' hR=>qQ h1 h2 (a3 x L' hR),λx L' hR=>h2 _ _ (a4 x L' hR)⟩) λ⟨a1,a2⟩=>⟨a1,qQ h1 h2 a2⟩⟩⟩
 |[(_,_,.two)],_,_,_,_,h=>h
 |(i,o,.two)::(j,o',x)::r,_,_,_,_,h=>by
  obtain⟨g1,g2,g3⟩:=h;have up:∀{o:Oper} {s:Sl} {L:List aw} {nx nx':Sl->List aw->Prop},gN C N ops o s L nx Qp->(∀s L,nx s L->nx' s L)->gN C N ops o s L nx' Qp':=λh hn=>
   ⟨h.1,h.2.imp (λ⟨a1,R,a2,a3,a4⟩=>⟨a1,R,a2,λx L' hR=>hn _ _ (a3 x L' hR),λx L' hR=>h2 _ _ (a4 x L' hR)⟩) λ⟨a1,a2⟩=>⟨a1,hn _ _ a2⟩⟩
  exact⟨g1,up g2 λs1 L1 q=>⟨q.1,up q.2 λs2 L2 q=>qQ h1 h2 q⟩,up g3 λs1 L1 q=>⟨q.1,up q.2 λs2 L2 q=>qQ h1 h2 q⟩⟩
theorem cT.up {Z Z':aN} (hl:Z.le Z') {l:List (Nat×Oper×TK)} {A:bS} {pb:gM} {s:Sl} {LB:List aw} (h:kb E.toCx N all.toArray (Cn K Z' Q) (sI K Z' Q) l A pb s LB):kb E.toCx N all.toArray (Cn K Z Q) (sI K Z Q) l A pb s LB:=
 qQ (λ_ _ ⟨O1,h1,h2⟩=>⟨O1,h1,qP (hl.toK K) (λ_ _ _ h=>h) h2⟩) (λ_ _ h=>qP (hl.toK K) (λ_ _ _ h=>h) h) h
section
variable {l:List (Nat×Oper×TK)} {A:bS} {pend:List (Nat×Oper×CV)} {i:Nat}
theorem cT.nil (hp:aI E N all pend O L) (h:Q .norm O L):cT E N K all Q [] A pend O L:=λZ s LB pb hs hh hpi=>by
 refine⟨hp.ok hs hh hpi,dV s O.keys,λt x hx=>(kU hx).2,tj (d:= .norm) rfl (λt x hx=>?_) hh h⟩;obtain⟨y,h1,h2⟩:=hs t x hx;exact⟨y,by rw[sR (Tr.mem_keys hx)];exact h1,h2⟩
theorem cT.fl (hp:aI E N all pend O L) (hd:cK N o.dst=true) (hv:Av E N all o O L x) (k:cT E N K all Q l A ((i,o,x)::pend) (cj O o.dst x) L):cT E N K all Q ((i,o,.fl)::l) A pend O L:=λZ s LB pb hs hh hpi=>by
 obtain⟨y,h1,h2⟩:=hv.ok hs hh;exact⟨hp.ok hs hh hpi,hd,y,.inl ⟨h2,k Z _ LB _ (hs.bj o.dst h1) hh (by simp only[ga];exact⟨_,_,rfl,rfl,rfl,h1,hpi⟩)⟩⟩
def bA (E:Env) (N:Nat) (o:Oper) (O:TS) (x:CV):Prop:=∀Z s LB,SS Z O s->∃y,aK Z x y/\bZ E.toCx N o s LB y
theorem cT.st (hp:aI E N all pend O L) (hd:cK N o.dst=true) (hv:(cX all o O=some true/\bA E N o O x)\/(cX all o O=some false/\x= .d (.v undef))) (k:cT E N K all Q l A pend (cj O o.dst x) L):cT E N K all Q ((i,o,.fl)::l) A pend O L:=λZ s LB pb hs hh hpi=>by
 rcases hv with⟨hw,hv⟩|⟨hw,rfl⟩
 ·obtain⟨y,h1,_⟩:=hv Z s [] hs;refine⟨hp.ok hs hh hpi,hd,y,.inr ⟨λL'=> .inl ⟨kT hs hw,?_⟩,k Z _ LB _ (hs.bj o.dst h1) hh hpi⟩⟩;obtain⟨y',g1,g2⟩:=hv Z s L' hs;exact bZ.same g1 h1 g2
 ·exact⟨hp.ok hs hh hpi,hd,.v undef,.inr ⟨λL'=> .inr ⟨kT hs hw,rfl⟩,k Z _ LB _ (hs.bj o.dst rfl) hh hpi⟩⟩
theorem cT.Z3 {Z:aN} {s:Sl} {LB:List aw} {M:bS} (hs:SS Z O s) (hh:HS Z L LB) (hnd:fL ((dX M).map (·.1))=true) {zs:List ((Nat×List AV)×Nat)} (hz:zs.map (·.1)=mO M):
  ∃Z',Z.le Z'/\SS Z' (fm (dX M) O L).1 (gW LB.length zs s)/\HS Z' (fm (dX M) O L).2 (LB++dt zs):=by
 have hs':SS Z O (look (dV s O.keys)):=λt x hx=>by
  obtain⟨y,h1,h2⟩:=hs t x hx;exact⟨y,by rw[sR (Tr.mem_keys hx)];exact h1,h2⟩
 obtain⟨Z',h1,h2,h3⟩:=Ix (zs:=zs) hs' hh (by rw[hz];exact Sv M) hnd;refine⟨Z',h1,h2.up λt x hx=>?_,h3⟩;simp only[gW];cases hl:look (gL LB.length zs) t with
 |some y=>
  have happ:∀(l r:Sg) (y:AV),look l t=some y->look (l++r) t=some y:=by
   intro l r
   induction l with
   |nil=>intro y h;simp[look]at h
   |cons p l ih=>
    intro y h;obtain⟨k,v⟩:=p;simp only[jR,look]at h⊢;split
    ·rename_i hb;rw[hb]at h;exact h
    ·rename_i hb;rw[hb]at h;exact ih y h
  rw[happ _ _ y hl]at hx;exact hx
 |none=>
  have happ:∀(l r:Sg),look l t=none->look (l++r) t=look r t:=by
   intro l r
   induction l with
   |nil=>intro _;rfl
   |cons p l ih=>
    intro h;obtain⟨k,v⟩:=p;simp only[jR,look]at h⊢;split
    ·rename_i hb;rw[hb]at h;cases h
    ·rename_i hb;rw[hb]at h;exact ih h
  rw[happ _ _ hl]at hx;exact(kU hx).2
theorem cT.skip (hp:aI E N all pend O L) (hnd:fL ((dX (cw all.toArray i A)).map (·.1))=true) (hd:cK N o.dst=true) (hw:cX all o (fm (dX (cw all.toArray i A)) O L).1=some false)
  (k:cT E N K all Q l (cJ all.toArray i A) (de all i pend) (cj (fm (dX (cw all.toArray i A)) O L).1 o.dst (.d (.v undef))) (fm (dX (cw all.toArray i A)) O L).2):cT E N K all Q ((i,o,.one)::l) A pend O L:=λZ s LB pb hs hh hpi=>
 ⟨hp.ok hs hh hpi,xK λzs hz=>by
  obtain⟨Z1,hl1,hs1,hh1⟩:=cT.Z3 hs hh hnd hz;exact⟨hd,.inr ⟨kT hs1 hw,cT.up hl1 (k Z1 _ _ _ (hs1.bj o.dst rfl) hh1 ((hpi.mono hl1).keep i))⟩⟩⟩
theorem cT.oS {R:DR->Hp->Prop} (hp:aI E N all pend O L) (hnd:fL ((dX (cw all.toArray i A)).map (·.1))=true) (hd:cK N o.dst=true) {O1:TS} {L1:Hp} (cR:fm (dX (cw all.toArray i A)) O L=(O1,L1)) (hw:cX all o O1=some true) (h:bR E N o O1 L1 R)
  (k1:∀x L',R (.ret x) L'->cT E N K all Q l (cJ all.toArray i A) (de all i pend) (cj O1 o.dst x) L')
  (k2:∀x L',R (.aS x) L'->Q (.aS x) .lf L'):cT E N K all Q ((i,o,.one)::l) A pend O L:=λZ s LB pb hs hh hpi=>by
 refine⟨hp.ok hs hh hpi,xK λzs hz=>?_⟩;obtain⟨Z1,hl1,hs1,hh1⟩:=cT.Z3 hs hh hnd hz;rw[cR]at hs1 hh1;refine⟨hd,.inl ⟨kT hs1 hw,_,h Z1 _ _ hs1 hh1,?_,?_⟩⟩
 ·rintro y LB' ⟨Z',d,L',hl,hi,hh',hR⟩;cases d with
  |ret x=>
   obtain⟨y',e,hi⟩:=hi;cases e;exact cT.up (hl1.trans hl) (k1 x L' hR Z' _ LB' _ ((hs1.mono hl).bj o.dst hi) hh' ((hpi.mono (hl1.trans hl)).keep i))
  |aS x=>obtain⟨y',e,_⟩:=hi;cases e
 ·rintro y LB' ⟨Z',d,L',hl,hi,hh',hR⟩;cases d with
  |ret x=>obtain⟨y',e,_⟩:=hi;cases e
  |aS x=>
   obtain⟨y',e,hi⟩:=hi;cases e;exact⟨Z',.aS x,.lf,L',(hl1.trans hl).toK K,⟨y,rfl,hi⟩,J8 _,hh',k2 x L' hR⟩
theorem cT.pair {j:Nat} {o':Oper} {x:TK} {L1 L2 L3:Hp} (hp:aI E N all pend O L) (hd:o.dst=none) (hd':o'.dst=none) (hw:cX all o O=some true) (hw':cX all o' O=some true)
  (h1:bR E N o O L (λr L'=>r= .ret (.d (.v undef))/\L'=L1)) (p1:aI E N all (de all i pend) O L1) (h2:bR E N o' O L1 (λr L'=>r= .ret (.d (.v undef))/\L'=L3))
  (h3:bR E N o' O L (λr L'=>r= .ret (.d (.v undef))/\L'=L2)) (p2:aI E N all (de all j pend) O L2) (h4:bR E N o O L2 (λr L'=>r= .ret (.d (.v undef))/\L'=L3))
  (k:cT E N K all Q l A (de all j (de all i pend)) O L3):cT E N K all Q ((i,o,.two)::(j,o',x)::l) A pend O L:=λZ s LB pb hs hh hpi=>by
 have go:∀{oa ob:Oper} {ia:Nat} {La:Hp},oa.dst=none->ob.dst=none->cX all oa O=some true->cX all ob O=some true->bR E N oa O L (λr L'=>r= .ret (.d (.v undef))/\L'=La)->aI E N all (de all ia pend) O La->
   bR E N ob O La (λr L'=>r= .ret (.d (.v undef))/\L'=L3)->
   gN E.toCx N all.toArray oa s LB (λs1 L1=>lQ E.toCx N all.toArray (dp all.toArray ia pb) s1 L1/\gN E.toCx N all.toArray ob s1 L1 (kb E.toCx N all.toArray (Cn K Z Q) (sI K Z Q) l A (dp all.toArray j (dp all.toArray i pb))) (sI K Z Q)) (sI K Z Q):=by
  intro oa ob ia La da db wa wb ha pa hb;refine⟨by rw[da];rfl,.inl ⟨kT hs wa,_,ha Z s LB hs hh,?_,?_⟩⟩
  ·rintro y LB' ⟨Z',d,L',hl,hi,hh',rfl,rfl⟩;rw[da];refine⟨pa.ok (hs.mono hl) hh' ((hpi.mono hl).keep ia),by rw[db];rfl,.inl ⟨kT hs wb,_,hb Z' s LB' (hs.mono hl) hh',?_,?_⟩⟩
   ·rintro y' LB2 ⟨Z2,d2,L2',hl2,hi2,hh2,rfl,rfl⟩;rw[db];exact cT.up (hl.trans hl2) (k Z2 s LB2 _ (hs.mono (hl.trans hl2)) hh2 (((hpi.mono (hl.trans hl2)).keep i).keep j))
   ·rintro y' LB2 ⟨Z2,d2,L2',hl2,hi2,hh2,rfl,rfl⟩;obtain⟨_,e,_⟩:=hi2;cases e
  ·rintro y LB' ⟨Z',d,L',hl,hi,hh',rfl,rfl⟩;obtain⟨_,e,_⟩:=hi;cases e
 exact⟨hp.ok hs hh hpi,go hd hd' hw hw' h1 p1 h2,go hd' hd hw' hw h3 p2 h4⟩
end
theorem eI.nil {A:bS} {tl:List (Nat×Oper×TK)} {W:List (Nat×List CV)} (hnd:fL (W.map (·.1))=true) (k:cT E N K all Q tl A [] (zK A (fm W O L).1) (fm W O L).2):eI E N K all tl A Q L [] O W:=λZ s LB WB hs hh hn=>by
 refine⟨dV s O.keys,λt x hx=>(kU hx).2,?_⟩;have hs':SS Z O (look (dV s O.keys)):=λt x hx=>by
  obtain⟨y,h1,h2⟩:=hs t x hx;exact⟨y,by rw[sR (Tr.mem_keys hx)];exact h1,h2⟩
 refine xK λzs hz=>?_;obtain⟨Z',h1,h2,h3⟩:=Ix (zs:=zs) hs' hh (by rw[hz];exact hn) hnd;refine cT.up h1 (k Z' _ _ [] (λt x hx=>?_) h3 rfl);obtain⟨g1,g2⟩:=QZ hx;obtain⟨y,g3,g4⟩:=h2 t x g2;refine⟨y,?_,g4⟩;unfold se;have:(A.map (·.2.1)).contains t=false:=by
  cases hc:(A.map (·.2.1)).contains t with
  |false=>rfl
  |true=>exact absurd (sP.1 hc) g1
 rw[this];exact g3
theorem DC.open {id:Nat} {l:List Oper} (pre:List Nat) (tl:List (Nat×TK)) (al:List Nat) (A:bS) (hm:E.P.follows .mixedOrders=true) (hA:nN E.T l.toArray N al=some A) (hB:pO l.toArray pre tl al=true) (hl:Nat.beq (gI l.toArray pre).length pre.length=true) (h:eI E N K l (kz l.toArray tl) A Q L (gI l.toArray pre) O []):
  DC E N K (.region id l.toArray true) Q O L:=λZ OB LB hs hh=>
 b7.ae4 pre tl al A hm hA hB (bK hl) (H9 (λ_ ⟨O',h1,h2⟩=>⟨O',h1,h2⟩) (h Z _ LB [] hs hh rfl))
end
def kK (E:Env) (fs:List (Nat×List AV×AV)):Prop:=∀f∈fs,Pure E.toCx f.1 f.2.1 (.ret f.2.2)
inductive It where
 |code (c:Code)
 |fF (id:Nat)
 |ops (all rest:List Oper)
 |lex (all:List Oper) (tl:List (Nat×Oper×TK)) (A:bS) (pre:List Oper) (W:List (Nat×List CV))
 |tl (all:List Oper) (l:List (Nat×Oper×TK)) (A:bS) (pend:List (Nat×Oper×CV)) (fs:List (Nat×List AV×AV))
 |lp (next:TS->Hp->Prop)
 |nR (m:Nat) (c:Code)
 |fr (N K:Nat) (O:TS) (dst:Option Nat) (rs:List ResultVar)
 |ct (N K:Nat) (O:TS) (dst:Option Nat) (rs:List ResultVar) (ty:TypeId) (z:AV)
def nB:AV->Bool
 | .agg [.v (.int _ _),.v (.int _ _)]=>true
 |_=>false
def dq (E:Env):Nat->Nat->List It->DQ->DQ
 |_,_,[],Q=>Q
 |N,K,.code c::k,Q=>λe O L=>match e with
  | .norm=>DC E N K c (dq E N K k Q) O L
  | .exit i=>dq E N K k Q (.exit i) O L
  | .ret=>dq E N K k Q .ret O L
  | .aS x=>dq E N K k Q (.aS x) O L
 |N,K,.fF id::k,Q=>λe O L=>match e with
  | .norm=>dq E N K k Q .norm O L
  | .exit i=>match Nat.beq i id with
   |true=>dq E N K k Q .norm O L
   |false=>dq E N K k Q (.exit i) O L
  | .ret=>dq E N K k Q .ret O L
  | .aS x=>dq E N K k Q (.aS x) O L
 |N,K,.ops all rest::k,Q=>λe O L=>match e with
  | .norm=>DO E N K all rest (dq E N K k Q) O L
  | .exit i=>dq E N K k Q (.exit i) O L
  | .ret=>dq E N K k Q .ret O L
  | .aS x=>dq E N K k Q (.aS x) O L
 |N,K,.lex all tl A pre W::k,Q=>λe O L=>match e with
  | .norm=>eI E N K all tl A (dq E N K k Q) L pre O W
  | .exit i=>dq E N K k Q (.exit i) O L
  | .ret=>dq E N K k Q .ret O L
  | .aS x=>dq E N K k Q (.aS x) O L
 |N,K,.tl all l A pend fs::k,Q=>λe O L=>match e with
  | .norm=>kK E fs->cT E N K all (dq E N K k Q) l A pend O L
  | .exit i=>dq E N K k Q (.exit i) O L
  | .ret=>dq E N K k Q .ret O L
  | .aS x=>dq E N K k Q (.aS x) O L
 |N,K,.lp next::k,Q=>λe O L=>match e with
  | .norm=>next O L
  | .exit i=>dq E N K k Q (.exit i) O L
  | .ret=>dq E N K k Q .ret O L
  | .aS x=>dq E N K k Q (.aS x) O L
 |N,K,.nR m c::k,Q=>λe O L=>match e with
  | .norm=>pw E N K c (dq E N K k Q) m O L
  | .exit i=>dq E N K k Q (.exit i) O L
  | .ret=>dq E N K k Q .ret O L
  | .aS x=>dq E N K k Q (.aS x) O L
 |_,_,.fr N' K' O' dst rs::k,Q=>λe O L=>match e with
  | .norm=>∃xs,eP E.T O L rs=some xs/\dq E N' K' k Q .norm (cj O' dst (fN xs)) L
  | .ret=>∃xs,eP E.T O L rs=some xs/\dq E N' K' k Q .norm (cj O' dst (fN xs)) L
  | .exit _=>False
  | .aS x=>dq E N' K' k Q (.aS x) .lf L
 |_,_,.ct N' K' O' dst rs ty z::k,Q=>λe O L=>match e with
  | .norm=>∃xs,eP E.T O L rs=some xs/\dq E N' K' k Q .norm (cj O' dst (.d z)) L
  | .ret=>∃xs,eP E.T O L rs=some xs/\dq E N' K' k Q .norm (cj O' dst (.d z)) L
  | .exit _=>False
  | .aS x=>∃y,(x= .bJ ty (.d y)\/x= .d (.bJ ty y))/\nB y=true/\dq E N' K' k Q .norm (cj O' dst (.d y)) L
def au (E:Env) (N K:Nat) (todo:List It) (Q:DQ) (O:TS) (L:Hp):Prop:=dq E N K todo Q .norm O L
section
variable {E:Env} {N K:Nat} {Q:DQ} {O:TS} {L:Hp} {k:List It}
theorem ae1 (b:Code):DE.then (DC E N K b (dq E N K k Q)) (dq E N K k Q)=dq E N K (.code b::k) Q:=by funext e O L;cases e<;>rfl
theorem age (i:Nat):DE.inBlock i (dq E N K k Q)=dq E N K (.fF i::k) Q:=by funext e O L;cases e<;>rfl
theorem ag0 (next:TS->Hp->Prop):DE.then next (dq E N K k Q)=dq E N K (.lp next::k) Q:=by funext e O L;cases e<;>rfl
theorem VW (m:Nat) (c:Code):DE.then (pw E N K c (dq E N K k Q) m) (dq E N K k Q)=dq E N K (.nR m c::k) Q:=by funext e O L;cases e<;>rfl
def lg (id:Nat):List It->Option (List It)
 |[]=>none
 | .fF i::k=>match Nat.beq id i with
  |true=>some k
  |false=>lg id k
 | .code _::k=>lg id k
 | .ops _ _::k=>lg id k
 | .lex _ _ _ _ _::k=>lg id k
 | .tl _ _ _ _ _::k=>lg id k
 | .lp _::k=>lg id k
 | .nR _ _::k=>lg id k
 | .fr _ _ _ _ _::_=>none
 | .ct _ _ _ _ _ _ _::_=>none
theorem pv {id:Nat}:∀{k k':List It},lg id k=some k'->dq E N K k Q (.exit id)=dq E N K k' Q .norm
 |[],_,h=>by simp[lg]at h
 | .code _::k,k',h=>by funext O L;simp only[dq];rw[pv (k:=k) h]
 | .ops _ _::k,k',h=>by funext O L;simp only[dq];rw[pv (k:=k) h]
 | .lex _ _ _ _ _::k,k',h=>by funext O L;simp only[dq];rw[pv (k:=k) h]
 | .tl _ _ _ _ _::k,k',h=>by funext O L;simp only[dq];rw[pv (k:=k) h]
 | .lp _::k,k',h=>by funext O L;simp only[dq];rw[pv (k:=k) h]
 | .nR _ _::k,k',h=>by funext O L;simp only[dq];rw[pv (k:=k) h]
 | .fr _ _ _ _ _::_,_,h=>by simp[lg]at h
 | .ct _ _ _ _ _ _ _::_,_,h=>by simp[lg]at h
 | .fF i::k,k',h=>by
  funext O L;simp only[lg]at h;simp only[dq];cases hb:Nat.beq id i with
  |true=>rw[hb]at h;simp only[aD]at h;subst h;rfl
  |false=>rw[hb]at h;simp only;rw[pv (k:=k) h]
def nG:List It->List It
 |[]=>[]
 | .fr N K O dst rs::k=> .fr N K O dst rs::k
 | .ct N K O dst rs ty z::k=> .ct N K O dst rs ty z::k
 |_::k=>nG k
theorem nC:∀(k:List It),dq E N K k Q .ret=dq E N K (nG k) Q .ret
 |[]=>rfl
 | .code _::k=>by funext O L;simp only[dq,nG];rw[nC k]
 | .fF _::k=>by funext O L;simp only[dq,nG];rw[nC k]
 | .ops _ _::k=>by funext O L;simp only[dq,nG];rw[nC k]
 | .lex _ _ _ _ _::k=>by funext O L;simp only[dq,nG];rw[nC k]
 | .tl _ _ _ _ _::k=>by funext O L;simp only[dq,nG];rw[nC k]
 | .lp _::k=>by funext O L;simp only[dq,nG];rw[nC k]
 | .nR _ _::k=>by funext O L;simp only[dq,nG];rw[nC k]
 | .fr _ _ _ _ _::_=>rfl
 | .ct _ _ _ _ _ _ _::_=>rfl
def kA:List It->Option (Nat×Nat×TS×Option Nat×TypeId×List It)
 |[]=>none
 | .ct N K O dst _ ty _::k=>some (N,K,O,dst,ty,k)
 |_::k=>kA k
theorem mw {x:CV}:∀(k:List It) (N K:Nat) (O:TS),kA k=none->(Q (.aS x) .lf L->dq E N K k Q (.aS x) .lf L)
 |[],_,_,_,_,h=>h
 | .code _::k,N,K,O,hp,h=>mw k N K O hp h
 | .fF _::k,N,K,O,hp,h=>mw k N K O hp h
 | .ops _ _::k,N,K,O,hp,h=>mw k N K O hp h
 | .lex _ _ _ _ _::k,N,K,O,hp,h=>mw k N K O hp h
 | .tl _ _ _ _ _::k,N,K,O,hp,h=>mw k N K O hp h
 | .lp _::k,N,K,O,hp,h=>mw k N K O hp h
 | .nR _ _::k,N,K,O,hp,h=>mw k N K O hp h
 | .fr N' K' _ _ _::k,_,_,O,hp,h=>mw k N' K' O hp h
 | .ct _ _ _ _ _ _ _::_,_,_,_,hp,_=>by simp[kA]at hp
theorem nj {x:CV} {y:AV} {N' K' ty:Nat} {O':TS} {dst:Option Nat} {k':List It} (hx:x= .bJ ty (.d y)\/x= .d (.bJ ty y)) (hy:nB y=true):∀(k:List It) (N K:Nat),kA k=some (N',K',O',dst,ty,k')->(dq E N' K' k' Q .norm (cj O' dst (.d y)) L->dq E N K k Q (.aS x) .lf L)
 |[],_,_,hp,_=>by simp[kA]at hp
 | .code _::k,N,K,hp,h=>nj hx hy k N K hp h
 | .fF _::k,N,K,hp,h=>nj hx hy k N K hp h
 | .ops _ _::k,N,K,hp,h=>nj hx hy k N K hp h
 | .lex _ _ _ _ _::k,N,K,hp,h=>nj hx hy k N K hp h
 | .tl _ _ _ _ _::k,N,K,hp,h=>nj hx hy k N K hp h
 | .lp _::k,N,K,hp,h=>nj hx hy k N K hp h
 | .nR _ _::k,N,K,hp,h=>nj hx hy k N K hp h
 | .fr N1 K1 _ _ _::k,_,_,hp,h=>nj hx hy k N1 K1 hp h
 | .ct N1 K1 O1 dst1 rs1 ty1 z1::k,_,_,hp,h=>by
  simp only[kA,aD,cM]at hp;obtain⟨rfl,rfl,rfl,rfl,rfl,rfl⟩:=hp;exact⟨y,hx,hy,h⟩
def rZ (E:Env) (f:FuncId) (ty:TypeId) (z:AV):Prop:=∀(g:FuncId) (fs cs:List AV) (L:List aw) (Q:AR->List aw->Prop),lh E.toCx g (fs++cs) L Q->(∀x L',Q (.aS x) L'->∃y,x= .bJ ty y/\nB y=true)->
 lh E.toCx f [.fn g fs cs] L (λr L'=>(∃x,Q (.ret x) L'/\r= .ret z)\/∃x,Q (.aS (.bJ ty x)) L'/\r= .ret x)
theorem Qq {Z:aN} {x:CV} {y:AV} {ty:Nat} {y0:AV} (hx:x= .bJ ty (.d y0)\/x= .d (.bJ ty y0)) (hi:aK Z x y):y= .bJ ty y0:=by
 rcases hx with rfl|rfl
 ·simp only[aK]at hi;obtain⟨u,rfl,rfl⟩:=hi;rfl
 ·simp only[aK]at hi;exact hi
theorem fY.ct {f g:FuncId} {ty:TypeId} {z:AV} (hct:rZ E f ty z) {fs cs:List CV} {Q':DR->Hp->Prop} (h:fY E g (fs++cs) L Q') (hp:∀x L',Q' (.aS x) L'->∃y,(x= .bJ ty (.d y)\/x= .d (.bJ ty y))/\nB y=true):
  fY E f [.fn g fs cs] L (λr L'=>(∃x,Q' (.ret x) L'/\r= .ret (.d z))\/∃x y,Q' (.aS x) L'/\(x= .bJ ty (.d y)\/x= .d (.bJ ty y))/\nB y=true/\r= .ret (.d y)):=λZ ys LB hi hh=>by
 simp only[aR,aK]at hi;obtain⟨y,r,rfl,⟨us,vs,rfl,h1,h2⟩,rfl⟩:=hi;refine(hct g us vs LB _ (h Z (us++vs) LB (h1.append h2) hh) ?_).mono ?_
 ·rintro x LB' ⟨Z',d,L1,g1,g2,g3,g4⟩;cases d with
  |ret x'=>obtain⟨y',e,_⟩:=g2;cases e
  |aS x'=>
   obtain⟨y',e,g2⟩:=g2;cases e;obtain⟨y0,q1,q2⟩:=hp _ _ g4;exact⟨y0,Qq q1 g2,q2⟩
 ·rintro r LB' (⟨x,⟨Z',d,L1,g1,g2,g3,g4⟩,rfl⟩|⟨x,⟨Z',d,L1,g1,g2,g3,g4⟩,rfl⟩)
  ·cases d with
   |ret x'=>exact⟨Z',.ret (.d z),L1,g1,⟨z,rfl,rfl⟩,g3,.inl ⟨x',g4,rfl⟩⟩
   |aS x'=>obtain⟨y',e,_⟩:=g2;cases e
  ·cases d with
   |ret x'=>obtain⟨y',e,_⟩:=g2;cases e
   |aS x'=>
    obtain⟨y',e,g2⟩:=g2;cases e;obtain⟨y0,q1,q2⟩:=hp _ _ g4;have:=Qq q1 g2;cases this;exact⟨Z',.ret (.d x),L1,g1,⟨x,rfl,rfl⟩,g3,.inr ⟨x',x,g4,q1,q2,rfl⟩⟩
def GF:CV->Option (FuncId×List CV×List CV)
 | .fn g fs cs=>some (g,fs,cs)
 | .d (.fn g fs cs)=>some (g,fs.map .d,cs.map .d)
 |_=>none
theorem adr {Z:aN} {x:CV} {g:FuncId} {fs cs:List CV} (h:GF x=some (g,fs,cs)) {y:AV} (hi:aK Z x y):aK Z (.fn g fs cs) y:=by
 unfold GF at h;split at h
 ·simp only[aD,cM]at h;obtain⟨rfl,rfl,rfl⟩:=h;exact hi
 ·simp only[aD,cM]at h;obtain⟨rfl,rfl,rfl⟩:=h;simp only[aK]at hi⊢;subst hi;exact⟨_,_,rfl,jb _,jb _⟩
 ·cases h
theorem au.one {c:Code} (h:au E N K [.code c] Q O L):DC E N K c Q O L:=h
theorem au.loop {c:Code} (ts:List Nat) (m:Nat) (I:Nat->List (Nat×CV)->List bz->Prop) (n:Nat) (hK:K<=m) {l:List (Nat×CV)} {es:List bz} (hm:m<=L.n) (hp:fO m ts O=some l) (he:mH m L=some es) (h0:I n l es)
  (round:∀n l es,I n l es->au E N K (.code c:: .lp (λO1 L1=>∃n',n'<n/\∃l' es',m<=L1.n/\fO m ts O1=some l'/\mH m L1=some es'/\I n' l' es')::k) Q (qx l) (jq es)):au E N K (.code (.loop c)::k) Q O L:=
 DC.loop ts m I n hK hm hp he h0 λn l es hI=>by
  have:=round n l es hI;unfold au at this;simp only[dq]at this;rw[ag0];exact this
theorem au.lp {next:TS->Hp->Prop} (h:next O L):au E N K (.lp next::k) Q O L:=h
theorem au.inl {dst:Option Nat} {f:Operand} {args:List Operand} {g:FuncId} {cs:List CV} {tys:Array TypeId} {ty:TypeId} {pos:String} {after:Array Edge} {fn:Func} {c:Code} {rs:List ResultVar} {nt:Nat} {all rest:List Oper}
  (hc:ew O f args=some (g,cs)) (hf:E.P.funcs[g]? =some fn) (hb:fn.body=some c) (hname:(fn.name== "runtime.NumGoroutine")=false) (hrs:fn.results=rs.toArray) (hnt:fn.ntmps=nt) (hn:Nat.ble cs.length nt=true) (hd:cK N dst=true)
  (h:au E nt L.n (.code c:: .fr N K O dst rs:: .ops all rest::k) Q (jd 0 cs) L):au E N K (.ops all (⟨dst,.call {callee:= .value f,args:=args.toArray,argTypes:=tys},ty,pos,after,none⟩::rest)::k) Q O L:=by
 show DO E N K all _ (dq E N K k Q) O L;refine DO.call (Q':=λr L'=>match r with
  | .ret x=>DO E N K all rest (dq E N K k Q) (cj O dst x) L'
  | .aS x=>dq E N K k Q (.aS x) .lf L') ?_ hc hd (λ_ _ h=>h) (λ_ _ h=>h)
 refine fY.enter hf hb hname rs hrs nt hnt hn (DC.mono h ?_);intro e O1 L1 h1;cases e with
 |norm=>exact h1
 |ret=>exact h1
 |exit i=>exact h1
 |aS x=>exact h1
theorem au.ct {dst:Option Nat} {f:Operand} {args:List Operand} {f0 g:FuncId} {x:CV} {fs cs:List CV} {ty':TypeId} {z:AV} {tys:Array TypeId} {ty:TypeId} {pos:String} {after:Array Edge} {fn:Func} {c:Code} {rs:List ResultVar} {nt:Nat} {all rest:List Oper}
  (hct:rZ E f0 ty' z) (hc:ew O f args=some (f0,[x])) (hx:GF x=some (g,fs,cs)) (hf:E.P.funcs[g]? =some fn) (hb:fn.body=some c) (hname:(fn.name== "runtime.NumGoroutine")=false) (hrs:fn.results=rs.toArray) (hnt:fn.ntmps=nt) (hn:Nat.ble (fs++cs).length nt=true) (hd:cK N dst=true)
  (h:au E nt L.n (.code c:: .ct N K O dst rs ty' z:: .ops all rest::k) Q (jd 0 (fs++cs)) L):au E N K (.ops all (⟨dst,.call {callee:= .value f,args:=args.toArray,argTypes:=tys},ty,pos,after,none⟩::rest)::k) Q O L:=by
 show DO E N K all _ (dq E N K k Q) O L;have key:fY E g (fs++cs) L (λr L'=>match r with
  | .ret _=>DO E N K all rest (dq E N K k Q) (cj O dst (.d z)) L'
  | .aS x=>∃y,(x= .bJ ty' (.d y)\/x= .d (.bJ ty' y))/\nB y=true/\DO E N K all rest (dq E N K k Q) (cj O dst (.d y)) L'):=by
  refine fY.enter hf hb hname rs hrs nt hnt hn (DC.mono h ?_);intro e O1 L1 h1;cases e with
  |norm=>exact h1
  |ret=>exact h1
  |exit i=>exact h1
  |aS x=>exact h1
 have key2:fY E f0 [x] L (λr L'=>match r with
  | .ret y=>DO E N K all rest (dq E N K k Q) (cj O dst y) L'
  | .aS _=>False):=λZ ys LB hi hh=>by
  have hi':aR Z [.fn g fs cs] ys:=by
   simp only[aR]at hi;obtain⟨y,r,rfl,h1,rfl⟩:=hi;have:=adr hx h1;simp only[aR];exact⟨y,[],rfl,this,rfl⟩
  refine(fY.ct hct key (λx L' hx=>?_) Z ys LB hi' hh).mono ?_
  ·obtain⟨y,h1,h2,_⟩:=hx;exact⟨y,h1,h2⟩
  ·rintro r LB' ⟨Z',d,L1,g1,g2,g3,(⟨x,g4,rfl⟩|⟨x,y,⟨y',q1,q2,q3⟩,q4,q5,rfl⟩)⟩
   ·exact⟨Z',_,L1,g1,g2,g3,g4⟩
   ·refine⟨Z',_,L1,g1,g2,g3,?_⟩;have:y=y':=by
     rcases q1 with rfl|rfl<;>rcases q4 with e|e<;>cases e<;>rfl
    subst this;exact q3
 exact DO.call key2 hc hd (λ_ _ h=>h) (λ_ _ h=>h.elim)
theorem au.gK {o:Oper} {i:Nat} {f:Operand} {args:List Operand} {g:FuncId} {cs:List CV} {tys:Array TypeId} {fn:Func} {c:Code} {rs:List ResultVar} {nt:Nat} {all:List Oper} {l:List (Nat×Oper×TK)} {A:bS} {pend:List (Nat×Oper×CV)} {fs:List (Nat×List AV×AV)} {O1:TS} {L1:Hp} (ho:o.op= .call {callee:= .value f,args:=args.toArray,argTypes:=tys})
  (hp:kK E fs->aI E N all pend O L) (hnd':fL ((dX (cw all.toArray i A)).map (·.1))=true) (cR:fm (dX (cw all.toArray i A)) O L=(O1,L1)) (hw:cX all o O1=some true) (hc:ew O1 f args=some (g,cs)) (hf:E.P.funcs[g]? =some fn) (hb:fn.body=some c) (hname:(fn.name== "runtime.NumGoroutine")=false) (hrs:fn.results=rs.toArray) (hnt:fn.ntmps=nt) (hn:Nat.ble cs.length nt=true) (hd:cK N o.dst=true)
  (h:au E nt L1.n (.code c:: .fr N K O1 o.dst rs:: .tl all l (cJ all.toArray i A) (de all i pend) fs::k) Q (jd 0 cs) L1):au E N K (.tl all ((i,o,.one)::l) A pend fs::k) Q O L:=by
 show kK E fs->cT E N K all (dq E N K k Q) _ A pend O L;intro hfs;refine cT.oS (R:=λr L'=>match r with
  | .ret x=>kK E fs->cT E N K all (dq E N K k Q) l (cJ all.toArray i A) (de all i pend) (cj O1 o.dst x) L'
  | .aS x=>dq E N K k Q (.aS x) .lf L') (hp hfs) hnd' hd cR hw (bR.call ho ?_ hc) (λ_ _ h=>h hfs) (λ_ _ h=>h)
 refine fY.enter hf hb hname rs hrs nt hnt hn (DC.mono h ?_);intro e O1 L1 h1;cases e with
 |norm=>exact h1
 |ret=>exact h1
 |exit i=>exact h1
 |aS x=>exact h1
