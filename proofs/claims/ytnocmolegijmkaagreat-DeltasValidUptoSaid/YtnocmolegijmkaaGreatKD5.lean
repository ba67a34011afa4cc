/- The abstract machine, fifth part: what is still to be done, as a list; regions whose order is open; panics. -/
import Derived.Test.YtnocmolegijmkaaGreatKB14
set_option linter.all false
noncomputable section
namespace Go.Bw
open Go
theorem bE.panic {C:Cx} {N:Nat} {Q:AQ} {O:Sg} {L:List aj} {ops:Array Oper} {rest:List Oper} {o:Oper} {p:Operand} {t:TypeId} {y:AV} (hg:o.guard=none) (ho:o.op= .panic p) (hp:ev (look O) p=some (.bd t y)) (k:Q (.aJ (.bd t y)) [] L):
  bE C N ops (o::rest) Q O L:=λF w0 η0 a w hs hx=>by
 unfold wpList;rw[ck (by simp[Region.wanted,hg])];refine .inl ?_;have h1:=a8 hs.sg hp;have h0:=h1;simp only[Rel]at h0;obtain⟨u,h0,_⟩:=h0;have hrun:(execOp a.eval o).run C.P w= .halt (.panic (.iface t u)) w:=by simp[execOp,ho,Instr.panic,h0]
 unfold Oper.wp;rw[hrun];rw[h0]at h1;exact⟨.aJ (.bd t y),[],L,k,⟨_,rfl,h1⟩,⟨⟨hs.sg.1,λt x hx=>by simp[AE.sl,look]at hx⟩,hs.hp,hs.df⟩,hx⟩
section
variable {E:Env} {N K:Nat} {Q:DQ} {O:TS} {L:Hp} {o:Oper} {x:CV} {all rest:List Oper}
theorem CY {Z:aD} (s:Sl):SS Z .lf s:=λt x hx=>by simp[Tr.jE]at hx
theorem DO.panic {p:Operand} (hg:o.guard=none) (ho:o.op= .panic p) {t:TypeId} {y:CV} (hp:aO O p=some (.bd t y)) (k:Q (.aJ (.bd t y)) .lf L):DO E N K all (o::rest) Q O L:=λZ OB LB hs hh=>by
 obtain⟨z,h1,h2⟩:=bR hs hp;have h3:=h2;simp only[aC]at h3;obtain⟨u,rfl,_⟩:=h3;exact bE.panic hg ho h1 ⟨Z,.aJ (.bd t y),.lf,L,.refl K Z,⟨_,rfl,h2⟩,CY _,hh,k⟩
theorem DO.BN {p:Operand} (hg:o.guard=none) (ho:o.op= .panic p) {t:TypeId} {y:AV} (hp:aO O p=some (.d (.bd t y))) (k:Q (.aJ (.d (.bd t y))) .lf L):DO E N K all (o::rest) Q O L:=λZ OB LB hs hh=>by
 obtain⟨z,h1,h2⟩:=bR hs hp;simp only[aC]at h2;subst h2;exact bE.panic hg ho h1 ⟨Z,.aJ (.d (.bd t y)),.lf,L,.refl K Z,⟨_,rfl,rfl⟩,CY _,hh,k⟩
theorem DO.Jg {j d e:Nat} {want t:Bool} {op:Op} {ty:TypeId} {pos:String} {after:Array Edge} {oj:Oper} (hj:nth all j=some oj) (hjd:oj.dst=some d) (ht:O.get d=some (.d (.v (.bool t))))
  (h1:t=want->DO E N K all (⟨some e,op,ty,pos,after,none⟩::rest) Q (Tr.put 24 O d (some (.d (.v (.bool want))))) L)
  (h2:t= !want->DO E N K all rest Q (Tr.put 24 (Tr.put 24 O d (some (.d (.v (.bool !want))))) e (some (.d (.v undef)))) L)
  (hd:Nat.blt e N=true):DO E N K all (⟨some e,op,ty,pos,after,some (j,want)⟩::rest) Q O L:=λZ OB LB hs hh=>by
 obtain⟨y,h3,h4⟩:=hs d _ ht;simp only[aC]at h4;subst h4;have hjB:(all.toArray[j]?).bind (·.dst)=some d:=by rw[b7]at hj;simp[hj,hjd]
 have hput:∀b,t=b->SS Z (Tr.put 24 O d (some (.d (.v (.bool b))))) (look ((d,.v (.bool b))::OB)):=λb hb=>by
  subst hb;exact hs.put (some d) (x:= .d (.v (.bool t))) (y:= .v (.bool t)) rfl
 exact bE.cP hjB h3 (λe=>h1 e Z _ LB (hput want e) hh) (λe'=>h2 e' Z _ LB ((hput _ e').put (some e) (x:= .d (.v undef)) (y:= .v undef) rfl) hh) hd
theorem DO.BM {j d e:Nat} {want:Bool} {op:Op} {ty:TypeId} {pos:String} {after:Array Edge} {oj:Oper} (hj:nth all j=some oj) (hjd:oj.dst=some d) (ht:O.get d=some (.d (.v undef)))
  (h2:DO E N K all rest Q (Tr.put 24 O e (some (.d (.v undef)))) L) (hd:Nat.blt e N=true):DO E N K all (⟨some e,op,ty,pos,after,some (j,want)⟩::rest) Q O L:=λZ OB LB hs hh=>by
 obtain⟨y,h3,h4⟩:=hs d _ ht;simp only[aC]at h4;subst h4;have hjB:(all.toArray[j]?).bind (·.dst)=some d:=by rw[b7]at hj;simp[hj,hjd]
 exact bE.BM hjB h3 (h2 Z _ LB (hs.put (some e) (x:= .d (.v undef)) (y:= .v undef) rfl) hh) hd
def dZ (Z:aD):List (Nat×List CV)->Nu->Prop
 |[],ys=>ys=[]
 |x::xs,ys=>∃y r,ys=y::r/\y.1=x.1/\aI Z x.2 y.2/\dZ Z xs r
theorem dZ.append {Z:aD}:∀{xs xs':List (Nat×List CV)} {ys ys':Nu},dZ Z xs ys->dZ Z xs' ys'->dZ Z (xs++xs') (ys++ys')
 |[],_,_,_,h,g=>by simp only[dZ]at h;subst h;simpa using g
 |_::_,_,_,_,h,g=>by simp only[dZ]at h;obtain⟨y,r,rfl,h1,h2,h⟩:=h;simp only[iO,dZ];exact⟨y,_,rfl,h1,h2,dZ.append h g⟩
theorem dZ.mem {Z:aD}:∀{xs:List (Nat×List CV)} {ys:Nu},dZ Z xs ys->∀p∈ys,∃q∈xs,q.1=p.1
 |[],_,h,p,hp=>by simp only[dZ]at h;subst h;cases hp
 |x::_,_,h,p,hp=>by
  simp only[dZ]at h;obtain⟨y,r,rfl,h1,_,h⟩:=h;rcases cu.1 hp with rfl|hp
  ·exact⟨x,by simp,h1.symm⟩
  ·obtain⟨q,h2,h3⟩:=dZ.mem h p hp;exact⟨q,by simp[h2],h3⟩
def u0 (K:Nat) (Z:aD) (Q:DQ):Sl->List aj->Prop:=λs L'=>∃O1,(∀t x,look O1 t=some x->s t=some x)/\lift K Z Q .norm O1 L'
def pK (K:Nat) (Z:aD) (Q:DQ):AV->List aj->Prop:=λx L'=>lift K Z Q (.aJ x) [] L'
def dB (E:Env) (N K:Nat) (all:List Oper) (tl:List (Nat×Oper×TK)) (A:bp) (Q:DQ) (L:Hp) (pre:List Oper) (O:TS) (W:List (Nat×List CV)):Prop:=
 ∀Z s LB WB,SS Z O s->HS Z L LB->dZ Z W WB->pj E.toCx N LB all.toArray (λst=>∃O',(∀t x,look O' t=some x->st.1 t=some x)/\
  gB st.2 λzs=>iE E.toCx N all.toArray (u0 K Z Q) (pK K Z Q) tl A [] (pk A (look (fp LB.length zs++O'))) (LB++cA zs)) pre (s,WB)
theorem SS.aQ {Z:aD} {s:Sl} (hs:SS Z O s) (dst:Option Nat) {y:AV} (hx:aC Z x y):SS Z (bK O dst x) (aQ s dst (some y)):=by
 cases dst with
 |none=>exact hs
 |some d=>
  intro t z hz;rcases Tr.eu 24 O d t (some x) z hz with⟨rfl,h1⟩|⟨hne,h1⟩
  ·cases h1;exact⟨y,by simp[Bw.aQ],hx⟩
  ·obtain⟨u,h2,h3⟩:=hs t z h1;exact⟨u,by simp[Bw.aQ,hne,h2],h3⟩
theorem SS.del {Z:aD} {s:Sl} (hs:SS Z O s) (d:Nat):SS Z (Tr.put 24 O d none) (Bw.aQ s (some d) none):=by
 intro t z hz;rcases Tr.eu 24 O d t none z hz with⟨_,h1⟩|⟨hne,h1⟩
 ·cases h1
 ·obtain⟨u,h2,h3⟩:=hs t z h1;exact⟨u,by simp[Bw.aQ,hne,h2],h3⟩
def cv (all:List Oper) (o:Oper) (O:TS):Option Bool:=match o.guard with
 |none=>some true
 |some (j,want)=>match(nth all j).bind (·.dst)with
  |none=>some false
  |some d=>match O.get d with
   |some (.d (.v (.bool b)))=>some (b==want)
   |some (.d (.v (.tuple _)))=>some false
   |_=>none
theorem jy {Z:aD} {s:Sl} (hs:SS Z O s) {b:Bool} (h:cv all o O=some b):jB all.toArray o s=some b:=by
 unfold cv at h;unfold jB;cases hg:o.guard with
 |none=>rw[hg]at h;exact h
 |some p=>
  obtain⟨j,want⟩:=p;rw[hg]at h;simp only at h⊢;have hj:(all.toArray[j]?).bind (·.dst)=(nth all j).bind (·.dst):=by rw[b7];simp
  rw[hj];cases hd:(nth all j).bind (·.dst)with
  |none=>rw[hd]at h;exact h
  |some d=>
   rw[hd]at h;simp only at h⊢;split at h
   ·rename_i q hq;obtain⟨y,h1,h2⟩:=hs d _ hq;simp only[aC]at h2;subst h2;simp only[h1];exact h
   ·rename_i q hq;obtain⟨y,h1,h2⟩:=hs d _ hq;simp only[aC]at h2;subst h2;simp only[h1];exact h
   ·cases h
def kQ (o:Oper) (W:List (Nat×List CV)):Bool:=match o.dst with
 |none=>true
 |some d=>W.all λp=>!Nat.beq p.1 d
theorem AJ {Z:aD} {W:List (Nat×List CV)} {WB:Nu} (h:kQ o W=true) (hn:dZ Z W WB):fresh o WB:=by
 intro d hd p hp he;unfold kQ at h;rw[hd]at h;simp only[ju,lu]at h;obtain⟨q,h1,h2⟩:=hn.mem p hp;have:=h q h1;rw[h2,he,vv]at this;cases this
theorem dB.val {pre:List Oper} {A:bp} {tl:List (Nat×Oper×TK)} {W:List (Nat×List CV)} (hd:b8 N o.dst=true) (hw:cv all o O=some true) (hf:kQ o W=true) (h:aR E N o O L x) (k:dB E N K all tl A Q L pre (bK O o.dst x) W):
  dB E N K all tl A Q L (o::pre) O W:=λZ s LB WB hs hh hn=>by
 obtain⟨y,h1,h2⟩:=h Z s LB hs hh;exact⟨AJ hf hn,some y,[],⟨hd,.inl ⟨jy hs hw,.inl ⟨y,h2,rfl,rfl⟩⟩⟩,by simpa using k Z _ LB WB (hs.aQ o.dst h1) hh hn⟩
theorem dB.skip {pre:List Oper} {A:bp} {tl:List (Nat×Oper×TK)} {W:List (Nat×List CV)} (hd:b8 N o.dst=true) (hw:cv all o O=some false) (hf:kQ o W=true) (k:dB E N K all tl A Q L pre (bK O o.dst (.d (.v undef))) W):
  dB E N K all tl A Q L (o::pre) O W:=λZ s LB WB hs hh hn=>by
 exact⟨AJ hf hn,some (.v undef),[],⟨hd,.inr ⟨jy hs hw,rfl,rfl⟩⟩,by simpa using k Z _ LB WB (hs.aQ o.dst rfl) hh hn⟩
theorem dB.new {pre:List Oper} {A:bp} {tl:List (Nat×Oper×TK)} {W:List (Nat×List CV)} {d:Nat} {cells:List CV} (hdd:o.dst=some d) (hd:Nat.blt d N=true) (hw:cv all o O=some true) (hf:kQ o W=true) (h:∀Z s LB,SS Z O s->HS Z L LB->∃cs,aI Z cells cs/\eR E.toCx N o s LB cs)
  (k:dB E N K all tl A Q L pre (Tr.put 24 O d none) (W++[(d,cells)])):dB E N K all tl A Q L (o::pre) O W:=λZ s LB WB hs hh hn=>by
 obtain⟨cs,h1,h2⟩:=h Z s LB hs hh;refine⟨AJ hf hn,none,[(d,cs)],⟨by rw[hdd];exact hd,.inl ⟨jy hs hw,.inr ⟨d,cs,hdd,h2,rfl,rfl⟩⟩⟩,?_⟩;rw[hdd];exact k Z _ LB _ (hs.del d) hh (hn.append (by simp only[dZ];exact⟨_,_,rfl,rfl,h1,rfl⟩))
theorem aR.KN {cells:List AV} (h:∀Z s LB,SS Z O s->HS Z L LB->∃cs,aI Z (cells.map .d) cs/\eR E.toCx N o s LB cs):aR E N o O L (.d (.ip cells)):=λZ s LB hs hh=>by
 obtain⟨cs,h1,h2⟩:=h Z s LB hs hh;have:cs=cells:=by
  have:=mU (zs:=cells) (by
   have key:∀l:List AV,fM (l.map .d)=some l:=by
    intro l;induction l with
    |nil=>rfl
    |cons y l ih=>simp[fM,ih]
   exact key cells) h1
  exact this
 subst this;exact⟨_,rfl,h2.frozen⟩
theorem aR.lit {t:TypeId} {n:Nat} {parts:Array (Nat×Operand)} {e k sz by' sz' by'':Nat} {z z':List Value} {td':TD} {cells:List AV} (ho:o.op= .buildSlice t n parts)
  (ht:aP E.T t=some ⟨.slice e k,sz,by',z⟩) (hte:aP E.T e=some ⟨td',sz',by'',z'⟩) (hf:dY k (dE O) (fN n (z'.map .v)) parts.toList=some cells) (hb:Nat.ble (n*k) 16777216=true) (hk:Nat.ble 1 k=true):
  aR E N o O L (.d (.sl k (chunk n k cells))):=λ_ _ _ hs _=>⟨_,rfl,(bB.lit ho ht hte hf hb hk).mono λ_ _ _ hy=>jF hs hy⟩
theorem dB.guard {pre:List Oper} {A:bp} {tl:List (Nat×Oper×TK)} {W:List (Nat×List CV)} {d:Nat} {b:Bool} (hb:O.get d=some (.d (.v (.bool b)))) (h1:b=true->dB E N K all tl A Q L pre (Tr.put 24 O d (some (.d (.v (.bool true))))) W)
  (h2:b=false->dB E N K all tl A Q L pre (Tr.put 24 O d (some (.d (.v (.bool false))))) W):dB E N K all tl A Q L pre O W:=λZ s LB WB hs hh hn=>by
 have key:SS Z (Tr.put 24 O d (some (.d (.v (.bool b))))) s:=λt z hz=>by
  rcases Tr.eu 24 O d t _ z hz with⟨rfl,h3⟩|⟨_,h3⟩
  ·cases h3;exact hs _ _ hb
  ·exact hs t z h3
 cases b with
 |true=>exact h1 rfl Z s LB WB key hh hn
 |false=>exact h2 rfl Z s LB WB key hh hn
def Tr.keys {D:Type}:Tr D->List Nat
 | .lf=>[]
 | .nd _ l r=>0::(l.keys.map (2* ·+1)++r.keys.map (2* ·+2))
theorem Tr.mem_keys {D:Type}:∀{t:Tr D} {n:Nat} {x:D},t.get n=some x->n∈t.keys
 | .lf,_,_,h=>by simp[Tr.jE]at h
 | .nd y l r,n,x,h=>by
  simp only[Tr.ny,kM,kN]at h;simp only[Tr.keys,cu,cD,dk];cases h0:Nat.beq n 0 with
  |true=>exact .inl (bg h0)
  |false=>
   rw[h0]at h;have h0:=fG h0;simp only at h;cases h1:Nat.beq (Nat.mod n 2) 1 with
   |true=>
    rw[h1]at h;have h1:=bg h1;change n%2=1 at h1;exact .inr (.inl ⟨_,Tr.mem_keys h,by change 2*(n/2)+1=n;omega⟩)
   |false=>
    rw[h1]at h;have h1:=fG h1;change ¬n%2=1 at h1;exact .inr (.inr ⟨_,Tr.mem_keys h,by change 2*(n/2-1)+2=n;omega⟩)
def ei:List (Nat×List CV)->TS->Hp->TS×Hp
 |[],O,L=>(O,L)
 |(d,cs)::r,O,L=>ei r (Tr.put 24 O d (some (.own L.n 0))) (L.push (.box cs))
theorem GL {d:Nat} {y:AV}:∀{l r:Sg},d∉l.map (·.1)->∀t,look ((d,y)::(l++r)) t=look (l++(d,y)::r) t
 |[],_,_,_=>rfl
 |(e,z)::l,r,hd,t=>by
  simp only[dA,cu,not_or]at hd;have ih:=GL (y:=y) (r:=r) hd.2 t;simp only[iO,look]at ih⊢;cases h1:Nat.beq d t with
  |true=>
   rw[h1]at ih;have:Nat.beq e t=false:=by
    cases h2:Nat.beq e t with
    |false=>rfl
    |true=>exact absurd ((bg h1).trans (bg h2).symm) hd.1
   rw[this];exact ih
  |false=>
   rw[h1]at ih;cases h2:Nat.beq e t with
   |true=>rfl
   |false=>exact ih
theorem GM:∀(zs:List ((Nat×List AV)×Nat)) (n:Nat),(fp n zs).map (·.1)=zs.map λz=>z.1.1
 |[],_=>rfl
 |z::zs,n=>by simp[fp,GM zs (n+1)]
theorem A2 : ∀ {W : List (Nat × List CV)} {Z : aD} {O : TS} {L : Hp} {OB : Sg} {LB : List aj} {zs : List ((Nat × List AV) × Nat)}, SS Z O (look OB) → HS Z L LB → dZ Z W (zs.map (·.1)) → eH (W.map (·.1)) = true →
    ∃ Z', Z.le Z' ∧ SS Z' (ei W O L).1 (look (fp LB.length zs ++ OB)) ∧ HS Z' (ei W O L).2 (LB ++ cA zs)
  | [], Z, O, L, OB, LB, zs, hs, hh, hn, _ => by
    simp only [dZ, List.map_eq_nil_iff] at hn; subst hn
    exact ⟨Z, .refl Z, hs, by have h0 : LB ++ cA [] = LB := by simp [cA]
                              rw [h0]; exact hh⟩
  | (d, cs) :: W, Z, O, L, OB, LB, zs, hs, hh, hn, hnd => by
    simp only [dZ] at hn
    obtain ⟨y, r, he, h1, h2, hn⟩ := hn
    match zs, he with
    | ((d', us), b) :: zs, he =>
      simp only [dA, jV] at he
      obtain ⟨rfl, rfl⟩ := he
      simp only at h1 h2
      subst h1
      simp only [dA, eH, bj, lu] at hnd
      have hdom := hh.gb L.n (bC _)
      have hl : Z.le (Z.gC L.n b) := aD.Bs hdom.1
      have hbn : (Z.gC L.n b).b L.n = some b := by simp [aD.gC]
      have hs1 : SS (Z.gC L.n b) (Tr.put 24 O d' (some (.own L.n 0))) (look ((d', .own LB.length b 0) :: OB)) := (hs.mono hl).put (some d') (x := .own L.n 0) (by simp only [aC]; exact ⟨b, LB.length, hbn, rfl⟩)
      have hh1 : HS (Z.gC L.n b) (L.push (.box cs)) (LB ++ [.box b us]) := hh.push hl (fun _ _ => rfl) (fun i hi => by simp [aD.gC, hi]) ⟨b, us, hbn, rfl, h2.mono hl⟩
      have nmono : ∀ {W : List (Nat × List CV)} {ys : Nu}, dZ Z W ys → dZ (Z.gC L.n b) W ys := by
        intro W
        induction W with
        | nil => intro ys h; exact h
        | cons q W ih =>
          intro ys h
          simp only [dZ] at h ⊢
          obtain ⟨y, r, e, g1, g2, g3⟩ := h
          exact ⟨y, r, e, g1, g2.mono hl, ih g3⟩
      obtain ⟨Z', h3, h4, h5⟩ := A2 (zs := zs) hs1 hh1 (nmono hn) hnd.2
      refine ⟨Z', hl.trans h3, ?_, ?_⟩
      · have hd : d' ∉ (fp (LB ++ [aj.box b us]).length zs).map (·.1) := by
          rw [GM]
          intro hm
          obtain ⟨z, hz, he⟩ := dk.1 hm
          obtain ⟨q, g1, g2⟩ := hn.mem z.1 (dk.2 ⟨z, hz, rfl⟩)
          have : (W.map (·.1)).contains d' = true := by rw [Fx]; exact dk.2 ⟨q, g1, by rw [g2, he]⟩
          rw [hnd.1] at this; cases this
        intro t x hx
        obtain ⟨u, g1, g2⟩ := h4 t x hx
        refine ⟨u, ?_, g2⟩
        have hlen : (LB ++ [aj.box b us]).length = LB.length + 1 := by simp
        rw [hlen] at g1 hd
        show look ((d', .own LB.length b 0) :: (fp (LB.length + 1) zs ++ OB)) t = some u
        rw [GL hd]; exact g1
      · have : LB ++ cA (((d', us), b) :: zs) = (LB ++ [aj.box b us]) ++ cA zs := by simp [cA]
        rw [this]; exact h5
def eL (Z:aD):List (Nat×Oper×CV)->fq->Prop
 |[],ys=>ys=[]
 |x::xs,ys=>∃y r,ys=y::r/\y.1=x.1/\y.2.1=x.2.1/\aC Z x.2.2 y.2.2/\eL Z xs r
theorem eL.mono {Z Z':aD} (h:Z.le Z'):∀{xs:List (Nat×Oper×CV)} {ys:fq},eL Z xs ys->eL Z' xs ys
 |[],_,h1=>by simp only[eL]at h1⊢;exact h1
 |_::_,_,h1=>by simp only[eL]at h1⊢;obtain⟨y,r,e,h2,h3,h4,h5⟩:=h1;exact⟨y,r,e,h2,h3,h4.mono h,eL.mono h h5⟩
def cx (all:List Oper) (j:Nat) (pend:List (Nat×Oper×CV)):List (Nat×Oper×CV):=pend.filter λp=>!dP all.toArray p.1 j
theorem eL.aX {Z:aD} (j:Nat):∀{xs:List (Nat×Oper×CV)} {ys:fq},eL Z xs ys->eL Z (cx all j xs) (cz all.toArray j ys)
 |[],_,h1=>by simp only[eL]at h1;subst h1;rfl
 |x::xs,_,h1=>by
  simp only[eL]at h1;obtain⟨y,r,rfl,h2,h3,h4,h5⟩:=h1;have ih:=eL.aX j h5;simp only[cx,cz,MX,h2]at ih⊢;cases dP all.toArray x.1 j with
  |true=>exact ih
  |false=>simp only[vx,if_true,eL];exact⟨y,_,rfl,h2,h3,h4,ih⟩
theorem eL.mem {Z:aD}:∀{xs:List (Nat×Oper×CV)} {ys:fq},eL Z xs ys->∀p∈ys,∃q∈xs,p.1=q.1/\p.2.1=q.2.1/\aC Z q.2.2 p.2.2
 |[],_,h,p,hp=>by simp only[eL]at h;subst h;cases hp
 |x::_,_,h,p,hp=>by
  simp only[eL]at h;obtain⟨y,r,rfl,h1,h2,h3,h⟩:=h;rcases cu.1 hp with rfl|hp
  ·exact⟨x,by simp,h1,h2,h3⟩
  ·obtain⟨q,g1,g2⟩:=eL.mem h p hp;exact⟨q,by simp[g1],g2⟩
def uo (E:Env) (N:Nat) (all:List Oper) (o:Oper) (O:TS) (L:Hp) (x:CV):Prop:=(cv all o O=some true/\aR E N o O L x)\/(cv all o O=some false/\x= .d (.v undef))
def az (E:Env) (N:Nat) (all:List Oper) (pend:List (Nat×Oper×CV)) (O:TS) (L:Hp):Prop:=∀p∈pend,uo E N all p.2.1 O L p.2.2
theorem uo.ok {Z:aD} {s:Sl} {LB:List aj} (hs:SS Z O s) (hh:HS Z L LB) (h:uo E N all o O L x):∃y,aC Z x y/\jk E.toCx N all.toArray o s LB y:=by
 rcases h with⟨h1,h2⟩|⟨h1,rfl⟩
 ·obtain⟨y,h3,h4⟩:=h2 Z s LB hs hh;exact⟨y,h3,.inl ⟨jy hs h1,h4⟩⟩
 ·exact⟨.v undef,rfl,.inr ⟨jy hs h1,rfl⟩⟩
theorem az.ok {Z:aD} {s:Sl} {LB:List aj} {pend:List (Nat×Oper×CV)} {pb:fq} (hs:SS Z O s) (hh:HS Z L LB) (h:az E N all pend O L) (hp:eL Z pend pb):kf E.toCx N all.toArray pb s LB:=λp hpm=>by
 obtain⟨q,h1,h2,h3,h4⟩:=hp.mem p hpm;rw[h3];rcases h q h1 with⟨g1,g2⟩|⟨g1,g2⟩
 ·obtain⟨y,g3,g4⟩:=g2 Z s LB hs hh;exact .inl ⟨jy hs g1,bB.same g3 h4 g4⟩
 ·rw[g2]at h4;simp only[aC]at h4;exact .inr ⟨jy hs g1,h4⟩
theorem SS.up {Z:aD} {s s':Sl} (h:SS Z O s) (hu:∀t x,s t=some x->s' t=some x):SS Z O s':=λt x hx=>by
 obtain⟨y,h1,h2⟩:=h t x hx;exact⟨y,hu t y h1,h2⟩
def dh (A:bp):List (Nat×List CV):=A.map λp=>(p.2.1,p.2.2.map .d)
def tC:bp->TS->TS
 |[],O=>O
 |p::A,O=>tC A (Tr.put 24 O p.2.1 none)
theorem Gh:∀{A:bp} {O:TS} {t:Nat} {x:CV},(tC A O).get t=some x->t∉A.map (·.2.1)/\O.get t=some x
 |[],_,_,_,h=>⟨by simp,h⟩
 |p::A,O,t,x,h=>by
  obtain⟨h1,h2⟩:=Gh (A:=A) h;rcases Tr.eu 24 O p.2.1 t none x h2 with⟨_,h3⟩|⟨h3,h4⟩
  ·cases h3
  ·exact⟨by simp only[dA,cu,not_or];exact⟨h3,h1⟩,h4⟩
theorem Hw {Z:aD}:∀A:bp,dZ Z (dh A) (lb A)
 |[]=>rfl
 |p::A=>by
  simp only[dh,lb,dA,dZ];exact⟨_,_,rfl,rfl,gv _,Hw A⟩
def cg (E:Env) (N K:Nat) (all:List Oper) (Q:DQ) (l:List (Nat×Oper×TK)) (A:bp) (pend:List (Nat×Oper×CV)) (O:TS) (L:Hp):Prop:=
 ∀Z s LB pb,SS Z O s->HS Z L LB->eL Z pend pb->iE E.toCx N all.toArray (u0 K Z Q) (pK K Z Q) l A pb s LB
theorem oA {C:Cx} {ops:Array Oper} {Qn Qn':Sl->List aj->Prop} {Qp Qp':AV->List aj->Prop} (h1:∀s L,Qn s L->Qn' s L) (h2:∀x L,Qp x L->Qp' x L):∀{l:List (Nat×Oper×TK)} {A:bp} {pend:fq} {s:Sl} {L:List aj},
  iE C N ops Qn Qp l A pend s L->iE C N ops Qn' Qp' l A pend s L
 |[],_,_,_,_,h=>⟨h.1,h1 _ _ h.2⟩
 |(i,o,.fl)::r,_,_,_,_,h=>by
  obtain⟨g1,g2,y,g3⟩:=h;exact⟨g1,g2,y,g3.imp (λ⟨a,b⟩=>⟨a,oA h1 h2 b⟩) λ⟨a,b⟩=>⟨a,oA h1 h2 b⟩⟩
 |(i,o,.one)::r,_,_,_,_,h=>by
  obtain⟨g1,g2⟩:=h;exact⟨g1,wo g2 λzs _ ⟨b1,b2⟩=>⟨b1,b2.imp (λ⟨a1,R,a2,a3,a4⟩=>⟨a1,R,a2,λx L' hR=>oA h1 h2 (a3 x L' hR),λx L' hR=>h2 _ _ (a4 x L' hR)⟩) λ⟨a1,a2⟩=>⟨a1,oA h1 h2 a2⟩⟩⟩
 |[(_,_,.two)],_,_,_,_,h=>h
 |(i,o,.two)::(j,o',x)::r,_,_,_,_,h=>by
  obtain⟨g1,g2,g3⟩:=h;have up:∀{o:Oper} {s:Sl} {L:List aj} {nx nx':Sl->List aj->Prop},fu C N ops o s L nx Qp->(∀s L,nx s L->nx' s L)->fu C N ops o s L nx' Qp':=λh hn=>
   ⟨h.1,h.2.imp (λ⟨a1,R,a2,a3,a4⟩=>⟨a1,R,a2,λx L' hR=>hn _ _ (a3 x L' hR),λx L' hR=>h2 _ _ (a4 x L' hR)⟩) λ⟨a1,a2⟩=>⟨a1,hn _ _ a2⟩⟩
  exact⟨g1,up g2 λs1 η1 q=>⟨q.1,up q.2 λs2 L2 q=>oA h1 h2 q⟩,up g3 λs1 η1 q=>⟨q.1,up q.2 λs2 L2 q=>oA h1 h2 q⟩⟩
theorem cg.up {Z Z':aD} (hl:Z.le Z') {l:List (Nat×Oper×TK)} {A:bp} {pb:fq} {s:Sl} {LB:List aj} (h:iE E.toCx N all.toArray (u0 K Z' Q) (pK K Z' Q) l A pb s LB):iE E.toCx N all.toArray (u0 K Z Q) (pK K Z Q) l A pb s LB:=
 oA (λ_ _ ⟨O1,h1,h2⟩=>⟨O1,h1,oz (hl.toK K) (λ_ _ _ h=>h) h2⟩) (λ_ _ h=>oz (hl.toK K) (λ_ _ _ h=>h) h) h
section
variable {l:List (Nat×Oper×TK)} {A:bp} {pend:List (Nat×Oper×CV)} {i:Nat}
theorem cg.nil (hp:az E N all pend O L) (h:Q .norm O L):cg E N K all Q [] A pend O L:=λZ s LB pb hs hh hpi=>by
 refine⟨hp.ok hs hh hpi,cV s O.keys,λt x hx=>(jz hx).2,qe (d:= .norm) rfl (λt x hx=>?_) hh h⟩;obtain⟨y,h1,h2⟩:=hs t x hx;exact⟨y,by rw[pZ (Tr.mem_keys hx)];exact h1,h2⟩
theorem cg.fl (hp:az E N all pend O L) (hd:b8 N o.dst=true) (hv:uo E N all o O L x) (k:cg E N K all Q l A ((i,o,x)::pend) (bK O o.dst x) L):cg E N K all Q ((i,o,.fl)::l) A pend O L:=λZ s LB pb hs hh hpi=>by
 obtain⟨y,h1,h2⟩:=hv.ok hs hh;exact⟨hp.ok hs hh hpi,hd,y,.inl ⟨h2,k Z _ LB _ (hs.aQ o.dst h1) hh (by simp only[eL];exact⟨_,_,rfl,rfl,rfl,h1,hpi⟩)⟩⟩
def bG (E:Env) (N:Nat) (o:Oper) (O:TS) (x:CV):Prop:=∀Z s LB,SS Z O s->∃y,aC Z x y/\bB E.toCx N o s LB y
theorem cg.st (hp:az E N all pend O L) (hd:b8 N o.dst=true) (hv:(cv all o O=some true/\bG E N o O x)\/(cv all o O=some false/\x= .d (.v undef))) (k:cg E N K all Q l A pend (bK O o.dst x) L):cg E N K all Q ((i,o,.fl)::l) A pend O L:=λZ s LB pb hs hh hpi=>by
 rcases hv with⟨hw,hv⟩|⟨hw,rfl⟩
 ·obtain⟨y,h1,_⟩:=hv Z s [] hs;refine⟨hp.ok hs hh hpi,hd,y,.inr ⟨λL'=> .inl ⟨jy hs hw,?_⟩,k Z _ LB _ (hs.aQ o.dst h1) hh hpi⟩⟩;obtain⟨y',g1,g2⟩:=hv Z s L' hs;exact bB.same g1 h1 g2
 ·exact⟨hp.ok hs hh hpi,hd,.v undef,.inr ⟨λL'=> .inr ⟨jy hs hw,rfl⟩,k Z _ LB _ (hs.aQ o.dst rfl) hh hpi⟩⟩
theorem cg.L0 {Z:aD} {s:Sl} {LB:List aj} {M:bp} (hs:SS Z O s) (hh:HS Z L LB) (hnd:eH ((dh M).map (·.1))=true) {zs:List ((Nat×List AV)×Nat)} (hz:zs.map (·.1)=lb M):
  ∃Z',Z.le Z'/\SS Z' (ei (dh M) O L).1 (fw LB.length zs s)/\HS Z' (ei (dh M) O L).2 (LB++cA zs):=by
 have hs':SS Z O (look (cV s O.keys)):=λt x hx=>by
  obtain⟨y,h1,h2⟩:=hs t x hx;exact⟨y,by rw[pZ (Tr.mem_keys hx)];exact h1,h2⟩
 obtain⟨Z',h1,h2,h3⟩:=A2 (zs:=zs) hs' hh (by rw[hz];exact Hw M) hnd;refine⟨Z',h1,h2.up λt x hx=>?_,h3⟩;simp only[fw];cases hl:look (fp LB.length zs) t with
 |some y=>
  have happ:∀(l r:Sg) (y:AV),look l t=some y->look (l++r) t=some y:=by
   intro l r
   induction l with
   |nil=>intro y h;simp[look]at h
   |cons p l ih=>
    intro y h;obtain⟨k,v⟩:=p;simp only[iO,look]at h⊢;split
    ·rename_i hb;rw[hb]at h;exact h
    ·rename_i hb;rw[hb]at h;exact ih y h
  rw[happ _ _ y hl]at hx;exact hx
 |none=>
  have happ:∀(l r:Sg),look l t=none->look (l++r) t=look r t:=by
   intro l r
   induction l with
   |nil=>intro _;rfl
   |cons p l ih=>
    intro h;obtain⟨k,v⟩:=p;simp only[iO,look]at h⊢;split
    ·rename_i hb;rw[hb]at h;cases h
    ·rename_i hb;rw[hb]at h;exact ih h
  rw[happ _ _ hl]at hx;exact(jz hx).2
theorem cg.skip (hp:az E N all pend O L) (hnd:eH ((dh (bQ all.toArray i A)).map (·.1))=true) (hd:b8 N o.dst=true) (hw:cv all o (ei (dh (bQ all.toArray i A)) O L).1=some false)
  (k:cg E N K all Q l (b4 all.toArray i A) (cx all i pend) (bK (ei (dh (bQ all.toArray i A)) O L).1 o.dst (.d (.v undef))) (ei (dh (bQ all.toArray i A)) O L).2):cg E N K all Q ((i,o,.one)::l) A pend O L:=λZ s LB pb hs hh hpi=>
 ⟨hp.ok hs hh hpi,sF λzs hz=>by
  obtain⟨Z1,hl1,hs1,hh1⟩:=cg.L0 hs hh hnd hz;exact⟨hd,.inr ⟨jy hs1 hw,cg.up hl1 (k Z1 _ _ _ (hs1.aQ o.dst rfl) hh1 ((hpi.mono hl1).aX i))⟩⟩⟩
theorem cg.mF {R:DR->Hp->Prop} (hp:az E N all pend O L) (hnd:eH ((dh (bQ all.toArray i A)).map (·.1))=true) (hd:b8 N o.dst=true) {O1:TS} {η1:Hp} (cm:ei (dh (bQ all.toArray i A)) O L=(O1,η1)) (hw:cv all o O1=some true) (h:bo E N o O1 η1 R)
  (k1:∀x L',R (.ret x) L'->cg E N K all Q l (b4 all.toArray i A) (cx all i pend) (bK O1 o.dst x) L')
  (k2:∀x L',R (.aJ x) L'->Q (.aJ x) .lf L'):cg E N K all Q ((i,o,.one)::l) A pend O L:=λZ s LB pb hs hh hpi=>by
 refine⟨hp.ok hs hh hpi,sF λzs hz=>?_⟩;obtain⟨Z1,hl1,hs1,hh1⟩:=cg.L0 hs hh hnd hz;rw[cm]at hs1 hh1;refine⟨hd,.inl ⟨jy hs1 hw,_,h Z1 _ _ hs1 hh1,?_,?_⟩⟩
 ·rintro y LB' ⟨Z',d,L',hl,hi,hh',hR⟩;cases d with
  |ret x=>
   obtain⟨y',e,hi⟩:=hi;cases e;exact cg.up (hl1.trans hl) (k1 x L' hR Z' _ LB' _ ((hs1.mono hl).aQ o.dst hi) hh' ((hpi.mono (hl1.trans hl)).aX i))
  |aJ x=>obtain⟨y',e,_⟩:=hi;cases e
 ·rintro y LB' ⟨Z',d,L',hl,hi,hh',hR⟩;cases d with
  |ret x=>obtain⟨y',e,_⟩:=hi;cases e
  |aJ x=>
   obtain⟨y',e,hi⟩:=hi;cases e;exact⟨Z',.aJ x,.lf,L',(hl1.trans hl).toK K,⟨y,rfl,hi⟩,CY _,hh',k2 x L' hR⟩
theorem cg.pair {j:Nat} {o':Oper} {x:TK} {η1 L2 L3:Hp} (hp:az E N all pend O L) (hd:o.dst=none) (hd':o'.dst=none) (hw:cv all o O=some true) (hw':cv all o' O=some true)
  (h1:bo E N o O L (λr L'=>r= .ret (.d (.v undef))/\L'=η1)) (p1:az E N all (cx all i pend) O η1) (h2:bo E N o' O η1 (λr L'=>r= .ret (.d (.v undef))/\L'=L3))
  (h3:bo E N o' O L (λr L'=>r= .ret (.d (.v undef))/\L'=L2)) (p2:az E N all (cx all j pend) O L2) (h4:bo E N o O L2 (λr L'=>r= .ret (.d (.v undef))/\L'=L3))
  (k:cg E N K all Q l A (cx all j (cx all i pend)) O L3):cg E N K all Q ((i,o,.two)::(j,o',x)::l) A pend O L:=λZ s LB pb hs hh hpi=>by
 have go:∀{oa ob:Oper} {ia:Nat} {La:Hp},oa.dst=none->ob.dst=none->cv all oa O=some true->cv all ob O=some true->bo E N oa O L (λr L'=>r= .ret (.d (.v undef))/\L'=La)->az E N all (cx all ia pend) O La->
   bo E N ob O La (λr L'=>r= .ret (.d (.v undef))/\L'=L3)->
   fu E.toCx N all.toArray oa s LB (λs1 η1=>kf E.toCx N all.toArray (cz all.toArray ia pb) s1 η1/\fu E.toCx N all.toArray ob s1 η1 (iE E.toCx N all.toArray (u0 K Z Q) (pK K Z Q) l A (cz all.toArray j (cz all.toArray i pb))) (pK K Z Q)) (pK K Z Q):=by
  intro oa ob ia La da db wa wb ha pa hb;refine⟨by rw[da];rfl,.inl ⟨jy hs wa,_,ha Z s LB hs hh,?_,?_⟩⟩
  ·rintro y LB' ⟨Z',d,L',hl,hi,hh',rfl,rfl⟩;rw[da];refine⟨pa.ok (hs.mono hl) hh' ((hpi.mono hl).aX ia),by rw[db];rfl,.inl ⟨jy hs wb,_,hb Z' s LB' (hs.mono hl) hh',?_,?_⟩⟩
   ·rintro y' LB2 ⟨Z2,d2,L2',hl2,hi2,hh2,rfl,rfl⟩;rw[db];exact cg.up (hl.trans hl2) (k Z2 s LB2 _ (hs.mono (hl.trans hl2)) hh2 (((hpi.mono (hl.trans hl2)).aX i).aX j))
   ·rintro y' LB2 ⟨Z2,d2,L2',hl2,hi2,hh2,rfl,rfl⟩;obtain⟨_,e,_⟩:=hi2;cases e
  ·rintro y LB' ⟨Z',d,L',hl,hi,hh',rfl,rfl⟩;obtain⟨_,e,_⟩:=hi;cases e
 exact⟨hp.ok hs hh hpi,go hd hd' hw hw' h1 p1 h2,go hd' hd hw' hw h3 p2 h4⟩
end
theorem dB.nil {A:bp} {tl:List (Nat×Oper×TK)} {W:List (Nat×List CV)} (hnd:eH (W.map (·.1))=true) (k:cg E N K all Q tl A [] (tC A (ei W O L).1) (ei W O L).2):dB E N K all tl A Q L [] O W:=λZ s LB WB hs hh hn=>by
 refine⟨cV s O.keys,λt x hx=>(jz hx).2,?_⟩;have hs':SS Z O (look (cV s O.keys)):=λt x hx=>by
  obtain⟨y,h1,h2⟩:=hs t x hx;exact⟨y,by rw[pZ (Tr.mem_keys hx)];exact h1,h2⟩
 refine sF λzs hz=>?_;obtain⟨Z',h1,h2,h3⟩:=A2 (zs:=zs) hs' hh (by rw[hz];exact hn) hnd;refine cg.up h1 (k Z' _ _ [] (λt x hx=>?_) h3 rfl);obtain⟨g1,g2⟩:=Gh hx;obtain⟨y,g3,g4⟩:=h2 t x g2;refine⟨y,?_,g4⟩;unfold pk;have:(A.map (·.2.1)).contains t=false:=by
  cases hc:(A.map (·.2.1)).contains t with
  |false=>rfl
  |true=>exact absurd (Fx.1 hc) g1
 rw[this];exact g3
theorem DC.open {id:Nat} {l:List Oper} (pre:List Nat) (tl:List (Nat×TK)) (al:List Nat) (A:bp) (hm:E.P.follows .mixedOrders=true) (hA:lY E.T l.toArray N al=some A) (hB:nw l.toArray pre tl al=true) (hl:Nat.beq (fi l.toArray pre).length pre.length=true) (h:dB E N K l (iW l.toArray tl) A Q L (fi l.toArray pre) O []):
  DC E N K (.region id l.toArray true) Q O L:=λZ OB LB hs hh=>
 bH.Qv pre tl al A hm hA hB (bg hl) (AK (λ_ ⟨O',h1,h2⟩=>⟨O',h1,h2⟩) (h Z _ LB [] hs hh rfl))
end
def jj (E:Env) (fs:List (Nat×List AV×AV)):Prop:=∀f∈fs,Pure E.toCx f.1 f.2.1 (.ret f.2.2)
inductive It where
 |code (c:Code)
 |mG (id:Nat)
 |ops (all rest:List Oper)
 |lex (all:List Oper) (tl:List (Nat×Oper×TK)) (A:bp) (pre:List Oper) (W:List (Nat×List CV))
 |tl (all:List Oper) (l:List (Nat×Oper×TK)) (A:bp) (pend:List (Nat×Oper×CV)) (fs:List (Nat×List AV×AV))
 |lp (next:TS->Hp->Prop)
 |ma (m:Nat) (c:Code)
 |fr (N K:Nat) (O:TS) (dst:Option Nat) (rs:List ResultVar)
 |ct (N K:Nat) (O:TS) (dst:Option Nat) (rs:List ResultVar) (ty:TypeId) (z:AV)
def lJ:AV->Bool
 | .agg [.v (.int _ _),.v (.int _ _)]=>true
 |_=>false
def dq (E:Env):Nat->Nat->List It->DQ->DQ
 |_,_,[],Q=>Q
 |N,K,.code c::k,Q=>λe O L=>match e with
  | .norm=>DC E N K c (dq E N K k Q) O L
  | .exit i=>dq E N K k Q (.exit i) O L
  | .ret=>dq E N K k Q .ret O L
  | .aJ x=>dq E N K k Q (.aJ x) O L
 |N,K,.mG id::k,Q=>λe O L=>match e with
  | .norm=>dq E N K k Q .norm O L
  | .exit i=>match Nat.beq i id with
   |true=>dq E N K k Q .norm O L
   |false=>dq E N K k Q (.exit i) O L
  | .ret=>dq E N K k Q .ret O L
  | .aJ x=>dq E N K k Q (.aJ x) O L
 |N,K,.ops all rest::k,Q=>λe O L=>match e with
  | .norm=>DO E N K all rest (dq E N K k Q) O L
  | .exit i=>dq E N K k Q (.exit i) O L
  | .ret=>dq E N K k Q .ret O L
  | .aJ x=>dq E N K k Q (.aJ x) O L
 |N,K,.lex all tl A pre W::k,Q=>λe O L=>match e with
  | .norm=>dB E N K all tl A (dq E N K k Q) L pre O W
  | .exit i=>dq E N K k Q (.exit i) O L
  | .ret=>dq E N K k Q .ret O L
  | .aJ x=>dq E N K k Q (.aJ x) O L
 |N,K,.tl all l A pend fs::k,Q=>λe O L=>match e with
  | .norm=>jj E fs->cg E N K all (dq E N K k Q) l A pend O L
  | .exit i=>dq E N K k Q (.exit i) O L
  | .ret=>dq E N K k Q .ret O L
  | .aJ x=>dq E N K k Q (.aJ x) O L
 |N,K,.lp next::k,Q=>λe O L=>match e with
  | .norm=>next O L
  | .exit i=>dq E N K k Q (.exit i) O L
  | .ret=>dq E N K k Q .ret O L
  | .aJ x=>dq E N K k Q (.aJ x) O L
 |N,K,.ma m c::k,Q=>λe O L=>match e with
  | .norm=>nf E N K c (dq E N K k Q) m O L
  | .exit i=>dq E N K k Q (.exit i) O L
  | .ret=>dq E N K k Q .ret O L
  | .aJ x=>dq E N K k Q (.aJ x) O L
 |_,_,.fr N' K' O' dst rs::k,Q=>λe O L=>match e with
  | .norm=>∃xs,dG E.T O L rs=some xs/\dq E N' K' k Q .norm (bK O' dst (ez xs)) L
  | .ret=>∃xs,dG E.T O L rs=some xs/\dq E N' K' k Q .norm (bK O' dst (ez xs)) L
  | .exit _=>False
  | .aJ x=>dq E N' K' k Q (.aJ x) .lf L
 |_,_,.ct N' K' O' dst rs ty z::k,Q=>λe O L=>match e with
  | .norm=>∃xs,dG E.T O L rs=some xs/\dq E N' K' k Q .norm (bK O' dst (.d z)) L
  | .ret=>∃xs,dG E.T O L rs=some xs/\dq E N' K' k Q .norm (bK O' dst (.d z)) L
  | .exit _=>False
  | .aJ x=>∃y,(x= .bd ty (.d y)\/x= .d (.bd ty y))/\lJ y=true/\dq E N' K' k Q .norm (bK O' dst (.d y)) L
def ao (E:Env) (N K:Nat) (todo:List It) (Q:DQ) (O:TS) (L:Hp):Prop:=dq E N K todo Q .norm O L
section
variable {E:Env} {N K:Nat} {Q:DQ} {O:TS} {L:Hp} {k:List It}
theorem Qs (b:Code):DE.then (DC E N K b (dq E N K k Q)) (dq E N K k Q)=dq E N K (.code b::k) Q:=by funext e O L;cases e<;>rfl
theorem Ru (i:Nat):DE.inBlock i (dq E N K k Q)=dq E N K (.mG i::k) Q:=by funext e O L;cases e<;>rfl
theorem TJ (next:TS->Hp->Prop):DE.then next (dq E N K k Q)=dq E N K (.lp next::k) Q:=by funext e O L;cases e<;>rfl
theorem Jh (m:Nat) (c:Code):DE.then (nf E N K c (dq E N K k Q) m) (dq E N K k Q)=dq E N K (.ma m c::k) Q:=by funext e O L;cases e<;>rfl
def jG (id:Nat):List It->Option (List It)
 |[]=>none
 | .mG i::k=>match Nat.beq id i with
  |true=>some k
  |false=>jG id k
 | .code _::k=>jG id k
 | .ops _ _::k=>jG id k
 | .lex _ _ _ _ _::k=>jG id k
 | .tl _ _ _ _ _::k=>jG id k
 | .lp _::k=>jG id k
 | .ma _ _::k=>jG id k
 | .fr _ _ _ _ _::_=>none
 | .ct _ _ _ _ _ _ _::_=>none
theorem nc {id:Nat}:∀{k k':List It},jG id k=some k'->dq E N K k Q (.exit id)=dq E N K k' Q .norm
 |[],_,h=>by simp[jG]at h
 | .code _::k,k',h=>by funext O L;simp only[dq];rw[nc (k:=k) h]
 | .ops _ _::k,k',h=>by funext O L;simp only[dq];rw[nc (k:=k) h]
 | .lex _ _ _ _ _::k,k',h=>by funext O L;simp only[dq];rw[nc (k:=k) h]
 | .tl _ _ _ _ _::k,k',h=>by funext O L;simp only[dq];rw[nc (k:=k) h]
 | .lp _::k,k',h=>by funext O L;simp only[dq];rw[nc (k:=k) h]
 | .ma _ _::k,k',h=>by funext O L;simp only[dq];rw[nc (k:=k) h]
 | .fr _ _ _ _ _::_,_,h=>by simp[jG]at h
 | .ct _ _ _ _ _ _ _::_,_,h=>by simp[jG]at h
 | .mG i::k,k',h=>by
  funext O L;simp only[jG]at h;simp only[dq];cases hb:Nat.beq id i with
  |true=>rw[hb]at h;simp only[ax]at h;subst h;rfl
  |false=>rw[hb]at h;simp only;rw[nc (k:=k) h]
def lS:List It->List It
 |[]=>[]
 | .fr N K O dst rs::k=> .fr N K O dst rs::k
 | .ct N K O dst rs ty z::k=> .ct N K O dst rs ty z::k
 |_::k=>lS k
theorem lK:∀(k:List It),dq E N K k Q .ret=dq E N K (lS k) Q .ret
 |[]=>rfl
 | .code _::k=>by funext O L;simp only[dq,lS];rw[lK k]
 | .mG _::k=>by funext O L;simp only[dq,lS];rw[lK k]
 | .ops _ _::k=>by funext O L;simp only[dq,lS];rw[lK k]
 | .lex _ _ _ _ _::k=>by funext O L;simp only[dq,lS];rw[lK k]
 | .tl _ _ _ _ _::k=>by funext O L;simp only[dq,lS];rw[lK k]
 | .lp _::k=>by funext O L;simp only[dq,lS];rw[lK k]
 | .ma _ _::k=>by funext O L;simp only[dq,lS];rw[lK k]
 | .fr _ _ _ _ _::_=>rfl
 | .ct _ _ _ _ _ _ _::_=>rfl
def iY:List It->Option (Nat×Nat×TS×Option Nat×TypeId×List It)
 |[]=>none
 | .ct N K O dst _ ty _::k=>some (N,K,O,dst,ty,k)
 |_::k=>iY k
theorem kP {x:CV}:∀(k:List It) (N K:Nat) (O:TS),iY k=none->(Q (.aJ x) .lf L->dq E N K k Q (.aJ x) .lf L)
 |[],_,_,_,_,h=>h
 | .code _::k,N,K,O,hp,h=>kP k N K O hp h
 | .mG _::k,N,K,O,hp,h=>kP k N K O hp h
 | .ops _ _::k,N,K,O,hp,h=>kP k N K O hp h
 | .lex _ _ _ _ _::k,N,K,O,hp,h=>kP k N K O hp h
 | .tl _ _ _ _ _::k,N,K,O,hp,h=>kP k N K O hp h
 | .lp _::k,N,K,O,hp,h=>kP k N K O hp h
 | .ma _ _::k,N,K,O,hp,h=>kP k N K O hp h
 | .fr N' K' _ _ _::k,_,_,O,hp,h=>kP k N' K' O hp h
 | .ct _ _ _ _ _ _ _::_,_,_,_,hp,_=>by simp[iY]at hp
theorem lF {x:CV} {y:AV} {N' K' ty:Nat} {O':TS} {dst:Option Nat} {k':List It} (hx:x= .bd ty (.d y)\/x= .d (.bd ty y)) (hy:lJ y=true):∀(k:List It) (N K:Nat),iY k=some (N',K',O',dst,ty,k')->(dq E N' K' k' Q .norm (bK O' dst (.d y)) L->dq E N K k Q (.aJ x) .lf L)
 |[],_,_,hp,_=>by simp[iY]at hp
 | .code _::k,N,K,hp,h=>lF hx hy k N K hp h
 | .mG _::k,N,K,hp,h=>lF hx hy k N K hp h
 | .ops _ _::k,N,K,hp,h=>lF hx hy k N K hp h
 | .lex _ _ _ _ _::k,N,K,hp,h=>lF hx hy k N K hp h
 | .tl _ _ _ _ _::k,N,K,hp,h=>lF hx hy k N K hp h
 | .lp _::k,N,K,hp,h=>lF hx hy k N K hp h
 | .ma _ _::k,N,K,hp,h=>lF hx hy k N K hp h
 | .fr N1 K1 _ _ _::k,_,_,hp,h=>lF hx hy k N1 K1 hp h
 | .ct N1 K1 O1 dst1 rs1 ty1 z1::k,_,_,hp,h=>by
  simp only[iY,ax,bZ]at hp;obtain⟨rfl,rfl,rfl,rfl,rfl,rfl⟩:=hp;exact⟨y,hx,hy,h⟩
def pe (E:Env) (f:FuncId) (ty:TypeId) (z:AV):Prop:=∀(g:FuncId) (fs cs:List AV) (L:List aj) (Q:AR->List aj->Prop),kX E.toCx g (fs++cs) L Q->(∀x L',Q (.aJ x) L'->∃y,x= .bd ty y/\lJ y=true)->
 kX E.toCx f [.fn g fs cs] L (λr L'=>(∃x,Q (.ret x) L'/\r= .ret z)\/∃x,Q (.aJ (.bd ty x)) L'/\r= .ret x)
theorem F2 {Z:aD} {x:CV} {y:AV} {ty:Nat} {y0:AV} (hx:x= .bd ty (.d y0)\/x= .d (.bd ty y0)) (hi:aC Z x y):y= .bd ty y0:=by
 rcases hx with rfl|rfl
 ·simp only[aC]at hi;obtain⟨u,rfl,rfl⟩:=hi;rfl
 ·simp only[aC]at hi;exact hi
theorem eK.ct {f g:FuncId} {ty:TypeId} {z:AV} (hct:pe E f ty z) {fs cs:List CV} {Q':DR->Hp->Prop} (h:eK E g (fs++cs) L Q') (hp:∀x L',Q' (.aJ x) L'->∃y,(x= .bd ty (.d y)\/x= .d (.bd ty y))/\lJ y=true):
  eK E f [.fn g fs cs] L (λr L'=>(∃x,Q' (.ret x) L'/\r= .ret (.d z))\/∃x y,Q' (.aJ x) L'/\(x= .bd ty (.d y)\/x= .d (.bd ty y))/\lJ y=true/\r= .ret (.d y)):=λZ ys LB hi hh=>by
 simp only[aI,aC]at hi;obtain⟨y,r,rfl,⟨us,vs,rfl,h1,h2⟩,rfl⟩:=hi;refine(hct g us vs LB _ (h Z (us++vs) LB (h1.append h2) hh) ?_).mono ?_
 ·rintro x LB' ⟨Z',d,η1,g1,g2,g3,g4⟩;cases d with
  |ret x'=>obtain⟨y',e,_⟩:=g2;cases e
  |aJ x'=>
   obtain⟨y',e,g2⟩:=g2;cases e;obtain⟨y0,q1,q2⟩:=hp _ _ g4;exact⟨y0,F2 q1 g2,q2⟩
 ·rintro r LB' (⟨x,⟨Z',d,η1,g1,g2,g3,g4⟩,rfl⟩|⟨x,⟨Z',d,η1,g1,g2,g3,g4⟩,rfl⟩)
  ·cases d with
   |ret x'=>exact⟨Z',.ret (.d z),η1,g1,⟨z,rfl,rfl⟩,g3,.inl ⟨x',g4,rfl⟩⟩
   |aJ x'=>obtain⟨y',e,_⟩:=g2;cases e
  ·cases d with
   |ret x'=>obtain⟨y',e,_⟩:=g2;cases e
   |aJ x'=>
    obtain⟨y',e,g2⟩:=g2;cases e;obtain⟨y0,q1,q2⟩:=hp _ _ g4;have:=F2 q1 g2;cases this;exact⟨Z',.ret (.d x),η1,g1,⟨x,rfl,rfl⟩,g3,.inr ⟨x',x,g4,q1,q2,rfl⟩⟩
def y4:CV->Option (FuncId×List CV×List CV)
 | .fn g fs cs=>some (g,fs,cs)
 | .d (.fn g fs cs)=>some (g,fs.map .d,cs.map .d)
 |_=>none
theorem PA {Z:aD} {x:CV} {g:FuncId} {fs cs:List CV} (h:y4 x=some (g,fs,cs)) {y:AV} (hi:aC Z x y):aC Z (.fn g fs cs) y:=by
 unfold y4 at h;split at h
 ·simp only[ax,bZ]at h;obtain⟨rfl,rfl,rfl⟩:=h;exact hi
 ·simp only[ax,bZ]at h;obtain⟨rfl,rfl,rfl⟩:=h;simp only[aC]at hi⊢;subst hi;exact⟨_,_,rfl,gv _,gv _⟩
 ·cases h
theorem ao.one {c:Code} (h:ao E N K [.code c] Q O L):DC E N K c Q O L:=h
theorem ao.loop {c:Code} (ts:List Nat) (m:Nat) (I:Nat->List (Nat×CV)->List aT->Prop) (n:Nat) (hK:K<=m) {l:List (Nat×CV)} {es:List aT} (hm:m<=L.n) (hp:eA m ts O=some l) (he:kV m L=some es) (h0:I n l es)
  (round:∀n l es,I n l es->ao E N K (.code c:: .lp (λO1 η1=>∃n',n'<n/\∃l' es',m<=η1.n/\eA m ts O1=some l'/\kV m η1=some es'/\I n' l' es')::k) Q (nX l) (jP es)):ao E N K (.code (.loop c)::k) Q O L:=
 DC.loop ts m I n hK hm hp he h0 λn l es hI=>by
  have:=round n l es hI;unfold ao at this;simp only[dq]at this;rw[TJ];exact this
theorem ao.lp {next:TS->Hp->Prop} (h:next O L):ao E N K (.lp next::k) Q O L:=h
theorem ao.inl {dst:Option Nat} {f:Operand} {args:List Operand} {g:FuncId} {cs:List CV} {tys:Array TypeId} {ty:TypeId} {pos:String} {after:Array Edge} {fn:Func} {c:Code} {rs:List ResultVar} {nt:Nat} {all rest:List Oper}
  (hc:dm O f args=some (g,cs)) (hf:E.P.funcs[g]? =some fn) (hb:fn.body=some c) (hname:(fn.name== "runtime.NumGoroutine")=false) (hrs:fn.results=rs.toArray) (hnt:fn.ntmps=nt) (hn:Nat.ble cs.length nt=true) (hd:b8 N dst=true)
  (h:ao E nt L.n (.code c:: .fr N K O dst rs:: .ops all rest::k) Q (gx 0 cs) L):ao E N K (.ops all (⟨dst,.call {callee:= .value f,args:=args.toArray,argTypes:=tys},ty,pos,after,none⟩::rest)::k) Q O L:=by
 show DO E N K all _ (dq E N K k Q) O L;refine DO.call (Q':=λr L'=>match r with
  | .ret x=>DO E N K all rest (dq E N K k Q) (bK O dst x) L'
  | .aJ x=>dq E N K k Q (.aJ x) .lf L') ?_ hc hd (λ_ _ h=>h) (λ_ _ h=>h)
 refine eK.enter hf hb hname rs hrs nt hnt hn (DC.mono h ?_);intro e O1 η1 h1;cases e with
 |norm=>exact h1
 |ret=>exact h1
 |exit i=>exact h1
 |aJ x=>exact h1
theorem ao.ct {dst:Option Nat} {f:Operand} {args:List Operand} {f0 g:FuncId} {x:CV} {fs cs:List CV} {ty':TypeId} {z:AV} {tys:Array TypeId} {ty:TypeId} {pos:String} {after:Array Edge} {fn:Func} {c:Code} {rs:List ResultVar} {nt:Nat} {all rest:List Oper}
  (hct:pe E f0 ty' z) (hc:dm O f args=some (f0,[x])) (hx:y4 x=some (g,fs,cs)) (hf:E.P.funcs[g]? =some fn) (hb:fn.body=some c) (hname:(fn.name== "runtime.NumGoroutine")=false) (hrs:fn.results=rs.toArray) (hnt:fn.ntmps=nt) (hn:Nat.ble (fs++cs).length nt=true) (hd:b8 N dst=true)
  (h:ao E nt L.n (.code c:: .ct N K O dst rs ty' z:: .ops all rest::k) Q (gx 0 (fs++cs)) L):ao E N K (.ops all (⟨dst,.call {callee:= .value f,args:=args.toArray,argTypes:=tys},ty,pos,after,none⟩::rest)::k) Q O L:=by
 show DO E N K all _ (dq E N K k Q) O L;have key:eK E g (fs++cs) L (λr L'=>match r with
  | .ret _=>DO E N K all rest (dq E N K k Q) (bK O dst (.d z)) L'
  | .aJ x=>∃y,(x= .bd ty' (.d y)\/x= .d (.bd ty' y))/\lJ y=true/\DO E N K all rest (dq E N K k Q) (bK O dst (.d y)) L'):=by
  refine eK.enter hf hb hname rs hrs nt hnt hn (DC.mono h ?_);intro e O1 η1 h1;cases e with
  |norm=>exact h1
  |ret=>exact h1
  |exit i=>exact h1
  |aJ x=>exact h1
 have key2:eK E f0 [x] L (λr L'=>match r with
  | .ret y=>DO E N K all rest (dq E N K k Q) (bK O dst y) L'
  | .aJ _=>False):=λZ ys LB hi hh=>by
  have hi':aI Z [.fn g fs cs] ys:=by
   simp only[aI]at hi;obtain⟨y,r,rfl,h1,rfl⟩:=hi;have:=PA hx h1;simp only[aI];exact⟨y,[],rfl,this,rfl⟩
  refine(eK.ct hct key (λx L' hx=>?_) Z ys LB hi' hh).mono ?_
  ·obtain⟨y,h1,h2,_⟩:=hx;exact⟨y,h1,h2⟩
  ·rintro r LB' ⟨Z',d,η1,g1,g2,g3,(⟨x,g4,rfl⟩|⟨x,y,⟨y',q1,q2,q3⟩,q4,q5,rfl⟩)⟩
   ·exact⟨Z',_,η1,g1,g2,g3,g4⟩
   ·refine⟨Z',_,η1,g1,g2,g3,?_⟩;have:y=y':=by
     rcases q1 with rfl|rfl<;>rcases q4 with e|e<;>cases e<;>rfl
    subst this;exact q3
 exact DO.call key2 hc hd (λ_ _ h=>h) (λ_ _ h=>h.elim)
theorem ao.fm {o:Oper} {i:Nat} {f:Operand} {args:List Operand} {g:FuncId} {cs:List CV} {tys:Array TypeId} {fn:Func} {c:Code} {rs:List ResultVar} {nt:Nat} {all:List Oper} {l:List (Nat×Oper×TK)} {A:bp} {pend:List (Nat×Oper×CV)} {fs:List (Nat×List AV×AV)} {O1:TS} {η1:Hp} (ho:o.op= .call {callee:= .value f,args:=args.toArray,argTypes:=tys})
  (hp:jj E fs->az E N all pend O L) (hnd':eH ((dh (bQ all.toArray i A)).map (·.1))=true) (cm:ei (dh (bQ all.toArray i A)) O L=(O1,η1)) (hw:cv all o O1=some true) (hc:dm O1 f args=some (g,cs)) (hf:E.P.funcs[g]? =some fn) (hb:fn.body=some c) (hname:(fn.name== "runtime.NumGoroutine")=false) (hrs:fn.results=rs.toArray) (hnt:fn.ntmps=nt) (hn:Nat.ble cs.length nt=true) (hd:b8 N o.dst=true)
  (h:ao E nt η1.n (.code c:: .fr N K O1 o.dst rs:: .tl all l (b4 all.toArray i A) (cx all i pend) fs::k) Q (gx 0 cs) η1):ao E N K (.tl all ((i,o,.one)::l) A pend fs::k) Q O L:=by
 show jj E fs->cg E N K all (dq E N K k Q) _ A pend O L;intro hfs;refine cg.mF (R:=λr L'=>match r with
  | .ret x=>jj E fs->cg E N K all (dq E N K k Q) l (b4 all.toArray i A) (cx all i pend) (bK O1 o.dst x) L'
  | .aJ x=>dq E N K k Q (.aJ x) .lf L') (hp hfs) hnd' hd cm hw (bo.call ho ?_ hc) (λ_ _ h=>h hfs) (λ_ _ h=>h)
 refine eK.enter hf hb hname rs hrs nt hnt hn (DC.mono h ?_);intro e O1 η1 h1;cases e with
 |norm=>exact h1
 |ret=>exact h1
 |exit i=>exact h1
 |aJ x=>exact h1
