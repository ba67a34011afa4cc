/- The abstract machine, fifth part: what is still to be done, as a list; regions whose order is open; panics. -/
import Derived.Test.YtnocmolegijmkaaGreatKB14
set_option linter.all false
noncomputable section
namespace Go.Bw
open Go
theorem bS.panic {C:Cx} {N:Nat} {Q:AQ} {O:Sg} {L:List au} {ops:Array Oper} {rest:List Oper} {o:Oper} {p:Operand} {t:TypeId} {y:AV} (hg:o.guard=none) (ho:o.op= .panic p) (hp:ev (look O) p=some (.bA t y)) (k:Q (.aM (.bA t y)) [] L):
  bS C N ops (o::rest) Q O L:=λF w0 η0 a w hs hx=>by
 unfold wpList;rw[cj (by simp[Region.wanted,hg])];refine .inl ?_;have h1:=bq hs.sg hp;have h0:=h1;simp only[Rel]at h0;obtain⟨u,h0,_⟩:=h0;have hrun:(execOp a.eval o).run C.P w= .halt (.panic (.iface t u)) w:=by simp[execOp,ho,Instr.panic,h0]
 unfold Oper.wp;rw[hrun];rw[h0]at h1;exact⟨.aM (.bA t y),[],L,k,⟨_,rfl,h1⟩,⟨⟨hs.sg.1,λt x hx=>by simp[AE.sl,look]at hx⟩,hs.hp,hs.df⟩,hx⟩
section
variable {E:Env} {N K:Nat} {Q:DQ} {O:TS} {L:Hp} {o:Oper} {x:CV} {all rest:List Oper}
theorem GD {Z:aH} (s:Sl):SS Z .lf s:=λt x hx=>by simp[Tr.kK]at hx
theorem DO.panic {p:Operand} (hg:o.guard=none) (ho:o.op= .panic p) {t:TypeId} {y:CV} (hp:aV O p=some (.bA t y)) (k:Q (.aM (.bA t y)) .lf L):DO E N K all (o::rest) Q O L:=λZ OB LB hs hh=>by
 obtain⟨z,h1,h2⟩:=b9 hs hp;have h3:=h2;simp only[aG]at h3;obtain⟨u,rfl,_⟩:=h3;exact bS.panic hg ho h1 ⟨Z,.aM (.bA t y),.lf,L,.refl K Z,⟨_,rfl,h2⟩,GD _,hh,k⟩
theorem DO.Fm {p:Operand} (hg:o.guard=none) (ho:o.op= .panic p) {t:TypeId} {y:AV} (hp:aV O p=some (.d (.bA t y))) (k:Q (.aM (.d (.bA t y))) .lf L):DO E N K all (o::rest) Q O L:=λZ OB LB hs hh=>by
 obtain⟨z,h1,h2⟩:=b9 hs hp;simp only[aG]at h2;subst h2;exact bS.panic hg ho h1 ⟨Z,.aM (.d (.bA t y)),.lf,L,.refl K Z,⟨_,rfl,rfl⟩,GD _,hh,k⟩
theorem DO.N8 {j d e:Nat} {want t:Bool} {op:Op} {ty:TypeId} {pos:String} {after:Array Edge} {oj:Oper} (hj:nth all j=some oj) (hjd:oj.dst=some d) (ht:O.get d=some (.d (.v (.bool t))))
  (h1:t=want->DO E N K all (⟨some e,op,ty,pos,after,none⟩::rest) Q (Tr.put 24 O d (some (.d (.v (.bool want))))) L)
  (h2:t= !want->DO E N K all rest Q (Tr.put 24 (Tr.put 24 O d (some (.d (.v (.bool !want))))) e (some (.d (.v undef)))) L)
  (hd:Nat.blt e N=true):DO E N K all (⟨some e,op,ty,pos,after,some (j,want)⟩::rest) Q O L:=λZ OB LB hs hh=>by
 obtain⟨y,h3,h4⟩:=hs d _ ht;simp only[aG]at h4;subst h4;have hjB:(all.toArray[j]?).bind (·.dst)=some d:=by rw[cw]at hj;simp[hj,hjd]
 have hput:∀b,t=b->SS Z (Tr.put 24 O d (some (.d (.v (.bool b))))) (look ((d,.v (.bool b))::OB)):=λb hb=>by
  subst hb;exact hs.put (some d) (x:= .d (.v (.bool t))) (y:= .v (.bool t)) rfl
 exact bS.cD hjB h3 (λe=>h1 e Z _ LB (hput want e) hh) (λe'=>h2 e' Z _ LB ((hput _ e').put (some e) (x:= .d (.v undef)) (y:= .v undef) rfl) hh) hd
theorem DO.Fl {j d e:Nat} {want:Bool} {op:Op} {ty:TypeId} {pos:String} {after:Array Edge} {oj:Oper} (hj:nth all j=some oj) (hjd:oj.dst=some d) (ht:O.get d=some (.d (.v undef)))
  (h2:DO E N K all rest Q (Tr.put 24 O e (some (.d (.v undef)))) L) (hd:Nat.blt e N=true):DO E N K all (⟨some e,op,ty,pos,after,some (j,want)⟩::rest) Q O L:=λZ OB LB hs hh=>by
 obtain⟨y,h3,h4⟩:=hs d _ ht;simp only[aG]at h4;subst h4;have hjB:(all.toArray[j]?).bind (·.dst)=some d:=by rw[cw]at hj;simp[hj,hjd]
 exact bS.Fl hjB h3 (h2 Z _ LB (hs.put (some e) (x:= .d (.v undef)) (y:= .v undef) rfl) hh) hd
def eL (Z:aH):List (Nat×List CV)->Nu->Prop
 |[],ys=>ys=[]
 |x::xs,ys=>∃y r,ys=y::r/\y.1=x.1/\aN Z x.2 y.2/\eL Z xs r
theorem eL.append {Z:aH}:∀{xs xs':List (Nat×List CV)} {ys ys':Nu},eL Z xs ys->eL Z xs' ys'->eL Z (xs++xs') (ys++ys')
 |[],_,_,_,h,g=>by simp only[eL]at h;subst h;simpa using g
 |_::_,_,_,_,h,g=>by simp only[eL]at h;obtain⟨y,r,rfl,h1,h2,h⟩:=h;simp only[jJ,eL];exact⟨y,_,rfl,h1,h2,eL.append h g⟩
theorem eL.mem {Z:aH}:∀{xs:List (Nat×List CV)} {ys:Nu},eL Z xs ys->∀p∈ys,∃q∈xs,q.1=p.1
 |[],_,h,p,hp=>by simp only[eL]at h;subst h;cases hp
 |x::_,_,h,p,hp=>by
  simp only[eL]at h;obtain⟨y,r,rfl,h1,_,h⟩:=h;rcases cu.1 hp with rfl|hp
  ·exact⟨x,by simp,h1.symm⟩
  ·obtain⟨q,h2,h3⟩:=eL.mem h p hp;exact⟨q,by simp[h2],h3⟩
def zc (K:Nat) (Z:aH) (Q:DQ):Sl->List au->Prop:=λs L'=>∃O1,(∀t x,look O1 t=some x->s t=some x)/\lift K Z Q .norm O1 L'
def sr (K:Nat) (Z:aH) (Q:DQ):AV->List au->Prop:=λx L'=>lift K Z Q (.aM x) [] L'
def ea (E:Env) (N K:Nat) (all:List Oper) (tl:List (Nat×Oper×TK)) (A:bM) (Q:DQ) (L:Hp) (pre:List Oper) (O:TS) (W:List (Nat×List CV)):Prop:=
 ∀Z s LB WB,SS Z O s->HS Z L LB->eL Z W WB->rL E.toCx N LB all.toArray (λst=>∃O',(∀t x,look O' t=some x->st.1 t=some x)/\
  iF st.2 λzs=>jx E.toCx N all.toArray (zc K Z Q) (sr K Z Q) tl A [] (rM A (look (fW LB.length zs++O'))) (LB++cO zs)) pre (s,WB)
theorem SS.a8 {Z:aH} {s:Sl} (hs:SS Z O s) (dst:Option Nat) {y:AV} (hx:aG Z x y):SS Z (bY O dst x) (a8 s dst (some y)):=by
 cases dst with
 |none=>exact hs
 |some d=>
  intro t z hz;rcases Tr.fb 24 O d t (some x) z hz with⟨rfl,h1⟩|⟨hne,h1⟩
  ·cases h1;exact⟨y,by simp[Bw.a8],hx⟩
  ·obtain⟨u,h2,h3⟩:=hs t z h1;exact⟨u,by simp[Bw.a8,hne,h2],h3⟩
theorem SS.del {Z:aH} {s:Sl} (hs:SS Z O s) (d:Nat):SS Z (Tr.put 24 O d none) (Bw.a8 s (some d) none):=by
 intro t z hz;rcases Tr.fb 24 O d t none z hz with⟨_,h1⟩|⟨hne,h1⟩
 ·cases h1
 ·obtain⟨u,h2,h3⟩:=hs t z h1;exact⟨u,by simp[Bw.a8,hne,h2],h3⟩
def cG (all:List Oper) (o:Oper) (O:TS):Option Bool:=match o.guard with
 |none=>some true
 |some (j,want)=>match(nth all j).bind (·.dst)with
  |none=>some false
  |some d=>match O.get d with
   |some (.d (.v (.bool b)))=>some (b==want)
   |some (.d (.v (.tuple _)))=>some false
   |_=>none
theorem kD {Z:aH} {s:Sl} (hs:SS Z O s) {b:Bool} (h:cG all o O=some b):kH all.toArray o s=some b:=by
 unfold cG at h;unfold kH;cases hg:o.guard with
 |none=>rw[hg]at h;exact h
 |some p=>
  obtain⟨j,want⟩:=p;rw[hg]at h;simp only at h⊢;have hj:(all.toArray[j]?).bind (·.dst)=(nth all j).bind (·.dst):=by rw[cw];simp
  rw[hj];cases hd:(nth all j).bind (·.dst)with
  |none=>rw[hd]at h;exact h
  |some d=>
   rw[hd]at h;simp only at h⊢;split at h
   ·rename_i q hq;obtain⟨y,h1,h2⟩:=hs d _ hq;simp only[aG]at h2;subst h2;simp only[h1];exact h
   ·rename_i q hq;obtain⟨y,h1,h2⟩:=hs d _ hq;simp only[aG]at h2;subst h2;simp only[h1];exact h
   ·cases h
def mh (o:Oper) (W:List (Nat×List CV)):Bool:=match o.dst with
 |none=>true
 |some d=>W.all λp=>!Nat.beq p.1 d
theorem Em {Z:aH} {W:List (Nat×List CV)} {WB:Nu} (h:mh o W=true) (hn:eL Z W WB):fresh o WB:=by
 intro d hd p hp he;unfold mh at h;rw[hd]at h;simp only[je,lU]at h;obtain⟨q,h1,h2⟩:=hn.mem p hp;have:=h q h1;rw[h2,he,Ah]at this;cases this
theorem ea.val {pre:List Oper} {A:bM} {tl:List (Nat×Oper×TK)} {W:List (Nat×List CV)} (hd:cx N o.dst=true) (hw:cG all o O=some true) (hf:mh o W=true) (h:ba E N o O L x) (k:ea E N K all tl A Q L pre (bY O o.dst x) W):
  ea E N K all tl A Q L (o::pre) O W:=λZ s LB WB hs hh hn=>by
 obtain⟨y,h1,h2⟩:=h Z s LB hs hh;exact⟨Em hf hn,some y,[],⟨hd,.inl ⟨kD hs hw,.inl ⟨y,h2,rfl,rfl⟩⟩⟩,by simpa using k Z _ LB WB (hs.a8 o.dst h1) hh hn⟩
theorem ea.skip {pre:List Oper} {A:bM} {tl:List (Nat×Oper×TK)} {W:List (Nat×List CV)} (hd:cx N o.dst=true) (hw:cG all o O=some false) (hf:mh o W=true) (k:ea E N K all tl A Q L pre (bY O o.dst (.d (.v undef))) W):
  ea E N K all tl A Q L (o::pre) O W:=λZ s LB WB hs hh hn=>by
 exact⟨Em hf hn,some (.v undef),[],⟨hd,.inr ⟨kD hs hw,rfl,rfl⟩⟩,by simpa using k Z _ LB WB (hs.a8 o.dst rfl) hh hn⟩
theorem ea.new {pre:List Oper} {A:bM} {tl:List (Nat×Oper×TK)} {W:List (Nat×List CV)} {d:Nat} {cells:List CV} (hdd:o.dst=some d) (hd:Nat.blt d N=true) (hw:cG all o O=some true) (hf:mh o W=true) (h:∀Z s LB,SS Z O s->HS Z L LB->∃cs,aN Z cells cs/\fF E.toCx N o s LB cs)
  (k:ea E N K all tl A Q L pre (Tr.put 24 O d none) (W++[(d,cells)])):ea E N K all tl A Q L (o::pre) O W:=λZ s LB WB hs hh hn=>by
 obtain⟨cs,h1,h2⟩:=h Z s LB hs hh;refine⟨Em hf hn,none,[(d,cs)],⟨by rw[hdd];exact hd,.inl ⟨kD hs hw,.inr ⟨d,cs,hdd,h2,rfl,rfl⟩⟩⟩,?_⟩;rw[hdd];exact k Z _ LB _ (hs.del d) hh (hn.append (by simp only[eL];exact⟨_,_,rfl,rfl,h1,rfl⟩))
theorem ba.PW {cells:List AV} (h:∀Z s LB,SS Z O s->HS Z L LB->∃cs,aN Z (cells.map .d) cs/\fF E.toCx N o s LB cs):ba E N o O L (.d (.ip cells)):=λZ s LB hs hh=>by
 obtain⟨cs,h1,h2⟩:=h Z s LB hs hh;have:cs=cells:=by
  have:=pg (zs:=cells) (by
   have key:∀l:List AV,fU (l.map .d)=some l:=by
    intro l;induction l with
    |nil=>rfl
    |cons y l ih=>simp[fU,ih]
   exact key cells) h1
  exact this
 subst this;exact⟨_,rfl,h2.frozen⟩
theorem ba.lit {t:TypeId} {n:Nat} {parts:Array (Nat×Operand)} {e k sz by' sz' by'':Nat} {z z':List Value} {td':TD} {cells:List AV} (ho:o.op= .buildSlice t n parts)
  (ht:aY E.T t=some ⟨.slice e k,sz,by',z⟩) (hte:aY E.T e=some ⟨td',sz',by'',z'⟩) (hf:eK k (ee O) (gK n (z'.map .v)) parts.toList=some cells) (hb:Nat.ble (n*k) 16777216=true) (hk:Nat.ble 1 k=true):
  ba E N o O L (.d (.sl k (chunk n k cells))):=λ_ _ _ hs _=>⟨_,rfl,(bP.lit ho ht hte hf hb hk).mono λ_ _ _ hy=>kL hs hy⟩
theorem ea.guard {pre:List Oper} {A:bM} {tl:List (Nat×Oper×TK)} {W:List (Nat×List CV)} {d:Nat} {b:Bool} (hb:O.get d=some (.d (.v (.bool b)))) (h1:b=true->ea E N K all tl A Q L pre (Tr.put 24 O d (some (.d (.v (.bool true))))) W)
  (h2:b=false->ea E N K all tl A Q L pre (Tr.put 24 O d (some (.d (.v (.bool false))))) W):ea E N K all tl A Q L pre O W:=λZ s LB WB hs hh hn=>by
 have key:SS Z (Tr.put 24 O d (some (.d (.v (.bool b))))) s:=λt z hz=>by
  rcases Tr.fb 24 O d t _ z hz with⟨rfl,h3⟩|⟨_,h3⟩
  ·cases h3;exact hs _ _ hb
  ·exact hs t z h3
 cases b with
 |true=>exact h1 rfl Z s LB WB key hh hn
 |false=>exact h2 rfl Z s LB WB key hh hn
def Tr.keys {D:Type}:Tr D->List Nat
 | .lf=>[]
 | .nd _ l r=>0::(l.keys.map (2* ·+1)++r.keys.map (2* ·+2))
theorem Tr.mem_keys {D:Type}:∀{t:Tr D} {n:Nat} {x:D},t.get n=some x->n∈t.keys
 | .lf,_,_,h=>by simp[Tr.kK]at h
 | .nd y l r,n,x,h=>by
  simp only[Tr.pI,l6,l7]at h;simp only[Tr.keys,cu,cL,dB];cases h0:Nat.beq n 0 with
  |true=>exact .inl (bC h0)
  |false=>
   rw[h0]at h;have h0:=gz h0;simp only at h;cases h1:Nat.beq (Nat.mod n 2) 1 with
   |true=>
    rw[h1]at h;have h1:=bC h1;change n%2=1 at h1;exact .inr (.inl ⟨_,Tr.mem_keys h,by change 2*(n/2)+1=n;omega⟩)
   |false=>
    rw[h1]at h;have h1:=gz h1;change ¬n%2=1 at h1;exact .inr (.inr ⟨_,Tr.mem_keys h,by change 2*(n/2-1)+2=n;omega⟩)
def eU:List (Nat×List CV)->TS->Hp->TS×Hp
 |[],O,L=>(O,L)
 |(d,cs)::r,O,L=>eU r (Tr.put 24 O d (some (.own L.n 0))) (L.push (.box cs))
theorem K8 {d:Nat} {y:AV}:∀{l r:Sg},d∉l.map (·.1)->∀t,look ((d,y)::(l++r)) t=look (l++(d,y)::r) t
 |[],_,_,_=>rfl
 |(e,z)::l,r,hd,t=>by
  simp only[dY,cu,not_or]at hd;have ih:=K8 (y:=y) (r:=r) hd.2 t;simp only[jJ,look]at ih⊢;cases h1:Nat.beq d t with
  |true=>
   rw[h1]at ih;have:Nat.beq e t=false:=by
    cases h2:Nat.beq e t with
    |false=>rfl
    |true=>exact absurd ((bC h1).trans (bC h2).symm) hd.1
   rw[this];exact ih
  |false=>
   rw[h1]at ih;cases h2:Nat.beq e t with
   |true=>rfl
   |false=>exact ih
theorem K9:∀(zs:List ((Nat×List AV)×Nat)) (n:Nat),(fW n zs).map (·.1)=zs.map λz=>z.1.1
 |[],_=>rfl
 |z::zs,n=>by simp[fW,K9 zs (n+1)]
theorem EA : ∀ {W : List (Nat × List CV)} {Z : aH} {O : TS} {L : Hp} {OB : Sg} {LB : List au} {zs : List ((Nat × List AV) × Nat)}, SS Z O (look OB) → HS Z L LB → eL Z W (zs.map (·.1)) → fw (W.map (·.1)) = true →
    ∃ Z', Z.le Z' ∧ SS Z' (eU W O L).1 (look (fW LB.length zs ++ OB)) ∧ HS Z' (eU W O L).2 (LB ++ cO zs)
  | [], Z, O, L, OB, LB, zs, hs, hh, hn, _ => by
    simp only [eL, List.map_eq_nil_iff] at hn; subst hn
    exact ⟨Z, .refl Z, hs, by have h0 : LB ++ cO [] = LB := by simp [cO]
                              rw [h0]; exact hh⟩
  | (d, cs) :: W, Z, O, L, OB, LB, zs, hs, hh, hn, hnd => by
    simp only [eL] at hn
    obtain ⟨y, r, he, h1, h2, hn⟩ := hn
    match zs, he with
    | ((d', us), b) :: zs, he =>
      simp only [dY, ll] at he
      obtain ⟨rfl, rfl⟩ := he
      simp only at h1 h2
      subst h1
      simp only [dY, fw, bG, lU] at hnd
      have hdom := hh.gV L.n (bU _)
      have hl : Z.le (Z.iG L.n b) := aH.E2 hdom.1
      have hbn : (Z.iG L.n b).b L.n = some b := by simp [aH.iG]
      have hs1 : SS (Z.iG L.n b) (Tr.put 24 O d' (some (.own L.n 0))) (look ((d', .own LB.length b 0) :: OB)) := (hs.mono hl).put (some d') (x := .own L.n 0) (by simp only [aG]; exact ⟨b, LB.length, hbn, rfl⟩)
      have hh1 : HS (Z.iG L.n b) (L.push (.box cs)) (LB ++ [.box b us]) := hh.push hl (fun _ _ => rfl) (fun i hi => by simp [aH.iG, hi]) ⟨b, us, hbn, rfl, h2.mono hl⟩
      have nmono : ∀ {W : List (Nat × List CV)} {ys : Nu}, eL Z W ys → eL (Z.iG L.n b) W ys := by
        intro W
        induction W with
        | nil => intro ys h; exact h
        | cons q W ih =>
          intro ys h
          simp only [eL] at h ⊢
          obtain ⟨y, r, e, g1, g2, g3⟩ := h
          exact ⟨y, r, e, g1, g2.mono hl, ih g3⟩
      obtain ⟨Z', h3, h4, h5⟩ := EA (zs := zs) hs1 hh1 (nmono hn) hnd.2
      refine ⟨Z', hl.trans h3, ?_, ?_⟩
      · have hd : d' ∉ (fW (LB ++ [au.box b us]).length zs).map (·.1) := by
          rw [K9]
          intro hm
          obtain ⟨z, hz, he⟩ := dB.1 hm
          obtain ⟨q, g1, g2⟩ := hn.mem z.1 (dB.2 ⟨z, hz, rfl⟩)
          have : (W.map (·.1)).contains d' = true := by rw [JW]; exact dB.2 ⟨q, g1, by rw [g2, he]⟩
          rw [hnd.1] at this; cases this
        intro t x hx
        obtain ⟨u, g1, g2⟩ := h4 t x hx
        refine ⟨u, ?_, g2⟩
        have hlen : (LB ++ [au.box b us]).length = LB.length + 1 := by simp
        rw [hlen] at g1 hd
        show look ((d', .own LB.length b 0) :: (fW (LB.length + 1) zs ++ OB)) t = some u
        rw [K8 hd]; exact g1
      · have : LB ++ cO (((d', us), b) :: zs) = (LB ++ [au.box b us]) ++ cO zs := by simp [cO]
        rw [this]; exact h5
def fB (Z:aH):List (Nat×Oper×CV)->fX->Prop
 |[],ys=>ys=[]
 |x::xs,ys=>∃y r,ys=y::r/\y.1=x.1/\y.2.1=x.2.1/\aG Z x.2.2 y.2.2/\fB Z xs r
theorem fB.mono {Z Z':aH} (h:Z.le Z'):∀{xs:List (Nat×Oper×CV)} {ys:fX},fB Z xs ys->fB Z' xs ys
 |[],_,h1=>by simp only[fB]at h1⊢;exact h1
 |_::_,_,h1=>by simp only[fB]at h1⊢;obtain⟨y,r,e,h2,h3,h4,h5⟩:=h1;exact⟨y,r,e,h2,h3,h4.mono h,fB.mono h h5⟩
def cI (all:List Oper) (j:Nat) (pend:List (Nat×Oper×CV)):List (Nat×Oper×CV):=pend.filter λp=>!eA all.toArray p.1 j
theorem fB.bo {Z:aH} (j:Nat):∀{xs:List (Nat×Oper×CV)} {ys:fX},fB Z xs ys->fB Z (cI all j xs) (cN all.toArray j ys)
 |[],_,h1=>by simp only[fB]at h1;subst h1;rfl
 |x::xs,_,h1=>by
  simp only[fB]at h1;obtain⟨y,r,rfl,h2,h3,h4,h5⟩:=h1;have ih:=fB.bo j h5;simp only[cI,cN,S1,h2]at ih⊢;cases eA all.toArray x.1 j with
  |true=>exact ih
  |false=>simp only[vJ,if_true,fB];exact⟨y,_,rfl,h2,h3,h4,ih⟩
theorem fB.mem {Z:aH}:∀{xs:List (Nat×Oper×CV)} {ys:fX},fB Z xs ys->∀p∈ys,∃q∈xs,p.1=q.1/\p.2.1=q.2.1/\aG Z q.2.2 p.2.2
 |[],_,h,p,hp=>by simp only[fB]at h;subst h;cases hp
 |x::_,_,h,p,hp=>by
  simp only[fB]at h;obtain⟨y,r,rfl,h1,h2,h3,h⟩:=h;rcases cu.1 hp with rfl|hp
  ·exact⟨x,by simp,h1,h2,h3⟩
  ·obtain⟨q,g1,g2⟩:=fB.mem h p hp;exact⟨q,by simp[g1],g2⟩
def xG (E:Env) (N:Nat) (all:List Oper) (o:Oper) (O:TS) (L:Hp) (x:CV):Prop:=(cG all o O=some true/\ba E N o O L x)\/(cG all o O=some false/\x= .d (.v undef))
def aF (E:Env) (N:Nat) (all:List Oper) (pend:List (Nat×Oper×CV)) (O:TS) (L:Hp):Prop:=∀p∈pend,xG E N all p.2.1 O L p.2.2
theorem xG.ok {Z:aH} {s:Sl} {LB:List au} (hs:SS Z O s) (hh:HS Z L LB) (h:xG E N all o O L x):∃y,aG Z x y/\kj E.toCx N all.toArray o s LB y:=by
 rcases h with⟨h1,h2⟩|⟨h1,rfl⟩
 ·obtain⟨y,h3,h4⟩:=h2 Z s LB hs hh;exact⟨y,h3,.inl ⟨kD hs h1,h4⟩⟩
 ·exact⟨.v undef,rfl,.inr ⟨kD hs h1,rfl⟩⟩
theorem aF.ok {Z:aH} {s:Sl} {LB:List au} {pend:List (Nat×Oper×CV)} {pb:fX} (hs:SS Z O s) (hh:HS Z L LB) (h:aF E N all pend O L) (hp:fB Z pend pb):lA E.toCx N all.toArray pb s LB:=λp hpm=>by
 obtain⟨q,h1,h2,h3,h4⟩:=hp.mem p hpm;rw[h3];rcases h q h1 with⟨g1,g2⟩|⟨g1,g2⟩
 ·obtain⟨y,g3,g4⟩:=g2 Z s LB hs hh;exact .inl ⟨kD hs g1,bP.same g3 h4 g4⟩
 ·rw[g2]at h4;simp only[aG]at h4;exact .inr ⟨kD hs g1,h4⟩
theorem SS.up {Z:aH} {s s':Sl} (h:SS Z O s) (hu:∀t x,s t=some x->s' t=some x):SS Z O s':=λt x hx=>by
 obtain⟨y,h1,h2⟩:=h t x hx;exact⟨y,hu t y h1,h2⟩
def dH (A:bM):List (Nat×List CV):=A.map λp=>(p.2.1,p.2.2.map .d)
def wY:bM->TS->TS
 |[],O=>O
 |p::A,O=>wY A (Tr.put 24 O p.2.1 none)
theorem KH:∀{A:bM} {O:TS} {t:Nat} {x:CV},(wY A O).get t=some x->t∉A.map (·.2.1)/\O.get t=some x
 |[],_,_,_,h=>⟨by simp,h⟩
 |p::A,O,t,x,h=>by
  obtain⟨h1,h2⟩:=KH (A:=A) h;rcases Tr.fb 24 O p.2.1 t none x h2 with⟨_,h3⟩|⟨h3,h4⟩
  ·cases h3
  ·exact⟨by simp only[dY,cu,not_or];exact⟨h3,h1⟩,h4⟩
theorem L1 {Z:aH}:∀A:bM,eL Z (dH A) (mG A)
 |[]=>rfl
 |p::A=>by
  simp only[dH,mG,dY,eL];exact⟨_,_,rfl,rfl,ir _,L1 A⟩
def cA (E:Env) (N K:Nat) (all:List Oper) (Q:DQ) (l:List (Nat×Oper×TK)) (A:bM) (pend:List (Nat×Oper×CV)) (O:TS) (L:Hp):Prop:=
 ∀Z s LB pb,SS Z O s->HS Z L LB->fB Z pend pb->jx E.toCx N all.toArray (zc K Z Q) (sr K Z Q) l A pb s LB
theorem qF {C:Cx} {ops:Array Oper} {Qn Qn':Sl->List au->Prop} {Qp Qp':AV->List au->Prop} (h1:∀s L,Qn s L->Qn' s L) (h2:∀x L,Qp x L->Qp' x L):∀{l:List (Nat×Oper×TK)} {A:bM} {pend:fX} {s:Sl} {L:List au},
  jx C N ops Qn Qp l A pend s L->jx C N ops Qn' Qp' l A pend s L
 |[],_,_,_,_,h=>⟨h.1,h1 _ _ h.2⟩
 |(i,o,.fl)::r,_,_,_,_,h=>by
  obtain⟨g1,g2,y,g3⟩:=h;exact⟨g1,g2,y,g3.imp (λ⟨a,b⟩=>⟨a,qF h1 h2 b⟩) λ⟨a,b⟩=>⟨a,qF h1 h2 b⟩⟩
 |(i,o,.one)::r,_,_,_,_,h=>by
  obtain⟨g1,g2⟩:=h;exact⟨g1,A4 g2 λzs _ ⟨b1,b2⟩=>⟨b1,b2.imp (λ⟨a1,R,a2,a3,a4⟩=>⟨a1,R,a2,λx L' hR=>qF h1 h2 (a3 x L' hR),λx L' hR=>h2 _ _ (a4 x L' hR)⟩) λ⟨a1,a2⟩=>⟨a1,qF h1 h2 a2⟩⟩⟩
 |[(_,_,.two)],_,_,_,_,h=>h
 |(i,o,.two)::(j,o',x)::r,_,_,_,_,h=>by
  obtain⟨g1,g2,g3⟩:=h;have up:∀{o:Oper} {s:Sl} {L:List au} {nx nx':Sl->List au->Prop},fY C N ops o s L nx Qp->(∀s L,nx s L->nx' s L)->fY C N ops o s L nx' Qp':=λh hn=>
   ⟨h.1,h.2.imp (λ⟨a1,R,a2,a3,a4⟩=>⟨a1,R,a2,λx L' hR=>hn _ _ (a3 x L' hR),λx L' hR=>h2 _ _ (a4 x L' hR)⟩) λ⟨a1,a2⟩=>⟨a1,hn _ _ a2⟩⟩
  exact⟨g1,up g2 λs1 η1 q=>⟨q.1,up q.2 λs2 L2 q=>qF h1 h2 q⟩,up g3 λs1 η1 q=>⟨q.1,up q.2 λs2 L2 q=>qF h1 h2 q⟩⟩
theorem cA.up {Z Z':aH} (hl:Z.le Z') {l:List (Nat×Oper×TK)} {A:bM} {pb:fX} {s:Sl} {LB:List au} (h:jx E.toCx N all.toArray (zc K Z' Q) (sr K Z' Q) l A pb s LB):jx E.toCx N all.toArray (zc K Z Q) (sr K Z Q) l A pb s LB:=
 qF (λ_ _ ⟨O1,h1,h2⟩=>⟨O1,h1,qE (hl.toK K) (λ_ _ _ h=>h) h2⟩) (λ_ _ h=>qE (hl.toK K) (λ_ _ _ h=>h) h) h
section
variable {l:List (Nat×Oper×TK)} {A:bM} {pend:List (Nat×Oper×CV)} {i:Nat}
theorem cA.nil (hp:aF E N all pend O L) (h:Q .norm O L):cA E N K all Q [] A pend O L:=λZ s LB pb hs hh hpi=>by
 refine⟨hp.ok hs hh hpi,dv s O.keys,λt x hx=>(kE hx).2,sP (d:= .norm) rfl (λt x hx=>?_) hh h⟩;obtain⟨y,h1,h2⟩:=hs t x hx;exact⟨y,by rw[sF (Tr.mem_keys hx)];exact h1,h2⟩
theorem cA.fl (hp:aF E N all pend O L) (hd:cx N o.dst=true) (hv:xG E N all o O L x) (k:cA E N K all Q l A ((i,o,x)::pend) (bY O o.dst x) L):cA E N K all Q ((i,o,.fl)::l) A pend O L:=λZ s LB pb hs hh hpi=>by
 obtain⟨y,h1,h2⟩:=hv.ok hs hh;exact⟨hp.ok hs hh hpi,hd,y,.inl ⟨h2,k Z _ LB _ (hs.a8 o.dst h1) hh (by simp only[fB];exact⟨_,_,rfl,rfl,rfl,h1,hpi⟩)⟩⟩
def bm (E:Env) (N:Nat) (o:Oper) (O:TS) (x:CV):Prop:=∀Z s LB,SS Z O s->∃y,aG Z x y/\bP E.toCx N o s LB y
theorem cA.st (hp:aF E N all pend O L) (hd:cx N o.dst=true) (hv:(cG all o O=some true/\bm E N o O x)\/(cG all o O=some false/\x= .d (.v undef))) (k:cA E N K all Q l A pend (bY O o.dst x) L):cA E N K all Q ((i,o,.fl)::l) A pend O L:=λZ s LB pb hs hh hpi=>by
 rcases hv with⟨hw,hv⟩|⟨hw,rfl⟩
 ·obtain⟨y,h1,_⟩:=hv Z s [] hs;refine⟨hp.ok hs hh hpi,hd,y,.inr ⟨λL'=> .inl ⟨kD hs hw,?_⟩,k Z _ LB _ (hs.a8 o.dst h1) hh hpi⟩⟩;obtain⟨y',g1,g2⟩:=hv Z s L' hs;exact bP.same g1 h1 g2
 ·exact⟨hp.ok hs hh hpi,hd,.v undef,.inr ⟨λL'=> .inr ⟨kD hs hw,rfl⟩,k Z _ LB _ (hs.a8 o.dst rfl) hh hpi⟩⟩
theorem cA.Rx {Z:aH} {s:Sl} {LB:List au} {M:bM} (hs:SS Z O s) (hh:HS Z L LB) (hnd:fw ((dH M).map (·.1))=true) {zs:List ((Nat×List AV)×Nat)} (hz:zs.map (·.1)=mG M):
  ∃Z',Z.le Z'/\SS Z' (eU (dH M) O L).1 (ga LB.length zs s)/\HS Z' (eU (dH M) O L).2 (LB++cO zs):=by
 have hs':SS Z O (look (dv s O.keys)):=λt x hx=>by
  obtain⟨y,h1,h2⟩:=hs t x hx;exact⟨y,by rw[sF (Tr.mem_keys hx)];exact h1,h2⟩
 obtain⟨Z',h1,h2,h3⟩:=EA (zs:=zs) hs' hh (by rw[hz];exact L1 M) hnd;refine⟨Z',h1,h2.up λt x hx=>?_,h3⟩;simp only[ga];cases hl:look (fW LB.length zs) t with
 |some y=>
  have happ:∀(l r:Sg) (y:AV),look l t=some y->look (l++r) t=some y:=by
   intro l r
   induction l with
   |nil=>intro y h;simp[look]at h
   |cons p l ih=>
    intro y h;obtain⟨k,v⟩:=p;simp only[jJ,look]at h⊢;split
    ·rename_i hb;rw[hb]at h;exact h
    ·rename_i hb;rw[hb]at h;exact ih y h
  rw[happ _ _ y hl]at hx;exact hx
 |none=>
  have happ:∀(l r:Sg),look l t=none->look (l++r) t=look r t:=by
   intro l r
   induction l with
   |nil=>intro _;rfl
   |cons p l ih=>
    intro h;obtain⟨k,v⟩:=p;simp only[jJ,look]at h⊢;split
    ·rename_i hb;rw[hb]at h;cases h
    ·rename_i hb;rw[hb]at h;exact ih h
  rw[happ _ _ hl]at hx;exact(kE hx).2
theorem cA.skip (hp:aF E N all pend O L) (hnd:fw ((dH (b8 all.toArray i A)).map (·.1))=true) (hd:cx N o.dst=true) (hw:cG all o (eU (dH (b8 all.toArray i A)) O L).1=some false)
  (k:cA E N K all Q l (cn all.toArray i A) (cI all i pend) (bY (eU (dH (b8 all.toArray i A)) O L).1 o.dst (.d (.v undef))) (eU (dH (b8 all.toArray i A)) O L).2):cA E N K all Q ((i,o,.one)::l) A pend O L:=λZ s LB pb hs hh hpi=>
 ⟨hp.ok hs hh hpi,vV λzs hz=>by
  obtain⟨Z1,hl1,hs1,hh1⟩:=cA.Rx hs hh hnd hz;exact⟨hd,.inr ⟨kD hs1 hw,cA.up hl1 (k Z1 _ _ _ (hs1.a8 o.dst rfl) hh1 ((hpi.mono hl1).bo i))⟩⟩⟩
theorem cA.oN {R:DR->Hp->Prop} (hp:aF E N all pend O L) (hnd:fw ((dH (b8 all.toArray i A)).map (·.1))=true) (hd:cx N o.dst=true) {O1:TS} {η1:Hp} (cz:eU (dH (b8 all.toArray i A)) O L=(O1,η1)) (hw:cG all o O1=some true) (h:bL E N o O1 η1 R)
  (k1:∀x L',R (.ret x) L'->cA E N K all Q l (cn all.toArray i A) (cI all i pend) (bY O1 o.dst x) L')
  (k2:∀x L',R (.aM x) L'->Q (.aM x) .lf L'):cA E N K all Q ((i,o,.one)::l) A pend O L:=λZ s LB pb hs hh hpi=>by
 refine⟨hp.ok hs hh hpi,vV λzs hz=>?_⟩;obtain⟨Z1,hl1,hs1,hh1⟩:=cA.Rx hs hh hnd hz;rw[cz]at hs1 hh1;refine⟨hd,.inl ⟨kD hs1 hw,_,h Z1 _ _ hs1 hh1,?_,?_⟩⟩
 ·rintro y LB' ⟨Z',d,L',hl,hi,hh',hR⟩;cases d with
  |ret x=>
   obtain⟨y',e,hi⟩:=hi;cases e;exact cA.up (hl1.trans hl) (k1 x L' hR Z' _ LB' _ ((hs1.mono hl).a8 o.dst hi) hh' ((hpi.mono (hl1.trans hl)).bo i))
  |aM x=>obtain⟨y',e,_⟩:=hi;cases e
 ·rintro y LB' ⟨Z',d,L',hl,hi,hh',hR⟩;cases d with
  |ret x=>obtain⟨y',e,_⟩:=hi;cases e
  |aM x=>
   obtain⟨y',e,hi⟩:=hi;cases e;exact⟨Z',.aM x,.lf,L',(hl1.trans hl).toK K,⟨y,rfl,hi⟩,GD _,hh',k2 x L' hR⟩
theorem cA.pair {j:Nat} {o':Oper} {x:TK} {η1 L2 L3:Hp} (hp:aF E N all pend O L) (hd:o.dst=none) (hd':o'.dst=none) (hw:cG all o O=some true) (hw':cG all o' O=some true)
  (h1:bL E N o O L (λr L'=>r= .ret (.d (.v undef))/\L'=η1)) (p1:aF E N all (cI all i pend) O η1) (h2:bL E N o' O η1 (λr L'=>r= .ret (.d (.v undef))/\L'=L3))
  (h3:bL E N o' O L (λr L'=>r= .ret (.d (.v undef))/\L'=L2)) (p2:aF E N all (cI all j pend) O L2) (h4:bL E N o O L2 (λr L'=>r= .ret (.d (.v undef))/\L'=L3))
  (k:cA E N K all Q l A (cI all j (cI all i pend)) O L3):cA E N K all Q ((i,o,.two)::(j,o',x)::l) A pend O L:=λZ s LB pb hs hh hpi=>by
 have go:∀{oa ob:Oper} {ia:Nat} {La:Hp},oa.dst=none->ob.dst=none->cG all oa O=some true->cG all ob O=some true->bL E N oa O L (λr L'=>r= .ret (.d (.v undef))/\L'=La)->aF E N all (cI all ia pend) O La->
   bL E N ob O La (λr L'=>r= .ret (.d (.v undef))/\L'=L3)->
   fY E.toCx N all.toArray oa s LB (λs1 η1=>lA E.toCx N all.toArray (cN all.toArray ia pb) s1 η1/\fY E.toCx N all.toArray ob s1 η1 (jx E.toCx N all.toArray (zc K Z Q) (sr K Z Q) l A (cN all.toArray j (cN all.toArray i pb))) (sr K Z Q)) (sr K Z Q):=by
  intro oa ob ia La da db wa wb ha pa hb;refine⟨by rw[da];rfl,.inl ⟨kD hs wa,_,ha Z s LB hs hh,?_,?_⟩⟩
  ·rintro y LB' ⟨Z',d,L',hl,hi,hh',rfl,rfl⟩;rw[da];refine⟨pa.ok (hs.mono hl) hh' ((hpi.mono hl).bo ia),by rw[db];rfl,.inl ⟨kD hs wb,_,hb Z' s LB' (hs.mono hl) hh',?_,?_⟩⟩
   ·rintro y' LB2 ⟨Z2,d2,L2',hl2,hi2,hh2,rfl,rfl⟩;rw[db];exact cA.up (hl.trans hl2) (k Z2 s LB2 _ (hs.mono (hl.trans hl2)) hh2 (((hpi.mono (hl.trans hl2)).bo i).bo j))
   ·rintro y' LB2 ⟨Z2,d2,L2',hl2,hi2,hh2,rfl,rfl⟩;obtain⟨_,e,_⟩:=hi2;cases e
  ·rintro y LB' ⟨Z',d,L',hl,hi,hh',rfl,rfl⟩;obtain⟨_,e,_⟩:=hi;cases e
 exact⟨hp.ok hs hh hpi,go hd hd' hw hw' h1 p1 h2,go hd' hd hw' hw h3 p2 h4⟩
end
theorem ea.nil {A:bM} {tl:List (Nat×Oper×TK)} {W:List (Nat×List CV)} (hnd:fw (W.map (·.1))=true) (k:cA E N K all Q tl A [] (wY A (eU W O L).1) (eU W O L).2):ea E N K all tl A Q L [] O W:=λZ s LB WB hs hh hn=>by
 refine⟨dv s O.keys,λt x hx=>(kE hx).2,?_⟩;have hs':SS Z O (look (dv s O.keys)):=λt x hx=>by
  obtain⟨y,h1,h2⟩:=hs t x hx;exact⟨y,by rw[sF (Tr.mem_keys hx)];exact h1,h2⟩
 refine vV λzs hz=>?_;obtain⟨Z',h1,h2,h3⟩:=EA (zs:=zs) hs' hh (by rw[hz];exact hn) hnd;refine cA.up h1 (k Z' _ _ [] (λt x hx=>?_) h3 rfl);obtain⟨g1,g2⟩:=KH hx;obtain⟨y,g3,g4⟩:=h2 t x g2;refine⟨y,?_,g4⟩;unfold rM;have:(A.map (·.2.1)).contains t=false:=by
  cases hc:(A.map (·.2.1)).contains t with
  |false=>rfl
  |true=>exact absurd (JW.1 hc) g1
 rw[this];exact g3
theorem DC.open {id:Nat} {l:List Oper} (pre:List Nat) (tl:List (Nat×TK)) (al:List Nat) (A:bM) (hm:E.P.follows .mixedOrders=true) (hA:nK E.T l.toArray N al=some A) (hB:pH l.toArray pre tl al=true) (hl:Nat.beq (fS l.toArray pre).length pre.length=true) (h:ea E N K l (jQ l.toArray tl) A Q L (fS l.toArray pre) O []):
  DC E N K (.region id l.toArray true) Q O L:=λZ OB LB hs hh=>
 bV.WH pre tl al A hm hA hB (bC hl) (En (λ_ ⟨O',h1,h2⟩=>⟨O',h1,h2⟩) (h Z _ LB [] hs hh rfl))
end
def ki (E:Env) (fs:List (Nat×List AV×AV)):Prop:=∀f∈fs,Pure E.toCx f.1 f.2.1 (.ret f.2.2)
inductive It where
 |code (c:Code)
 |oO (id:Nat)
 |ops (all rest:List Oper)
 |lex (all:List Oper) (tl:List (Nat×Oper×TK)) (A:bM) (pre:List Oper) (W:List (Nat×List CV))
 |tl (all:List Oper) (l:List (Nat×Oper×TK)) (A:bM) (pend:List (Nat×Oper×CV)) (fs:List (Nat×List AV×AV))
 |lp (next:TS->Hp->Prop)
 |nS (m:Nat) (c:Code)
 |fr (N K:Nat) (O:TS) (dst:Option Nat) (rs:List ResultVar)
 |ct (N K:Nat) (O:TS) (dst:Option Nat) (rs:List ResultVar) (ty:TypeId) (z:AV)
def nr:AV->Bool
 | .agg [.v (.int _ _),.v (.int _ _)]=>true
 |_=>false
def dq (E:Env):Nat->Nat->List It->DQ->DQ
 |_,_,[],Q=>Q
 |N,K,.code c::k,Q=>λe O L=>match e with
  | .norm=>DC E N K c (dq E N K k Q) O L
  | .exit i=>dq E N K k Q (.exit i) O L
  | .ret=>dq E N K k Q .ret O L
  | .aM x=>dq E N K k Q (.aM x) O L
 |N,K,.oO id::k,Q=>λe O L=>match e with
  | .norm=>dq E N K k Q .norm O L
  | .exit i=>match Nat.beq i id with
   |true=>dq E N K k Q .norm O L
   |false=>dq E N K k Q (.exit i) O L
  | .ret=>dq E N K k Q .ret O L
  | .aM x=>dq E N K k Q (.aM x) O L
 |N,K,.ops all rest::k,Q=>λe O L=>match e with
  | .norm=>DO E N K all rest (dq E N K k Q) O L
  | .exit i=>dq E N K k Q (.exit i) O L
  | .ret=>dq E N K k Q .ret O L
  | .aM x=>dq E N K k Q (.aM x) O L
 |N,K,.lex all tl A pre W::k,Q=>λe O L=>match e with
  | .norm=>ea E N K all tl A (dq E N K k Q) L pre O W
  | .exit i=>dq E N K k Q (.exit i) O L
  | .ret=>dq E N K k Q .ret O L
  | .aM x=>dq E N K k Q (.aM x) O L
 |N,K,.tl all l A pend fs::k,Q=>λe O L=>match e with
  | .norm=>ki E fs->cA E N K all (dq E N K k Q) l A pend O L
  | .exit i=>dq E N K k Q (.exit i) O L
  | .ret=>dq E N K k Q .ret O L
  | .aM x=>dq E N K k Q (.aM x) O L
 |N,K,.lp next::k,Q=>λe O L=>match e with
  | .norm=>next O L
  | .exit i=>dq E N K k Q (.exit i) O L
  | .ret=>dq E N K k Q .ret O L
  | .aM x=>dq E N K k Q (.aM x) O L
 |N,K,.nS m c::k,Q=>λe O L=>match e with
  | .norm=>pw E N K c (dq E N K k Q) m O L
  | .exit i=>dq E N K k Q (.exit i) O L
  | .ret=>dq E N K k Q .ret O L
  | .aM x=>dq E N K k Q (.aM x) O L
 |_,_,.fr N' K' O' dst rs::k,Q=>λe O L=>match e with
  | .norm=>∃xs,ei E.T O L rs=some xs/\dq E N' K' k Q .norm (bY O' dst (fe xs)) L
  | .ret=>∃xs,ei E.T O L rs=some xs/\dq E N' K' k Q .norm (bY O' dst (fe xs)) L
  | .exit _=>False
  | .aM x=>dq E N' K' k Q (.aM x) .lf L
 |_,_,.ct N' K' O' dst rs ty z::k,Q=>λe O L=>match e with
  | .norm=>∃xs,ei E.T O L rs=some xs/\dq E N' K' k Q .norm (bY O' dst (.d z)) L
  | .ret=>∃xs,ei E.T O L rs=some xs/\dq E N' K' k Q .norm (bY O' dst (.d z)) L
  | .exit _=>False
  | .aM x=>∃y,(x= .bA ty (.d y)\/x= .d (.bA ty y))/\nr y=true/\dq E N' K' k Q .norm (bY O' dst (.d y)) L
def az (E:Env) (N K:Nat) (todo:List It) (Q:DQ) (O:TS) (L:Hp):Prop:=dq E N K todo Q .norm O L
section
variable {E:Env} {N K:Nat} {Q:DQ} {O:TS} {L:Hp} {k:List It}
theorem WE (b:Code):DE.then (DC E N K b (dq E N K k Q)) (dq E N K k Q)=dq E N K (.code b::k) Q:=by funext e O L;cases e<;>rfl
theorem XJ (i:Nat):DE.inBlock i (dq E N K k Q)=dq E N K (.oO i::k) Q:=by funext e O L;cases e<;>rfl
theorem ZC (next:TS->Hp->Prop):DE.then next (dq E N K k Q)=dq E N K (.lp next::k) Q:=by funext e O L;cases e<;>rfl
theorem N9 (m:Nat) (c:Code):DE.then (pw E N K c (dq E N K k Q) m) (dq E N K k Q)=dq E N K (.nS m c::k) Q:=by funext e O L;cases e<;>rfl
def kM (id:Nat):List It->Option (List It)
 |[]=>none
 | .oO i::k=>match Nat.beq id i with
  |true=>some k
  |false=>kM id k
 | .code _::k=>kM id k
 | .ops _ _::k=>kM id k
 | .lex _ _ _ _ _::k=>kM id k
 | .tl _ _ _ _ _::k=>kM id k
 | .lp _::k=>kM id k
 | .nS _ _::k=>kM id k
 | .fr _ _ _ _ _::_=>none
 | .ct _ _ _ _ _ _ _::_=>none
theorem pv {id:Nat}:∀{k k':List It},kM id k=some k'->dq E N K k Q (.exit id)=dq E N K k' Q .norm
 |[],_,h=>by simp[kM]at h
 | .code _::k,k',h=>by funext O L;simp only[dq];rw[pv (k:=k) h]
 | .ops _ _::k,k',h=>by funext O L;simp only[dq];rw[pv (k:=k) h]
 | .lex _ _ _ _ _::k,k',h=>by funext O L;simp only[dq];rw[pv (k:=k) h]
 | .tl _ _ _ _ _::k,k',h=>by funext O L;simp only[dq];rw[pv (k:=k) h]
 | .lp _::k,k',h=>by funext O L;simp only[dq];rw[pv (k:=k) h]
 | .nS _ _::k,k',h=>by funext O L;simp only[dq];rw[pv (k:=k) h]
 | .fr _ _ _ _ _::_,_,h=>by simp[kM]at h
 | .ct _ _ _ _ _ _ _::_,_,h=>by simp[kM]at h
 | .oO i::k,k',h=>by
  funext O L;simp only[kM]at h;simp only[dq];cases hb:Nat.beq id i with
  |true=>rw[hb]at h;simp only[aE]at h;subst h;rfl
  |false=>rw[hb]at h;simp only;rw[pv (k:=k) h]
def nE:List It->List It
 |[]=>[]
 | .fr N K O dst rs::k=> .fr N K O dst rs::k
 | .ct N K O dst rs ty z::k=> .ct N K O dst rs ty z::k
 |_::k=>nE k
theorem nw:∀(k:List It),dq E N K k Q .ret=dq E N K (nE k) Q .ret
 |[]=>rfl
 | .code _::k=>by funext O L;simp only[dq,nE];rw[nw k]
 | .oO _::k=>by funext O L;simp only[dq,nE];rw[nw k]
 | .ops _ _::k=>by funext O L;simp only[dq,nE];rw[nw k]
 | .lex _ _ _ _ _::k=>by funext O L;simp only[dq,nE];rw[nw k]
 | .tl _ _ _ _ _::k=>by funext O L;simp only[dq,nE];rw[nw k]
 | .lp _::k=>by funext O L;simp only[dq,nE];rw[nw k]
 | .nS _ _::k=>by funext O L;simp only[dq,nE];rw[nw k]
 | .fr _ _ _ _ _::_=>rfl
 | .ct _ _ _ _ _ _ _::_=>rfl
def jS:List It->Option (Nat×Nat×TS×Option Nat×TypeId×List It)
 |[]=>none
 | .ct N K O dst _ ty _::k=>some (N,K,O,dst,ty,k)
 |_::k=>jS k
theorem mf {x:CV}:∀(k:List It) (N K:Nat) (O:TS),jS k=none->(Q (.aM x) .lf L->dq E N K k Q (.aM x) .lf L)
 |[],_,_,_,_,h=>h
 | .code _::k,N,K,O,hp,h=>mf k N K O hp h
 | .oO _::k,N,K,O,hp,h=>mf k N K O hp h
 | .ops _ _::k,N,K,O,hp,h=>mf k N K O hp h
 | .lex _ _ _ _ _::k,N,K,O,hp,h=>mf k N K O hp h
 | .tl _ _ _ _ _::k,N,K,O,hp,h=>mf k N K O hp h
 | .lp _::k,N,K,O,hp,h=>mf k N K O hp h
 | .nS _ _::k,N,K,O,hp,h=>mf k N K O hp h
 | .fr N' K' _ _ _::k,_,_,O,hp,h=>mf k N' K' O hp h
 | .ct _ _ _ _ _ _ _::_,_,_,_,hp,_=>by simp[jS]at hp
theorem mZ {x:CV} {y:AV} {N' K' ty:Nat} {O':TS} {dst:Option Nat} {k':List It} (hx:x= .bA ty (.d y)\/x= .d (.bA ty y)) (hy:nr y=true):∀(k:List It) (N K:Nat),jS k=some (N',K',O',dst,ty,k')->(dq E N' K' k' Q .norm (bY O' dst (.d y)) L->dq E N K k Q (.aM x) .lf L)
 |[],_,_,hp,_=>by simp[jS]at hp
 | .code _::k,N,K,hp,h=>mZ hx hy k N K hp h
 | .oO _::k,N,K,hp,h=>mZ hx hy k N K hp h
 | .ops _ _::k,N,K,hp,h=>mZ hx hy k N K hp h
 | .lex _ _ _ _ _::k,N,K,hp,h=>mZ hx hy k N K hp h
 | .tl _ _ _ _ _::k,N,K,hp,h=>mZ hx hy k N K hp h
 | .lp _::k,N,K,hp,h=>mZ hx hy k N K hp h
 | .nS _ _::k,N,K,hp,h=>mZ hx hy k N K hp h
 | .fr N1 K1 _ _ _::k,_,_,hp,h=>mZ hx hy k N1 K1 hp h
 | .ct N1 K1 O1 dst1 rs1 ty1 z1::k,_,_,hp,h=>by
  simp only[jS,aE,ck]at hp;obtain⟨rfl,rfl,rfl,rfl,rfl,rfl⟩:=hp;exact⟨y,hx,hy,h⟩
def rH (E:Env) (f:FuncId) (ty:TypeId) (z:AV):Prop:=∀(g:FuncId) (fs cs:List AV) (L:List au) (Q:AR->List au->Prop),mv E.toCx g (fs++cs) L Q->(∀x L',Q (.aM x) L'->∃y,x= .bA ty y/\nr y=true)->
 mv E.toCx f [.fn g fs cs] L (λr L'=>(∃x,Q (.ret x) L'/\r= .ret z)\/∃x,Q (.aM (.bA ty x)) L'/\r= .ret x)
theorem Kp {Z:aH} {x:CV} {y:AV} {ty:Nat} {y0:AV} (hx:x= .bA ty (.d y0)\/x= .d (.bA ty y0)) (hi:aG Z x y):y= .bA ty y0:=by
 rcases hx with rfl|rfl
 ·simp only[aG]at hi;obtain⟨u,rfl,rfl⟩:=hi;rfl
 ·simp only[aG]at hi;exact hi
theorem fA.ct {f g:FuncId} {ty:TypeId} {z:AV} (hct:rH E f ty z) {fs cs:List CV} {Q':DR->Hp->Prop} (h:fA E g (fs++cs) L Q') (hp:∀x L',Q' (.aM x) L'->∃y,(x= .bA ty (.d y)\/x= .d (.bA ty y))/\nr y=true):
  fA E f [.fn g fs cs] L (λr L'=>(∃x,Q' (.ret x) L'/\r= .ret (.d z))\/∃x y,Q' (.aM x) L'/\(x= .bA ty (.d y)\/x= .d (.bA ty y))/\nr y=true/\r= .ret (.d y)):=λZ ys LB hi hh=>by
 simp only[aN,aG]at hi;obtain⟨y,r,rfl,⟨us,vs,rfl,h1,h2⟩,rfl⟩:=hi;refine(hct g us vs LB _ (h Z (us++vs) LB (h1.append h2) hh) ?_).mono ?_
 ·rintro x LB' ⟨Z',d,η1,g1,g2,g3,g4⟩;cases d with
  |ret x'=>obtain⟨y',e,_⟩:=g2;cases e
  |aM x'=>
   obtain⟨y',e,g2⟩:=g2;cases e;obtain⟨y0,q1,q2⟩:=hp _ _ g4;exact⟨y0,Kp q1 g2,q2⟩
 ·rintro r LB' (⟨x,⟨Z',d,η1,g1,g2,g3,g4⟩,rfl⟩|⟨x,⟨Z',d,η1,g1,g2,g3,g4⟩,rfl⟩)
  ·cases d with
   |ret x'=>exact⟨Z',.ret (.d z),η1,g1,⟨z,rfl,rfl⟩,g3,.inl ⟨x',g4,rfl⟩⟩
   |aM x'=>obtain⟨y',e,_⟩:=g2;cases e
  ·cases d with
   |ret x'=>obtain⟨y',e,_⟩:=g2;cases e
   |aM x'=>
    obtain⟨y',e,g2⟩:=g2;cases e;obtain⟨y0,q1,q2⟩:=hp _ _ g4;have:=Kp q1 g2;cases this;exact⟨Z',.ret (.d x),η1,g1,⟨x,rfl,rfl⟩,g3,.inr ⟨x',x,g4,q1,q2,rfl⟩⟩
def CS:CV->Option (FuncId×List CV×List CV)
 | .fn g fs cs=>some (g,fs,cs)
 | .d (.fn g fs cs)=>some (g,fs.map .d,cs.map .d)
 |_=>none
theorem VJ {Z:aH} {x:CV} {g:FuncId} {fs cs:List CV} (h:CS x=some (g,fs,cs)) {y:AV} (hi:aG Z x y):aG Z (.fn g fs cs) y:=by
 unfold CS at h;split at h
 ·simp only[aE,ck]at h;obtain⟨rfl,rfl,rfl⟩:=h;exact hi
 ·simp only[aE,ck]at h;obtain⟨rfl,rfl,rfl⟩:=h;simp only[aG]at hi⊢;subst hi;exact⟨_,_,rfl,ir _,ir _⟩
 ·cases h
theorem az.one {c:Code} (h:az E N K [.code c] Q O L):DC E N K c Q O L:=h
theorem az.loop {c:Code} (ts:List Nat) (m:Nat) (I:Nat->List (Nat×CV)->List bl->Prop) (n:Nat) (hK:K<=m) {l:List (Nat×CV)} {es:List bl} (hm:m<=L.n) (hp:fh m ts O=some l) (he:mr m L=some es) (h0:I n l es)
  (round:∀n l es,I n l es->az E N K (.code c:: .lp (λO1 η1=>∃n',n'<n/\∃l' es',m<=η1.n/\fh m ts O1=some l'/\mr m η1=some es'/\I n' l' es')::k) Q (ql l) (la es)):az E N K (.code (.loop c)::k) Q O L:=
 DC.loop ts m I n hK hm hp he h0 λn l es hI=>by
  have:=round n l es hI;unfold az at this;simp only[dq]at this;rw[ZC];exact this
theorem az.lp {next:TS->Hp->Prop} (h:next O L):az E N K (.lp next::k) Q O L:=h
theorem az.inl {dst:Option Nat} {f:Operand} {args:List Operand} {g:FuncId} {cs:List CV} {tys:Array TypeId} {ty:TypeId} {pos:String} {after:Array Edge} {fn:Func} {c:Code} {rs:List ResultVar} {nt:Nat} {all rest:List Oper}
  (hc:dE O f args=some (g,cs)) (hf:E.P.funcs[g]? =some fn) (hb:fn.body=some c) (hname:(fn.name== "runtime.NumGoroutine")=false) (hrs:fn.results=rs.toArray) (hnt:fn.ntmps=nt) (hn:Nat.ble cs.length nt=true) (hd:cx N dst=true)
  (h:az E nt L.n (.code c:: .fr N K O dst rs:: .ops all rest::k) Q (iz 0 cs) L):az E N K (.ops all (⟨dst,.call {callee:= .value f,args:=args.toArray,argTypes:=tys},ty,pos,after,none⟩::rest)::k) Q O L:=by
 show DO E N K all _ (dq E N K k Q) O L;refine DO.call (Q':=λr L'=>match r with
  | .ret x=>DO E N K all rest (dq E N K k Q) (bY O dst x) L'
  | .aM x=>dq E N K k Q (.aM x) .lf L') ?_ hc hd (λ_ _ h=>h) (λ_ _ h=>h)
 refine fA.enter hf hb hname rs hrs nt hnt hn (DC.mono h ?_);intro e O1 η1 h1;cases e with
 |norm=>exact h1
 |ret=>exact h1
 |exit i=>exact h1
 |aM x=>exact h1
theorem az.ct {dst:Option Nat} {f:Operand} {args:List Operand} {f0 g:FuncId} {x:CV} {fs cs:List CV} {ty':TypeId} {z:AV} {tys:Array TypeId} {ty:TypeId} {pos:String} {after:Array Edge} {fn:Func} {c:Code} {rs:List ResultVar} {nt:Nat} {all rest:List Oper}
  (hct:rH E f0 ty' z) (hc:dE O f args=some (f0,[x])) (hx:CS x=some (g,fs,cs)) (hf:E.P.funcs[g]? =some fn) (hb:fn.body=some c) (hname:(fn.name== "runtime.NumGoroutine")=false) (hrs:fn.results=rs.toArray) (hnt:fn.ntmps=nt) (hn:Nat.ble (fs++cs).length nt=true) (hd:cx N dst=true)
  (h:az E nt L.n (.code c:: .ct N K O dst rs ty' z:: .ops all rest::k) Q (iz 0 (fs++cs)) L):az E N K (.ops all (⟨dst,.call {callee:= .value f,args:=args.toArray,argTypes:=tys},ty,pos,after,none⟩::rest)::k) Q O L:=by
 show DO E N K all _ (dq E N K k Q) O L;have key:fA E g (fs++cs) L (λr L'=>match r with
  | .ret _=>DO E N K all rest (dq E N K k Q) (bY O dst (.d z)) L'
  | .aM x=>∃y,(x= .bA ty' (.d y)\/x= .d (.bA ty' y))/\nr y=true/\DO E N K all rest (dq E N K k Q) (bY O dst (.d y)) L'):=by
  refine fA.enter hf hb hname rs hrs nt hnt hn (DC.mono h ?_);intro e O1 η1 h1;cases e with
  |norm=>exact h1
  |ret=>exact h1
  |exit i=>exact h1
  |aM x=>exact h1
 have key2:fA E f0 [x] L (λr L'=>match r with
  | .ret y=>DO E N K all rest (dq E N K k Q) (bY O dst y) L'
  | .aM _=>False):=λZ ys LB hi hh=>by
  have hi':aN Z [.fn g fs cs] ys:=by
   simp only[aN]at hi;obtain⟨y,r,rfl,h1,rfl⟩:=hi;have:=VJ hx h1;simp only[aN];exact⟨y,[],rfl,this,rfl⟩
  refine(fA.ct hct key (λx L' hx=>?_) Z ys LB hi' hh).mono ?_
  ·obtain⟨y,h1,h2,_⟩:=hx;exact⟨y,h1,h2⟩
  ·rintro r LB' ⟨Z',d,η1,g1,g2,g3,(⟨x,g4,rfl⟩|⟨x,y,⟨y',q1,q2,q3⟩,q4,q5,rfl⟩)⟩
   ·exact⟨Z',_,η1,g1,g2,g3,g4⟩
   ·refine⟨Z',_,η1,g1,g2,g3,?_⟩;have:y=y':=by
     rcases q1 with rfl|rfl<;>rcases q4 with e|e<;>cases e<;>rfl
    subst this;exact q3
 exact DO.call key2 hc hd (λ_ _ h=>h) (λ_ _ h=>h.elim)
theorem az.fV {o:Oper} {i:Nat} {f:Operand} {args:List Operand} {g:FuncId} {cs:List CV} {tys:Array TypeId} {fn:Func} {c:Code} {rs:List ResultVar} {nt:Nat} {all:List Oper} {l:List (Nat×Oper×TK)} {A:bM} {pend:List (Nat×Oper×CV)} {fs:List (Nat×List AV×AV)} {O1:TS} {η1:Hp} (ho:o.op= .call {callee:= .value f,args:=args.toArray,argTypes:=tys})
  (hp:ki E fs->aF E N all pend O L) (hnd':fw ((dH (b8 all.toArray i A)).map (·.1))=true) (cz:eU (dH (b8 all.toArray i A)) O L=(O1,η1)) (hw:cG all o O1=some true) (hc:dE O1 f args=some (g,cs)) (hf:E.P.funcs[g]? =some fn) (hb:fn.body=some c) (hname:(fn.name== "runtime.NumGoroutine")=false) (hrs:fn.results=rs.toArray) (hnt:fn.ntmps=nt) (hn:Nat.ble cs.length nt=true) (hd:cx N o.dst=true)
  (h:az E nt η1.n (.code c:: .fr N K O1 o.dst rs:: .tl all l (cn all.toArray i A) (cI all i pend) fs::k) Q (iz 0 cs) η1):az E N K (.tl all ((i,o,.one)::l) A pend fs::k) Q O L:=by
 show ki E fs->cA E N K all (dq E N K k Q) _ A pend O L;intro hfs;refine cA.oN (R:=λr L'=>match r with
  | .ret x=>ki E fs->cA E N K all (dq E N K k Q) l (cn all.toArray i A) (cI all i pend) (bY O1 o.dst x) L'
  | .aM x=>dq E N K k Q (.aM x) .lf L') (hp hfs) hnd' hd cz hw (bL.call ho ?_ hc) (λ_ _ h=>h hfs) (λ_ _ h=>h)
 refine fA.enter hf hb hname rs hrs nt hnt hn (DC.mono h ?_);intro e O1 η1 h1;cases e with
 |norm=>exact h1
 |ret=>exact h1
 |exit i=>exact h1
 |aM x=>exact h1
