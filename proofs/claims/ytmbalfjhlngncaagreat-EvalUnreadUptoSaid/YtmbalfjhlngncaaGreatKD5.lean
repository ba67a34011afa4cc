/- The abstract machine, fifth part: what is still to be done, as a list; regions whose order is open; panics. -/
import Derived.Test.YtmbalfjhlngncaaGreatKB14
set_option linter.all false
noncomputable section
namespace Go.Bw
open Go
theorem bf.panic {C:Cx} {N:Nat} {Q:AQ} {Z:Sg} {O:List aq} {ops:Array Oper} {rest:List Oper} {o:Oper} {p:Operand} {t:TypeId} {y:AV} (hg:o.guard=none) (ho:o.op= .panic p) (hp:ev (look Z) p=some (.bC t y)) (k:Q (.aO (.bC t y)) [] O):
  bf C N ops (o::rest) Q Z O:=λF w0 O0 a w hs hx=>by
 unfold wpList;rw[bq (by simp[Region.wanted,hg])];refine .inl ?_;have h1:=bz hs.sg hp;have h0:=h1;simp only[Rel]at h0;obtain⟨u,h0,_⟩:=h0;have hrun:(execOp a.eval o).run C.P w= .halt (.panic (.iface t u)) w:=by simp[execOp,ho,Instr.panic,h0]
 unfold Oper.wp;rw[hrun];rw[h0]at h1;exact⟨.aO (.bC t y),[],O,k,⟨_,rfl,h1⟩,⟨⟨hs.sg.1,λt x hx=>by simp[AE.sl,look]at hx⟩,hs.hp,hs.df⟩,hx⟩
section
variable {E:Env} {N K:Nat} {Q:DQ} {Z:TS} {O:Hp} {o:Oper} {x:CV} {all rest:List Oper}
theorem Is {W:aJ} (s:Sl):SS W .lf s:=λt x hx=>by simp[Tr.ku]at hx
theorem DO.panic {p:Operand} (hg:o.guard=none) (ho:o.op= .panic p) {t:TypeId} {y:CV} (hp:aW Z p=some (.bC t y)) (k:Q (.aO (.bC t y)) .lf O):DO E N K all (o::rest) Q Z O:=λW ZB ηB hs hh=>by
 obtain⟨z,h1,h2⟩:=bY hs hp;have h3:=h2;simp only[aG]at h3;obtain⟨u,rfl,_⟩:=h3;exact bf.panic hg ho h1 ⟨W,.aO (.bC t y),.lf,O,.refl K W,⟨_,rfl,h2⟩,Is _,hh,k⟩
theorem DO.HZ {p:Operand} (hg:o.guard=none) (ho:o.op= .panic p) {t:TypeId} {y:AV} (hp:aW Z p=some (.d (.bC t y))) (k:Q (.aO (.d (.bC t y))) .lf O):DO E N K all (o::rest) Q Z O:=λW ZB ηB hs hh=>by
 obtain⟨z,h1,h2⟩:=bY hs hp;simp only[aG]at h2;subst h2;exact bf.panic hg ho h1 ⟨W,.aO (.d (.bC t y)),.lf,O,.refl K W,⟨_,rfl,rfl⟩,Is _,hh,k⟩
theorem DO.S4 {j d e:Nat} {want t:Bool} {op:Op} {ty:TypeId} {pos:String} {after:Array Edge} {oj:Oper} (hj:nth all j=some oj) (hjd:oj.dst=some d) (ht:Z.get d=some (.d (.v (.bool t))))
  (h1:t=want->DO E N K all (⟨some e,op,ty,pos,after,none⟩::rest) Q (Tr.put 24 Z d (some (.d (.v (.bool want))))) O)
  (h2:t= !want->DO E N K all rest Q (Tr.put 24 (Tr.put 24 Z d (some (.d (.v (.bool !want))))) e (some (.d (.v undef)))) O)
  (hd:Nat.blt e N=true):DO E N K all (⟨some e,op,ty,pos,after,some (j,want)⟩::rest) Q Z O:=λW ZB ηB hs hh=>by
 obtain⟨y,h3,h4⟩:=hs d _ ht;simp only[aG]at h4;subst h4;have hjB:(all.toArray[j]?).bind (·.dst)=some d:=by rw[cA]at hj;simp[hj,hjd]
 have hput:∀b,t=b->SS W (Tr.put 24 Z d (some (.d (.v (.bool b))))) (look ((d,.v (.bool b))::ZB)):=λb hb=>by
  subst hb;exact hs.put (some d) (x:= .d (.v (.bool t))) (y:= .v (.bool t)) rfl
 exact bf.bE hjB h3 (λe=>h1 e W _ ηB (hput want e) hh) (λe'=>h2 e' W _ ηB ((hput _ e').put (some e) (x:= .d (.v undef)) (y:= .v undef) rfl) hh) hd
theorem DO.HY {j d e:Nat} {want:Bool} {op:Op} {ty:TypeId} {pos:String} {after:Array Edge} {oj:Oper} (hj:nth all j=some oj) (hjd:oj.dst=some d) (ht:Z.get d=some (.d (.v undef)))
  (h2:DO E N K all rest Q (Tr.put 24 Z e (some (.d (.v undef)))) O) (hd:Nat.blt e N=true):DO E N K all (⟨some e,op,ty,pos,after,some (j,want)⟩::rest) Q Z O:=λW ZB ηB hs hh=>by
 obtain⟨y,h3,h4⟩:=hs d _ ht;simp only[aG]at h4;subst h4;have hjB:(all.toArray[j]?).bind (·.dst)=some d:=by rw[cA]at hj;simp[hj,hjd]
 exact bf.HY hjB h3 (h2 W _ ηB (hs.put (some e) (x:= .d (.v undef)) (y:= .v undef) rfl) hh) hd
def eK (W:aJ):List (Nat×List CV)->Nu->Prop
 |[],ys=>ys=[]
 |x::xs,ys=>∃y r,ys=y::r/\y.1=x.1/\aQ W x.2 y.2/\eK W xs r
theorem eK.append {W:aJ}:∀{xs xs':List (Nat×List CV)} {ys ys':Nu},eK W xs ys->eK W xs' ys'->eK W (xs++xs') (ys++ys')
 |[],_,_,_,h,g=>by simp only[eK]at h;subst h;simpa using g
 |_::_,_,_,_,h,g=>by simp only[eK]at h;obtain⟨y,r,rfl,h1,h2,h⟩:=h;simp only[ke,eK];exact⟨y,_,rfl,h1,h2,eK.append h g⟩
theorem eK.mem {W:aJ}:∀{xs:List (Nat×List CV)} {ys:Nu},eK W xs ys->∀p∈ys,∃q∈xs,q.1=p.1
 |[],_,h,p,hp=>by simp only[eK]at h;subst h;cases hp
 |x::_,_,h,p,hp=>by
  simp only[eK]at h;obtain⟨y,r,rfl,h1,_,h⟩:=h;rcases b6.1 hp with rfl|hp
  ·exact⟨x,by simp,h1.symm⟩
  ·obtain⟨q,h2,h3⟩:=eK.mem h p hp;exact⟨q,by simp[h2],h3⟩
def Bb (K:Nat) (W:aJ) (Q:DQ):Sl->List aq->Prop:=λs O'=>∃Z1,(∀t x,look Z1 t=some x->s t=some x)/\lift K W Q .norm Z1 O'
def rG (K:Nat) (W:aJ) (Q:DQ):AV->List aq->Prop:=λx O'=>lift K W Q (.aO x) [] O'
def eb (E:Env) (N K:Nat) (all:List Oper) (tl:List (Nat×Oper×TK)) (A:bN) (Q:DQ) (O:Hp) (pre:List Oper) (Z:TS) (L:List (Nat×List CV)):Prop:=
 ∀W s ηB LB,SS W Z s->HS W O ηB->eK W L LB->ri E.toCx N ηB all.toArray (λst=>∃Z',(∀t x,look Z' t=some x->st.1 t=some x)/\
  iE st.2 λzs=>jy E.toCx N all.toArray (Bb K W Q) (rG K W Q) tl A [] (rj A (look (fY ηB.length zs++Z'))) (ηB++cX zs)) pre (s,LB)
theorem SS.bj {W:aJ} {s:Sl} (hs:SS W Z s) (dst:Option Nat) {y:AV} (hx:aG W x y):SS W (bW Z dst x) (bj s dst (some y)):=by
 cases dst with
 |none=>exact hs
 |some d=>
  intro t z hz;rcases Tr.eB 24 Z d t (some x) z hz with⟨rfl,h1⟩|⟨hne,h1⟩
  ·cases h1;exact⟨y,by simp[Bw.bj],hx⟩
  ·obtain⟨u,h2,h3⟩:=hs t z h1;exact⟨u,by simp[Bw.bj,hne,h2],h3⟩
theorem SS.del {W:aJ} {s:Sl} (hs:SS W Z s) (d:Nat):SS W (Tr.put 24 Z d none) (Bw.bj s (some d) none):=by
 intro t z hz;rcases Tr.eB 24 Z d t none z hz with⟨_,h1⟩|⟨hne,h1⟩
 ·cases h1
 ·obtain⟨u,h2,h3⟩:=hs t z h1;exact⟨u,by simp[Bw.bj,hne,h2],h3⟩
def cM (all:List Oper) (o:Oper) (Z:TS):Option Bool:=match o.guard with
 |none=>some true
 |some (j,want)=>match(nth all j).bind (·.dst)with
  |none=>some false
  |some d=>match Z.get d with
   |some (.d (.v (.bool b)))=>some (b==want)
   |some (.d (.v (.tuple _)))=>some false
   |_=>none
theorem kh {W:aJ} {s:Sl} (hs:SS W Z s) {b:Bool} (h:cM all o Z=some b):kr all.toArray o s=some b:=by
 unfold cM at h;unfold kr;cases hg:o.guard with
 |none=>rw[hg]at h;exact h
 |some p=>
  obtain⟨j,want⟩:=p;rw[hg]at h;simp only at h⊢;have hj:(all.toArray[j]?).bind (·.dst)=(nth all j).bind (·.dst):=by rw[cA];simp
  rw[hj];cases hd:(nth all j).bind (·.dst)with
  |none=>rw[hd]at h;exact h
  |some d=>
   rw[hd]at h;simp only at h⊢;split at h
   ·rename_i q hq;obtain⟨y,h1,h2⟩:=hs d _ hq;simp only[aG]at h2;subst h2;simp only[h1];exact h
   ·rename_i q hq;obtain⟨y,h1,h2⟩:=hs d _ hq;simp only[aG]at h2;subst h2;simp only[h1];exact h
   ·cases h
def lP (o:Oper) (L:List (Nat×List CV)):Bool:=match o.dst with
 |none=>true
 |some d=>L.all λp=>!Nat.beq p.1 d
theorem Gs {W:aJ} {L:List (Nat×List CV)} {LB:Nu} (h:lP o L=true) (hn:eK W L LB):fresh o LB:=by
 intro d hd p hp he;unfold lP at h;rw[hd]at h;simp only[fR,jC]at h;obtain⟨q,h1,h2⟩:=hn.mem p hp;have:=h q h1;rw[h2,he,v7]at this;cases this
theorem eb.val {pre:List Oper} {A:bN} {tl:List (Nat×Oper×TK)} {L:List (Nat×List CV)} (hd:cw N o.dst=true) (hw:cM all o Z=some true) (hf:lP o L=true) (h:bd E N o Z O x) (k:eb E N K all tl A Q O pre (bW Z o.dst x) L):
  eb E N K all tl A Q O (o::pre) Z L:=λW s ηB LB hs hh hn=>by
 obtain⟨y,h1,h2⟩:=h W s ηB hs hh;exact⟨Gs hf hn,some y,[],⟨hd,.inl ⟨kh hs hw,.inl ⟨y,h2,rfl,rfl⟩⟩⟩,by simpa using k W _ ηB LB (hs.bj o.dst h1) hh hn⟩
theorem eb.skip {pre:List Oper} {A:bN} {tl:List (Nat×Oper×TK)} {L:List (Nat×List CV)} (hd:cw N o.dst=true) (hw:cM all o Z=some false) (hf:lP o L=true) (k:eb E N K all tl A Q O pre (bW Z o.dst (.d (.v undef))) L):
  eb E N K all tl A Q O (o::pre) Z L:=λW s ηB LB hs hh hn=>by
 exact⟨Gs hf hn,some (.v undef),[],⟨hd,.inr ⟨kh hs hw,rfl,rfl⟩⟩,by simpa using k W _ ηB LB (hs.bj o.dst rfl) hh hn⟩
theorem eb.new {pre:List Oper} {A:bN} {tl:List (Nat×Oper×TK)} {L:List (Nat×List CV)} {d:Nat} {cells:List CV} (hdd:o.dst=some d) (hd:Nat.blt d N=true) (hw:cM all o Z=some true) (hf:lP o L=true) (h:∀W s ηB,SS W Z s->HS W O ηB->∃cs,aQ W cells cs/\fD E.toCx N o s ηB cs)
  (k:eb E N K all tl A Q O pre (Tr.put 24 Z d none) (L++[(d,cells)])):eb E N K all tl A Q O (o::pre) Z L:=λW s ηB LB hs hh hn=>by
 obtain⟨cs,h1,h2⟩:=h W s ηB hs hh;refine⟨Gs hf hn,none,[(d,cs)],⟨by rw[hdd];exact hd,.inl ⟨kh hs hw,.inr ⟨d,cs,hdd,h2,rfl,rfl⟩⟩⟩,?_⟩;rw[hdd];exact k W _ ηB _ (hs.del d) hh (hn.append (by simp only[eK];exact⟨_,_,rfl,rfl,h1,rfl⟩))
theorem bd.UD {cells:List AV} (h:∀W s ηB,SS W Z s->HS W O ηB->∃cs,aQ W (cells.map .d) cs/\fD E.toCx N o s ηB cs):bd E N o Z O (.d (.ip cells)):=λW s ηB hs hh=>by
 obtain⟨cs,h1,h2⟩:=h W s ηB hs hh;have:cs=cells:=by
  have:=mr (zs:=cells) (by
   have key:∀l:List AV,fL (l.map .d)=some l:=by
    intro l;induction l with
    |nil=>rfl
    |cons y l ih=>simp[fL,ih]
   exact key cells) h1
  exact this
 subst this;exact⟨_,rfl,h2.frozen⟩
theorem bd.lit {t:TypeId} {n:Nat} {parts:Array (Nat×Operand)} {e k sz by' sz' by'':Nat} {z z':List Value} {td':TD} {cells:List AV} (ho:o.op= .buildSlice t n parts)
  (ht:aZ E.T t=some ⟨.slice e k,sz,by',z⟩) (hte:aZ E.T e=some ⟨td',sz',by'',z'⟩) (hf:eJ k (dj Z) (gP n (z'.map .v)) parts.toList=some cells) (hb:Nat.ble (n*k) 16777216=true) (hk:Nat.ble 1 k=true):
  bd E N o Z O (.d (.sl k (chunk n k cells))):=λ_ _ _ hs _=>⟨_,rfl,(bP.lit ho ht hte hf hb hk).mono λ_ _ _ hy=>kv hs hy⟩
theorem eb.guard {pre:List Oper} {A:bN} {tl:List (Nat×Oper×TK)} {L:List (Nat×List CV)} {d:Nat} {b:Bool} (hb:Z.get d=some (.d (.v (.bool b)))) (h1:b=true->eb E N K all tl A Q O pre (Tr.put 24 Z d (some (.d (.v (.bool true))))) L)
  (h2:b=false->eb E N K all tl A Q O pre (Tr.put 24 Z d (some (.d (.v (.bool false))))) L):eb E N K all tl A Q O pre Z L:=λW s ηB LB hs hh hn=>by
 have key:SS W (Tr.put 24 Z d (some (.d (.v (.bool b))))) s:=λt z hz=>by
  rcases Tr.eB 24 Z d t _ z hz with⟨rfl,h3⟩|⟨_,h3⟩
  ·cases h3;exact hs _ _ hb
  ·exact hs t z h3
 cases b with
 |true=>exact h1 rfl W s ηB LB key hh hn
 |false=>exact h2 rfl W s ηB LB key hh hn
def Tr.keys {α:Type}:Tr α->List Nat
 | .lf=>[]
 | .nd _ l r=>0::(l.keys.map (2* ·+1)++r.keys.map (2* ·+2))
theorem Tr.mem_keys {α:Type}:∀{t:Tr α} {n:Nat} {x:α},t.get n=some x->n∈t.keys
 | .lf,_,_,h=>by simp[Tr.ku]at h
 | .nd y l r,n,x,h=>by
  simp only[Tr.oZ,lI,lJ]at h;simp only[Tr.keys,b6,bO,dE];cases h0:Nat.beq n 0 with
  |true=>exact .inl (bI h0)
  |false=>
   rw[h0]at h;have h0:=gI h0;simp only at h;cases h1:Nat.beq (Nat.mod n 2) 1 with
   |true=>
    rw[h1]at h;have h1:=bI h1;change n%2=1 at h1;exact .inr (.inl ⟨_,Tr.mem_keys h,by change 2*(n/2)+1=n;omega⟩)
   |false=>
    rw[h1]at h;have h1:=gI h1;change ¬n%2=1 at h1;exact .inr (.inr ⟨_,Tr.mem_keys h,by change 2*(n/2-1)+2=n;omega⟩)
def eG:List (Nat×List CV)->TS->Hp->TS×Hp
 |[],Z,O=>(Z,O)
 |(d,cs)::r,Z,O=>eG r (Tr.put 24 Z d (some (.own O.n 0))) (O.push (.box cs))
theorem OA {d:Nat} {y:AV}:∀{l r:Sg},d∉l.map (·.1)->∀t,look ((d,y)::(l++r)) t=look (l++(d,y)::r) t
 |[],_,_,_=>rfl
 |(e,z)::l,r,hd,t=>by
  simp only[dg,b6,not_or]at hd;have ih:=OA (y:=y) (r:=r) hd.2 t;simp only[ke,look]at ih⊢;cases h1:Nat.beq d t with
  |true=>
   rw[h1]at ih;have:Nat.beq e t=false:=by
    cases h2:Nat.beq e t with
    |false=>rfl
    |true=>exact absurd ((bI h1).trans (bI h2).symm) hd.1
   rw[this];exact ih
  |false=>
   rw[h1]at ih;cases h2:Nat.beq e t with
   |true=>rfl
   |false=>exact ih
theorem OB:∀(zs:List ((Nat×List AV)×Nat)) (n:Nat),(fY n zs).map (·.1)=zs.map λz=>z.1.1
 |[],_=>rfl
 |z::zs,n=>by simp[fY,OB zs (n+1)]
theorem GS : ∀ {L : List (Nat × List CV)} {W : aJ} {Z : TS} {O : Hp} {ZB : Sg} {ηB : List aq} {zs : List ((Nat × List AV) × Nat)}, SS W Z (look ZB) → HS W O ηB → eK W L (zs.map (·.1)) → fe (L.map (·.1)) = true →
    ∃ W', W.le W' ∧ SS W' (eG L Z O).1 (look (fY ηB.length zs ++ ZB)) ∧ HS W' (eG L Z O).2 (ηB ++ cX zs)
  | [], W, Z, O, ZB, ηB, zs, hs, hh, hn, _ => by
    simp only [eK, List.map_eq_nil_iff] at hn; subst hn
    exact ⟨W, .refl W, hs, by have h0 : ηB ++ cX [] = ηB := by simp [cX]
                              rw [h0]; exact hh⟩
  | (d, cs) :: L, W, Z, O, ZB, ηB, zs, hs, hh, hn, hnd => by
    simp only [eK] at hn
    obtain ⟨y, r, he, h1, h2, hn⟩ := hn
    match zs, he with
    | ((d', us), b) :: zs, he =>
      simp only [dg, kb] at he
      obtain ⟨rfl, rfl⟩ := he
      simp only at h1 h2
      subst h1
      simp only [dg, fe, bJ, jC] at hnd
      have hdom := hh.gQ O.n (bS _)
      have hl : W.le (W.fM O.n b) := aJ.C4 hdom.1
      have hbn : (W.fM O.n b).b O.n = some b := by simp [aJ.fM]
      have hs1 : SS (W.fM O.n b) (Tr.put 24 Z d' (some (.own O.n 0))) (look ((d', .own ηB.length b 0) :: ZB)) := (hs.mono hl).put (some d') (x := .own O.n 0) (by simp only [aG]; exact ⟨b, ηB.length, hbn, rfl⟩)
      have hh1 : HS (W.fM O.n b) (O.push (.box cs)) (ηB ++ [.box b us]) := hh.push hl (fun _ _ => rfl) (fun i hi => by simp [aJ.fM, hi]) ⟨b, us, hbn, rfl, h2.mono hl⟩
      have nmono : ∀ {L : List (Nat × List CV)} {ys : Nu}, eK W L ys → eK (W.fM O.n b) L ys := by
        intro L
        induction L with
        | nil => intro ys h; exact h
        | cons q L ih =>
          intro ys h
          simp only [eK] at h ⊢
          obtain ⟨y, r, e, g1, g2, g3⟩ := h
          exact ⟨y, r, e, g1, g2.mono hl, ih g3⟩
      obtain ⟨W', h3, h4, h5⟩ := GS (zs := zs) hs1 hh1 (nmono hn) hnd.2
      refine ⟨W', hl.trans h3, ?_, ?_⟩
      · have hd : d' ∉ (fY (ηB ++ [aq.box b us]).length zs).map (·.1) := by
          rw [OB]
          intro hm
          obtain ⟨z, hz, he⟩ := dE.1 hm
          obtain ⟨q, g1, g2⟩ := hn.mem z.1 (dE.2 ⟨z, hz, rfl⟩)
          have : (L.map (·.1)).contains d' = true := by rw [rR]; exact dE.2 ⟨q, g1, by rw [g2, he]⟩
          rw [hnd.1] at this; cases this
        intro t x hx
        obtain ⟨u, g1, g2⟩ := h4 t x hx
        refine ⟨u, ?_, g2⟩
        have hlen : (ηB ++ [aq.box b us]).length = ηB.length + 1 := by simp
        rw [hlen] at g1 hd
        show look ((d', .own ηB.length b 0) :: (fY (ηB.length + 1) zs ++ ZB)) t = some u
        rw [OA hd]; exact g1
      · have : ηB ++ cX (((d', us), b) :: zs) = (ηB ++ [aq.box b us]) ++ cX zs := by simp [cX]
        rw [this]; exact h5
def fx (W:aJ):List (Nat×Oper×CV)->fZ->Prop
 |[],ys=>ys=[]
 |x::xs,ys=>∃y r,ys=y::r/\y.1=x.1/\y.2.1=x.2.1/\aG W x.2.2 y.2.2/\fx W xs r
theorem fx.mono {W W':aJ} (h:W.le W'):∀{xs:List (Nat×Oper×CV)} {ys:fZ},fx W xs ys->fx W' xs ys
 |[],_,h1=>by simp only[fx]at h1⊢;exact h1
 |_::_,_,h1=>by simp only[fx]at h1⊢;obtain⟨y,r,e,h2,h3,h4,h5⟩:=h1;exact⟨y,r,e,h2,h3,h4.mono h,fx.mono h h5⟩
def cP (all:List Oper) (j:Nat) (pend:List (Nat×Oper×CV)):List (Nat×Oper×CV):=pend.filter λp=>!eC all.toArray p.1 j
theorem fx.keep {W:aJ} (j:Nat):∀{xs:List (Nat×Oper×CV)} {ys:fZ},fx W xs ys->fx W (cP all j xs) (cW all.toArray j ys)
 |[],_,h1=>by simp only[fx]at h1;subst h1;rfl
 |x::xs,_,h1=>by
  simp only[fx]at h1;obtain⟨y,r,rfl,h2,h3,h4,h5⟩:=h1;have ih:=fx.keep j h5;simp only[cP,cW,pU,h2]at ih⊢;cases eC all.toArray x.1 j with
  |true=>exact ih
  |false=>simp only[BU,if_true,fx];exact⟨y,_,rfl,h2,h3,h4,ih⟩
theorem fx.mem {W:aJ}:∀{xs:List (Nat×Oper×CV)} {ys:fZ},fx W xs ys->∀p∈ys,∃q∈xs,p.1=q.1/\p.2.1=q.2.1/\aG W q.2.2 p.2.2
 |[],_,h,p,hp=>by simp only[fx]at h;subst h;cases hp
 |x::_,_,h,p,hp=>by
  simp only[fx]at h;obtain⟨y,r,rfl,h1,h2,h3,h⟩:=h;rcases b6.1 hp with rfl|hp
  ·exact⟨x,by simp,h1,h2,h3⟩
  ·obtain⟨q,g1,g2⟩:=fx.mem h p hp;exact⟨q,by simp[g1],g2⟩
def yG (E:Env) (N:Nat) (all:List Oper) (o:Oper) (Z:TS) (O:Hp) (x:CV):Prop:=(cM all o Z=some true/\bd E N o Z O x)\/(cM all o Z=some false/\x= .d (.v undef))
def aE (E:Env) (N:Nat) (all:List Oper) (pend:List (Nat×Oper×CV)) (Z:TS) (O:Hp):Prop:=∀p∈pend,yG E N all p.2.1 Z O p.2.2
theorem yG.ok {W:aJ} {s:Sl} {ηB:List aq} (hs:SS W Z s) (hh:HS W O ηB) (h:yG E N all o Z O x):∃y,aG W x y/\jX E.toCx N all.toArray o s ηB y:=by
 rcases h with⟨h1,h2⟩|⟨h1,rfl⟩
 ·obtain⟨y,h3,h4⟩:=h2 W s ηB hs hh;exact⟨y,h3,.inl ⟨kh hs h1,h4⟩⟩
 ·exact⟨.v undef,rfl,.inr ⟨kh hs h1,rfl⟩⟩
theorem aE.ok {W:aJ} {s:Sl} {ηB:List aq} {pend:List (Nat×Oper×CV)} {pb:fZ} (hs:SS W Z s) (hh:HS W O ηB) (h:aE E N all pend Z O) (hp:fx W pend pb):kT E.toCx N all.toArray pb s ηB:=λp hpm=>by
 obtain⟨q,h1,h2,h3,h4⟩:=hp.mem p hpm;rw[h3];rcases h q h1 with⟨g1,g2⟩|⟨g1,g2⟩
 ·obtain⟨y,g3,g4⟩:=g2 W s ηB hs hh;exact .inl ⟨kh hs g1,bP.same g3 h4 g4⟩
 ·rw[g2]at h4;simp only[aG]at h4;exact .inr ⟨kh hs g1,h4⟩
theorem SS.up {W:aJ} {s s':Sl} (h:SS W Z s) (hu:∀t x,s t=some x->s' t=some x):SS W Z s':=λt x hx=>by
 obtain⟨y,h1,h2⟩:=h t x hx;exact⟨y,hu t y h1,h2⟩
def dH (A:bN):List (Nat×List CV):=A.map λp=>(p.2.1,p.2.2.map .d)
def xG:bN->TS->TS
 |[],Z=>Z
 |p::A,Z=>xG A (Tr.put 24 Z p.2.1 none)
theorem NW:∀{A:bN} {Z:TS} {t:Nat} {x:CV},(xG A Z).get t=some x->t∉A.map (·.2.1)/\Z.get t=some x
 |[],_,_,_,h=>⟨by simp,h⟩
 |p::A,Z,t,x,h=>by
  obtain⟨h1,h2⟩:=NW (A:=A) h;rcases Tr.eB 24 Z p.2.1 t none x h2 with⟨_,h3⟩|⟨h3,h4⟩
  ·cases h3
  ·exact⟨by simp only[dg,b6,not_or];exact⟨h3,h1⟩,h4⟩
theorem Pq {W:aJ}:∀A:bN,eK W (dH A) (mb A)
 |[]=>rfl
 |p::A=>by
  simp only[dH,mb,dg,eK];exact⟨_,_,rfl,rfl,iq _,Pq A⟩
def cE (E:Env) (N K:Nat) (all:List Oper) (Q:DQ) (l:List (Nat×Oper×TK)) (A:bN) (pend:List (Nat×Oper×CV)) (Z:TS) (O:Hp):Prop:=
 ∀W s ηB pb,SS W Z s->HS W O ηB->fx W pend pb->jy E.toCx N all.toArray (Bb K W Q) (rG K W Q) l A pb s ηB
theorem qa {C:Cx} {ops:Array Oper} {Qn Qn':Sl->List aq->Prop} {Qp Qp':AV->List aq->Prop} (h1:∀s O,Qn s O->Qn' s O) (h2:∀x O,Qp x O->Qp' x O):∀{l:List (Nat×Oper×TK)} {A:bN} {pend:fZ} {s:Sl} {O:List aq},
  jy C N ops Qn Qp l A pend s O->jy C N ops Qn' Qp' l A pend s O
 |[],_,_,_,_,h=>⟨h.1,h1 _ _ h.2⟩
 |(i,o,.fl)::r,_,_,_,_,h=>by
  obtain⟨g1,g2,y,g3⟩:=h;exact⟨g1,g2,y,g3.imp (λ⟨a,b⟩=>⟨a,qa h1 h2 b⟩) λ⟨a,b⟩=>⟨a,qa h1 h2 b⟩⟩
 |(i,o,.one)::r,_,_,_,_,h=>by
  obtain⟨g1,g2⟩:=h;exact⟨g1,CI g2 λzs _ ⟨b1,b2⟩=>⟨b1,b2.imp (λ⟨a1,R,a2,a3,a4⟩=>⟨a1,R,a2,λx O' hR=>qa h1 h2 (a3 x O' hR),λx O' hR=>h2 _ _ (a4 x O' hR)⟩) λ⟨a1,a2⟩=>⟨a1,qa h1 h2 a2⟩⟩⟩
 |[(_,_,.two)],_,_,_,_,h=>h
 |(i,o,.two)::(j,o',x)::r,_,_,_,_,h=>by
  obtain⟨g1,g2,g3⟩:=h;have up:∀{o:Oper} {s:Sl} {O:List aq} {nx nx':Sl->List aq->Prop},ga C N ops o s O nx Qp->(∀s O,nx s O->nx' s O)->ga C N ops o s O nx' Qp':=λh hn=>
   ⟨h.1,h.2.imp (λ⟨a1,R,a2,a3,a4⟩=>⟨a1,R,a2,λx O' hR=>hn _ _ (a3 x O' hR),λx O' hR=>h2 _ _ (a4 x O' hR)⟩) λ⟨a1,a2⟩=>⟨a1,hn _ _ a2⟩⟩
  exact⟨g1,up g2 λs1 O1 q=>⟨q.1,up q.2 λs2 O2 q=>qa h1 h2 q⟩,up g3 λs1 O1 q=>⟨q.1,up q.2 λs2 O2 q=>qa h1 h2 q⟩⟩
theorem cE.up {W W':aJ} (hl:W.le W') {l:List (Nat×Oper×TK)} {A:bN} {pb:fZ} {s:Sl} {ηB:List aq} (h:jy E.toCx N all.toArray (Bb K W' Q) (rG K W' Q) l A pb s ηB):jy E.toCx N all.toArray (Bb K W Q) (rG K W Q) l A pb s ηB:=
 qa (λ_ _ ⟨Z1,h1,h2⟩=>⟨Z1,h1,p9 (hl.toK K) (λ_ _ _ h=>h) h2⟩) (λ_ _ h=>p9 (hl.toK K) (λ_ _ _ h=>h) h) h
section
variable {l:List (Nat×Oper×TK)} {A:bN} {pend:List (Nat×Oper×CV)} {i:Nat}
theorem cE.nil (hp:aE E N all pend Z O) (h:Q .norm Z O):cE E N K all Q [] A pend Z O:=λW s ηB pb hs hh hpi=>by
 refine⟨hp.ok hs hh hpi,dG s Z.keys,λt x hx=>(ki hx).2,sf (d:= .norm) rfl (λt x hx=>?_) hh h⟩;obtain⟨y,h1,h2⟩:=hs t x hx;exact⟨y,by rw[rT (Tr.mem_keys hx)];exact h1,h2⟩
theorem cE.fl (hp:aE E N all pend Z O) (hd:cw N o.dst=true) (hv:yG E N all o Z O x) (k:cE E N K all Q l A ((i,o,x)::pend) (bW Z o.dst x) O):cE E N K all Q ((i,o,.fl)::l) A pend Z O:=λW s ηB pb hs hh hpi=>by
 obtain⟨y,h1,h2⟩:=hv.ok hs hh;exact⟨hp.ok hs hh hpi,hd,y,.inl ⟨h2,k W _ ηB _ (hs.bj o.dst h1) hh (by simp only[fx];exact⟨_,_,rfl,rfl,rfl,h1,hpi⟩)⟩⟩
def bp (E:Env) (N:Nat) (o:Oper) (Z:TS) (x:CV):Prop:=∀W s ηB,SS W Z s->∃y,aG W x y/\bP E.toCx N o s ηB y
theorem cE.st (hp:aE E N all pend Z O) (hd:cw N o.dst=true) (hv:(cM all o Z=some true/\bp E N o Z x)\/(cM all o Z=some false/\x= .d (.v undef))) (k:cE E N K all Q l A pend (bW Z o.dst x) O):cE E N K all Q ((i,o,.fl)::l) A pend Z O:=λW s ηB pb hs hh hpi=>by
 rcases hv with⟨hw,hv⟩|⟨hw,rfl⟩
 ·obtain⟨y,h1,_⟩:=hv W s [] hs;refine⟨hp.ok hs hh hpi,hd,y,.inr ⟨λO'=> .inl ⟨kh hs hw,?_⟩,k W _ ηB _ (hs.bj o.dst h1) hh hpi⟩⟩;obtain⟨y',g1,g2⟩:=hv W s O' hs;exact bP.same g1 h1 g2
 ·exact⟨hp.ok hs hh hpi,hd,.v undef,.inr ⟨λO'=> .inr ⟨kh hs hw,rfl⟩,k W _ ηB _ (hs.bj o.dst rfl) hh hpi⟩⟩
theorem cE.Xh {W:aJ} {s:Sl} {ηB:List aq} {M:bN} (hs:SS W Z s) (hh:HS W O ηB) (hnd:fe ((dH M).map (·.1))=true) {zs:List ((Nat×List AV)×Nat)} (hz:zs.map (·.1)=mb M):
  ∃W',W.le W'/\SS W' (eG (dH M) Z O).1 (gq ηB.length zs s)/\HS W' (eG (dH M) Z O).2 (ηB++cX zs):=by
 have hs':SS W Z (look (dG s Z.keys)):=λt x hx=>by
  obtain⟨y,h1,h2⟩:=hs t x hx;exact⟨y,by rw[rT (Tr.mem_keys hx)];exact h1,h2⟩
 obtain⟨W',h1,h2,h3⟩:=GS (zs:=zs) hs' hh (by rw[hz];exact Pq M) hnd;refine⟨W',h1,h2.up λt x hx=>?_,h3⟩;simp only[gq];cases hl:look (fY ηB.length zs) t with
 |some y=>
  have happ:∀(l r:Sg) (y:AV),look l t=some y->look (l++r) t=some y:=by
   intro l r
   induction l with
   |nil=>intro y h;simp[look]at h
   |cons p l ih=>
    intro y h;obtain⟨k,v⟩:=p;simp only[ke,look]at h⊢;split
    ·rename_i hb;rw[hb]at h;exact h
    ·rename_i hb;rw[hb]at h;exact ih y h
  rw[happ _ _ y hl]at hx;exact hx
 |none=>
  have happ:∀(l r:Sg),look l t=none->look (l++r) t=look r t:=by
   intro l r
   induction l with
   |nil=>intro _;rfl
   |cons p l ih=>
    intro h;obtain⟨k,v⟩:=p;simp only[ke,look]at h⊢;split
    ·rename_i hb;rw[hb]at h;cases h
    ·rename_i hb;rw[hb]at h;exact ih h
  rw[happ _ _ hl]at hx;exact(ki hx).2
theorem cE.skip (hp:aE E N all pend Z O) (hnd:fe ((dH (cq all.toArray i A)).map (·.1))=true) (hd:cw N o.dst=true) (hw:cM all o (eG (dH (cq all.toArray i A)) Z O).1=some false)
  (k:cE E N K all Q l (cB all.toArray i A) (cP all i pend) (bW (eG (dH (cq all.toArray i A)) Z O).1 o.dst (.d (.v undef))) (eG (dH (cq all.toArray i A)) Z O).2):cE E N K all Q ((i,o,.one)::l) A pend Z O:=λW s ηB pb hs hh hpi=>
 ⟨hp.ok hs hh hpi,wE λzs hz=>by
  obtain⟨W1,hl1,hs1,hh1⟩:=cE.Xh hs hh hnd hz;exact⟨hd,.inr ⟨kh hs1 hw,cE.up hl1 (k W1 _ _ _ (hs1.bj o.dst rfl) hh1 ((hpi.mono hl1).keep i))⟩⟩⟩
theorem cE.nV {R:DR->Hp->Prop} (hp:aE E N all pend Z O) (hnd:fe ((dH (cq all.toArray i A)).map (·.1))=true) (hd:cw N o.dst=true) {Z1:TS} {O1:Hp} (cI:eG (dH (cq all.toArray i A)) Z O=(Z1,O1)) (hw:cM all o Z1=some true) (h:bK E N o Z1 O1 R)
  (k1:∀x O',R (.ret x) O'->cE E N K all Q l (cB all.toArray i A) (cP all i pend) (bW Z1 o.dst x) O')
  (k2:∀x O',R (.aO x) O'->Q (.aO x) .lf O'):cE E N K all Q ((i,o,.one)::l) A pend Z O:=λW s ηB pb hs hh hpi=>by
 refine⟨hp.ok hs hh hpi,wE λzs hz=>?_⟩;obtain⟨W1,hl1,hs1,hh1⟩:=cE.Xh hs hh hnd hz;rw[cI]at hs1 hh1;refine⟨hd,.inl ⟨kh hs1 hw,_,h W1 _ _ hs1 hh1,?_,?_⟩⟩
 ·rintro y OB' ⟨W',d,O',hl,hi,hh',hR⟩;cases d with
  |ret x=>
   obtain⟨y',e,hi⟩:=hi;cases e;exact cE.up (hl1.trans hl) (k1 x O' hR W' _ OB' _ ((hs1.mono hl).bj o.dst hi) hh' ((hpi.mono (hl1.trans hl)).keep i))
  |aO x=>obtain⟨y',e,_⟩:=hi;cases e
 ·rintro y OB' ⟨W',d,O',hl,hi,hh',hR⟩;cases d with
  |ret x=>obtain⟨y',e,_⟩:=hi;cases e
  |aO x=>
   obtain⟨y',e,hi⟩:=hi;cases e;exact⟨W',.aO x,.lf,O',(hl1.trans hl).toK K,⟨y,rfl,hi⟩,Is _,hh',k2 x O' hR⟩
theorem cE.pair {j:Nat} {o':Oper} {x:TK} {O1 O2 O3:Hp} (hp:aE E N all pend Z O) (hd:o.dst=none) (hd':o'.dst=none) (hw:cM all o Z=some true) (hw':cM all o' Z=some true)
  (h1:bK E N o Z O (λr O'=>r= .ret (.d (.v undef))/\O'=O1)) (p1:aE E N all (cP all i pend) Z O1) (h2:bK E N o' Z O1 (λr O'=>r= .ret (.d (.v undef))/\O'=O3))
  (h3:bK E N o' Z O (λr O'=>r= .ret (.d (.v undef))/\O'=O2)) (p2:aE E N all (cP all j pend) Z O2) (h4:bK E N o Z O2 (λr O'=>r= .ret (.d (.v undef))/\O'=O3))
  (k:cE E N K all Q l A (cP all j (cP all i pend)) Z O3):cE E N K all Q ((i,o,.two)::(j,o',x)::l) A pend Z O:=λW s ηB pb hs hh hpi=>by
 have go:∀{oa ob:Oper} {ia:Nat} {Oa:Hp},oa.dst=none->ob.dst=none->cM all oa Z=some true->cM all ob Z=some true->bK E N oa Z O (λr O'=>r= .ret (.d (.v undef))/\O'=Oa)->aE E N all (cP all ia pend) Z Oa->
   bK E N ob Z Oa (λr O'=>r= .ret (.d (.v undef))/\O'=O3)->
   ga E.toCx N all.toArray oa s ηB (λs1 O1=>kT E.toCx N all.toArray (cW all.toArray ia pb) s1 O1/\ga E.toCx N all.toArray ob s1 O1 (jy E.toCx N all.toArray (Bb K W Q) (rG K W Q) l A (cW all.toArray j (cW all.toArray i pb))) (rG K W Q)) (rG K W Q):=by
  intro oa ob ia Oa da db wa wb ha pa hb;refine⟨by rw[da];rfl,.inl ⟨kh hs wa,_,ha W s ηB hs hh,?_,?_⟩⟩
  ·rintro y OB' ⟨W',d,O',hl,hi,hh',rfl,rfl⟩;rw[da];refine⟨pa.ok (hs.mono hl) hh' ((hpi.mono hl).keep ia),by rw[db];rfl,.inl ⟨kh hs wb,_,hb W' s OB' (hs.mono hl) hh',?_,?_⟩⟩
   ·rintro y' OB2 ⟨W2,d2,O2',hl2,hi2,hh2,rfl,rfl⟩;rw[db];exact cE.up (hl.trans hl2) (k W2 s OB2 _ (hs.mono (hl.trans hl2)) hh2 (((hpi.mono (hl.trans hl2)).keep i).keep j))
   ·rintro y' OB2 ⟨W2,d2,O2',hl2,hi2,hh2,rfl,rfl⟩;obtain⟨_,e,_⟩:=hi2;cases e
  ·rintro y OB' ⟨W',d,O',hl,hi,hh',rfl,rfl⟩;obtain⟨_,e,_⟩:=hi;cases e
 exact⟨hp.ok hs hh hpi,go hd hd' hw hw' h1 p1 h2,go hd' hd hw' hw h3 p2 h4⟩
theorem cE.guard {d:Nat} {b:Bool} (hb:Z.get d=some (.d (.v (.bool b)))) (h1:b=true->cE E N K all Q l A pend (Tr.put 24 Z d (some (.d (.v (.bool true))))) O)
  (h2:b=false->cE E N K all Q l A pend (Tr.put 24 Z d (some (.d (.v (.bool false))))) O):cE E N K all Q l A pend Z O:=λW s ηB pb hs hh hpi=>by
 have key:SS W (Tr.put 24 Z d (some (.d (.v (.bool b))))) s:=λt z hz=>by
  rcases Tr.eB 24 Z d t _ z hz with⟨rfl,h3⟩|⟨_,h3⟩
  ·cases h3;exact hs _ _ hb
  ·exact hs t z h3
 cases b with
 |true=>exact h1 rfl W s ηB pb key hh hpi
 |false=>exact h2 rfl W s ηB pb key hh hpi
end
theorem eb.nil {A:bN} {tl:List (Nat×Oper×TK)} {L:List (Nat×List CV)} (hnd:fe (L.map (·.1))=true) (k:cE E N K all Q tl A [] (xG A (eG L Z O).1) (eG L Z O).2):eb E N K all tl A Q O [] Z L:=λW s ηB LB hs hh hn=>by
 refine⟨dG s Z.keys,λt x hx=>(ki hx).2,?_⟩;have hs':SS W Z (look (dG s Z.keys)):=λt x hx=>by
  obtain⟨y,h1,h2⟩:=hs t x hx;exact⟨y,by rw[rT (Tr.mem_keys hx)];exact h1,h2⟩
 refine wE λzs hz=>?_;obtain⟨W',h1,h2,h3⟩:=GS (zs:=zs) hs' hh (by rw[hz];exact hn) hnd;refine cE.up h1 (k W' _ _ [] (λt x hx=>?_) h3 rfl);obtain⟨g1,g2⟩:=NW hx;obtain⟨y,g3,g4⟩:=h2 t x g2;refine⟨y,?_,g4⟩;unfold rj;have:(A.map (·.2.1)).contains t=false:=by
  cases hc:(A.map (·.2.1)).contains t with
  |false=>rfl
  |true=>exact absurd (rR.1 hc) g1
 rw[this];exact g3
theorem DC.open {id:Nat} {l:List Oper} (pre:List Nat) (tl:List (Nat×TK)) (al:List Nat) (A:bN) (hm:E.P.follows .mixedOrders=true) (hA:mT E.T l.toArray N al=some A) (hB:oY l.toArray pre tl al=true) (hl:Nat.beq (fV l.toArray pre).length pre.length=true) (h:eb E N K l (jJ l.toArray tl) A Q O (fV l.toArray pre) Z []):
  DC E N K (.region id l.toArray true) Q Z O:=λW ZB ηB hs hh=>
 bH.ade pre tl al A hm hA hB (bI hl) (Gt (λ_ ⟨Z',h1,h2⟩=>⟨Z',h1,h2⟩) (h W _ ηB [] hs hh rfl))
end
def nY (E:Env) (fs:List (Nat×List AV×AV)):Prop:=∀f∈fs,Pure E.toCx f.1 f.2.1 (.ret f.2.2)
inductive It where
 |code (c:Code)
 |eV (id:Nat)
 |ops (all rest:List Oper)
 |lex (all:List Oper) (tl:List (Nat×Oper×TK)) (A:bN) (pre:List Oper) (L:List (Nat×List CV))
 |tl (all:List Oper) (l:List (Nat×Oper×TK)) (A:bN) (pend:List (Nat×Oper×CV)) (fs:List (Nat×List AV×AV))
 |lp (next:TS->Hp->Prop)
 |na (m:Nat) (c:Code)
 |fr (N K:Nat) (Z:TS) (dst:Option Nat) (rs:List ResultVar)
 |ct (N K:Nat) (Z:TS) (dst:Option Nat) (rs:List ResultVar) (ty:TypeId) (z:AV)
def mJ:AV->Bool
 | .agg [.v (.int _ _),.v (.int _ _)]=>true
 |_=>false
def dq (E:Env):Nat->Nat->List It->DQ->DQ
 |_,_,[],Q=>Q
 |N,K,.code c::k,Q=>λe Z O=>match e with
  | .norm=>DC E N K c (dq E N K k Q) Z O
  | .exit i=>dq E N K k Q (.exit i) Z O
  | .ret=>dq E N K k Q .ret Z O
  | .aO x=>dq E N K k Q (.aO x) Z O
 |N,K,.eV id::k,Q=>λe Z O=>match e with
  | .norm=>dq E N K k Q .norm Z O
  | .exit i=>match Nat.beq i id with
   |true=>dq E N K k Q .norm Z O
   |false=>dq E N K k Q (.exit i) Z O
  | .ret=>dq E N K k Q .ret Z O
  | .aO x=>dq E N K k Q (.aO x) Z O
 |N,K,.ops all rest::k,Q=>λe Z O=>match e with
  | .norm=>DO E N K all rest (dq E N K k Q) Z O
  | .exit i=>dq E N K k Q (.exit i) Z O
  | .ret=>dq E N K k Q .ret Z O
  | .aO x=>dq E N K k Q (.aO x) Z O
 |N,K,.lex all tl A pre L::k,Q=>λe Z O=>match e with
  | .norm=>eb E N K all tl A (dq E N K k Q) O pre Z L
  | .exit i=>dq E N K k Q (.exit i) Z O
  | .ret=>dq E N K k Q .ret Z O
  | .aO x=>dq E N K k Q (.aO x) Z O
 |N,K,.tl all l A pend fs::k,Q=>λe Z O=>match e with
  | .norm=>nY E fs->cE E N K all (dq E N K k Q) l A pend Z O
  | .exit i=>dq E N K k Q (.exit i) Z O
  | .ret=>dq E N K k Q .ret Z O
  | .aO x=>dq E N K k Q (.aO x) Z O
 |N,K,.lp next::k,Q=>λe Z O=>match e with
  | .norm=>next Z O
  | .exit i=>dq E N K k Q (.exit i) Z O
  | .ret=>dq E N K k Q .ret Z O
  | .aO x=>dq E N K k Q (.aO x) Z O
 |N,K,.na m c::k,Q=>λe Z O=>match e with
  | .norm=>oI E N K c (dq E N K k Q) m Z O
  | .exit i=>dq E N K k Q (.exit i) Z O
  | .ret=>dq E N K k Q .ret Z O
  | .aO x=>dq E N K k Q (.aO x) Z O
 |_,_,.fr N' K' Z' dst rs::k,Q=>λe Z O=>match e with
  | .norm=>∃xs,eh E.T Z O rs=some xs/\dq E N' K' k Q .norm (bW Z' dst (ff xs)) O
  | .ret=>∃xs,eh E.T Z O rs=some xs/\dq E N' K' k Q .norm (bW Z' dst (ff xs)) O
  | .exit _=>False
  | .aO x=>dq E N' K' k Q (.aO x) .lf O
 |_,_,.ct N' K' Z' dst rs ty z::k,Q=>λe Z O=>match e with
  | .norm=>∃xs,eh E.T Z O rs=some xs/\dq E N' K' k Q .norm (bW Z' dst (.d z)) O
  | .ret=>∃xs,eh E.T Z O rs=some xs/\dq E N' K' k Q .norm (bW Z' dst (.d z)) O
  | .exit _=>False
  | .aO x=>∃y,(x= .bC ty (.d y)\/x= .d (.bC ty y))/\mJ y=true/\dq E N' K' k Q .norm (bW Z' dst (.d y)) O
def ak (E:Env) (N K:Nat) (todo:List It) (Q:DQ) (Z:TS) (O:Hp):Prop:=dq E N K todo Q .norm Z O
section
variable {E:Env} {N K:Nat} {Q:DQ} {Z:TS} {O:Hp} {k:List It}
theorem Qx (b:Code):DE.then (DC E N K b (dq E N K k Q)) (dq E N K k Q)=dq E N K (.code b::k) Q:=by funext e Z O;cases e<;>rfl
theorem aet (i:Nat):DE.inBlock i (dq E N K k Q)=dq E N K (.eV i::k) Q:=by funext e Z O;cases e<;>rfl
theorem aeZ (next:TS->Hp->Prop):DE.then next (dq E N K k Q)=dq E N K (.lp next::k) Q:=by funext e Z O;cases e<;>rfl
theorem S5 (m:Nat) (c:Code):DE.then (oI E N K c (dq E N K k Q) m) (dq E N K k Q)=dq E N K (.na m c::k) Q:=by funext e Z O;cases e<;>rfl
def kx (id:Nat):List It->Option (List It)
 |[]=>none
 | .eV i::k=>match Nat.beq id i with
  |true=>some k
  |false=>kx id k
 | .code _::k=>kx id k
 | .ops _ _::k=>kx id k
 | .lex _ _ _ _ _::k=>kx id k
 | .tl _ _ _ _ _::k=>kx id k
 | .lp _::k=>kx id k
 | .na _ _::k=>kx id k
 | .fr _ _ _ _ _::_=>none
 | .ct _ _ _ _ _ _ _::_=>none
theorem oH {id:Nat}:∀{k k':List It},kx id k=some k'->dq E N K k Q (.exit id)=dq E N K k' Q .norm
 |[],_,h=>by simp[kx]at h
 | .code _::k,k',h=>by funext Z O;simp only[dq];rw[oH (k:=k) h]
 | .ops _ _::k,k',h=>by funext Z O;simp only[dq];rw[oH (k:=k) h]
 | .lex _ _ _ _ _::k,k',h=>by funext Z O;simp only[dq];rw[oH (k:=k) h]
 | .tl _ _ _ _ _::k,k',h=>by funext Z O;simp only[dq];rw[oH (k:=k) h]
 | .lp _::k,k',h=>by funext Z O;simp only[dq];rw[oH (k:=k) h]
 | .na _ _::k,k',h=>by funext Z O;simp only[dq];rw[oH (k:=k) h]
 | .fr _ _ _ _ _::_,_,h=>by simp[kx]at h
 | .ct _ _ _ _ _ _ _::_,_,h=>by simp[kx]at h
 | .eV i::k,k',h=>by
  funext Z O;simp only[kx]at h;simp only[dq];cases hb:Nat.beq id i with
  |true=>rw[hb]at h;simp only[aC]at h;subst h;rfl
  |false=>rw[hb]at h;simp only;rw[oH (k:=k) h]
def mN:List It->List It
 |[]=>[]
 | .fr N K Z dst rs::k=> .fr N K Z dst rs::k
 | .ct N K Z dst rs ty z::k=> .ct N K Z dst rs ty z::k
 |_::k=>mN k
theorem mK:∀(k:List It),dq E N K k Q .ret=dq E N K (mN k) Q .ret
 |[]=>rfl
 | .code _::k=>by funext Z O;simp only[dq,mN];rw[mK k]
 | .eV _::k=>by funext Z O;simp only[dq,mN];rw[mK k]
 | .ops _ _::k=>by funext Z O;simp only[dq,mN];rw[mK k]
 | .lex _ _ _ _ _::k=>by funext Z O;simp only[dq,mN];rw[mK k]
 | .tl _ _ _ _ _::k=>by funext Z O;simp only[dq,mN];rw[mK k]
 | .lp _::k=>by funext Z O;simp only[dq,mN];rw[mK k]
 | .na _ _::k=>by funext Z O;simp only[dq,mN];rw[mK k]
 | .fr _ _ _ _ _::_=>rfl
 | .ct _ _ _ _ _ _ _::_=>rfl
def jL:List It->Option (Nat×Nat×TS×Option Nat×TypeId×List It)
 |[]=>none
 | .ct N K Z dst _ ty _::k=>some (N,K,Z,dst,ty,k)
 |_::k=>jL k
theorem lO {x:CV}:∀(k:List It) (N K:Nat) (Z:TS),jL k=none->(Q (.aO x) .lf O->dq E N K k Q (.aO x) .lf O)
 |[],_,_,_,_,h=>h
 | .code _::k,N,K,Z,hp,h=>lO k N K Z hp h
 | .eV _::k,N,K,Z,hp,h=>lO k N K Z hp h
 | .ops _ _::k,N,K,Z,hp,h=>lO k N K Z hp h
 | .lex _ _ _ _ _::k,N,K,Z,hp,h=>lO k N K Z hp h
 | .tl _ _ _ _ _::k,N,K,Z,hp,h=>lO k N K Z hp h
 | .lp _::k,N,K,Z,hp,h=>lO k N K Z hp h
 | .na _ _::k,N,K,Z,hp,h=>lO k N K Z hp h
 | .fr N' K' _ _ _::k,_,_,Z,hp,h=>lO k N' K' Z hp h
 | .ct _ _ _ _ _ _ _::_,_,_,_,hp,_=>by simp[jL]at hp
theorem mA {x:CV} {y:AV} {N' K' ty:Nat} {Z':TS} {dst:Option Nat} {k':List It} (hx:x= .bC ty (.d y)\/x= .d (.bC ty y)) (hy:mJ y=true):∀(k:List It) (N K:Nat),jL k=some (N',K',Z',dst,ty,k')->(dq E N' K' k' Q .norm (bW Z' dst (.d y)) O->dq E N K k Q (.aO x) .lf O)
 |[],_,_,hp,_=>by simp[jL]at hp
 | .code _::k,N,K,hp,h=>mA hx hy k N K hp h
 | .eV _::k,N,K,hp,h=>mA hx hy k N K hp h
 | .ops _ _::k,N,K,hp,h=>mA hx hy k N K hp h
 | .lex _ _ _ _ _::k,N,K,hp,h=>mA hx hy k N K hp h
 | .tl _ _ _ _ _::k,N,K,hp,h=>mA hx hy k N K hp h
 | .lp _::k,N,K,hp,h=>mA hx hy k N K hp h
 | .na _ _::k,N,K,hp,h=>mA hx hy k N K hp h
 | .fr N1 K1 _ _ _::k,_,_,hp,h=>mA hx hy k N1 K1 hp h
 | .ct N1 K1 Z1 dst1 rs1 ty1 z1::k,_,_,hp,h=>by
  simp only[jL,aC,cF]at hp;obtain⟨rfl,rfl,rfl,rfl,rfl,rfl⟩:=hp;exact⟨y,hx,hy,h⟩
def uO (E:Env) (f:FuncId) (ty:TypeId) (z:AV):Prop:=∀(g:FuncId) (fs cs:List AV) (O:List aq) (Q:AR->List aq->Prop),iA E.toCx g (fs++cs) O Q->(∀x O',Q (.aO x) O'->∃y,x= .bC ty y/\mJ y=true)->
 iA E.toCx f [.fn g fs cs] O (λr O'=>(∃x,Q (.ret x) O'/\r= .ret z)\/∃x,Q (.aO (.bC ty x)) O'/\r= .ret x)
theorem Nn {W:aJ} {x:CV} {y:AV} {ty:Nat} {y0:AV} (hx:x= .bC ty (.d y0)\/x= .d (.bC ty y0)) (hi:aG W x y):y= .bC ty y0:=by
 rcases hx with rfl|rfl
 ·simp only[aG]at hi;obtain⟨u,rfl,rfl⟩:=hi;rfl
 ·simp only[aG]at hi;exact hi
theorem eH.ct {f g:FuncId} {ty:TypeId} {z:AV} (hct:uO E f ty z) {fs cs:List CV} {Q':DR->Hp->Prop} (h:eH E g (fs++cs) O Q') (hp:∀x O',Q' (.aO x) O'->∃y,(x= .bC ty (.d y)\/x= .d (.bC ty y))/\mJ y=true):
  eH E f [.fn g fs cs] O (λr O'=>(∃x,Q' (.ret x) O'/\r= .ret (.d z))\/∃x y,Q' (.aO x) O'/\(x= .bC ty (.d y)\/x= .d (.bC ty y))/\mJ y=true/\r= .ret (.d y)):=λW ys ηB hi hh=>by
 simp only[aQ,aG]at hi;obtain⟨y,r,rfl,⟨us,vs,rfl,h1,h2⟩,rfl⟩:=hi;refine(hct g us vs ηB _ (h W (us++vs) ηB (h1.append h2) hh) ?_).mono ?_
 ·rintro x OB' ⟨W',d,O1,g1,g2,g3,g4⟩;cases d with
  |ret x'=>obtain⟨y',e,_⟩:=g2;cases e
  |aO x'=>
   obtain⟨y',e,g2⟩:=g2;cases e;obtain⟨y0,q1,q2⟩:=hp _ _ g4;exact⟨y0,Nn q1 g2,q2⟩
 ·rintro r OB' (⟨x,⟨W',d,O1,g1,g2,g3,g4⟩,rfl⟩|⟨x,⟨W',d,O1,g1,g2,g3,g4⟩,rfl⟩)
  ·cases d with
   |ret x'=>exact⟨W',.ret (.d z),O1,g1,⟨z,rfl,rfl⟩,g3,.inl ⟨x',g4,rfl⟩⟩
   |aO x'=>obtain⟨y',e,_⟩:=g2;cases e
  ·cases d with
   |ret x'=>obtain⟨y',e,_⟩:=g2;cases e
   |aO x'=>
    obtain⟨y',e,g2⟩:=g2;cases e;obtain⟨y0,q1,q2⟩:=hp _ _ g4;have:=Nn q1 g2;cases this;exact⟨W',.ret (.d x),O1,g1,⟨x,rfl,rfl⟩,g3,.inr ⟨x',x,g4,q1,q2,rfl⟩⟩
def E1:CV->Option (FuncId×List CV×List CV)
 | .fn g fs cs=>some (g,fs,cs)
 | .d (.fn g fs cs)=>some (g,fs.map .d,cs.map .d)
 |_=>none
theorem abF {W:aJ} {x:CV} {g:FuncId} {fs cs:List CV} (h:E1 x=some (g,fs,cs)) {y:AV} (hi:aG W x y):aG W (.fn g fs cs) y:=by
 unfold E1 at h;split at h
 ·simp only[aC,cF]at h;obtain⟨rfl,rfl,rfl⟩:=h;exact hi
 ·simp only[aC,cF]at h;obtain⟨rfl,rfl,rfl⟩:=h;simp only[aG]at hi⊢;subst hi;exact⟨_,_,rfl,iq _,iq _⟩
 ·cases h
theorem ak.one {c:Code} (h:ak E N K [.code c] Q Z O):DC E N K c Q Z O:=h
theorem ak.loop {c:Code} (ts:List Nat) (m:Nat) (I:Nat->List (Nat×CV)->List br->Prop) (n:Nat) (hK:K<=m) {l:List (Nat×CV)} {es:List br} (hm:m<=O.n) (hp:eI m ts Z=some l) (he:kz m O=some es) (h0:I n l es)
  (round:∀n l es,I n l es->ak E N K (.code c:: .lp (λZ1 O1=>∃n',n'<n/\∃l' es',m<=O1.n/\eI m ts Z1=some l'/\kz m O1=some es'/\I n' l' es')::k) Q (pJ l) (iG es)):ak E N K (.code (.loop c)::k) Q Z O:=
 DC.loop ts m I n hK hm hp he h0 λn l es hI=>by
  have:=round n l es hI;unfold ak at this;simp only[dq]at this;rw[aeZ];exact this
theorem ak.lp {next:TS->Hp->Prop} (h:next Z O):ak E N K (.lp next::k) Q Z O:=h
theorem ak.inl {dst:Option Nat} {f:Operand} {args:List Operand} {g:FuncId} {cs:List CV} {tys:Array TypeId} {ty:TypeId} {pos:String} {after:Array Edge} {fn:Func} {c:Code} {rs:List ResultVar} {nt:Nat} {all rest:List Oper}
  (hc:dz Z f args=some (g,cs)) (hf:E.P.funcs[g]? =some fn) (hb:fn.body=some c) (hname:(fn.name== "runtime.NumGoroutine")=false) (hrs:fn.results=rs.toArray) (hnt:fn.ntmps=nt) (hn:Nat.ble cs.length nt=true) (hd:cw N dst=true)
  (h:ak E nt O.n (.code c:: .fr N K Z dst rs:: .ops all rest::k) Q (iv 0 cs) O):ak E N K (.ops all (⟨dst,.call {callee:= .value f,args:=args.toArray,argTypes:=tys},ty,pos,after,none⟩::rest)::k) Q Z O:=by
 show DO E N K all _ (dq E N K k Q) Z O;refine DO.call (Q':=λr O'=>match r with
  | .ret x=>DO E N K all rest (dq E N K k Q) (bW Z dst x) O'
  | .aO x=>dq E N K k Q (.aO x) .lf O') ?_ hc hd (λ_ _ h=>h) (λ_ _ h=>h)
 refine eH.enter hf hb hname rs hrs nt hnt hn (DC.mono h ?_);intro e Z1 O1 h1;cases e with
 |norm=>exact h1
 |ret=>exact h1
 |exit i=>exact h1
 |aO x=>exact h1
theorem ak.ct {dst:Option Nat} {f:Operand} {args:List Operand} {f0 g:FuncId} {x:CV} {fs cs:List CV} {ty':TypeId} {z:AV} {tys:Array TypeId} {ty:TypeId} {pos:String} {after:Array Edge} {fn:Func} {c:Code} {rs:List ResultVar} {nt:Nat} {all rest:List Oper}
  (hct:uO E f0 ty' z) (hc:dz Z f args=some (f0,[x])) (hx:E1 x=some (g,fs,cs)) (hf:E.P.funcs[g]? =some fn) (hb:fn.body=some c) (hname:(fn.name== "runtime.NumGoroutine")=false) (hrs:fn.results=rs.toArray) (hnt:fn.ntmps=nt) (hn:Nat.ble (fs++cs).length nt=true) (hd:cw N dst=true)
  (h:ak E nt O.n (.code c:: .ct N K Z dst rs ty' z:: .ops all rest::k) Q (iv 0 (fs++cs)) O):ak E N K (.ops all (⟨dst,.call {callee:= .value f,args:=args.toArray,argTypes:=tys},ty,pos,after,none⟩::rest)::k) Q Z O:=by
 show DO E N K all _ (dq E N K k Q) Z O;have key:eH E g (fs++cs) O (λr O'=>match r with
  | .ret _=>DO E N K all rest (dq E N K k Q) (bW Z dst (.d z)) O'
  | .aO x=>∃y,(x= .bC ty' (.d y)\/x= .d (.bC ty' y))/\mJ y=true/\DO E N K all rest (dq E N K k Q) (bW Z dst (.d y)) O'):=by
  refine eH.enter hf hb hname rs hrs nt hnt hn (DC.mono h ?_);intro e Z1 O1 h1;cases e with
  |norm=>exact h1
  |ret=>exact h1
  |exit i=>exact h1
  |aO x=>exact h1
 have key2:eH E f0 [x] O (λr O'=>match r with
  | .ret y=>DO E N K all rest (dq E N K k Q) (bW Z dst y) O'
  | .aO _=>False):=λW ys ηB hi hh=>by
  have hi':aQ W [.fn g fs cs] ys:=by
   simp only[aQ]at hi;obtain⟨y,r,rfl,h1,rfl⟩:=hi;have:=abF hx h1;simp only[aQ];exact⟨y,[],rfl,this,rfl⟩
  refine(eH.ct hct key (λx O' hx=>?_) W ys ηB hi' hh).mono ?_
  ·obtain⟨y,h1,h2,_⟩:=hx;exact⟨y,h1,h2⟩
  ·rintro r OB' ⟨W',d,O1,g1,g2,g3,(⟨x,g4,rfl⟩|⟨x,y,⟨y',q1,q2,q3⟩,q4,q5,rfl⟩)⟩
   ·exact⟨W',_,O1,g1,g2,g3,g4⟩
   ·refine⟨W',_,O1,g1,g2,g3,?_⟩;have:y=y':=by
     rcases q1 with rfl|rfl<;>rcases q4 with e|e<;>cases e<;>rfl
    subst this;exact q3
 exact DO.call key2 hc hd (λ_ _ h=>h) (λ_ _ h=>h.elim)
theorem ak.fN {o:Oper} {i:Nat} {f:Operand} {args:List Operand} {g:FuncId} {cs:List CV} {tys:Array TypeId} {fn:Func} {c:Code} {rs:List ResultVar} {nt:Nat} {all:List Oper} {l:List (Nat×Oper×TK)} {A:bN} {pend:List (Nat×Oper×CV)} {fs:List (Nat×List AV×AV)} {Z1:TS} {O1:Hp} (ho:o.op= .call {callee:= .value f,args:=args.toArray,argTypes:=tys})
  (hp:nY E fs->aE E N all pend Z O) (hnd':fe ((dH (cq all.toArray i A)).map (·.1))=true) (cI:eG (dH (cq all.toArray i A)) Z O=(Z1,O1)) (hw:cM all o Z1=some true) (hc:dz Z1 f args=some (g,cs)) (hf:E.P.funcs[g]? =some fn) (hb:fn.body=some c) (hname:(fn.name== "runtime.NumGoroutine")=false) (hrs:fn.results=rs.toArray) (hnt:fn.ntmps=nt) (hn:Nat.ble cs.length nt=true) (hd:cw N o.dst=true)
  (h:ak E nt O1.n (.code c:: .fr N K Z1 o.dst rs:: .tl all l (cB all.toArray i A) (cP all i pend) fs::k) Q (iv 0 cs) O1):ak E N K (.tl all ((i,o,.one)::l) A pend fs::k) Q Z O:=by
 show nY E fs->cE E N K all (dq E N K k Q) _ A pend Z O;intro hfs;refine cE.nV (R:=λr O'=>match r with
  | .ret x=>nY E fs->cE E N K all (dq E N K k Q) l (cB all.toArray i A) (cP all i pend) (bW Z1 o.dst x) O'
  | .aO x=>dq E N K k Q (.aO x) .lf O') (hp hfs) hnd' hd cI hw (bK.call ho ?_ hc) (λ_ _ h=>h hfs) (λ_ _ h=>h)
 refine eH.enter hf hb hname rs hrs nt hnt hn (DC.mono h ?_);intro e Z1 O1 h1;cases e with
 |norm=>exact h1
 |ret=>exact h1
 |exit i=>exact h1
 |aO x=>exact h1
