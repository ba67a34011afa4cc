/- The abstract machine, fifth part: what is still to be done, as a list; regions whose order is open; panics. -/
import Derived.Test.YthlcjaanmbjcaaaGreatKB14
set_option linter.all false
noncomputable section
namespace Go.Bw
open Go
theorem aQ.panic {C:Cx} {N:Nat} {Q:AQ} {Z:Sg} {O:List ag} {ops:Array Oper} {rest:List Oper} {o:Oper} {p:Operand} {t:TypeId} {y:AV} (hg:o.guard=none) (ho:o.op= .panic p) (hp:ev (look Z) p=some (.ba t y)) (k:Q (.aD (.ba t y)) [] O):
  aQ C N ops (o::rest) Q Z O:=λF w0 O0 a w hs hx=>by
 unfold wpList;rw[cV (by simp[Region.wanted,hg])];refine .inl ?_;have h1:=aY hs.sg hp;have h0:=h1;simp only[Rel]at h0;obtain⟨u,h0,_⟩:=h0;have hrun:(execOp a.eval o).run C.P w= .halt (.panic (.iface t u)) w:=by simp[execOp,ho,Instr.panic,h0]
 unfold Oper.wp;rw[hrun];rw[h0]at h1;exact⟨.aD (.ba t y),[],O,k,⟨_,rfl,h1⟩,⟨⟨hs.sg.1,λt x hx=>by simp[AE.sl,look]at hx⟩,hs.hp,hs.df⟩,hx⟩
section
variable {E:Env} {N K:Nat} {Q:DQ} {Z:TS} {O:Hp} {o:Oper} {x:CV} {all rest:List Oper}
theorem xH {L:au} (s:Sl):SS L .lf s:=λt x hx=>by simp[Tr.gH]at hx
theorem DO.panic {p:Operand} (hg:o.guard=none) (ho:o.op= .panic p) {t:TypeId} {y:CV} (hp:aL Z p=some (.ba t y)) (k:Q (.aD (.ba t y)) .lf O):DO E N K all (o::rest) Q Z O:=λL ZB ηB hs hh=>by
 obtain⟨z,h1,h2⟩:=bz hs hp;have h3:=h2;simp only[aw]at h3;obtain⟨u,rfl,_⟩:=h3;exact aQ.panic hg ho h1 ⟨L,.aD (.ba t y),.lf,O,.refl K L,⟨_,rfl,h2⟩,xH _,hh,k⟩
theorem DO.xe {p:Operand} (hg:o.guard=none) (ho:o.op= .panic p) {t:TypeId} {y:AV} (hp:aL Z p=some (.d (.ba t y))) (k:Q (.aD (.d (.ba t y))) .lf O):DO E N K all (o::rest) Q Z O:=λL ZB ηB hs hh=>by
 obtain⟨z,h1,h2⟩:=bz hs hp;simp only[aw]at h2;subst h2;exact aQ.panic hg ho h1 ⟨L,.aD (.d (.ba t y)),.lf,O,.refl K L,⟨_,rfl,rfl⟩,xH _,hh,k⟩
theorem DO.FB {j d e:Nat} {want t:Bool} {op:Op} {ty:TypeId} {pos:String} {after:Array Edge} {oj:Oper} (hj:nth all j=some oj) (hjd:oj.dst=some d) (ht:Z.get d=some (.d (.v (.bool t))))
  (h1:t=want->DO E N K all (⟨some e,op,ty,pos,after,none⟩::rest) Q (Tr.put 24 Z d (some (.d (.v (.bool want))))) O)
  (h2:t= !want->DO E N K all rest Q (Tr.put 24 (Tr.put 24 Z d (some (.d (.v (.bool !want))))) e (some (.d (.v undef)))) O)
  (hd:Nat.blt e N=true):DO E N K all (⟨some e,op,ty,pos,after,some (j,want)⟩::rest) Q Z O:=λL ZB ηB hs hh=>by
 obtain⟨y,h3,h4⟩:=hs d _ ht;simp only[aw]at h4;subst h4;have hjB:(all.toArray[j]?).bind (·.dst)=some d:=by rw[bP]at hj;simp[hj,hjd]
 have hput:∀b,t=b->SS L (Tr.put 24 Z d (some (.d (.v (.bool b))))) (look ((d,.v (.bool b))::ZB)):=λb hb=>by
  subst hb;exact hs.put (some d) (x:= .d (.v (.bool t))) (y:= .v (.bool t)) rfl
 exact aQ.cx hjB h3 (λe=>h1 e L _ ηB (hput want e) hh) (λe'=>h2 e' L _ ηB ((hput _ e').put (some e) (x:= .d (.v undef)) (y:= .v undef) rfl) hh) hd
theorem DO.xd {j d e:Nat} {want:Bool} {op:Op} {ty:TypeId} {pos:String} {after:Array Edge} {oj:Oper} (hj:nth all j=some oj) (hjd:oj.dst=some d) (ht:Z.get d=some (.d (.v undef)))
  (h2:DO E N K all rest Q (Tr.put 24 Z e (some (.d (.v undef)))) O) (hd:Nat.blt e N=true):DO E N K all (⟨some e,op,ty,pos,after,some (j,want)⟩::rest) Q Z O:=λL ZB ηB hs hh=>by
 obtain⟨y,h3,h4⟩:=hs d _ ht;simp only[aw]at h4;subst h4;have hjB:(all.toArray[j]?).bind (·.dst)=some d:=by rw[bP]at hj;simp[hj,hjd]
 exact aQ.xd hjB h3 (h2 L _ ηB (hs.put (some e) (x:= .d (.v undef)) (y:= .v undef) rfl) hh) hd
def dH (L:au):List (Nat×List CV)->Nu->Prop
 |[],ys=>ys=[]
 |x::xs,ys=>∃y r,ys=y::r/\y.1=x.1/\aC L x.2 y.2/\dH L xs r
theorem dH.append {L:au}:∀{xs xs':List (Nat×List CV)} {ys ys':Nu},dH L xs ys->dH L xs' ys'->dH L (xs++xs') (ys++ys')
 |[],_,_,_,h,g=>by simp only[dH]at h;subst h;simpa using g
 |_::_,_,_,_,h,g=>by simp only[dH]at h;obtain⟨y,r,rfl,h1,h2,h⟩:=h;simp only[gT,dH];exact⟨y,_,rfl,h1,h2,dH.append h g⟩
theorem dH.mem {L:au}:∀{xs:List (Nat×List CV)} {ys:Nu},dH L xs ys->∀p∈ys,∃q∈xs,q.1=p.1
 |[],_,h,p,hp=>by simp only[dH]at h;subst h;cases hp
 |x::_,_,h,p,hp=>by
  simp only[dH]at h;obtain⟨y,r,rfl,h1,_,h⟩:=h;rcases cL.1 hp with rfl|hp
  ·exact⟨x,by simp,h1.symm⟩
  ·obtain⟨q,h2,h3⟩:=dH.mem h p hp;exact⟨q,by simp[h2],h3⟩
def qQ (K:Nat) (L:au) (Q:DQ):Sl->List ag->Prop:=λs O'=>∃Z1,(∀t x,look Z1 t=some x->s t=some x)/\lift K L Q .norm Z1 O'
def mz (K:Nat) (L:au) (Q:DQ):AV->List ag->Prop:=λx O'=>lift K L Q (.aD x) [] O'
def cY (E:Env) (N K:Nat) (all:List Oper) (tl:List (Nat×Oper×TK)) (A:bo) (Q:DQ) (O:Hp) (pre:List Oper) (Z:TS) (W:List (Nat×List CV)):Prop:=
 ∀L s ηB WB,SS L Z s->HS L O ηB->dH L W WB->mm E.toCx N ηB all.toArray (λst=>∃Z',(∀t x,look Z' t=some x->st.1 t=some x)/\
  fu st.2 λzs=>fV E.toCx N all.toArray (qQ K L Q) (mz K L Q) tl A [] (mn A (look (eu ηB.length zs++Z'))) (ηB++cm zs)) pre (s,WB)
theorem SS.aO {L:au} {s:Sl} (hs:SS L Z s) (dst:Option Nat) {y:AV} (hx:aw L x y):SS L (br Z dst x) (aO s dst (some y)):=by
 cases dst with
 |none=>exact hs
 |some d=>
  intro t z hz;rcases Tr.dA 24 Z d t (some x) z hz with⟨rfl,h1⟩|⟨hne,h1⟩
  ·cases h1;exact⟨y,by simp[Bw.aO],hx⟩
  ·obtain⟨u,h2,h3⟩:=hs t z h1;exact⟨u,by simp[Bw.aO,hne,h2],h3⟩
theorem SS.del {L:au} {s:Sl} (hs:SS L Z s) (d:Nat):SS L (Tr.put 24 Z d none) (Bw.aO s (some d) none):=by
 intro t z hz;rcases Tr.dA 24 Z d t none z hz with⟨_,h1⟩|⟨hne,h1⟩
 ·cases h1
 ·obtain⟨u,h2,h3⟩:=hs t z h1;exact⟨u,by simp[Bw.aO,hne,h2],h3⟩
def bX (all:List Oper) (o:Oper) (Z:TS):Option Bool:=match o.guard with
 |none=>some true
 |some (j,want)=>match(nth all j).bind (·.dst)with
  |none=>some false
  |some d=>match Z.get d with
   |some (.d (.v (.bool b)))=>some (b==want)
   |some (.d (.v (.tuple _)))=>some false
   |_=>none
theorem gC {L:au} {s:Sl} (hs:SS L Z s) {b:Bool} (h:bX all o Z=some b):gG all.toArray o s=some b:=by
 unfold bX at h;unfold gG;cases hg:o.guard with
 |none=>rw[hg]at h;exact h
 |some p=>
  obtain⟨j,want⟩:=p;rw[hg]at h;simp only at h⊢;have hj:(all.toArray[j]?).bind (·.dst)=(nth all j).bind (·.dst):=by rw[bP];simp
  rw[hj];cases hd:(nth all j).bind (·.dst)with
  |none=>rw[hd]at h;exact h
  |some d=>
   rw[hd]at h;simp only at h⊢;split at h
   ·rename_i q hq;obtain⟨y,h1,h2⟩:=hs d _ hq;simp only[aw]at h2;subst h2;simp only[h1];exact h
   ·rename_i q hq;obtain⟨y,h1,h2⟩:=hs d _ hq;simp only[aw]at h2;subst h2;simp only[h1];exact h
   ·cases h
def iJ (o:Oper) (W:List (Nat×List CV)):Bool:=match o.dst with
 |none=>true
 |some d=>W.all λp=>!Nat.beq p.1 d
theorem vH {L:au} {W:List (Nat×List CV)} {WB:Nu} (h:iJ o W=true) (hn:dH L W WB):fresh o WB:=by
 intro d hd p hp he;unfold iJ at h;rw[hd]at h;simp only[fH,iA]at h;obtain⟨q,h1,h2⟩:=hn.mem p hp;have:=h q h1;rw[h2,he,rR]at this;cases this
theorem cY.val {pre:List Oper} {A:bo} {tl:List (Nat×Oper×TK)} {W:List (Nat×List CV)} (hd:bE N o.dst=true) (hw:bX all o Z=some true) (hf:iJ o W=true) (h:aN E N o Z O x) (k:cY E N K all tl A Q O pre (br Z o.dst x) W):
  cY E N K all tl A Q O (o::pre) Z W:=λL s ηB WB hs hh hn=>by
 obtain⟨y,h1,h2⟩:=h L s ηB hs hh;exact⟨vH hf hn,some y,[],⟨hd,.inl ⟨gC hs hw,.inl ⟨y,h2,rfl,rfl⟩⟩⟩,by simpa using k L _ ηB WB (hs.aO o.dst h1) hh hn⟩
theorem cY.skip {pre:List Oper} {A:bo} {tl:List (Nat×Oper×TK)} {W:List (Nat×List CV)} (hd:bE N o.dst=true) (hw:bX all o Z=some false) (hf:iJ o W=true) (k:cY E N K all tl A Q O pre (br Z o.dst (.d (.v undef))) W):
  cY E N K all tl A Q O (o::pre) Z W:=λL s ηB WB hs hh hn=>by
 exact⟨vH hf hn,some (.v undef),[],⟨hd,.inr ⟨gC hs hw,rfl,rfl⟩⟩,by simpa using k L _ ηB WB (hs.aO o.dst rfl) hh hn⟩
theorem cY.new {pre:List Oper} {A:bo} {tl:List (Nat×Oper×TK)} {W:List (Nat×List CV)} {d:Nat} {cells:List CV} (hdd:o.dst=some d) (hd:Nat.blt d N=true) (hw:bX all o Z=some true) (hf:iJ o W=true) (h:∀L s ηB,SS L Z s->HS L O ηB->∃cs,aC L cells cs/\dZ E.toCx N o s ηB cs)
  (k:cY E N K all tl A Q O pre (Tr.put 24 Z d none) (W++[(d,cells)])):cY E N K all tl A Q O (o::pre) Z W:=λL s ηB WB hs hh hn=>by
 obtain⟨cs,h1,h2⟩:=h L s ηB hs hh;refine⟨vH hf hn,none,[(d,cs)],⟨by rw[hdd];exact hd,.inl ⟨gC hs hw,.inr ⟨d,cs,hdd,h2,rfl,rfl⟩⟩⟩,?_⟩;rw[hdd];exact k L _ ηB _ (hs.del d) hh (hn.append (by simp only[dH];exact⟨_,_,rfl,rfl,h1,rfl⟩))
theorem aN.G' {cells:List AV} (h:∀L s ηB,SS L Z s->HS L O ηB->∃cs,aC L (cells.map .d) cs/\dZ E.toCx N o s ηB cs):aN E N o Z O (.d (.ip cells)):=λL s ηB hs hh=>by
 obtain⟨cs,h1,h2⟩:=h L s ηB hs hh;have:cs=cells:=by
  have:=jk (zs:=cells) (by
   have key:∀l:List AV,eg (l.map .d)=some l:=by
    intro l;induction l with
    |nil=>rfl
    |cons y l ih=>simp[eg,ih]
   exact key cells) h1
  exact this
 subst this;exact⟨_,rfl,h2.frozen⟩
theorem aN.lit {t:TypeId} {n:Nat} {parts:Array (Nat×Operand)} {e k sz by' sz' by'':Nat} {z z':List Value} {td':TD} {cells:List AV} (ho:o.op= .buildSlice t n parts)
  (ht:aM E.T t=some ⟨.slice e k,sz,by',z⟩) (hte:aM E.T e=some ⟨td',sz',by'',z'⟩) (hf:dG k (cZ Z) (eR n (z'.map .v)) parts.toList=some cells) (hb:Nat.ble (n*k) 16777216=true) (hk:Nat.ble 1 k=true):
  aN E N o Z O (.d (.sl k (chunk n k cells))):=λ_ _ _ hs _=>⟨_,rfl,(bp.lit ho ht hte hf hb hk).mono λ_ _ _ hy=>gI hs hy⟩
theorem cY.guard {pre:List Oper} {A:bo} {tl:List (Nat×Oper×TK)} {W:List (Nat×List CV)} {d:Nat} {b:Bool} (hb:Z.get d=some (.d (.v (.bool b)))) (h1:b=true->cY E N K all tl A Q O pre (Tr.put 24 Z d (some (.d (.v (.bool true))))) W)
  (h2:b=false->cY E N K all tl A Q O pre (Tr.put 24 Z d (some (.d (.v (.bool false))))) W):cY E N K all tl A Q O pre Z W:=λL s ηB WB hs hh hn=>by
 have key:SS L (Tr.put 24 Z d (some (.d (.v (.bool b))))) s:=λt z hz=>by
  rcases Tr.dA 24 Z d t _ z hz with⟨rfl,h3⟩|⟨_,h3⟩
  ·cases h3;exact hs _ _ hb
  ·exact hs t z h3
 cases b with
 |true=>exact h1 rfl L s ηB WB key hh hn
 |false=>exact h2 rfl L s ηB WB key hh hn
def Tr.keys {D:Type}:Tr D->List Nat
 | .lf=>[]
 | .nd _ l r=>0::(l.keys.map (2* ·+1)++r.keys.map (2* ·+2))
theorem Tr.mem_keys {D:Type}:∀{t:Tr D} {n:Nat} {x:D},t.get n=some x->n∈t.keys
 | .lf,_,_,h=>by simp[Tr.gH]at h
 | .nd y l r,n,x,h=>by
  simp only[Tr.kU,iE,iF]at h;simp only[Tr.keys,cL,ck,cB];cases h0:Nat.beq n 0 with
  |true=>exact .inl (bf h0)
  |false=>
   rw[h0]at h;have h0:=eO h0;simp only at h;cases h1:Nat.beq (Nat.mod n 2) 1 with
   |true=>
    rw[h1]at h;have h1:=bf h1;change n%2=1 at h1;exact .inr (.inl ⟨_,Tr.mem_keys h,by change 2*(n/2)+1=n;omega⟩)
   |false=>
    rw[h1]at h;have h1:=eO h1;change ¬n%2=1 at h1;exact .inr (.inr ⟨_,Tr.mem_keys h,by change 2*(n/2-1)+2=n;omega⟩)
def dD:List (Nat×List CV)->TS->Hp->TS×Hp
 |[],Z,O=>(Z,O)
 |(d,cs)::r,Z,O=>dD r (Tr.put 24 Z d (some (.own O.n 0))) (O.push (.box cs))
theorem Dd {d:Nat} {y:AV}:∀{l r:Sg},d∉l.map (·.1)->∀t,look ((d,y)::(l++r)) t=look (l++(d,y)::r) t
 |[],_,_,_=>rfl
 |(e,z)::l,r,hd,t=>by
  simp only[cA,cL,not_or]at hd;have ih:=Dd (y:=y) (r:=r) hd.2 t;simp only[gT,look]at ih⊢;cases h1:Nat.beq d t with
  |true=>
   rw[h1]at ih;have:Nat.beq e t=false:=by
    cases h2:Nat.beq e t with
    |false=>rfl
    |true=>exact absurd ((bf h1).trans (bf h2).symm) hd.1
   rw[this];exact ih
  |false=>
   rw[h1]at ih;cases h2:Nat.beq e t with
   |true=>rfl
   |false=>exact ih
theorem De:∀(zs:List ((Nat×List AV)×Nat)) (n:Nat),(eu n zs).map (·.1)=zs.map λz=>z.1.1
 |[],_=>rfl
 |z::zs,n=>by simp[eu,De zs (n+1)]
theorem vV : ∀ {W : List (Nat × List CV)} {L : au} {Z : TS} {O : Hp} {ZB : Sg} {ηB : List ag} {zs : List ((Nat × List AV) × Nat)}, SS L Z (look ZB) → HS L O ηB → dH L W (zs.map (·.1)) → dP (W.map (·.1)) = true →
    ∃ L', L.le L' ∧ SS L' (dD W Z O).1 (look (eu ηB.length zs ++ ZB)) ∧ HS L' (dD W Z O).2 (ηB ++ cm zs)
  | [], L, Z, O, ZB, ηB, zs, hs, hh, hn, _ => by
    simp only [dH, List.map_eq_nil_iff] at hn; subst hn
    exact ⟨L, .refl L, hs, by have h0 : ηB ++ cm [] = ηB := by simp [cm]
                              rw [h0]; exact hh⟩
  | (d, cs) :: W, L, Z, O, ZB, ηB, zs, hs, hh, hn, hnd => by
    simp only [dH] at hn
    obtain ⟨y, r, he, h1, h2, hn⟩ := hn
    match zs, he with
    | ((d', us), b) :: zs, he =>
      simp only [cA, jb] at he
      obtain ⟨rfl, rfl⟩ := he
      simp only at h1 h2
      subst h1
      simp only [cA, dP, bn, iA] at hnd
      have hdom := hh.eC O.n (bq _)
      have hl : L.le (L.dK O.n b) := au.pD hdom.1
      have hbn : (L.dK O.n b).b O.n = some b := by simp [au.dK]
      have hs1 : SS (L.dK O.n b) (Tr.put 24 Z d' (some (.own O.n 0))) (look ((d', .own ηB.length b 0) :: ZB)) := (hs.mono hl).put (some d') (x := .own O.n 0) (by simp only [aw]; exact ⟨b, ηB.length, hbn, rfl⟩)
      have hh1 : HS (L.dK O.n b) (O.push (.box cs)) (ηB ++ [.box b us]) := hh.push hl (fun _ _ => rfl) (fun i hi => by simp [au.dK, hi]) ⟨b, us, hbn, rfl, h2.mono hl⟩
      have nmono : ∀ {W : List (Nat × List CV)} {ys : Nu}, dH L W ys → dH (L.dK O.n b) W ys := by
        intro W
        induction W with
        | nil => intro ys h; exact h
        | cons q W ih =>
          intro ys h
          simp only [dH] at h ⊢
          obtain ⟨y, r, e, g1, g2, g3⟩ := h
          exact ⟨y, r, e, g1, g2.mono hl, ih g3⟩
      obtain ⟨L', h3, h4, h5⟩ := vV (zs := zs) hs1 hh1 (nmono hn) hnd.2
      refine ⟨L', hl.trans h3, ?_, ?_⟩
      · have hd : d' ∉ (eu (ηB ++ [ag.box b us]).length zs).map (·.1) := by
          rw [De]
          intro hm
          obtain ⟨z, hz, he⟩ := cB.1 hm
          obtain ⟨q, g1, g2⟩ := hn.mem z.1 (cB.2 ⟨z, hz, rfl⟩)
          have : (W.map (·.1)).contains d' = true := by rw [BL]; exact cB.2 ⟨q, g1, by rw [g2, he]⟩
          rw [hnd.1] at this; cases this
        intro t x hx
        obtain ⟨u, g1, g2⟩ := h4 t x hx
        refine ⟨u, ?_, g2⟩
        have hlen : (ηB ++ [ag.box b us]).length = ηB.length + 1 := by simp
        rw [hlen] at g1 hd
        show look ((d', .own ηB.length b 0) :: (eu (ηB.length + 1) zs ++ ZB)) t = some u
        rw [Dd hd]; exact g1
      · have : ηB ++ cm (((d', us), b) :: zs) = (ηB ++ [ag.box b us]) ++ cm zs := by simp [cm]
        rw [this]; exact h5
def dW (L:au):List (Nat×Oper×CV)->ew->Prop
 |[],ys=>ys=[]
 |x::xs,ys=>∃y r,ys=y::r/\y.1=x.1/\y.2.1=x.2.1/\aw L x.2.2 y.2.2/\dW L xs r
theorem dW.mono {L L':au} (h:L.le L'):∀{xs:List (Nat×Oper×CV)} {ys:ew},dW L xs ys->dW L' xs ys
 |[],_,h1=>by simp only[dW]at h1⊢;exact h1
 |_::_,_,h1=>by simp only[dW]at h1⊢;obtain⟨y,r,e,h2,h3,h4,h5⟩:=h1;exact⟨y,r,e,h2,h3,h4.mono h,dW.mono h h5⟩
def b6 (all:List Oper) (j:Nat) (pend:List (Nat×Oper×CV)):List (Nat×Oper×CV):=pend.filter λp=>!du all.toArray p.1 j
theorem dW.aU {L:au} (j:Nat):∀{xs:List (Nat×Oper×CV)} {ys:ew},dW L xs ys->dW L (b6 all j xs) (cj all.toArray j ys)
 |[],_,h1=>by simp only[dW]at h1;subst h1;rfl
 |x::xs,_,h1=>by
  simp only[dW]at h1;obtain⟨y,r,rfl,h2,h3,h4,h5⟩:=h1;have ih:=dW.aU j h5;simp only[b6,cj,JP,h2]at ih⊢;cases du all.toArray x.1 j with
  |true=>exact ih
  |false=>simp only[BM,if_true,dW];exact⟨y,_,rfl,h2,h3,h4,ih⟩
theorem dW.mem {L:au}:∀{xs:List (Nat×Oper×CV)} {ys:ew},dW L xs ys->∀p∈ys,∃q∈xs,p.1=q.1/\p.2.1=q.2.1/\aw L q.2.2 p.2.2
 |[],_,h,p,hp=>by simp only[dW]at h;subst h;cases hp
 |x::_,_,h,p,hp=>by
  simp only[dW]at h;obtain⟨y,r,rfl,h1,h2,h3,h⟩:=h;rcases cL.1 hp with rfl|hp
  ·exact⟨x,by simp,h1,h2,h3⟩
  ·obtain⟨q,g1,g2⟩:=dW.mem h p hp;exact⟨q,by simp[g1],g2⟩
def qn (E:Env) (N:Nat) (all:List Oper) (o:Oper) (Z:TS) (O:Hp) (x:CV):Prop:=(bX all o Z=some true/\aN E N o Z O x)\/(bX all o Z=some false/\x= .d (.v undef))
def ak (E:Env) (N:Nat) (all:List Oper) (pend:List (Nat×Oper×CV)) (Z:TS) (O:Hp):Prop:=∀p∈pend,qn E N all p.2.1 Z O p.2.2
theorem qn.ok {L:au} {s:Sl} {ηB:List ag} (hs:SS L Z s) (hh:HS L O ηB) (h:qn E N all o Z O x):∃y,aw L x y/\gw E.toCx N all.toArray o s ηB y:=by
 rcases h with⟨h1,h2⟩|⟨h1,rfl⟩
 ·obtain⟨y,h3,h4⟩:=h2 L s ηB hs hh;exact⟨y,h3,.inl ⟨gC hs h1,h4⟩⟩
 ·exact⟨.v undef,rfl,.inr ⟨gC hs h1,rfl⟩⟩
theorem ak.ok {L:au} {s:Sl} {ηB:List ag} {pend:List (Nat×Oper×CV)} {pb:ew} (hs:SS L Z s) (hh:HS L O ηB) (h:ak E N all pend Z O) (hp:dW L pend pb):gY E.toCx N all.toArray pb s ηB:=λp hpm=>by
 obtain⟨q,h1,h2,h3,h4⟩:=hp.mem p hpm;rw[h3];rcases h q h1 with⟨g1,g2⟩|⟨g1,g2⟩
 ·obtain⟨y,g3,g4⟩:=g2 L s ηB hs hh;exact .inl ⟨gC hs g1,bp.same g3 h4 g4⟩
 ·rw[g2]at h4;simp only[aw]at h4;exact .inr ⟨gC hs g1,h4⟩
theorem SS.up {L:au} {s s':Sl} (h:SS L Z s) (hu:∀t x,s t=some x->s' t=some x):SS L Z s':=λt x hx=>by
 obtain⟨y,h1,h2⟩:=h t x hx;exact⟨y,hu t y h1,h2⟩
def cG (A:bo):List (Nat×List CV):=A.map λp=>(p.2.1,p.2.2.map .d)
def pQ:bo->TS->TS
 |[],Z=>Z
 |p::A,Z=>pQ A (Tr.put 24 Z p.2.1 none)
theorem CF:∀{A:bo} {Z:TS} {t:Nat} {x:CV},(pQ A Z).get t=some x->t∉A.map (·.2.1)/\Z.get t=some x
 |[],_,_,_,h=>⟨by simp,h⟩
 |p::A,Z,t,x,h=>by
  obtain⟨h1,h2⟩:=CF (A:=A) h;rcases Tr.dA 24 Z p.2.1 t none x h2 with⟨_,h3⟩|⟨h3,h4⟩
  ·cases h3
  ·exact⟨by simp only[cA,cL,not_or];exact⟨h3,h1⟩,h4⟩
theorem D3 {L:au}:∀A:bo,dH L (cG A) (i' A)
 |[]=>rfl
 |p::A=>by
  simp only[cG,i',cA,dH];exact⟨_,_,rfl,rfl,fi _,D3 A⟩
def bN (E:Env) (N K:Nat) (all:List Oper) (Q:DQ) (l:List (Nat×Oper×TK)) (A:bo) (pend:List (Nat×Oper×CV)) (Z:TS) (O:Hp):Prop:=
 ∀L s ηB pb,SS L Z s->HS L O ηB->dW L pend pb->fV E.toCx N all.toArray (qQ K L Q) (mz K L Q) l A pb s ηB
theorem lI {C:Cx} {ops:Array Oper} {Qn Qn':Sl->List ag->Prop} {Qp Qp':AV->List ag->Prop} (h1:∀s O,Qn s O->Qn' s O) (h2:∀x O,Qp x O->Qp' x O):∀{l:List (Nat×Oper×TK)} {A:bo} {pend:ew} {s:Sl} {O:List ag},
  fV C N ops Qn Qp l A pend s O->fV C N ops Qn' Qp' l A pend s O
 |[],_,_,_,_,h=>⟨h.1,h1 _ _ h.2⟩
 |(i,o,.fl)::r,_,_,_,_,h=>by
  obtain⟨g1,g2,y,g3⟩:=h;exact⟨g1,g2,y,g3.imp (λ⟨a,b⟩=>⟨a,lI h1 h2 b⟩) λ⟨a,b⟩=>⟨a,lI h1 h2 b⟩⟩
 |(i,o,.one)::r,_,_,_,_,h=>by
  obtain⟨g1,g2⟩:=h;exact⟨g1,sx g2 λzs _ ⟨b1,b2⟩=>⟨b1,b2.imp (λ⟨a1,R,a2,a3,a4⟩=>⟨a1,R,a2,λx O' hR=>lI h1 h2 (a3 x O' hR),λx O' hR=>h2 _ _ (a4 x O' hR)⟩) λ⟨a1,a2⟩=>⟨a1,lI h1 h2 a2⟩⟩⟩
 |[(_,_,.two)],_,_,_,_,h=>h
 |(i,o,.two)::(j,o',x)::r,_,_,_,_,h=>by
  obtain⟨g1,g2,g3⟩:=h;have up:∀{o:Oper} {s:Sl} {O:List ag} {nx nx':Sl->List ag->Prop},ez C N ops o s O nx Qp->(∀s O,nx s O->nx' s O)->ez C N ops o s O nx' Qp':=λh hn=>
   ⟨h.1,h.2.imp (λ⟨a1,R,a2,a3,a4⟩=>⟨a1,R,a2,λx O' hR=>hn _ _ (a3 x O' hR),λx O' hR=>h2 _ _ (a4 x O' hR)⟩) λ⟨a1,a2⟩=>⟨a1,hn _ _ a2⟩⟩
  exact⟨g1,up g2 λs1 O1 q=>⟨q.1,up q.2 λs2 O2 q=>lI h1 h2 q⟩,up g3 λs1 O1 q=>⟨q.1,up q.2 λs2 O2 q=>lI h1 h2 q⟩⟩
theorem bN.up {L L':au} (hl:L.le L') {l:List (Nat×Oper×TK)} {A:bo} {pb:ew} {s:Sl} {ηB:List ag} (h:fV E.toCx N all.toArray (qQ K L' Q) (mz K L' Q) l A pb s ηB):fV E.toCx N all.toArray (qQ K L Q) (mz K L Q) l A pb s ηB:=
 lI (λ_ _ ⟨Z1,h1,h2⟩=>⟨Z1,h1,lH (hl.toK K) (λ_ _ _ h=>h) h2⟩) (λ_ _ h=>lH (hl.toK K) (λ_ _ _ h=>h) h) h
section
variable {l:List (Nat×Oper×TK)} {A:bo} {pend:List (Nat×Oper×CV)} {i:Nat}
theorem bN.nil (hp:ak E N all pend Z O) (h:Q .norm Z O):bN E N K all Q [] A pend Z O:=λL s ηB pb hs hh hpi=>by
 refine⟨hp.ok hs hh hpi,cD s Z.keys,λt x hx=>(gD hx).2,mQ (d:= .norm) rfl (λt x hx=>?_) hh h⟩;obtain⟨y,h1,h2⟩:=hs t x hx;exact⟨y,by rw[mL (Tr.mem_keys hx)];exact h1,h2⟩
theorem bN.fl (hp:ak E N all pend Z O) (hd:bE N o.dst=true) (hv:qn E N all o Z O x) (k:bN E N K all Q l A ((i,o,x)::pend) (br Z o.dst x) O):bN E N K all Q ((i,o,.fl)::l) A pend Z O:=λL s ηB pb hs hh hpi=>by
 obtain⟨y,h1,h2⟩:=hv.ok hs hh;exact⟨hp.ok hs hh hpi,hd,y,.inl ⟨h2,k L _ ηB _ (hs.aO o.dst h1) hh (by simp only[dW];exact⟨_,_,rfl,rfl,rfl,h1,hpi⟩)⟩⟩
def aV (E:Env) (N:Nat) (o:Oper) (Z:TS) (x:CV):Prop:=∀L s ηB,SS L Z s->∃y,aw L x y/\bp E.toCx N o s ηB y
theorem bN.st (hp:ak E N all pend Z O) (hd:bE N o.dst=true) (hv:(bX all o Z=some true/\aV E N o Z x)\/(bX all o Z=some false/\x= .d (.v undef))) (k:bN E N K all Q l A pend (br Z o.dst x) O):bN E N K all Q ((i,o,.fl)::l) A pend Z O:=λL s ηB pb hs hh hpi=>by
 rcases hv with⟨hw,hv⟩|⟨hw,rfl⟩
 ·obtain⟨y,h1,_⟩:=hv L s [] hs;refine⟨hp.ok hs hh hpi,hd,y,.inr ⟨λO'=> .inl ⟨gC hs hw,?_⟩,k L _ ηB _ (hs.aO o.dst h1) hh hpi⟩⟩;obtain⟨y',g1,g2⟩:=hv L s O' hs;exact bp.same g1 h1 g2
 ·exact⟨hp.ok hs hh hpi,hd,.v undef,.inr ⟨λO'=> .inr ⟨gC hs hw,rfl⟩,k L _ ηB _ (hs.aO o.dst rfl) hh hpi⟩⟩
theorem bN.H9 {L:au} {s:Sl} {ηB:List ag} {M:bo} (hs:SS L Z s) (hh:HS L O ηB) (hnd:dP ((cG M).map (·.1))=true) {zs:List ((Nat×List AV)×Nat)} (hz:zs.map (·.1)=i' M):
  ∃L',L.le L'/\SS L' (dD (cG M) Z O).1 (eD ηB.length zs s)/\HS L' (dD (cG M) Z O).2 (ηB++cm zs):=by
 have hs':SS L Z (look (cD s Z.keys)):=λt x hx=>by
  obtain⟨y,h1,h2⟩:=hs t x hx;exact⟨y,by rw[mL (Tr.mem_keys hx)];exact h1,h2⟩
 obtain⟨L',h1,h2,h3⟩:=vV (zs:=zs) hs' hh (by rw[hz];exact D3 M) hnd;refine⟨L',h1,h2.up λt x hx=>?_,h3⟩;simp only[eD];cases hl:look (eu ηB.length zs) t with
 |some y=>
  have happ:∀(l r:Sg) (y:AV),look l t=some y->look (l++r) t=some y:=by
   intro l r
   induction l with
   |nil=>intro y h;simp[look]at h
   |cons p l ih=>
    intro y h;obtain⟨k,v⟩:=p;simp only[gT,look]at h⊢;split
    ·rename_i hb;rw[hb]at h;exact h
    ·rename_i hb;rw[hb]at h;exact ih y h
  rw[happ _ _ y hl]at hx;exact hx
 |none=>
  have happ:∀(l r:Sg),look l t=none->look (l++r) t=look r t:=by
   intro l r
   induction l with
   |nil=>intro _;rfl
   |cons p l ih=>
    intro h;obtain⟨k,v⟩:=p;simp only[gT,look]at h⊢;split
    ·rename_i hb;rw[hb]at h;cases h
    ·rename_i hb;rw[hb]at h;exact ih h
  rw[happ _ _ hl]at hx;exact(gD hx).2
theorem bN.skip (hp:ak E N all pend Z O) (hnd:dP ((cG (bC all.toArray i A)).map (·.1))=true) (hd:bE N o.dst=true) (hw:bX all o (dD (cG (bC all.toArray i A)) Z O).1=some false)
  (k:bN E N K all Q l (bJ all.toArray i A) (b6 all i pend) (br (dD (cG (bC all.toArray i A)) Z O).1 o.dst (.d (.v undef))) (dD (cG (bC all.toArray i A)) Z O).2):bN E N K all Q ((i,o,.one)::l) A pend Z O:=λL s ηB pb hs hh hpi=>
 ⟨hp.ok hs hh hpi,ph λzs hz=>by
  obtain⟨L1,hl1,hs1,hh1⟩:=bN.H9 hs hh hnd hz;exact⟨hd,.inr ⟨gC hs1 hw,bN.up hl1 (k L1 _ _ _ (hs1.aO o.dst rfl) hh1 ((hpi.mono hl1).aU i))⟩⟩⟩
theorem bN.km {R:DR->Hp->Prop} (hp:ak E N all pend Z O) (hnd:dP ((cG (bC all.toArray i A)).map (·.1))=true) (hd:bE N o.dst=true) {Z1:TS} {O1:Hp} (bQ:dD (cG (bC all.toArray i A)) Z O=(Z1,O1)) (hw:bX all o Z1=some true) (h:bm E N o Z1 O1 R)
  (k1:∀x O',R (.ret x) O'->bN E N K all Q l (bJ all.toArray i A) (b6 all i pend) (br Z1 o.dst x) O')
  (k2:∀x O',R (.aD x) O'->Q (.aD x) .lf O'):bN E N K all Q ((i,o,.one)::l) A pend Z O:=λL s ηB pb hs hh hpi=>by
 refine⟨hp.ok hs hh hpi,ph λzs hz=>?_⟩;obtain⟨L1,hl1,hs1,hh1⟩:=bN.H9 hs hh hnd hz;rw[bQ]at hs1 hh1;refine⟨hd,.inl ⟨gC hs1 hw,_,h L1 _ _ hs1 hh1,?_,?_⟩⟩
 ·rintro y OB' ⟨L',d,O',hl,hi,hh',hR⟩;cases d with
  |ret x=>
   obtain⟨y',e,hi⟩:=hi;cases e;exact bN.up (hl1.trans hl) (k1 x O' hR L' _ OB' _ ((hs1.mono hl).aO o.dst hi) hh' ((hpi.mono (hl1.trans hl)).aU i))
  |aD x=>obtain⟨y',e,_⟩:=hi;cases e
 ·rintro y OB' ⟨L',d,O',hl,hi,hh',hR⟩;cases d with
  |ret x=>obtain⟨y',e,_⟩:=hi;cases e
  |aD x=>
   obtain⟨y',e,hi⟩:=hi;cases e;exact⟨L',.aD x,.lf,O',(hl1.trans hl).toK K,⟨y,rfl,hi⟩,xH _,hh',k2 x O' hR⟩
theorem bN.pair {j:Nat} {o':Oper} {x:TK} {O1 O2 O3:Hp} (hp:ak E N all pend Z O) (hd:o.dst=none) (hd':o'.dst=none) (hw:bX all o Z=some true) (hw':bX all o' Z=some true)
  (h1:bm E N o Z O (λr O'=>r= .ret (.d (.v undef))/\O'=O1)) (p1:ak E N all (b6 all i pend) Z O1) (h2:bm E N o' Z O1 (λr O'=>r= .ret (.d (.v undef))/\O'=O3))
  (h3:bm E N o' Z O (λr O'=>r= .ret (.d (.v undef))/\O'=O2)) (p2:ak E N all (b6 all j pend) Z O2) (h4:bm E N o Z O2 (λr O'=>r= .ret (.d (.v undef))/\O'=O3))
  (k:bN E N K all Q l A (b6 all j (b6 all i pend)) Z O3):bN E N K all Q ((i,o,.two)::(j,o',x)::l) A pend Z O:=λL s ηB pb hs hh hpi=>by
 have go:∀{oa ob:Oper} {ia:Nat} {Oa:Hp},oa.dst=none->ob.dst=none->bX all oa Z=some true->bX all ob Z=some true->bm E N oa Z O (λr O'=>r= .ret (.d (.v undef))/\O'=Oa)->ak E N all (b6 all ia pend) Z Oa->
   bm E N ob Z Oa (λr O'=>r= .ret (.d (.v undef))/\O'=O3)->
   ez E.toCx N all.toArray oa s ηB (λs1 O1=>gY E.toCx N all.toArray (cj all.toArray ia pb) s1 O1/\ez E.toCx N all.toArray ob s1 O1 (fV E.toCx N all.toArray (qQ K L Q) (mz K L Q) l A (cj all.toArray j (cj all.toArray i pb))) (mz K L Q)) (mz K L Q):=by
  intro oa ob ia Oa da db wa wb ha pa hb;refine⟨by rw[da];rfl,.inl ⟨gC hs wa,_,ha L s ηB hs hh,?_,?_⟩⟩
  ·rintro y OB' ⟨L',d,O',hl,hi,hh',rfl,rfl⟩;rw[da];refine⟨pa.ok (hs.mono hl) hh' ((hpi.mono hl).aU ia),by rw[db];rfl,.inl ⟨gC hs wb,_,hb L' s OB' (hs.mono hl) hh',?_,?_⟩⟩
   ·rintro y' OB2 ⟨L2,d2,O2',hl2,hi2,hh2,rfl,rfl⟩;rw[db];exact bN.up (hl.trans hl2) (k L2 s OB2 _ (hs.mono (hl.trans hl2)) hh2 (((hpi.mono (hl.trans hl2)).aU i).aU j))
   ·rintro y' OB2 ⟨L2,d2,O2',hl2,hi2,hh2,rfl,rfl⟩;obtain⟨_,e,_⟩:=hi2;cases e
  ·rintro y OB' ⟨L',d,O',hl,hi,hh',rfl,rfl⟩;obtain⟨_,e,_⟩:=hi;cases e
 exact⟨hp.ok hs hh hpi,go hd hd' hw hw' h1 p1 h2,go hd' hd hw' hw h3 p2 h4⟩
theorem bN.guard {d:Nat} {b:Bool} (hb:Z.get d=some (.d (.v (.bool b)))) (h1:b=true->bN E N K all Q l A pend (Tr.put 24 Z d (some (.d (.v (.bool true))))) O)
  (h2:b=false->bN E N K all Q l A pend (Tr.put 24 Z d (some (.d (.v (.bool false))))) O):bN E N K all Q l A pend Z O:=λL s ηB pb hs hh hpi=>by
 have key:SS L (Tr.put 24 Z d (some (.d (.v (.bool b))))) s:=λt z hz=>by
  rcases Tr.dA 24 Z d t _ z hz with⟨rfl,h3⟩|⟨_,h3⟩
  ·cases h3;exact hs _ _ hb
  ·exact hs t z h3
 cases b with
 |true=>exact h1 rfl L s ηB pb key hh hpi
 |false=>exact h2 rfl L s ηB pb key hh hpi
end
theorem cY.nil {A:bo} {tl:List (Nat×Oper×TK)} {W:List (Nat×List CV)} (hnd:dP (W.map (·.1))=true) (k:bN E N K all Q tl A [] (pQ A (dD W Z O).1) (dD W Z O).2):cY E N K all tl A Q O [] Z W:=λL s ηB WB hs hh hn=>by
 refine⟨cD s Z.keys,λt x hx=>(gD hx).2,?_⟩;have hs':SS L Z (look (cD s Z.keys)):=λt x hx=>by
  obtain⟨y,h1,h2⟩:=hs t x hx;exact⟨y,by rw[mL (Tr.mem_keys hx)];exact h1,h2⟩
 refine ph λzs hz=>?_;obtain⟨L',h1,h2,h3⟩:=vV (zs:=zs) hs' hh (by rw[hz];exact hn) hnd;refine bN.up h1 (k L' _ _ [] (λt x hx=>?_) h3 rfl);obtain⟨g1,g2⟩:=CF hx;obtain⟨y,g3,g4⟩:=h2 t x g2;refine⟨y,?_,g4⟩;unfold mn;have:(A.map (·.2.1)).contains t=false:=by
  cases hc:(A.map (·.2.1)).contains t with
  |false=>rfl
  |true=>exact absurd (BL.1 hc) g1
 rw[this];exact g3
theorem DC.open {id:Nat} {l:List Oper} (pre:List Nat) (tl:List (Nat×TK)) (al:List Nat) (A:bo) (hm:E.P.follows .mixedOrders=true) (hA:jC E.T l.toArray N al=some A) (hB:kT l.toArray pre tl al=true) (hl:Nat.beq (ep l.toArray pre).length pre.length=true) (h:cY E N K l (gg l.toArray tl) A Q O (ep l.toArray pre) Z []):
  DC E N K (.region id l.toArray true) Q Z O:=λL ZB ηB hs hh=>
 bg.Mu pre tl al A hm hA hB (bf hl) (vI (λ_ ⟨Z',h1,h2⟩=>⟨Z',h1,h2⟩) (h L _ ηB [] hs hh rfl))
end
def kp (E:Env) (fs:List (Nat×List AV×AV)):Prop:=∀f∈fs,Pure E.toCx f.1 f.2.1 (.ret f.2.2)
inductive It where
 |code (c:Code)
 |iZ (id:Nat)
 |ops (all rest:List Oper)
 |lex (all:List Oper) (tl:List (Nat×Oper×TK)) (A:bo) (pre:List Oper) (W:List (Nat×List CV))
 |tl (all:List Oper) (l:List (Nat×Oper×TK)) (A:bo) (pend:List (Nat×Oper×CV)) (fs:List (Nat×List AV×AV))
 |lp (next:TS->Hp->Prop)
 |jG (m:Nat) (c:Code)
 |fr (N K:Nat) (Z:TS) (dst:Option Nat) (rs:List ResultVar)
 |ct (N K:Nat) (Z:TS) (dst:Option Nat) (rs:List ResultVar) (ty:TypeId) (z:AV)
def jv:AV->Bool
 | .agg [.v (.int _ _),.v (.int _ _)]=>true
 |_=>false
def dq (E:Env):Nat->Nat->List It->DQ->DQ
 |_,_,[],Q=>Q
 |N,K,.code c::k,Q=>λe Z O=>match e with
  | .norm=>DC E N K c (dq E N K k Q) Z O
  | .exit i=>dq E N K k Q (.exit i) Z O
  | .ret=>dq E N K k Q .ret Z O
  | .aD x=>dq E N K k Q (.aD x) Z O
 |N,K,.iZ id::k,Q=>λe Z O=>match e with
  | .norm=>dq E N K k Q .norm Z O
  | .exit i=>match Nat.beq i id with
   |true=>dq E N K k Q .norm Z O
   |false=>dq E N K k Q (.exit i) Z O
  | .ret=>dq E N K k Q .ret Z O
  | .aD x=>dq E N K k Q (.aD x) Z O
 |N,K,.ops all rest::k,Q=>λe Z O=>match e with
  | .norm=>DO E N K all rest (dq E N K k Q) Z O
  | .exit i=>dq E N K k Q (.exit i) Z O
  | .ret=>dq E N K k Q .ret Z O
  | .aD x=>dq E N K k Q (.aD x) Z O
 |N,K,.lex all tl A pre W::k,Q=>λe Z O=>match e with
  | .norm=>cY E N K all tl A (dq E N K k Q) O pre Z W
  | .exit i=>dq E N K k Q (.exit i) Z O
  | .ret=>dq E N K k Q .ret Z O
  | .aD x=>dq E N K k Q (.aD x) Z O
 |N,K,.tl all l A pend fs::k,Q=>λe Z O=>match e with
  | .norm=>kp E fs->bN E N K all (dq E N K k Q) l A pend Z O
  | .exit i=>dq E N K k Q (.exit i) Z O
  | .ret=>dq E N K k Q .ret Z O
  | .aD x=>dq E N K k Q (.aD x) Z O
 |N,K,.lp next::k,Q=>λe Z O=>match e with
  | .norm=>next Z O
  | .exit i=>dq E N K k Q (.exit i) Z O
  | .ret=>dq E N K k Q .ret Z O
  | .aD x=>dq E N K k Q (.aD x) Z O
 |N,K,.jG m c::k,Q=>λe Z O=>match e with
  | .norm=>kO E N K c (dq E N K k Q) m Z O
  | .exit i=>dq E N K k Q (.exit i) Z O
  | .ret=>dq E N K k Q .ret Z O
  | .aD x=>dq E N K k Q (.aD x) Z O
 |_,_,.fr N' K' Z' dst rs::k,Q=>λe Z O=>match e with
  | .norm=>∃xs,cU E.T Z O rs=some xs/\dq E N' K' k Q .norm (br Z' dst (dC xs)) O
  | .ret=>∃xs,cU E.T Z O rs=some xs/\dq E N' K' k Q .norm (br Z' dst (dC xs)) O
  | .exit _=>False
  | .aD x=>dq E N' K' k Q (.aD x) .lf O
 |_,_,.ct N' K' Z' dst rs ty z::k,Q=>λe Z O=>match e with
  | .norm=>∃xs,cU E.T Z O rs=some xs/\dq E N' K' k Q .norm (br Z' dst (.d z)) O
  | .ret=>∃xs,cU E.T Z O rs=some xs/\dq E N' K' k Q .norm (br Z' dst (.d z)) O
  | .exit _=>False
  | .aD x=>∃y,(x= .ba ty (.d y)\/x= .d (.ba ty y))/\jv y=true/\dq E N' K' k Q .norm (br Z' dst (.d y)) O
def ai (E:Env) (N K:Nat) (todo:List It) (Q:DQ) (Z:TS) (O:Hp):Prop:=dq E N K todo Q .norm Z O
section
variable {E:Env} {N K:Nat} {Q:DQ} {Z:TS} {O:Hp} {k:List It}
theorem Ew (b:Code):DE.then (DC E N K b (dq E N K k Q)) (dq E N K k Q)=dq E N K (.code b::k) Q:=by funext e Z O;cases e<;>rfl
theorem Nz (i:Nat):DE.inBlock i (dq E N K k Q)=dq E N K (.iZ i::k) Q:=by funext e Z O;cases e<;>rfl
theorem Ob (next:TS->Hp->Prop):DE.then next (dq E N K k Q)=dq E N K (.lp next::k) Q:=by funext e Z O;cases e<;>rfl
theorem FC (m:Nat) (c:Code):DE.then (kO E N K c (dq E N K k Q) m) (dq E N K k Q)=dq E N K (.jG m c::k) Q:=by funext e Z O;cases e<;>rfl
def gJ (id:Nat):List It->Option (List It)
 |[]=>none
 | .iZ i::k=>match Nat.beq id i with
  |true=>some k
  |false=>gJ id k
 | .code _::k=>gJ id k
 | .ops _ _::k=>gJ id k
 | .lex _ _ _ _ _::k=>gJ id k
 | .tl _ _ _ _ _::k=>gJ id k
 | .lp _::k=>gJ id k
 | .jG _ _::k=>gJ id k
 | .fr _ _ _ _ _::_=>none
 | .ct _ _ _ _ _ _ _::_=>none
theorem kN {id:Nat}:∀{k k':List It},gJ id k=some k'->dq E N K k Q (.exit id)=dq E N K k' Q .norm
 |[],_,h=>by simp[gJ]at h
 | .code _::k,k',h=>by funext Z O;simp only[dq];rw[kN (k:=k) h]
 | .ops _ _::k,k',h=>by funext Z O;simp only[dq];rw[kN (k:=k) h]
 | .lex _ _ _ _ _::k,k',h=>by funext Z O;simp only[dq];rw[kN (k:=k) h]
 | .tl _ _ _ _ _::k,k',h=>by funext Z O;simp only[dq];rw[kN (k:=k) h]
 | .lp _::k,k',h=>by funext Z O;simp only[dq];rw[kN (k:=k) h]
 | .jG _ _::k,k',h=>by funext Z O;simp only[dq];rw[kN (k:=k) h]
 | .fr _ _ _ _ _::_,_,h=>by simp[gJ]at h
 | .ct _ _ _ _ _ _ _::_,_,h=>by simp[gJ]at h
 | .iZ i::k,k',h=>by
  funext Z O;simp only[gJ]at h;simp only[dq];cases hb:Nat.beq id i with
  |true=>rw[hb]at h;simp only[ao]at h;subst h;rfl
  |false=>rw[hb]at h;simp only;rw[kN (k:=k) h]
def jy:List It->List It
 |[]=>[]
 | .fr N K Z dst rs::k=> .fr N K Z dst rs::k
 | .ct N K Z dst rs ty z::k=> .ct N K Z dst rs ty z::k
 |_::k=>jy k
theorem jw:∀(k:List It),dq E N K k Q .ret=dq E N K (jy k) Q .ret
 |[]=>rfl
 | .code _::k=>by funext Z O;simp only[dq,jy];rw[jw k]
 | .iZ _::k=>by funext Z O;simp only[dq,jy];rw[jw k]
 | .ops _ _::k=>by funext Z O;simp only[dq,jy];rw[jw k]
 | .lex _ _ _ _ _::k=>by funext Z O;simp only[dq,jy];rw[jw k]
 | .tl _ _ _ _ _::k=>by funext Z O;simp only[dq,jy];rw[jw k]
 | .lp _::k=>by funext Z O;simp only[dq,jy];rw[jw k]
 | .jG _ _::k=>by funext Z O;simp only[dq,jy];rw[jw k]
 | .fr _ _ _ _ _::_=>rfl
 | .ct _ _ _ _ _ _ _::_=>rfl
def gm:List It->Option (Nat×Nat×TS×Option Nat×TypeId×List It)
 |[]=>none
 | .ct N K Z dst _ ty _::k=>some (N,K,Z,dst,ty,k)
 |_::k=>gm k
theorem iI {x:CV}:∀(k:List It) (N K:Nat) (Z:TS),gm k=none->(Q (.aD x) .lf O->dq E N K k Q (.aD x) .lf O)
 |[],_,_,_,_,h=>h
 | .code _::k,N,K,Z,hp,h=>iI k N K Z hp h
 | .iZ _::k,N,K,Z,hp,h=>iI k N K Z hp h
 | .ops _ _::k,N,K,Z,hp,h=>iI k N K Z hp h
 | .lex _ _ _ _ _::k,N,K,Z,hp,h=>iI k N K Z hp h
 | .tl _ _ _ _ _::k,N,K,Z,hp,h=>iI k N K Z hp h
 | .lp _::k,N,K,Z,hp,h=>iI k N K Z hp h
 | .jG _ _::k,N,K,Z,hp,h=>iI k N K Z hp h
 | .fr N' K' _ _ _::k,_,_,Z,hp,h=>iI k N' K' Z hp h
 | .ct _ _ _ _ _ _ _::_,_,_,_,hp,_=>by simp[gm]at hp
theorem jq {x:CV} {y:AV} {N' K' ty:Nat} {Z':TS} {dst:Option Nat} {k':List It} (hx:x= .ba ty (.d y)\/x= .d (.ba ty y)) (hy:jv y=true):∀(k:List It) (N K:Nat),gm k=some (N',K',Z',dst,ty,k')->(dq E N' K' k' Q .norm (br Z' dst (.d y)) O->dq E N K k Q (.aD x) .lf O)
 |[],_,_,hp,_=>by simp[gm]at hp
 | .code _::k,N,K,hp,h=>jq hx hy k N K hp h
 | .iZ _::k,N,K,hp,h=>jq hx hy k N K hp h
 | .ops _ _::k,N,K,hp,h=>jq hx hy k N K hp h
 | .lex _ _ _ _ _::k,N,K,hp,h=>jq hx hy k N K hp h
 | .tl _ _ _ _ _::k,N,K,hp,h=>jq hx hy k N K hp h
 | .lp _::k,N,K,hp,h=>jq hx hy k N K hp h
 | .jG _ _::k,N,K,hp,h=>jq hx hy k N K hp h
 | .fr N1 K1 _ _ _::k,_,_,hp,h=>jq hx hy k N1 K1 hp h
 | .ct N1 K1 Z1 dst1 rs1 ty1 z1::k,_,_,hp,h=>by
  simp only[gm,ao,bW]at hp;obtain⟨rfl,rfl,rfl,rfl,rfl,rfl⟩:=hp;exact⟨y,hx,hy,h⟩
def oo (E:Env) (f:FuncId) (ty:TypeId) (z:AV):Prop:=∀(g:FuncId) (fs cs:List AV) (O:List ag) (Q:AR->List ag->Prop),fQ E.toCx g (fs++cs) O Q->(∀x O',Q (.aD x) O'->∃y,x= .ba ty y/\jv y=true)->
 fQ E.toCx f [.fn g fs cs] O (λr O'=>(∃x,Q (.ret x) O'/\r= .ret z)\/∃x,Q (.aD (.ba ty x)) O'/\r= .ret x)
theorem Ck {L:au} {x:CV} {y:AV} {ty:Nat} {y0:AV} (hx:x= .ba ty (.d y0)\/x= .d (.ba ty y0)) (hi:aw L x y):y= .ba ty y0:=by
 rcases hx with rfl|rfl
 ·simp only[aw]at hi;obtain⟨u,rfl,rfl⟩:=hi;rfl
 ·simp only[aw]at hi;exact hi
theorem de.ct {f g:FuncId} {ty:TypeId} {z:AV} (hct:oo E f ty z) {fs cs:List CV} {Q':DR->Hp->Prop} (h:de E g (fs++cs) O Q') (hp:∀x O',Q' (.aD x) O'->∃y,(x= .ba ty (.d y)\/x= .d (.ba ty y))/\jv y=true):
  de E f [.fn g fs cs] O (λr O'=>(∃x,Q' (.ret x) O'/\r= .ret (.d z))\/∃x y,Q' (.aD x) O'/\(x= .ba ty (.d y)\/x= .d (.ba ty y))/\jv y=true/\r= .ret (.d y)):=λL ys ηB hi hh=>by
 simp only[aC,aw]at hi;obtain⟨y,r,rfl,⟨us,vs,rfl,h1,h2⟩,rfl⟩:=hi;refine(hct g us vs ηB _ (h L (us++vs) ηB (h1.append h2) hh) ?_).mono ?_
 ·rintro x OB' ⟨L',d,O1,g1,g2,g3,g4⟩;cases d with
  |ret x'=>obtain⟨y',e,_⟩:=g2;cases e
  |aD x'=>
   obtain⟨y',e,g2⟩:=g2;cases e;obtain⟨y0,q1,q2⟩:=hp _ _ g4;exact⟨y0,Ck q1 g2,q2⟩
 ·rintro r OB' (⟨x,⟨L',d,O1,g1,g2,g3,g4⟩,rfl⟩|⟨x,⟨L',d,O1,g1,g2,g3,g4⟩,rfl⟩)
  ·cases d with
   |ret x'=>exact⟨L',.ret (.d z),O1,g1,⟨z,rfl,rfl⟩,g3,.inl ⟨x',g4,rfl⟩⟩
   |aD x'=>obtain⟨y',e,_⟩:=g2;cases e
  ·cases d with
   |ret x'=>obtain⟨y',e,_⟩:=g2;cases e
   |aD x'=>
    obtain⟨y',e,g2⟩:=g2;cases e;obtain⟨y0,q1,q2⟩:=hp _ _ g4;have:=Ck q1 g2;cases this;exact⟨L',.ret (.d x),O1,g1,⟨x,rfl,rfl⟩,g3,.inr ⟨x',x,g4,q1,q2,rfl⟩⟩
def uh:CV->Option (FuncId×List CV×List CV)
 | .fn g fs cs=>some (g,fs,cs)
 | .d (.fn g fs cs)=>some (g,fs.map .d,cs.map .d)
 |_=>none
theorem LO {L:au} {x:CV} {g:FuncId} {fs cs:List CV} (h:uh x=some (g,fs,cs)) {y:AV} (hi:aw L x y):aw L (.fn g fs cs) y:=by
 unfold uh at h;split at h
 ·simp only[ao,bW]at h;obtain⟨rfl,rfl,rfl⟩:=h;exact hi
 ·simp only[ao,bW]at h;obtain⟨rfl,rfl,rfl⟩:=h;simp only[aw]at hi⊢;subst hi;exact⟨_,_,rfl,fi _,fi _⟩
 ·cases h
theorem ai.one {c:Code} (h:ai E N K [.code c] Q Z O):DC E N K c Q Z O:=h
theorem ai.loop {c:Code} (ts:List Nat) (m:Nat) (I:Nat->List (Nat×CV)->List aR->Prop) (n:Nat) (hK:K<=m) {l:List (Nat×CV)} {es:List aR} (hm:m<=O.n) (hp:dF m ts Z=some l) (he:gK m O=some es) (h0:I n l es)
  (round:∀n l es,I n l es->ai E N K (.code c:: .lp (λZ1 O1=>∃n',n'<n/\∃l' es',m<=O1.n/\dF m ts Z1=some l'/\gK m O1=some es'/\I n' l' es')::k) Q (lu l) (gP es)):ai E N K (.code (.loop c)::k) Q Z O:=
 DC.loop ts m I n hK hm hp he h0 λn l es hI=>by
  have:=round n l es hI;unfold ai at this;simp only[dq]at this;rw[Ob];exact this
theorem ai.lp {next:TS->Hp->Prop} (h:next Z O):ai E N K (.lp next::k) Q Z O:=h
theorem ai.inl {dst:Option Nat} {f:Operand} {args:List Operand} {g:FuncId} {cs:List CV} {tys:Array TypeId} {ty:TypeId} {pos:String} {after:Array Edge} {fn:Func} {c:Code} {rs:List ResultVar} {nt:Nat} {all rest:List Oper}
  (hc:cu Z f args=some (g,cs)) (hf:E.P.funcs[g]? =some fn) (hb:fn.body=some c) (hname:(fn.name== "runtime.NumGoroutine")=false) (hrs:fn.results=rs.toArray) (hnt:fn.ntmps=nt) (hn:Nat.ble cs.length nt=true) (hd:bE N dst=true)
  (h:ai E nt O.n (.code c:: .fr N K Z dst rs:: .ops all rest::k) Q (fj 0 cs) O):ai E N K (.ops all (⟨dst,.call {callee:= .value f,args:=args.toArray,argTypes:=tys},ty,pos,after,none⟩::rest)::k) Q Z O:=by
 show DO E N K all _ (dq E N K k Q) Z O;refine DO.call (Q':=λr O'=>match r with
  | .ret x=>DO E N K all rest (dq E N K k Q) (br Z dst x) O'
  | .aD x=>dq E N K k Q (.aD x) .lf O') ?_ hc hd (λ_ _ h=>h) (λ_ _ h=>h)
 refine de.enter hf hb hname rs hrs nt hnt hn (DC.mono h ?_);intro e Z1 O1 h1;cases e with
 |norm=>exact h1
 |ret=>exact h1
 |exit i=>exact h1
 |aD x=>exact h1
theorem ai.ct {dst:Option Nat} {f:Operand} {args:List Operand} {f0 g:FuncId} {x:CV} {fs cs:List CV} {ty':TypeId} {z:AV} {tys:Array TypeId} {ty:TypeId} {pos:String} {after:Array Edge} {fn:Func} {c:Code} {rs:List ResultVar} {nt:Nat} {all rest:List Oper}
  (hct:oo E f0 ty' z) (hc:cu Z f args=some (f0,[x])) (hx:uh x=some (g,fs,cs)) (hf:E.P.funcs[g]? =some fn) (hb:fn.body=some c) (hname:(fn.name== "runtime.NumGoroutine")=false) (hrs:fn.results=rs.toArray) (hnt:fn.ntmps=nt) (hn:Nat.ble (fs++cs).length nt=true) (hd:bE N dst=true)
  (h:ai E nt O.n (.code c:: .ct N K Z dst rs ty' z:: .ops all rest::k) Q (fj 0 (fs++cs)) O):ai E N K (.ops all (⟨dst,.call {callee:= .value f,args:=args.toArray,argTypes:=tys},ty,pos,after,none⟩::rest)::k) Q Z O:=by
 show DO E N K all _ (dq E N K k Q) Z O;have key:de E g (fs++cs) O (λr O'=>match r with
  | .ret _=>DO E N K all rest (dq E N K k Q) (br Z dst (.d z)) O'
  | .aD x=>∃y,(x= .ba ty' (.d y)\/x= .d (.ba ty' y))/\jv y=true/\DO E N K all rest (dq E N K k Q) (br Z dst (.d y)) O'):=by
  refine de.enter hf hb hname rs hrs nt hnt hn (DC.mono h ?_);intro e Z1 O1 h1;cases e with
  |norm=>exact h1
  |ret=>exact h1
  |exit i=>exact h1
  |aD x=>exact h1
 have key2:de E f0 [x] O (λr O'=>match r with
  | .ret y=>DO E N K all rest (dq E N K k Q) (br Z dst y) O'
  | .aD _=>False):=λL ys ηB hi hh=>by
  have hi':aC L [.fn g fs cs] ys:=by
   simp only[aC]at hi;obtain⟨y,r,rfl,h1,rfl⟩:=hi;have:=LO hx h1;simp only[aC];exact⟨y,[],rfl,this,rfl⟩
  refine(de.ct hct key (λx O' hx=>?_) L ys ηB hi' hh).mono ?_
  ·obtain⟨y,h1,h2,_⟩:=hx;exact⟨y,h1,h2⟩
  ·rintro r OB' ⟨L',d,O1,g1,g2,g3,(⟨x,g4,rfl⟩|⟨x,y,⟨y',q1,q2,q3⟩,q4,q5,rfl⟩)⟩
   ·exact⟨L',_,O1,g1,g2,g3,g4⟩
   ·refine⟨L',_,O1,g1,g2,g3,?_⟩;have:y=y':=by
     rcases q1 with rfl|rfl<;>rcases q4 with e|e<;>cases e<;>rfl
    subst this;exact q3
 exact DO.call key2 hc hd (λ_ _ h=>h) (λ_ _ h=>h.elim)
theorem ai.eh {o:Oper} {i:Nat} {f:Operand} {args:List Operand} {g:FuncId} {cs:List CV} {tys:Array TypeId} {fn:Func} {c:Code} {rs:List ResultVar} {nt:Nat} {all:List Oper} {l:List (Nat×Oper×TK)} {A:bo} {pend:List (Nat×Oper×CV)} {fs:List (Nat×List AV×AV)} {Z1:TS} {O1:Hp} (ho:o.op= .call {callee:= .value f,args:=args.toArray,argTypes:=tys})
  (hp:kp E fs->ak E N all pend Z O) (hnd':dP ((cG (bC all.toArray i A)).map (·.1))=true) (bQ:dD (cG (bC all.toArray i A)) Z O=(Z1,O1)) (hw:bX all o Z1=some true) (hc:cu Z1 f args=some (g,cs)) (hf:E.P.funcs[g]? =some fn) (hb:fn.body=some c) (hname:(fn.name== "runtime.NumGoroutine")=false) (hrs:fn.results=rs.toArray) (hnt:fn.ntmps=nt) (hn:Nat.ble cs.length nt=true) (hd:bE N o.dst=true)
  (h:ai E nt O1.n (.code c:: .fr N K Z1 o.dst rs:: .tl all l (bJ all.toArray i A) (b6 all i pend) fs::k) Q (fj 0 cs) O1):ai E N K (.tl all ((i,o,.one)::l) A pend fs::k) Q Z O:=by
 show kp E fs->bN E N K all (dq E N K k Q) _ A pend Z O;intro hfs;refine bN.km (R:=λr O'=>match r with
  | .ret x=>kp E fs->bN E N K all (dq E N K k Q) l (bJ all.toArray i A) (b6 all i pend) (br Z1 o.dst x) O'
  | .aD x=>dq E N K k Q (.aD x) .lf O') (hp hfs) hnd' hd bQ hw (bm.call ho ?_ hc) (λ_ _ h=>h hfs) (λ_ _ h=>h)
 refine de.enter hf hb hname rs hrs nt hnt hn (DC.mono h ?_);intro e Z1 O1 h1;cases e with
 |norm=>exact h1
 |ret=>exact h1
 |exit i=>exact h1
 |aD x=>exact h1
