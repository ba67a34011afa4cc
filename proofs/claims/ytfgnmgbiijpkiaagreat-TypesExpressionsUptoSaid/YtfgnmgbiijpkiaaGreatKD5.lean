/- The abstract machine, fifth part: what is still to be done, as a list; regions whose order is open; panics. -/
import Derived.Test.YtfgnmgbiijpkiaaGreatKB14
set_option linter.all false
noncomputable section
namespace Go.Bw
open Go
theorem bh.panic {C:Cx} {N:Nat} {Q:AQ} {Z:Sg} {O:List ah} {ops:Array Oper} {rest:List Oper} {o:Oper} {p:Operand} {t:TypeId} {y:AV} (hg:o.guard=none) (ho:o.op= .panic p) (hp:ev (look Z) p=some (.bu t y)) (k:Q (.aO (.bu t y)) [] O):
  bh C N ops (o::rest) Q Z O:=λF w0 O0 a w hs hx=>by
 unfold wpList;rw[cZ (by simp[Region.wanted,hg])];refine .inl ?_;have h1:=bt hs.sg hp;have h0:=h1;simp only[Rel]at h0;obtain⟨u,h0,_⟩:=h0;have hrun:(execOp a.eval o).run C.P w= .halt (.panic (.iface t u)) w:=by simp[execOp,ho,Instr.panic,h0]
 unfold Oper.wp;rw[hrun];rw[h0]at h1;exact⟨.aO (.bu t y),[],O,k,⟨_,rfl,h1⟩,⟨⟨hs.sg.1,λt x hx=>by simp[AE.sl,look]at hx⟩,hs.hp,hs.df⟩,hx⟩
section
variable {E:Env} {N K:Nat} {Q:DQ} {Z:TS} {O:Hp} {o:Oper} {x:CV} {all rest:List Oper}
theorem A5 {L:aC} (s:Sl):SS L .lf s:=λt x hx=>by simp[Tr.ie]at hx
theorem DO.panic {p:Operand} (hg:o.guard=none) (ho:o.op= .panic p) {t:TypeId} {y:CV} (hp:aW Z p=some (.bu t y)) (k:Q (.aO (.bu t y)) .lf O):DO E N K all (o::rest) Q Z O:=λL ZB ηB hs hh=>by
 obtain⟨z,h1,h2⟩:=cf hs hp;have h3:=h2;simp only[aE]at h3;obtain⟨u,rfl,_⟩:=h3;exact bh.panic hg ho h1 ⟨L,.aO (.bu t y),.lf,O,.refl K L,⟨_,rfl,h2⟩,A5 _,hh,k⟩
theorem DO.Ai {p:Operand} (hg:o.guard=none) (ho:o.op= .panic p) {t:TypeId} {y:AV} (hp:aW Z p=some (.d (.bu t y))) (k:Q (.aO (.d (.bu t y))) .lf O):DO E N K all (o::rest) Q Z O:=λL ZB ηB hs hh=>by
 obtain⟨z,h1,h2⟩:=cf hs hp;simp only[aE]at h2;subst h2;exact bh.panic hg ho h1 ⟨L,.aO (.d (.bu t y)),.lf,O,.refl K L,⟨_,rfl,rfl⟩,A5 _,hh,k⟩
theorem DO.Iv {j d e:Nat} {want t:Bool} {op:Op} {ty:TypeId} {pos:String} {after:Array Edge} {oj:Oper} (hj:nth all j=some oj) (hjd:oj.dst=some d) (ht:Z.get d=some (.d (.v (.bool t))))
  (h1:t=want->DO E N K all (⟨some e,op,ty,pos,after,none⟩::rest) Q (Tr.put 24 Z d (some (.d (.v (.bool want))))) O)
  (h2:t= !want->DO E N K all rest Q (Tr.put 24 (Tr.put 24 Z d (some (.d (.v (.bool !want))))) e (some (.d (.v undef)))) O)
  (hd:Nat.blt e N=true):DO E N K all (⟨some e,op,ty,pos,after,some (j,want)⟩::rest) Q Z O:=λL ZB ηB hs hh=>by
 obtain⟨y,h3,h4⟩:=hs d _ ht;simp only[aE]at h4;subst h4;have hjB:(all.toArray[j]?).bind (·.dst)=some d:=by rw[ck]at hj;simp[hj,hjd]
 have hput:∀b,t=b->SS L (Tr.put 24 Z d (some (.d (.v (.bool b))))) (look ((d,.v (.bool b))::ZB)):=λb hb=>by
  subst hb;exact hs.put (some d) (x:= .d (.v (.bool t))) (y:= .v (.bool t)) rfl
 exact bh.bG hjB h3 (λe=>h1 e L _ ηB (hput want e) hh) (λe'=>h2 e' L _ ηB ((hput _ e').put (some e) (x:= .d (.v undef)) (y:= .v undef) rfl) hh) hd
theorem DO.Ah {j d e:Nat} {want:Bool} {op:Op} {ty:TypeId} {pos:String} {after:Array Edge} {oj:Oper} (hj:nth all j=some oj) (hjd:oj.dst=some d) (ht:Z.get d=some (.d (.v undef)))
  (h2:DO E N K all rest Q (Tr.put 24 Z e (some (.d (.v undef)))) O) (hd:Nat.blt e N=true):DO E N K all (⟨some e,op,ty,pos,after,some (j,want)⟩::rest) Q Z O:=λL ZB ηB hs hh=>by
 obtain⟨y,h3,h4⟩:=hs d _ ht;simp only[aE]at h4;subst h4;have hjB:(all.toArray[j]?).bind (·.dst)=some d:=by rw[ck]at hj;simp[hj,hjd]
 exact bh.Ah hjB h3 (h2 L _ ηB (hs.put (some e) (x:= .d (.v undef)) (y:= .v undef) rfl) hh) hd
def ei (L:aC):List (Nat×List CV)->Nu->Prop
 |[],ys=>ys=[]
 |x::xs,ys=>∃y r,ys=y::r/\y.1=x.1/\aQ L x.2 y.2/\ei L xs r
theorem ei.append {L:aC}:∀{xs xs':List (Nat×List CV)} {ys ys':Nu},ei L xs ys->ei L xs' ys'->ei L (xs++xs') (ys++ys')
 |[],_,_,_,h,g=>by simp only[ei]at h;subst h;simpa using g
 |_::_,_,_,_,h,g=>by simp only[ei]at h;obtain⟨y,r,rfl,h1,h2,h⟩:=h;simp only[ky,ei];exact⟨y,_,rfl,h1,h2,ei.append h g⟩
theorem ei.mem {L:aC}:∀{xs:List (Nat×List CV)} {ys:Nu},ei L xs ys->∀p∈ys,∃q∈xs,q.1=p.1
 |[],_,h,p,hp=>by simp only[ei]at h;subst h;cases hp
 |x::_,_,h,p,hp=>by
  simp only[ei]at h;obtain⟨y,r,rfl,h1,_,h⟩:=h;rcases dc.1 hp with rfl|hp
  ·exact⟨x,by simp,h1.symm⟩
  ·obtain⟨q,h2,h3⟩:=ei.mem h p hp;exact⟨q,by simp[h2],h3⟩
def uc (K:Nat) (L:aC) (Q:DQ):Sl->List ah->Prop:=λs η'=>∃Z1,(∀t x,look Z1 t=some x->s t=some x)/\lift K L Q .norm Z1 η'
def oJ (K:Nat) (L:aC) (Q:DQ):AV->List ah->Prop:=λx η'=>lift K L Q (.aO x) [] η'
def dM (E:Env) (N K:Nat) (all:List Oper) (tl:List (Nat×Oper×TK)) (A:bJ) (Q:DQ) (O:Hp) (pre:List Oper) (Z:TS) (W:List (Nat×List CV)):Prop:=
 ∀L s ηB WB,SS L Z s->HS L O ηB->ei L W WB->od E.toCx N ηB all.toArray (λst=>∃Z',(∀t x,look Z' t=some x->st.1 t=some x)/\
  gh st.2 λzs=>gS E.toCx N all.toArray (uc K L Q) (oJ K L Q) tl A [] (og A (look (fg ηB.length zs++Z'))) (ηB++cQ zs)) pre (s,WB)
theorem SS.aY {L:aC} {s:Sl} (hs:SS L Z s) (dst:Option Nat) {y:AV} (hx:aE L x y):SS L (bN Z dst x) (aY s dst (some y)):=by
 cases dst with
 |none=>exact hs
 |some d=>
  intro t z hz;rcases Tr.dU 24 Z d t (some x) z hz with⟨rfl,h1⟩|⟨hne,h1⟩
  ·cases h1;exact⟨y,by simp[Bw.aY],hx⟩
  ·obtain⟨u,h2,h3⟩:=hs t z h1;exact⟨u,by simp[Bw.aY,hne,h2],h3⟩
theorem SS.del {L:aC} {s:Sl} (hs:SS L Z s) (d:Nat):SS L (Tr.put 24 Z d none) (Bw.aY s (some d) none):=by
 intro t z hz;rcases Tr.dU 24 Z d t none z hz with⟨_,h1⟩|⟨hne,h1⟩
 ·cases h1
 ·obtain⟨u,h2,h3⟩:=hs t z h1;exact⟨u,by simp[Bw.aY,hne,h2],h3⟩
def cA (all:List Oper) (o:Oper) (Z:TS):Option Bool:=match o.guard with
 |none=>some true
 |some (j,want)=>match(nth all j).bind (·.dst)with
  |none=>some false
  |some d=>match Z.get d with
   |some (.d (.v (.bool b)))=>some (b==want)
   |some (.d (.v (.tuple _)))=>some false
   |_=>none
theorem iL {L:aC} {s:Sl} (hs:SS L Z s) {b:Bool} (h:cA all o Z=some b):iR all.toArray o s=some b:=by
 unfold cA at h;unfold iR;cases hg:o.guard with
 |none=>rw[hg]at h;exact h
 |some p=>
  obtain⟨j,want⟩:=p;rw[hg]at h;simp only at h⊢;have hj:(all.toArray[j]?).bind (·.dst)=(nth all j).bind (·.dst):=by rw[ck];simp
  rw[hj];cases hd:(nth all j).bind (·.dst)with
  |none=>rw[hd]at h;exact h
  |some d=>
   rw[hd]at h;simp only at h⊢;split at h
   ·rename_i q hq;obtain⟨y,h1,h2⟩:=hs d _ hq;simp only[aE]at h2;subst h2;simp only[h1];exact h
   ·rename_i q hq;obtain⟨y,h1,h2⟩:=hs d _ hq;simp only[aE]at h2;subst h2;simp only[h1];exact h
   ·cases h
def kf (o:Oper) (W:List (Nat×List CV)):Bool:=match o.dst with
 |none=>true
 |some d=>W.all λp=>!Nat.beq p.1 d
theorem ya {L:aC} {W:List (Nat×List CV)} {WB:Nu} (h:kf o W=true) (hn:ei L W WB):fresh o WB:=by
 intro d hd p hp he;unfold kf at h;rw[hd]at h;simp only[gH,je]at h;obtain⟨q,h1,h2⟩:=hn.mem p hp;have:=h q h1;rw[h2,he,rl]at this;cases this
theorem dM.val {pre:List Oper} {A:bJ} {tl:List (Nat×Oper×TK)} {W:List (Nat×List CV)} (hd:cj N o.dst=true) (hw:cA all o Z=some true) (hf:kf o W=true) (h:a8 E N o Z O x) (k:dM E N K all tl A Q O pre (bN Z o.dst x) W):
  dM E N K all tl A Q O (o::pre) Z W:=λL s ηB WB hs hh hn=>by
 obtain⟨y,h1,h2⟩:=h L s ηB hs hh;exact⟨ya hf hn,some y,[],⟨hd,.inl ⟨iL hs hw,.inl ⟨y,h2,rfl,rfl⟩⟩⟩,by simpa using k L _ ηB WB (hs.aY o.dst h1) hh hn⟩
theorem dM.skip {pre:List Oper} {A:bJ} {tl:List (Nat×Oper×TK)} {W:List (Nat×List CV)} (hd:cj N o.dst=true) (hw:cA all o Z=some false) (hf:kf o W=true) (k:dM E N K all tl A Q O pre (bN Z o.dst (.d (.v undef))) W):
  dM E N K all tl A Q O (o::pre) Z W:=λL s ηB WB hs hh hn=>by
 exact⟨ya hf hn,some (.v undef),[],⟨hd,.inr ⟨iL hs hw,rfl,rfl⟩⟩,by simpa using k L _ ηB WB (hs.aY o.dst rfl) hh hn⟩
theorem dM.new {pre:List Oper} {A:bJ} {tl:List (Nat×Oper×TK)} {W:List (Nat×List CV)} {d:Nat} {cells:List CV} (hdd:o.dst=some d) (hd:Nat.blt d N=true) (hw:cA all o Z=some true) (hf:kf o W=true) (h:∀L s ηB,SS L Z s->HS L O ηB->∃cs,aQ L cells cs/\eK E.toCx N o s ηB cs)
  (k:dM E N K all tl A Q O pre (Tr.put 24 Z d none) (W++[(d,cells)])):dM E N K all tl A Q O (o::pre) Z W:=λL s ηB WB hs hh hn=>by
 obtain⟨cs,h1,h2⟩:=h L s ηB hs hh;refine⟨ya hf hn,none,[(d,cs)],⟨by rw[hdd];exact hd,.inl ⟨iL hs hw,.inr ⟨d,cs,hdd,h2,rfl,rfl⟩⟩⟩,?_⟩;rw[hdd];exact k L _ ηB _ (hs.del d) hh (hn.append (by simp only[ei];exact⟨_,_,rfl,rfl,h1,rfl⟩))
theorem a8.Ky {cells:List AV} (h:∀L s ηB,SS L Z s->HS L O ηB->∃cs,aQ L (cells.map .d) cs/\eK E.toCx N o s ηB cs):a8 E N o Z O (.d (.ip cells)):=λL s ηB hs hh=>by
 obtain⟨cs,h1,h2⟩:=h L s ηB hs hh;have:cs=cells:=by
  have:=kD (zs:=cells) (by
   have key:∀l:List AV,eF (l.map .d)=some l:=by
    intro l;induction l with
    |nil=>rfl
    |cons y l ih=>simp[eF,ih]
   exact key cells) h1
  exact this
 subst this;exact⟨_,rfl,h2.frozen⟩
theorem a8.lit {t:TypeId} {n:Nat} {parts:Array (Nat×Operand)} {e k sz by' sz' by'':Nat} {z z':List Value} {td':TD} {cells:List AV} (ho:o.op= .buildSlice t n parts)
  (ht:aX E.T t=some ⟨.slice e k,sz,by',z⟩) (hte:aX E.T e=some ⟨td',sz',by'',z'⟩) (hf:eh k (dN Z) (fI n (z'.map .v)) parts.toList=some cells) (hb:Nat.ble (n*k) 16777216=true) (hk:Nat.ble 1 k=true):
  a8 E N o Z O (.d (.sl k (chunk n k cells))):=λ_ _ _ hs _=>⟨_,rfl,(bM.lit ho ht hte hf hb hk).mono λ_ _ _ hy=>iS hs hy⟩
theorem dM.guard {pre:List Oper} {A:bJ} {tl:List (Nat×Oper×TK)} {W:List (Nat×List CV)} {d:Nat} {b:Bool} (hb:Z.get d=some (.d (.v (.bool b)))) (h1:b=true->dM E N K all tl A Q O pre (Tr.put 24 Z d (some (.d (.v (.bool true))))) W)
  (h2:b=false->dM E N K all tl A Q O pre (Tr.put 24 Z d (some (.d (.v (.bool false))))) W):dM E N K all tl A Q O pre Z W:=λL s ηB WB hs hh hn=>by
 have key:SS L (Tr.put 24 Z d (some (.d (.v (.bool b))))) s:=λt z hz=>by
  rcases Tr.dU 24 Z d t _ z hz with⟨rfl,h3⟩|⟨_,h3⟩
  ·cases h3;exact hs _ _ hb
  ·exact hs t z h3
 cases b with
 |true=>exact h1 rfl L s ηB WB key hh hn
 |false=>exact h2 rfl L s ηB WB key hh hn
def Tr.keys {D:Type}:Tr D->List Nat
 | .lf=>[]
 | .nd _ l r=>0::(l.keys.map (2* ·+1)++r.keys.map (2* ·+2))
theorem Tr.mem_keys {D:Type}:∀{t:Tr D} {n:Nat} {x:D},t.get n=some x->n∈t.keys
 | .lf,_,_,h=>by simp[Tr.ie]at h
 | .nd y l r,n,x,h=>by
  simp only[Tr.mu,jZ,ka]at h;simp only[Tr.keys,dc,cN,dt];cases h0:Nat.beq n 0 with
  |true=>exact .inl (bB h0)
  |false=>
   rw[h0]at h;have h0:=fE h0;simp only at h;cases h1:Nat.beq (Nat.mod n 2) 1 with
   |true=>
    rw[h1]at h;have h1:=bB h1;change n%2=1 at h1;exact .inr (.inl ⟨_,Tr.mem_keys h,by change 2*(n/2)+1=n;omega⟩)
   |false=>
    rw[h1]at h;have h1:=fE h1;change ¬n%2=1 at h1;exact .inr (.inr ⟨_,Tr.mem_keys h,by change 2*(n/2-1)+2=n;omega⟩)
def ee:List (Nat×List CV)->TS->Hp->TS×Hp
 |[],Z,O=>(Z,O)
 |(d,cs)::r,Z,O=>ee r (Tr.put 24 Z d (some (.own O.n 0))) (O.push (.box cs))
theorem E' {d:Nat} {y:AV}:∀{l r:Sg},d∉l.map (·.1)->∀t,look ((d,y)::(l++r)) t=look (l++(d,y)::r) t
 |[],_,_,_=>rfl
 |(e,z)::l,r,hd,t=>by
  simp only[dW,dc,not_or]at hd;have ih:=E' (y:=y) (r:=r) hd.2 t;simp only[ky,look]at ih⊢;cases h1:Nat.beq d t with
  |true=>
   rw[h1]at ih;have:Nat.beq e t=false:=by
    cases h2:Nat.beq e t with
    |false=>rfl
    |true=>exact absurd ((bB h1).trans (bB h2).symm) hd.1
   rw[this];exact ih
  |false=>
   rw[h1]at ih;cases h2:Nat.beq e t with
   |true=>rfl
   |false=>exact ih
theorem Fa:∀(zs:List ((Nat×List AV)×Nat)) (n:Nat),(fg n zs).map (·.1)=zs.map λz=>z.1.1
 |[],_=>rfl
 |z::zs,n=>by simp[fg,Fa zs (n+1)]
theorem yS : ∀ {W : List (Nat × List CV)} {L : aC} {Z : TS} {O : Hp} {ZB : Sg} {ηB : List ah} {zs : List ((Nat × List AV) × Nat)}, SS L Z (look ZB) → HS L O ηB → ei L W (zs.map (·.1)) → ez (W.map (·.1)) = true →
    ∃ L', L.le L' ∧ SS L' (ee W Z O).1 (look (fg ηB.length zs ++ ZB)) ∧ HS L' (ee W Z O).2 (ηB ++ cQ zs)
  | [], L, Z, O, ZB, ηB, zs, hs, hh, hn, _ => by
    simp only [ei, List.map_eq_nil_iff] at hn; subst hn
    exact ⟨L, .refl L, hs, by have h0 : ηB ++ cQ [] = ηB := by simp [cQ]
                              rw [h0]; exact hh⟩
  | (d, cs) :: W, L, Z, O, ZB, ηB, zs, hs, hh, hn, hnd => by
    simp only [ei] at hn
    obtain ⟨y, r, he, h1, h2, hn⟩ := hn
    match zs, he with
    | ((d', us), b) :: zs, he =>
      simp only [dW, jK] at he
      obtain ⟨rfl, rfl⟩ := he
      simp only at h1 h2
      subst h1
      simp only [dW, ez, bI, je] at hnd
      have hdom := hh.eY O.n (bA _)
      have hl : L.le (L.eV O.n b) := aC.vm hdom.1
      have hbn : (L.eV O.n b).b O.n = some b := by simp [aC.eV]
      have hs1 : SS (L.eV O.n b) (Tr.put 24 Z d' (some (.own O.n 0))) (look ((d', .own ηB.length b 0) :: ZB)) := (hs.mono hl).put (some d') (x := .own O.n 0) (by simp only [aE]; exact ⟨b, ηB.length, hbn, rfl⟩)
      have hh1 : HS (L.eV O.n b) (O.push (.box cs)) (ηB ++ [.box b us]) := hh.push hl (fun _ _ => rfl) (fun i hi => by simp [aC.eV, hi]) ⟨b, us, hbn, rfl, h2.mono hl⟩
      have nmono : ∀ {W : List (Nat × List CV)} {ys : Nu}, ei L W ys → ei (L.eV O.n b) W ys := by
        intro W
        induction W with
        | nil => intro ys h; exact h
        | cons q W ih =>
          intro ys h
          simp only [ei] at h ⊢
          obtain ⟨y, r, e, g1, g2, g3⟩ := h
          exact ⟨y, r, e, g1, g2.mono hl, ih g3⟩
      obtain ⟨L', h3, h4, h5⟩ := yS (zs := zs) hs1 hh1 (nmono hn) hnd.2
      refine ⟨L', hl.trans h3, ?_, ?_⟩
      · have hd : d' ∉ (fg (ηB ++ [ah.box b us]).length zs).map (·.1) := by
          rw [Fa]
          intro hm
          obtain ⟨z, hz, he⟩ := dt.1 hm
          obtain ⟨q, g1, g2⟩ := hn.mem z.1 (dt.2 ⟨z, hz, rfl⟩)
          have : (W.map (·.1)).contains d' = true := by rw [D4]; exact dt.2 ⟨q, g1, by rw [g2, he]⟩
          rw [hnd.1] at this; cases this
        intro t x hx
        obtain ⟨u, g1, g2⟩ := h4 t x hx
        refine ⟨u, ?_, g2⟩
        have hlen : (ηB ++ [ah.box b us]).length = ηB.length + 1 := by simp
        rw [hlen] at g1 hd
        show look ((d', .own ηB.length b 0) :: (fg (ηB.length + 1) zs ++ ZB)) t = some u
        rw [E' hd]; exact g1
      · have : ηB ++ cQ (((d', us), b) :: zs) = (ηB ++ [ah.box b us]) ++ cQ zs := by simp [cQ]
        rw [this]; exact h5
def eD (L:aC):List (Nat×Oper×CV)->fh->Prop
 |[],ys=>ys=[]
 |x::xs,ys=>∃y r,ys=y::r/\y.1=x.1/\y.2.1=x.2.1/\aE L x.2.2 y.2.2/\eD L xs r
theorem eD.mono {L L':aC} (h:L.le L'):∀{xs:List (Nat×Oper×CV)} {ys:fh},eD L xs ys->eD L' xs ys
 |[],_,h1=>by simp only[eD]at h1⊢;exact h1
 |_::_,_,h1=>by simp only[eD]at h1⊢;obtain⟨y,r,e,h2,h3,h4,h5⟩:=h1;exact⟨y,r,e,h2,h3,h4.mono h,eD.mono h h5⟩
def cF (all:List Oper) (j:Nat) (pend:List (Nat×Oper×CV)):List (Nat×Oper×CV):=pend.filter λp=>!dZ all.toArray p.1 j
theorem eD.bm {L:aC} (j:Nat):∀{xs:List (Nat×Oper×CV)} {ys:fh},eD L xs ys->eD L (cF all j xs) (cO all.toArray j ys)
 |[],_,h1=>by simp only[eD]at h1;subst h1;rfl
 |x::xs,_,h1=>by
  simp only[eD]at h1;obtain⟨y,r,rfl,h2,h3,h4,h5⟩:=h1;have ih:=eD.bm j h5;simp only[cF,cO,Mp,h2]at ih⊢;cases dZ all.toArray x.1 j with
  |true=>exact ih
  |false=>simp only[D5,if_true,eD];exact⟨y,_,rfl,h2,h3,h4,ih⟩
theorem eD.mem {L:aC}:∀{xs:List (Nat×Oper×CV)} {ys:fh},eD L xs ys->∀p∈ys,∃q∈xs,p.1=q.1/\p.2.1=q.2.1/\aE L q.2.2 p.2.2
 |[],_,h,p,hp=>by simp only[eD]at h;subst h;cases hp
 |x::_,_,h,p,hp=>by
  simp only[eD]at h;obtain⟨y,r,rfl,h1,h2,h3,h⟩:=h;rcases dc.1 hp with rfl|hp
  ·exact⟨x,by simp,h1,h2,h3⟩
  ·obtain⟨q,g1,g2⟩:=eD.mem h p hp;exact⟨q,by simp[g1],g2⟩
def ta (E:Env) (N:Nat) (all:List Oper) (o:Oper) (Z:TS) (O:Hp) (x:CV):Prop:=(cA all o Z=some true/\a8 E N o Z O x)\/(cA all o Z=some false/\x= .d (.v undef))
def aD (E:Env) (N:Nat) (all:List Oper) (pend:List (Nat×Oper×CV)) (Z:TS) (O:Hp):Prop:=∀p∈pend,ta E N all p.2.1 Z O p.2.2
theorem ta.ok {L:aC} {s:Sl} {ηB:List ah} (hs:SS L Z s) (hh:HS L O ηB) (h:ta E N all o Z O x):∃y,aE L x y/\iE E.toCx N all.toArray o s ηB y:=by
 rcases h with⟨h1,h2⟩|⟨h1,rfl⟩
 ·obtain⟨y,h3,h4⟩:=h2 L s ηB hs hh;exact⟨y,h3,.inl ⟨iL hs h1,h4⟩⟩
 ·exact⟨.v undef,rfl,.inr ⟨iL hs h1,rfl⟩⟩
theorem aD.ok {L:aC} {s:Sl} {ηB:List ah} {pend:List (Nat×Oper×CV)} {pb:fh} (hs:SS L Z s) (hh:HS L O ηB) (h:aD E N all pend Z O) (hp:eD L pend pb):jq E.toCx N all.toArray pb s ηB:=λp hpm=>by
 obtain⟨q,h1,h2,h3,h4⟩:=hp.mem p hpm;rw[h3];rcases h q h1 with⟨g1,g2⟩|⟨g1,g2⟩
 ·obtain⟨y,g3,g4⟩:=g2 L s ηB hs hh;exact .inl ⟨iL hs g1,bM.same g3 h4 g4⟩
 ·rw[g2]at h4;simp only[aE]at h4;exact .inr ⟨iL hs g1,h4⟩
theorem SS.up {L:aC} {s s':Sl} (h:SS L Z s) (hu:∀t x,s t=some x->s' t=some x):SS L Z s':=λt x hx=>by
 obtain⟨y,h1,h2⟩:=h t x hx;exact⟨y,hu t y h1,h2⟩
def dp (A:bJ):List (Nat×List CV):=A.map λp=>(p.2.1,p.2.2.map .d)
def sn:bJ->TS->TS
 |[],Z=>Z
 |p::A,Z=>sn A (Tr.put 24 Z p.2.1 none)
theorem EL:∀{A:bJ} {Z:TS} {t:Nat} {x:CV},(sn A Z).get t=some x->t∉A.map (·.2.1)/\Z.get t=some x
 |[],_,_,_,h=>⟨by simp,h⟩
 |p::A,Z,t,x,h=>by
  obtain⟨h1,h2⟩:=EL (A:=A) h;rcases Tr.dU 24 Z p.2.1 t none x h2 with⟨_,h3⟩|⟨h3,h4⟩
  ·cases h3
  ·exact⟨by simp only[dW,dc,not_or];exact⟨h3,h1⟩,h4⟩
theorem FR {L:aC}:∀A:bJ,ei L (dp A) (ku A)
 |[]=>rfl
 |p::A=>by
  simp only[dp,ku,dW,ei];exact⟨_,_,rfl,rfl,fG _,FR A⟩
def cq (E:Env) (N K:Nat) (all:List Oper) (Q:DQ) (l:List (Nat×Oper×TK)) (A:bJ) (pend:List (Nat×Oper×CV)) (Z:TS) (O:Hp):Prop:=
 ∀L s ηB pb,SS L Z s->HS L O ηB->eD L pend pb->gS E.toCx N all.toArray (uc K L Q) (oJ K L Q) l A pb s ηB
theorem na {C:Cx} {ops:Array Oper} {Qn Qn':Sl->List ah->Prop} {Qp Qp':AV->List ah->Prop} (h1:∀s O,Qn s O->Qn' s O) (h2:∀x O,Qp x O->Qp' x O):∀{l:List (Nat×Oper×TK)} {A:bJ} {pend:fh} {s:Sl} {O:List ah},
  gS C N ops Qn Qp l A pend s O->gS C N ops Qn' Qp' l A pend s O
 |[],_,_,_,_,h=>⟨h.1,h1 _ _ h.2⟩
 |(i,o,.fl)::r,_,_,_,_,h=>by
  obtain⟨g1,g2,y,g3⟩:=h;exact⟨g1,g2,y,g3.imp (λ⟨a,b⟩=>⟨a,na h1 h2 b⟩) λ⟨a,b⟩=>⟨a,na h1 h2 b⟩⟩
 |(i,o,.one)::r,_,_,_,_,h=>by
  obtain⟨g1,g2⟩:=h;exact⟨g1,u4 g2 λzs _ ⟨b1,b2⟩=>⟨b1,b2.imp (λ⟨a1,R,a2,a3,a4⟩=>⟨a1,R,a2,λx η' hR=>na h1 h2 (a3 x η' hR),λx η' hR=>h2 _ _ (a4 x η' hR)⟩) λ⟨a1,a2⟩=>⟨a1,na h1 h2 a2⟩⟩⟩
 |[(_,_,.two)],_,_,_,_,h=>h
 |(i,o,.two)::(j,o',x)::r,_,_,_,_,h=>by
  obtain⟨g1,g2,g3⟩:=h;have up:∀{o:Oper} {s:Sl} {O:List ah} {nx nx':Sl->List ah->Prop},fi C N ops o s O nx Qp->(∀s O,nx s O->nx' s O)->fi C N ops o s O nx' Qp':=λh hn=>
   ⟨h.1,h.2.imp (λ⟨a1,R,a2,a3,a4⟩=>⟨a1,R,a2,λx η' hR=>hn _ _ (a3 x η' hR),λx η' hR=>h2 _ _ (a4 x η' hR)⟩) λ⟨a1,a2⟩=>⟨a1,hn _ _ a2⟩⟩
  exact⟨g1,up g2 λs1 O1 q=>⟨q.1,up q.2 λs2 O2 q=>na h1 h2 q⟩,up g3 λs1 O1 q=>⟨q.1,up q.2 λs2 O2 q=>na h1 h2 q⟩⟩
theorem cq.up {L L':aC} (hl:L.le L') {l:List (Nat×Oper×TK)} {A:bJ} {pb:fh} {s:Sl} {ηB:List ah} (h:gS E.toCx N all.toArray (uc K L' Q) (oJ K L' Q) l A pb s ηB):gS E.toCx N all.toArray (uc K L Q) (oJ K L Q) l A pb s ηB:=
 na (λ_ _ ⟨Z1,h1,h2⟩=>⟨Z1,h1,mZ (hl.toK K) (λ_ _ _ h=>h) h2⟩) (λ_ _ h=>mZ (hl.toK K) (λ_ _ _ h=>h) h) h
section
variable {l:List (Nat×Oper×TK)} {A:bJ} {pend:List (Nat×Oper×CV)} {i:Nat}
theorem cq.nil (hp:aD E N all pend Z O) (h:Q .norm Z O):cq E N K all Q [] A pend Z O:=λL s ηB pb hs hh hpi=>by
 refine⟨hp.ok hs hh hpi,dn s Z.keys,λt x hx=>(iM hx).2,oZ (d:= .norm) rfl (λt x hx=>?_) hh h⟩;obtain⟨y,h1,h2⟩:=hs t x hx;exact⟨y,by rw[oQ (Tr.mem_keys hx)];exact h1,h2⟩
theorem cq.fl (hp:aD E N all pend Z O) (hd:cj N o.dst=true) (hv:ta E N all o Z O x) (k:cq E N K all Q l A ((i,o,x)::pend) (bN Z o.dst x) O):cq E N K all Q ((i,o,.fl)::l) A pend Z O:=λL s ηB pb hs hh hpi=>by
 obtain⟨y,h1,h2⟩:=hv.ok hs hh;exact⟨hp.ok hs hh hpi,hd,y,.inl ⟨h2,k L _ ηB _ (hs.aY o.dst h1) hh (by simp only[eD];exact⟨_,_,rfl,rfl,rfl,h1,hpi⟩)⟩⟩
def aR (E:Env) (N:Nat) (o:Oper) (Z:TS) (x:CV):Prop:=∀L s ηB,SS L Z s->∃y,aE L x y/\bM E.toCx N o s ηB y
theorem cq.st (hp:aD E N all pend Z O) (hd:cj N o.dst=true) (hv:(cA all o Z=some true/\aR E N o Z x)\/(cA all o Z=some false/\x= .d (.v undef))) (k:cq E N K all Q l A pend (bN Z o.dst x) O):cq E N K all Q ((i,o,.fl)::l) A pend Z O:=λL s ηB pb hs hh hpi=>by
 rcases hv with⟨hw,hv⟩|⟨hw,rfl⟩
 ·obtain⟨y,h1,_⟩:=hv L s [] hs;refine⟨hp.ok hs hh hpi,hd,y,.inr ⟨λη'=> .inl ⟨iL hs hw,?_⟩,k L _ ηB _ (hs.aY o.dst h1) hh hpi⟩⟩;obtain⟨y',g1,g2⟩:=hv L s η' hs;exact bM.same g1 h1 g2
 ·exact⟨hp.ok hs hh hpi,hd,.v undef,.inr ⟨λη'=> .inr ⟨iL hs hw,rfl⟩,k L _ ηB _ (hs.aY o.dst rfl) hh hpi⟩⟩
theorem cq.L5 {L:aC} {s:Sl} {ηB:List ah} {M:bJ} (hs:SS L Z s) (hh:HS L O ηB) (hnd:ez ((dp M).map (·.1))=true) {zs:List ((Nat×List AV)×Nat)} (hz:zs.map (·.1)=ku M):
  ∃L',L.le L'/\SS L' (ee (dp M) Z O).1 (fx ηB.length zs s)/\HS L' (ee (dp M) Z O).2 (ηB++cQ zs):=by
 have hs':SS L Z (look (dn s Z.keys)):=λt x hx=>by
  obtain⟨y,h1,h2⟩:=hs t x hx;exact⟨y,by rw[oQ (Tr.mem_keys hx)];exact h1,h2⟩
 obtain⟨L',h1,h2,h3⟩:=yS (zs:=zs) hs' hh (by rw[hz];exact FR M) hnd;refine⟨L',h1,h2.up λt x hx=>?_,h3⟩;simp only[fx];cases hl:look (fg ηB.length zs) t with
 |some y=>
  have happ:∀(l r:Sg) (y:AV),look l t=some y->look (l++r) t=some y:=by
   intro l r
   induction l with
   |nil=>intro y h;simp[look]at h
   |cons p l ih=>
    intro y h;obtain⟨k,v⟩:=p;simp only[ky,look]at h⊢;split
    ·rename_i hb;rw[hb]at h;exact h
    ·rename_i hb;rw[hb]at h;exact ih y h
  rw[happ _ _ y hl]at hx;exact hx
 |none=>
  have happ:∀(l r:Sg),look l t=none->look (l++r) t=look r t:=by
   intro l r
   induction l with
   |nil=>intro _;rfl
   |cons p l ih=>
    intro h;obtain⟨k,v⟩:=p;simp only[ky,look]at h⊢;split
    ·rename_i hb;rw[hb]at h;cases h
    ·rename_i hb;rw[hb]at h;exact ih h
  rw[happ _ _ hl]at hx;exact(iM hx).2
theorem cq.skip (hp:aD E N all pend Z O) (hnd:ez ((dp (b8 all.toArray i A)).map (·.1))=true) (hd:cj N o.dst=true) (hw:cA all o (ee (dp (b8 all.toArray i A)) Z O).1=some false)
  (k:cq E N K all Q l (cm all.toArray i A) (cF all i pend) (bN (ee (dp (b8 all.toArray i A)) Z O).1 o.dst (.d (.v undef))) (ee (dp (b8 all.toArray i A)) Z O).2):cq E N K all Q ((i,o,.one)::l) A pend Z O:=λL s ηB pb hs hh hpi=>
 ⟨hp.ok hs hh hpi,rz λzs hz=>by
  obtain⟨L1,hl1,hs1,hh1⟩:=cq.L5 hs hh hnd hz;exact⟨hd,.inr ⟨iL hs1 hw,cq.up hl1 (k L1 _ _ _ (hs1.aY o.dst rfl) hh1 ((hpi.mono hl1).bm i))⟩⟩⟩
theorem cq.lP {R:DR->Hp->Prop} (hp:aD E N all pend Z O) (hnd:ez ((dp (b8 all.toArray i A)).map (·.1))=true) (hd:cj N o.dst=true) {Z1:TS} {O1:Hp} (cu:ee (dp (b8 all.toArray i A)) Z O=(Z1,O1)) (hw:cA all o Z1=some true) (h:bH E N o Z1 O1 R)
  (k1:∀x η',R (.ret x) η'->cq E N K all Q l (cm all.toArray i A) (cF all i pend) (bN Z1 o.dst x) η')
  (k2:∀x η',R (.aO x) η'->Q (.aO x) .lf η'):cq E N K all Q ((i,o,.one)::l) A pend Z O:=λL s ηB pb hs hh hpi=>by
 refine⟨hp.ok hs hh hpi,rz λzs hz=>?_⟩;obtain⟨L1,hl1,hs1,hh1⟩:=cq.L5 hs hh hnd hz;rw[cu]at hs1 hh1;refine⟨hd,.inl ⟨iL hs1 hw,_,h L1 _ _ hs1 hh1,?_,?_⟩⟩
 ·rintro y OB' ⟨L',d,η',hl,hi,hh',hR⟩;cases d with
  |ret x=>
   obtain⟨y',e,hi⟩:=hi;cases e;exact cq.up (hl1.trans hl) (k1 x η' hR L' _ OB' _ ((hs1.mono hl).aY o.dst hi) hh' ((hpi.mono (hl1.trans hl)).bm i))
  |aO x=>obtain⟨y',e,_⟩:=hi;cases e
 ·rintro y OB' ⟨L',d,η',hl,hi,hh',hR⟩;cases d with
  |ret x=>obtain⟨y',e,_⟩:=hi;cases e
  |aO x=>
   obtain⟨y',e,hi⟩:=hi;cases e;exact⟨L',.aO x,.lf,η',(hl1.trans hl).toK K,⟨y,rfl,hi⟩,A5 _,hh',k2 x η' hR⟩
theorem cq.pair {j:Nat} {o':Oper} {x:TK} {O1 O2 O3:Hp} (hp:aD E N all pend Z O) (hd:o.dst=none) (hd':o'.dst=none) (hw:cA all o Z=some true) (hw':cA all o' Z=some true)
  (h1:bH E N o Z O (λr η'=>r= .ret (.d (.v undef))/\η'=O1)) (p1:aD E N all (cF all i pend) Z O1) (h2:bH E N o' Z O1 (λr η'=>r= .ret (.d (.v undef))/\η'=O3))
  (h3:bH E N o' Z O (λr η'=>r= .ret (.d (.v undef))/\η'=O2)) (p2:aD E N all (cF all j pend) Z O2) (h4:bH E N o Z O2 (λr η'=>r= .ret (.d (.v undef))/\η'=O3))
  (k:cq E N K all Q l A (cF all j (cF all i pend)) Z O3):cq E N K all Q ((i,o,.two)::(j,o',x)::l) A pend Z O:=λL s ηB pb hs hh hpi=>by
 have go:∀{oa ob:Oper} {ia:Nat} {Oa:Hp},oa.dst=none->ob.dst=none->cA all oa Z=some true->cA all ob Z=some true->bH E N oa Z O (λr η'=>r= .ret (.d (.v undef))/\η'=Oa)->aD E N all (cF all ia pend) Z Oa->
   bH E N ob Z Oa (λr η'=>r= .ret (.d (.v undef))/\η'=O3)->
   fi E.toCx N all.toArray oa s ηB (λs1 O1=>jq E.toCx N all.toArray (cO all.toArray ia pb) s1 O1/\fi E.toCx N all.toArray ob s1 O1 (gS E.toCx N all.toArray (uc K L Q) (oJ K L Q) l A (cO all.toArray j (cO all.toArray i pb))) (oJ K L Q)) (oJ K L Q):=by
  intro oa ob ia Oa da db wa wb ha pa hb;refine⟨by rw[da];rfl,.inl ⟨iL hs wa,_,ha L s ηB hs hh,?_,?_⟩⟩
  ·rintro y OB' ⟨L',d,η',hl,hi,hh',rfl,rfl⟩;rw[da];refine⟨pa.ok (hs.mono hl) hh' ((hpi.mono hl).bm ia),by rw[db];rfl,.inl ⟨iL hs wb,_,hb L' s OB' (hs.mono hl) hh',?_,?_⟩⟩
   ·rintro y' OB2 ⟨L2,d2,O2',hl2,hi2,hh2,rfl,rfl⟩;rw[db];exact cq.up (hl.trans hl2) (k L2 s OB2 _ (hs.mono (hl.trans hl2)) hh2 (((hpi.mono (hl.trans hl2)).bm i).bm j))
   ·rintro y' OB2 ⟨L2,d2,O2',hl2,hi2,hh2,rfl,rfl⟩;obtain⟨_,e,_⟩:=hi2;cases e
  ·rintro y OB' ⟨L',d,η',hl,hi,hh',rfl,rfl⟩;obtain⟨_,e,_⟩:=hi;cases e
 exact⟨hp.ok hs hh hpi,go hd hd' hw hw' h1 p1 h2,go hd' hd hw' hw h3 p2 h4⟩
theorem cq.guard {d:Nat} {b:Bool} (hb:Z.get d=some (.d (.v (.bool b)))) (h1:b=true->cq E N K all Q l A pend (Tr.put 24 Z d (some (.d (.v (.bool true))))) O)
  (h2:b=false->cq E N K all Q l A pend (Tr.put 24 Z d (some (.d (.v (.bool false))))) O):cq E N K all Q l A pend Z O:=λL s ηB pb hs hh hpi=>by
 have key:SS L (Tr.put 24 Z d (some (.d (.v (.bool b))))) s:=λt z hz=>by
  rcases Tr.dU 24 Z d t _ z hz with⟨rfl,h3⟩|⟨_,h3⟩
  ·cases h3;exact hs _ _ hb
  ·exact hs t z h3
 cases b with
 |true=>exact h1 rfl L s ηB pb key hh hpi
 |false=>exact h2 rfl L s ηB pb key hh hpi
end
theorem dM.nil {A:bJ} {tl:List (Nat×Oper×TK)} {W:List (Nat×List CV)} (hnd:ez (W.map (·.1))=true) (k:cq E N K all Q tl A [] (sn A (ee W Z O).1) (ee W Z O).2):dM E N K all tl A Q O [] Z W:=λL s ηB WB hs hh hn=>by
 refine⟨dn s Z.keys,λt x hx=>(iM hx).2,?_⟩;have hs':SS L Z (look (dn s Z.keys)):=λt x hx=>by
  obtain⟨y,h1,h2⟩:=hs t x hx;exact⟨y,by rw[oQ (Tr.mem_keys hx)];exact h1,h2⟩
 refine rz λzs hz=>?_;obtain⟨L',h1,h2,h3⟩:=yS (zs:=zs) hs' hh (by rw[hz];exact hn) hnd;refine cq.up h1 (k L' _ _ [] (λt x hx=>?_) h3 rfl);obtain⟨g1,g2⟩:=EL hx;obtain⟨y,g3,g4⟩:=h2 t x g2;refine⟨y,?_,g4⟩;unfold og;have:(A.map (·.2.1)).contains t=false:=by
  cases hc:(A.map (·.2.1)).contains t with
  |false=>rfl
  |true=>exact absurd (D4.1 hc) g1
 rw[this];exact g3
theorem DC.open {id:Nat} {l:List Oper} (pre:List Nat) (tl:List (Nat×TK)) (al:List Nat) (A:bJ) (hm:E.P.follows .mixedOrders=true) (hA:k4 E.T l.toArray N al=some A) (hB:mr l.toArray pre tl al=true) (hl:Nat.beq (ff l.toArray pre).length pre.length=true) (h:dM E N K l (ic l.toArray tl) A Q O (ff l.toArray pre) Z []):
  DC E N K (.region id l.toArray true) Q Z O:=λL ZB ηB hs hh=>
 bD.Pl pre tl al A hm hA hB (bB hl) (yb (λ_ ⟨Z',h1,h2⟩=>⟨Z',h1,h2⟩) (h L _ ηB [] hs hh rfl))
end
def iD (E:Env) (fs:List (Nat×List AV×AV)):Prop:=∀f∈fs,Pure E.toCx f.1 f.2.1 (.ret f.2.2)
inductive It where
 |code (c:Code)
 |lR (id:Nat)
 |ops (all rest:List Oper)
 |lex (all:List Oper) (tl:List (Nat×Oper×TK)) (A:bJ) (pre:List Oper) (W:List (Nat×List CV))
 |tl (all:List Oper) (l:List (Nat×Oper×TK)) (A:bJ) (pend:List (Nat×Oper×CV)) (fs:List (Nat×List AV×AV))
 |lp (next:TS->Hp->Prop)
 |lk (m:Nat) (c:Code)
 |fr (N K:Nat) (Z:TS) (dst:Option Nat) (rs:List ResultVar)
 |ct (N K:Nat) (Z:TS) (dst:Option Nat) (rs:List ResultVar) (ty:TypeId) (z:AV)
def kP:AV->Bool
 | .agg [.v (.int _ _),.v (.int _ _)]=>true
 |_=>false
def dq (E:Env):Nat->Nat->List It->DQ->DQ
 |_,_,[],Q=>Q
 |N,K,.code c::k,Q=>λe Z O=>match e with
  | .norm=>DC E N K c (dq E N K k Q) Z O
  | .exit i=>dq E N K k Q (.exit i) Z O
  | .ret=>dq E N K k Q .ret Z O
  | .aO x=>dq E N K k Q (.aO x) Z O
 |N,K,.lR id::k,Q=>λe Z O=>match e with
  | .norm=>dq E N K k Q .norm Z O
  | .exit i=>match Nat.beq i id with
   |true=>dq E N K k Q .norm Z O
   |false=>dq E N K k Q (.exit i) Z O
  | .ret=>dq E N K k Q .ret Z O
  | .aO x=>dq E N K k Q (.aO x) Z O
 |N,K,.ops all rest::k,Q=>λe Z O=>match e with
  | .norm=>DO E N K all rest (dq E N K k Q) Z O
  | .exit i=>dq E N K k Q (.exit i) Z O
  | .ret=>dq E N K k Q .ret Z O
  | .aO x=>dq E N K k Q (.aO x) Z O
 |N,K,.lex all tl A pre W::k,Q=>λe Z O=>match e with
  | .norm=>dM E N K all tl A (dq E N K k Q) O pre Z W
  | .exit i=>dq E N K k Q (.exit i) Z O
  | .ret=>dq E N K k Q .ret Z O
  | .aO x=>dq E N K k Q (.aO x) Z O
 |N,K,.tl all l A pend fs::k,Q=>λe Z O=>match e with
  | .norm=>iD E fs->cq E N K all (dq E N K k Q) l A pend Z O
  | .exit i=>dq E N K k Q (.exit i) Z O
  | .ret=>dq E N K k Q .ret Z O
  | .aO x=>dq E N K k Q (.aO x) Z O
 |N,K,.lp next::k,Q=>λe Z O=>match e with
  | .norm=>next Z O
  | .exit i=>dq E N K k Q (.exit i) Z O
  | .ret=>dq E N K k Q .ret Z O
  | .aO x=>dq E N K k Q (.aO x) Z O
 |N,K,.lk m c::k,Q=>λe Z O=>match e with
  | .norm=>mm E N K c (dq E N K k Q) m Z O
  | .exit i=>dq E N K k Q (.exit i) Z O
  | .ret=>dq E N K k Q .ret Z O
  | .aO x=>dq E N K k Q (.aO x) Z O
 |_,_,.fr N' K' Z' dst rs::k,Q=>λe Z O=>match e with
  | .norm=>∃xs,dH E.T Z O rs=some xs/\dq E N' K' k Q .norm (bN Z' dst (ed xs)) O
  | .ret=>∃xs,dH E.T Z O rs=some xs/\dq E N' K' k Q .norm (bN Z' dst (ed xs)) O
  | .exit _=>False
  | .aO x=>dq E N' K' k Q (.aO x) .lf O
 |_,_,.ct N' K' Z' dst rs ty z::k,Q=>λe Z O=>match e with
  | .norm=>∃xs,dH E.T Z O rs=some xs/\dq E N' K' k Q .norm (bN Z' dst (.d z)) O
  | .ret=>∃xs,dH E.T Z O rs=some xs/\dq E N' K' k Q .norm (bN Z' dst (.d z)) O
  | .exit _=>False
  | .aO x=>∃y,(x= .bu ty (.d y)\/x= .d (.bu ty y))/\kP y=true/\dq E N' K' k Q .norm (bN Z' dst (.d y)) O
def af (E:Env) (N K:Nat) (todo:List It) (Q:DQ) (Z:TS) (O:Hp):Prop:=dq E N K todo Q .norm Z O
section
variable {E:Env} {N K:Nat} {Q:DQ} {Z:TS} {O:Hp} {k:List It}
theorem G4 (b:Code):DE.then (DC E N K b (dq E N K k Q)) (dq E N K k Q)=dq E N K (.code b::k) Q:=by funext e Z O;cases e<;>rfl
theorem Qg (i:Nat):DE.inBlock i (dq E N K k Q)=dq E N K (.lR i::k) Q:=by funext e Z O;cases e<;>rfl
theorem Rf (next:TS->Hp->Prop):DE.then next (dq E N K k Q)=dq E N K (.lp next::k) Q:=by funext e Z O;cases e<;>rfl
theorem Iw (m:Nat) (c:Code):DE.then (mm E N K c (dq E N K k Q) m) (dq E N K k Q)=dq E N K (.lk m c::k) Q:=by funext e Z O;cases e<;>rfl
def iT (id:Nat):List It->Option (List It)
 |[]=>none
 | .lR i::k=>match Nat.beq id i with
  |true=>some k
  |false=>iT id k
 | .code _::k=>iT id k
 | .ops _ _::k=>iT id k
 | .lex _ _ _ _ _::k=>iT id k
 | .tl _ _ _ _ _::k=>iT id k
 | .lp _::k=>iT id k
 | .lk _ _::k=>iT id k
 | .fr _ _ _ _ _::_=>none
 | .ct _ _ _ _ _ _ _::_=>none
theorem ml {id:Nat}:∀{k k':List It},iT id k=some k'->dq E N K k Q (.exit id)=dq E N K k' Q .norm
 |[],_,h=>by simp[iT]at h
 | .code _::k,k',h=>by funext Z O;simp only[dq];rw[ml (k:=k) h]
 | .ops _ _::k,k',h=>by funext Z O;simp only[dq];rw[ml (k:=k) h]
 | .lex _ _ _ _ _::k,k',h=>by funext Z O;simp only[dq];rw[ml (k:=k) h]
 | .tl _ _ _ _ _::k,k',h=>by funext Z O;simp only[dq];rw[ml (k:=k) h]
 | .lp _::k,k',h=>by funext Z O;simp only[dq];rw[ml (k:=k) h]
 | .lk _ _::k,k',h=>by funext Z O;simp only[dq];rw[ml (k:=k) h]
 | .fr _ _ _ _ _::_,_,h=>by simp[iT]at h
 | .ct _ _ _ _ _ _ _::_,_,h=>by simp[iT]at h
 | .lR i::k,k',h=>by
  funext Z O;simp only[iT]at h;simp only[dq];cases hb:Nat.beq id i with
  |true=>rw[hb]at h;simp only[aA]at h;subst h;rfl
  |false=>rw[hb]at h;simp only;rw[ml (k:=k) h]
def kT:List It->List It
 |[]=>[]
 | .fr N K Z dst rs::k=> .fr N K Z dst rs::k
 | .ct N K Z dst rs ty z::k=> .ct N K Z dst rs ty z::k
 |_::k=>kT k
theorem kQ:∀(k:List It),dq E N K k Q .ret=dq E N K (kT k) Q .ret
 |[]=>rfl
 | .code _::k=>by funext Z O;simp only[dq,kT];rw[kQ k]
 | .lR _::k=>by funext Z O;simp only[dq,kT];rw[kQ k]
 | .ops _ _::k=>by funext Z O;simp only[dq,kT];rw[kQ k]
 | .lex _ _ _ _ _::k=>by funext Z O;simp only[dq,kT];rw[kQ k]
 | .tl _ _ _ _ _::k=>by funext Z O;simp only[dq,kT];rw[kQ k]
 | .lp _::k=>by funext Z O;simp only[dq,kT];rw[kQ k]
 | .lk _ _::k=>by funext Z O;simp only[dq,kT];rw[kQ k]
 | .fr _ _ _ _ _::_=>rfl
 | .ct _ _ _ _ _ _ _::_=>rfl
def ik:List It->Option (Nat×Nat×TS×Option Nat×TypeId×List It)
 |[]=>none
 | .ct N K Z dst _ ty _::k=>some (N,K,Z,dst,ty,k)
 |_::k=>ik k
theorem kg {x:CV}:∀(k:List It) (N K:Nat) (Z:TS),ik k=none->(Q (.aO x) .lf O->dq E N K k Q (.aO x) .lf O)
 |[],_,_,_,_,h=>h
 | .code _::k,N,K,Z,hp,h=>kg k N K Z hp h
 | .lR _::k,N,K,Z,hp,h=>kg k N K Z hp h
 | .ops _ _::k,N,K,Z,hp,h=>kg k N K Z hp h
 | .lex _ _ _ _ _::k,N,K,Z,hp,h=>kg k N K Z hp h
 | .tl _ _ _ _ _::k,N,K,Z,hp,h=>kg k N K Z hp h
 | .lp _::k,N,K,Z,hp,h=>kg k N K Z hp h
 | .lk _ _::k,N,K,Z,hp,h=>kg k N K Z hp h
 | .fr N' K' _ _ _::k,_,_,Z,hp,h=>kg k N' K' Z hp h
 | .ct _ _ _ _ _ _ _::_,_,_,_,hp,_=>by simp[ik]at hp
theorem kL {x:CV} {y:AV} {N' K' ty:Nat} {Z':TS} {dst:Option Nat} {k':List It} (hx:x= .bu ty (.d y)\/x= .d (.bu ty y)) (hy:kP y=true):∀(k:List It) (N K:Nat),ik k=some (N',K',Z',dst,ty,k')->(dq E N' K' k' Q .norm (bN Z' dst (.d y)) O->dq E N K k Q (.aO x) .lf O)
 |[],_,_,hp,_=>by simp[ik]at hp
 | .code _::k,N,K,hp,h=>kL hx hy k N K hp h
 | .lR _::k,N,K,hp,h=>kL hx hy k N K hp h
 | .ops _ _::k,N,K,hp,h=>kL hx hy k N K hp h
 | .lex _ _ _ _ _::k,N,K,hp,h=>kL hx hy k N K hp h
 | .tl _ _ _ _ _::k,N,K,hp,h=>kL hx hy k N K hp h
 | .lp _::k,N,K,hp,h=>kL hx hy k N K hp h
 | .lk _ _::k,N,K,hp,h=>kL hx hy k N K hp h
 | .fr N1 K1 _ _ _::k,_,_,hp,h=>kL hx hy k N1 K1 hp h
 | .ct N1 K1 Z1 dst1 rs1 ty1 z1::k,_,_,hp,h=>by
  simp only[ik,aA,cv]at hp;obtain⟨rfl,rfl,rfl,rfl,rfl,rfl⟩:=hp;exact⟨y,hx,hy,h⟩
def nZ (E:Env) (f:FuncId) (ty:TypeId) (z:AV):Prop:=∀(g:FuncId) (fs cs:List AV) (O:List ah) (Q:AR->List ah->Prop),gM E.toCx g (fs++cs) O Q->(∀x η',Q (.aO x) η'->∃y,x= .bu ty y/\kP y=true)->
 gM E.toCx f [.fn g fs cs] O (λr η'=>(∃x,Q (.ret x) η'/\r= .ret z)\/∃x,Q (.aO (.bu ty x)) η'/\r= .ret x)
theorem Ez {L:aC} {x:CV} {y:AV} {ty:Nat} {y0:AV} (hx:x= .bu ty (.d y0)\/x= .d (.bu ty y0)) (hi:aE L x y):y= .bu ty y0:=by
 rcases hx with rfl|rfl
 ·simp only[aE]at hi;obtain⟨u,rfl,rfl⟩:=hi;rfl
 ·simp only[aE]at hi;exact hi
theorem dR.ct {f g:FuncId} {ty:TypeId} {z:AV} (hct:nZ E f ty z) {fs cs:List CV} {Q':DR->Hp->Prop} (h:dR E g (fs++cs) O Q') (hp:∀x η',Q' (.aO x) η'->∃y,(x= .bu ty (.d y)\/x= .d (.bu ty y))/\kP y=true):
  dR E f [.fn g fs cs] O (λr η'=>(∃x,Q' (.ret x) η'/\r= .ret (.d z))\/∃x y,Q' (.aO x) η'/\(x= .bu ty (.d y)\/x= .d (.bu ty y))/\kP y=true/\r= .ret (.d y)):=λL ys ηB hi hh=>by
 simp only[aQ,aE]at hi;obtain⟨y,r,rfl,⟨us,vs,rfl,h1,h2⟩,rfl⟩:=hi;refine(hct g us vs ηB _ (h L (us++vs) ηB (h1.append h2) hh) ?_).mono ?_
 ·rintro x OB' ⟨L',d,O1,g1,g2,g3,g4⟩;cases d with
  |ret x'=>obtain⟨y',e,_⟩:=g2;cases e
  |aO x'=>
   obtain⟨y',e,g2⟩:=g2;cases e;obtain⟨y0,q1,q2⟩:=hp _ _ g4;exact⟨y0,Ez q1 g2,q2⟩
 ·rintro r OB' (⟨x,⟨L',d,O1,g1,g2,g3,g4⟩,rfl⟩|⟨x,⟨L',d,O1,g1,g2,g3,g4⟩,rfl⟩)
  ·cases d with
   |ret x'=>exact⟨L',.ret (.d z),O1,g1,⟨z,rfl,rfl⟩,g3,.inl ⟨x',g4,rfl⟩⟩
   |aO x'=>obtain⟨y',e,_⟩:=g2;cases e
  ·cases d with
   |ret x'=>obtain⟨y',e,_⟩:=g2;cases e
   |aO x'=>
    obtain⟨y',e,g2⟩:=g2;cases e;obtain⟨y0,q1,q2⟩:=hp _ _ g4;have:=Ez q1 g2;cases this;exact⟨L',.ret (.d x),O1,g1,⟨x,rfl,rfl⟩,g3,.inr ⟨x',x,g4,q1,q2,rfl⟩⟩
def w5:CV->Option (FuncId×List CV×List CV)
 | .fn g fs cs=>some (g,fs,cs)
 | .d (.fn g fs cs)=>some (g,fs.map .d,cs.map .d)
 |_=>none
theorem OD {L:aC} {x:CV} {g:FuncId} {fs cs:List CV} (h:w5 x=some (g,fs,cs)) {y:AV} (hi:aE L x y):aE L (.fn g fs cs) y:=by
 unfold w5 at h;split at h
 ·simp only[aA,cv]at h;obtain⟨rfl,rfl,rfl⟩:=h;exact hi
 ·simp only[aA,cv]at h;obtain⟨rfl,rfl,rfl⟩:=h;simp only[aE]at hi⊢;subst hi;exact⟨_,_,rfl,fG _,fG _⟩
 ·cases h
theorem af.one {c:Code} (h:af E N K [.code c] Q Z O):DC E N K c Q Z O:=h
theorem af.loop {c:Code} (ts:List Nat) (m:Nat) (I:Nat->List (Nat×CV)->List bg->Prop) (n:Nat) (hK:K<=m) {l:List (Nat×CV)} {es:List bg} (hm:m<=O.n) (hp:eg m ts Z=some l) (he:iU m O=some es) (h0:I n l es)
  (round:∀n l es,I n l es->af E N K (.code c:: .lp (λZ1 O1=>∃n',n'<n/\∃l' es',m<=O1.n/\eg m ts Z1=some l'/\iU m O1=some es'/\I n' l' es')::k) Q (mM l) (fL es)):af E N K (.code (.loop c)::k) Q Z O:=
 DC.loop ts m I n hK hm hp he h0 λn l es hI=>by
  have:=round n l es hI;unfold af at this;simp only[dq]at this;rw[Rf];exact this
theorem af.lp {next:TS->Hp->Prop} (h:next Z O):af E N K (.lp next::k) Q Z O:=h
theorem af.inl {dst:Option Nat} {f:Operand} {args:List Operand} {g:FuncId} {cs:List CV} {tys:Array TypeId} {ty:TypeId} {pos:String} {after:Array Edge} {fn:Func} {c:Code} {rs:List ResultVar} {nt:Nat} {all rest:List Oper}
  (hc:cT Z f args=some (g,cs)) (hf:E.P.funcs[g]? =some fn) (hb:fn.body=some c) (hname:(fn.name== "runtime.NumGoroutine")=false) (hrs:fn.results=rs.toArray) (hnt:fn.ntmps=nt) (hn:Nat.ble cs.length nt=true) (hd:cj N dst=true)
  (h:af E nt O.n (.code c:: .fr N K Z dst rs:: .ops all rest::k) Q (fN 0 cs) O):af E N K (.ops all (⟨dst,.call {callee:= .value f,args:=args.toArray,argTypes:=tys},ty,pos,after,none⟩::rest)::k) Q Z O:=by
 show DO E N K all _ (dq E N K k Q) Z O;refine DO.call (Q':=λr η'=>match r with
  | .ret x=>DO E N K all rest (dq E N K k Q) (bN Z dst x) η'
  | .aO x=>dq E N K k Q (.aO x) .lf η') ?_ hc hd (λ_ _ h=>h) (λ_ _ h=>h)
 refine dR.enter hf hb hname rs hrs nt hnt hn (DC.mono h ?_);intro e Z1 O1 h1;cases e with
 |norm=>exact h1
 |ret=>exact h1
 |exit i=>exact h1
 |aO x=>exact h1
theorem af.ct {dst:Option Nat} {f:Operand} {args:List Operand} {f0 g:FuncId} {x:CV} {fs cs:List CV} {ty':TypeId} {z:AV} {tys:Array TypeId} {ty:TypeId} {pos:String} {after:Array Edge} {fn:Func} {c:Code} {rs:List ResultVar} {nt:Nat} {all rest:List Oper}
  (hct:nZ E f0 ty' z) (hc:cT Z f args=some (f0,[x])) (hx:w5 x=some (g,fs,cs)) (hf:E.P.funcs[g]? =some fn) (hb:fn.body=some c) (hname:(fn.name== "runtime.NumGoroutine")=false) (hrs:fn.results=rs.toArray) (hnt:fn.ntmps=nt) (hn:Nat.ble (fs++cs).length nt=true) (hd:cj N dst=true)
  (h:af E nt O.n (.code c:: .ct N K Z dst rs ty' z:: .ops all rest::k) Q (fN 0 (fs++cs)) O):af E N K (.ops all (⟨dst,.call {callee:= .value f,args:=args.toArray,argTypes:=tys},ty,pos,after,none⟩::rest)::k) Q Z O:=by
 show DO E N K all _ (dq E N K k Q) Z O;have key:dR E g (fs++cs) O (λr η'=>match r with
  | .ret _=>DO E N K all rest (dq E N K k Q) (bN Z dst (.d z)) η'
  | .aO x=>∃y,(x= .bu ty' (.d y)\/x= .d (.bu ty' y))/\kP y=true/\DO E N K all rest (dq E N K k Q) (bN Z dst (.d y)) η'):=by
  refine dR.enter hf hb hname rs hrs nt hnt hn (DC.mono h ?_);intro e Z1 O1 h1;cases e with
  |norm=>exact h1
  |ret=>exact h1
  |exit i=>exact h1
  |aO x=>exact h1
 have key2:dR E f0 [x] O (λr η'=>match r with
  | .ret y=>DO E N K all rest (dq E N K k Q) (bN Z dst y) η'
  | .aO _=>False):=λL ys ηB hi hh=>by
  have hi':aQ L [.fn g fs cs] ys:=by
   simp only[aQ]at hi;obtain⟨y,r,rfl,h1,rfl⟩:=hi;have:=OD hx h1;simp only[aQ];exact⟨y,[],rfl,this,rfl⟩
  refine(dR.ct hct key (λx η' hx=>?_) L ys ηB hi' hh).mono ?_
  ·obtain⟨y,h1,h2,_⟩:=hx;exact⟨y,h1,h2⟩
  ·rintro r OB' ⟨L',d,O1,g1,g2,g3,(⟨x,g4,rfl⟩|⟨x,y,⟨y',q1,q2,q3⟩,q4,q5,rfl⟩)⟩
   ·exact⟨L',_,O1,g1,g2,g3,g4⟩
   ·refine⟨L',_,O1,g1,g2,g3,?_⟩;have:y=y':=by
     rcases q1 with rfl|rfl<;>rcases q4 with e|e<;>cases e<;>rfl
    subst this;exact q3
 exact DO.call key2 hc hd (λ_ _ h=>h) (λ_ _ h=>h.elim)
theorem af.eT {o:Oper} {i:Nat} {f:Operand} {args:List Operand} {g:FuncId} {cs:List CV} {tys:Array TypeId} {fn:Func} {c:Code} {rs:List ResultVar} {nt:Nat} {all:List Oper} {l:List (Nat×Oper×TK)} {A:bJ} {pend:List (Nat×Oper×CV)} {fs:List (Nat×List AV×AV)} {Z1:TS} {O1:Hp} (ho:o.op= .call {callee:= .value f,args:=args.toArray,argTypes:=tys})
  (hp:iD E fs->aD E N all pend Z O) (hnd':ez ((dp (b8 all.toArray i A)).map (·.1))=true) (cu:ee (dp (b8 all.toArray i A)) Z O=(Z1,O1)) (hw:cA all o Z1=some true) (hc:cT Z1 f args=some (g,cs)) (hf:E.P.funcs[g]? =some fn) (hb:fn.body=some c) (hname:(fn.name== "runtime.NumGoroutine")=false) (hrs:fn.results=rs.toArray) (hnt:fn.ntmps=nt) (hn:Nat.ble cs.length nt=true) (hd:cj N o.dst=true)
  (h:af E nt O1.n (.code c:: .fr N K Z1 o.dst rs:: .tl all l (cm all.toArray i A) (cF all i pend) fs::k) Q (fN 0 cs) O1):af E N K (.tl all ((i,o,.one)::l) A pend fs::k) Q Z O:=by
 show iD E fs->cq E N K all (dq E N K k Q) _ A pend Z O;intro hfs;refine cq.lP (R:=λr η'=>match r with
  | .ret x=>iD E fs->cq E N K all (dq E N K k Q) l (cm all.toArray i A) (cF all i pend) (bN Z1 o.dst x) η'
  | .aO x=>dq E N K k Q (.aO x) .lf η') (hp hfs) hnd' hd cu hw (bH.call ho ?_ hc) (λ_ _ h=>h hfs) (λ_ _ h=>h)
 refine dR.enter hf hb hname rs hrs nt hnt hn (DC.mono h ?_);intro e Z1 O1 h1;cases e with
 |norm=>exact h1
 |ret=>exact h1
 |exit i=>exact h1
 |aO x=>exact h1
