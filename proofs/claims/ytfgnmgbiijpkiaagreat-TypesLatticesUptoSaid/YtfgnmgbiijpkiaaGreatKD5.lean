/- The abstract machine, fifth part: what is still to be done, as a list; regions whose order is open; panics. -/
import Derived.Test.YtfgnmgbiijpkiaaGreatKB14
set_option linter.all false
noncomputable section
namespace Go.Bw
open Go
theorem bo.panic {C:Cx} {N:Nat} {Q:AQ} {Z:Sg} {O:List aq} {ops:Array Oper} {rest:List Oper} {o:Oper} {p:Operand} {t:TypeId} {y:AV} (hg:o.guard=none) (ho:o.op= .panic p) (hp:ev (look Z) p=some (.bB t y)) (k:Q (.aO (.bB t y)) [] O):
  bo C N ops (o::rest) Q Z O:=λF w0 η0 a w hs hx=>by
 unfold wpList;rw[dj (by simp[Region.wanted,hg])];refine .inl ?_;have h1:=bA hs.sg hp;have h0:=h1;simp only[Rel]at h0;obtain⟨u,h0,_⟩:=h0;have hrun:(execOp a.eval o).run C.P w= .halt (.panic (.iface t u)) w:=by simp[execOp,ho,Instr.panic,h0]
 unfold Oper.wp;rw[hrun];rw[h0]at h1;exact⟨.aO (.bB t y),[],O,k,⟨_,rfl,h1⟩,⟨⟨hs.sg.1,λt x hx=>by simp[AE.sl,look]at hx⟩,hs.hp,hs.df⟩,hx⟩
section
variable {E:Env} {N K:Nat} {Q:DQ} {Z:TS} {O:Hp} {o:Oper} {x:CV} {all rest:List Oper}
theorem Fg {L:aH} (s:Sl):SS L .lf s:=λt x hx=>by simp[Tr.jD]at hx
theorem DO.panic {p:Operand} (hg:o.guard=none) (ho:o.op= .panic p) {t:TypeId} {y:CV} (hp:a6 Z p=some (.bB t y)) (k:Q (.aO (.bB t y)) .lf O):DO E N K all (o::rest) Q Z O:=λL ZB OB hs hh=>by
 obtain⟨z,h1,h2⟩:=cg hs hp;have h3:=h2;simp only[aI]at h3;obtain⟨u,rfl,_⟩:=h3;exact bo.panic hg ho h1 ⟨L,.aO (.bB t y),.lf,O,.refl K L,⟨_,rfl,h2⟩,Fg _,hh,k⟩
theorem DO.Ey {p:Operand} (hg:o.guard=none) (ho:o.op= .panic p) {t:TypeId} {y:AV} (hp:a6 Z p=some (.d (.bB t y))) (k:Q (.aO (.d (.bB t y))) .lf O):DO E N K all (o::rest) Q Z O:=λL ZB OB hs hh=>by
 obtain⟨z,h1,h2⟩:=cg hs hp;simp only[aI]at h2;subst h2;exact bo.panic hg ho h1 ⟨L,.aO (.d (.bB t y)),.lf,O,.refl K L,⟨_,rfl,rfl⟩,Fg _,hh,k⟩
theorem DO.O2 {j d e:Nat} {want t:Bool} {op:Op} {ty:TypeId} {pos:String} {after:Array Edge} {oj:Oper} (hj:nth all j=some oj) (hjd:oj.dst=some d) (ht:Z.get d=some (.d (.v (.bool t))))
  (h1:t=want->DO E N K all (⟨some e,op,ty,pos,after,none⟩::rest) Q (Tr.put 24 Z d (some (.d (.v (.bool want))))) O)
  (h2:t= !want->DO E N K all rest Q (Tr.put 24 (Tr.put 24 Z d (some (.d (.v (.bool !want))))) e (some (.d (.v undef)))) O)
  (hd:Nat.blt e N=true):DO E N K all (⟨some e,op,ty,pos,after,some (j,want)⟩::rest) Q Z O:=λL ZB OB hs hh=>by
 obtain⟨y,h3,h4⟩:=hs d _ ht;simp only[aI]at h4;subst h4;have hjB:(all.toArray[j]?).bind (·.dst)=some d:=by rw[cq]at hj;simp[hj,hjd]
 have hput:∀b,t=b->SS L (Tr.put 24 Z d (some (.d (.v (.bool b))))) (look ((d,.v (.bool b))::ZB)):=λb hb=>by
  subst hb;exact hs.put (some d) (x:= .d (.v (.bool t))) (y:= .v (.bool t)) rfl
 exact bo.bz hjB h3 (λe=>h1 e L _ OB (hput want e) hh) (λe'=>h2 e' L _ OB ((hput _ e').put (some e) (x:= .d (.v undef)) (y:= .v undef) rfl) hh) hd
theorem DO.Ex {j d e:Nat} {want:Bool} {op:Op} {ty:TypeId} {pos:String} {after:Array Edge} {oj:Oper} (hj:nth all j=some oj) (hjd:oj.dst=some d) (ht:Z.get d=some (.d (.v undef)))
  (h2:DO E N K all rest Q (Tr.put 24 Z e (some (.d (.v undef)))) O) (hd:Nat.blt e N=true):DO E N K all (⟨some e,op,ty,pos,after,some (j,want)⟩::rest) Q Z O:=λL ZB OB hs hh=>by
 obtain⟨y,h3,h4⟩:=hs d _ ht;simp only[aI]at h4;subst h4;have hjB:(all.toArray[j]?).bind (·.dst)=some d:=by rw[cq]at hj;simp[hj,hjd]
 exact bo.Ex hjB h3 (h2 L _ OB (hs.put (some e) (x:= .d (.v undef)) (y:= .v undef) rfl) hh) hd
def eN (L:aH):List (Nat×List CV)->Nu->Prop
 |[],ys=>ys=[]
 |x::xs,ys=>∃y r,ys=y::r/\y.1=x.1/\aS L x.2 y.2/\eN L xs r
theorem eN.append {L:aH}:∀{xs xs':List (Nat×List CV)} {ys ys':Nu},eN L xs ys->eN L xs' ys'->eN L (xs++xs') (ys++ys')
 |[],_,_,_,h,g=>by simp only[eN]at h;subst h;simpa using g
 |_::_,_,_,_,h,g=>by simp only[eN]at h;obtain⟨y,r,rfl,h1,h2,h⟩:=h;simp only[lE,eN];exact⟨y,_,rfl,h1,h2,eN.append h g⟩
theorem eN.mem {L:aH}:∀{xs:List (Nat×List CV)} {ys:Nu},eN L xs ys->∀p∈ys,∃q∈xs,q.1=p.1
 |[],_,h,p,hp=>by simp only[eN]at h;subst h;cases hp
 |x::_,_,h,p,hp=>by
  simp only[eN]at h;obtain⟨y,r,rfl,h1,_,h⟩:=h;rcases cm.1 hp with rfl|hp
  ·exact⟨x,by simp,h1.symm⟩
  ·obtain⟨q,h2,h3⟩:=eN.mem h p hp;exact⟨q,by simp[h2],h3⟩
def xA (K:Nat) (L:aH) (Q:DQ):Sl->List aq->Prop:=λs O'=>∃σ1,(∀t x,look σ1 t=some x->s t=some x)/\lift K L Q .norm σ1 O'
def rW (K:Nat) (L:aH) (Q:DQ):AV->List aq->Prop:=λx O'=>lift K L Q (.aO x) [] O'
def ec (E:Env) (N K:Nat) (all:List Oper) (tl:List (Nat×Oper×TK)) (A:bR) (Q:DQ) (O:Hp) (pre:List Oper) (Z:TS) (W:List (Nat×List CV)):Prop:=
 ∀L s OB WB,SS L Z s->HS L O OB->eN L W WB->rH E.toCx N OB all.toArray (λst=>∃σ',(∀t x,look σ' t=some x->st.1 t=some x)/\
  ig st.2 λzs=>jg E.toCx N all.toArray (xA K L Q) (rW K L Q) tl A [] (rI A (look (fS OB.length zs++σ'))) (OB++cS zs)) pre (s,WB)
theorem SS.ba {L:aH} {s:Sl} (hs:SS L Z s) (dst:Option Nat) {y:AV} (hx:aI L x y):SS L (bW Z dst x) (ba s dst (some y)):=by
 cases dst with
 |none=>exact hs
 |some d=>
  intro t z hz;rcases Tr.ep 24 Z d t (some x) z hz with⟨rfl,h1⟩|⟨hne,h1⟩
  ·cases h1;exact⟨y,by simp[Bw.ba],hx⟩
  ·obtain⟨u,h2,h3⟩:=hs t z h1;exact⟨u,by simp[Bw.ba,hne,h2],h3⟩
theorem SS.del {L:aH} {s:Sl} (hs:SS L Z s) (d:Nat):SS L (Tr.put 24 Z d none) (Bw.ba s (some d) none):=by
 intro t z hz;rcases Tr.ep 24 Z d t none z hz with⟨_,h1⟩|⟨hne,h1⟩
 ·cases h1
 ·obtain⟨u,h2,h3⟩:=hs t z h1;exact⟨u,by simp[Bw.ba,hne,h2],h3⟩
def cC (all:List Oper) (o:Oper) (Z:TS):Option Bool:=match o.guard with
 |none=>some true
 |some (j,want)=>match(nth all j).bind (·.dst)with
  |none=>some false
  |some d=>match Z.get d with
   |some (.d (.v (.bool b)))=>some (b==want)
   |some (.d (.v (.tuple _)))=>some false
   |_=>none
theorem kf {L:aH} {s:Sl} (hs:SS L Z s) {b:Bool} (h:cC all o Z=some b):kp all.toArray o s=some b:=by
 unfold cC at h;unfold kp;cases hg:o.guard with
 |none=>rw[hg]at h;exact h
 |some p=>
  obtain⟨j,want⟩:=p;rw[hg]at h;simp only at h⊢;have hj:(all.toArray[j]?).bind (·.dst)=(nth all j).bind (·.dst):=by rw[cq];simp
  rw[hj];cases hd:(nth all j).bind (·.dst)with
  |none=>rw[hd]at h;exact h
  |some d=>
   rw[hd]at h;simp only at h⊢;split at h
   ·rename_i q hq;obtain⟨y,h1,h2⟩:=hs d _ hq;simp only[aI]at h2;subst h2;simp only[h1];exact h
   ·rename_i q hq;obtain⟨y,h1,h2⟩:=hs d _ hq;simp only[aI]at h2;subst h2;simp only[h1];exact h
   ·cases h
def lZ (o:Oper) (W:List (Nat×List CV)):Bool:=match o.dst with
 |none=>true
 |some d=>W.all λp=>!Nat.beq p.1 d
theorem CX {L:aH} {W:List (Nat×List CV)} {WB:Nu} (h:lZ o W=true) (hn:eN L W WB):fresh o WB:=by
 intro d hd p hp he;unfold lZ at h;rw[hd]at h;simp only[iA,kQ]at h;obtain⟨q,h1,h2⟩:=hn.mem p hp;have:=h q h1;rw[h2,he,u4]at this;cases this
theorem ec.val {pre:List Oper} {A:bR} {tl:List (Nat×Oper×TK)} {W:List (Nat×List CV)} (hd:ck N o.dst=true) (hw:cC all o Z=some true) (hf:lZ o W=true) (h:bg E N o Z O x) (k:ec E N K all tl A Q O pre (bW Z o.dst x) W):
  ec E N K all tl A Q O (o::pre) Z W:=λL s OB WB hs hh hn=>by
 obtain⟨y,h1,h2⟩:=h L s OB hs hh;exact⟨CX hf hn,some y,[],⟨hd,.inl ⟨kf hs hw,.inl ⟨y,h2,rfl,rfl⟩⟩⟩,by simpa using k L _ OB WB (hs.ba o.dst h1) hh hn⟩
theorem ec.skip {pre:List Oper} {A:bR} {tl:List (Nat×Oper×TK)} {W:List (Nat×List CV)} (hd:ck N o.dst=true) (hw:cC all o Z=some false) (hf:lZ o W=true) (k:ec E N K all tl A Q O pre (bW Z o.dst (.d (.v undef))) W):
  ec E N K all tl A Q O (o::pre) Z W:=λL s OB WB hs hh hn=>by
 exact⟨CX hf hn,some (.v undef),[],⟨hd,.inr ⟨kf hs hw,rfl,rfl⟩⟩,by simpa using k L _ OB WB (hs.ba o.dst rfl) hh hn⟩
theorem ec.new {pre:List Oper} {A:bR} {tl:List (Nat×Oper×TK)} {W:List (Nat×List CV)} {d:Nat} {cells:List CV} (hdd:o.dst=some d) (hd:Nat.blt d N=true) (hw:cC all o Z=some true) (hf:lZ o W=true) (h:∀L s OB,SS L Z s->HS L O OB->∃cs,aS L cells cs/\fA E.toCx N o s OB cs)
  (k:ec E N K all tl A Q O pre (Tr.put 24 Z d none) (W++[(d,cells)])):ec E N K all tl A Q O (o::pre) Z W:=λL s OB WB hs hh hn=>by
 obtain⟨cs,h1,h2⟩:=h L s OB hs hh;refine⟨CX hf hn,none,[(d,cs)],⟨by rw[hdd];exact hd,.inl ⟨kf hs hw,.inr ⟨d,cs,hdd,h2,rfl,rfl⟩⟩⟩,?_⟩;rw[hdd];exact k L _ OB _ (hs.del d) hh (hn.append (by simp only[eN];exact⟨_,_,rfl,rfl,h1,rfl⟩))
theorem bg.RF {cells:List AV} (h:∀L s OB,SS L Z s->HS L O OB->∃cs,aS L (cells.map .d) cs/\fA E.toCx N o s OB cs):bg E N o Z O (.d (.ip cells)):=λL s OB hs hh=>by
 obtain⟨cs,h1,h2⟩:=h L s OB hs hh;have:cs=cells:=by
  have:=mF (zs:=cells) (by
   have key:∀l:List AV,fq (l.map .d)=some l:=by
    intro l;induction l with
    |nil=>rfl
    |cons y l ih=>simp[fq,ih]
   exact key cells) h1
  exact this
 subst this;exact⟨_,rfl,h2.frozen⟩
theorem bg.lit {t:TypeId} {n:Nat} {parts:Array (Nat×Operand)} {e k sz by' sz' by'':Nat} {z z':List Value} {td':TD} {cells:List AV} (ho:o.op= .buildSlice t n parts)
  (ht:a7 E.T t=some ⟨.slice e k,sz,by',z⟩) (hte:a7 E.T e=some ⟨td',sz',by'',z'⟩) (hf:eM k (ee Z) (gD n (z'.map .v)) parts.toList=some cells) (hb:Nat.ble (n*k) 16777216=true) (hk:Nat.ble 1 k=true):
  bg E N o Z O (.d (.sl k (chunk n k cells))):=λ_ _ _ hs _=>⟨_,rfl,(bV.lit ho ht hte hf hb hk).mono λ_ _ _ hy=>kt hs hy⟩
theorem ec.guard {pre:List Oper} {A:bR} {tl:List (Nat×Oper×TK)} {W:List (Nat×List CV)} {d:Nat} {b:Bool} (hb:Z.get d=some (.d (.v (.bool b)))) (h1:b=true->ec E N K all tl A Q O pre (Tr.put 24 Z d (some (.d (.v (.bool true))))) W)
  (h2:b=false->ec E N K all tl A Q O pre (Tr.put 24 Z d (some (.d (.v (.bool false))))) W):ec E N K all tl A Q O pre Z W:=λL s OB WB hs hh hn=>by
 have key:SS L (Tr.put 24 Z d (some (.d (.v (.bool b))))) s:=λt z hz=>by
  rcases Tr.ep 24 Z d t _ z hz with⟨rfl,h3⟩|⟨_,h3⟩
  ·cases h3;exact hs _ _ hb
  ·exact hs t z h3
 cases b with
 |true=>exact h1 rfl L s OB WB key hh hn
 |false=>exact h2 rfl L s OB WB key hh hn
def Tr.keys {D:Type}:Tr D->List Nat
 | .lf=>[]
 | .nd _ l r=>0::(l.keys.map (2* ·+1)++r.keys.map (2* ·+2))
theorem Tr.mem_keys {D:Type}:∀{t:Tr D} {n:Nat} {x:D},t.get n=some x->n∈t.keys
 | .lf,_,_,h=>by simp[Tr.jD]at h
 | .nd y l r,n,x,h=>by
  simp only[Tr.pI,lW,lX]at h;simp only[Tr.keys,cm,cJ,cP];cases h0:Nat.beq n 0 with
  |true=>exact .inl (bE h0)
  |false=>
   rw[h0]at h;have h0:=gx h0;simp only at h;cases h1:Nat.beq (Nat.mod n 2) 1 with
   |true=>
    rw[h1]at h;have h1:=bE h1;change n%2=1 at h1;exact .inr (.inl ⟨_,Tr.mem_keys h,by change 2*(n/2)+1=n;omega⟩)
   |false=>
    rw[h1]at h;have h1:=gx h1;change ¬n%2=1 at h1;exact .inr (.inr ⟨_,Tr.mem_keys h,by change 2*(n/2-1)+2=n;omega⟩)
def eJ:List (Nat×List CV)->TS->Hp->TS×Hp
 |[],Z,O=>(Z,O)
 |(d,cs)::r,Z,O=>eJ r (Tr.put 24 Z d (some (.own O.n 0))) (O.push (.box cs))
theorem KZ {d:Nat} {y:AV}:∀{l r:Sg},d∉l.map (·.1)->∀t,look ((d,y)::(l++r)) t=look (l++(d,y)::r) t
 |[],_,_,_=>rfl
 |(e,z)::l,r,hd,t=>by
  simp only[dP,cm,not_or]at hd;have ih:=KZ (y:=y) (r:=r) hd.2 t;simp only[lE,look]at ih⊢;cases h1:Nat.beq d t with
  |true=>
   rw[h1]at ih;have:Nat.beq e t=false:=by
    cases h2:Nat.beq e t with
    |false=>rfl
    |true=>exact absurd ((bE h1).trans (bE h2).symm) hd.1
   rw[this];exact ih
  |false=>
   rw[h1]at ih;cases h2:Nat.beq e t with
   |true=>rfl
   |false=>exact ih
theorem K0:∀(zs:List ((Nat×List AV)×Nat)) (n:Nat),(fS n zs).map (·.1)=zs.map λz=>z.1.1
 |[],_=>rfl
 |z::zs,n=>by simp[fS,K0 zs (n+1)]
theorem Dh : ∀ {W : List (Nat × List CV)} {L : aH} {Z : TS} {O : Hp} {ZB : Sg} {OB : List aq} {zs : List ((Nat × List AV) × Nat)}, SS L Z (look ZB) → HS L O OB → eN L W (zs.map (·.1)) → e9 (W.map (·.1)) = true →
    ∃ L', L.le L' ∧ SS L' (eJ W Z O).1 (look (fS OB.length zs ++ ZB)) ∧ HS L' (eJ W Z O).2 (OB ++ cS zs)
  | [], L, Z, O, ZB, OB, zs, hs, hh, hn, _ => by
    simp only [eN, List.map_eq_nil_iff] at hn; subst hn
    exact ⟨L, .refl L, hs, by have h0 : OB ++ cS [] = OB := by simp [cS]
                              rw [h0]; exact hh⟩
  | (d, cs) :: W, L, Z, O, ZB, OB, zs, hs, hh, hn, hnd => by
    simp only [eN] at hn
    obtain ⟨y, r, he, h1, h2, hn⟩ := hn
    match zs, he with
    | ((d', us), b) :: zs, he =>
      simp only [dP, lC] at he
      obtain ⟨rfl, rfl⟩ := he
      simp only at h1 h2
      subst h1
      simp only [dP, e9, bL, kQ] at hnd
      have hdom := hh.fJ O.n (bQ _)
      have hl : L.le (L.fI O.n b) := aH.Aj hdom.1
      have hbn : (L.fI O.n b).b O.n = some b := by simp [aH.fI]
      have hs1 : SS (L.fI O.n b) (Tr.put 24 Z d' (some (.own O.n 0))) (look ((d', .own OB.length b 0) :: ZB)) := (hs.mono hl).put (some d') (x := .own O.n 0) (by simp only [aI]; exact ⟨b, OB.length, hbn, rfl⟩)
      have hh1 : HS (L.fI O.n b) (O.push (.box cs)) (OB ++ [.box b us]) := hh.push hl (fun _ _ => rfl) (fun i hi => by simp [aH.fI, hi]) ⟨b, us, hbn, rfl, h2.mono hl⟩
      have nmono : ∀ {W : List (Nat × List CV)} {ys : Nu}, eN L W ys → eN (L.fI O.n b) W ys := by
        intro W
        induction W with
        | nil => intro ys h; exact h
        | cons q W ih =>
          intro ys h
          simp only [eN] at h ⊢
          obtain ⟨y, r, e, g1, g2, g3⟩ := h
          exact ⟨y, r, e, g1, g2.mono hl, ih g3⟩
      obtain ⟨L', h3, h4, h5⟩ := Dh (zs := zs) hs1 hh1 (nmono hn) hnd.2
      refine ⟨L', hl.trans h3, ?_, ?_⟩
      · have hd : d' ∉ (fS (OB ++ [aq.box b us]).length zs).map (·.1) := by
          rw [K0]
          intro hm
          obtain ⟨z, hz, he⟩ := cP.1 hm
          obtain ⟨q, g1, g2⟩ := hn.mem z.1 (cP.2 ⟨z, hz, rfl⟩)
          have : (W.map (·.1)).contains d' = true := by rw [JD]; exact cP.2 ⟨q, g1, by rw [g2, he]⟩
          rw [hnd.1] at this; cases this
        intro t x hx
        obtain ⟨u, g1, g2⟩ := h4 t x hx
        refine ⟨u, ?_, g2⟩
        have hlen : (OB ++ [aq.box b us]).length = OB.length + 1 := by simp
        rw [hlen] at g1 hd
        show look ((d', .own OB.length b 0) :: (fS (OB.length + 1) zs ++ ZB)) t = some u
        rw [KZ hd]; exact g1
      · have : OB ++ cS (((d', us), b) :: zs) = (OB ++ [aq.box b us]) ++ cS zs := by simp [cS]
        rw [this]; exact h5
def fp (L:aH):List (Nat×Oper×CV)->fT->Prop
 |[],ys=>ys=[]
 |x::xs,ys=>∃y r,ys=y::r/\y.1=x.1/\y.2.1=x.2.1/\aI L x.2.2 y.2.2/\fp L xs r
theorem fp.mono {L L':aH} (h:L.le L'):∀{xs:List (Nat×Oper×CV)} {ys:fT},fp L xs ys->fp L' xs ys
 |[],_,h1=>by simp only[fp]at h1⊢;exact h1
 |_::_,_,h1=>by simp only[fp]at h1⊢;obtain⟨y,r,e,h2,h3,h4,h5⟩:=h1;exact⟨y,r,e,h2,h3,h4.mono h,fp.mono h h5⟩
def cG (all:List Oper) (j:Nat) (pend:List (Nat×Oper×CV)):List (Nat×Oper×CV):=pend.filter λp=>!eC all.toArray p.1 j
theorem fp.keep {L:aH} (j:Nat):∀{xs:List (Nat×Oper×CV)} {ys:fT},fp L xs ys->fp L (cG all j xs) (cO all.toArray j ys)
 |[],_,h1=>by simp only[fp]at h1;subst h1;rfl
 |x::xs,_,h1=>by
  simp only[fp]at h1;obtain⟨y,r,rfl,h2,h3,h4,h5⟩:=h1;have ih:=fp.keep j h5;simp only[cG,cO,Uo,h2]at ih⊢;cases eC all.toArray x.1 j with
  |true=>exact ih
  |false=>simp only[u5,if_true,fp];exact⟨y,_,rfl,h2,h3,h4,ih⟩
theorem fp.mem {L:aH}:∀{xs:List (Nat×Oper×CV)} {ys:fT},fp L xs ys->∀p∈ys,∃q∈xs,p.1=q.1/\p.2.1=q.2.1/\aI L q.2.2 p.2.2
 |[],_,h,p,hp=>by simp only[fp]at h;subst h;cases hp
 |x::_,_,h,p,hp=>by
  simp only[fp]at h;obtain⟨y,r,rfl,h1,h2,h3,h⟩:=h;rcases cm.1 hp with rfl|hp
  ·exact⟨x,by simp,h1,h2,h3⟩
  ·obtain⟨q,g1,g2⟩:=fp.mem h p hp;exact⟨q,by simp[g1],g2⟩
def w6 (E:Env) (N:Nat) (all:List Oper) (o:Oper) (Z:TS) (O:Hp) (x:CV):Prop:=(cC all o Z=some true/\bg E N o Z O x)\/(cC all o Z=some false/\x= .d (.v undef))
def aG (E:Env) (N:Nat) (all:List Oper) (pend:List (Nat×Oper×CV)) (Z:TS) (O:Hp):Prop:=∀p∈pend,w6 E N all p.2.1 Z O p.2.2
theorem w6.ok {L:aH} {s:Sl} {OB:List aq} (hs:SS L Z s) (hh:HS L O OB) (h:w6 E N all o Z O x):∃y,aI L x y/\jQ E.toCx N all.toArray o s OB y:=by
 rcases h with⟨h1,h2⟩|⟨h1,rfl⟩
 ·obtain⟨y,h3,h4⟩:=h2 L s OB hs hh;exact⟨y,h3,.inl ⟨kf hs h1,h4⟩⟩
 ·exact⟨.v undef,rfl,.inr ⟨kf hs h1,rfl⟩⟩
theorem aG.ok {L:aH} {s:Sl} {OB:List aq} {pend:List (Nat×Oper×CV)} {pb:fT} (hs:SS L Z s) (hh:HS L O OB) (h:aG E N all pend Z O) (hp:fp L pend pb):kY E.toCx N all.toArray pb s OB:=λp hpm=>by
 obtain⟨q,h1,h2,h3,h4⟩:=hp.mem p hpm;rw[h3];rcases h q h1 with⟨g1,g2⟩|⟨g1,g2⟩
 ·obtain⟨y,g3,g4⟩:=g2 L s OB hs hh;exact .inl ⟨kf hs g1,bV.same g3 h4 g4⟩
 ·rw[g2]at h4;simp only[aI]at h4;exact .inr ⟨kf hs g1,h4⟩
theorem SS.up {L:aH} {s s':Sl} (h:SS L Z s) (hu:∀t x,s t=some x->s' t=some x):SS L Z s':=λt x hx=>by
 obtain⟨y,h1,h2⟩:=h t x hx;exact⟨y,hu t y h1,h2⟩
def dB (A:bR):List (Nat×List CV):=A.map λp=>(p.2.1,p.2.2.map .d)
def v8:bR->TS->TS
 |[],Z=>Z
 |p::A,Z=>v8 A (Tr.put 24 Z p.2.1 none)
theorem Kr:∀{A:bR} {Z:TS} {t:Nat} {x:CV},(v8 A Z).get t=some x->t∉A.map (·.2.1)/\Z.get t=some x
 |[],_,_,_,h=>⟨by simp,h⟩
 |p::A,Z,t,x,h=>by
  obtain⟨h1,h2⟩:=Kr (A:=A) h;rcases Tr.ep 24 Z p.2.1 t none x h2 with⟨_,h3⟩|⟨h3,h4⟩
  ·cases h3
  ·exact⟨by simp only[dP,cm,not_or];exact⟨h3,h1⟩,h4⟩
theorem LP {L:aH}:∀A:bR,eN L (dB A) (mr A)
 |[]=>rfl
 |p::A=>by
  simp only[dB,mr,dP,eN];exact⟨_,_,rfl,rfl,gA _,LP A⟩
def cy (E:Env) (N K:Nat) (all:List Oper) (Q:DQ) (l:List (Nat×Oper×TK)) (A:bR) (pend:List (Nat×Oper×CV)) (Z:TS) (O:Hp):Prop:=
 ∀L s OB pb,SS L Z s->HS L O OB->fp L pend pb->jg E.toCx N all.toArray (xA K L Q) (rW K L Q) l A pb s OB
theorem qn {C:Cx} {ops:Array Oper} {Qn Qn':Sl->List aq->Prop} {Qp Qp':AV->List aq->Prop} (h1:∀s O,Qn s O->Qn' s O) (h2:∀x O,Qp x O->Qp' x O):∀{l:List (Nat×Oper×TK)} {A:bR} {pend:fT} {s:Sl} {O:List aq},
  jg C N ops Qn Qp l A pend s O->jg C N ops Qn' Qp' l A pend s O
 |[],_,_,_,_,h=>⟨h.1,h1 _ _ h.2⟩
 |(i,o,.fl)::r,_,_,_,_,h=>by
  obtain⟨g1,g2,y,g3⟩:=h;exact⟨g1,g2,y,g3.imp (λ⟨a,b⟩=>⟨a,qn h1 h2 b⟩) λ⟨a,b⟩=>⟨a,qn h1 h2 b⟩⟩
 |(i,o,.one)::r,_,_,_,_,h=>by
  obtain⟨g1,g2⟩:=h;exact⟨g1,zx g2 λzs _ ⟨b1,b2⟩=>⟨b1,b2.imp (λ⟨a1,R,a2,a3,a4⟩=>⟨a1,R,a2,λx O' hR=>qn h1 h2 (a3 x O' hR),λx O' hR=>h2 _ _ (a4 x O' hR)⟩) λ⟨a1,a2⟩=>⟨a1,qn h1 h2 a2⟩⟩⟩
 |[(_,_,.two)],_,_,_,_,h=>h
 |(i,o,.two)::(j,o',x)::r,_,_,_,_,h=>by
  obtain⟨g1,g2,g3⟩:=h;have up:∀{o:Oper} {s:Sl} {O:List aq} {nx nx':Sl->List aq->Prop},fU C N ops o s O nx Qp->(∀s O,nx s O->nx' s O)->fU C N ops o s O nx' Qp':=λh hn=>
   ⟨h.1,h.2.imp (λ⟨a1,R,a2,a3,a4⟩=>⟨a1,R,a2,λx O' hR=>hn _ _ (a3 x O' hR),λx O' hR=>h2 _ _ (a4 x O' hR)⟩) λ⟨a1,a2⟩=>⟨a1,hn _ _ a2⟩⟩
  exact⟨g1,up g2 λs1 η1 q=>⟨q.1,up q.2 λs2 η2 q=>qn h1 h2 q⟩,up g3 λs1 η1 q=>⟨q.1,up q.2 λs2 η2 q=>qn h1 h2 q⟩⟩
theorem cy.up {L L':aH} (hl:L.le L') {l:List (Nat×Oper×TK)} {A:bR} {pb:fT} {s:Sl} {OB:List aq} (h:jg E.toCx N all.toArray (xA K L' Q) (rW K L' Q) l A pb s OB):jg E.toCx N all.toArray (xA K L Q) (rW K L Q) l A pb s OB:=
 qn (λ_ _ ⟨σ1,h1,h2⟩=>⟨σ1,h1,qm (hl.toK K) (λ_ _ _ h=>h) h2⟩) (λ_ _ h=>qm (hl.toK K) (λ_ _ _ h=>h) h) h
section
variable {l:List (Nat×Oper×TK)} {A:bR} {pend:List (Nat×Oper×CV)} {i:Nat}
theorem cy.nil (hp:aG E N all pend Z O) (h:Q .norm Z O):cy E N K all Q [] A pend Z O:=λL s OB pb hs hh hpi=>by
 refine⟨hp.ok hs hh hpi,dA s Z.keys,λt x hx=>(kg hx).2,so (d:= .norm) rfl (λt x hx=>?_) hh h⟩;obtain⟨y,h1,h2⟩:=hs t x hx;exact⟨y,by rw[r7 (Tr.mem_keys hx)];exact h1,h2⟩
theorem cy.fl (hp:aG E N all pend Z O) (hd:ck N o.dst=true) (hv:w6 E N all o Z O x) (k:cy E N K all Q l A ((i,o,x)::pend) (bW Z o.dst x) O):cy E N K all Q ((i,o,.fl)::l) A pend Z O:=λL s OB pb hs hh hpi=>by
 obtain⟨y,h1,h2⟩:=hv.ok hs hh;exact⟨hp.ok hs hh hpi,hd,y,.inl ⟨h2,k L _ OB _ (hs.ba o.dst h1) hh (by simp only[fp];exact⟨_,_,rfl,rfl,rfl,h1,hpi⟩)⟩⟩
def aQ (E:Env) (N:Nat) (o:Oper) (Z:TS) (x:CV):Prop:=∀L s OB,SS L Z s->∃y,aI L x y/\bV E.toCx N o s OB y
theorem cy.st (hp:aG E N all pend Z O) (hd:ck N o.dst=true) (hv:(cC all o Z=some true/\aQ E N o Z x)\/(cC all o Z=some false/\x= .d (.v undef))) (k:cy E N K all Q l A pend (bW Z o.dst x) O):cy E N K all Q ((i,o,.fl)::l) A pend Z O:=λL s OB pb hs hh hpi=>by
 rcases hv with⟨hw,hv⟩|⟨hw,rfl⟩
 ·obtain⟨y,h1,_⟩:=hv L s [] hs;refine⟨hp.ok hs hh hpi,hd,y,.inr ⟨λO'=> .inl ⟨kf hs hw,?_⟩,k L _ OB _ (hs.ba o.dst h1) hh hpi⟩⟩;obtain⟨y',g1,g2⟩:=hv L s O' hs;exact bV.same g1 h1 g2
 ·exact⟨hp.ok hs hh hpi,hd,.v undef,.inr ⟨λO'=> .inr ⟨kf hs hw,rfl⟩,k L _ OB _ (hs.ba o.dst rfl) hh hpi⟩⟩
theorem cy.T0 {L:aH} {s:Sl} {OB:List aq} {M:bR} (hs:SS L Z s) (hh:HS L O OB) (hnd:e9 ((dB M).map (·.1))=true) {zs:List ((Nat×List AV)×Nat)} (hz:zs.map (·.1)=mr M):
  ∃L',L.le L'/\SS L' (eJ (dB M) Z O).1 (gk OB.length zs s)/\HS L' (eJ (dB M) Z O).2 (OB++cS zs):=by
 have hs':SS L Z (look (dA s Z.keys)):=λt x hx=>by
  obtain⟨y,h1,h2⟩:=hs t x hx;exact⟨y,by rw[r7 (Tr.mem_keys hx)];exact h1,h2⟩
 obtain⟨L',h1,h2,h3⟩:=Dh (zs:=zs) hs' hh (by rw[hz];exact LP M) hnd;refine⟨L',h1,h2.up λt x hx=>?_,h3⟩;simp only[gk];cases hl:look (fS OB.length zs) t with
 |some y=>
  have happ:∀(l r:Sg) (y:AV),look l t=some y->look (l++r) t=some y:=by
   intro l r
   induction l with
   |nil=>intro y h;simp[look]at h
   |cons p l ih=>
    intro y h;obtain⟨k,v⟩:=p;simp only[lE,look]at h⊢;split
    ·rename_i hb;rw[hb]at h;exact h
    ·rename_i hb;rw[hb]at h;exact ih y h
  rw[happ _ _ y hl]at hx;exact hx
 |none=>
  have happ:∀(l r:Sg),look l t=none->look (l++r) t=look r t:=by
   intro l r
   induction l with
   |nil=>intro _;rfl
   |cons p l ih=>
    intro h;obtain⟨k,v⟩:=p;simp only[lE,look]at h⊢;split
    ·rename_i hb;rw[hb]at h;cases h
    ·rename_i hb;rw[hb]at h;exact ih h
  rw[happ _ _ hl]at hx;exact(kg hx).2
theorem cy.skip (hp:aG E N all pend Z O) (hnd:e9 ((dB (cd all.toArray i A)).map (·.1))=true) (hd:ck N o.dst=true) (hw:cC all o (eJ (dB (cd all.toArray i A)) Z O).1=some false)
  (k:cy E N K all Q l (cv all.toArray i A) (cG all i pend) (bW (eJ (dB (cd all.toArray i A)) Z O).1 o.dst (.d (.v undef))) (eJ (dB (cd all.toArray i A)) Z O).2):cy E N K all Q ((i,o,.one)::l) A pend Z O:=λL s OB pb hs hh hpi=>
 ⟨hp.ok hs hh hpi,vg λzs hz=>by
  obtain⟨L1,hl1,hs1,hh1⟩:=cy.T0 hs hh hnd hz;exact⟨hd,.inr ⟨kf hs1 hw,cy.up hl1 (k L1 _ _ _ (hs1.ba o.dst rfl) hh1 ((hpi.mono hl1).keep i))⟩⟩⟩
theorem cy.oG {R:DR->Hp->Prop} (hp:aG E N all pend Z O) (hnd:e9 ((dB (cd all.toArray i A)).map (·.1))=true) (hd:ck N o.dst=true) {σ1:TS} {η1:Hp} (cz:eJ (dB (cd all.toArray i A)) Z O=(σ1,η1)) (hw:cC all o σ1=some true) (h:bM E N o σ1 η1 R)
  (k1:∀x O',R (.ret x) O'->cy E N K all Q l (cv all.toArray i A) (cG all i pend) (bW σ1 o.dst x) O')
  (k2:∀x O',R (.aO x) O'->Q (.aO x) .lf O'):cy E N K all Q ((i,o,.one)::l) A pend Z O:=λL s OB pb hs hh hpi=>by
 refine⟨hp.ok hs hh hpi,vg λzs hz=>?_⟩;obtain⟨L1,hl1,hs1,hh1⟩:=cy.T0 hs hh hnd hz;rw[cz]at hs1 hh1;refine⟨hd,.inl ⟨kf hs1 hw,_,h L1 _ _ hs1 hh1,?_,?_⟩⟩
 ·rintro y OB' ⟨L',d,O',hl,hi,hh',hR⟩;cases d with
  |ret x=>
   obtain⟨y',e,hi⟩:=hi;cases e;exact cy.up (hl1.trans hl) (k1 x O' hR L' _ OB' _ ((hs1.mono hl).ba o.dst hi) hh' ((hpi.mono (hl1.trans hl)).keep i))
  |aO x=>obtain⟨y',e,_⟩:=hi;cases e
 ·rintro y OB' ⟨L',d,O',hl,hi,hh',hR⟩;cases d with
  |ret x=>obtain⟨y',e,_⟩:=hi;cases e
  |aO x=>
   obtain⟨y',e,hi⟩:=hi;cases e;exact⟨L',.aO x,.lf,O',(hl1.trans hl).toK K,⟨y,rfl,hi⟩,Fg _,hh',k2 x O' hR⟩
theorem cy.pair {j:Nat} {o':Oper} {x:TK} {η1 η2 η3:Hp} (hp:aG E N all pend Z O) (hd:o.dst=none) (hd':o'.dst=none) (hw:cC all o Z=some true) (hw':cC all o' Z=some true)
  (h1:bM E N o Z O (λr O'=>r= .ret (.d (.v undef))/\O'=η1)) (p1:aG E N all (cG all i pend) Z η1) (h2:bM E N o' Z η1 (λr O'=>r= .ret (.d (.v undef))/\O'=η3))
  (h3:bM E N o' Z O (λr O'=>r= .ret (.d (.v undef))/\O'=η2)) (p2:aG E N all (cG all j pend) Z η2) (h4:bM E N o Z η2 (λr O'=>r= .ret (.d (.v undef))/\O'=η3))
  (k:cy E N K all Q l A (cG all j (cG all i pend)) Z η3):cy E N K all Q ((i,o,.two)::(j,o',x)::l) A pend Z O:=λL s OB pb hs hh hpi=>by
 have go:∀{oa ob:Oper} {ia:Nat} {Oa:Hp},oa.dst=none->ob.dst=none->cC all oa Z=some true->cC all ob Z=some true->bM E N oa Z O (λr O'=>r= .ret (.d (.v undef))/\O'=Oa)->aG E N all (cG all ia pend) Z Oa->
   bM E N ob Z Oa (λr O'=>r= .ret (.d (.v undef))/\O'=η3)->
   fU E.toCx N all.toArray oa s OB (λs1 η1=>kY E.toCx N all.toArray (cO all.toArray ia pb) s1 η1/\fU E.toCx N all.toArray ob s1 η1 (jg E.toCx N all.toArray (xA K L Q) (rW K L Q) l A (cO all.toArray j (cO all.toArray i pb))) (rW K L Q)) (rW K L Q):=by
  intro oa ob ia Oa da db wa wb ha pa hb;refine⟨by rw[da];rfl,.inl ⟨kf hs wa,_,ha L s OB hs hh,?_,?_⟩⟩
  ·rintro y OB' ⟨L',d,O',hl,hi,hh',rfl,rfl⟩;rw[da];refine⟨pa.ok (hs.mono hl) hh' ((hpi.mono hl).keep ia),by rw[db];rfl,.inl ⟨kf hs wb,_,hb L' s OB' (hs.mono hl) hh',?_,?_⟩⟩
   ·rintro y' OB2 ⟨L2,d2,O2',hl2,hi2,hh2,rfl,rfl⟩;rw[db];exact cy.up (hl.trans hl2) (k L2 s OB2 _ (hs.mono (hl.trans hl2)) hh2 (((hpi.mono (hl.trans hl2)).keep i).keep j))
   ·rintro y' OB2 ⟨L2,d2,O2',hl2,hi2,hh2,rfl,rfl⟩;obtain⟨_,e,_⟩:=hi2;cases e
  ·rintro y OB' ⟨L',d,O',hl,hi,hh',rfl,rfl⟩;obtain⟨_,e,_⟩:=hi;cases e
 exact⟨hp.ok hs hh hpi,go hd hd' hw hw' h1 p1 h2,go hd' hd hw' hw h3 p2 h4⟩
theorem cy.guard {d:Nat} {b:Bool} (hb:Z.get d=some (.d (.v (.bool b)))) (h1:b=true->cy E N K all Q l A pend (Tr.put 24 Z d (some (.d (.v (.bool true))))) O)
  (h2:b=false->cy E N K all Q l A pend (Tr.put 24 Z d (some (.d (.v (.bool false))))) O):cy E N K all Q l A pend Z O:=λL s OB pb hs hh hpi=>by
 have key:SS L (Tr.put 24 Z d (some (.d (.v (.bool b))))) s:=λt z hz=>by
  rcases Tr.ep 24 Z d t _ z hz with⟨rfl,h3⟩|⟨_,h3⟩
  ·cases h3;exact hs _ _ hb
  ·exact hs t z h3
 cases b with
 |true=>exact h1 rfl L s OB pb key hh hpi
 |false=>exact h2 rfl L s OB pb key hh hpi
end
theorem ec.nil {A:bR} {tl:List (Nat×Oper×TK)} {W:List (Nat×List CV)} (hnd:e9 (W.map (·.1))=true) (k:cy E N K all Q tl A [] (v8 A (eJ W Z O).1) (eJ W Z O).2):ec E N K all tl A Q O [] Z W:=λL s OB WB hs hh hn=>by
 refine⟨dA s Z.keys,λt x hx=>(kg hx).2,?_⟩;have hs':SS L Z (look (dA s Z.keys)):=λt x hx=>by
  obtain⟨y,h1,h2⟩:=hs t x hx;exact⟨y,by rw[r7 (Tr.mem_keys hx)];exact h1,h2⟩
 refine vg λzs hz=>?_;obtain⟨L',h1,h2,h3⟩:=Dh (zs:=zs) hs' hh (by rw[hz];exact hn) hnd;refine cy.up h1 (k L' _ _ [] (λt x hx=>?_) h3 rfl);obtain⟨g1,g2⟩:=Kr hx;obtain⟨y,g3,g4⟩:=h2 t x g2;refine⟨y,?_,g4⟩;unfold rI;have:(A.map (·.2.1)).contains t=false:=by
  cases hc:(A.map (·.2.1)).contains t with
  |false=>rfl
  |true=>exact absurd (JD.1 hc) g1
 rw[this];exact g3
theorem DC.open {id:Nat} {l:List Oper} (pre:List Nat) (tl:List (Nat×TK)) (al:List Nat) (A:bR) (hm:E.P.follows .mixedOrders=true) (hA:ny E.T l.toArray N al=some A) (hB:pG l.toArray pre tl al=true) (hl:Nat.beq (fQ l.toArray pre).length pre.length=true) (h:ec E N K l (jC l.toArray tl) A Q O (fQ l.toArray pre) Z []):
  DC E N K (.region id l.toArray true) Q Z O:=λL ZB OB hs hh=>
 bK.Yg pre tl al A hm hA hB (bE hl) (CY (λ_ ⟨σ',h1,h2⟩=>⟨σ',h1,h2⟩) (h L _ OB [] hs hh rfl))
end
def jP (E:Env) (fs:List (Nat×List AV×AV)):Prop:=∀f∈fs,Pure E.toCx f.1 f.2.1 (.ret f.2.2)
inductive It where
 |code (c:Code)
 |oI (id:Nat)
 |ops (all rest:List Oper)
 |lex (all:List Oper) (tl:List (Nat×Oper×TK)) (A:bR) (pre:List Oper) (W:List (Nat×List CV))
 |tl (all:List Oper) (l:List (Nat×Oper×TK)) (A:bR) (pend:List (Nat×Oper×CV)) (fs:List (Nat×List AV×AV))
 |lp (next:TS->Hp->Prop)
 |nI (m:Nat) (c:Code)
 |fr (N K:Nat) (Z:TS) (dst:Option Nat) (rs:List ResultVar)
 |ct (N K:Nat) (Z:TS) (dst:Option Nat) (rs:List ResultVar) (ty:TypeId) (z:AV)
def mY:AV->Bool
 | .agg [.v (.int _ _),.v (.int _ _)]=>true
 |_=>false
def dq (E:Env):Nat->Nat->List It->DQ->DQ
 |_,_,[],Q=>Q
 |N,K,.code c::k,Q=>λe Z O=>match e with
  | .norm=>DC E N K c (dq E N K k Q) Z O
  | .exit i=>dq E N K k Q (.exit i) Z O
  | .ret=>dq E N K k Q .ret Z O
  | .aO x=>dq E N K k Q (.aO x) Z O
 |N,K,.oI id::k,Q=>λe Z O=>match e with
  | .norm=>dq E N K k Q .norm Z O
  | .exit i=>match Nat.beq i id with
   |true=>dq E N K k Q .norm Z O
   |false=>dq E N K k Q (.exit i) Z O
  | .ret=>dq E N K k Q .ret Z O
  | .aO x=>dq E N K k Q (.aO x) Z O
 |N,K,.ops all rest::k,Q=>λe Z O=>match e with
  | .norm=>DO E N K all rest (dq E N K k Q) Z O
  | .exit i=>dq E N K k Q (.exit i) Z O
  | .ret=>dq E N K k Q .ret Z O
  | .aO x=>dq E N K k Q (.aO x) Z O
 |N,K,.lex all tl A pre W::k,Q=>λe Z O=>match e with
  | .norm=>ec E N K all tl A (dq E N K k Q) O pre Z W
  | .exit i=>dq E N K k Q (.exit i) Z O
  | .ret=>dq E N K k Q .ret Z O
  | .aO x=>dq E N K k Q (.aO x) Z O
 |N,K,.tl all l A pend fs::k,Q=>λe Z O=>match e with
  | .norm=>jP E fs->cy E N K all (dq E N K k Q) l A pend Z O
  | .exit i=>dq E N K k Q (.exit i) Z O
  | .ret=>dq E N K k Q .ret Z O
  | .aO x=>dq E N K k Q (.aO x) Z O
 |N,K,.lp next::k,Q=>λe Z O=>match e with
  | .norm=>next Z O
  | .exit i=>dq E N K k Q (.exit i) Z O
  | .ret=>dq E N K k Q .ret Z O
  | .aO x=>dq E N K k Q (.aO x) Z O
 |N,K,.nI m c::k,Q=>λe Z O=>match e with
  | .norm=>pt E N K c (dq E N K k Q) m Z O
  | .exit i=>dq E N K k Q (.exit i) Z O
  | .ret=>dq E N K k Q .ret Z O
  | .aO x=>dq E N K k Q (.aO x) Z O
 |_,_,.fr N' K' σ' dst rs::k,Q=>λe Z O=>match e with
  | .norm=>∃xs,dT E.T Z O rs=some xs/\dq E N' K' k Q .norm (bW σ' dst (eI xs)) O
  | .ret=>∃xs,dT E.T Z O rs=some xs/\dq E N' K' k Q .norm (bW σ' dst (eI xs)) O
  | .exit _=>False
  | .aO x=>dq E N' K' k Q (.aO x) .lf O
 |_,_,.ct N' K' σ' dst rs ty z::k,Q=>λe Z O=>match e with
  | .norm=>∃xs,dT E.T Z O rs=some xs/\dq E N' K' k Q .norm (bW σ' dst (.d z)) O
  | .ret=>∃xs,dT E.T Z O rs=some xs/\dq E N' K' k Q .norm (bW σ' dst (.d z)) O
  | .exit _=>False
  | .aO x=>∃y,(x= .bB ty (.d y)\/x= .d (.bB ty y))/\mY y=true/\dq E N' K' k Q .norm (bW σ' dst (.d y)) O
def ak (E:Env) (N K:Nat) (todo:List It) (Q:DQ) (Z:TS) (O:Hp):Prop:=dq E N K todo Q .norm Z O
section
variable {E:Env} {N K:Nat} {Q:DQ} {Z:TS} {O:Hp} {k:List It}
theorem M8 (b:Code):DE.then (DC E N K b (dq E N K k Q)) (dq E N K k Q)=dq E N K (.code b::k) Q:=by funext e Z O;cases e<;>rfl
theorem Y6 (i:Nat):DE.inBlock i (dq E N K k Q)=dq E N K (.oI i::k) Q:=by funext e Z O;cases e<;>rfl
theorem aae (next:TS->Hp->Prop):DE.then next (dq E N K k Q)=dq E N K (.lp next::k) Q:=by funext e Z O;cases e<;>rfl
theorem O3 (m:Nat) (c:Code):DE.then (pt E N K c (dq E N K k Q) m) (dq E N K k Q)=dq E N K (.nI m c::k) Q:=by funext e Z O;cases e<;>rfl
def ku (id:Nat):List It->Option (List It)
 |[]=>none
 | .oI i::k=>match Nat.beq id i with
  |true=>some k
  |false=>ku id k
 | .code _::k=>ku id k
 | .ops _ _::k=>ku id k
 | .lex _ _ _ _ _::k=>ku id k
 | .tl _ _ _ _ _::k=>ku id k
 | .lp _::k=>ku id k
 | .nI _ _::k=>ku id k
 | .fr _ _ _ _ _::_=>none
 | .ct _ _ _ _ _ _ _::_=>none
theorem pr {id:Nat}:∀{k k':List It},ku id k=some k'->dq E N K k Q (.exit id)=dq E N K k' Q .norm
 |[],_,h=>by simp[ku]at h
 | .code _::k,k',h=>by funext Z O;simp only[dq];rw[pr (k:=k) h]
 | .ops _ _::k,k',h=>by funext Z O;simp only[dq];rw[pr (k:=k) h]
 | .lex _ _ _ _ _::k,k',h=>by funext Z O;simp only[dq];rw[pr (k:=k) h]
 | .tl _ _ _ _ _::k,k',h=>by funext Z O;simp only[dq];rw[pr (k:=k) h]
 | .lp _::k,k',h=>by funext Z O;simp only[dq];rw[pr (k:=k) h]
 | .nI _ _::k,k',h=>by funext Z O;simp only[dq];rw[pr (k:=k) h]
 | .fr _ _ _ _ _::_,_,h=>by simp[ku]at h
 | .ct _ _ _ _ _ _ _::_,_,h=>by simp[ku]at h
 | .oI i::k,k',h=>by
  funext Z O;simp only[ku]at h;simp only[dq];cases hb:Nat.beq id i with
  |true=>rw[hb]at h;simp only[aE]at h;subst h;rfl
  |false=>rw[hb]at h;simp only;rw[pr (k:=k) h]
def nf:List It->List It
 |[]=>[]
 | .fr N K Z dst rs::k=> .fr N K Z dst rs::k
 | .ct N K Z dst rs ty z::k=> .ct N K Z dst rs ty z::k
 |_::k=>nf k
theorem mZ:∀(k:List It),dq E N K k Q .ret=dq E N K (nf k) Q .ret
 |[]=>rfl
 | .code _::k=>by funext Z O;simp only[dq,nf];rw[mZ k]
 | .oI _::k=>by funext Z O;simp only[dq,nf];rw[mZ k]
 | .ops _ _::k=>by funext Z O;simp only[dq,nf];rw[mZ k]
 | .lex _ _ _ _ _::k=>by funext Z O;simp only[dq,nf];rw[mZ k]
 | .tl _ _ _ _ _::k=>by funext Z O;simp only[dq,nf];rw[mZ k]
 | .lp _::k=>by funext Z O;simp only[dq,nf];rw[mZ k]
 | .nI _ _::k=>by funext Z O;simp only[dq,nf];rw[mZ k]
 | .fr _ _ _ _ _::_=>rfl
 | .ct _ _ _ _ _ _ _::_=>rfl
def jF:List It->Option (Nat×Nat×TS×Option Nat×TypeId×List It)
 |[]=>none
 | .ct N K Z dst _ ty _::k=>some (N,K,Z,dst,ty,k)
 |_::k=>jF k
theorem l3 {x:CV}:∀(k:List It) (N K:Nat) (Z:TS),jF k=none->(Q (.aO x) .lf O->dq E N K k Q (.aO x) .lf O)
 |[],_,_,_,_,h=>h
 | .code _::k,N,K,Z,hp,h=>l3 k N K Z hp h
 | .oI _::k,N,K,Z,hp,h=>l3 k N K Z hp h
 | .ops _ _::k,N,K,Z,hp,h=>l3 k N K Z hp h
 | .lex _ _ _ _ _::k,N,K,Z,hp,h=>l3 k N K Z hp h
 | .tl _ _ _ _ _::k,N,K,Z,hp,h=>l3 k N K Z hp h
 | .lp _::k,N,K,Z,hp,h=>l3 k N K Z hp h
 | .nI _ _::k,N,K,Z,hp,h=>l3 k N K Z hp h
 | .fr N' K' _ _ _::k,_,_,Z,hp,h=>l3 k N' K' Z hp h
 | .ct _ _ _ _ _ _ _::_,_,_,_,hp,_=>by simp[jF]at hp
theorem mS {x:CV} {y:AV} {N' K' ty:Nat} {σ':TS} {dst:Option Nat} {k':List It} (hx:x= .bB ty (.d y)\/x= .d (.bB ty y)) (hy:mY y=true):∀(k:List It) (N K:Nat),jF k=some (N',K',σ',dst,ty,k')->(dq E N' K' k' Q .norm (bW σ' dst (.d y)) O->dq E N K k Q (.aO x) .lf O)
 |[],_,_,hp,_=>by simp[jF]at hp
 | .code _::k,N,K,hp,h=>mS hx hy k N K hp h
 | .oI _::k,N,K,hp,h=>mS hx hy k N K hp h
 | .ops _ _::k,N,K,hp,h=>mS hx hy k N K hp h
 | .lex _ _ _ _ _::k,N,K,hp,h=>mS hx hy k N K hp h
 | .tl _ _ _ _ _::k,N,K,hp,h=>mS hx hy k N K hp h
 | .lp _::k,N,K,hp,h=>mS hx hy k N K hp h
 | .nI _ _::k,N,K,hp,h=>mS hx hy k N K hp h
 | .fr N1 K1 _ _ _::k,_,_,hp,h=>mS hx hy k N1 K1 hp h
 | .ct N1 K1 σ1 dst1 rs1 ty1 z1::k,_,_,hp,h=>by
  simp only[jF,aE,cu]at hp;obtain⟨rfl,rfl,rfl,rfl,rfl,rfl⟩:=hp;exact⟨y,hx,hy,h⟩
def rC (E:Env) (f:FuncId) (ty:TypeId) (z:AV):Prop:=∀(g:FuncId) (fs cs:List AV) (O:List aq) (Q:AR->List aq->Prop),iX E.toCx g (fs++cs) O Q->(∀x O',Q (.aO x) O'->∃y,x= .bB ty y/\mY y=true)->
 iX E.toCx f [.fn g fs cs] O (λr O'=>(∃x,Q (.ret x) O'/\r= .ret z)\/∃x,Q (.aO (.bB ty x)) O'/\r= .ret x)
theorem Ka {L:aH} {x:CV} {y:AV} {ty:Nat} {y0:AV} (hx:x= .bB ty (.d y0)\/x= .d (.bB ty y0)) (hi:aI L x y):y= .bB ty y0:=by
 rcases hx with rfl|rfl
 ·simp only[aI]at hi;obtain⟨u,rfl,rfl⟩:=hi;rfl
 ·simp only[aI]at hi;exact hi
theorem eh.ct {f g:FuncId} {ty:TypeId} {z:AV} (hct:rC E f ty z) {fs cs:List CV} {Q':DR->Hp->Prop} (h:eh E g (fs++cs) O Q') (hp:∀x O',Q' (.aO x) O'->∃y,(x= .bB ty (.d y)\/x= .d (.bB ty y))/\mY y=true):
  eh E f [.fn g fs cs] O (λr O'=>(∃x,Q' (.ret x) O'/\r= .ret (.d z))\/∃x y,Q' (.aO x) O'/\(x= .bB ty (.d y)\/x= .d (.bB ty y))/\mY y=true/\r= .ret (.d y)):=λL ys OB hi hh=>by
 simp only[aS,aI]at hi;obtain⟨y,r,rfl,⟨us,vs,rfl,h1,h2⟩,rfl⟩:=hi;refine(hct g us vs OB _ (h L (us++vs) OB (h1.append h2) hh) ?_).mono ?_
 ·rintro x OB' ⟨L',d,η1,g1,g2,g3,g4⟩;cases d with
  |ret x'=>obtain⟨y',e,_⟩:=g2;cases e
  |aO x'=>
   obtain⟨y',e,g2⟩:=g2;cases e;obtain⟨y0,q1,q2⟩:=hp _ _ g4;exact⟨y0,Ka q1 g2,q2⟩
 ·rintro r OB' (⟨x,⟨L',d,η1,g1,g2,g3,g4⟩,rfl⟩|⟨x,⟨L',d,η1,g1,g2,g3,g4⟩,rfl⟩)
  ·cases d with
   |ret x'=>exact⟨L',.ret (.d z),η1,g1,⟨z,rfl,rfl⟩,g3,.inl ⟨x',g4,rfl⟩⟩
   |aO x'=>obtain⟨y',e,_⟩:=g2;cases e
  ·cases d with
   |ret x'=>obtain⟨y',e,_⟩:=g2;cases e
   |aO x'=>
    obtain⟨y',e,g2⟩:=g2;cases e;obtain⟨y0,q1,q2⟩:=hp _ _ g4;have:=Ka q1 g2;cases this;exact⟨L',.ret (.d x),η1,g1,⟨x,rfl,rfl⟩,g3,.inr ⟨x',x,g4,q1,q2,rfl⟩⟩
def BW:CV->Option (FuncId×List CV×List CV)
 | .fn g fs cs=>some (g,fs,cs)
 | .d (.fn g fs cs)=>some (g,fs.map .d,cs.map .d)
 |_=>none
theorem Xe {L:aH} {x:CV} {g:FuncId} {fs cs:List CV} (h:BW x=some (g,fs,cs)) {y:AV} (hi:aI L x y):aI L (.fn g fs cs) y:=by
 unfold BW at h;split at h
 ·simp only[aE,cu]at h;obtain⟨rfl,rfl,rfl⟩:=h;exact hi
 ·simp only[aE,cu]at h;obtain⟨rfl,rfl,rfl⟩:=h;simp only[aI]at hi⊢;subst hi;exact⟨_,_,rfl,gA _,gA _⟩
 ·cases h
theorem ak.one {c:Code} (h:ak E N K [.code c] Q Z O):DC E N K c Q Z O:=h
theorem ak.loop {c:Code} (ts:List Nat) (m:Nat) (I:Nat->List (Nat×CV)->List bm->Prop) (n:Nat) (hK:K<=m) {l:List (Nat×CV)} {es:List bm} (hm:m<=O.n) (hp:eL m ts Z=some l) (he:kv m O=some es) (h0:I n l es)
  (round:∀n l es,I n l es->ak E N K (.code c:: .lp (λσ1 η1=>∃n',n'<n/\∃l' es',m<=η1.n/\eL m ts σ1=some l'/\kv m η1=some es'/\I n' l' es')::k) Q (p8 l) (gF es)):ak E N K (.code (.loop c)::k) Q Z O:=
 DC.loop ts m I n hK hm hp he h0 λn l es hI=>by
  have:=round n l es hI;unfold ak at this;simp only[dq]at this;rw[aae];exact this
theorem ak.lp {next:TS->Hp->Prop} (h:next Z O):ak E N K (.lp next::k) Q Z O:=h
theorem ak.inl {dst:Option Nat} {f:Operand} {args:List Operand} {g:FuncId} {cs:List CV} {tys:Array TypeId} {ty:TypeId} {pos:String} {after:Array Edge} {fn:Func} {c:Code} {rs:List ResultVar} {nt:Nat} {all rest:List Oper}
  (hc:cT Z f args=some (g,cs)) (hf:E.P.funcs[g]? =some fn) (hb:fn.body=some c) (hname:(fn.name== "runtime.NumGoroutine")=false) (hrs:fn.results=rs.toArray) (hnt:fn.ntmps=nt) (hn:Nat.ble cs.length nt=true) (hd:ck N dst=true)
  (h:ak E nt O.n (.code c:: .fr N K Z dst rs:: .ops all rest::k) Q (gH 0 cs) O):ak E N K (.ops all (⟨dst,.call {callee:= .value f,args:=args.toArray,argTypes:=tys},ty,pos,after,none⟩::rest)::k) Q Z O:=by
 show DO E N K all _ (dq E N K k Q) Z O;refine DO.call (Q':=λr O'=>match r with
  | .ret x=>DO E N K all rest (dq E N K k Q) (bW Z dst x) O'
  | .aO x=>dq E N K k Q (.aO x) .lf O') ?_ hc hd (λ_ _ h=>h) (λ_ _ h=>h)
 refine eh.enter hf hb hname rs hrs nt hnt hn (DC.mono h ?_);intro e σ1 η1 h1;cases e with
 |norm=>exact h1
 |ret=>exact h1
 |exit i=>exact h1
 |aO x=>exact h1
theorem ak.ct {dst:Option Nat} {f:Operand} {args:List Operand} {f0 g:FuncId} {x:CV} {fs cs:List CV} {ty':TypeId} {z:AV} {tys:Array TypeId} {ty:TypeId} {pos:String} {after:Array Edge} {fn:Func} {c:Code} {rs:List ResultVar} {nt:Nat} {all rest:List Oper}
  (hct:rC E f0 ty' z) (hc:cT Z f args=some (f0,[x])) (hx:BW x=some (g,fs,cs)) (hf:E.P.funcs[g]? =some fn) (hb:fn.body=some c) (hname:(fn.name== "runtime.NumGoroutine")=false) (hrs:fn.results=rs.toArray) (hnt:fn.ntmps=nt) (hn:Nat.ble (fs++cs).length nt=true) (hd:ck N dst=true)
  (h:ak E nt O.n (.code c:: .ct N K Z dst rs ty' z:: .ops all rest::k) Q (gH 0 (fs++cs)) O):ak E N K (.ops all (⟨dst,.call {callee:= .value f,args:=args.toArray,argTypes:=tys},ty,pos,after,none⟩::rest)::k) Q Z O:=by
 show DO E N K all _ (dq E N K k Q) Z O;have key:eh E g (fs++cs) O (λr O'=>match r with
  | .ret _=>DO E N K all rest (dq E N K k Q) (bW Z dst (.d z)) O'
  | .aO x=>∃y,(x= .bB ty' (.d y)\/x= .d (.bB ty' y))/\mY y=true/\DO E N K all rest (dq E N K k Q) (bW Z dst (.d y)) O'):=by
  refine eh.enter hf hb hname rs hrs nt hnt hn (DC.mono h ?_);intro e σ1 η1 h1;cases e with
  |norm=>exact h1
  |ret=>exact h1
  |exit i=>exact h1
  |aO x=>exact h1
 have key2:eh E f0 [x] O (λr O'=>match r with
  | .ret y=>DO E N K all rest (dq E N K k Q) (bW Z dst y) O'
  | .aO _=>False):=λL ys OB hi hh=>by
  have hi':aS L [.fn g fs cs] ys:=by
   simp only[aS]at hi;obtain⟨y,r,rfl,h1,rfl⟩:=hi;have:=Xe hx h1;simp only[aS];exact⟨y,[],rfl,this,rfl⟩
  refine(eh.ct hct key (λx O' hx=>?_) L ys OB hi' hh).mono ?_
  ·obtain⟨y,h1,h2,_⟩:=hx;exact⟨y,h1,h2⟩
  ·rintro r OB' ⟨L',d,η1,g1,g2,g3,(⟨x,g4,rfl⟩|⟨x,y,⟨y',q1,q2,q3⟩,q4,q5,rfl⟩)⟩
   ·exact⟨L',_,η1,g1,g2,g3,g4⟩
   ·refine⟨L',_,η1,g1,g2,g3,?_⟩;have:y=y':=by
     rcases q1 with rfl|rfl<;>rcases q4 with e|e<;>cases e<;>rfl
    subst this;exact q3
 exact DO.call key2 hc hd (λ_ _ h=>h) (λ_ _ h=>h.elim)
theorem ak.fH {o:Oper} {i:Nat} {f:Operand} {args:List Operand} {g:FuncId} {cs:List CV} {tys:Array TypeId} {fn:Func} {c:Code} {rs:List ResultVar} {nt:Nat} {all:List Oper} {l:List (Nat×Oper×TK)} {A:bR} {pend:List (Nat×Oper×CV)} {fs:List (Nat×List AV×AV)} {σ1:TS} {η1:Hp} (ho:o.op= .call {callee:= .value f,args:=args.toArray,argTypes:=tys})
  (hp:jP E fs->aG E N all pend Z O) (hnd':e9 ((dB (cd all.toArray i A)).map (·.1))=true) (cz:eJ (dB (cd all.toArray i A)) Z O=(σ1,η1)) (hw:cC all o σ1=some true) (hc:cT σ1 f args=some (g,cs)) (hf:E.P.funcs[g]? =some fn) (hb:fn.body=some c) (hname:(fn.name== "runtime.NumGoroutine")=false) (hrs:fn.results=rs.toArray) (hnt:fn.ntmps=nt) (hn:Nat.ble cs.length nt=true) (hd:ck N o.dst=true)
  (h:ak E nt η1.n (.code c:: .fr N K σ1 o.dst rs:: .tl all l (cv all.toArray i A) (cG all i pend) fs::k) Q (gH 0 cs) η1):ak E N K (.tl all ((i,o,.one)::l) A pend fs::k) Q Z O:=by
 show jP E fs->cy E N K all (dq E N K k Q) _ A pend Z O;intro hfs;refine cy.oG (R:=λr O'=>match r with
  | .ret x=>jP E fs->cy E N K all (dq E N K k Q) l (cv all.toArray i A) (cG all i pend) (bW σ1 o.dst x) O'
  | .aO x=>dq E N K k Q (.aO x) .lf O') (hp hfs) hnd' hd cz hw (bM.call ho ?_ hc) (λ_ _ h=>h hfs) (λ_ _ h=>h)
 refine eh.enter hf hb hname rs hrs nt hnt hn (DC.mono h ?_);intro e σ1 η1 h1;cases e with
 |norm=>exact h1
 |ret=>exact h1
 |exit i=>exact h1
 |aO x=>exact h1
