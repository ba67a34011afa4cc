/- Functions with fuel, and what they come to: limits, and their equations. -/
import Derived.Test.YtnocmolegijmkaaGreatKE2
set_option linter.all false
section
noncomputable section
namespace Go.Bw
open Go
def Le {D:Type} (a b:Option D):Prop:=∀r,a=some r->b=some r
section
variable {D β:Type}
theorem Le.refl (a:Option D):Le a a:=λ_ h=>h
theorem Le.trans {a b c:Option D} (h:Le a b) (g:Le b c):Le a c:=λr hr=>g r (h r hr)
theorem Le.zero {a b:Option D} (h:a=none):Le a b:=λr hr=>by rw[h]at hr;cases hr
theorem Le.bind {a a':Option D} {f f':D->Option β} (h:Le a a') (g:∀y,Le (f y) (f' y)):Le (a.bind f) (a'.bind f'):=λr hr=>by
 obtain⟨y,h1,h2⟩:=cE hr;rw[h y h1];exact g y r h2
theorem Le.aU {a a':Option (bG D)} {f f':D->Option (bG β)} (h:Le a a') (g:∀y,Le (f y) (f' y)):Le (aU a f) (aU a' f'):=λr hr=>by
 rcases tQ hr with⟨z,h1,rfl⟩|⟨y,h1,h2⟩
 ·rw[h _ h1];rfl
 ·rw[h _ h1];exact g y r h2
theorem Le.iY {ty:Nat} {a a':Option (bG D)} {g g':Int->Int->Option β} {f f':D->Option β} (h:Le a a') (hg:∀x y,Le (g x y) (g' x y)) (hf:∀y,Le (f y) (f' y)):Le (iY ty a g f) (iY ty a' g' f'):=λr hr=>by
 cases a with
 |none=>cases hr
 |some x=>
  rw[h _ rfl];cases x with
  |ret x=>exact hf x r hr
  |aT z=>
   obtain⟨p,h1,h2⟩:=cE hr;show(rU ty z).bind _=some r;rw[h1];exact hg _ _ r h2
noncomputable def lim (f:Nat->Option D):Option D:=open Classical in if h:∃n r,f n=some r then f (Classical.choose h)else none
def Up (f:Nat->Option D):Prop:=∀n,Le (f n) (f (n+1))
theorem Up.le {f : Nat → Option D} (h : Up f) {n : Nat} : ∀ m, n ≤ m → Le (f n) (f m)
  | 0, hm => by have : n = 0 := by omega
                subst this; exact Le.refl _
  | m + 1, hm => by
    rcases Nat.eq_or_lt_of_le hm with rfl | h1
    · exact Le.refl _
    · exact (h.le m (by omega)).trans (h m)
theorem UE {f:Nat->Option D} {r:D} (h:lim f=some r):∃n,f n=some r:=by
 unfold lim at h;split at h
 ·rename_i h0;exact⟨_,h⟩
 ·cases h
theorem UF {f:Nat->Option D} (hu:Up f) {n:Nat} {r:D} (h:f n=some r):lim f=some r:=by
 have h0:∃n r,f n=some r:=⟨n,r,h⟩;unfold lim;rw[dif_pos h0];obtain⟨r',hr'⟩:=Classical.choose_spec h0;have h1:=hu.le (max n (Classical.choose h0)) (DA ..) r h;have h2:=hu.le (max n (Classical.choose h0)) (DB ..) r' hr';rw[h1]at h2;cases h2;exact hr'
theorem af2 {f:Nat->Option D} (hu:Up f) {v:Option D} (h:∀r,v=some r↔∃n,f n=some r):lim f=v:=by
 cases v with
 |none=>
  cases hl:lim f with
  |none=>rfl
  |some r=>have:=(h r).2 (UE hl);cases this
 |some r=>obtain⟨n,hn⟩:=(h r).1 rfl;exact UF hu hn
def Lm (f:Nat->Option D) (v:Option D):Prop:=Up f/\∀r,v=some r↔∃n,f n=some r
theorem Lm.lim {f:Nat->Option D} {v:Option D} (h:Lm f v):Bw.lim f=v:=af2 h.1 h.2
theorem Lm.of {f:Nat->Option D} (h:Up f):Lm f (Bw.lim f):=⟨h,λ_=>⟨UE,λ⟨_,hn⟩=>UF h hn⟩⟩
theorem Lm.const (o:Option D):Lm (λ_=>o) o:=⟨λ_=>Le.refl _,λ_=>⟨λh=>⟨0,h⟩,λ⟨_,h⟩=>h⟩⟩
theorem Lm.bif {c:Bool} {f g:Nat->Option D} {v w:Option D} (h:Lm f v) (k:Lm g w):Lm (λn=>bif c then f n else g n) (bif c then v else w):=by cases c<;>assumption
theorem Lm.bind {f:Nat->Option D} {g:Nat->D->Option β} {v:Option D} {w:D->Option β} (h:Lm f v) (k:∀y,Lm (λn=>g n y) (w y)):Lm (λn=>(f n).bind (g n)) (v.bind w):=by
 refine⟨λn=>Le.bind (h.1 n) λy=>(k y).1 n,λr=>⟨λhr=>?_,?_⟩⟩
 ·obtain⟨y,h1,h2⟩:=cE hr;obtain⟨n,hn⟩:=(h.2 y).1 h1;obtain⟨m,hm⟩:=((k y).2 r).1 h2;refine⟨max n m,?_⟩;show(f (max n m)).bind (g (max n m))=_;rw[h.1.le _ (DA ..) y hn];exact(k y).1.le _ (DB ..) r hm
 ·rintro ⟨n,hn⟩;obtain⟨y,h1,h2⟩:=cE hn;rw[(h.2 y).2 ⟨n,h1⟩];exact((k y).2 r).2 ⟨n,h2⟩
theorem Lm.aU {f:Nat->Option (bG D)} {g:Nat->D->Option (bG β)} {v:Option (bG D)} {w:D->Option (bG β)} (h:Lm f v) (k:∀y,Lm (λn=>g n y) (w y)):Lm (λn=>aU (f n) (g n)) (Bw.aU v w):=by
 refine⟨λn=>Le.aU (h.1 n) λy=>(k y).1 n,λr=>⟨λhr=>?_,?_⟩⟩
 ·rcases tQ hr with⟨z,h1,rfl⟩|⟨y,h1,h2⟩
  ·obtain⟨n,hn⟩:=(h.2 _).1 h1;exact⟨n,by show Bw.aU (f n) _=_;rw[hn];rfl⟩
  ·obtain⟨n,hn⟩:=(h.2 _).1 h1;obtain⟨m,hm⟩:=((k y).2 r).1 h2;refine⟨max n m,?_⟩;show Bw.aU (f (max n m)) (g (max n m))=_;rw[h.1.le _ (DA ..) _ hn];exact(k y).1.le _ (DB ..) r hm
 ·rintro ⟨n,hn⟩;rcases tQ hn with⟨z,h1,rfl⟩|⟨y,h1,h2⟩
  ·rw[(h.2 _).2 ⟨n,h1⟩];rfl
  ·rw[(h.2 _).2 ⟨n,h1⟩];exact((k y).2 r).2 ⟨n,h2⟩
theorem Lm.iY {ty:Nat} {f:Nat->Option (bG D)} {g:Nat->Int->Int->Option β} {k:Nat->D->Option β} {v:Option (bG D)} {w:Int->Int->Option β} {z:D->Option β} (h:Lm f v) (hg:∀x y,Lm (λn=>g n x y) (w x y)) (hk:∀y,Lm (λn=>k n y) (z y)):Lm (λn=>iY ty (f n) (g n) (k n)) (Bw.iY ty v w z):=by
 refine⟨λn=>Le.iY (h.1 n) (λx y=>(hg x y).1 n) λy=>(hk y).1 n,λr=>⟨λhr=>?_,?_⟩⟩
 ·cases v with
  |none=>cases hr
  |some x=>
   obtain⟨n,hn⟩:=(h.2 _).1 rfl;cases x with
   |ret y=>
    obtain⟨m,hm⟩:=((hk y).2 r).1 hr;refine⟨max n m,?_⟩;show Bw.iY ty (f (max n m)) _ _=_;rw[h.1.le _ (DA ..) _ hn];exact(hk y).1.le _ (DB ..) r hm
   |aT q=>
    obtain⟨p,h1,h2⟩:=cE (f:=λp:Int×Int=>w p.1 p.2) hr;obtain⟨m,hm⟩:=((hg p.1 p.2).2 r).1 h2;refine⟨max n m,?_⟩;show Bw.iY ty (f (max n m)) _ _=_;rw[h.1.le _ (DA ..) _ hn];show(rU ty q).bind _=_;rw[h1];exact(hg p.1 p.2).1.le _ (DB ..) r hm
 ·rintro ⟨n,hn⟩;replace hn:Bw.iY ty (f n) (g n) (k n)=some r:=hn;cases hf:f n with
  |none=>rw[hf]at hn;cases hn
  |some x=>
   rw[hf]at hn;rw[(h.2 _).2 ⟨n,hf⟩];cases x with
   |ret y=>exact((hk y).2 r).2 ⟨n,hn⟩
   |aT q=>
    obtain⟨p,h1,h2⟩:=cE (f:=λp:Int×Int=>g n p.1 p.2) hn;show(rU ty q).bind _=_;rw[h1];exact((hg p.1 p.2).2 r).2 ⟨n,h2⟩
theorem Lm.uniq {f:Nat->Option D} {v w:Option D} (h:Lm f v) (g:Lm f w):v=w:=h.lim.symm.trans g.lim
end
end Go.Bw
end

section
noncomputable section
namespace Go.Bw
open Go
variable {D β γ:Type}
def ae (o:Option D) (P:D->Prop):Prop:=∃r,o=some r/\P r
theorem ae.ret {r:D} {P:D->Prop} (h:P r):ae (some r) P:=⟨r,rfl,h⟩
theorem ae.mono {o:Option D} {P Q:D->Prop} (h:ae o P) (g:∀r,P r->Q r):ae o Q:=by obtain⟨r,e,h⟩:=h;exact⟨r,e,g r h⟩
theorem ae.bif {c:Bool} {a b:Option D} {P:D->Prop} (h:c=true->ae a P) (g:c=false->ae b P):ae (bif c then a else b) P:=by cases c;exact g rfl;exact h rfl
theorem ae.bind {o:Option D} {f:D->Option β} {P:D->Prop} {Q:β->Prop} (h:ae o P) (g:∀y,P y->ae (f y) Q):ae (o.bind f) Q:=by obtain⟨r,rfl,h⟩:=h;exact g r h
theorem ae.bK {o:Option D} {f:D->Option β} {v:D} {Q:β->Prop} (h:o=some v) (g:ae (f v) Q):ae (o.bind f) Q:=by subst h;exact g
theorem ae.eq {o:Option D} {v:D} (h:o=some v):ae o (·=v):=⟨v,h,rfl⟩
theorem ae.of {o:Option D} {v:D} (h:ae o (·=v)):o=some v:=by obtain⟨r,e,rfl⟩:=h;exact e
theorem Eb {l:List D} (i:Nat):aj l (i:Int)=l[i]? :=rfl
theorem aeN {l:List D} {i:Nat} (h:i<l.length):aj l (i:Int)=some l[i]:=by rw[Eb];exact OD h
theorem ae.idx {l:List D} {m:Int} (h0:0<=m) (h1:m<l.length):ae (aj l m) (λx=>l[m.toNat]? =some x):=by
 obtain⟨i,rfl⟩:=Int.eq_ofNat_of_zero_le h0;have:i<l.length:=by omega
 exact⟨l[i],aeN this,by simp[this]⟩
def aw (o:Option (bG D)) (P:D->Prop) (E:AV->Prop):Prop:=∃r,o=some r/\(match r with| .ret x=>P x| .aT z=>E z)
theorem aw.ret {r:D} {P:D->Prop} {E:AV->Prop} (h:P r):aw (some (.ret r)) P E:=⟨_,rfl,h⟩
theorem aw.bif {c:Bool} {a b:Option (bG D)} {P:D->Prop} {E:AV->Prop} (h:c=true->aw a P E) (g:c=false->aw b P E):aw (bif c then a else b) P E:=by cases c;exact g rfl;exact h rfl
theorem aw.bind {o:Option D} {f:D->Option (bG β)} {P:D->Prop} {Q:β->Prop} {E:AV->Prop} (h:ae o P) (g:∀y,P y->aw (f y) Q E):aw (o.bind f) Q E:=by obtain⟨r,rfl,h⟩:=h;exact g r h
theorem aw.bK {o:Option D} {f:D->Option (bG β)} {v:D} {Q:β->Prop} {E:AV->Prop} (h:o=some v) (g:aw (f v) Q E):aw (o.bind f) Q E:=by subst h;exact g
theorem aw.aU {o:Option (bG D)} {f:D->Option (bG β)} {P:D->Prop} {Q:β->Prop} {E:AV->Prop} (h:aw o P E) (g:∀y,P y->aw (f y) Q E):aw (Bw.aU o f) Q E:=by
 obtain⟨r,rfl,h⟩:=h;cases r;exact g _ h;exact⟨_,rfl,h⟩
theorem wrap64 {x:Int} (h0: -9223372036854775808<=x) (h1:x<9223372036854775808):IntKind.i64.wrap x=x:=by
 simp[IntKind.wrap,IntKind.bits,IntKind.signed];split<;>omega
theorem bW (i:Nat) (h:i<9223372036854775807):IntKind.i64.wrap ((i:Int)+1)=((i+1:Nat):Int):=by
 rw[wrap64 (by omega) (by omega)];rfl
theorem eo {L : Int → β → Option D} {P : D → Prop} {len : Nat} (Inv : Nat → β → Prop)
    (step : ∀ (i : Nat) b, i < len → Inv i b → (∀ b', Inv (i + 1) b' → ae (L ((i + 1 : Nat) : Int) b') P) → ae (L (i : Int) b) P)
    (stop : ∀ b, Inv len b → ae (L (len : Int) b) P) : ∀ (i : Nat) b, i ≤ len → Inv i b → ae (L (i : Int) b) P := by
  intro i b hi hI
  obtain ⟨k, hk⟩ : ∃ k, len = i + k := ⟨len - i, by omega⟩
  induction k generalizing i b with
  | zero => have : i = len := by omega
            subst this; exact stop b hI
  | succ k ih => exact step i b (by omega) hI fun b' hb' => ih (i + 1) b' (by omega) hb' (by omega)
theorem gE {L:Int->Option D} {P:D->Prop} {len:Nat} (Inv:Nat->Prop)
  (step:∀(i:Nat),i<len->Inv i->(Inv (i+1)->ae (L ((i+1:Nat):Int)) P)->ae (L (i:Int)) P)
  (stop:Inv len->ae (L (len:Int)) P):∀(i:Nat),i<=len->Inv i->ae (L (i:Int)) P:=λi hi hI=>
 eo (β:=Unit) (L:=λi _=>L i) (Inv:=λi _=>Inv i) (λi _ h1 h2 h3=>step i h1 h2 (h3 ())) (λ_ h=>stop h) i () hi hI
end Go.Bw
end

section
noncomputable section
namespace Go.Bw
open Go
def iq (E:Env) (N K:Nat) (k:List It) (O:TS) (L:Hp):Out:=match L with|⟨e,m⟩=>vZ 1000 m 0 λn=>dr E.P E.G E.T 1000 N K k O ⟨e,n⟩ []
section
variable {E:Env} {N K:Nat} {Q:DQ} {O:TS} {L:Hp} {all rest:List Oper} {k:List It} {ns:List (Nat×Nat)}
theorem zz (hm:E.P.follows .mixedOrders=true) {X:Out} (hk:Out.ok E Q X) (hx:iq E N K k O L=X:=by conv=>(lhs;whnf)):ao E N K k Q O L:=by
 subst hx;exact af1 hm 1000 hk
theorem zs {D:Type} {U V:Option D} {r:D} {b:Bool} {A B X Y:Out} (hr:(bif b then U else V)=some r) (h1:b=true->U=some r->Out.ok E Q X) (h2:b=false->V=some r->Out.ok E Q Y) (hA:A=X:=by conv=>(lhs;whnf)) (hB:B=Y:=by conv=>(lhs;whnf)):Out.ok E Q (mY b A B):=by
 subst hA hB;cases b with
 |true=>exact h1 rfl hr
 |false=>exact h2 rfl hr
theorem bz {D β:Type} {o:Option D} {f:D->Option β} {r:β} {S:D->Prop} (h:o.bind f=some r) (k:∀x,o=some x->S x):∃x,S x/\f x=some r:=by
 obtain⟨x,e,g⟩:=cE h;exact⟨x,k x e,g⟩
theorem zv (hm:E.P.follows .mixedOrders=true) {dst:Option Nat} {f:Operand} {args:List Operand} {g:FuncId} {cs:List CV} {xs:List AV} {ns2:List (Nat×Nat)} {ms:List (Nat×bC)} {res:AV} {tys:Array TypeId} {ty:TypeId} {pos:String} {after:Array Edge} {X:Out}
  (h:Pure E.toCx g xs (.ret res)) (hk:Out.ok E Q X) (hn:eqs ns:=by repeat(first|exact aW|refine gR rfl ?_)) (hd:cP N dst=true:=by rfl) (hc:eI O f args=some (g,cs):=by rfl) (hf:cF L.e 60 cs=some (xs,ns2,ms):=by rfl) (hn2:eqs ns2:=by repeat(first|exact aW|refine gR rfl ?_)) (hl:ms=[]\/dD res=true:=by first|exact .inl rfl|exact .inr rfl)
  (hx:iq E N K (.ops all rest::k) (cv O dst (.d res)) L=X:=by conv=>(lhs;whnf)):
  Out.ok E Q (.stuck N K (.ops all (⟨dst,.call {callee:= .value f,args:=args.toArray,argTypes:=tys},ty,pos,after,none⟩::rest)::k) O L ns):=
 Ok.val hn rfl hd (bl.sn h rfl hc hf hn2 (cN.refl _) hl) (zz hm hk hx)
theorem zl {rs:List ResultVar} {xs:List CV} {z:AV} {res:AR} {ns2:List (Nat×Nat)} {ms:List (Nat×bC)} (hn:eqs ns:=by repeat(first|exact aW|refine gR rfl ?_)) (h:eX E.T O L rs=some xs:=by rfl) (hf:cF L.e 60 [fY xs]=some ([z],ns2,ms):=by rfl) (hn2:eqs ns2:=by repeat(first|exact aW|refine gR rfl ?_)) (hr:res= .ret z:=by rfl):Out.ok E (RD E.T rs (Ends 60 res)) (.fin .ret O L ns):=
 Ok.fin hn (RD.leaf h hf hn2 hr (cz.refl _))
theorem zb {rs:List ResultVar} {xs cs:List CV} {y:AV} {us:List AV} {ns2:List (Nat×Nat)} {ms:List (Nat×bC)} (hn:eqs ns:=by repeat(first|exact aW|refine gR rfl ?_)) (h:eX E.T O L rs=some xs:=by rfl) (hg:L.e.get 0=some (.box cs):=by rfl) (hf:cF L.e 60 (fY xs::cs)=some (y::us,ns2,ms):=by rfl) (hn2:eqs ns2:=by repeat(first|exact aW|refine gR rfl ?_)) (hm:(ms.all λp=>Nat.blt 0 p.1)=true:=by rfl):Out.ok E (RD E.T rs (AA y (.box us))) (.fin .ret O L ns):=
 Ok.fin hn (RD.UD h hg hf hn2 hm (cz.refl _) (cN.refl _))
theorem ao.agz {o:Oper} {l:List (Nat×Oper×TK)} {A:b6} {pend:List (Nat×Oper×CV)} {fs:List (Nat×List AV×AV)} {j:Nat} {O1:TS} {L1:Hp} {f:Operand} {args:List Operand} {g:FuncId} {cs:List CV} {xs' xs:List AV} {ns2:List (Nat×Nat)} {ms:List (Nat×bC)} {y:AV} {tys:Array TypeId} (hp:aJ E N all pend O L) (h:Pure E.toCx g xs (.aT y))
  (hq:∀L',Q (.aT (.d y)) .lf L') (hnd:fW ((eh (cD all.toArray j A)).map (·.1))=true:=by rfl) (hd:cP N o.dst=true:=by rfl) (cU:fB (eh (cD all.toArray j A)) O L=(O1,L1):=by rfl) (hw:cZ all o O1=some true:=by rfl)
  (ho:o.op= .call {callee:= .value f,args:=args.toArray,argTypes:=tys}:=by rfl) (hc:eI O1 f args=some (g,cs):=by rfl) (hf:cF L1.e 60 cs=some (xs',ns2,ms):=by rfl) (hn:eqs ns2:=by repeat(first|exact aW|refine gR rfl ?_)) (hl:ms=[]\/dD y=true:=by first|exact .inl rfl|exact .inr rfl) (hpt:kW k=none:=by rfl) (hi:cN xs' xs):ao E N K (.tl all ((j,o,.one)::l) A pend fs::k) Q O L:=
 λ_=>cV.pw hp hnd hd cU hw (b5.pure 60 ho h hc hf hn hi hl) (λx L' hR=>by cases hR.1) (λx L' hR=>by
  obtain⟨h1,rfl⟩:=hR;cases h1;exact mS k N K .lf hpt (hq _))
end
def dh {D β:Type} (o:Option (bG D)) (f:D->Option (bG β)):Option (bG β):=match o with
 |some (.aT z)=>bif dD z then some (.aT z)else none
 |some (.ret x)=>f x
 |none=>none
theorem DW {D β:Type} {o:Option (bG D)} {f:D->Option (bG β)} {r:bG β} (h:dh o f=some r):(∃z,(o=some (.aT z)/\dD z=true)/\r= .aT z)\/∃x,o=some (.ret x)/\f x=some r:=by
 unfold dh at h;split at h
 ·rename_i z;cases hz:dD z with
  |true=>rw[hz]at h;cases h;exact .inl ⟨z,⟨rfl,hz⟩,rfl⟩
  |false=>rw[hz]at h;cases h
 ·rename_i x;exact .inr ⟨x,rfl,h⟩
 ·cases h
theorem Le.dh {D β:Type} {a a':Option (bG D)} {f f':D->Option (bG β)} (h:Le a a') (g:∀y,Le (f y) (f' y)):Le (dh a f) (dh a' f'):=λr hr=>by
 rcases DW hr with⟨z,⟨h1,h2⟩,rfl⟩|⟨x,h1,h2⟩
 ·rw[h _ h1];simp[Bw.dh,h2]
 ·rw[h _ h1];exact g x _ h2
theorem Lm.dh {D β:Type} {f:Nat->Option (bG D)} {g:Nat->D->Option (bG β)} {v:Option (bG D)} {w:D->Option (bG β)} (h:Lm f v) (k:∀y,Lm (λn=>g n y) (w y)):Lm (λn=>Bw.dh (f n) (g n)) (Bw.dh v w):=by
 refine⟨λn=>Le.dh (h.1 n) λy=>(k y).1 n,λr=>⟨λhr=>?_,λ⟨n,hn⟩=>?_⟩⟩
 ·rcases DW hr with⟨z,⟨h1,h2⟩,rfl⟩|⟨x,h1,h2⟩
  ·obtain⟨n,hn⟩:=(h.2 _).1 h1;exact⟨n,by simp[Bw.dh,hn,h2]⟩
  ·obtain⟨n,hn⟩:=(h.2 _).1 h1;obtain⟨m,hm⟩:=((k x).2 _).1 h2;refine⟨max n m,?_⟩;have e1:=h.1.le (max n m) (DA n m) _ hn;have e2:=(k x).1.le (max n m) (DB n m) _ hm;simp only[Bw.dh,e1];exact e2
 ·rcases DW hn with⟨z,⟨h1,h2⟩,rfl⟩|⟨x,h1,h2⟩
  ·have:=(h.2 _).2 ⟨n,h1⟩;simp[Bw.dh,this,h2]
  ·have e1:=(h.2 _).2 ⟨n,h1⟩;have e2:=((k x).2 _).2 ⟨n,h2⟩;simp only[Bw.dh,e1];exact e2
theorem aw.dh {D β:Type} {o:Option (bG D)} {f:D->Option (bG β)} {P:D->Prop} {Q:β->Prop} {E:AV->Prop} (hE:∀z,E z->dD z=true) (h:aw o P E) (g:∀y,P y->aw (f y) Q E):aw (Bw.dh o f) Q E:=by
 obtain⟨r,rfl,h⟩:=h;cases r with
 |ret x=>exact g _ h
 |aT z=>exact⟨.aT z,by simp[Bw.dh,hE z h],h⟩
class PF (D:Type) where
 R:(Nat->D)->D->Prop
 le:D->D->Prop
 lm:(Nat->D)->D
 bot:D
 bot_le:∀x,le bot x
 of:∀{f:Nat->D},(∀n,le (f n) (f (n+1)))->R f (lm f)
 up:∀{f:Nat->D} {p:D},R f p->∀n,le (f n) (f (n+1))
 uniq:∀{f:Nat->D} {p q:D},R f p->R f q->p=q
 tail:∀{f:Nat->D} {p:D},R f p->R (λn=>f (n+1)) p
 two:∀{f g:D} (k:Nat),le f g->R (λn=>bif Nat.ble n k then f else g) g
theorem Lm.tail {D:Type} {f:Nat->Option D} {p:Option D} (h:Lm f p):Lm (λn=>f (n+1)) p:=
 ⟨λn=>h.1 (n+1),λr=>⟨λhr=>by obtain⟨n,hn⟩:=(h.2 r).1 hr;exact⟨n,h.1 n r hn⟩,λ⟨n,hn⟩=>(h.2 r).2 ⟨n+1,hn⟩⟩⟩
theorem Lm.two {D:Type} {f g:Option D} (k:Nat) (h:Le f g):Lm (λn=>bif Nat.ble n k then f else g) g:=by
 refine⟨λn r hr=>?_,λr=>⟨λhr=>⟨k+1,?_⟩,λ⟨n,hn⟩=>?_⟩⟩
 ·cases h1:Nat.ble n k with
  |true=>
   simp only[h1,aB]at hr;cases h2:Nat.ble (n+1) k with
   |true=>simpa only[h2,aB]using hr
   |false=>simpa only[h2,aC]using h r hr
  |false=>
   simp only[h1,aC]at hr;have h2:Nat.ble (n+1) k=false:=by
    cases h3:Nat.ble (n+1) k with
    |false=>rfl
    |true=>
     have:=eH h3;have h4:Nat.ble n k=true:=qZ (by omega);rw[h1]at h4;cases h4
   simpa only[h2,aC]using hr
 ·have h2:Nat.ble (k+1) k=false:=by
   cases h3:Nat.ble (k+1) k with
   |false=>rfl
   |true=>have:=eH h3;omega
  simpa only[h2,aC]using hr
 ·cases h1:Nat.ble n k with
  |true=>simp only[h1,aB]at hn;exact h r hn
  |false=>simpa only[h1,aC]using hn
noncomputable instance PF.opt {D:Type}:PF (Option D) where
 R:=Lm
 le:=Le
 lm:=lim
 bot:=none
 bot_le:=λ_=>Le.zero rfl
 of:=Lm.of
 up:=λh=>h.1
 uniq:=Lm.uniq
 tail:=Lm.tail
 two:=Lm.two
theorem afY {D β:Type} {f g:D->β} (k n:Nat) (x:D):(bif Nat.ble n k then f else g) x=bif Nat.ble n k then f x else g x:=by cases Nat.ble n k<;>rfl
noncomputable instance PF.fnI {D β:Type} [PF β]:PF (D->β) where
 R f p:=∀x,PF.R (λn=>f n x) (p x)
 le f g:=∀x,PF.le (f x) (g x)
 lm f:=λx=>PF.lm λn=>f n x
 bot:=λ_=>PF.bot
 bot_le:=λ_ _=>PF.bot_le _
 of:=λh x=>PF.of λn=>h n x
 up:=λh n x=>PF.up (h x) n
 uniq:=λh g=>funext λx=>PF.uniq (h x) (g x)
 tail:=λh x=>PF.tail (h x)
 two:=λ{f g} k h x=>by
  have:=PF.two k (h x);rwa[show(λn=>(bif Nat.ble n k then f else g) x)=λn=>bif Nat.ble n k then f x else g x from funext λn=>afY k n x]
theorem afZ {D β:Type} {f g:D×β} (k n:Nat):(bif Nat.ble n k then f else g).1=bif Nat.ble n k then f.1 else g.1:=by cases Nat.ble n k<;>rfl
theorem af0 {D β:Type} {f g:D×β} (k n:Nat):(bif Nat.ble n k then f else g).2=bif Nat.ble n k then f.2 else g.2:=by cases Nat.ble n k<;>rfl
noncomputable instance PF.prod {D β:Type} [PF D] [PF β]:PF (D×β) where
 R f p:=PF.R (λn=>(f n).1) p.1/\PF.R (λn=>(f n).2) p.2
 le f g:=PF.le f.1 g.1/\PF.le f.2 g.2
 lm f:=(PF.lm λn=>(f n).1,PF.lm λn=>(f n).2)
 bot:=(PF.bot,PF.bot)
 bot_le:=λ_=>⟨PF.bot_le _,PF.bot_le _⟩
 of:=λh=>⟨PF.of λn=>(h n).1,PF.of λn=>(h n).2⟩
 up:=λh n=>⟨PF.up h.1 n,PF.up h.2 n⟩
 uniq:=λh g=>Prod.ext (PF.uniq h.1 g.1) (PF.uniq h.2 g.2)
 tail:=λh=>⟨PF.tail h.1,PF.tail h.2⟩
 two:=λ{f g} k h=>by
  constructor
  ·rw[show(λn=>(bif Nat.ble n k then f else g).1)=λn=>bif Nat.ble n k then f.1 else g.1 from funext λn=>afZ k n];exact PF.two k h.1
  ·rw[show(λn=>(bif Nat.ble n k then f else g).2)=λn=>bif Nat.ble n k then f.2 else g.2 from funext λn=>af0 k n];exact PF.two k h.2
section
variable {D β γ:Type}
def PF.Fix [PF D] (F:Nat->D) (Ψ:D->D):Prop:=PF.R F (PF.lm F)/\PF.lm F=Ψ (PF.lm F)
theorem PF.fix [PF D] {F:Nat->D} {Φ:Nat->D->D} {Ψ:D->D} (hΦ:∀f p,PF.R f p->PF.R (λn=>Φ n (f n)) (Ψ p)) (h0:F 0=PF.bot) (hs:∀n,F (n+1)=Φ n (F n)):PF.Fix F Ψ:=by
 have up:∀n,PF.le (F n) (F (n+1)):=by
  intro n
  induction n with
  |zero=>rw[h0];exact PF.bot_le _
  |succ n ih=>
   have h1:=PF.up (hΦ _ _ (PF.two n ih)) n;have e1:Nat.ble n n=true:=qZ (bX n);have e2:Nat.ble (n+1) n=false:=by
    cases h3:Nat.ble (n+1) n with
    |false=>rfl
    |true=>have:=eH h3;omega
   simp only[e1,e2,aB,aC]at h1;rw[hs (n+1),hs n]at*
   exact h1
 have hR:=PF.of up;refine⟨hR,PF.uniq (f:=λn=>F (n+1)) (PF.tail hR) ?_⟩;rw[show(λn=>F (n+1))=λn=>Φ n (F n)from funext hs];exact hΦ _ _ hR
theorem PF.fn [PF β] {f:Nat->D->β} {p:D->β} (h:∀x,PF.R (λn=>f n x) (p x)):PF.R f p:=h
theorem PF.ap [PF β] {f:Nat->D->β} {p:D->β} (h:PF.R f p) (x:D):PF.R (λn=>f n x) (p x):=h x
theorem PF.pair [PF D] [PF β] {f:Nat->D} {g:Nat->β} {p:D} {q:β} (h:PF.R f p) (k:PF.R g q):PF.R (λn=>(f n,g n)) (p,q):=⟨h,k⟩
theorem PF.const (o:Option D):PF.R (λ_=>o) o:=Lm.const o
theorem PF.bif {c:Bool} {f g:Nat->Option D} {v w:Option D} (h:PF.R f v) (k:PF.R g w):PF.R (λn=>bif c then f n else g n) (bif c then v else w):=Lm.bif h k
theorem PF.bind {f:Nat->Option D} {g:Nat->D->Option β} {v:Option D} {w:D->Option β} (h:PF.R f v) (k:∀y,PF.R (λn=>g n y) (w y)):PF.R (λn=>(f n).bind (g n)) (v.bind w):=Lm.bind h k
theorem PF.aU {f:Nat->Option (bG D)} {g:Nat->D->Option (bG β)} {v:Option (bG D)} {w:D->Option (bG β)} (h:PF.R f v) (k:∀y,PF.R (λn=>g n y) (w y)):PF.R (λn=>Bw.aU (f n) (g n)) (Bw.aU v w):=Lm.aU h k
theorem PF.dh {f:Nat->Option (bG D)} {g:Nat->D->Option (bG β)} {v:Option (bG D)} {w:D->Option (bG β)} (h:PF.R f v) (k:∀y,PF.R (λn=>g n y) (w y)):PF.R (λn=>Bw.dh (f n) (g n)) (Bw.dh v w):=Lm.dh h k
theorem PF.iY {ty:Nat} {f:Nat->Option (bG D)} {g:Nat->Int->Int->Option β} {k:Nat->D->Option β} {v:Option (bG D)} {w:Int->Int->Option β} {z:D->Option β} (h:PF.R f v) (hg:∀x y,PF.R (λn=>g n x y) (w x y)) (hk:∀y,PF.R (λn=>k n y) (z y)):PF.R (λn=>Bw.iY ty (f n) (g n) (k n)) (Bw.iY ty v w z):=Lm.iY h hg hk
theorem PF.ex {f:Nat->Option D} {v:Option D} (h:PF.R f v) {r:D} (e:v=some r):∃n,f n=some r:=(h.2 r).1 e
structure PF.K (D β:Type) [PF D] [PF β] where
 f:D->β
 k:∀{F:Nat->D} {p:D},PF.R F p->PF.R (λn=>f (F n)) (f p)
instance [PF D] [PF β]:CoeFun (PF.K D β) λ_=>D->β:=⟨PF.K.f⟩
def PF.i [PF D]:PF.K D D:=⟨λx=>x,λh=>h⟩
def PF.K.a [PF D] [PF β] [PF γ] (π:PF.K D (β×γ)):PF.K D β:=⟨λx=>(π.f x).1,λh=>(π.k h).1⟩
def PF.K.b [PF D] [PF β] [PF γ] (π:PF.K D (β×γ)):PF.K D γ:=⟨λx=>(π.f x).2,λh=>(π.k h).2⟩
theorem zM {D β:Type} [PF D] [PF β] {F:Nat->D} {p:D} {b:Nat->β} {c:β} (h:PF.R F p) (k:PF.R F p->PF.R b c:=by
 intro h
 (repeat with_reducible refine PF.fn λ_=>?_)
 repeat' (first|with_reducible refine PF.bif ?_ ?_|with_reducible refine PF.bind ?_ (λ_=>?_)|with_reducible refine PF.aU ?_ (λ_=>?_)|with_reducible refine PF.dh ?_ (λ_=>?_)|with_reducible refine PF.iY ?_ (λ_ _=>?_) (λ_=>?_)|with_reducible exact PF.const _|((repeat with_reducible refine PF.ap ?_ _);with_reducible exact PF.K.k _ h))):PF.R b c:=k h
theorem zC {p:Prop} (h:p:=by(repeat refine PF.fn λ_=>?_);exact PF.const _):p:=h
theorem cQ {D0 D1:Type} {f g:D0->D1} (h:f=g) (x0):f x0=g x0:=h▸rfl
theorem bB {D0 D1 D2:Type} {f g:D0->D1->D2} (h:f=g) (x0 x1):f x0 x1=g x0 x1:=h▸rfl
theorem cK {D0 D1 D2 D3:Type} {f g:D0->D1->D2->D3} (h:f=g) (x0 x1 x2):f x0 x1 x2=g x0 x1 x2:=h▸rfl
theorem eY {D0 D1 D2 D3 D4:Type} {f g:D0->D1->D2->D3->D4} (h:f=g) (x0 x1 x2 x3):f x0 x1 x2 x3=g x0 x1 x2 x3:=h▸rfl
theorem jI {D0 D1 D2 D3 D4 D5:Type} {f g:D0->D1->D2->D3->D4->D5} (h:f=g) (x0 x1 x2 x3 x4):f x0 x1 x2 x3 x4=g x0 x1 x2 x3 x4:=h▸rfl
theorem xv {D0 D1 D2 D3 D4 D5 D6:Type} {f g:D0->D1->D2->D3->D4->D5->D6} (h:f=g) (x0 x1 x2 x3 x4 x5):f x0 x1 x2 x3 x4 x5=g x0 x1 x2 x3 x4 x5:=h▸rfl
theorem ap7 {D0 D1 D2 D3 D4 D5 D6 D7:Type} {f g:D0->D1->D2->D3->D4->D5->D6->D7} (h:f=g) (x0 x1 x2 x3 x4 x5 x6):f x0 x1 x2 x3 x4 x5 x6=g x0 x1 x2 x3 x4 x5 x6:=h▸rfl
theorem ap8 {D0 D1 D2 D3 D4 D5 D6 D7 D8:Type} {f g:D0->D1->D2->D3->D4->D5->D6->D7->D8} (h:f=g) (x0 x1 x2 x3 x4 x5 x6 x7):f x0 x1 x2 x3 x4 x5 x6 x7=g x0 x1 x2 x3 x4 x5 x6 x7:=h▸rfl
theorem YV {D0 D1 D2 D3 D4 D5 D6 D7 D8 D9:Type} {f g:D0->D1->D2->D3->D4->D5->D6->D7->D8->D9} (h:f=g) (x0 x1 x2 x3 x4 x5 x6 x7 x8):f x0 x1 x2 x3 x4 x5 x6 x7 x8=g x0 x1 x2 x3 x4 x5 x6 x7 x8:=h▸rfl
theorem aik {D0 D1 D2 D3 D4 D5 D6 D7 D8 D9 D10 D11:Type} {f g:D0->D1->D2->D3->D4->D5->D6->D7->D8->D9->D10->D11} (h:f=g) (x0 x1 x2 x3 x4 x5 x6 x7 x8 x9 x10):f x0 x1 x2 x3 x4 x5 x6 x7 x8 x9 x10=g x0 x1 x2 x3 x4 x5 x6 x7 x8 x9 x10:=h▸rfl
theorem ail {D0 D1 D2 D3 D4 D5 D6 D7 D8 D9 D10 D11 D12 D13 D14 D15:Type} {f g:D0->D1->D2->D3->D4->D5->D6->D7->D8->D9->D10->D11->D12->D13->D14->D15} (h:f=g) (x0 x1 x2 x3 x4 x5 x6 x7 x8 x9 x10 x11 x12 x13 x14):f x0 x1 x2 x3 x4 x5 x6 x7 x8 x9 x10 x11 x12 x13 x14=g x0 x1 x2 x3 x4 x5 x6 x7 x8 x9 x10 x11 x12 x13 x14:=h▸rfl
theorem zP {D β:Type} [PF D] [PF β] {F:Nat->D} {p:D} {b:Nat->β} {c:β} (h:PF.R F p) (k:PF.R F p->PF.R b c:=by intro h;repeat' (first|refine PF.pair ?_ ?_|exact zM h|exact zC)):PF.R b c:=k h
