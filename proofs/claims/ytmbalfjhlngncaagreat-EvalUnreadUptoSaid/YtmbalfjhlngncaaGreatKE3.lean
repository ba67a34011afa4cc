/- Functions with fuel, and what they come to: limits, and their equations. -/
import Derived.Test.YtmbalfjhlngncaaGreatKE2
set_option linter.all false
section
noncomputable section
namespace Go.Bw
open Go
def Le {α:Type} (a b:Option α):Prop:=∀r,a=some r->b=some r
section
variable {α β:Type}
theorem Le.refl (a:Option α):Le a a:=λ_ h=>h
theorem Le.trans {a b c:Option α} (h:Le a b) (g:Le b c):Le a c:=λr hr=>g r (h r hr)
theorem Le.zero {a b:Option α} (h:a=none):Le a b:=λr hr=>by rw[h]at hr;cases hr
theorem Le.bif {c:Bool} {a a' b b':Option α} (h:Le a a') (g:Le b b'):Le (bif c then a else b) (bif c then a' else b'):=by cases c<;>assumption
theorem Le.bind {a a':Option α} {f f':α->Option β} (h:Le a a') (g:∀y,Le (f y) (f' y)):Le (a.bind f) (a'.bind f'):=λr hr=>by
 obtain⟨y,h1,h2⟩:=ck hr;rw[h y h1];exact g y r h2
theorem Le.aT {a a':Option (bx α)} {f f':α->Option (bx β)} (h:Le a a') (g:∀y,Le (f y) (f' y)):Le (aT a f) (aT a' f'):=λr hr=>by
 rcases se hr with⟨z,h1,rfl⟩|⟨y,h1,h2⟩
 ·rw[h _ h1];rfl
 ·rw[h _ h1];exact g y r h2
theorem Le.fC {ty:Nat} {a a':Option (bx α)} {g g':Int->Int->Option β} {f f':α->Option β} (h:Le a a') (hg:∀x y,Le (g x y) (g' x y)) (hf:∀y,Le (f y) (f' y)):Le (fC ty a g f) (fC ty a' g' f'):=λr hr=>by
 cases a with
 |none=>cases hr
 |some x=>
  rw[h _ rfl];cases x with
  |ret x=>exact hf x r hr
  |aO z=>
   obtain⟨p,h1,h2⟩:=ck hr;show(oX ty z).bind _=some r;rw[h1];exact hg _ _ r h2
noncomputable def lim (f:Nat->Option α):Option α:=open Classical in if h:∃n r,f n=some r then f (Classical.choose h)else none
def Up (f:Nat->Option α):Prop:=∀n,Le (f n) (f (n+1))
theorem Up.le {f : Nat → Option α} (h : Up f) {n : Nat} : ∀ m, n ≤ m → Le (f n) (f m)
  | 0, hm => by have : n = 0 := by omega
                subst this; exact Le.refl _
  | m + 1, hm => by
    rcases Nat.eq_or_lt_of_le hm with rfl | h1
    · exact Le.refl _
    · exact (h.le m (by omega)).trans (h m)
theorem SP {f:Nat->Option α} {r:α} (h:lim f=some r):∃n,f n=some r:=by
 unfold lim at h;split at h
 ·rename_i h0;exact⟨_,h⟩
 ·cases h
theorem SQ {f:Nat->Option α} (hu:Up f) {n:Nat} {r:α} (h:f n=some r):lim f=some r:=by
 have h0:∃n r,f n=some r:=⟨n,r,h⟩;unfold lim;rw[dif_pos h0];obtain⟨r',hr'⟩:=Classical.choose_spec h0;have h1:=hu.le (max n (Classical.choose h0)) (BP ..) r h;have h2:=hu.le (max n (Classical.choose h0)) (BR ..) r' hr';rw[h1]at h2;cases h2;exact hr'
theorem aem {f:Nat->Option α} (hu:Up f) {v:Option α} (h:∀r,v=some r↔∃n,f n=some r):lim f=v:=by
 cases v with
 |none=>
  cases hl:lim f with
  |none=>rfl
  |some r=>have:=(h r).2 (SP hl);cases this
 |some r=>obtain⟨n,hn⟩:=(h r).1 rfl;exact SQ hu hn
def Lm (f:Nat->Option α) (v:Option α):Prop:=Up f/\∀r,v=some r↔∃n,f n=some r
theorem Lm.lim {f:Nat->Option α} {v:Option α} (h:Lm f v):Bw.lim f=v:=aem h.1 h.2
theorem Lm.of {f:Nat->Option α} (h:Up f):Lm f (Bw.lim f):=⟨h,λ_=>⟨SP,λ⟨_,hn⟩=>SQ h hn⟩⟩
theorem Lm.const (o:Option α):Lm (λ_=>o) o:=⟨λ_=>Le.refl _,λ_=>⟨λh=>⟨0,h⟩,λ⟨_,h⟩=>h⟩⟩
theorem Lm.bif {c:Bool} {f g:Nat->Option α} {v w:Option α} (h:Lm f v) (k:Lm g w):Lm (λn=>bif c then f n else g n) (bif c then v else w):=by cases c<;>assumption
theorem Lm.bind {f:Nat->Option α} {g:Nat->α->Option β} {v:Option α} {w:α->Option β} (h:Lm f v) (k:∀y,Lm (λn=>g n y) (w y)):Lm (λn=>(f n).bind (g n)) (v.bind w):=by
 refine⟨λn=>Le.bind (h.1 n) λy=>(k y).1 n,λr=>⟨λhr=>?_,?_⟩⟩
 ·obtain⟨y,h1,h2⟩:=ck hr;obtain⟨n,hn⟩:=(h.2 y).1 h1;obtain⟨m,hm⟩:=((k y).2 r).1 h2;refine⟨max n m,?_⟩;show(f (max n m)).bind (g (max n m))=_;rw[h.1.le _ (BP ..) y hn];exact(k y).1.le _ (BR ..) r hm
 ·rintro ⟨n,hn⟩;obtain⟨y,h1,h2⟩:=ck hn;rw[(h.2 y).2 ⟨n,h1⟩];exact((k y).2 r).2 ⟨n,h2⟩
theorem Lm.aT {f:Nat->Option (bx α)} {g:Nat->α->Option (bx β)} {v:Option (bx α)} {w:α->Option (bx β)} (h:Lm f v) (k:∀y,Lm (λn=>g n y) (w y)):Lm (λn=>aT (f n) (g n)) (Bw.aT v w):=by
 refine⟨λn=>Le.aT (h.1 n) λy=>(k y).1 n,λr=>⟨λhr=>?_,?_⟩⟩
 ·rcases se hr with⟨z,h1,rfl⟩|⟨y,h1,h2⟩
  ·obtain⟨n,hn⟩:=(h.2 _).1 h1;exact⟨n,by show Bw.aT (f n) _=_;rw[hn];rfl⟩
  ·obtain⟨n,hn⟩:=(h.2 _).1 h1;obtain⟨m,hm⟩:=((k y).2 r).1 h2;refine⟨max n m,?_⟩;show Bw.aT (f (max n m)) (g (max n m))=_;rw[h.1.le _ (BP ..) _ hn];exact(k y).1.le _ (BR ..) r hm
 ·rintro ⟨n,hn⟩;rcases se hn with⟨z,h1,rfl⟩|⟨y,h1,h2⟩
  ·rw[(h.2 _).2 ⟨n,h1⟩];rfl
  ·rw[(h.2 _).2 ⟨n,h1⟩];exact((k y).2 r).2 ⟨n,h2⟩
theorem Lm.fC {ty:Nat} {f:Nat->Option (bx α)} {g:Nat->Int->Int->Option β} {k:Nat->α->Option β} {v:Option (bx α)} {w:Int->Int->Option β} {z:α->Option β} (h:Lm f v) (hg:∀x y,Lm (λn=>g n x y) (w x y)) (hk:∀y,Lm (λn=>k n y) (z y)):Lm (λn=>fC ty (f n) (g n) (k n)) (Bw.fC ty v w z):=by
 refine⟨λn=>Le.fC (h.1 n) (λx y=>(hg x y).1 n) λy=>(hk y).1 n,λr=>⟨λhr=>?_,?_⟩⟩
 ·cases v with
  |none=>cases hr
  |some x=>
   obtain⟨n,hn⟩:=(h.2 _).1 rfl;cases x with
   |ret y=>
    obtain⟨m,hm⟩:=((hk y).2 r).1 hr;refine⟨max n m,?_⟩;show Bw.fC ty (f (max n m)) _ _=_;rw[h.1.le _ (BP ..) _ hn];exact(hk y).1.le _ (BR ..) r hm
   |aO q=>
    obtain⟨p,h1,h2⟩:=ck (f:=λp:Int×Int=>w p.1 p.2) hr;obtain⟨m,hm⟩:=((hg p.1 p.2).2 r).1 h2;refine⟨max n m,?_⟩;show Bw.fC ty (f (max n m)) _ _=_;rw[h.1.le _ (BP ..) _ hn];show(oX ty q).bind _=_;rw[h1];exact(hg p.1 p.2).1.le _ (BR ..) r hm
 ·rintro ⟨n,hn⟩;replace hn:Bw.fC ty (f n) (g n) (k n)=some r:=hn;cases hf:f n with
  |none=>rw[hf]at hn;cases hn
  |some x=>
   rw[hf]at hn;rw[(h.2 _).2 ⟨n,hf⟩];cases x with
   |ret y=>exact((hk y).2 r).2 ⟨n,hn⟩
   |aO q=>
    obtain⟨p,h1,h2⟩:=ck (f:=λp:Int×Int=>g n p.1 p.2) hn;show(oX ty q).bind _=_;rw[h1];exact((hg p.1 p.2).2 r).2 ⟨n,h2⟩
theorem Lm.succ {f:Nat->Option α} {v w:Option α} (h:Lm f v) (g:Lm (λn=>f (n+1)) w):v=w:=by
 have:∀r,v=some r↔w=some r:=λr=>by
  rw[h.2 r,g.2 r];exact⟨λ⟨n,hn⟩=>⟨n,h.1 n r hn⟩,λ⟨n,hn⟩=>⟨n+1,hn⟩⟩
 cases v with
 |none=>cases w with
  |none=>rfl
  |some r=>have:=(this r).2 rfl;cases this
 |some r=>exact((this r).1 rfl).symm
theorem Le.conv {a a' b b':Option α} (h:a=a') (g:b=b') (k:Le a' b'):Le a b:=by subst h;subst g;exact k
theorem Lm.conv {f g:Nat->Option α} {v:Option α} (h:∀n,f n=g n) (k:Lm g v):Lm f v:=by rw[show f=g from funext h];exact k
theorem Lm.uniq {f:Nat->Option α} {v w:Option α} (h:Lm f v) (g:Lm f w):v=w:=h.lim.symm.trans g.lim
end
end Go.Bw
end

section
noncomputable section
namespace Go.Bw
open Go
variable {α β γ:Type}
def ab (o:Option α) (P:α->Prop):Prop:=∃r,o=some r/\P r
theorem ab.ret {r:α} {P:α->Prop} (h:P r):ab (some r) P:=⟨r,rfl,h⟩
theorem ab.mono {o:Option α} {P Q:α->Prop} (h:ab o P) (g:∀r,P r->Q r):ab o Q:=by obtain⟨r,e,h⟩:=h;exact⟨r,e,g r h⟩
theorem ab.bif {c:Bool} {a b:Option α} {P:α->Prop} (h:c=true->ab a P) (g:c=false->ab b P):ab (bif c then a else b) P:=by cases c;exact g rfl;exact h rfl
theorem ab.bind {o:Option α} {f:α->Option β} {P:α->Prop} {Q:β->Prop} (h:ab o P) (g:∀y,P y->ab (f y) Q):ab (o.bind f) Q:=by obtain⟨r,rfl,h⟩:=h;exact g r h
theorem ab.bA {o:Option α} {f:α->Option β} {v:α} {Q:β->Prop} (h:o=some v) (g:ab (f v) Q):ab (o.bind f) Q:=by subst h;exact g
theorem ab.eq {o:Option α} {v:α} (h:o=some v):ab o (·=v):=⟨v,h,rfl⟩
theorem ab.of {o:Option α} {v:α} (h:ab o (·=v)):o=some v:=by obtain⟨r,e,rfl⟩:=h;exact e
theorem ab.conv {o o':Option α} {P:α->Prop} (e:o=o') (h:ab o' P):ab o P:=e▸h
theorem ab.any {o:Option α} {P:α->Prop} (h:ab o P):ab o (λ_=>True):=h.mono λ_ _=>trivial
theorem ab.and {o:Option α} {P Q:α->Prop} (h:ab o P) (g:∀r,o=some r->Q r):ab o (λr=>P r/\Q r):=by obtain⟨r,e,h⟩:=h;exact⟨r,e,h,g r e⟩
theorem Cl {l:List α} (i:Nat):ao l (i:Int)=l[i]? :=rfl
theorem ac5 {l:List α} {i:Nat} (h:i<l.length):ao l (i:Int)=some l[i]:=by rw[Cl];exact ML h
theorem ab.idx {l:List α} {m:Int} (h0:0<=m) (h1:m<l.length):ab (ao l m) (λx=>l[m.toNat]? =some x):=by
 obtain⟨i,rfl⟩:=Int.eq_ofNat_of_zero_le h0;have:i<l.length:=by omega
 exact⟨l[i],ac5 this,by simp[this]⟩
def au (o:Option (bx α)) (P:α->Prop) (E:AV->Prop):Prop:=∃r,o=some r/\(match r with| .ret x=>P x| .aO z=>E z)
theorem au.ret {r:α} {P:α->Prop} {E:AV->Prop} (h:P r):au (some (.ret r)) P E:=⟨_,rfl,h⟩
theorem au.aO {z:AV} {P:α->Prop} {E:AV->Prop} (h:E z):au (some (.aO z)) P E:=⟨_,rfl,h⟩
theorem au.mono {o:Option (bx α)} {P Q:α->Prop} {E F:AV->Prop} (h:au o P E) (g:∀r,P r->Q r) (k:∀z,E z->F z):au o Q F:=by
 obtain⟨r,e,h⟩:=h;refine⟨r,e,?_⟩;cases r;exact g _ h;exact k _ h
theorem au.bif {c:Bool} {a b:Option (bx α)} {P:α->Prop} {E:AV->Prop} (h:c=true->au a P E) (g:c=false->au b P E):au (bif c then a else b) P E:=by cases c;exact g rfl;exact h rfl
theorem au.bind {o:Option α} {f:α->Option (bx β)} {P:α->Prop} {Q:β->Prop} {E:AV->Prop} (h:ab o P) (g:∀y,P y->au (f y) Q E):au (o.bind f) Q E:=by obtain⟨r,rfl,h⟩:=h;exact g r h
theorem au.bA {o:Option α} {f:α->Option (bx β)} {v:α} {Q:β->Prop} {E:AV->Prop} (h:o=some v) (g:au (f v) Q E):au (o.bind f) Q E:=by subst h;exact g
theorem au.aT {o:Option (bx α)} {f:α->Option (bx β)} {P:α->Prop} {Q:β->Prop} {E:AV->Prop} (h:au o P E) (g:∀y,P y->au (f y) Q E):au (Bw.aT o f) Q E:=by
 obtain⟨r,rfl,h⟩:=h;cases r;exact g _ h;exact⟨_,rfl,h⟩
theorem au.conv {o o':Option (bx α)} {P:α->Prop} {E:AV->Prop} (e:o=o') (h:au o' P E):au o P E:=e▸h
def ac6 (ty:Nat) (z:AV):Prop:=∃a b:Int,z= .bC ty (.agg [.v (.int .i64 a),.v (.int .i64 b)])
theorem ab.fC {ty:Nat} {o:Option (bx α)} {g:Int->Int->Option β} {f:α->Option β} {P:α->Prop} {Q:β->Prop} (h:au o P (ac6 ty)) (hg:∀a b,ab (g a b) Q) (hf:∀y,P y->ab (f y) Q):ab (Bw.fC ty o g f) Q:=by
 obtain⟨r,rfl,h⟩:=h;cases r with
 |ret x=>exact hf x h
 |aO z=>obtain⟨a,b,rfl⟩:=h;simpa[Bw.fC,oX]using hg a b
theorem wrap64 {x:Int} (h0: -9223372036854775808<=x) (h1:x<9223372036854775808):IntKind.i64.wrap x=x:=by
 simp[IntKind.wrap,IntKind.bits,IntKind.signed];split<;>omega
theorem bM (i:Nat) (h:i<9223372036854775807):IntKind.i64.wrap ((i:Int)+1)=((i+1:Nat):Int):=by
 rw[wrap64 (by omega) (by omega)];rfl
theorem dX {L : Int → β → Option α} {P : α → Prop} {len : Nat} (Inv : Nat → β → Prop)
    (step : ∀ (i : Nat) b, i < len → Inv i b → (∀ b', Inv (i + 1) b' → ab (L ((i + 1 : Nat) : Int) b') P) → ab (L (i : Int) b) P)
    (stop : ∀ b, Inv len b → ab (L (len : Int) b) P) : ∀ (i : Nat) b, i ≤ len → Inv i b → ab (L (i : Int) b) P := by
  intro i b hi hI
  obtain ⟨k, hk⟩ : ∃ k, len = i + k := ⟨len - i, by omega⟩
  induction k generalizing i b with
  | zero => have : i = len := by omega
            subst this; exact stop b hI
  | succ k ih => exact step i b (by omega) hI fun b' hb' => ih (i + 1) b' (by omega) hb' (by omega)
theorem eZ {L:Int->Option α} {P:α->Prop} {len:Nat} (Inv:Nat->Prop)
  (step:∀(i:Nat),i<len->Inv i->(Inv (i+1)->ab (L ((i+1:Nat):Int)) P)->ab (L (i:Int)) P)
  (stop:Inv len->ab (L (len:Int)) P):∀(i:Nat),i<=len->Inv i->ab (L (i:Int)) P:=λi hi hI=>
 dX (β:=Unit) (L:=λi _=>L i) (Inv:=λi _=>Inv i) (λi _ h1 h2 h3=>step i h1 h2 (h3 ())) (λ_ h=>stop h) i () hi hI
end Go.Bw
end

section
noncomputable section
namespace Go.Bw
open Go
def gm (E:Env) (N K:Nat) (k:List It) (Z:TS) (O:Hp):Out:=match O with|⟨e,m⟩=>uF 1000 m 0 λn=>dr E.P E.G E.T 1000 N K k Z ⟨e,n⟩ []
section
variable {E:Env} {N K:Nat} {Q:DQ} {Z:TS} {O:Hp} {all rest:List Oper} {k:List It} {ns:List (Nat×Nat)}
theorem zz (hm:E.P.follows .mixedOrders=true) {X:Out} (hk:Out.ok E Q X) (hx:gm E N K k Z O=X:=by conv=>(lhs;whnf)):ak E N K k Q Z O:=by
 subst hx;exact ael hm 1000 hk
theorem zs {α:Type} {U V:Option α} {r:α} {b:Bool} {A B X Y:Out} (hr:(bif b then U else V)=some r) (h1:b=true->U=some r->Out.ok E Q X) (h2:b=false->V=some r->Out.ok E Q Y) (hA:A=X:=by conv=>(lhs;whnf)) (hB:B=Y:=by conv=>(lhs;whnf)):Out.ok E Q (kW b A B):=by
 subst hA hB;cases b with
 |true=>exact h1 rfl hr
 |false=>exact h2 rfl hr
theorem a8 {α β:Type} {o:Option α} {f:α->Option β} {r:β} {S:α->Prop} (h:o.bind f=some r) (k:∀x,o=some x->S x):∃x,S x/\f x=some r:=by
 obtain⟨x,e,g⟩:=ck h;exact⟨x,k x e,g⟩
theorem zv (hm:E.P.follows .mixedOrders=true) {dst:Option Nat} {f:Operand} {args:List Operand} {g:FuncId} {cs:List CV} {xs:List AV} {ns2:List (Nat×Nat)} {ms:List (Nat×br)} {res:AV} {tys:Array TypeId} {ty:TypeId} {pos:String} {after:Array Edge} {X:Out}
  (h:Pure E.toCx g xs (.ret res)) (hk:Out.ok E Q X) (hn:eqs ns:=by repeat(first|exact aV|refine fp rfl ?_)) (hd:cw N dst=true:=by rfl) (hc:dz Z f args=some (g,cs):=by rfl) (hf:cr O.e 60 cs=some (xs,ns2,ms):=by rfl) (hn2:eqs ns2:=by repeat(first|exact aV|refine fp rfl ?_)) (hl:ms=[]\/cZ res=true:=by first|exact .inl rfl|exact .inr rfl)
  (hx:gm E N K (.ops all rest::k) (bW Z dst (.d res)) O=X:=by conv=>(lhs;whnf)):
  Out.ok E Q (.stuck N K (.ops all (⟨dst,.call {callee:= .value f,args:=args.toArray,argTypes:=tys},ty,pos,after,none⟩::rest)::k) Z O ns):=
 Ok.val hn rfl hd (bd.qV h rfl hc hf hn2 (b8.refl _) hl) (zz hm hk hx)
theorem zl {rs:List ResultVar} {xs:List CV} {z:AV} {res:AR} {ns2:List (Nat×Nat)} {ms:List (Nat×br)} (hn:eqs ns:=by repeat(first|exact aV|refine fp rfl ?_)) (h:eh E.T Z O rs=some xs:=by rfl) (hf:cr O.e 60 [ff xs]=some ([z],ns2,ms):=by rfl) (hn2:eqs ns2:=by repeat(first|exact aV|refine fp rfl ?_)) (hr:res= .ret z:=by rfl):Out.ok E (RD E.T rs (Ends 60 res)) (.fin .ret Z O ns):=
 Ok.fin hn (RD.leaf h hf hn2 hr (bV.refl _))
theorem zb {rs:List ResultVar} {xs cs:List CV} {y:AV} {us:List AV} {ns2:List (Nat×Nat)} {ms:List (Nat×br)} (hn:eqs ns:=by repeat(first|exact aV|refine fp rfl ?_)) (h:eh E.T Z O rs=some xs:=by rfl) (hg:O.e.get 0=some (.box cs):=by rfl) (hf:cr O.e 60 (ff xs::cs)=some (y::us,ns2,ms):=by rfl) (hn2:eqs ns2:=by repeat(first|exact aV|refine fp rfl ?_)) (hm:(ms.all λp=>Nat.blt 0 p.1)=true:=by rfl):Out.ok E (RD E.T rs (xU y (.box us))) (.fin .ret Z O ns):=
 Ok.fin hn (RD.SO h hg hf hn2 hm (bV.refl _) (b8.refl _))
theorem ak.aeL {o:Oper} {l:List (Nat×Oper×TK)} {A:bN} {pend:List (Nat×Oper×CV)} {fs:List (Nat×List AV×AV)} {j:Nat} {Z1:TS} {O1:Hp} {f:Operand} {args:List Operand} {g:FuncId} {cs:List CV} {xs' xs:List AV} {ns2:List (Nat×Nat)} {ms:List (Nat×br)} {y:AV} {tys:Array TypeId} (hp:aE E N all pend Z O) (h:Pure E.toCx g xs (.aO y))
  (hq:∀O',Q (.aO (.d y)) .lf O') (hnd:fe ((dH (cq all.toArray j A)).map (·.1))=true:=by rfl) (hd:cw N o.dst=true:=by rfl) (cI:eG (dH (cq all.toArray j A)) Z O=(Z1,O1):=by rfl) (hw:cM all o Z1=some true:=by rfl)
  (ho:o.op= .call {callee:= .value f,args:=args.toArray,argTypes:=tys}:=by rfl) (hc:dz Z1 f args=some (g,cs):=by rfl) (hf:cr O1.e 60 cs=some (xs',ns2,ms):=by rfl) (hn:eqs ns2:=by repeat(first|exact aV|refine fp rfl ?_)) (hl:ms=[]\/cZ y=true:=by first|exact .inl rfl|exact .inr rfl) (hpt:jL k=none:=by rfl) (hi:b8 xs' xs):ak E N K (.tl all ((j,o,.one)::l) A pend fs::k) Q Z O:=
 λ_=>cE.nV hp hnd hd cI hw (bK.pure 60 ho h hc hf hn hi hl) (λx O' hR=>by cases hR.1) (λx O' hR=>by
  obtain⟨h1,rfl⟩:=hR;cases h1;exact lO k N K .lf hpt (hq _))
end
def cR {α β:Type} (o:Option (bx α)) (f:α->Option (bx β)):Option (bx β):=match o with
 |some (.aO z)=>bif cZ z then some (.aO z)else none
 |some (.ret x)=>f x
 |none=>none
theorem B5 {α β:Type} {o:Option (bx α)} {f:α->Option (bx β)} {r:bx β} (h:cR o f=some r):(∃z,(o=some (.aO z)/\cZ z=true)/\r= .aO z)\/∃x,o=some (.ret x)/\f x=some r:=by
 unfold cR at h;split at h
 ·rename_i z;cases hz:cZ z with
  |true=>rw[hz]at h;cases h;exact .inl ⟨z,⟨rfl,hz⟩,rfl⟩
  |false=>rw[hz]at h;cases h
 ·rename_i x;exact .inr ⟨x,rfl,h⟩
 ·cases h
theorem Le.cR {α β:Type} {a a':Option (bx α)} {f f':α->Option (bx β)} (h:Le a a') (g:∀y,Le (f y) (f' y)):Le (cR a f) (cR a' f'):=λr hr=>by
 rcases B5 hr with⟨z,⟨h1,h2⟩,rfl⟩|⟨x,h1,h2⟩
 ·rw[h _ h1];simp[Bw.cR,h2]
 ·rw[h _ h1];exact g x _ h2
theorem Lm.cR {α β:Type} {f:Nat->Option (bx α)} {g:Nat->α->Option (bx β)} {v:Option (bx α)} {w:α->Option (bx β)} (h:Lm f v) (k:∀y,Lm (λn=>g n y) (w y)):Lm (λn=>Bw.cR (f n) (g n)) (Bw.cR v w):=by
 refine⟨λn=>Le.cR (h.1 n) λy=>(k y).1 n,λr=>⟨λhr=>?_,λ⟨n,hn⟩=>?_⟩⟩
 ·rcases B5 hr with⟨z,⟨h1,h2⟩,rfl⟩|⟨x,h1,h2⟩
  ·obtain⟨n,hn⟩:=(h.2 _).1 h1;exact⟨n,by simp[Bw.cR,hn,h2]⟩
  ·obtain⟨n,hn⟩:=(h.2 _).1 h1;obtain⟨m,hm⟩:=((k x).2 _).1 h2;refine⟨max n m,?_⟩;have e1:=h.1.le (max n m) (BP n m) _ hn;have e2:=(k x).1.le (max n m) (BR n m) _ hm;simp only[Bw.cR,e1];exact e2
 ·rcases B5 hn with⟨z,⟨h1,h2⟩,rfl⟩|⟨x,h1,h2⟩
  ·have:=(h.2 _).2 ⟨n,h1⟩;simp[Bw.cR,this,h2]
  ·have e1:=(h.2 _).2 ⟨n,h1⟩;have e2:=((k x).2 _).2 ⟨n,h2⟩;simp only[Bw.cR,e1];exact e2
theorem au.cR {α β:Type} {o:Option (bx α)} {f:α->Option (bx β)} {P:α->Prop} {Q:β->Prop} {E:AV->Prop} (hE:∀z,E z->cZ z=true) (h:au o P E) (g:∀y,P y->au (f y) Q E):au (Bw.cR o f) Q E:=by
 obtain⟨r,rfl,h⟩:=h;cases r with
 |ret x=>exact g _ h
 |aO z=>exact⟨.aO z,by simp[Bw.cR,hE z h],h⟩
class PF (α:Type) where
 R:(Nat->α)->α->Prop
 le:α->α->Prop
 lm:(Nat->α)->α
 bot:α
 bot_le:∀x,le bot x
 of:∀{f:Nat->α},(∀n,le (f n) (f (n+1)))->R f (lm f)
 up:∀{f:Nat->α} {p:α},R f p->∀n,le (f n) (f (n+1))
 uniq:∀{f:Nat->α} {p q:α},R f p->R f q->p=q
 tail:∀{f:Nat->α} {p:α},R f p->R (λn=>f (n+1)) p
 two:∀{f g:α} (k:Nat),le f g->R (λn=>bif Nat.ble n k then f else g) g
theorem Lm.tail {α:Type} {f:Nat->Option α} {p:Option α} (h:Lm f p):Lm (λn=>f (n+1)) p:=
 ⟨λn=>h.1 (n+1),λr=>⟨λhr=>by obtain⟨n,hn⟩:=(h.2 r).1 hr;exact⟨n,h.1 n r hn⟩,λ⟨n,hn⟩=>(h.2 r).2 ⟨n+1,hn⟩⟩⟩
theorem Lm.two {α:Type} {f g:Option α} (k:Nat) (h:Le f g):Lm (λn=>bif Nat.ble n k then f else g) g:=by
 refine⟨λn r hr=>?_,λr=>⟨λhr=>⟨k+1,?_⟩,λ⟨n,hn⟩=>?_⟩⟩
 ·cases h1:Nat.ble n k with
  |true=>
   simp only[h1,aD]at hr;cases h2:Nat.ble (n+1) k with
   |true=>simpa only[h2,aD]using hr
   |false=>simpa only[h2,aF]using h r hr
  |false=>
   simp only[h1,aF]at hr;have h2:Nat.ble (n+1) k=false:=by
    cases h3:Nat.ble (n+1) k with
    |false=>rfl
    |true=>
     have:=dL h3;have h4:Nat.ble n k=true:=pR (by omega);rw[h1]at h4;cases h4
   simpa only[h2,aF]using hr
 ·have h2:Nat.ble (k+1) k=false:=by
   cases h3:Nat.ble (k+1) k with
   |false=>rfl
   |true=>have:=dL h3;omega
  simpa only[h2,aF]using hr
 ·cases h1:Nat.ble n k with
  |true=>simp only[h1,aD]at hn;exact h r hn
  |false=>simpa only[h1,aF]using hn
noncomputable instance PF.opt {α:Type}:PF (Option α) where
 R:=Lm
 le:=Le
 lm:=lim
 bot:=none
 bot_le:=λ_=>Le.zero rfl
 of:=Lm.of
 up:=λh=>h.1
 uniq:=Lm.uniq
 tail:=Lm.tail
 two:=Lm.two
theorem aei {α β:Type} {f g:α->β} (k n:Nat) (x:α):(bif Nat.ble n k then f else g) x=bif Nat.ble n k then f x else g x:=by cases Nat.ble n k<;>rfl
noncomputable instance PF.fnI {α β:Type} [PF β]:PF (α->β) where
 R f p:=∀x,PF.R (λn=>f n x) (p x)
 le f g:=∀x,PF.le (f x) (g x)
 lm f:=λx=>PF.lm λn=>f n x
 bot:=λ_=>PF.bot
 bot_le:=λ_ _=>PF.bot_le _
 of:=λh x=>PF.of λn=>h n x
 up:=λh n x=>PF.up (h x) n
 uniq:=λh g=>funext λx=>PF.uniq (h x) (g x)
 tail:=λh x=>PF.tail (h x)
 two:=λ{f g} k h x=>by
  have:=PF.two k (h x);rwa[show(λn=>(bif Nat.ble n k then f else g) x)=λn=>bif Nat.ble n k then f x else g x from funext λn=>aei k n x]
theorem aej {α β:Type} {f g:α×β} (k n:Nat):(bif Nat.ble n k then f else g).1=bif Nat.ble n k then f.1 else g.1:=by cases Nat.ble n k<;>rfl
theorem aek {α β:Type} {f g:α×β} (k n:Nat):(bif Nat.ble n k then f else g).2=bif Nat.ble n k then f.2 else g.2:=by cases Nat.ble n k<;>rfl
noncomputable instance PF.prod {α β:Type} [PF α] [PF β]:PF (α×β) where
 R f p:=PF.R (λn=>(f n).1) p.1/\PF.R (λn=>(f n).2) p.2
 le f g:=PF.le f.1 g.1/\PF.le f.2 g.2
 lm f:=(PF.lm λn=>(f n).1,PF.lm λn=>(f n).2)
 bot:=(PF.bot,PF.bot)
 bot_le:=λ_=>⟨PF.bot_le _,PF.bot_le _⟩
 of:=λh=>⟨PF.of λn=>(h n).1,PF.of λn=>(h n).2⟩
 up:=λh n=>⟨PF.up h.1 n,PF.up h.2 n⟩
 uniq:=λh g=>Prod.ext (PF.uniq h.1 g.1) (PF.uniq h.2 g.2)
 tail:=λh=>⟨PF.tail h.1,PF.tail h.2⟩
 two:=λ{f g} k h=>by
  constructor
  ·rw[show(λn=>(bif Nat.ble n k then f else g).1)=λn=>bif Nat.ble n k then f.1 else g.1 from funext λn=>aej k n];exact PF.two k h.1
  ·rw[show(λn=>(bif Nat.ble n k then f else g).2)=λn=>bif Nat.ble n k then f.2 else g.2 from funext λn=>aek k n];exact PF.two k h.2
section
variable {α β γ:Type}
def PF.Fix [PF α] (F:Nat->α) (Ψ:α->α):Prop:=PF.R F (PF.lm F)/\PF.lm F=Ψ (PF.lm F)
theorem PF.fix [PF α] {F:Nat->α} {Φ:Nat->α->α} {Ψ:α->α} (hΦ:∀f p,PF.R f p->PF.R (λn=>Φ n (f n)) (Ψ p)) (h0:F 0=PF.bot) (hs:∀n,F (n+1)=Φ n (F n)):PF.Fix F Ψ:=by
 have up:∀n,PF.le (F n) (F (n+1)):=by
  intro n
  induction n with
  |zero=>rw[h0];exact PF.bot_le _
  |succ n ih=>
   have h1:=PF.up (hΦ _ _ (PF.two n ih)) n;have e1:Nat.ble n n=true:=pR (bS n);have e2:Nat.ble (n+1) n=false:=by
    cases h3:Nat.ble (n+1) n with
    |false=>rfl
    |true=>have:=dL h3;omega
   simp only[e1,e2,aD,aF]at h1;rw[hs (n+1),hs n]at*
   exact h1
 have hR:=PF.of up;refine⟨hR,PF.uniq (f:=λn=>F (n+1)) (PF.tail hR) ?_⟩;rw[show(λn=>F (n+1))=λn=>Φ n (F n)from funext hs];exact hΦ _ _ hR
theorem PF.fn [PF β] {f:Nat->α->β} {p:α->β} (h:∀x,PF.R (λn=>f n x) (p x)):PF.R f p:=h
theorem PF.ap [PF β] {f:Nat->α->β} {p:α->β} (h:PF.R f p) (x:α):PF.R (λn=>f n x) (p x):=h x
theorem PF.pair [PF α] [PF β] {f:Nat->α} {g:Nat->β} {p:α} {q:β} (h:PF.R f p) (k:PF.R g q):PF.R (λn=>(f n,g n)) (p,q):=⟨h,k⟩
theorem PF.const (o:Option α):PF.R (λ_=>o) o:=Lm.const o
theorem PF.bif {c:Bool} {f g:Nat->Option α} {v w:Option α} (h:PF.R f v) (k:PF.R g w):PF.R (λn=>bif c then f n else g n) (bif c then v else w):=Lm.bif h k
theorem PF.bind {f:Nat->Option α} {g:Nat->α->Option β} {v:Option α} {w:α->Option β} (h:PF.R f v) (k:∀y,PF.R (λn=>g n y) (w y)):PF.R (λn=>(f n).bind (g n)) (v.bind w):=Lm.bind h k
theorem PF.aT {f:Nat->Option (bx α)} {g:Nat->α->Option (bx β)} {v:Option (bx α)} {w:α->Option (bx β)} (h:PF.R f v) (k:∀y,PF.R (λn=>g n y) (w y)):PF.R (λn=>Bw.aT (f n) (g n)) (Bw.aT v w):=Lm.aT h k
theorem PF.cR {f:Nat->Option (bx α)} {g:Nat->α->Option (bx β)} {v:Option (bx α)} {w:α->Option (bx β)} (h:PF.R f v) (k:∀y,PF.R (λn=>g n y) (w y)):PF.R (λn=>Bw.cR (f n) (g n)) (Bw.cR v w):=Lm.cR h k
theorem PF.fC {ty:Nat} {f:Nat->Option (bx α)} {g:Nat->Int->Int->Option β} {k:Nat->α->Option β} {v:Option (bx α)} {w:Int->Int->Option β} {z:α->Option β} (h:PF.R f v) (hg:∀x y,PF.R (λn=>g n x y) (w x y)) (hk:∀y,PF.R (λn=>k n y) (z y)):PF.R (λn=>Bw.fC ty (f n) (g n) (k n)) (Bw.fC ty v w z):=Lm.fC h hg hk
theorem PF.ex {f:Nat->Option α} {v:Option α} (h:PF.R f v) {r:α} (e:v=some r):∃n,f n=some r:=(h.2 r).1 e
structure PF.K (α β:Type) [PF α] [PF β] where
 f:α->β
 k:∀{F:Nat->α} {p:α},PF.R F p->PF.R (λn=>f (F n)) (f p)
instance [PF α] [PF β]:CoeFun (PF.K α β) λ_=>α->β:=⟨PF.K.f⟩
def PF.i [PF α]:PF.K α α:=⟨λx=>x,λh=>h⟩
def PF.K.a [PF α] [PF β] [PF γ] (π:PF.K α (β×γ)):PF.K α β:=⟨λx=>(π.f x).1,λh=>(π.k h).1⟩
def PF.K.b [PF α] [PF β] [PF γ] (π:PF.K α (β×γ)):PF.K α γ:=⟨λx=>(π.f x).2,λh=>(π.k h).2⟩
theorem zM {α β:Type} [PF α] [PF β] {F:Nat->α} {p:α} {b:Nat->β} {c:β} (h:PF.R F p) (k:PF.R F p->PF.R b c:=by
 intro h
 (repeat with_reducible refine PF.fn λ_=>?_)
 repeat' (first|with_reducible refine PF.bif ?_ ?_|with_reducible refine PF.bind ?_ (λ_=>?_)|with_reducible refine PF.aT ?_ (λ_=>?_)|with_reducible refine PF.cR ?_ (λ_=>?_)|with_reducible refine PF.fC ?_ (λ_ _=>?_) (λ_=>?_)|with_reducible exact PF.const _|((repeat with_reducible refine PF.ap ?_ _);with_reducible exact PF.K.k _ h))):PF.R b c:=k h
theorem zC {p:Prop} (h:p:=by(repeat refine PF.fn λ_=>?_);exact PF.const _):p:=h
theorem cD {α0 α1:Type} {f g:α0->α1} (h:f=g) (x0):f x0=g x0:=h▸rfl
theorem bt {α0 α1 α2:Type} {f g:α0->α1->α2} (h:f=g) (x0 x1):f x0 x1=g x0 x1:=h▸rfl
theorem cy {α0 α1 α2 α3:Type} {f g:α0->α1->α2->α3} (h:f=g) (x0 x1 x2):f x0 x1 x2=g x0 x1 x2:=h▸rfl
theorem eP {α0 α1 α2 α3 α4:Type} {f g:α0->α1->α2->α3->α4} (h:f=g) (x0 x1 x2 x3):f x0 x1 x2 x3=g x0 x1 x2 x3:=h▸rfl
theorem gY {α0 α1 α2 α3 α4 α5:Type} {f g:α0->α1->α2->α3->α4->α5} (h:f=g) (x0 x1 x2 x3 x4):f x0 x1 x2 x3 x4=g x0 x1 x2 x3 x4:=h▸rfl
theorem vG {α0 α1 α2 α3 α4 α5 α6:Type} {f g:α0->α1->α2->α3->α4->α5->α6} (h:f=g) (x0 x1 x2 x3 x4 x5):f x0 x1 x2 x3 x4 x5=g x0 x1 x2 x3 x4 x5:=h▸rfl
theorem ap7 {α0 α1 α2 α3 α4 α5 α6 α7:Type} {f g:α0->α1->α2->α3->α4->α5->α6->α7} (h:f=g) (x0 x1 x2 x3 x4 x5 x6):f x0 x1 x2 x3 x4 x5 x6=g x0 x1 x2 x3 x4 x5 x6:=h▸rfl
theorem ap8 {α0 α1 α2 α3 α4 α5 α6 α7 α8:Type} {f g:α0->α1->α2->α3->α4->α5->α6->α7->α8} (h:f=g) (x0 x1 x2 x3 x4 x5 x6 x7):f x0 x1 x2 x3 x4 x5 x6 x7=g x0 x1 x2 x3 x4 x5 x6 x7:=h▸rfl
theorem Xd {α0 α1 α2 α3 α4 α5 α6 α7 α8 α9:Type} {f g:α0->α1->α2->α3->α4->α5->α6->α7->α8->α9} (h:f=g) (x0 x1 x2 x3 x4 x5 x6 x7 x8):f x0 x1 x2 x3 x4 x5 x6 x7 x8=g x0 x1 x2 x3 x4 x5 x6 x7 x8:=h▸rfl
theorem aff {α0 α1 α2 α3 α4 α5 α6 α7 α8 α9 α10 α11:Type} {f g:α0->α1->α2->α3->α4->α5->α6->α7->α8->α9->α10->α11} (h:f=g) (x0 x1 x2 x3 x4 x5 x6 x7 x8 x9 x10):f x0 x1 x2 x3 x4 x5 x6 x7 x8 x9 x10=g x0 x1 x2 x3 x4 x5 x6 x7 x8 x9 x10:=h▸rfl
theorem afg {α0 α1 α2 α3 α4 α5 α6 α7 α8 α9 α10 α11 α12 α13 α14 α15:Type} {f g:α0->α1->α2->α3->α4->α5->α6->α7->α8->α9->α10->α11->α12->α13->α14->α15} (h:f=g) (x0 x1 x2 x3 x4 x5 x6 x7 x8 x9 x10 x11 x12 x13 x14):f x0 x1 x2 x3 x4 x5 x6 x7 x8 x9 x10 x11 x12 x13 x14=g x0 x1 x2 x3 x4 x5 x6 x7 x8 x9 x10 x11 x12 x13 x14:=h▸rfl
theorem zP {α β:Type} [PF α] [PF β] {F:Nat->α} {p:α} {b:Nat->β} {c:β} (h:PF.R F p) (k:PF.R F p->PF.R b c:=by intro h;repeat' (first|refine PF.pair ?_ ?_|exact zM h|exact zC)):PF.R b c:=k h
