/- An abstract machine over the program logic: its values name own blocks by tags, so that its steps can be computed. First part: values, slots, heap, what they say, the judgement. -/
import Derived.Test.YtfgnmgbiijpkiaaGreatKB10
set_option linter.all false
noncomputable section
namespace Go.Bw
open Go
inductive CV where
 |d (x:AV)
 |agg (xs:List CV)
 |bK (xs:List CV)
 |own (t off:Nat)
 |os (t n:Nat)
 |oe (t n off:Nat)
 |om (t:Nat)
 |fn (f:FuncId) (fs cs:List CV)
 |bu (ty:TypeId) (x:CV)
structure aC where
 b:Nat->Option Nat
 s:Nat->Nat->Option (Option Addr×Nat)
def aC.le (L L':aC):Prop:=(∀t x,L.b t=some x->L'.b t=some x)/\∀t n x,L.s t n=some x->L'.s t n=some x
theorem aC.le.refl (L:aC):L.le L:=⟨λ_ _ h=>h,λ_ _ _ h=>h⟩
theorem aC.le.trans {L L' L'':aC} (h:L.le L') (g:L'.le L''):L.le L'':=⟨λt x hx=>g.1 t x (h.1 t x hx),λt n x hx=>g.2 t n x (h.2 t n x hx)⟩
mutual
def aE (L:aC):CV->AV->Prop
 | .d x,y=>y=x
 | .agg xs,y=>∃ys,y= .agg ys/\aQ L xs ys
 | .bK xs,y=>∃ys,y= .bK ys/\aQ L xs ys
 | .own t o,y=>∃b t',L.b t=some b/\y= .own t' b o
 | .os t n,y=>∃a c t',L.s t n=some (a,c)/\y= .os t' a n c
 | .oe t n o,y=>∃a c t',L.s t n=some (a,c)/\y= .oe t' (.slice a n c) o
 | .om t,y=>∃b t',L.b t=some b/\y= .om t' b
 | .fn f fs cs,y=>∃us vs,y= .fn f us vs/\aQ L fs us/\aQ L cs vs
 | .bu t x,y=>∃u,y= .bu t u/\aE L x u
def aQ (L:aC):List CV->List AV->Prop
 |[],ys=>ys=[]
 |x::xs,ys=>∃y r,ys=y::r/\aE L x y/\aQ L xs r
end
section
variable {L L':aC}
mutual
theorem aE.mono (h:L.le L'):∀{x:CV} {y:AV},aE L x y->aE L' x y
 | .d x,_,h1=>by simp only[aE]at h1⊢;exact h1
 | .agg xs,_,h1=>by simp only[aE]at h1⊢;obtain⟨ys,e,h2⟩:=h1;exact⟨ys,e,aQ.mono h h2⟩
 | .bK xs,_,h1=>by simp only[aE]at h1⊢;obtain⟨ys,e,h2⟩:=h1;exact⟨ys,e,aQ.mono h h2⟩
 | .own t o,_,h1=>by simp only[aE]at h1⊢;obtain⟨b,t',e,h2⟩:=h1;exact⟨b,t',h.1 _ _ e,h2⟩
 | .os t n,_,h1=>by simp only[aE]at h1⊢;obtain⟨a,c,t',e,h2⟩:=h1;exact⟨a,c,t',h.2 _ _ _ e,h2⟩
 | .oe t n o,_,h1=>by simp only[aE]at h1⊢;obtain⟨a,c,t',e,h2⟩:=h1;exact⟨a,c,t',h.2 _ _ _ e,h2⟩
 | .om t,_,h1=>by simp only[aE]at h1⊢;obtain⟨b,t',e,h2⟩:=h1;exact⟨b,t',h.1 _ _ e,h2⟩
 | .fn f fs cs,_,h1=>by simp only[aE]at h1⊢;obtain⟨us,vs,e,h2,h3⟩:=h1;exact⟨us,vs,e,aQ.mono h h2,aQ.mono h h3⟩
 | .bu t x,_,h1=>by simp only[aE]at h1⊢;obtain⟨u,e,h2⟩:=h1;exact⟨u,e,aE.mono h h2⟩
theorem aQ.mono (h:L.le L'):∀{x:List CV} {y:List AV},aQ L x y->aQ L' x y
 |[],_,h1=>by simp only[aQ]at h1⊢;exact h1
 |_::_,_,h1=>by simp only[aQ]at h1⊢;obtain⟨y,r,e,h2,h3⟩:=h1;exact⟨y,r,e,aE.mono h h2,aQ.mono h h3⟩
end
theorem aQ.length:∀{xs:List CV} {ys:List AV},aQ L xs ys->ys.length=xs.length
 |[],_,h=>by simp only[aQ]at h;simp[h]
 |_::_,_,h=>by simp only[aQ]at h;obtain⟨y,r,rfl,_,h⟩:=h;simp[aQ.length h]
theorem aQ.nth:∀{xs:List CV} {ys:List AV} {n:Nat} {x:CV},aQ L xs ys->Bw.nth xs n=some x->∃y,Bw.nth ys n=some y/\aE L x y
 |[],_,_,_,_,h=>by simp[Bw.nth]at h
 |y::_,ys,0,x,hr,h=>by
  simp only[aQ]at hr;obtain⟨v,r,rfl,h1,_⟩:=hr;simp only[Bw.nth,aA]at h;subst h;exact⟨v,by simp[Bw.nth],h1⟩
 |_::xs,ys,n+1,x,hr,h=>by
  simp only[aQ]at hr;obtain⟨v,r,rfl,_,h2⟩:=hr;simp only[Bw.nth]at h;obtain⟨u,h3,h4⟩:=aQ.nth h2 h;exact⟨u,by simpa[Bw.nth]using h3,h4⟩
theorem aQ.drop:∀(n:Nat) {xs:List CV} {ys:List AV},aQ L xs ys->aQ L (xs.drop n) (ys.drop n)
 |0,_,_,h=>by simpa using h
 |n+1,[],_,h=>by simp only[aQ]at h;subst h;simp[aQ]
 |n+1,_::_,_,h=>by simp only[aQ]at h;obtain⟨v,r,rfl,_,h⟩:=h;simpa using aQ.drop n h
theorem aQ.take:∀(n:Nat) {xs:List CV} {ys:List AV},aQ L xs ys->aQ L (xs.take n) (ys.take n)
 |0,_,_,_=>by simp[aQ]
 |n+1,[],_,h=>by simp only[aQ]at h;subst h;simp[aQ]
 |n+1,_::_,_,h=>by simp only[aQ]at h;obtain⟨v,r,rfl,h1,h⟩:=h;simp only[xo,aQ];exact⟨v,_,rfl,h1,aQ.take n h⟩
theorem aQ.append:∀{xs xs':List CV} {ys ys':List AV},aQ L xs ys->aQ L xs' ys'->aQ L (xs++xs') (ys++ys')
 |[],_,_,_,h,g=>by simp only[aQ]at h;subst h;simpa using g
 |_::_,_,_,_,h,g=>by simp only[aQ]at h;obtain⟨v,r,rfl,h1,h⟩:=h;simp only[ky,aQ];exact⟨v,_,rfl,h1,aQ.append h g⟩
theorem fG:∀(xs:List AV),aQ L (xs.map .d) xs
 |[]=>by simp[aQ]
 |x::r=>by simp only[dW,aQ,aE];exact⟨_,_,rfl,rfl,fG r⟩
def eF:List CV->Option (List AV)
 |[]=>some []
 | .d x::r=>match eF r with
  |some xs=>some (x::xs)
  |none=>none
 |_::_=>none
theorem kD:∀{xs:List CV} {ys zs:List AV},eF xs=some zs->aQ L xs ys->ys=zs
 |[],ys,zs,h,hr=>by simp only[eF,aA]at h;simp only[aQ]at hr;rw[hr,<-h]
 |x::r,ys,zs,h,hr=>by
  cases x<;>simp only[eF]at h<;>try (cases h;done)
  split at h
  ·rename_i zs' h1;simp only[aA]at h;simp only[aQ]at hr;obtain⟨v,r',rfl,h2,h3⟩:=hr;simp only[aE]at h2;rw[h2,kD h1 h3,h]
  ·cases h
def qo (xs:List CV):CV:=match eF xs with
 |some ys=> .d (.agg ys)
 |none=> .agg xs
theorem uQ {xs:List CV} {ys:List AV} (h:aQ L xs ys):aE L (qo xs) (.agg ys):=by
 unfold qo;split
 ·rename_i zs hz;simp only[aE];rw[kD hz h]
 ·simp only[aE];exact⟨ys,rfl,h⟩
def A7 (xs:List CV):CV:=match eF xs with
 |some ys=> .d (.bK ys)
 |none=> .bK xs
theorem EO {xs:List CV} {ys:List AV} (h:aQ L xs ys):aE L (A7 xs) (.bK ys):=by
 unfold A7;split
 ·rename_i zs hz;simp only[aE];rw[kD hz h]
 ·simp only[aE];exact⟨ys,rfl,h⟩
end
def Tr.put {D:Type}:Nat->Tr D->Nat->Option D->Tr D
 |0,_,_,_=> .lf
 |f+1,.lf,n,y=> @Bool.rec (λ_=>Tr D) (@Bool.rec (λ_=>Tr D) (.nd none .lf (Tr.put f .lf (Nat.pred (gk n)) y)) (.nd none (Tr.put f .lf (gk n) y) .lf) (Nat.beq (iz n) 1)) (.nd y .lf .lf) (Nat.beq n 0)
 |f+1,.nd x l r,n,y=> @Bool.rec (λ_=>Tr D) (@Bool.rec (λ_=>Tr D) (.nd x l (Tr.put f r (Nat.pred (gk n)) y)) (.nd x (Tr.put f l (gk n) y) r) (Nat.beq (iz n) 1)) (.nd y l r) (Nat.beq n 0)
theorem Tr.Ri {D:Type} (t:Tr D) (n:Nat) (y:Option D):Tr.put 0 t n y= .lf:=rfl
theorem Tr.vC {D:Type} (f n:Nat) (y:Option D):Tr.put (f+1) .lf n y=match Nat.beq n 0 with
  |true=> .nd y .lf .lf
  |false=>match Nat.beq (iz n) 1 with
   |true=> .nd none (Tr.put f .lf (gk n) y) .lf
   |false=> .nd none .lf (Tr.put f .lf (Nat.pred (gk n)) y):=by
 rw[Tr.put]
 all_goals cases Nat.beq n 0
 all_goals first|rfl|(cases Nat.beq (iz n) 1<;>rfl)
theorem Tr.vD {D:Type} (f:Nat) (x:Option D) (l r:Tr D) (n:Nat) (y:Option D):Tr.put (f+1) (.nd x l r) n y=match Nat.beq n 0 with
  |true=> .nd y l r
  |false=>match Nat.beq (iz n) 1 with
   |true=> .nd x (Tr.put f l (gk n) y) r
   |false=> .nd x l (Tr.put f r (Nat.pred (gk n)) y):=by
 rw[Tr.put]
 all_goals cases Nat.beq n 0
 all_goals first|rfl|(cases Nat.beq (iz n) 1<;>rfl)
def Tr.cB {D R:Type}:Nat->Tr D->Nat->Option D->(Tr D->R)->R
 |0,_,_,_,k=>k .lf
 |f+1,.lf,n,y,k=> @Bool.rec (λ_=>R) (@Bool.rec (λ_=>R) (Tr.cB f .lf (Nat.pred (gk n)) y λr=>k (.nd none .lf r)) (Tr.cB f .lf (gk n) y λl=>k (.nd none l .lf)) (Nat.beq (iz n) 1)) (k (.nd y .lf .lf)) (Nat.beq n 0)
 |f+1,.nd x l r,n,y,k=> @Bool.rec (λ_=>R) (@Bool.rec (λ_=>R) (Tr.cB f r (Nat.pred (gk n)) y λr=>k (.nd x l r)) (Tr.cB f l (gk n) y λl=>k (.nd x l r)) (Nat.beq (iz n) 1)) (k (.nd y l r)) (Nat.beq n 0)
theorem Tr.dy {D R:Type}:∀(f:Nat) (t:Tr D) (n:Nat) (y:Option D) (k:Tr D->R),Tr.cB f t n y k=k (Tr.put f t n y)
 |0,_,_,_,_=>rfl
 |f+1,.lf,n,y,k=>by
  rw[Tr.vC,Tr.cB];cases Nat.beq n 0 with
  |true=>rfl
  |false=>cases Nat.beq (iz n) 1<;>exact Tr.dy f _ _ _ _
 |f+1,.nd x l r,n,y,k=>by
  rw[Tr.vD,Tr.cB];cases Nat.beq n 0 with
  |true=>rfl
  |false=>cases Nat.beq (iz n) 1<;>exact Tr.dy f _ _ _ _
theorem fE {n m:Nat} (h:Nat.beq n m=false):n≠m:=λe=>by subst e;rw[rl]at h;cases h
theorem Tr.put_comm {D:Type}:∀(f:Nat) (t:Tr D) (n m:Nat) (y z:Option D),n≠m->Tr.put f (Tr.put f t n y) m z=Tr.put f (Tr.put f t m z) n y
 |0,_,_,_,_,_,_=>rfl
 |f+1,t,n,m,y,z,hne=>by
  have ih:=λ(t:Tr D) (n m:Nat) (y z:Option D) (h:n≠m)=>Tr.put_comm f t n m y z h;have hL:∀n m:Nat,n≠m->Nat.beq n 0=false->Nat.beq m 0=false->Nat.beq (Nat.mod n 2) 1=true->Nat.beq (Nat.mod m 2) 1=true->Nat.div n 2≠Nat.div m 2:=by
   intro n m h h1 h2 h3 h4;have h3:=bB h3;have h4:=bB h4;change n%2=1 at h3;change m%2=1 at h4;change ¬n/2=m/2;omega
  have hR:∀n m:Nat,n≠m->Nat.beq n 0=false->Nat.beq m 0=false->Nat.beq (Nat.mod n 2) 1=false->Nat.beq (Nat.mod m 2) 1=false->Nat.pred (Nat.div n 2)≠Nat.pred (Nat.div m 2):=by
   intro n m h h1 h2 h3 h4;have h1:=fE h1;have h2:=fE h2;have h3:=fE h3;have h4:=fE h4;change ¬n%2=1 at h3;change ¬m%2=1 at h4;change ¬n/2-1=m/2-1;omega
  cases h1:Nat.beq n 0<;>cases h2:Nat.beq m 0<;>cases h3:Nat.beq (Nat.mod n 2) 1<;>cases h4:Nat.beq (Nat.mod m 2) 1<;>cases t<;>simp only[Tr.vC,Tr.vD,jZ,ka,h1,h2,h3,h4]<;>
   first
   |(rw[ih _ _ _ _ _ (hL n m hne h1 h2 h3 h4)];done)
   |(rw[ih _ _ _ _ _ (hR n m hne h1 h2 h3 h4)];done)
   |(exact absurd ((bB h1).trans (bB h2).symm) hne)
   |skip
theorem Tr.dU {D:Type}:∀(f:Nat) (t:Tr D) (n m:Nat) (y:Option D) (z:D),(Tr.put f t n y).get m=some z->(m=n/\y=some z)\/(m≠n/\t.get m=some z)
 |0,_,_,_,_,_,h=>by simp[Tr.Ri,Tr.ie]at h
 |f+1,.lf,n,m,y,z,h=>by
  simp only[Tr.vC,Tr.vD,jZ,ka]at h;cases h0:Nat.beq n 0 with
  |true=>
   have:=bB h0;subst this;rw[h0]at h;simp only[Tr.mu,jZ,ka]at h;cases hm:Nat.beq m 0 with
   |true=>rw[hm]at h;exact .inl ⟨bB hm,h⟩
   |false=>rw[hm]at h;simp only at h;cases hb:Nat.beq (Nat.mod m 2) 1<;>rw[hb]at h<;>cases h
  |false=>
   have hn:=fE h0;rw[h0]at h;simp only at h;cases h1:Nat.beq (Nat.mod n 2) 1 with
   |true=>
    rw[h1]at h;have h1:=bB h1;simp only[Tr.mu,jZ,ka]at h;cases hm:Nat.beq m 0 with
    |true=>rw[hm]at h;cases h
    |false=>
     have hm:=fE hm;simp only[‹Nat.beq m 0=false›]at h;cases hb:Nat.beq (Nat.mod m 2) 1 with
     |true=>
      rw[hb]at h;have hb:=bB hb;rcases Tr.dU f .lf _ _ y z h with⟨h2,h3⟩|⟨_,h3⟩
      ·refine .inl ⟨?_,h3⟩;change n%2=1 at h1;change m%2=1 at hb;change m/2=n/2 at h2;omega
      ·simp[Tr.ie]at h3
     |false=>rw[hb]at h;cases h
   |false=>
    rw[h1]at h;have h1:=fE h1;simp only[Tr.mu,jZ,ka]at h;cases hm:Nat.beq m 0 with
    |true=>rw[hm]at h;cases h
    |false=>
     have hm:=fE hm;simp only[‹Nat.beq m 0=false›]at h;cases hb:Nat.beq (Nat.mod m 2) 1 with
     |true=>rw[hb]at h;cases h
     |false=>
      rw[hb]at h;have hb:=fE hb;rcases Tr.dU f .lf _ _ y z h with⟨h2,h3⟩|⟨_,h3⟩
      ·refine .inl ⟨?_,h3⟩;change ¬n%2=1 at h1;change ¬m%2=1 at hb;change m/2-1=n/2-1 at h2;omega
      ·simp[Tr.ie]at h3
 |f+1,.nd x l r,n,m,y,z,h=>by
  simp only[Tr.vC,Tr.vD,jZ,ka]at h;cases h0:Nat.beq n 0 with
  |true=>
   have:=bB h0;subst this;rw[h0]at h;simp only[Tr.mu,jZ,ka]at h⊢;cases hm:Nat.beq m 0 with
   |true=>rw[hm]at h;exact .inl ⟨bB hm,h⟩
   |false=>rw[hm]at h;exact .inr ⟨fE hm,h⟩
  |false=>
   have hn:=fE h0;rw[h0]at h;simp only at h;cases h1:Nat.beq (Nat.mod n 2) 1 with
   |true=>
    rw[h1]at h;have h1:=bB h1;simp only[Tr.mu,jZ,ka]at h⊢;cases hm:Nat.beq m 0 with
    |true=>rw[hm]at h;exact .inr ⟨λe=>hn (by rw[<-e];exact bB hm),h⟩
    |false=>
     rw[hm]at h;simp only at h⊢;have hm:=fE hm;cases hb:Nat.beq (Nat.mod m 2) 1 with
     |true=>
      rw[hb]at h;have hb:=bB hb;change n%2=1 at h1;change m%2=1 at hb;rcases Tr.dU f l _ _ y z h with⟨h2,h3⟩|⟨h2,h3⟩
      ·refine .inl ⟨?_,h3⟩;change m/2=n/2 at h2;omega
      ·refine .inr ⟨?_,h3⟩;change ¬m/2=n/2 at h2;omega
     |false=>
      rw[hb]at h;have hb:=fE hb;change n%2=1 at h1;change ¬m%2=1 at hb;exact .inr ⟨by omega,h⟩
   |false=>
    rw[h1]at h;have h1:=fE h1;simp only[Tr.mu,jZ,ka]at h⊢;cases hm:Nat.beq m 0 with
    |true=>rw[hm]at h;exact .inr ⟨λe=>hn (by rw[<-e];exact bB hm),h⟩
    |false=>
     rw[hm]at h;simp only at h⊢;have hm:=fE hm;cases hb:Nat.beq (Nat.mod m 2) 1 with
     |true=>
      rw[hb]at h;have hb:=bB hb;change ¬n%2=1 at h1;change m%2=1 at hb;exact .inr ⟨by omega,h⟩
     |false=>
      rw[hb]at h;have hb:=fE hb;change ¬n%2=1 at h1;change ¬m%2=1 at hb;rcases Tr.dU f r _ _ y z h with⟨h2,h3⟩|⟨h2,h3⟩
      ·refine .inl ⟨?_,h3⟩;change m/2-1=n/2-1 at h2;omega
      ·refine .inr ⟨?_,h3⟩;change ¬m/2-1=n/2-1 at h2;omega
abbrev TS:=Tr CV
inductive bg where
 |box (cs:List CV)
 |row (e k:Nat) (rows:List (List AV))
 |map (es:List (Value×CV))
 |jG (cs:List AV)
 |gq (k:Nat) (rows:List (List AV))
 |set (l:List (List UInt8))
 |iy (l:List Int)
 |gone
structure Hp where
 e:Tr bg
 n:Nat
def il (L:aC):List (Value×CV)->List (Value×AV)->Prop
 |[],ys=>ys=[]
 |x::xs,ys=>∃y r,ys=y::r/\y.1=x.1/\aE L x.2 y.2/\il L xs r
theorem il.mono {L L':aC} (h:L.le L'):∀{xs:List (Value×CV)} {ys:List (Value×AV)},il L xs ys->il L' xs ys
 |[],_,h1=>by simp only[il]at h1⊢;exact h1
 |_::_,_,h1=>by simp only[il]at h1⊢;obtain⟨y,r,e,h2,h3,h4⟩:=h1;exact⟨y,r,e,h2,h3.mono h,il.mono h h4⟩
def S5 (l:List (List UInt8)):List (Value×AV):=l.map λs=>(.string ⟨⟨s⟩⟩,.v (.bool true))
def nR (l:List Int):List (Value×AV):=l.map λn=>(.int .i64 n,.v (.bool true))
def ju (L:aC) (i:Nat):bg->ah->Prop
 | .box cs,y=>∃b cs',L.b i=some b/\y= .box b cs'/\aQ L cs cs'
 | .row e k rows,y=>(∃a c,L.s i rows.length=some (a,c)/\y= .row (.slice a rows.length c) e k rows)/\∀m,rows.length<m->L.s i m=none
 | .map es,y=>∃b es',L.b i=some b/\y= .map b es'/\il L es es'
 | .jG cs,y=>∃b,L.b i=some b/\y= .fact (.ip cs) (.pointer (some ⟨b,0,none⟩))
 | .gq k rows,y=>∃a c,L.s i rows.length=some (a,c)/\y= .fact (.sl k rows) (.slice a rows.length c)
 | .set l,y=>∃b,L.b i=some b/\y= .map b (S5 l)
 | .iy l,y=>∃b,L.b i=some b/\y= .map b (nR l)
 | .gone,_=>True
theorem ju.mono {L L':aC} (h:L.le L') {i:Nat} (hi:L'.s i=L.s i) {x:bg} {y:ah} (hx:ju L i x y):ju L' i x y:=by
 cases x with
 |box cs=>obtain⟨b,cs',h1,h2,h3⟩:=hx;exact⟨b,cs',h.1 _ _ h1,h2,h3.mono h⟩
 |row e k rows=>obtain⟨⟨a,c,h1,h2⟩,h3⟩:=hx;exact⟨⟨a,c,by rw[hi];exact h1,h2⟩,λm hm=>by rw[hi];exact h3 m hm⟩
 |map es=>obtain⟨b,es',h1,h2,h3⟩:=hx;exact⟨b,es',h.1 _ _ h1,h2,h3.mono h⟩
 |jG cs=>obtain⟨b,h1,h2⟩:=hx;exact⟨b,h.1 _ _ h1,h2⟩
 |gq k rows=>obtain⟨a,c,h1,h2⟩:=hx;exact⟨a,c,h.2 _ _ _ h1,h2⟩
 |set l=>obtain⟨b,h1,h2⟩:=hx;exact⟨b,h.1 _ _ h1,h2⟩
 |iy l=>obtain⟨b,h1,h2⟩:=hx;exact⟨b,h.1 _ _ h1,h2⟩
 |gone=>trivial
def SS (L:aC) (Z:TS) (s:Sl):Prop:=∀t x,Z.get t=some x->∃y,s t=some y/\aE L x y
theorem SS.mono {L L':aC} (h:L.le L') {Z:TS} {s:Sl} (hs:SS L Z s):SS L' Z s:=λt x hx=>by
 obtain⟨y,h1,h2⟩:=hs t x hx;exact⟨y,h1,h2.mono h⟩
structure HS (L:aC) (O:Hp) (ηB:List ah):Prop where
 en:∀i x,O.e.get i=some x->∃y,nth ηB i=some y/\ju L i x y
 len:ηB.length=O.n
 eY:∀t,O.n<=t->L.b t=none/\∀n,L.s t n=none
def bN (Z:TS) (dst:Option Nat) (x:CV):TS:=match dst with
 |some d=>Tr.put 24 Z d (some x)
 |none=>Z
theorem SS.put {L:aC} {Z:TS} {ZB:Sg} (h:SS L Z (look ZB)) (dst:Option Nat) {x:CV} {y:AV} (hx:aE L x y):SS L (bN Z dst x) (look (jB dst y ZB)):=by
 cases dst with
 |none=>exact h
 |some d=>
  intro t z hz;rcases Tr.dU 24 Z d t (some x) z hz with⟨rfl,h1⟩|⟨hne,h1⟩
  ·cases h1;exact⟨y,by simp[jB,look],hx⟩
  ·obtain⟨u,h2,h3⟩:=h t z h1;refine⟨u,?_,h3⟩;have:Nat.beq d t=false:=by cases hb:Nat.beq d t with
    |false=>rfl
    |true=>exact absurd (bB hb).symm hne
   simp only[jB,look,this];exact h2
inductive DE where
 |norm
 |exit (id:Nat)
 |ret
 |aO (x:CV)
def DE.inst (L:aC):DE->AE->Prop
 | .norm,e=>e= .norm
 | .exit i,e=>e= .exit i
 | .ret,e=>e= .ret
 | .aO x,e=>∃y,e= .aO y/\aE L x y
abbrev DQ:=DE->TS->Hp->Prop
def DE.sl (e:DE) (Z:TS):TS:=match e with
 | .aO _=> .lf
 |_=>Z
def aC.e7 (K:Nat) (L L':aC):Prop:=∀t,t<K->(∀x,L.b t=some x->L'.b t=some x)/\∀n x,L.s t n=some x->L'.s t n=some x
theorem aC.e7.refl (K:Nat) (L:aC):aC.e7 K L L:=λ_ _=>⟨λ_ h=>h,λ_ _ h=>h⟩
theorem aC.e7.trans {K:Nat} {L L' L'':aC} (h:aC.e7 K L L') (g:aC.e7 K L' L''):aC.e7 K L L'':=λt ht=>⟨λx hx=>(g t ht).1 x ((h t ht).1 x hx),λn x hx=>(g t ht).2 n x ((h t ht).2 n x hx)⟩
theorem aC.le.toK {L L':aC} (h:L.le L') (K:Nat):aC.e7 K L L':=λt _=>⟨h.1 t,h.2 t⟩
theorem aC.e7.less {K K':Nat} {L L':aC} (h:aC.e7 K L L') (hk:K'<=K):aC.e7 K' L L':=λt ht=>h t (lZ ht hk)
def lift (K:Nat) (L:aC) (Q:DQ):AQ:=λe ZB ηB=>∃L' d Z O,aC.e7 K L L'/\DE.inst L' d e/\SS L' Z (look ZB)/\HS L' O ηB/\Q d Z O
theorem mZ {K:Nat} {L L':aC} (h:aC.e7 K L L') {Q Q':DQ} (hq:∀e Z O,Q e Z O->Q' e Z O) {e:AE} {ZB:Sg} {ηB:List ah} (hl:lift K L' Q e ZB ηB):lift K L Q' e ZB ηB:=by
 obtain⟨L1,d,Z,O,h1,h2,h3,h4,h5⟩:=hl;exact⟨L1,d,Z,O,h.trans h1,h2,h3,h4,hq _ _ _ h5⟩
def DC (E:Env) (N K:Nat) (c:Code) (Q:DQ) (Z:TS) (O:Hp):Prop:=∀L ZB ηB,SS L Z (look ZB)->HS L O ηB->bD E.toCx N c (lift K L Q) ZB ηB
def DO (E:Env) (N K:Nat) (all rest:List Oper) (Q:DQ) (Z:TS) (O:Hp):Prop:=∀L ZB ηB,SS L Z (look ZB)->HS L O ηB->bh E.toCx N all.toArray rest (lift K L Q) ZB ηB
abbrev DE.then (next:TS->Hp->Prop) (Q:DQ):DQ:=λe Z O=>match e with
 | .norm=>next Z O
 | .exit i=>Q (.exit i) Z O
 | .ret=>Q .ret Z O
 | .aO x=>Q (.aO x) Z O
abbrev DE.inBlock (id:Nat) (Q:DQ):DQ:=λe Z O=>match e with
 | .norm=>Q .norm Z O
 | .exit i=>match Nat.beq i id with
  |true=>Q .norm Z O
  |false=>Q (.exit i) Z O
 | .ret=>Q .ret Z O
 | .aO x=>Q (.aO x) Z O
section
variable {E:Env} {N K:Nat} {Q:DQ} {Z:TS} {O:Hp}
theorem oZ {L:aC} {d:DE} {e:AE} {ZB:Sg} {ηB:List ah} (h:DE.inst L d e) (hs:SS L Z (look ZB)) (hh:HS L O ηB) (hq:Q d Z O):lift K L Q e ZB ηB:=⟨L,d,Z,O,.refl K L,h,hs,hh,hq⟩
theorem DC.skip (h:Q .norm Z O):DC E N K .skip Q Z O:=λL ZB ηB hs hh=>bD.skip (oZ (d:= .norm) rfl hs hh h)
theorem DC.exit {id:Nat} (h:Q (.exit id) Z O):DC E N K (.exit id) Q Z O:=λL ZB ηB hs hh=>bD.exit (oZ (d:= .exit id) rfl hs hh h)
theorem DC.ret (h:Q .ret Z O):DC E N K .ret Q Z O:=λL ZB ηB hs hh=>bD.ret (oZ (d:= .ret) rfl hs hh h)
theorem DC.label {l:Nat} (h:Q .norm Z O):DC E N K (.label l) Q Z O:=λL ZB ηB hs hh=>bD.label (oZ (d:= .norm) rfl hs hh h)
theorem DC.mono {c:Code} {Q':DQ} (h:DC E N K c Q Z O) (hq:∀e Z O,Q e Z O->Q' e Z O):DC E N K c Q' Z O:=λL ZB ηB hs hh=>
 bD.mono (h L ZB ηB hs hh) λ_ _ _ hl=>mZ (.refl K L) hq hl
theorem DC.seq {x y:Code} (h:DC E N K x (DE.then (DC E N K y Q) Q) Z O):DC E N K (.seq x y) Q Z O:=λL ZB ηB hs hh=>by
 refine bD.seq (bD.mono (h L ZB ηB hs hh) ?_);rintro e ZB' OB' ⟨L',d,Z',η',h1,h2,h3,h4,h5⟩;cases d with
 |norm=>simp only[DE.inst]at h2;subst h2;exact bD.mono (h5 L' ZB' OB' h3 h4) λ_ _ _ hl=>mZ h1 (λ_ _ _ h=>h) hl
 |exit i=>simp only[DE.inst]at h2;subst h2;exact⟨L',.exit i,Z',η',h1,rfl,h3,h4,h5⟩
 |ret=>simp only[DE.inst]at h2;subst h2;exact⟨L',.ret,Z',η',h1,rfl,h3,h4,h5⟩
 |aO x=>obtain⟨y,rfl,h2⟩:=h2;exact⟨L',.aO x,Z',η',h1,⟨y,rfl,h2⟩,h3,h4,h5⟩
theorem DC.block {id:Nat} {c:Code} (h:DC E N K c (DE.inBlock id Q) Z O):DC E N K (.block id c) Q Z O:=λL ZB ηB hs hh=>by
 refine bD.block (bD.mono (h L ZB ηB hs hh) ?_);rintro e ZB' OB' ⟨L',d,Z',η',h1,h2,h3,h4,h5⟩;cases d with
 |norm=>simp only[DE.inst]at h2;subst h2;exact⟨L',.norm,Z',η',h1,rfl,h3,h4,h5⟩
 |exit i=>
  simp only[DE.inst]at h2;subst h2;simp only[DE.inBlock]at h5;simp only[AE.inBlock];cases hb:Nat.beq i id with
  |true=>rw[hb]at h5;exact⟨L',.norm,Z',η',h1,rfl,h3,h4,h5⟩
  |false=>rw[hb]at h5;exact⟨L',.exit i,Z',η',h1,rfl,h3,h4,h5⟩
 |ret=>simp only[DE.inst]at h2;subst h2;exact⟨L',.ret,Z',η',h1,rfl,h3,h4,h5⟩
 |aO x=>obtain⟨y,rfl,h2⟩:=h2;exact⟨L',.aO x,Z',η',h1,⟨y,rfl,h2⟩,h3,h4,h5⟩
theorem DC.region {id:Nat} {l:List Oper} (h:DO E N K l l Q Z O):DC E N K (.region id l.toArray false) Q Z O:=λL ZB ηB hs hh=>bD.region (h L ZB ηB hs hh)
theorem DO.nil {all:List Oper} (h:Q .norm Z O):DO E N K all [] Q Z O:=λL ZB ηB hs hh=>bh.nil (oZ (d:= .norm) rfl hs hh h)
theorem DO.mono {all rest:List Oper} {Q':DQ} (h:DO E N K all rest Q Z O) (hq:Q=Q'):DO E N K all rest Q' Z O:=hq▸h
def aW (Z:TS):Operand->Option CV
 | .tmp t=>Z.get t
 | .const v=>some (.d (.v v))
 | .global g=>some (.d (.v (.pointer (some ⟨g,0,none⟩))))
 | .func f=>some (.d (.v (.func (.func f) #[] #[])))
theorem cf {L:aC} {s:Sl} (hs:SS L Z s) {o:Operand} {x:CV} (h:aW Z o=some x):∃y,ev s o=some y/\aE L x y:=by
 cases o with
 |tmp t=>exact hs t x h
 |const v=>simp only[aW,aA]at h;subst h;exact⟨_,rfl,rfl⟩
 |global g=>simp only[aW,aA]at h;subst h;exact⟨_,rfl,rfl⟩
 |func f=>simp only[aW,aA]at h;subst h;exact⟨_,rfl,rfl⟩
theorem DC.cond {c:Operand} {x y:Code} {t:Bool} (hc:aW Z c=some (.d (.v (.bool t)))) (h1:t=true->DC E N K x Q Z O) (h2:t=false->DC E N K y Q Z O):DC E N K (.cond c x y) Q Z O:=
 λL ZB ηB hs hh=>by
  obtain⟨z,h3,h4⟩:=cf hs hc;simp only[aE]at h4;subst h4;exact bD.cond h3 (λht=>h1 ht L ZB ηB hs hh) (λht=>h2 ht L ZB ηB hs hh)
theorem DC.Ra {c:Nat} {x y:Code} {t:Bool} (hc:Z.get c=some (.d (.v (.bool t)))) (h1:t=true->DC E N K x Q (Tr.put 24 Z c (some (.d (.v (.bool true))))) O)
  (h2:t=false->DC E N K y Q (Tr.put 24 Z c (some (.d (.v (.bool false))))) O):DC E N K (.cond (.tmp c) x y) Q Z O:=by
 refine DC.cond hc (λht=>?_) (λht=>?_)
 all_goals
  subst ht;intro L ZB ηB hs hh
  first|refine h1 rfl L ZB ηB ?_ hh|refine h2 rfl L ZB ηB ?_ hh
  intro u z hz;rcases Tr.dU 24 Z c u _ z hz with⟨rfl,h3⟩|⟨_,h3⟩
  ·cases h3;exact hs _ _ hc
  ·exact hs _ _ h3
mutual
def iF (m:Nat):CV->Bool
 | .d _=>true
 | .agg xs=>mI m xs
 | .bK xs=>mI m xs
 | .own t _=>Nat.blt t m
 | .os t _=>Nat.blt t m
 | .oe t _ _=>Nat.blt t m
 | .om t=>Nat.blt t m
 | .fn _ fs cs=>match mI m fs with
  |true=>mI m cs
  |false=>false
 | .bu _ x=>iF m x
def mI (m:Nat):List CV->Bool
 |[]=>true
 |x::r=>match iF m x with
  |true=>mI m r
  |false=>false
end
def DA (m:Nat):bg->Bool
 | .box cs=>mI m cs
 | .map es=>es.all λp=>iF m p.2
 |_=>true
def aC.cut (L:aC) (m:Nat):aC:=⟨λt=>if t<m then L.b t else none,λt n=>if t<m then L.s t n else none⟩
mutual
theorem aE.cut {L:aC} {m:Nat}:∀{x:CV} {y:AV},iF m x=true->aE L x y->aE (L.cut m) x y
 | .d x,_,_,h1=>by simp only[aE]at h1⊢;exact h1
 | .agg xs,_,h,h1=>by simp only[aE]at h1⊢;obtain⟨ys,e,h2⟩:=h1;exact⟨ys,e,aQ.cut (by simpa[iF]using h) h2⟩
 | .bK xs,_,h,h1=>by simp only[aE]at h1⊢;obtain⟨ys,e,h2⟩:=h1;exact⟨ys,e,aQ.cut (by simpa[iF]using h) h2⟩
 | .own t o,_,h,h1=>by simp only[aE]at h1⊢;obtain⟨b,t',e,h2⟩:=h1;exact⟨b,t',by simp only[iF,jQ]at h;simp[aC.cut,h,e],h2⟩
 | .os t n,_,h,h1=>by simp only[aE]at h1⊢;obtain⟨a,c,t',e,h2⟩:=h1;exact⟨a,c,t',by simp only[iF,jQ]at h;simp[aC.cut,h,e],h2⟩
 | .oe t n o,_,h,h1=>by simp only[aE]at h1⊢;obtain⟨a,c,t',e,h2⟩:=h1;exact⟨a,c,t',by simp only[iF,jQ]at h;simp[aC.cut,h,e],h2⟩
 | .om t,_,h,h1=>by simp only[aE]at h1⊢;obtain⟨b,t',e,h2⟩:=h1;exact⟨b,t',by simp only[iF,jQ]at h;simp[aC.cut,h,e],h2⟩
 | .fn f fs cs,_,h,h1=>by
  simp only[iF]at h;split at h
  ·rename_i h0;simp only[aE]at h1⊢;obtain⟨us,vs,e,h2,h3⟩:=h1;exact⟨us,vs,e,aQ.cut h0 h2,aQ.cut h h3⟩
  ·cases h
 | .bu t x,_,h,h1=>by simp only[aE]at h1⊢;obtain⟨u,e,h2⟩:=h1;exact⟨u,e,aE.cut (by simpa[iF]using h) h2⟩
theorem aQ.cut {L:aC} {m:Nat}:∀{x:List CV} {y:List AV},mI m x=true->aQ L x y->aQ (L.cut m) x y
 |[],_,_,h1=>by simp only[aQ]at h1⊢;exact h1
 |_::_,_,h,h1=>by
  simp only[mI]at h;split at h
  ·rename_i h0;simp only[aQ]at h1⊢;obtain⟨y,r,e,h2,h3⟩:=h1;exact⟨y,r,e,aE.cut h0 h2,aQ.cut h h3⟩
  ·cases h
end
theorem il.cut {L:aC} {m:Nat}:∀{xs:List (Value×CV)} {ys:List (Value×AV)},(xs.all λp=>iF m p.2)=true->il L xs ys->il (L.cut m) xs ys
 |[],_,_,h1=>by simp only[il]at h1⊢;exact h1
 |_::_,_,h,h1=>by
  simp only[jg,bI]at h;simp only[il]at h1⊢;obtain⟨y,r,e,h2,h3,h4⟩:=h1;exact⟨y,r,e,h2,h3.cut h.1,il.cut h.2 h4⟩
theorem ju.cut {L:aC} {m i:Nat} (hi:i<m) {x:bg} {y:ah} (hb:DA m x=true) (hx:ju L i x y):ju (L.cut m) i x y:=by
 have h1:(L.cut m).b i=L.b i:=by simp[aC.cut,hi]
 have h2:∀n,(L.cut m).s i n=L.s i n:=λn=>by simp[aC.cut,hi]
 cases x with
 |box cs=>obtain⟨b,cs',h3,h4,h5⟩:=hx;exact⟨b,cs',h1.trans h3,h4,h5.cut hb⟩
 |row e k rows=>obtain⟨⟨a,c,h3,h4⟩,h5⟩:=hx;exact⟨⟨a,c,(h2 _).trans h3,h4⟩,λn hn=>(h2 n).trans (h5 n hn)⟩
 |map es=>obtain⟨b,es',h3,h4,h5⟩:=hx;exact⟨b,es',h1.trans h3,h4,h5.cut hb⟩
 |jG cs=>obtain⟨b,h3,h4⟩:=hx;exact⟨b,h1.trans h3,h4⟩
 |gq k rows=>obtain⟨a,c,h3,h4⟩:=hx;exact⟨a,c,(h2 _).trans h3,h4⟩
 |set l=>obtain⟨b,h3,h4⟩:=hx;exact⟨b,h1.trans h3,h4⟩
 |iy l=>obtain⟨b,h3,h4⟩:=hx;exact⟨b,h1.trans h3,h4⟩
 |gone=>trivial
def eg (m:Nat):List Nat->TS->Option (List (Nat×CV))
 |[],_=>some []
 |t::ts,Z=>match Z.get t,eg m ts Z with
  |some x,some r=>match iF m x with
   |true=>some ((t,x)::r)
   |false=>none
  |_,_=>none
def mM:List (Nat×CV)->TS
 |[]=> .lf
 |(t,x)::r=>Tr.put 24 (mM r) t (some x)
theorem yW {L:aC} {m:Nat} {s:Sl} (hs:SS L Z s):∀{ts:List Nat} {l:List (Nat×CV)},eg m ts Z=some l->SS (L.cut m) (mM l) s
 |[],_,h=>by simp only[eg,aA]at h;subst h;intro t x hx;simp[mM,Tr.ie]at hx
 |t::ts,l,h=>by
  simp only[eg]at h;split at h
  ·rename_i x r h1 h2;split at h
   ·rename_i h0;simp only[aA]at h;subst h;intro u z hz;rcases Tr.dU 24 _ t u _ z hz with⟨rfl,h3⟩|⟨_,h3⟩
    ·cases h3;obtain⟨y,h4,h5⟩:=hs _ _ h1;exact⟨y,h4,h5.cut h0⟩
    ·exact yW hs h2 u z h3
   ·cases h
  ·cases h
def ss (m:Nat) (e:Tr bg):Nat->Option (List bg)
 |0=>some []
 |i+1=>match ss m e i,e.get i with
  |some l,some x=>match DA m x with
   |true=>some (l++[x])
   |false=>none
  |some l,none=>some (l++[.gone])
  |none,_=>none
def iU (m:Nat) (O:Hp):Option (List bg):=ss m O.e m
def lh:Nat->List bg->Tr bg
 |_,[]=> .lf
 |i,x::r=>Tr.put 24 (lh (i+1) r) i (some x)
def fL (l:List bg):Hp:=⟨lh 0 l,l.length⟩
theorem Hb:∀{l:List bg} {i j:Nat} {x:bg},(lh i l).get j=some x->i<=j/\l[j-i]? =some x
 |[],i,j,x,h=>by simp[lh,Tr.ie]at h
 |y::r,i,j,x,h=>by
  simp only[lh]at h;rcases Tr.dU 24 _ i j _ x h with⟨rfl,h1⟩|⟨hne,h1⟩
  ·cases h1;simp
  ·obtain⟨h2,h3⟩:=Hb h1;refine⟨by omega,?_⟩;rw[show j-i=(j-(i+1))+1 by omega];simpa using h3
theorem uM {m:Nat} {e:Tr bg}:∀{n:Nat} {l:List bg},ss m e n=some l->l.length=n/\∀i x,l[i]? =some x->x= .gone\/(e.get i=some x/\DA m x=true)
 |0,l,h=>by simp only[ss,aA]at h;subst h;simp
 |n+1,l,h=>by
  simp only[ss]at h;split at h
  ·rename_i l' x h1 h2;split at h
   ·rename_i h0;simp only[aA]at h;subst h;obtain⟨h3,h4⟩:=uM h1;refine⟨by simp[h3],λi y hy=>?_⟩;rw[Wl]at hy;split at hy
    ·exact h4 i y hy
    ·rename_i hi;rw[Wm]at hy;split at hy
     ·cases hy;right;rw[<-h2];exact⟨by congr 1;omega,h0⟩
     ·cases hy
   ·cases h
  ·rename_i l' h1 h2;simp only[aA]at h;subst h;obtain⟨h3,h4⟩:=uM h1;refine⟨by simp[h3],λi y hy=>?_⟩;rw[Wl]at hy;split at hy
   ·exact h4 i y hy
   ·rw[Wm]at hy;split at hy
    ·cases hy;exact .inl rfl
    ·cases hy
  ·cases h
theorem FV {L:aC} {m:Nat} {ηB:List ah} (hh:HS L O ηB) (hm:m<=O.n) {l:List bg} (h:iU m O=some l):HS (L.cut m) (fL l) (ηB.take m):=by
 obtain⟨h1,h2⟩:=uM h;refine⟨λi x hx=>?_,by simp[fL,h1,hh.len,hm],λt ht=>?_⟩
 ·obtain⟨_,h3⟩:=Hb hx;simp only[Mr]at h3;have hi:i<m:=by rw[<-h1];exact(c8.1 h3).1
  have hlt:i<ηB.length:=by rw[hh.len];omega
  have hn:nth (ηB.take m) i=nth ηB i:=by rw[ck,ck,jR,cZ hi]
  rw[hn];rcases h2 i x h3 with rfl|⟨h4,h5⟩
  ·exact⟨ηB[i],by rw[ck];simp[hlt],trivial⟩
  ·obtain⟨y,h6,h7⟩:=hh.en i x h4;exact⟨y,h6,h7.cut hi h5⟩
 ·have:¬t<m:=by simp only[fL,h1]at ht;omega
  simp[aC.cut,this]
theorem aC.Hc {L:aC} {m:Nat} (hm:K<=m):aC.e7 K L (L.cut m):=λt ht=>by
 have:t<m:=by omega
 simp[aC.cut,this]
theorem DC.loop {c:Code} (ts:List Nat) (m:Nat) (I:Nat->List (Nat×CV)->List bg->Prop) (n:Nat) (hK:K<=m) {l:List (Nat×CV)} {es:List bg} (hm:m<=O.n) (hp:eg m ts Z=some l) (he:iU m O=some es) (h0:I n l es)
  (round:∀n l es,I n l es->DC E N K c (DE.then (λZ1 O1=>∃n',n'<n/\∃l' es',m<=O1.n/\eg m ts Z1=some l'/\iU m O1=some es'/\I n' l' es') Q) (mM l) (fL es)):DC E N K (.loop c) Q Z O:=λL ZB ηB hs hh=>by
 refine bD.loop (λn ZB ηB=>∃L1 l es,aC.e7 K L L1/\SS L1 (mM l) (look ZB)/\HS L1 (fL es) (ηB.take m)/\I n l es) n ⟨L.cut m,l,es,aC.Hc hK,yW hs hp,FV hh hm he,h0⟩ ?_;rintro n ZB1 OB1 ⟨L1,l1,es1,h1,h2,h3,h4⟩;refine bD.i' (dV.sub (List.take_sublist m OB1)) (bD.mono (round n l1 es1 h4 L1 ZB1 _ h2 h3) ?_);rintro e ZB2 OB2 ⟨L2,d,Z2,O2,g1,g2,g3,g4,g5⟩;cases d with
 |norm=>
  simp only[DE.inst]at g2;subst g2;obtain⟨n',hn,l',es',q1,q2,q3,q4⟩:=g5;exact⟨n',hn,L2.cut m,l',es',(h1.trans g1).trans (aC.Hc hK),yW g3 q2,FV g4 q1 q3,q4⟩
 |exit i=>simp only[DE.inst]at g2;subst g2;exact⟨L2,.exit i,Z2,O2,h1.trans g1,rfl,g3,g4,g5⟩
 |ret=>simp only[DE.inst]at g2;subst g2;exact⟨L2,.ret,Z2,O2,h1.trans g1,rfl,g3,g4,g5⟩
 |aO x=>obtain⟨y,rfl,g2⟩:=g2;exact⟨L2,.aO x,Z2,O2,h1.trans g1,⟨y,rfl,g2⟩,g3,g4,g5⟩
def mm (E:Env) (N K:Nat) (c:Code) (Q:DQ):Nat->TS->Hp->Prop
 |0=>λ_ _=>False
 |n+1=>DC E N K c (DE.then (mm E N K c Q n) Q)
theorem DC.rounds {c:Code} (n:Nat) (h:mm E N K c Q n Z O):DC E N K (.loop c) Q Z O:=λL ZB ηB hs hh=>by
 refine bD.rounds n ?_;have key:∀n L1 Z O ZB ηB,aC.e7 K L L1->SS L1 Z (look ZB)->HS L1 O ηB->mm E N K c Q n Z O->vq E.toCx N c (lift K L Q) n ZB ηB:=by
  intro n
  induction n with
  |zero=>intro L1 Z O ZB ηB _ _ _ h;exact h.elim
  |succ n ih=>
   intro L1 Z O ZB ηB h1 h2 h3 h4;refine bD.mono (h4 L1 ZB ηB h2 h3) ?_;rintro e ZB2 OB2 ⟨L2,d,Z2,O2,g1,g2,g3,g4,g5⟩;cases d with
   |norm=>simp only[DE.inst]at g2;subst g2;exact ih L2 Z2 O2 _ _ (h1.trans g1) g3 g4 g5
   |exit i=>simp only[DE.inst]at g2;subst g2;exact⟨L2,.exit i,Z2,O2,h1.trans g1,rfl,g3,g4,g5⟩
   |ret=>simp only[DE.inst]at g2;subst g2;exact⟨L2,.ret,Z2,O2,h1.trans g1,rfl,g3,g4,g5⟩
   |aO x=>obtain⟨y,rfl,g2⟩:=g2;exact⟨L2,.aO x,Z2,O2,h1.trans g1,⟨y,rfl,g2⟩,g3,g4,g5⟩
 exact key n L Z O ZB ηB (.refl K L) hs hh h
end
theorem bM.mono {C:Cx} {N:Nat} {o:Oper} {s s':Sl} {O:List ah} {x:AV} (h:bM C N o s O x) (hs:∀t∈tmpsOf o,∀y,s t=some y->s' t=some y):bM C N o s' O x:=
 λF w a h1 h2 h3 h4=>h F w a h1 h2 h3 λt ht y hy=>h4 t ht y (hs t ht y hy)
theorem bM.Qj {C:Cx} {N:Nat} {o:Oper} {s s':Sl} {O:List ah} {x:AV} (h:bM C N o s' O x)
  (hs:∀F w a,bz C.G w F O->jw w (Al F O) N a o s->jw w (Al F O) N a o s'):bM C N o s O x:=
 λF w a h1 h2 h3 h4=>h F w a h1 h2 h3 (hs F w a h3 h4)
def dN (Z:TS):Sl:=λt=>match Z.get t with
 |some (.d x)=>some x
 |_=>none
theorem iS {L:aC} {Z:TS} {s:Sl} (hs:SS L Z s) {t:Nat} {x:AV} (h:dN Z t=some x):s t=some x:=by
 unfold dN at h;split at h
 ·rename_i y hy;simp only[aA]at h;subst h;obtain⟨z,h1,h2⟩:=hs t _ hy;simp only[aE]at h2;subst h2;exact h1
 ·cases h
def a8 (E:Env) (N:Nat) (o:Oper) (Z:TS) (O:Hp) (x:CV):Prop:=∀L s ηB,SS L Z s->HS L O ηB->∃y,aE L x y/\bM E.toCx N o s ηB y
section
variable {E:Env} {N K:Nat} {Q:DQ} {Z:TS} {O:Hp} {o:Oper} {x:CV} {all rest:List Oper}
theorem DO.lQ (hg:o.guard=none) (hd:cj N o.dst=true) (h:a8 E N o Z O x) (k:DO E N K all rest Q (bN Z o.dst x) O):DO E N K all (o::rest) Q Z O:=λL ZB ηB hs hh=>by
 obtain⟨y,h1,h2⟩:=h L _ ηB hs hh;exact bh.lQ hg hd h2 (k L _ ηB (hs.put o.dst h1) hh)
theorem a8.cw {y:AV} (h:cw E.T (dN Z) o.op=some y):a8 E N o Z O (.d y):=λL s ηB hs _=>⟨y,rfl,(bM.cw h).mono λ_ _ _ hy=>iS hs hy⟩
theorem a8.dG {y:AV} (h:dG E.P E.T (dN Z) o.op=some y):a8 E N o Z O (.d y):=λL s ηB hs _=>⟨y,rfl,(bM.dG h).mono λ_ _ _ hy=>iS hs hy⟩
theorem a8.eZ {y:AV} (h:eZ E.P (dN Z) o.op=some y):a8 E N o Z O (.d y):=λL s ηB hs _=>⟨y,rfl,(bM.eZ h).mono λ_ _ _ hy=>iS hs hy⟩
theorem a8.jF {y:AV} (h:jF E.G E.T (dN Z) o.op=some y):a8 E N o Z O (.d y):=λL s ηB hs _=>⟨y,rfl,(bM.jF h).mono λ_ _ _ hy=>iS hs hy⟩
def dA:CV->List CV
 | .agg xs=>xs
 | .d y=>(b9 y).map .d
 |x=>[x]
theorem uH {L:aC} {x:CV} {y:AV} (h:aE L x y):aQ L (dA x) (b9 y):=by
 cases x with
 |d z=>simp only[aE]at h;subst h;exact fG _
 |agg xs=>simp only[aE]at h;obtain⟨ys,rfl,h⟩:=h;exact h
 |bK xs=>have h0:=h;simp only[aE]at h0;obtain⟨ys,rfl,_⟩:=h0;simp only[dA,b9,aQ];exact⟨_,_,rfl,h,rfl⟩
 |own t n=>have h0:=h;simp only[aE]at h0;obtain⟨b,t',_,rfl⟩:=h0;simp only[dA,b9,aQ];exact⟨_,_,rfl,h,rfl⟩
 |os t n=>have h0:=h;simp only[aE]at h0;obtain⟨a,c,t',_,rfl⟩:=h0;simp only[dA,b9,aQ];exact⟨_,_,rfl,h,rfl⟩
 |oe t n m=>have h0:=h;simp only[aE]at h0;obtain⟨a,c,t',_,rfl⟩:=h0;simp only[dA,b9,aQ];exact⟨_,_,rfl,h,rfl⟩
 |om t=>have h0:=h;simp only[aE]at h0;obtain⟨b,t',_,rfl⟩:=h0;simp only[dA,b9,aQ];exact⟨_,_,rfl,h,rfl⟩
 |fn f fs cs=>have h0:=h;simp only[aE]at h0;obtain⟨us,vs,rfl,_⟩:=h0;simp only[dA,b9,aQ];exact⟨_,_,rfl,h,rfl⟩
 |bu t z=>have h0:=h;simp only[aE]at h0;obtain⟨u,rfl,_⟩:=h0;simp only[dA,b9,aQ];exact⟨_,_,rfl,h,rfl⟩
def nV:List CV->List CV->Option (List CV)
 |xs,[]=>some xs
 |[],_::_=>none
 |_::xs,y::ys=>match nV xs ys with
  |some r=>some (y::r)
  |none=>none
def jY:List CV->Nat->List CV->Option (List CV)
 |xs,0,ys=>nV xs ys
 |[],_+1,_=>none
 |x::xs,n+1,ys=>match jY xs n ys with
  |some r=>some (x::r)
  |none=>none
theorem ER {L:aC}:∀{ys xs r:List CV} {us vs:List AV},nV xs ys=some r->aQ L xs us->aQ L ys vs->∃r',jx us vs=some r'/\aQ L r r'
 |[],xs,r,us,vs,h,hx,hy=>by
  simp only[aQ]at hy;subst hy;cases xs<;>simp only[nV,aA]at h<;>subst h
  ·simp only[aQ]at hx;subst hx;exact⟨[],rfl,rfl⟩
  ·exact⟨us,by cases us<;>rfl,hx⟩
 |y::ys,[],r,us,vs,h,hx,hy=>by simp[nV]at h
 |y::ys,x::xs,r,us,vs,h,hx,hy=>by
  simp only[nV]at h;split at h
  ·rename_i r' h1;simp only[aA]at h;subst h;simp only[aQ]at hx hy;obtain⟨u,ur,rfl,_,hx⟩:=hx;obtain⟨v,vr,rfl,hv,hy⟩:=hy;obtain⟨q,h2,h3⟩:=ER h1 hx hy;exact⟨v::q,by simp[jx,h2],by simp only[aQ];exact⟨_,_,rfl,hv,h3⟩⟩
  ·cases h
theorem uE {L:aC}:∀{n:Nat} {xs ys r:List CV} {us vs:List AV},jY xs n ys=some r->aQ L xs us->aQ L ys vs->∃r',eo us n vs=some r'/\aQ L r r'
 |0,xs,ys,r,us,vs,h,hx,hy=>by
  have h':nV xs ys=some r:=by cases xs<;>exact h
  obtain⟨q,h1,h2⟩:=ER h' hx hy;exact⟨q,by cases us<;>exact h1,h2⟩
 |n+1,[],ys,r,us,vs,h,hx,hy=>by simp[jY]at h
 |n+1,x::xs,ys,r,us,vs,h,hx,hy=>by
  simp only[jY]at h;split at h
  ·rename_i r' h1;simp only[aA]at h;subst h;simp only[aQ]at hx;obtain⟨u,ur,rfl,hu,hx⟩:=hx;obtain⟨q,h2,h3⟩:=uE h1 hx hy;exact⟨u::q,by simp[eo,h2],by simp only[aQ];exact⟨_,_,rfl,hu,h3⟩⟩
  ·cases h
def sK (fs:List (Nat×Nat×Nat×Bool)) (Z:TS):List CV->List (Nat×Operand)->Option (List CV)
 |cells,[]=>some cells
 |cells,(i,o)::rest=>match nth fs i,aW Z o with
  |some (off,_,k,_),some x=>match Nat.beq (dA x).length k,jY cells off (dA x)with
   |true,some cells'=>sK fs Z cells' rest
   |_,_=>none
  |_,_=>none
theorem ES {L:aC} {s:Sl} (hs:SS L Z s) {fs:List (Nat×Nat×Nat×Bool)}:∀{l:List (Nat×Operand)} {cells r:List CV} {us:List AV},sK fs Z cells l=some r->aQ L cells us->∃r',kU fs s us l=some r'/\aQ L r r'
 |[],cells,r,us,h,hr=>by simp only[sK,aA]at h;subst h;exact⟨us,rfl,hr⟩
 |(i,p)::l,cells,r,us,h,hr=>by
  simp only[sK]at h;split at h
  ·rename_i off t k g x h1 h2;split at h
   ·rename_i cells' h3 h4;obtain⟨y,h5,h6⟩:=cf hs h2;have h7:=uH h6;obtain⟨q,h8,h9⟩:=uE h4 hr h7;obtain⟨r',h10,h11⟩:=ES hs h h9;refine⟨r',?_,h11⟩;simp only[kU,h1,h5,h7.length,h3,h8,h10]
   ·cases h
  ·cases h
def oo (Z:TS):List Operand->Option (List CV)
 |[]=>some []
 |o::r=>match aW Z o,oo Z r with
  |some x,some xs=>some (x::xs)
  |_,_=>none
theorem pf {L:aC} {s:Sl} (hs:SS L Z s):∀{os:List Operand} {xs:List CV},oo Z os=some xs->∃ys,gF s os=some ys/\aQ L xs ys
 |[],_,h=>by simp only[oo,aA]at h;subst h;exact⟨[],rfl,rfl⟩
 |o::os,xs,h=>by
  simp only[oo]at h;split at h
  ·rename_i x ys h1 h2;simp only[aA]at h;subst h;obtain⟨y,h3,h4⟩:=cf hs h1;obtain⟨zs,h5,h6⟩:=pf hs h2;exact⟨y::zs,by simp[gF,h3,h5],by simp only[aQ];exact⟨_,_,rfl,h4,h6⟩⟩
  ·cases h
def mz:List CV->Bool
 |[]=>false
 | .d _::r=>mz r
 |_::_=>true
theorem xP {L:aC}:∀{xs:List CV} {ys:List AV},mz xs=true->aQ L xs ys->lM ys=none
 |[],_,h,_=>by simp[mz]at h
 |x::r,ys,h,hr=>by
  simp only[aQ]at hr;obtain⟨y,r',rfl,h1,h2⟩:=hr;cases x with
  |d z=>
   simp only[mz]at h;have:=xP h h2;cases y<;>simp[lM,this]
  |agg xs=>simp only[aE]at h1;obtain⟨ys,rfl,_⟩:=h1;rfl
  |bK xs=>simp only[aE]at h1;obtain⟨ys,rfl,_⟩:=h1;rfl
  |own t n=>simp only[aE]at h1;obtain⟨b,t',_,rfl⟩:=h1;rfl
  |os t n=>simp only[aE]at h1;obtain⟨a,c,t',_,rfl⟩:=h1;rfl
  |oe t n m=>simp only[aE]at h1;obtain⟨a,c,t',_,rfl⟩:=h1;rfl
  |om t=>simp only[aE]at h1;obtain⟨b,t',_,rfl⟩:=h1;rfl
  |fn f fs cs=>simp only[aE]at h1;obtain⟨us,vs,rfl,_⟩:=h1;rfl
  |bu t z=>simp only[aE]at h1;obtain⟨u,rfl,_⟩:=h1;rfl
def lS (T:bO) (Z:TS):Op->Option CV
 | .move x=>aW Z x
 | .assign x=>aW Z x
 | .pick c a b=>match aW Z c with
  |some (.d (.v (.bool true)))=>aW Z a
  |some (.d (.v (.bool false)))=>aW Z b
  |_=>none
 | .extract x i=>match aW Z x with
  |some (.bK xs)=>nth xs i
  |_=>none
 | .field t x f=>match aW Z x,aX T t with
  |some (.agg xs),some ⟨.struct fs,_,_,_⟩=>match nth fs f with
   |some (o,_,k,g)=>match g with
    |true=>some (qo ((xs.drop o).take k))
    |false=>nth xs o
   |none=>none
  |_,_=>none
 | .fieldAddr t x f=>match aX T t with
  |some ⟨.struct fs,_,_,_⟩=>match nth fs f with
   |some (off,_,_,_)=>match aW Z x with
    |some (.own t o)=>some (.own t (o+off))
    |some (.oe t n o)=>some (.oe t n (o+off))
    |_=>none
   |none=>none
  |_=>none
 | .nilCheck x=>match aW Z x with
  |some (.own t o)=>some (.own t o)
  |some (.oe t n o)=>some (.oe t n o)
  |some (.fn f fs cs)=>some (.fn f fs cs)
  |_=>none
 | .makeInterface t x=>match aW Z x,aX T t with
  |some _,some ⟨.iface,_,_,_⟩=>none
  |some y,some _=>some (.bu t y)
  |_,_=>none
 | .typeAssert x _ t ok=>match aW Z x,aX T t with
  |some (.bu _ _),some ⟨.iface,_,_,_⟩=>none
  |some (.bu u y),some _=>match Nat.beq u t,ok with
   |true,true=>some (.bK [y,.d (.v (.bool true))])
   |true,false=>some y
   |false,_=>none
  |_,_=>none
 | .makeFunc (.func f) first caps=>match oo Z first.toList,oo Z caps.toList with
  |some fs,some cs=>match mz fs,mz cs with
   |false,false=>none
   |_,_=>some (.fn f fs cs)
  |_,_=>none
 | .build t parts=>match aX T t with
  |some ⟨.struct fs,_,_,z⟩=>match sK fs Z ((z.map .v).map .d) parts.toList with
   |some cells=>some (qo cells)
   |none=>none
  |_=>none
 |_=>none
theorem G7 {L:aC} {s:Sl} (hs:SS L Z s) {T:bO} {op:Op} (h:lS T Z op=some x):∃y,cw T s op=some y/\aE L x y:=by
 unfold lS at h;split at h
 ·exact cf hs h
 ·exact cf hs h
 ·rename_i c a b;split at h
  ·rename_i hc;obtain⟨y,h1,h2⟩:=cf hs hc;simp only[aE]at h2;subst h2;obtain⟨z,h3,h4⟩:=cf hs h;exact⟨z,by simp only[cw,h1,h3],h4⟩
  ·rename_i hc;obtain⟨y,h1,h2⟩:=cf hs hc;simp only[aE]at h2;subst h2;obtain⟨z,h3,h4⟩:=cf hs h;exact⟨z,by simp only[cw,h1,h3],h4⟩
  ·cases h
 ·rename_i y i;split at h
  ·rename_i xs hy;obtain⟨z,h1,h2⟩:=cf hs hy;simp only[aE]at h2;obtain⟨ys,rfl,h2⟩:=h2;obtain⟨u,h3,h4⟩:=h2.nth h;exact⟨u,by simp only[cw,h1,h3],h4⟩
  ·cases h
 ·rename_i t y f;split at h
  ·rename_i xs fs _ _ _ hy ht;split at h
   ·rename_i off ft k g hf;obtain⟨z,h1,h2⟩:=cf hs hy;simp only[aE]at h2;obtain⟨ys,rfl,h2⟩:=h2;split at h
    ·simp only[aA]at h;subst h;exact⟨_,by simp only[cw,h1,ht,hf,qp],uQ ((h2.drop off).take k)⟩
    ·obtain⟨u,h3,h4⟩:=h2.nth h;exact⟨u,by simp only[cw,h1,ht,hf,qp,h3],h4⟩
   ·cases h
  ·cases h
 ·rename_i t y f;split at h
  ·rename_i fs _ _ _ ht;split at h
   ·rename_i off ft k g hf;split at h
    ·rename_i tg o hy;simp only[aA]at h;subst h;obtain⟨z,h1,h2⟩:=cf hs hy;simp only[aE]at h2;obtain⟨b,t',h2,rfl⟩:=h2;exact⟨.own t' b (o+off),by simp only[cw,ht,hf,h1],by simp only[aE];exact⟨b,t',h2,rfl⟩⟩
    ·rename_i tg n o hy;simp only[aA]at h;subst h;obtain⟨z,h1,h2⟩:=cf hs hy;simp only[aE]at h2;obtain⟨a,c,t',h2,rfl⟩:=h2;exact⟨.oe t' (.slice a n c) (o+off),by simp only[cw,ht,hf,h1],by simp only[aE];exact⟨a,c,t',h2,rfl⟩⟩
    ·cases h
   ·cases h
  ·cases h
 ·rename_i y;split at h
  ·rename_i tg o hy;simp only[aA]at h;subst h;obtain⟨z,h1,h2⟩:=cf hs hy;have h3:=h2;simp only[aE]at h3;obtain⟨b,t',_,rfl⟩:=h3;exact⟨_,by simp only[cw,h1],h2⟩
  ·rename_i tg n o hy;simp only[aA]at h;subst h;obtain⟨z,h1,h2⟩:=cf hs hy;have h3:=h2;simp only[aE]at h3;obtain⟨a,c,t',_,rfl⟩:=h3;exact⟨_,by simp only[cw,h1],h2⟩
  ·rename_i f fs cs hy;simp only[aA]at h;subst h;obtain⟨z,h1,h2⟩:=cf hs hy;have h3:=h2;simp only[aE]at h3;obtain⟨us,vs,rfl,_⟩:=h3;exact⟨_,by simp only[cw,h1],h2⟩
  ·cases h
 ·rename_i t y;split at h
  ·cases h
  ·rename_i u i hne hy ht;simp only[aA]at h;subst h;obtain⟨z,h1,h2⟩:=cf hs hy;refine⟨.bu t z,?_,by simp only[aE];exact⟨z,rfl,h2⟩⟩;simp only[cw,h1,ht]
  ·cases h
 ·rename_i y xt t ok;split at h
  ·cases h
  ·rename_i u y' i hne hy ht;obtain⟨z,h1,h2⟩:=cf hs hy;simp only[aE]at h2;obtain⟨z',rfl,h2⟩:=h2;have key:cw T s (.typeAssert y xt t ok)=(match(generalizing:=false) Nat.beq u t,ok with
     |true,true=>some (AV.bK [z',.v (.bool true)])
     |true,false=>some z'
     |false,_=>none):=by
    simp only[cw,h1,ht];rfl
   rw[key];cases hb:Nat.beq u t with
   |false=>rw[hb]at h;cases h
   |true=>
    rw[hb]at h;cases ok with
    |true=>
     simp only[aA]at h;subst h;refine⟨_,rfl,?_⟩;simp only[aE,aQ];exact⟨_,rfl,_,_,rfl,h2,_,_,rfl,rfl,rfl⟩
    |false=>
     simp only[aA]at h;subst h;exact⟨_,rfl,h2⟩
  ·cases h
 ·rename_i f first caps
  split at h
  ·rename_i fs cs h1 h2;obtain⟨us,h3,h4⟩:=pf hs h1;obtain⟨vs,h5,h6⟩:=pf hs h2;split at h
   ·cases h
   ·rename_i hne;simp only[aA]at h;subst h;refine⟨.fn f us vs,?_,by simp only[aE];exact⟨us,vs,rfl,h4,h6⟩⟩;simp only[cw,h3,h5];cases hr:mz fs with
    |true=>rw[xP hr h4]
    |false=>cases hr':mz cs with
     |true=>rw[xP hr' h6];cases lM us<;>rfl
     |false=>exact(hne hr hr').elim
  ·cases h
 ·rename_i t parts;split at h
  ·rename_i fs _ _ z ht;split at h
   ·rename_i cells hf;simp only[aA]at h;subst h;obtain⟨r',h1,h2⟩:=ES hs hf (fG _);exact⟨.agg r',by simp only[cw,ht,h1],uQ h2⟩
   ·cases h
  ·cases h
 ·cases h
theorem a8.lS (h:lS E.T Z o.op=some x):a8 E N o Z O x:=λL s ηB hs _=>by
 obtain⟨y,h1,h2⟩:=G7 hs h;exact⟨y,h2,bM.cw h1⟩
def vO (T:bO) (t:TypeId) (cs:List CV) (o:Nat):Option CV:=
 match aX T t with
 |some ⟨d,k,_,_⟩=>match d.agg with
  |true=>match Nat.ble k (cs.drop o).length with
   |true=>some (qo ((cs.drop o).take k))
   |false=>none
  |false=>nth cs o
 |none=>none
theorem xO:∀{l:List AV} {n:Nat},n<=l.length->fits l n=true
 |_,0,_=>by simp[fits]
 |[],n+1,h=>by simp at h
 |_::r,n+1,h=>by simp only[fits];exact xO (by simpa using h)
theorem No {L:aC} {T:bO} {t:TypeId} {cs:List CV} {us:List AV} {off:Nat} (h:vO T t cs off=some x) (hc:aQ L cs us):∃y,gB T t us off=some y/\aE L x y:=by
 unfold vO at h;split at h
 ·rename_i d k b z ht;split at h
  ·rename_i hd;split at h
   ·rename_i hle;simp only[aA]at h;subst h;have hle:=dw hle;refine⟨.agg ((us.drop off).take k),?_,uQ ((hc.drop off).take k)⟩;simp only[gB,ht,hd];rw[xO (by rw[(hc.drop off).length];exact hle)]
   ·cases h
  ·rename_i hd;obtain⟨y,h1,h2⟩:=hc.nth h;exact⟨y,by simp only[gB,ht,hd,h1],h2⟩
 ·cases h
theorem ET {p:Operand} (h:aW Z p=some x) (hx:∀y,x≠ .d y):∃t,p= .tmp t/\Z.get t=some x:=by
 cases p with
 |tmp t=>exact⟨t,rfl,h⟩
 |const v=>simp only[aW,aA]at h;exact(hx _ h.symm).elim
 |global g=>simp only[aW,aA]at h;exact(hx _ h.symm).elim
 |func f=>simp only[aW,aA]at h;exact(hx _ h.symm).elim
theorem a8.load {t:TypeId} {p:Operand} {i off:Nat} {cs:List CV} (ho:o.op= .load t p) (hp:aW Z p=some (.own i off)) (hi:O.e.get i=some (.box cs)) (hl:vO E.T t cs off=some x):a8 E N o Z O x:=λL s ηB hs hh=>by
 obtain⟨y,h1,h2⟩:=cf hs hp;simp only[aE]at h2;obtain⟨b,t',h3,rfl⟩:=h2;obtain⟨z,h4,h5⟩:=hh.en i _ hi;obtain⟨b',cs',h6,rfl,h7⟩:=h5;rw[h3]at h6;cases h6;obtain⟨q,h8,h9⟩:=No hl h7;exact⟨q,h9,bM.lT (FU ho (by rw[eN (by simp[ho,Op.operands])];exact h1) h4 h8)⟩
def eR (s:Sl) (t:Nat) (x:AV):Sl:=λu=>if u=t then some x else s u
theorem bM.known {C:Cx} {s:Sl} {ηB:List ah} {t:Nat} {x:AV} {y z:AV} (h:bM C N o (eR s t z) ηB x) (ht:s t=some y) (hk:∀F w v,bz C.G w F ηB->Rel w (Al F ηB) y v->Rel w (Al F ηB) z v):bM C N o s ηB x:=
 h.Qj λF w a hh hs u hu q hq=>by
  unfold eR at hq;split at hq
  ·rename_i hut;subst hut;simp only[aA]at hq;subst hq;obtain⟨h1,h2⟩:=hs u hu y ht;exact⟨h1,hk F w _ hh h2⟩
  ·exact hs u hu q hq
theorem nA {G:Gl} {w:World} {F:Nat->Prop} {ηB:List ah} (hh:bz G w F ηB) {i:Nat} {x:AV} {v:Value} (h:nth ηB i=some (.fact x v)):Rel w (Al F ηB) x v:=fV hh h
theorem Rel.Am {w:World} {A:Nat->Prop} {cs:List AV} {b:Nat} (off:Nat) (h:Rel w A (.ip cs) (.pointer (some ⟨b,0,none⟩))):Rel w A (.ip (cs.drop off)) (.pointer (some ⟨b,off,none⟩)):=by
 simp only[Rel]at h⊢;obtain⟨b',o',vs,e1,e2,e3,e4⟩:=h;cases e1;exact⟨b,off,vs.drop off,rfl,e2,e3.drop off,λj u hj=>by rw[mW]at hj;have:=e4 _ _ hj;simpa using this⟩
theorem a8.Rc {t:TypeId} {p:Operand} {i off:Nat} {cs:List AV} {y:AV} (ho:o.op= .load t p) (hp:aW Z p=some (.own i off)) (hi:O.e.get i=some (.jG cs)) (hl:gB E.T t (cs.drop off) 0=some y):a8 E N o Z O (.d y):=λL s ηB hs hh=>by
 obtain⟨u,rfl,hu⟩:=ET hp (λ_ h=>by cases h);obtain⟨z,h1,h2⟩:=hs u _ hu;simp only[aE]at h2;obtain⟨b,t',h3,rfl⟩:=h2;obtain⟨z,h4,h5⟩:=hh.en i _ hi;obtain⟨b',h6,rfl⟩:=h5;rw[h3]at h6;cases h6;refine⟨y,rfl,bM.known (t:=u) (z:= .ip (cs.drop off)) (bM.cw ?_) h1 λF w v hH hr=>?_⟩
 ·rw[ho];unfold gB at hl;simp only[Bw.cw,ev,eR,if_true];split at hl
  ·rename_i d k b z ht;simp only[ht];simp only[List.drop_zero]at hl;rw[<-hl];cases d.agg<;>rfl
  ·cases hl
 ·simp only[Rel]at hr;subst hr;exact(nA hH h4).Am off
theorem a8.len {t:TypeId} {p:Operand} {i n e k sz by':Nat} {z:List Value} (ho:o.op= .call {callee:= .builtin .len,args:= #[p],argTypes:= #[t]}) (hp:aW Z p=some (.os i n)) (ht:aX E.T t=some ⟨.slice e k,sz,by',z⟩):a8 E N o Z O (.d (.v (.int .i64 (n:Int)))):=λL s ηB hs _=>by
 obtain⟨y,h1,h2⟩:=cf hs hp;simp only[aE]at h2;obtain⟨a,c,t',h3,rfl⟩:=h2;exact⟨_,rfl,bM.len ho h1 (by simp[n9,ht])⟩
theorem a8.S4 {t:TypeId} {p:Operand} {y:AV} {n:Int} (ho:o.op= .call {callee:= .builtin .len,args:= #[p],argTypes:= #[t]}) (hp:aW Z p=some (.d y)) (hl:n9 E.T t y=some n):a8 E N o Z O (.d (.v (.int .i64 n))):=λL s ηB hs _=>by
 obtain⟨z,h1,h2⟩:=cf hs hp;simp only[aE]at h2;subst h2;exact⟨_,rfl,bM.len ho h1 hl⟩
theorem a8.Ie {t:TypeId} {p ix:Operand} {i n e k sz by':Nat} {z:List Value} {rows:List (List AV)} {kd:IntKind} {m:Int} (j:Nat) (ho:o.op= .indexAddr t p ix) (hp:aW Z p=some (.os i n)) (hi:O.e.get i=some (.row e k rows)) (hn:n=rows.length)
  (ht:aX E.T t=some ⟨.slice e k,sz,by',z⟩) (hix:aW Z ix=some (.d (.v (.int kd m)))) (hm:m=(j:Int)) (hj:j<rows.length):a8 E N o Z O (.oe i n (j*k)):=λL s ηB hs hh=>by
 obtain⟨y,h1,h2⟩:=cf hs hp;simp only[aE]at h2;obtain⟨a,c,t',h3,rfl⟩:=h2;obtain⟨y',h4,h5⟩:=cf hs hix;simp only[aE]at h5;subst h5;obtain⟨q,h6,h7⟩:=hh.en i _ hi;obtain⟨⟨a',c',h8,rfl⟩,_⟩:=h7;subst hn;rw[h3]at h8;cases h8;refine⟨.oe i (.slice a rows.length c) (j*k),by simp only[aE];exact⟨a,c,i,h3,rfl⟩,?_⟩;exact bM.lT (Np ho j ht (by rw[eN (by simp[ho,Op.operands])];exact h1) h6 (by rw[eN (by simp[ho,Op.operands])];exact h4) hm hj)
theorem a8.G0 {t:TypeId} {p:Operand} {i n m e k:Nat} {rows:List (List AV)} {r:List AV} {y:AV} (j off:Nat) (ho:o.op= .load t p) (hp:aW Z p=some (.oe i n m)) (hi:O.e.get i=some (.row e k rows)) (hn:n=rows.length) (hm:m=j*k+off) (hr:rows[j]? =some r)
  (hl:gB E.T t r off=some y):a8 E N o Z O (.d y):=λL s ηB hs hh=>by
 obtain⟨z,h1,h2⟩:=cf hs hp;simp only[aE]at h2;obtain⟨a,c,t',h3,rfl⟩:=h2;obtain⟨q,h6,h7⟩:=hh.en i _ hi;obtain⟨⟨a',c',h8,rfl⟩,_⟩:=h7;subst hn;rw[h3]at h8;cases h8;exact⟨y,rfl,bM.lT (M9 ho j off (by rw[eN (by simp[ho,Op.operands])];exact h1) hm h6 hr hl)⟩
theorem a8.S3 {t:TypeId} {p ix:Operand} {i n e k sz by':Nat} {z:List Value} {rows:List (List AV)} {r:List AV} {kd:IntKind} {m:Int} (j:Nat) (ho:o.op= .indexAddr t p ix) (hp:aW Z p=some (.os i n)) (hi:O.e.get i=some (.gq k rows)) (hn:n=rows.length)
  (ht:aX E.T t=some ⟨.slice e k,sz,by',z⟩) (hix:aW Z ix=some (.d (.v (.int kd m)))) (hm:m=(j:Int)) (hr:rows[j]? =some r):a8 E N o Z O (.d (.ip r)):=λL s ηB hs hh=>by
 obtain⟨u,rfl,hu⟩:=ET hp (λ_ h=>by cases h);obtain⟨y,h1,h2⟩:=hs u _ hu;simp only[aE]at h2;obtain⟨a,c,t',h3,rfl⟩:=h2;obtain⟨q,h6,h7⟩:=hh.en i _ hi;obtain⟨a',c',h8,rfl⟩:=h7;subst hn;rw[h3]at h8;cases h8;obtain⟨y',h4,h5⟩:=cf hs hix;simp only[aE]at h5;subst h5;subst hm;refine⟨.ip r,rfl,bM.known (t:=u) (z:= .sl k rows) ?_ h1 λF w v hH hrl=>?_⟩
 ·refine bM.dG (E:=E) ?_;have hev:ev (eR s u (.sl k rows)) ix=some (.v (.int kd (j:Int))):=by
   cases ix with
   |tmp q=>
    simp only[ev,eR]at h4⊢;split
    ·rename_i hq;subst hq;rw[h1]at h4;cases h4
    ·exact h4
   |const v=>exact h4
   |global g=>exact h4
   |func f=>exact h4
  have hnat:k8 (some (.v (.int kd (j:Int))))=some j:=rfl;rw[ho];simp only[Bw.dG,hev,hnat,ht,rl,ck];simp[ev,eR,hr]
 ·simp only[Rel]at hrl;subst hrl;exact nA hH h6
