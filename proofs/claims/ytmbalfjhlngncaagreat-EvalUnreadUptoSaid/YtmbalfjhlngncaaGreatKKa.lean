/- Lists of names: what the functions about them answer. -/
import Derived.Test.YtmbalfjhlngncaaGreatKVe
import Derived.Test.YtmbalfjhlngncaaGreatKVd
set_option linter.all false
namespace Go.Proofs.YtmbalfjhlngncaaGreat
open Go Go.Bw
section
variable {α:Type}
theorem lR (x:α) (a:List α):decide (((x::a).length:Int)>0)=true:=by simp
theorem nF:decide ((([]:List α).length:Int)>0)=false:=rfl
theorem kB (x:α) (a:List α):(((x::a).length:Int)==0)=false:=by simp;omega
theorem iU:((([]:List α).length:Int)==0)=true:=rfl
theorem dZ (x:α) (a:List α):ao (x::a) 0=some x:=rfl
theorem mL (x:α) (a:List α):b7 (x::a) 1 ((x::a).length:Int)=some a:=by
 show(bif Nat.ble 1 (x::a).length&&Nat.ble (x::a).length (x::a).length then some (((x::a).take (x::a).length).drop 1)else none)=_;rw[pR (by simp),pR (bS _),eQ];rfl
theorem dW {n m:Nat} (h:n<=m):decide (n<=m)=true:=by simpa using h
end
theorem sD:∀{l:List (List UInt8)},rising l=true↔l.Pairwise λa b=>Op.bytesLess a b=true
 |[]=>by simp[rising]
 |x::l=>by rw[jF,vY,sD]
theorem ab7 {a b:List UInt8}:dU a b<0↔Op.bytesLess a b=true:=by
 unfold dU;cases h:Op.bytesLess a b
 ·cases Op.bytesLess b a<;>simp
 ·simp
theorem Gm {a b:List UInt8}:dU a b<=0↔a=b\/Op.bytesLess a b=true:=by
 rw[<-ab7,<-mx.eU];omega
theorem od {zs:List (List UInt8)} {j:Nat} (h:j<zs.length):zs.toArray[j]! =zs[j]:=by simp[h]
theorem Zx {zs:List (List UInt8)} {x:List UInt8}:x∈Lib.compact zs↔x∈zs:=by
 unfold Lib.compact Lib.compactUpTo;simp only[dE,gG,BJ];constructor
 ·rintro ⟨j,⟨hj,_⟩,rfl⟩;rw[od hj];exact List.getElem_mem hj
 ·intro hx;obtain⟨j,hj,rfl⟩:=akt hx;clear hx
  induction j with
  |zero=>exact⟨0,⟨hj,by simp[Lib.keeps]⟩,od hj⟩
  |succ j ih=>
   by_cases h:zs[j+1]=zs[j]
   ·rw[h];exact ih (by omega)
   ·exact⟨j+1,⟨hj,by simp only[Lib.keeps,iL];right;rw[od hj,show j+1-1=j from rfl,od (by omega)];exact h⟩,od hj⟩
theorem YQ {zs:List (List UInt8)} (h:zs.Pairwise λa b=>dU a b<=0):rising (Lib.compact zs)=true:=by
 rw[sD];unfold Lib.compact Lib.compactUpTo;rw[List.pairwise_map,List.pairwise_filter];refine List.Pairwise.imp_of_mem (λ{i j} hi hj hlt _ kj=>?_) List.pairwise_lt_range;rw[BJ]at hi hj;rw[od hi,od hj];simp only[Lib.keeps,iL]at kj;rw[Fz]at h;have hne:zs[j]≠zs[j-1]:=by
  rcases kj with k|k
  ·omega
  ·rwa[od hj,od (by omega)]at k
 have h1:Op.bytesLess zs[j-1] zs[j]=true:=by
  rcases Gm.1 (h (j-1) j (by omega) hj (by omega))with e|e
  ·exact absurd e.symm hne
  ·exact e
 by_cases e:i=j-1
 ·subst e;exact h1
 ·rcases Gm.1 (h i (j-1) hi (by omega) (by omega))with e|e
  ·rw[e];exact h1
  ·exact qe e h1
theorem Zy {zs:List (List UInt8)}:(Lib.compact zs).length<=zs.length:=by
 unfold Lib.compact Lib.compactUpTo;rw[iK];exact iM (BY _ _) (by simp)
theorem PL {l:List (List UInt8)} {x:List UInt8}:x∈eu l↔x∈l:=Zx.trans (nk l).mem_iff
theorem F5 {l:List (List UInt8)}:rising (eu l)=true:=YQ (rY mx l)
theorem sJ {l:List (List UInt8)}:(eu l).length<=l.length:=iM Zy (by rw[mv];exact bS _)
theorem Rj {l:List (List UInt8)} (h:rising l=true):eu l=l:=Ck F5 h λ_=>PL
theorem xN {l:List (List UInt8)} (h:l.length<=274877906944):va l=some (eu l):=
 (adG l).trans (by rw[dW h];rfl)
def cH:List (List UInt8)->List (List UInt8)->List (List UInt8)
 |[],[]=>[]
 |[],y::b=>y::cH [] b
 |x::a,[]=>x::cH a []
 |x::a,y::b=>if Op.bytesLess x y=true then x::cH a (y::b)else if Op.bytesLess y x=true then y::cH (x::a) b else x::cH a b
termination_by a b=>a.length+b.length
theorem PS:∀a b:List (List UInt8),(cH a b).length<=a.length+b.length:=by
 intro a b
 induction a,b using cH.induct with
 |case1=>simp[cH]
 |case2 y b ih=>rw[cH];simp at*;omega
 |case3 x a ih=>rw[cH];simp at*;omega
 |case4 x a y b h ih=>rw[cH,bq h];simp at*;omega
 |case5 x a y b h g ih=>rw[cH,aN h,bq g];simp at*;omega
 |case6 x a y b h g ih=>rw[cH,aN h,aN g];simp at*;omega
theorem qd:∀{a b:List (List UInt8)} {z:List UInt8},z∈cH a b↔z∈a\/z∈b:=by
 intro a b z
 induction a,b using cH.induct with
 |case1=>simp[cH]
 |case2 y b ih=>rw[cH,b6,ih];simp
 |case3 x a ih=>rw[cH,b6,ih];simp
 |case4 x a y b h ih=>rw[cH,bq h,b6,ih];simp only[b6];exact or_assoc.symm
 |case5 x a y b h g ih=>rw[cH,aN h,bq g,b6,ih];simp only[b6];exact or_left_comm
 |case6 x a y b h g ih=>
  have e:x=y:=by
   rcases qQ x y with e|e|e
   ·exact e
   ·exact absurd e h
   ·exact absurd e g
  subst e;rw[cH,aN h,aN g,b6,ih];simp only[b6];constructor
  ·rintro (e|e|e)
   ·exact .inl (.inl e)
   ·exact .inl (.inr e)
   ·exact .inr (.inr e)
  ·rintro ((e|e)|(e|e))
   ·exact .inl e
   ·exact .inr (.inl e)
   ·exact .inl e
   ·exact .inr (.inr e)
theorem Nv:∀{a b:List (List UInt8)},rising a=true->rising b=true->rising (cH a b)=true:=by
 intro a b
 induction a,b using cH.induct with
 |case1=>intro _ _;simp[cH,rising]
 |case2 y b ih=>
  intro ha hb;rw[jF]at hb;rw[cH,jF];exact⟨λz hz=>by rw[qd]at hz;exact hz.elim (by simp) (hb.1 z),ih ha hb.2⟩
 |case3 x a ih=>
  intro ha hb;rw[jF]at ha;rw[cH,jF];exact⟨λz hz=>by rw[qd]at hz;exact hz.elim (ha.1 z) (by simp),ih ha.2 hb⟩
 |case4 x a y b h ih=>
  intro ha hb;have hb':=hb;rw[jF]at ha hb';rw[cH,bq h,jF];refine⟨λz hz=>?_,ih ha.2 hb⟩;rw[qd,b6]at hz;rcases hz with hz|rfl|hz
  ·exact ha.1 z hz
  ·exact h
  ·exact qe h (hb'.1 z hz)
 |case5 x a y b h g ih=>
  intro ha hb;have ha':=ha;rw[jF]at ha' hb;rw[cH,aN h,bq g,jF];refine⟨λz hz=>?_,ih ha hb.2⟩;rw[qd,b6]at hz;rcases hz with(rfl|hz)|hz
  ·exact g
  ·exact qe g (ha'.1 z hz)
  ·exact hb.1 z hz
 |case6 x a y b h g ih=>
  intro ha hb;have e:x=y:=by
   rcases qQ x y with e|e|e
   ·exact e
   ·exact absurd e h
   ·exact absurd e g
  subst e;rw[jF]at ha hb;rw[cH,aN h,aN g,jF];exact⟨λz hz=>by rw[qd]at hz;exact hz.elim (ha.1 z) (hb.1 z),ih ha.2 hb.2⟩
theorem ab8:∀(a b s:List (List UInt8)),a.length+b.length+s.length<=274877906944->(fq Pf) true true true a b s=some (s++cH a b):=by
 intro a b
 induction a,b using cH.induct with
 |case1=>intro s _;rw[tH,mE];simp only[bD,nF,aF];simp[cH]
 |case2 y b ih=>
  intro s hs;rw[tH,mE];simp only[bD,nF,aF,lR,aD,kB,iU,dZ,aw,mL];rw[dW (by simp at*;omega),aD,ih (s++[y]) (by simp at*;omega)];simp[cH]
 |case3 x a ih=>
  intro s hs;rw[tH,mE];simp only[bD,nF,aF,lR,aD,kB,iU,dZ,aw,mL];rw[dW (by simp at*;omega),aD,ih (s++[x]) (by simp at*;omega)];simp[cH]
 |case4 x a y b h ih=>
  intro s hs;rw[tH,mE];simp only[bD,nF,aF,lR,aD,kB,iU,dZ,aw,mL,h];rw[dW (by simp at*;omega),aD,ih (s++[x]) (by simp at*;omega),cH,bq h];simp
 |case5 x a y b h g ih=>
  intro s hs;have h':Op.bytesLess x y=false:=by simpa using h
  rw[tH,mE];simp only[bD,nF,aF,lR,aD,kB,iU,dZ,aw,mL,h',g];rw[dW (by simp at*;omega),aD,ih (s++[y]) (by simp at*;omega),cH,aN h,bq g];simp
 |case6 x a y b h g ih=>
  intro s hs;have h':Op.bytesLess x y=false:=by simpa using h
  have g':Op.bytesLess y x=false:=by simpa using g
  rw[tH,mE];simp only[bD,nF,aF,lR,aD,kB,iU,dZ,aw,mL,h',g'];rw[dW (by simp at*;omega),aD,ih (s++[x]) (by simp at*;omega),cH,aN h,aN g];simp
theorem union_eq {a b:List (List UInt8)} (h:a.length+b.length<=274877906944) (ha:rising a=true) (hb:rising b=true):(f247 Pf) a b=some (cH a b):=by
 rw[agj,Aa,agk,Ab,Ei,xN (by omega),aw,xN (by omega),aw,Rj ha,Rj hb,ab8 a b [] (by simpa using h)];rfl
theorem abT {a b:List (List UInt8)} (ha:a.length<=274877906944) (hb:b.length<=274877906944):∃r,(f142 Pf) a b=some r/\(r=0↔eu a=eu b):=by
 have h1:(eu a).length<=a.length:=sJ;have h2:(eu b).length<=b.length:=sJ;rw[agl,Ac,Ei,xN ha,aw,xN hb,aw,agm,Ad,agn,ago,bD,bD,Rk,aw,P0 _ _ (by omega)];by_cases h:jU ((eu a).length:Int) ((eu b).length:Int)=0
 ·rw[h];exact⟨_,rfl,(CF mx).eU _ _⟩
 ·rw[vb h];exact⟨_,rfl,⟨λe=>absurd e h,λe=>absurd ((CT.eU _ _).2 (by rw[e])) h⟩⟩
theorem qt {l:List (List UInt8)} {x:List UInt8}:(l.any λy=>x==y)=true↔x∈l:=by
 simp only[FF,beq_iff_eq];exact⟨λ⟨y,hy,e⟩=>e▸hy,λh=>⟨x,h,rfl⟩⟩
theorem HK {a b:List (List UInt8)}:(a.all λx=>b.any λy=>x==y)=true↔∀x∈a,x∈b:=by
 rw[fR];exact⟨λh x hx=>qt.1 (h x hx),λh x hx=>qt.2 (h x hx)⟩
def er (onl:List (List UInt8)) (s:List UInt8):Bool:=onl.isEmpty||onl.any λy=>s==y
theorem Cu {onl:List (List UInt8)} {s:List UInt8}:er onl s=true↔onl=[]\/s∈onl:=by
 unfold er;rw[rS,qt,List.isEmpty_iff]
theorem F6 {onl ns:List (List UInt8)} (ho:onl.length<9223372036854775807) (hn:ns.length<9223372036854775807) (hs:∀s∈ns,s.length<9223372036854775807):∃r,(f117 Pf) onl ns=some r/\(r=true↔jg onl ns):=by
 rw[agp,Ae,nq _ hn,aw];cases hr:rising ns
 ·exact⟨_,rfl,by simp[jg,hr]⟩
 ·have:=xp (a:=ns) (L:=λi=>(oQ Pf) onl ns i) (λs=>de s&&er onl s) true (λi x hx hi=>by
   show(oQ Pf) onl ns i=_;rw[Rl,tI,bD,bD,a6];have:decide (i<ns.length)=true:=by simpa using hi
   rw[this,aD,bg hx,aw,kN x (hs x (a7 hx)),aw,bM i (by omega),has_eq _ _ ho,aw];cases hv:de x
   ·rfl
   ·unfold er;cases onl with
    |nil=>rfl
    |cons y o=>rw[lR];cases h:((y::o).any λy=>x==y)<;>simp[h]) (by
   show(oQ Pf) onl ns _=_;rw[Rl,tI,bD,bD,a6];simp)
  refine⟨_,this,?_⟩;simp only[rQ,fR,bJ,Cu,jg,hr,true_and]
theorem Z5 {rs:List aU} {ns:List (List UInt8)} (hr:rs.length<9223372036854775807) (hi:∀r∈rs,r.If.length<9223372036854775807) (hn:ns.length<9223372036854775807):∃r,(f118 Pf) rs ns=some r/\(r=true↔lr rs ns):=by
 rw[agq,vc];have:=xp (a:=rs) (L:=λi=>(oR Pf) rs ns i) (λr=>!(r.If.all λx=>ns.any λy=>x==y)||(ns.any λy=>r.dt==y)) true (λi x hx hi'=>by
  show(oR Pf) rs ns i=_;rw[Rm,tJ,aU.aI,a6];have:decide (i<rs.length)=true:=by simpa using hi'
  rw[this,aD,bg hx,aw,Cz _ _ (hi x (a7 hx)) hn,aw,has_eq _ _ hn,bM i (by omega)];cases (x.If.all λx=>ns.any λy=>x==y)
  ·rfl
  ·cases h:(ns.any λy=>x.dt==y)<;>simp) (by
  show(oR Pf) rs ns _=_;rw[Rm,tJ,aU.aI,a6];simp)
 refine⟨_,this,?_⟩;simp only[rQ,fR,rS,jC,lr];constructor
 ·intro h r hr hs;rcases h r hr with e|e
  ·rw[HK.2 hs]at e;cases e
  ·exact qt.1 e
 ·intro h r hr;cases e:(r.If.all λx=>ns.any λy=>x==y)
  ·exact .inl rfl
  ·exact .inr (qt.2 (h r hr (HK.1 e)))
theorem F4 {l:ah} {s:List UInt8} (h:l.Names.length<9223372036854775807):(f148 Pf) l s=some (er l.Names s):=by
 rw[agr,Af,bD];unfold er;cases e:l.Names with
 |nil=>rfl
 |cons x ns=>rw[kB,aF,contains_eq _ _ (by rw[<-e];exact h)];simp
def nO:Int->List ai->Bool
 |_,[]=>true
 |q,t::c=>decide (q<t.Process)&&(decide (t.Process<=63)&&(decide (1<=t.N)&&(decide (t.N<=1000000000000000)&&nO t.Process c)))
theorem G3:∀{c:List ai} {q:Int},-1<=q->(nO q c=true↔bQ c/\∀u∈c,q<u.Process)
 |[],q,_=>by simp[nO,bQ]
 |t::c,q,hq=>by
  rw[nO,bQ];simp only[bJ,iL];constructor
  ·rintro ⟨h1,h2,h3,h4,h5⟩;have:=(G3 (by omega)).1 h5;refine⟨⟨⟨by omega,h2,h3,h4⟩,this.2,this.1⟩,λu hu=>?_⟩;rcases b6.1 hu with rfl|hu
   ·exact h1
   ·have:=this.2 u hu;omega
  ·rintro ⟨⟨⟨h1,h2,h3,h4⟩,h5,h6⟩,h7⟩;exact⟨h7 t (by simp),h2,h3,h4,(G3 (by omega)).2 ⟨h6,h5⟩⟩
theorem PW:∀{c:List ai} {q:Int},bQ c->(∀u∈c,q<u.Process)->q<=63->(c.length:Int)<=63-q
 |[],q,_,_,h=>by simp;omega
 |t::c,q,hc,h,_=>by
  have:=h t (by simp);have:=PW (q:=t.Process) hc.2.2 hc.2.1 hc.1.2.1;simp;omega
theorem ny {c:List ai} (h:bQ c):c.length<=64:=by
 have:=PW (q:= -1) h (λu hu=>by have:=(h.mem hu).1;omega) (by omega);omega
theorem O0 {c:List ai} (h:c.length<9223372036854775807):(f183 Pf) c=some (nO (-1) c):=by
 rw[af',u9];have key:∀k i q,k=c.length-i->i<=c.length->(xw Pf) c q (i:Int)=some (nO q (c.drop i)):=by
  intro k
  induction k with
  |zero=>
   intro i q hk hi;have:i=c.length:=by omega
   subst this;rw[Rg,tF,ai.aI,a6,FG];simp[nO]
  |succ k ih=>
   intro i q hk hi;obtain⟨x,hx⟩:=bw (by omega:i<c.length);have:decide (i<c.length)=true:=by simp;omega
   rw[Rg,tF,ai.aI,a6,this,aD,bg hx,aw,bM i (by omega),ih (i+1) x.Process (by omega) (by omega),jq hx,nO];by_cases h1:x.Process<=q
   ·simp[h1];intros;omega
   ·by_cases h2:x.Process>63
    ·simp[h1,h2];intros;omega
    ·by_cases h3:x.N<1
     ·simp[h1,h2,h3];intros;omega
     ·by_cases h4:x.N>1000000000000000
      ·simp[h1,h2,h3,h4];intros;omega
      ·have a1:q<x.Process:=by omega
       have a2:x.Process<=63:=by omega
       have a3:1<=x.N:=by omega
       have a4:x.N<=1000000000000000:=by omega
       simp[h1,h2,h3,h4,a1,a2,a3,a4]
 have:=key c.length 0 (-1) (by omega) (by omega);simpa using this
theorem Gp {c:List ai}:nO (-1) c=true↔bQ c:=by
 rw[G3 (by omega)];exact⟨λh=>h.1,λh=>⟨h,λu hu=>by have:=(h.mem hu).1;omega⟩⟩
theorem ow {c:List ai} (h:bQ c):(f183 Pf) c=some true:=by
 rw[O0 (by have:=ny h;omega),Gp.2 h]
theorem wP {R:Type} {X:List ai->Option R} {s:List ai} {p k:Int} (h:s.length<274877906944):(bif decide (k>0)then(bif decide (((s:List ai)++([{Process:=p,N:=k:ai}]:List ai)).length<=274877906944)then X (s++[{Process:=p,N:=k:ai}])else none)else X s)=X (s++jv p k):=by
 unfold jv;by_cases hk:k>0
 ·rw[dI hk,aD,dW (by simp;omega),aD,bq hk]
 ·rw[dM hk,aF,aN hk,ji]
theorem xc {p k:Int}:(jv p k).length<=1:=by unfold jv;split<;>simp
def q8 (L:List ai->List ai->List ai->Option (List ai)) (g:Int->Int->Option Int):List ai->List ai->List ai->Option (List ai):=(λs5 s6 s7=>(bif decide ((↑(ai.rows s5).length:Int)>0)then(bif (↑(ai.rows s6).length:Int)==0 then((ao (s5) (0)).bind λx10=>((ao (s5) (0)).bind λx12=>((b7 (s5) (1) (((s5).length:Int))).bind λx14=>((g (x12.N) (0)).bind λy16=>(bif decide (y16>0)then(bif decide (((s7:List ai)++([{Process:=x10.Process,N:=y16:ai}]:List ai)).length<=274877906944)then(L (x14) (s6) (s7++[{Process:=x10.Process,N:=y16:ai}]))else none)else(L (x14) (s6) (s7)))))))else((ao (s5) (0)).bind λx19=>((ao (s6) (0)).bind λx21=>(bif decide (x19.Process<x21.Process)then((ao (s5) (0)).bind λx24=>((ao (s5) (0)).bind λx26=>((b7 (s5) (1) (((s5).length:Int))).bind λx28=>((g (x26.N) (0)).bind λy30=>(bif decide (y30>0)then(bif decide (((s7:List ai)++([{Process:=x24.Process,N:=y30:ai}]:List ai)).length<=274877906944)then(L (x28) (s6) (s7++[{Process:=x24.Process,N:=y30:ai}]))else none)else(L (x28) (s6) (s7)))))))else(bif (↑(ai.rows s5).length:Int)==0 then((ao (s6) (0)).bind λx34=>((ao (s6) (0)).bind λx36=>((b7 (s6) (1) (((s6).length:Int))).bind λx38=>((g (0) (x36.N)).bind λy40=>(bif decide (y40>0)then(bif decide (((s7:List ai)++([{Process:=x34.Process,N:=y40:ai}]:List ai)).length<=274877906944)then(L (s5) (x38) (s7++[{Process:=x34.Process,N:=y40:ai}]))else none)else(L (s5) (x38) (s7)))))))else((ao (s6) (0)).bind λx43=>((ao (s5) (0)).bind λx45=>(bif decide (x43.Process<x45.Process)then((ao (s6) (0)).bind λx48=>((ao (s6) (0)).bind λx50=>((b7 (s6) (1) (((s6).length:Int))).bind λx52=>((g (0) (x50.N)).bind λy54=>(bif decide (y54>0)then(bif decide (((s7:List ai)++([{Process:=x48.Process,N:=y54:ai}]:List ai)).length<=274877906944)then(L (s5) (x52) (s7++[{Process:=x48.Process,N:=y54:ai}]))else none)else(L (s5) (x52) (s7)))))))else((ao (s5) (0)).bind λx57=>((ao (s5) (0)).bind λx59=>((ao (s6) (0)).bind λx61=>((b7 (s5) (1) (((s5).length:Int))).bind λx63=>((b7 (s6) (1) (((s6).length:Int))).bind λx65=>((g (x59.N) (x61.N)).bind λy67=>(bif decide (y67>0)then(bif decide (((s7:List ai)++([{Process:=x57.Process,N:=y67:ai}]:List ai)).length<=274877906944)then(L (x63) (x65) (s7++[{Process:=x57.Process,N:=y67:ai}]))else none)else(L (x63) (x65) (s7)))))))))))))))))else(bif decide ((↑(ai.rows s6).length:Int)>0)then(bif (↑(ai.rows s6).length:Int)==0 then((ao (s5) (0)).bind λx72=>((ao (s5) (0)).bind λx74=>((b7 (s5) (1) (((s5).length:Int))).bind λx76=>((g (x74.N) (0)).bind λy78=>(bif decide (y78>0)then(bif decide (((s7:List ai)++([{Process:=x72.Process,N:=y78:ai}]:List ai)).length<=274877906944)then(L (x76) (s6) (s7++[{Process:=x72.Process,N:=y78:ai}]))else none)else(L (x76) (s6) (s7)))))))else(bif (↑(ai.rows s5).length:Int)==0 then((ao (s6) (0)).bind λx82=>((ao (s6) (0)).bind λx84=>((b7 (s6) (1) (((s6).length:Int))).bind λx86=>((g (0) (x84.N)).bind λy88=>(bif decide (y88>0)then(bif decide (((s7:List ai)++([{Process:=x82.Process,N:=y88:ai}]:List ai)).length<=274877906944)then(L (s5) (x86) (s7++[{Process:=x82.Process,N:=y88:ai}]))else none)else(L (s5) (x86) (s7)))))))else((ao (s6) (0)).bind λx91=>((ao (s5) (0)).bind λx93=>(bif decide (x91.Process<x93.Process)then((ao (s6) (0)).bind λx96=>((ao (s6) (0)).bind λx98=>((b7 (s6) (1) (((s6).length:Int))).bind λx100=>((g (0) (x98.N)).bind λy102=>(bif decide (y102>0)then(bif decide (((s7:List ai)++([{Process:=x96.Process,N:=y102:ai}]:List ai)).length<=274877906944)then(L (s5) (x100) (s7++[{Process:=x96.Process,N:=y102:ai}]))else none)else(L (s5) (x100) (s7)))))))else((ao (s5) (0)).bind λx105=>((ao (s5) (0)).bind λx107=>((ao (s6) (0)).bind λx109=>((b7 (s5) (1) (((s5).length:Int))).bind λx111=>((b7 (s6) (1) (((s6).length:Int))).bind λx113=>((g (x107.N) (x109.N)).bind λy115=>(bif decide (y115>0)then(bif decide (((s7:List ai)++([{Process:=x105.Process,N:=y115:ai}]:List ai)).length<=274877906944)then(L (x111) (x113) (s7++[{Process:=x105.Process,N:=y115:ai}]))else none)else(L (x111) (x113) (s7))))))))))))))else(some (s7)))))
theorem PX {f:Int->Int->Int} {g:Int->Int->Option Int} (hg:∀m n,g m n=some (f m n)) {L:List ai->List ai->List ai->Option (List ai)} (hL:∀a b s,L a b s=q8 L g a b s):∀a b s,a.length+b.length+s.length<=274877906944->L a b s=some (s++cT f a b):=by
 intro a b
 induction a,b using cT.induct with
 |case1=>intro s _;rw[hL,q8];simp only[ai.aI,nF,aF];simp[cT]
 |case2 t a ih=>
  intro s hs;rw[hL,q8];simp only[ai.aI,nF,aF,lR,aD,kB,iU,dZ,aw,mL,hg];refine(wP (X:=λz=>L a [] z) (by simp at hs;omega)).trans ?_;have:= @xc t.Process (f t.N 0);rw[ih _ (by simp at hs⊢;omega),cT];simp
 |case3 u b ih=>
  intro s hs;rw[hL,q8];simp only[ai.aI,nF,aF,lR,aD,kB,iU,dZ,aw,mL,hg];refine(wP (X:=λz=>L [] b z) (by simp at hs;omega)).trans ?_;have:= @xc u.Process (f 0 u.N);rw[ih _ (by simp at hs⊢;omega),cT];simp
 |case4 t a u b h ih=>
  intro s hs;rw[hL,q8];simp only[ai.aI,aF,lR,aD,kB,dZ,aw,mL,hg,dI h];refine(wP (X:=λz=>L a (u::b) z) (by simp at hs;omega)).trans ?_;have:= @xc t.Process (f t.N 0);rw[ih _ (by simp at hs⊢;omega),cT,bq h];simp
 |case5 t a u b h g' ih=>
  intro s hs;rw[hL,q8];simp only[ai.aI,aF,lR,aD,kB,dZ,aw,mL,hg,dM h,dI g'];refine(wP (X:=λz=>L (t::a) b z) (by simp at hs;omega)).trans ?_;have:= @xc u.Process (f 0 u.N);rw[ih _ (by simp at hs⊢;omega),cT,aN h,bq g'];simp
 |case6 t a u b h g' ih=>
  intro s hs;rw[hL,q8];simp only[ai.aI,aF,lR,aD,kB,dZ,aw,mL,hg,dM h,dM g'];refine(wP (X:=λz=>L a b z) (by simp at hs;omega)).trans ?_;have:= @xc t.Process (f t.N u.N);rw[ih _ (by simp at hs⊢;omega),cT,aN h,aN g'];simp
theorem aa1 (m n:Int):(f288 Pf) m n=some (over m n):=by
 rw[aga,zU];unfold over;by_cases h:m>n<;>simp[h]
theorem aa2 (m n:Int):(f272 Pf) m n=some (max m n):=by
 rw[agb,zW];congr 1;split<;>omega
theorem PY {a b:List ai} (ha:bQ a) (hb:bQ b):(f242 Pf) a b=some (cT over a b):=by
 have:=ny ha;have:=ny hb;rw[agc,zX,ab4,xd,ow ha,aw,fm,aF,ow hb,aw,fm,aF,PX (f:=over) aa1 Zv a b [] (by simp;omega)];rfl
theorem OW {a b:List ai} (ha:bQ a) (hb:bQ b):(f209 Pf) a b=some (pC a b):=by
 have:=ny ha;have:=ny hb;rw[agd,zY,ab5,xe,ow ha,aw,fm,aF,ow hb,aw,fm,aF,PX (f:=max) aa2 Zw a b [] (by simp;omega)];rfl
theorem HJ {a b:List ai} (ha:bQ a) (hb:bQ b):∃r,(f185 Pf) a b=some r/\(r=0↔a=b)/\(r=1↔dp a b/\a≠b)/\(r=2↔dp b a/\a≠b):=by
 rw[age,zZ,ow ha,aw,fm,aF,ow hb,aw,fm,aF,PY ha hb,aw,PY hb ha,aw,ai.aI,ai.aI];have h1:=PZ ha hb;have h2:=PZ hb ha;have h3:a=b↔dp a b/\dp b a:=⟨λe=>e▸⟨dp.refl _,dp.refl _⟩,λh=>dp.antisymm ha hb h.1 h.2⟩;rw[Ne,h3];cases e1:cT over a b<;>cases e2:cT over b a<;>simp only[e1,e2,iU,kB,aD,aF,reduceCtorEq,false_iff,true_iff]at h1 h2⊢<;>refine⟨_,rfl,?_⟩<;>simp[h1,h2]
theorem abX {e f:ax} (ha:bQ e.aY) (hb:bQ f.aY):∃r,(f251 Pf) e f=some r/\(r=true↔under e f):=by
 obtain⟨r,h,h0,h1,h2⟩:=HJ ha hb;rw[agf,z6,h,aw];by_cases e1:r=1
 ·rw[e1];have:=h1.1 e1;exact⟨_,rfl,⟨λ_=>⟨this.1,λh=>absurd h this.2⟩,λ_=>rfl⟩⟩
 ·by_cases e0:r=0
  ·rw[e0];have:=h0.1 e0;refine⟨_,rfl,?_⟩;simp only[beq_iff_eq];exact⟨λhn=>⟨this▸dp.refl _,λ_=>hn⟩,λh=>h.2 this⟩
  ·have a1:(r==1)=false:=by simpa using e1
   have a0:(r==0)=false:=by simpa using e0
   rw[a1,a0];refine⟨_,rfl,⟨λh=>(by cases h),λh=>?_⟩⟩;by_cases e:e.aY=f.aY
   ·exact absurd (h0.2 e) e0
   ·exact absurd (h1.2 ⟨h.1,e⟩) e1
theorem adF {c:List ai} {p:Int} (h:bQ c):(f302 Pf) c p=some (bR p c):=by
 have hl:=ny h;rw[agh,z7,ow h,aw,fm,aF];have key:∀k i,k=c.length-i->i<=c.length->(xx Pf) c p (i:Int)=some (bR p (c.drop i)):=by
  intro k
  induction k with
  |zero=>
   intro i hk hi;have:i=c.length:=by omega
   subst this;rw[Rh,tG,ai.aI,a6,FG];simp[bR]
  |succ k ih=>
   intro i hk hi;obtain⟨x,hx⟩:=bw (by omega:i<c.length);have:decide (i<c.length)=true:=by simp;omega
   rw[Rh,tG,ai.aI,a6,this,aD,bg hx,aw,bM i (by omega),ih (i+1) (by omega) (by omega),jq hx,bR];by_cases e:x.Process=p
   ·simp[e]
   ·rw[show(x.Process==p)=false by simpa using e,aN e];rfl
 have:=key c.length 0 (by omega) (by omega);simpa using this
def Ej (c:List ai) (p:Int):List ai:=pC c [⟨p,bR p c+1⟩]
theorem Ri {c:List ai} {p:Int} (h:bQ c) (h0:0<=p) (h1:p<=63) (h2:bR p c≠1000000000000000):bQ [⟨p,bR p c+1⟩]:=by
 have n0:0<=bR p c:=p5 h;have n1:bR p c<=1000000000000000:=CS h;exact⟨⟨h0,h1,by show 1<=bR p c+1;omega,by show bR p c+1<=_;omega⟩,by simp,trivial⟩
theorem aey {c:List ai} {p:Int} (h:bQ c) (h0:0<=p) (h1:p<=63):(f268 Pf) c p=some (if bR p c=1000000000000000 then([],6)else(Ej c p,0)):=by
 have n0:0<=bR p c:=p5 h;have n1:bR p c<=1000000000000000:=CS h;rw[agi,z8,ow h,aw,fm,aF,dM (by omega),aF,dM (by omega),aF,adF h,aw];by_cases e:bR p c=1000000000000000
 ·rw[bq e,e];rfl
 ·have:(bR p c==1000000000000000)=false:=by simpa using e
  rw[aN e,this,aF,wrap64 (by omega) (by omega),OW h (Ri h h0 h1 e)];rfl
theorem abU {c:List ai} {p:Int} (h:bQ c) (h0:0<=p) (h1:p<=63) (h2:bR p c≠1000000000000000):bQ (Ej c p)/\Ej c p≠[]:=by
 have n0:0<=bR p c:=p5 h;have n1:bR p c<=1000000000000000:=CS h;have hc:=Ri h h0 h1 h2;refine⟨G2 h hc,λe=>?_⟩;have:=ab6 h hc p;have e':pC c [⟨p,bR p c+1⟩]=[]:=e;rw[e']at this;simp[bR]at this;omega
inductive SV:af->Prop
 |mk {v:af}:v.Names.length<=274877906944->(∀s∈v.Names,s.length<=274877906944)->v.aj.length<=274877906944->v.Entries.length<=274877906944->(∀e∈v.Entries,e.aY.length<=274877906944/\e.Name.length<=274877906944)->(∀p∈v.aj,SV p)->SV v
theorem SV.bv {v:af} (h:SV v):BV 274877906944 v:=by
 induction h with
 |mk h1 h2 h3 h4 h5 h6 ih=>exact .mk h1 h3 h4 (λe he=>(h5 e he).1) ih
theorem sX {s:List UInt8} (h:de s=true):s.length<=16:=(HD.1 h).1
theorem VE.sv {l:ah} {v:af} {m:Nat} (hm:m<=274877906944) (h:VE l v):BV m v->SV v:=by
 induction h with
 |flag _ _=>exactλ_=> .mk (by simp) (by simp) (by simp) (by simp) (by simp) (by simp)
 |num _ _ _=>exactλ_=> .mk (by simp) (by simp) (by simp) (by simp) (by simp) (by simp)
 |set _ hn _=>exactλhb=> .mk (by have:=hb.names;omega) (λs hs=>by have:=sX (hn.2 s hs).1;omega) (by simp) (by simp) (by simp) (by simp)
 |yx _ _=>exactλ_=> .mk (by simp) (by simp) (by simp) (by simp) (by simp) (by simp)
 |IB _ hn=>exactλhb=> .mk (by simp) (λs hs=>by have:=sX (hn.2 s hs).1;omega) (by simp) (by simp) (by simp) (by simp)
 |Bm _ he=>exactλhb=> .mk (by simp) (by simp) (by simp) (by have:=hb.entries;omega) (λe h=>⟨by have:=ny (he.1 e h).2.1;omega,by have:=sX (he.1 e h).2.2;omega⟩) (by simp)
 |map _ _ hn _ _ _ ih=>exactλhb=> .mk (by have:=hb.names;omega) (λs hs=>by have:=sX (hn.2 s hs).1;omega) (by have:=hb.parts;omega) (by simp) (by simp) (λp hp=>ih p hp (hb.part hp))
 |prod _ hl _ ih=>
  refineλhb=> .mk (by simp) (by simp) (by have:=hb.parts;omega) (by simp) (by simp) (λp hp=>?_);obtain⟨i,hi⟩:=jk hp;obtain⟨q,hq⟩:=kO hl hi;exact ih i p q hi hq (hb.part hp)
theorem yh {B:Nat} (hB:B<=1048576):∀v:af,v.ok B->SV v:=by
 refine af.ind λv ih hv=>?_;rw[af.dO]at hv;obtain⟨_,⟨h1,h2⟩,⟨h3,h4⟩,h5,h6⟩:=hv;exact .mk (by omega) (λs hs=>by have:=h2 s hs;omega) (by omega) (by omega) (λe he=>by have:=h6 e he;unfold ax.ok at this;exact⟨by omega,by omega⟩) (λp hp=>ih p hp (af.gJ h4 hp))
theorem wM {a b:af} {m:Nat} (hm:m<9223372036854775807) (ha:BV m a):∃r,(f120 Pf) a b=some r/\(r=true↔a=b):=by
 rw[af4,zN,af5,Oe hm a b ha];exact⟨_,rfl,by rw[beq_iff_eq];exact OZ⟩
theorem aaY {a b:af} {R:Type} {X Y:Option R} {m:Nat} (hm:m<9223372036854775807) (ha:BV m a):(a=b/\(((f120 Pf) a b).bind λy=>bif y then X else Y)=X)\/(a≠b/\(((f120 Pf) a b).bind λy=>bif y then X else Y)=Y):=by
 obtain⟨r,h,hr⟩:=wM (b:=b) hm ha;rw[h,aw];cases r
 ·exact .inr ⟨λe=>(by have:=hr.2 e;cases this),rfl⟩
 ·exact .inl ⟨hr.1 rfl,rfl⟩
section
variable {B:Nat} (hB:B<=1048576)
include hB
theorem Gy:∀l:ah,l.ok B->(f121 Pf) l=some (bot l):=by
 refine ah.ind λl ih hl=>?_;have hl':=hl;rw[ah.dO]at hl';obtain⟨_,_,_,_,⟨hp,hpp⟩,_⟩:=hl';have loop:∀{L:Int->List af->Option af},(∀i s,L i s=bif decide (i<((ah.rows l.aj).length:Int))then((ao (l.aj) (i)).bind λx10=>(((f121 Pf) x10).bind λy12=>(bif decide (((s:List af)++([y12]:List af)).length<=274877906944)then(L (IntKind.i64.wrap (i+1)) (s++[y12]))else none)))else(some ({N:=0,Names:=[],aj:=s,Entries:=[]:af})))->L 0 []=some ⟨0,[],l.aj.map bot,[]⟩:=by
  intro L hL;have h:=dX (L:=λi s=>L i s) (P:=λr=>r=⟨0,[],l.aj.map bot,[]⟩) (len:=l.aj.length) (λi s=>s=(l.aj.take i).map bot) (λi s hi hs k=>by
   show ab (L i s) _;obtain⟨x,hx⟩:=bw hi;have hm:=a7 hx;have:decide (i<l.aj.length)=true:=by simpa using hi
   rw[hL,ah.aI,a6,this,aD,bg hx,aw,ih x hm (ah.gJ hpp hm),aw,dW (by rw[hs];simp;omega),aD,bM i (by omega)];exact k _ (by rw[hs,eY,hx];simp)) (λs hs=>by
   show ab (L _ s) _;have:decide (l.aj.length<l.aj.length)=false:=by simp
   rw[hL,ah.aI,a6,this,aF];exact ab.ret (by rw[hs,eQ])) 0 [] (by omega) (by simp)
  exact ab.of h
 rw[af6,zO,DT];by_cases h2:l.Kind=2
 ·rw[bq h2,h2];rfl
 ·by_cases h3:l.Kind=3
  ·rw[aN h2,bq h3,h3];rfl
  ·have e2:(l.Kind==2)=false:=by simpa using h2
   have e3:(l.Kind==3)=false:=by simpa using h3
   rw[aN h2,aN h3,e2,e3,aF,aF];by_cases h6:l.Kind=6
   ·rw[bq (.inl h6),h6];exact loop (L:=λi s=>(xq Pf) l i s) λi s=>adB l i s
   ·have e6:(l.Kind==6)=false:=by simpa using h6
    rw[e6,aF];by_cases h7:l.Kind=7
    ·rw[bq (.inr h7),h7];exact loop (L:=λi s=>(xr Pf) l i s) λi s=>adC l i s
    ·have e7:(l.Kind==7)=false:=by simpa using h7
     rw[e7,aF,aN (by omega)]
theorem OV {l:ah} (hl:l.ok B) (h:cj l):(f202 Pf) l=some (bot l,0):=by
 rw[af7,zQ,CO (by omega) hl h,aw,Gy hB l hl];rfl
end
def la (v:af) (a b c d:Bool):Bool:=(a||v.N==0)&&((b||v.Names.isEmpty)&&((c||v.aj.isEmpty)&&(d||v.Entries.isEmpty)))
theorem El {α:Type} (l:List α):((l.length:Int)==0)=l.isEmpty:=by cases l;rfl;rw[kB];rfl
theorem adA (v:af) (a b c d:Bool):(f116 Pf) v a b c d=some (la v a b c d):=by
 rw[af8,zT,bD,af.aI,ax.aI,El,El,El];unfold la;cases a<;>cases b<;>cases c<;>cases d<;>cases (v.N==0)<;>cases v.Names.isEmpty<;>cases v.aj.isEmpty<;>cases v.Entries.isEmpty<;>rfl
theorem iO {v:af} {a b c d:Bool}:la v a b c d=true↔v=⟨bif a then v.N else 0,bif b then v.Names else [],bif c then v.aj else [],bif d then v.Entries else []⟩:=by
 obtain⟨n,ns,ps,es⟩:=v;unfold la;cases a<;>cases b<;>cases c<;>cases d<;>simp
theorem iZ.take {es:List ax} (h:iZ es) (i:Nat):iZ (es.take i):=⟨λe he=>h.1 e (YK he),h.2.1.sublist (List.take_sublist _ _),λe he f hf=>h.2.2 e (YK he) f (YK hf)⟩
theorem aa0 {K:Option Bool} {L:Int->Option Bool} {x:ax} {pre:List ax} (hn:pre.length<=274877906944) (hL:∀j,L j=bif decide (j<((ax.rows pre).length:Int))then((ao pre j).bind λx21=>(((f185 Pf) x.aY x21.aY).bind λy23=>(bif y23==1 then(some false)else(bif y23==2 then(some false)else L (IntKind.i64.wrap (j+1))))))else K) (hx:bQ x.aY) (hp:∀e∈pre,bQ e.aY):
  ((∀e∈pre,dp x.aY e.aY\/dp e.aY x.aY->x.aY=e.aY)/\L 0=K)\/(¬(∀e∈pre,dp x.aY e.aY\/dp e.aY x.aY->x.aY=e.aY)/\L 0=some false):=by
 have key:∀k i,k=pre.length-i->i<=pre.length->((∀e∈pre.drop i,dp x.aY e.aY\/dp e.aY x.aY->x.aY=e.aY)/\L (i:Int)=K)\/(¬(∀e∈pre.drop i,dp x.aY e.aY\/dp e.aY x.aY->x.aY=e.aY)/\L (i:Int)=some false):=by
  intro k
  induction k with
  |zero=>
   intro i hk hi;have:i=pre.length:=by omega
   subst this;rw[hL,ax.aI,a6,FG];exact .inl ⟨by simp,by simp⟩
  |succ k ih=>
   intro i hk hi;obtain⟨e,he⟩:=bw (by omega:i<pre.length);have:decide (i<pre.length)=true:=by simp;omega
   obtain⟨r,hr,r0,r1,r2⟩:=HJ hx (hp e (a7 he));rw[hL,ax.aI,a6,this,aD,bg he,aw,hr,aw,bM i (by omega),jq he];by_cases e1:r=1
   ·subst e1;have:=r1.1 rfl;exact .inr ⟨λh=>this.2 (h e (by simp) (.inl this.1)),rfl⟩
   ·by_cases e2:r=2
    ·subst e2;have:=r2.1 rfl;exact .inr ⟨λh=>this.2 (h e (by simp) (.inr this.1)),rfl⟩
    ·rw[show(r==1)=false by simpa using e1,show(r==2)=false by simpa using e2,aF,aF];rcases ih (i+1) (by omega) (by omega)with⟨h1,h2⟩|⟨h1,h2⟩
     ·refine .inl ⟨λe' he' hc=>?_,h2⟩;rcases b6.1 he' with rfl|he'
      ·refine akw λhne=>?_;rcases hc with hc|hc
       ·exact e1 (r1.2 ⟨hc,hne⟩)
       ·exact e2 (r2.2 ⟨hc,hne⟩)
      ·exact h1 e' he' hc
     ·exact .inr ⟨λh=>h1 λe' he'=>h e' (BX _ he'),h2⟩
 exact key pre.length 0 (by omega) (by omega)
theorem ab3 {es:List ax} {i:Nat} {x:ax} (hx:es[i]? =some x) (h:iZ (es.take i)) (h1:x.aY≠[]) (h2:bQ x.aY) (h3:de x.Name=true) (h4:∀y,0<i->es[i-1]? =some y->eO y x<0) (h5:∀e∈es.take i,dp x.aY e.aY\/dp e.aY x.aY->x.aY=e.aY):iZ (es.take (i+1)):=by
 have hl:=(b9.1 hx).1;have e:es.take (i+1)=es.take i++[x]:=by rw[eY,hx];rfl
 rw[e];refine⟨λf hf=>?_,?_,λf hf g hg hc=>?_⟩
 ·rcases bO.1 hf with hf|hf
  ·exact h.1 f hf
  ·rw[gS]at hf;subst hf;exact⟨h1,h2,h3⟩
 ·rw[List.pairwise_append];refine⟨h.2.1,by simp,λa ha b hb=>?_⟩;rw[gS]at hb;subst hb;obtain⟨j,hj⟩:=jk ha;have hj1:=(b9.1 hj).1;rw[gU]at hj1;obtain⟨y,hy⟩:=bw (l:=es) (i:=i-1) (by omega);have hyb:=h4 y (by omega) hy;by_cases ej:j=i-1
  ·rw[MT (by omega),ej,hy]at hj;cases hj;exact hyb
  ·have hy':(es.take i)[i-1]? =some y:=by rw[MT (by omega)];exact hy
   have:=h.2.1;rw[Fz]at this;have ha':=b9.1 hj;have hb':=b9.1 hy';obtain⟨a1,a2⟩:=ha';obtain⟨b1,b2⟩:=hb';have:=this j (i-1) a1 b1 (by omega);rw[a2,b2]at this;exact oE.trans _ _ _ this hyb
 ·rcases bO.1 hf with a|a<;>rcases bO.1 hg with b|b
  ·exact h.2.2 f a g b hc
  ·rw[gS]at b;rw[b]at hc⊢;exact(h5 f a (.inr hc)).symm
  ·rw[gS]at a;rw[a]at hc⊢;exact h5 g b (.inl hc)
  ·rw[gS]at a b;rw[a,b]
theorem Zu {es:List ax} (hn:es.length<=274877906944) (hs:∀e∈es,e.aY.length<=274877906944/\e.Name.length<=274877906944):ab ((f119 Pf) es) (λr=>r=true↔iZ es):=by
 rw[af9,u7];refine dX (L:=λi s=>(nA Pf) es s i) (P:=λr=>r=true↔iZ es) (len:=es.length) (λi _=>iZ (es.take i)) (λi s hi hI k=>?_) (λs hI=>?_) 0 false (by omega) ⟨by simp,by simp,by simp⟩
 ·show ab ((nA Pf) es s i) _;obtain⟨x,hx⟩:=bw hi;have hm:=a7 hx;have hx1:=hs x hm;have:decide (i<es.length)=true:=by simpa using hi
  have bad:∀{Q:Prop},(iZ (es.take (i+1))->Q)->¬Q->(false=true↔iZ es):=λh hq=>⟨λe=>(by cases e),λhr=>absurd (h (hr.take _)) hq⟩;have mem:x∈es.take (i+1):=by rw[eY,hx];simp
  rw[Rf,tE,UM,ax.aI,a6,this,aD,bg hx,aw,ai.aI,El,O0 (by omega),aw,kN _ (by omega),aw];refine ab.bif (λh=>ab.ret (bad (λhr=>(hr.1 x mem).1) (by simpa using h))) (λh1=>?_);have h1:x.aY≠[]:=λe=>by rw[e]at h1;cases h1
  refine ab.bif (λh=>ab.ret (bad (λhr=>Gp.2 (hr.1 x mem).2.1) (by simpa using h))) (λh2=>?_);have h2:bQ x.aY:=Gp.1 (by simpa using h2);refine ab.bif (λh=>ab.ret (bad (λhr=>(hr.1 x mem).2.2) (by simpa using h))) (λh3=>?_);have h3:de x.Name=true:=by simpa using h3
  have hpre:∀e∈es.take i,bQ e.aY:=λe he=>(hI.1 e he).2.1;have sub:∀e∈es.take i,e∈es.take (i+1):=λe he=>by rw[eY];exact ly _ he
  have fin:∀{L:Int->Option Bool} {s:Bool},(∀j,L j=bif decide (j<((ax.rows (es.take i)).length:Int))then((ao (es.take i) j).bind λx21=>(((f185 Pf) x.aY x21.aY).bind λy23=>(bif y23==1 then(some false)else(bif y23==2 then(some false)else L (IntKind.i64.wrap (j+1))))))else(nA Pf) es s (IntKind.i64.wrap (i+1)))->(∀y,0<i->es[i-1]? =some y->eO y x<0)->ab (L 0) (λr=>r=true↔iZ es):=by
   intro L s hL h4;rcases aa0 (by rw[gU];omega) hL h2 hpre with⟨h5,e⟩|⟨h5,e⟩
   ·rw[e,bM i (by omega)];exact k s (ab3 hx hI h1 h2 h3 h4 h5)
   ·rw[e];refine ab.ret (bad (λhr=>?_) h5);intro e he hc;rcases hc with hc|hc
    ·exact hr.2.2 x mem e (sub e he) hc
    ·exact(hr.2.2 e (sub e he) x mem hc).symm
  refine ab.bif (λh6=>?_) (λh6=>?_)
  ·have h6:0<i:=by simpa using h6
   obtain⟨y,hy⟩:=bw (l:=es) (i:=i-1) (by omega);have e1:IntKind.i64.wrap ((i:Int)-1)=((i-1:Nat):Int):=by rw[wrap64 (by omega) (by omega)];omega
   rw[e1,bg hy,aw,Og _ _ (by have:=hs y (a7 hy);omega),aw];refine ab.bif (λh7=>ab.ret (bad (Q:=eO y x<0) (λhr=>?_) (by simpa using h7))) (λh7=>?_)
   ·have:=hr.2.1;rw[Fz]at this;have h8:=this (i-1) i (by rw[gU];omega) (by rw[gU];omega) (by omega);rw[List.getElem_take,List.getElem_take]at h8;have a:=(b9.1 hy).2;have b:=(b9.1 hx).2;rw[a,b]at h8;exact h8
   ·have h7:eO y x<0:=by simpa using h7
    rw[ta (by omega),aw];refine fin (s:=s) (λj=>by rw[adD,xu]) λy' _ hy'=>?_;rw[hy]at hy';cases hy';exact h7
  ·have h6:i=0:=by simpa using h6
   rw[ta (by omega),aw];exact fin (s:=s) (λj=>by rw[adE,xv]) λy' h _=>by omega
 ·show ab ((nA Pf) es s es.length) _;have:decide (es.length<es.length)=false:=by simp
  rw[Rf,tE,UM,ax.aI,a6,this,aF];rw[eQ]at hI;exact ab.ret ⟨λ_=>hI,λ_=>rfl⟩
