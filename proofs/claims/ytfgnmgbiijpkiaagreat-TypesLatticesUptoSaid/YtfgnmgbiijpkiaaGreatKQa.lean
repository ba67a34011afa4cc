/- Trees of lattices that the reference's parser reads. -/
import Derived.Test.YtfgnmgbiijpkiaaGreatKRk
set_option linter.all false
namespace Go.Proofs.YtfgnmgbiijpkiaaGreat
open Go Go.Bw
def Quo (q:ab):Prop:=q.Kind=47/\NV q.Text
def bx (l:List ab):Prop:=∀q∈l,Quo q
def Clqq (e:ab):Prop:=e.Kind=20/\∃qs q,e.Kids=qs++[q]/\bx qs/\Quo q
def CQ (l:List ab):Prop:=∃qs cs,l=qs++cs/\bx qs/\∀e∈cs,Clqq e
inductive LNqq:ab->Prop
 |leaf {x:ab}:x.Kind=10\/x.Kind=18\/x.Kind=21->x.Kids=[]->LNqq x
 |num {x a b:ab}:x.Kind=11\/x.Kind=12->x.Kids=[a,b]->(∀e∈x.Kids,-1000000000000000<=e.N/\e.N<=1000000000000000)->LNqq x
 |quo {x:ab}:x.Kind=13\/x.Kind=17->bx x.Kids->x.Kids.length<=70000->LNqq x
 |map {x n:ab} {qs:List ab}:x.Kind=14->x.Kids=qs++[n]->bx qs->qs.length<=70000->LNqq n->LNqq x
 |lex {x a b:ab}:x.Kind=16->x.Kids=[a,b]->LNqq a->LNqq b->LNqq x
 |rc {x:ab}:x.Kind=15->x.Kids.length<=70000->(∀e∈x.Kids,e.Kind=22/\NV e.Text/\e.Kids.length=1)->(∀e∈x.Kids,∀k∈e.Kids,LNqq k)->LNqq x
 |clo {x:ab}:x.Kind=19->CQ x.Kids->x.Kids.length<=70000->(∀e∈x.Kids,e.Kids.length<=70000)->LNqq x
theorem bx.snoc {l:List ab} {q:ab} (h:bx l) (hq:Quo q):bx (l++[q]):=λx hx=>by
 rcases cJ.1 hx with h1|h1
 ·exact h x h1
 ·simp at h1;exact h1▸hq
section
variable {T:List bG} (hT:gv T) (hl:T.length<=65537)
include hT hl
theorem adV {k:Nat} {p:PSqq} (hp:At T k p):ag ((de Pu) p 4) (λr=>(∃j,At T j r.2/\k<=j/\(r.2.aR=false->k<j))/\(r.2.aR=false->p.aR=false/\NV r.1)):=by
 obtain⟨t,ht,e⟩:=hp.tok;rw[afA,Hf,e,aw];have bad:ag (((kO Pu) p 2).bind λy3=>(some (([]:List UInt8),(y3.snd)))) (λr=>(∃j,At T j r.2/\k<=j/\(r.2.aR=false->k<j))/\(r.2.aR=false->p.aR=false/\NV r.1)):=
  ag.bind (F4 hp 2) (λr hr=>ag.ret ⟨⟨k,hr.1,bQ _,λh=>by have h:r.2.aR=false:=h;rw[hr.2]at h;cases h⟩,λh=>by have h:r.2.aR=false:=h;rw[hr.2]at h;cases h⟩)
 refine ag.bif (λ_=>bad) (λhb=>?_);refine ag.bif (λ_=>bad) (λhk=>?_);have hk:t.Kind=4:=by simpa using hk
 obtain⟨h1,h2⟩:=gv.next hT ht (by omega)
 exact ag.ret ⟨⟨k+1,hp.next hl h1,by omega,λ_=>by omega⟩,λ_=>⟨hb,h2.nv (.inr hk)⟩⟩
theorem aek {k:Nat} {p:PSqq} (hp:At T k p):ag ((Bu Pu) p) (λr=>PP T k p bx r/\r.1.length<=70000):=by
 rw[aha,Ht];refine ag.bind (bn hT hp _) (λb hb=>ag.bif (λh=>?_) (λ_=>ag.ret ⟨⟨⟨k,hp,bQ _⟩,λh=>⟨h,show bx []fromλx hx=>by cases hx⟩⟩,by simp⟩));have a1:At T (k+1) _:=hp.next hl (hb h).2.1 (o:=p.Open)
 have key:∀(m i:Nat) (q:PSqq) (s s':List ab),T.length=i+m->k<=i->s.length<=i->At T i q->(q.aR=false->p.aR=false/\bx s)->ag ((Ef Pu) s s' q) (λr=>PP T k p bx r/\r.1.length<=70000):=by
  intro m
  induction m using Nat.strongRecOn with
  |_ m im=>
   intro i q s s' hm hi hs hq hx;have hlt:=hq.lt;obtain⟨t,ht,e⟩:=hq.tok;rw[af9,Eg,e,aw];refine ag.bind (adV hT hl hq) (λr hr=>?_);obtain⟨⟨j,a2,b2,d2⟩,c2⟩:=hr;have hg:decide ((s++[{Kind:=47,Text:=r.1,N:=0,At:=t.At,Kids:=[]:ab}]).length<=274877906944)=true:=by simp;omega
   have hq2:r.2.aR=false->p.aR=false/\bx (s++[{Kind:=47,Text:=r.1,N:=0,At:=t.At,Kids:=[]:ab}]):=λh=>⟨(hx (c2 h).1).1,(hx (c2 h).1).2.snoc ⟨rfl,(c2 h).2⟩⟩;rw[hg,aV];refine ag.bind (bn hT a2 _) (λb hb=>ag.bif (λ_=>?_) (λh=>?_))
   ·refine ag.bind (ea hT hl a2 _) (λr3 hr3=>ag.ret ?_);obtain⟨⟨j3,a3,b3⟩,c3⟩:=hr3;exact⟨⟨⟨j3,a3,by omega⟩,λh=>⟨(hq2 (c3 h).1).1,(hq2 (c3 h).1).2⟩⟩,by simp;omega⟩
   ·have hb:=hb (by simpa using h);have a3:At T (j+1) _:=a2.next hl hb.2.1 (o:=r.2.Open)
    have:=d2 hb.1;exact im (T.length-(j+1)) (by omega) (j+1) _ _ _ (by omega) (by omega) (by simp;omega) a3 λh=>hq2 h
 exact key (T.length-(k+1)) (k+1) _ [] [] (by have:=a1.lt;omega) (by omega) (by simp) a1 λh=>⟨h,by intro x hx;cases hx⟩
def HLqq (T:List bG) (k:Nat):Prop:=∀(i:Nat) (p:PSqq),k<i->At T i p->ag ((nK Pu) p) (PP T i p LNqq)
variable {k:Nat} (H:HLqq T k)
include H
theorem aga {p:PSqq} {t:bG} {i:Nat} {q:PSqq} (hi:k<i) (hq:At T i q) (hb:q.aR=false->p.aR=false):ag ((EF Pu) t q []) (PP T k p LNqq):=by
 have key:∀(m i:Nat) (q:PSqq) (s:List ab),T.length=i+m->k<i->s.length<=i->At T i q->(q.aR=false->p.aR=false/\(∀e∈s,e.Kind=22/\NV e.Text/\e.Kids.length=1)/\∀e∈s,∀n∈e.Kids,LNqq n)->ag ((EF Pu) t q s) (PP T k p LNqq):=by
  intro m
  induction m using Nat.strongRecOn with
  |_ m im=>
   intro i q s hm hi hs hq hx;have hlt:=hq.lt;obtain⟨u,hu,e⟩:=hq.tok;rw[agi,EG,e,aw];refine ag.bind (ad9 hT hl hq 1 (by decide)) (λr hr=>?_);obtain⟨⟨j,a2,b2⟩,c2⟩:=hr;refine ag.bind (ea hT hl a2 _) (λr2 hr2=>?_);obtain⟨⟨j2,a3,b3⟩,c3⟩:=hr2;refine ag.bind (H j2 _ (by omega) a3) (λr3 hr3=>?_);obtain⟨⟨j3,a4,b4qq⟩,c4⟩:=hr3;have hg:decide ((s++[{Kind:=22,Text:=r.1,N:=0,At:=u.At,Kids:=[r3.1]:ab}]).length<=274877906944)=true:=by simp;omega
   have hq2:r3.2.aR=false->p.aR=false/\(∀e∈s++[{Kind:=22,Text:=r.1,N:=0,At:=u.At,Kids:=[r3.1]:ab}],e.Kind=22/\NV e.Text/\e.Kids.length=1)/\∀e∈s++[{Kind:=22,Text:=r.1,N:=0,At:=u.At,Kids:=[r3.1]:ab}],∀n∈e.Kids,LNqq n:=λh=>by
    obtain⟨d1,g1⟩:=c4 h;obtain⟨d2,t2,h2,h3,h4,h5⟩:=c2 (c3 d1).1;obtain⟨d3,g3,g4⟩:=hx d2;have hn:NV r.1:=h4▸h5.nv (.inl h3);refine⟨d3,λe he=>?_,λe he=>?_⟩
    ·rcases cJ.1 he with h|h
     ·exact g3 e h
     ·simp at h;subst h;exact⟨rfl,hn,rfl⟩
    ·rcases cJ.1 he with h|h
     ·exact g4 e h
     ·simp at h;subst h;intro n hn;simp at hn;subst hn;exact g1
   rw[hg,aV];refine ag.bind (bn hT a4 _) (λb hb=>ag.bif (λ_=>?_) (λh=>?_))
   ·refine ag.bind (ea hT hl a4 _) (λr5 hr5=>ag.ret ?_);obtain⟨⟨j5,a5,b5qq⟩,c5⟩:=hr5;refine⟨⟨j5,a5.same,by omega⟩,λh=>?_⟩;obtain⟨d,g,g'⟩:=hq2 (c5 h).1;exact⟨d,.rc rfl (by simp;omega) g g'⟩
   ·have hb:=hb (by simpa using h);have a5:At T (j3+1) _:=a4.next hl hb.2.1 (o:=r3.2.Open)
    have hadv:s.length+1<=j3+1:=by omega
    exact im (T.length-(j3+1)) (by omega) (j3+1) _ _ (by omega) (by omega) (by simp;omega) a5 λh=>hq2 h
 exact key (T.length-i) i q [] (by have:=hq.lt;omega) hi (by simp) hq λh=>⟨hb h,(λe he=>by cases he),(λe he=>by cases he)⟩
end
theorem CQ.snoc {l:List ab} {e:ab} (h:CQ l) (he:Clqq e):CQ (l++[e]):=by
 obtain⟨qs,cs,rfl,h1,h2⟩:=h;refine⟨qs,cs++[e],by simp,h1,λx hx=>?_⟩;rcases cJ.1 hx with h|h
 ·exact h2 x h
 ·simp at h;exact h▸he
theorem aej {l:List ab} {e:ab} (h:∀x∈l,x.Kids.length<=70000) (he:e.Kids.length<=70000):∀x∈l++[e],x.Kids.length<=70000:=λx hx=>by
 rcases cJ.1 hx with h1|h1
 ·exact h x h1
 ·simp at h1;exact h1▸he
section
variable {T:List bG} (hT:gv T) (hl:T.length<=65537)
include hT hl
theorem ae' {t1:bG} {F:PSqq->List ab->Option (ab×PSqq)} {G:PSqq->List ab->Bool->bG->bG->List ab->List ab->PSqq->Option (ab×PSqq)}
  (hF:∀(s116:PSqq) (s121:List ab),F s116 s121=(((b6 Pu) s116 ([59])).bind λy122=>(bif y122 then(((cE Pu) ({T:=s116.T,I:=IntKind.i64.wrap (s116.I+1),Open:=s116.Open,aR:=s116.aR,aT:=s116.aT:aC})).bind λy124=>(((cE Pu) ({T:=s116.T,I:=IntKind.i64.wrap (s116.I+1),Open:=s116.Open,aR:=s116.aR,aT:=s116.aT:aC})).bind λy125=>(bif y125.Kind==4 then(G s116 s121 y122 y124 y125 ([]) ([]) ({T:=s116.T,I:=IntKind.i64.wrap (s116.I+1),Open:=s116.Open,aR:=s116.aR,aT:=s116.aT:aC}))else(((bI Pu) ({T:=s116.T,I:=IntKind.i64.wrap (s116.I+1),Open:=s116.Open,aR:=s116.aR,aT:=s116.aT:aC}) ([61,62])).bind λy140=>(((cE Pu) y140.snd).bind λy141=>(((de Pu) y140.snd 4).bind λy142=>(bif decide ((([]:List ab)++([{Kind:=47,Text:=y142.fst,N:=0,At:=y141.At,Kids:=[]:ab}]:List ab)).length<=274877906944)then(bif decide (((s121:List ab)++([{Kind:=20,Text:=[],N:=0,At:=y124.At,Kids:=[]++[{Kind:=47,Text:=y142.fst,N:=0,At:=y141.At,Kids:=[]:ab}]:ab}]:List ab)).length<=274877906944)then(F y142.snd (s121++[{Kind:=20,Text:=[],N:=0,At:=y124.At,Kids:=[]++[{Kind:=47,Text:=y142.fst,N:=0,At:=y141.At,Kids:=[]:ab}]:ab}]))else none)else none)))))))else(((bI Pu) s116 ([41])).bind λy145=>(some (({Kind:=19,Text:=[],N:=0,At:=t1.At,Kids:=s121:ab}),y145.snd))))))
  (hG:∀(s116:PSqq) (s121:List ab) (y122:Bool) (y124 y125:bG) (s127 s128:List ab) (s129:PSqq),G s116 s121 y122 y124 y125 s127 s128 s129=(((cE Pu) s129).bind λy130=>(((de Pu) s129 4).bind λy131=>(bif decide (((s127:List ab)++([{Kind:=47,Text:=y131.fst,N:=0,At:=y130.At,Kids:=[]:ab}]:List ab)).length<=274877906944)then(((b6 Pu) y131.snd ([44])).bind λy133=>(bif !y133 then(((bI Pu) y131.snd ([61,62])).bind λy135=>(((cE Pu) y135.snd).bind λy136=>(((de Pu) y135.snd 4).bind λy137=>(bif decide (((s127++[{Kind:=47,Text:=y131.fst,N:=0,At:=y130.At,Kids:=[]:ab}]:List ab)++([{Kind:=47,Text:=y137.fst,N:=0,At:=y136.At,Kids:=[]:ab}]:List ab)).length<=274877906944)then(bif decide (((s121:List ab)++([{Kind:=20,Text:=[],N:=0,At:=y124.At,Kids:=s127++[{Kind:=47,Text:=y131.fst,N:=0,At:=y130.At,Kids:=[]:ab}]++[{Kind:=47,Text:=y137.fst,N:=0,At:=y136.At,Kids:=[]:ab}]:ab}]:List ab)).length<=274877906944)then(F y137.snd (s121++[{Kind:=20,Text:=[],N:=0,At:=y124.At,Kids:=s127++[{Kind:=47,Text:=y131.fst,N:=0,At:=y130.At,Kids:=[]:ab}]++[{Kind:=47,Text:=y137.fst,N:=0,At:=y136.At,Kids:=[]:ab}]:ab}]))else none)else none))))else(G s116 s121 y122 y124 y125 (s127++[{Kind:=47,Text:=y131.fst,N:=0,At:=y130.At,Kids:=[]:ab}]) s128 ({T:=y131.snd.T,I:=IntKind.i64.wrap (y131.snd.I+1),Open:=y131.snd.Open,aR:=y131.snd.aR,aT:=y131.snd.aT:aC}))))else none))))
  {k:Nat} {p:PSqq}:∀(m i:Nat) (q:PSqq) (l:List ab),T.length=i+m->k<=i->l.length<=i+1->(∀e∈l,e.Kids.length<=70000)->At T i q->(q.aR=false->p.aR=false/\CQ l)->ag (F q l) (PP T k p LNqq):=by
 intro m
 induction m using Nat.strongRecOn with
 |_ m im=>
  intro i q l hm hi hs hks hq hx;have hlt:=hq.lt;rw[hF];refine ag.bind (bn hT hq _) (λb hb=>ag.bif (λh=>?_) (λ_=>?_))
  ·have hb:=hb h;have a1:At T (i+1) _:=hq.next hl hb.2.1 (o:=q.Open)
   obtain⟨y4,hy4,e4⟩:=a1.tok;rw[e4,aw,aw];have inner:∀(m' i':Nat) (q':PSqq) (l':List ab),T.length=i'+m'->i+1<=i'->l'.length<=i'->At T i' q'->(q'.aR=false->bx l')->ag (G q l b y4 y4 l' [] q') (PP T k p LNqq):=by
    intro m'
    induction m' using Nat.strongRecOn with
    |_ m' im'=>
     intro i' q' l' hm' hi' hs' hq' hx';have hlt':=hq'.lt;rw[hG];obtain⟨u,hu,euqq⟩:=hq'.tok;rw[euqq,aw];refine ag.bind (adV hT hl hq') (λr hr=>?_);obtain⟨⟨j,a2,b2,d2⟩,c2⟩:=hr;have hg:decide ((l'++[{Kind:=47,Text:=r.1,N:=0,At:=u.At,Kids:=[]:ab}]).length<=274877906944)=true:=by simp;omega
     have hq2:r.2.aR=false->bx (l'++[{Kind:=47,Text:=r.1,N:=0,At:=u.At,Kids:=[]:ab}]):=λh=>(hx' (c2 h).1).snoc ⟨rfl,(c2 h).2⟩;rw[hg,aV];refine ag.bind (bn hT a2 _) (λb3 hb3=>ag.bif (λ_=>?_) (λh=>?_))
     ·refine ag.bind (ea hT hl a2 _) (λr5 hr5=>?_);obtain⟨⟨j5,a5,b5qq⟩,c5⟩:=hr5;obtain⟨u6qq,hu6,eu6⟩:=a5.tok;rw[eu6,aw];refine ag.bind (adV hT hl a5) (λr7qq hr7=>?_);obtain⟨⟨j7,a7qq,b7qq,d7⟩,c7qq⟩:=hr7;have h7:=a7qq.lt;have hg2:decide ((l'++[{Kind:=47,Text:=r.1,N:=0,At:=u.At,Kids:=[]:ab}]++[{Kind:=47,Text:=r7qq.1,N:=0,At:=u6qq.At,Kids:=[]:ab}]).length<=274877906944)=true:=by simp;omega
      rw[hg2,aV,show∀x:ab,decide ((l++[x]).length<=274877906944)=true fromλx=>by simp;omega,aV];refine im (T.length-j7) (by omega) j7 _ _ (by omega) (by omega) (by simp;omega) (aej hks (by simp;omega)) a7qq λh=>⟨(hx hb.1).1,(hx hb.1).2.snoc ⟨rfl,_,_,rfl,hq2 (c5 (c7qq h).1).1,rfl,(c7qq h).2⟩⟩
     ·have hb3:=hb3 (by simpa using h);have a3:At T (j+1) _:=a2.next hl hb3.2.1 (o:=r.2.Open)
      have:=d2 hb3.1;exact im' (T.length-(j+1)) (by omega) (j+1) _ _ (by omega) (by omega) (by simp;omega) a3 λh=>hq2 h
   refine ag.bif (λ_=>inner (T.length-(i+1)) (i+1) _ [] (by have:=a1.lt;omega) (by omega) (by simp) a1 λ_ x hx=>by cases hx) (λ_=>?_);refine ag.bind (ea hT hl a1 _) (λr5 hr5=>?_);obtain⟨⟨j5,a5,b5qq⟩,c5⟩:=hr5;obtain⟨u6qq,hu6,eu6⟩:=a5.tok;rw[eu6,aw];refine ag.bind (adV hT hl a5) (λr7qq hr7=>?_);obtain⟨⟨j7,a7qq,b7qq,d7⟩,c7qq⟩:=hr7;have h7:=a7qq.lt;refine ag.bif (λ_=>?_) (λh=>by simp at h);rw[show∀x:ab,decide ((l++[x]).length<=274877906944)=true fromλx=>by simp;omega,aV];exact im (T.length-j7) (by omega) j7 _ _ (by omega) (by omega) (by simp;omega) (aej hks (by simp)) a7qq λh=>⟨(hx hb.1).1,(hx hb.1).2.snoc ⟨rfl,[],_,rfl,(λx hx=>by cases hx),rfl,(c7qq h).2⟩⟩
  ·refine ag.bind (ea hT hl hq _) (λr hr=>ag.ret ?_);obtain⟨⟨j,a2,b2⟩,c2⟩:=hr;exact⟨⟨j,a2,by omega⟩,λh=>⟨(hx (c2 h).1).1,.clo rfl (hx (c2 h).1).2 (by show l.length<=_;omega) hks⟩⟩
end
section
variable {T:List bG} (hT:gv T) (hl:T.length<=65537)
include hT hl
theorem ad8 {kd a:Int} (hkd:kd=11\/kd=12) {k i:Nat} {p q:PSqq} (hq:At T i q) (hi:k<=i) (hb:q.aR=false->p.aR=false):
  ag (((bI Pu) q [40]).bind λy18=>(((mj Pu) y18.snd).bind λy19=>(((bI Pu) y19.snd [44]).bind λy20=>(((mj Pu) y20.snd).bind λy21=>(((bI Pu) y21.snd [41]).bind λy22=>(some (({Kind:=kd,Text:=[],N:=0,At:=a,Kids:=[y19.fst,y21.fst]:ab}),y22.snd))))))) (PP T k p LNqq):=by
 refine ag.bind (ea hT hl hq _) (λr1 h1=>?_);obtain⟨⟨j1,a1,b1⟩,c1⟩:=h1;refine ag.bind (aeO hT hl a1) (λr2 h2=>?_);obtain⟨⟨j2,a2,b2⟩,c2⟩:=h2;refine ag.bind (ea hT hl a2 _) (λr3 h3=>?_);obtain⟨⟨j3,a3,b3⟩,c3⟩:=h3;refine ag.bind (aeO hT hl a3) (λr4 h4=>?_);obtain⟨⟨j4,a4,b4qq⟩,c4⟩:=h4;refine ag.bind (ea hT hl a4 _) (λr5 h5=>ag.ret ?_);obtain⟨⟨j5,a5,b5qq⟩,c5⟩:=h5;refine⟨⟨j5,a5,by omega⟩,λh=>?_⟩;obtain⟨d4,g4,k4⟩:=c4 (c5 h).1;obtain⟨d2,g2,k2⟩:=c2 (c3 d4).1;have nbqq:∀n:ab,Gdqq n->n.Kind=44-> -1000000000000000<=n.N/\n.N<=1000000000000000:=λn hn hk=>by
  cases hn.1 with|mk _ _ h44 _ _=>exact h44 hk
 exact⟨hb (c1 d2).1,.num hkd rfl (by simp;exact⟨nbqq _ g2 k2,nbqq _ g4 k4⟩)⟩
theorem agr {a0:PSqq} {t:bG} {y4 y6 y8 y11 y14 y28 y42 y48 y56 y73:Bool} {y75:Unit×PSqq} {y76:bG} {k:Nat} {p:PSqq} (hbad:∀{q:PSqq},q.aR=false->p.aR=false):
  ∀(m i:Nat) (q:PSqq) (s s':List ab),T.length=i+m->k<=i->s.length<=i->(∀e∈s,e.Kids.length<=70000)->At T i q->(q.aR=false->bx s)->ag ((EH Pu) a0 t y4 y6 y8 y11 y14 y28 y42 y48 y56 y73 y75 y76 s s' q) (PP T k p LNqq):=by
 intro m
 induction m using Nat.strongRecOn with
 |_ m im=>
  intro i q s s' hm hi hs hks hq hx;have hlt:=hq.lt;obtain⟨v,hv,ev⟩:=hq.tok;rw[agl,EI,ev,aw];refine ag.bind (adV hT hl hq) (λr hr=>?_);obtain⟨⟨j,a2,b2,d2⟩,c2⟩:=hr;have hg:decide ((s++[{Kind:=47,Text:=r.1,N:=0,At:=v.At,Kids:=[]:ab}]).length<=274877906944)=true:=by simp;omega
  have hq2:r.2.aR=false->bx (s++[{Kind:=47,Text:=r.1,N:=0,At:=v.At,Kids:=[]:ab}]):=λh=>(hx (c2 h).1).snoc ⟨rfl,(c2 h).2⟩;have hks2:∀e∈s++[{Kind:=47,Text:=r.1,N:=0,At:=v.At,Kids:=[]:ab}],e.Kids.length<=70000:=aej hks (by simp);rw[hg,aV];refine ag.bind (bn hT a2 _) (λb3 hb3=>ag.bif (λ_=>?_) (λh3=>?_))
  ·have h2l:=a2.lt;exact ae' hT hl (k:=k) (p:=p) (t1:=t) (F:=(AN Pu) _ _ _ _ _ _ _ _ _ _ _ _ _ _ _ _ _ _ _ _) (G:=(EK Pu) _ _ _ _ _ _ _ _ _ _ _ _ _ _ _ _ _ _ _ _) (λs l=>agk ..) (λ_ _ _ _ _ _ _ _=>agj ..) (T.length-j) j r.2 _ (by omega) (by omega) (by simp;omega) hks2 a2 λh'=>⟨hbad h',_,[],by simp,hq2 h',λe he=>by cases he⟩
  ·have hb3:=hb3 (by simpa using h3);have a3:At T (j+1) _:=a2.next hl hb3.2.1 (o:=r.2.Open)
   have:=d2 hb3.1;exact im (T.length-(j+1)) (by omega) (j+1) _ _ _ (by omega) (by omega) (by simp;omega) hks2 a3 λh=>hq2 h
variable {k:Nat} (H:HLqq T k)
include H
theorem afa {p:PSqq} (hp:At T k p):ag ((nK Pu) p) (PP T k p LNqq):=by
 obtain⟨t,ht,e⟩:=hp.tok;rw[e75,Je,e,aw];have nx:∀{X:Prop},p.aR=false/\k+1<T.length/\X->At T (k+1) ⟨p.T,IntKind.i64.wrap (p.I+1),p.Open,p.aR,p.aT⟩:=λ{_} hb=>hp.next hl hb.2.1
 refine ag.bif (λh1=>?_) (λ_=>?_)
 ·refine ag.bind (ad9 hT hl hp 1 (by decide)) (λr hr=>ag.ret ⟨hr.1,λh=>⟨(hr.2 h).1,.leaf (.inr (.inr rfl)) rfl⟩⟩)
 refine ag.bind (bn hT hp _) (λb hb=>ag.bif (λh=>ag.ret ⟨⟨k+1,nx (hb h),by omega⟩,λ_=>⟨(hb h).1,.leaf (.inl rfl) rfl⟩⟩) (λ_=>?_));refine ag.bind (bn hT hp _) (λb hb=>ag.bif (λh=>ag.ret ⟨⟨k+1,nx (hb h),by omega⟩,λ_=>⟨(hb h).1,.leaf (.inr (.inl rfl)) rfl⟩⟩) (λ_=>?_));refine ag.bind (bn hT hp _) (λb hb=>ag.bif (λh=>?_) (λ_=>?_))
 ·refine ag.bind (aek hT hl (nx (hb h))) (λr hr=>ag.ret ?_);obtain⟨⟨⟨j,a,b'⟩,c⟩,hlen⟩:=hr;exact⟨⟨j,a,by omega⟩,λh'=>⟨(hb h).1,.quo (.inl rfl) (c h').2 hlen⟩⟩
 refine ag.bind (bn hT hp _) (λb hb=>ag.bif (λh=>?_) (λ_=>?_))
 ·refine ag.bind (aek hT hl (nx (hb h))) (λr hr=>ag.ret ?_);obtain⟨⟨⟨j,a,b'⟩,c⟩,hlen⟩:=hr;exact⟨⟨j,a,by omega⟩,λh'=>⟨(hb h).1,.quo (.inr rfl) (c h').2 hlen⟩⟩
 refine ag.bind (bn hT hp _) (λb hb=>ag.bif (λh=>?_) (λ_=>?_))
 ·refine ag.bind (bn hT hp _) (λb2 _=>ag.bif (λ_=>?_) (λ_=>?_))
  ·exact ad8 hT hl (.inl rfl) (nx (hb h)) (by omega) λ_=>(hb h).1
  ·exact ad8 hT hl (.inr rfl) (nx (hb h)) (by omega) λ_=>(hb h).1
 refine ag.bind (bn hT hp _) (λb hb=>ag.bif (λh=>?_) (λ_=>?_))
 ·refine ag.bind (bn hT hp _) (λb2 _=>ag.bif (λ_=>?_) (λ_=>?_))
  ·exact ad8 hT hl (.inl rfl) (nx (hb h)) (by omega) λ_=>(hb h).1
  ·exact ad8 hT hl (.inr rfl) (nx (hb h)) (by omega) λ_=>(hb h).1
 refine ag.bind (bn hT hp _) (λb hb=>ag.bif (λh=>?_) (λ_=>?_))
 ·refine ag.bind (ael hp) (λr1 h1=>?_);have a1:At T (k+1) _:=h1.1.next hl (hb h).2.1 (o:=r1.2.Open)
  refine ag.bind (aek hT hl a1) (λr2 h2=>?_);obtain⟨⟨⟨j2,a2,b2⟩,c2⟩,hlen⟩:=h2;refine ag.bind (H j2 _ (by omega) a2) (λr3 h3=>?_);obtain⟨⟨j3,a3,b3⟩,c3⟩:=h3;rw[show decide ((r2.1++[r3.1]).length<=274877906944)=true by simp;omega,aV];exact ag.ret ⟨⟨j3,a3.same,by omega⟩,λh'=>⟨(hb h).1,.map rfl rfl (c2 (c3 h').1).2 hlen (c3 h').2⟩⟩
 refine ag.bind (bn hT hp _) (λb hb=>ag.bif (λh=>?_) (λ_=>?_))
 ·refine ag.bind (ael hp) (λr1 h1=>?_);have a1:At T (k+1) _:=h1.1.next hl (hb h).2.1 (o:=r1.2.Open)
  refine ag.bind (ea hT hl a1 _) (λr2 h2=>?_);obtain⟨⟨j2,a2,b2⟩,c2⟩:=h2;refine ag.bind (H j2 _ (by omega) a2) (λr3 h3=>?_);obtain⟨⟨j3,a3,b3⟩,c3⟩:=h3;refine ag.bind (ea hT hl a3 _) (λr4 h4=>?_);obtain⟨⟨j4,a4,b4qq⟩,c4⟩:=h4;refine ag.bind (H j4 _ (by omega) a4) (λr5 h5=>?_);obtain⟨⟨j5,a5,b5qq⟩,c5⟩:=h5;refine ag.bind (ea hT hl a5 _) (λr6qq h6=>ag.ret ?_);obtain⟨⟨j6,a6qq,b6qq⟩,c6⟩:=h6;refine⟨⟨j6,a6qq.same,by omega⟩,λh'=>⟨(hb h).1,?_⟩⟩;obtain⟨d6,_⟩:=c6 h';obtain⟨d5,g5⟩:=c5 d6;obtain⟨d4,_⟩:=c4 d5;exact .lex rfl rfl (c3 d4).2 g5
 refine ag.bind (bn hT hp _) (λb hb=>ag.bif (λh=>?_) (λ_=>?_))
 ·refine ag.bind (ael hp) (λr1 h1=>?_);have a1:At T (k+1) _:=h1.1.next hl (hb h).2.1 (o:=r1.2.Open)
  exact aga hT hl H (by omega) a1 λ_=>(hb h).1
 refine ag.bind (bn hT hp _) (λb hb=>ag.bif (λh=>?_) (λ_=>?_))
 ·refine ag.bind (ea hT hl (nx (hb h)) _) (λr1 h1=>?_);obtain⟨⟨j1,a1,b1⟩,c1⟩:=h1;obtain⟨u,hu,euqq⟩:=a1.tok;rw[euqq,aw];have h1l:=a1.lt;refine ag.bif (λ_=>agr hT hl (λ_=>(hb h).1) (T.length-j1) j1 _ [] [] (by omega) (by omega) (by simp) (λe he=>by cases he) a1 λ_ x hx=>by cases hx) (λ_=>?_);exact ae' hT hl (k:=k) (p:=p) (t1:=t) (F:=(AO Pu) _ _ _ _ _ _ _ _ _ _ _ _ _ _) (G:=(EN Pu) _ _ _ _ _ _ _ _ _ _ _ _ _ _) (λs l=>agn ..) (λ_ _ _ _ _ _ _ _=>agm ..) (T.length-j1) j1 r1.2 [] (by omega) (by omega) (by simp) (λe he=>by cases he) a1 λh'=>⟨(hb h).1,[],[],rfl,(λx hx=>by cases hx),λx hx=>by cases hx⟩
 ·refine ag.bind (F4 hp 2) (λr hr=>ag.ret ⟨⟨k,hr.1,bQ _⟩,λh=>?_⟩);have h:r.2.aR=false:=h;rw[hr.2]at h;cases h
end
theorem ags {T:List bG} (hT:gv T) (hl:T.length<=65537):∀(m k:Nat),T.length=k+m->HLqq T k:=by
 intro m
 induction m using Nat.strongRecOn with
 |_ m im=>
  intro k hk i p hi hp;have:=hp.lt;exact afa hT hl (im (T.length-i) (by omega) i (by omega)) hp
theorem afF {a:List UInt8} (ha:a.length<=65536):ag ((u26 Pu) a) (λr=>r.2.Code=0->LNqq r.1):=by
 rw[e26,Ju];refine ag.bind (P:=λr=>r.2.Code=0->LNqq r.1) ?_ (λr hr=>ag.ret hr);rw[e32,Jr];refine ag.bind (agb ha) (λr hr=>?_);refine ag.bif (λh=>ag.ret λe=>?_) (λh=>?_)
 ·rw[e]at h;cases h
 obtain⟨hT,hlen⟩:=hr (by simpa using h);have hl:r.1.length<=65537:=by omega
 refine ag.bif (λh=>absurd h (by decide)) (λ_=>ag.bif (λ_=>?_) (λh=>absurd h (by decide)));have h0:At r.1 0 ⟨r.1,0,0,false,⟨0,0⟩⟩:=⟨rfl,rfl,by obtain⟨l,e,h,_⟩:=hT;rw[h];simp,λh=>by cases h⟩;have hE:ag ((nK Pu) ⟨r.1,0,0,false,⟨0,0⟩⟩) (PP r.1 0 ⟨r.1,0,0,false,⟨0,0⟩⟩ LNqq):=afa hT hl (ags hT hl r.1.length 0 (by omega)) h0;refine ag.bind hE (λr2 hr2=>?_);obtain⟨⟨j,a1,b1⟩,c1⟩:=hr2;refine ag.bif (λhb=>?_) (λhb=>ag.ret λe=>absurd e (a1.bad (by simpa using hb)));have hg:LNqq r2.1:=(c1 (by simpa using hb)).2;obtain⟨t,ht,e⟩:=a1.tok;rw[e,aw];refine ag.bif (λ_=>?_) (λ_=>ag.ret λ_=>hg);refine ag.bind (F4 a1 2) (λr3 hr3=>ag.bif (λh=>ag.ret λe=>absurd e (hr3.1.bad h)) (λh=>?_));rw[hr3.2]at h;cases h
