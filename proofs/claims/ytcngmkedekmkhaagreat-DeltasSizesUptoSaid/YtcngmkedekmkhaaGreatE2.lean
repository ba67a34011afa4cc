/-
  Own work. Calls that write what they are handed: one entry of own memory, told before and after.
-/
import Derived.Test.YtcngmkedekmkhaaGreatE1
namespace Go.Bw
open Go

/-- An entry that leads nowhere else. -/
inductive SEnt where
  | box (us : List AV)
  | row (e k : Nat) (rows : List (List AV))
def SEnt.c : SEnt → CEnt
  | .box us => .box (us.map .d)
  | .row e k rows => .row e k rows

/-- An entry, in other words. -/
inductive SImp : CEnt → SEnt → Prop where
  | box {cs : List CV} {us0 us : List AV} : allD cs = some us0 → ImpL us0 us → SImp (.box cs) (.box us)
  | row {e k : Nat} {rows0 rows : List (List AV)} : ImpR rows0 rows → SImp (.row e k rows0) (.row e k rows)

/-- So a call ends that keeps nothing but this entry. -/
def SEnds (y : AV) (e' : SEnt) : DR → Hp → Prop
  | .ret x, η => (match e' with
    | .box us => ∃ cs z zs ns ms, η.e.get 0 = some (.box cs) ∧ frzL η.e 60 (x :: cs) = some (z :: zs, ns, ms) ∧ eqs ns ∧ (ms.all fun p => Nat.blt 0 p.1) = true ∧ Imp z y ∧ ImpL zs us
    | .row e k rows => ∃ rows0 z ns ms, η.e.get 0 = some (.row e k rows0) ∧ frzL η.e 60 [x] = some ([z], ns, ms) ∧ eqs ns ∧ (ms.all fun p => Nat.blt 0 p.1) = true ∧ Imp z y ∧ ImpR rows0 rows)
  | .pan _, _ => False

/-- What a call answers that is handed the entry number 0, and what it leaves there. -/
def SPure (E : Env) (g : FuncId) (args : List CV) (e : SEnt) (y : AV) (e' : SEnt) : Prop := DCall E g args (ofH [e.c]) (SEnds y e')

def ren1 (i : Nat) : CV → Option CV
  | .d x => some (.d x)
  | .own t o => match Nat.beq t i with
    | true => some (.own 0 o)
    | false => none
  | .os t n => match Nat.beq t i with
    | true => some (.os 0 n)
    | false => none
  | .oe t n o => match Nat.beq t i with
    | true => some (.oe 0 n o)
    | false => none
  | _ => none
def renL (i : Nat) : List CV → Option (List CV)
  | [] => some []
  | x :: xs => match ren1 i x, renL i xs with
    | some y, some ys => some (y :: ys)
    | _, _ => none

/-- One tag alone, as number 0. -/
def Rho.one (ρ : Rho) (i : Nat) : Rho := ⟨fun t => if t = 0 then ρ.b i else none, fun t n => if t = 0 then ρ.s i n else none⟩

theorem ren1_inst {ρ : Rho} {i : Nat} {x y : CV} {u : AV} (h : ren1 i x = some y) (hi : Inst ρ x u) : Inst (ρ.one i) y u := by
  cases x with
  | d z => simp only [ren1, Option.some.injEq] at h; subst h; exact hi
  | own t o =>
    simp only [ren1] at h
    split at h
    · rename_i hb
      cases h
      have := Nat.eq_of_beq_eq_true hb; subst this
      simp only [Inst] at hi ⊢
      obtain ⟨b, t', h1, h2⟩ := hi
      exact ⟨b, t', by simpa [Rho.one] using h1, h2⟩
    · cases h
  | os t n =>
    simp only [ren1] at h
    split at h
    · rename_i hb
      cases h
      have := Nat.eq_of_beq_eq_true hb; subst this
      simp only [Inst] at hi ⊢
      obtain ⟨a, c, t', h1, h2⟩ := hi
      exact ⟨a, c, t', by simpa [Rho.one] using h1, h2⟩
    · cases h
  | oe t n o =>
    simp only [ren1] at h
    split at h
    · rename_i hb
      cases h
      have := Nat.eq_of_beq_eq_true hb; subst this
      simp only [Inst] at hi ⊢
      obtain ⟨a, c, t', h1, h2⟩ := hi
      exact ⟨a, c, t', by simpa [Rho.one] using h1, h2⟩
    · cases h
  | _ => cases h

theorem renL_inst {ρ : Rho} {i : Nat} : ∀ {xs ys : List CV} {us : List AV}, renL i xs = some ys → InstL ρ xs us → InstL (ρ.one i) ys us
  | [], ys, us, h, hi => by simp only [renL, Option.some.injEq] at h; subst h; exact hi
  | x :: xs, ys, us, h, hi => by
    simp only [renL] at h
    split at h
    · rename_i y ys' h1 h2
      cases h
      simp only [InstL] at hi ⊢
      obtain ⟨u, r, rfl, h3, h4⟩ := hi
      exact ⟨u, r, rfl, ren1_inst h1 h3, renL_inst h2 h4⟩
    · cases h

theorem instL_allD {ρ : Rho} : ∀ {cs : List CV} {us ys : List AV}, allD cs = some us → InstL ρ cs ys → ys = us
  | [], us, ys, h, hi => by simp only [allD, Option.some.injEq] at h; subst h; exact hi
  | c :: cs, us, ys, h, hi => by
    cases c <;> simp only [allD] at h <;> try cases h
    split at h
    · rename_i zs h1
      cases h
      simp only [InstL, Inst] at hi
      obtain ⟨u, r, rfl, rfl, h3⟩ := hi
      rw [instL_allD h1 h3]
    · cases h

theorem split_nth : ∀ {l : List Ent} {i : Nat} {x : Ent}, nth l i = some x → ∃ a b, l = a ++ x :: b ∧ a.length = i
  | [], _, _, h => by simp [nth] at h
  | y :: l, 0, x, h => by simp only [nth, Option.some.injEq] at h; subst h; exact ⟨[], l, rfl, rfl⟩
  | y :: l, i + 1, x, h => by
    simp only [nth] at h
    obtain ⟨a, b, rfl, rfl⟩ := split_nth h
    exact ⟨y :: a, b, rfl, rfl⟩

theorem nth_mid (a b : List Ent) (x : Ent) : nth (a ++ x :: b) a.length = some x := by rw [nth_eq]; simp
theorem nth_other {a b : List Ent} {x y : Ent} {j : Nat} (hj : j ≠ a.length) : nth (a ++ x :: b) j = nth (a ++ y :: b) j := by
  rw [nth_eq, nth_eq]
  rcases Nat.lt_or_ge j a.length with h | h
  · rw [List.getElem?_append_left h, List.getElem?_append_left h]
  · rw [List.getElem?_append_right h, List.getElem?_append_right h]
    obtain ⟨m, hm⟩ : ∃ m, j - a.length = m + 1 := ⟨j - a.length - 1, by omega⟩
    rw [hm]; rfl

section
variable {E : Env} {N K : Nat} {Q : DQ} {σ : TS} {η : Hp} {o : Oper} {all rest : List Oper} {k : List It}

theorem SPure.frame {g : FuncId} {cs args : List CV} {i : Nat} {ce : CEnt} {e0 e1 : SEnt} {y : AV} (h : SPure E g args e0 y e1) (hr : renL i cs = some args) (hi : η.e.get i = some ce) (hs : SImp ce e0) :
    DCall E g cs η (fun r η' => r = .ret (.d y) ∧ η' = η.set i e1.c) := fun ρ ys ηB hys hh => by
  obtain ⟨x, hx1, hx2⟩ := hh.en i _ hi
  obtain ⟨l, r, rfl, rfl⟩ := split_nth hx1
  -- the entry in the callee's words
  obtain ⟨x0, hx0, hids, hxe⟩ : ∃ x0 : Ent, EInst (ρ.one l.length) 0 e0.c x0 ∧ x0.ids = x.ids ∧ ∀ w A, x.ok w A → x0.ok w A := by
    cases hs with
    | box h1 h2 =>
      obtain ⟨b, cs', h3, rfl, h4⟩ := hx2
      rename_i us0 us
      have := instL_allD h1 h4; subst this
      refine ⟨.box b us, ⟨b, us, by simpa [Rho.one] using h3, rfl, instL_d _⟩, rfl, fun w A => ?_⟩
      rintro ⟨e, vs, h5, h6⟩
      exact ⟨e, vs, h5, h2.rel h6⟩
    | row h2 =>
      obtain ⟨⟨a, c, h3, rfl⟩, h4⟩ := hx2
      rename_i e k rows0 rows
      have hl := h2.length
      refine ⟨.row (.slice a rows.length c) e k rows, ⟨⟨a, c, by simpa [Rho.one, hl] using h3, rfl⟩, fun m hm => by simpa [Rho.one] using h4 m (by omega)⟩, by cases a <;> simp [Ent.ids, Value.ownBlock], fun w A => ?_⟩
      rintro ⟨vs, h5, h6⟩
      exact ⟨vs, h2.rel h5, by rw [hl]; exact h6⟩
  have hS0 : HS (ρ.one l.length) (ofH [e0.c]) [x0] := by
    refine ⟨fun t z hz => ?_, rfl, fun t ht => ?_⟩
    · simp only [ofH, ofE] at hz
      rcases Tr.get_put 24 .lf 0 t (some e0.c) z hz with ⟨rfl, h1⟩ | ⟨_, h1⟩
      · cases h1; exact ⟨x0, rfl, hx0⟩
      · simp [Tr.get] at h1
    · have : t ≠ 0 := by simp [ofH] at ht; omega
      exact ⟨by simp [Rho.one, this], fun n => by simp [Rho.one, this]⟩
  have h0 := h (ρ.one l.length) ys [x0] (renL_inst hr hys) hS0
  refine ⟨h0.1, fun F w vs hH hR => ?_⟩
  let F0 : Nat → Prop := fun b => F b ∨ b ∈ ids l ∨ b ∈ ids r
  have hA : ∀ z : Ent, Al F0 [z] = Al F (l ++ z :: r) := fun z => funext fun b => propext (by
    simp only [Al, F0, ids_append, ids_cons, List.mem_append, show ids [] = [] from rfl, List.append_nil, not_or]
    constructor
    · rintro ⟨⟨a1, a2, a3⟩, a4⟩; exact ⟨a1, a2, a4, a3⟩
    · rintro ⟨a1, a2, a3, a4⟩; exact ⟨⟨a1, a2, a4⟩, a3⟩)
  have hAx : Al F0 [x0] = Al F (l ++ x :: r) := by
    rw [hA]; funext b; simp only [Al, ids_append, ids_cons, hids]
  have hnd := hH.nodup
  simp only [ids_append, ids_cons, List.nodup_append, List.mem_append] at hnd
  have hfr := hH.free
  have hltb := hH.lt
  simp only [ids_append, ids_cons, List.mem_append] at hfr hltb
  have hH0 : HOk E.toCx.G w F0 [x0] := by
    refine ⟨fun z hz => ?_, ?_, fun b hb => ?_, fun b hb => ?_, ?_⟩
    · simp only [List.mem_singleton] at hz; subst hz
      rw [hAx]; exact hxe _ _ (hH.ents x (by simp))
    · simp only [ids, List.flatMap_cons, List.flatMap_nil, List.append_nil, hids]; exact hnd.2.1.1
    · simp only [ids, List.flatMap_cons, List.flatMap_nil, List.append_nil, hids] at hb
      rintro (hF | hl | hr')
      · exact hfr b (.inr (.inl hb)) hF
      · exact hnd.2.2 b hl b (.inl hb) rfl
      · exact hnd.2.1.2.2 b hb b hr' rfl
    · rcases hb with hF | hl | hr'
      · exact hH.bound b hF
      · exact hltb b (.inl hl)
      · exact hltb b (.inr (.inr hr'))
    · rw [hAx]; exact hH.glob
  refine (h0.2 F0 w vs hH0 (by rw [hAx]; exact hR)).mono ?_
  rintro e w' ⟨r', ηB', ⟨ρ', d, η1, h1, h2, h3, h4⟩, hv, hh', hx⟩
  cases d with
  | pan z => exact h4.elim
  | ret z0 =>
  obtain ⟨u, rfl, h2⟩ := h2
  obtain ⟨v, rfl, hv⟩ := hv
  have h10 := h1 0 (by simp [ofH])
  -- what is left there
  obtain ⟨x', g1, g2, g3, g4, g5⟩ : ∃ x' : Ent, EInst ⟨fun t => if t = l.length then ρ'.b 0 else ρ.b t, fun t n => if t = l.length then ρ'.s 0 n else ρ.s t n⟩ l.length e1.c x' ∧ x'.ok w' (Al F (l ++ x' :: r)) ∧ (∀ b ∈ x'.ids, b ∈ ids ηB') ∧ x'.ids.Nodup ∧ Rel w' (Al F (l ++ x' :: r)) y v := by
    cases e1 with
    | box us =>
      obtain ⟨cs', z, zs, ns, ms, q1, q2, q3, q4, q5, q6⟩ := h4
      obtain ⟨q, hq1, hq2⟩ := h3.en 0 _ q1
      obtain ⟨b, us', hb, rfl, hi'⟩ := hq2
      obtain ⟨e', vs', hheap, hvs⟩ := ents_nth hh' hq1
      obtain ⟨f1, _⟩ := frzL_ok h3 hh' (ms.map (·.1)) 60 q2 q3 (fun p hp => List.mem_map.2 ⟨p, hp, rfl⟩) (by simp only [InstL]; exact ⟨u, us', rfl, h2, hi'⟩) (vs := v :: vs') (by simp only [RelL]; exact ⟨v, vs', rfl, hv, hvs⟩)
      have hk : Keeps w' (AlX F0 ηB' (ms.map (·.1))) w' (Al F (l ++ (Ent.box b us) :: r)) := ⟨Nat.le_refl _, fun b' _ hb' => ⟨by
        rw [← hA]
        refine ⟨hb'.1, ?_⟩
        have := hb'.2 0 _ hq1 (fun hm => by
          obtain ⟨p, hp, hp0⟩ := List.mem_map.1 hm
          have := List.all_eq_true.1 q4 p hp
          rw [hp0] at this; simp at this)
        simpa [ids, Ent.ids] using this, rfl⟩⟩
      simp only [RelL] at f1
      obtain ⟨v1, vs1, e1', f2, f3⟩ := f1
      simp only [List.cons.injEq] at e1'
      obtain ⟨rfl, rfl⟩ := e1'
      exact ⟨.box b us, ⟨b, us, by simpa using hb, rfl, instL_d _⟩, ⟨e', vs', hheap, q6.rel (f3.keep hk)⟩, fun b' hb' => List.mem_flatMap.2 ⟨_, List.mem_of_getElem? (by rw [← nth_eq]; exact hq1), by simpa [Ent.ids] using hb'⟩, by simp [Ent.ids], q5 _ _ _ (f2.keep hk)⟩
    | row e k rows =>
      obtain ⟨rows0, z, ns, ms, q1, q2, q3, q4, q5, q6⟩ := h4
      obtain ⟨q, hq1, hq2⟩ := h3.en 0 _ q1
      obtain ⟨⟨a, c, hb, rfl⟩, hm⟩ := hq2
      have hl := q6.length
      obtain ⟨vs', f4, f5⟩ := ents_nth hh' hq1
      obtain ⟨f1, _⟩ := frzL_ok h3 hh' (ms.map (·.1)) 60 q2 q3 (fun p hp => List.mem_map.2 ⟨p, hp, rfl⟩) (by simp only [InstL]; exact ⟨u, [], rfl, h2, rfl⟩) (vs := [v]) (by simp only [RelL]; exact ⟨v, [], rfl, hv, rfl⟩)
      have hk : Keeps w' (AlX F0 ηB' (ms.map (·.1))) w' (Al F (l ++ (Ent.row (.slice a rows.length c) e k rows) :: r)) := ⟨Nat.le_refl _, fun b' _ hb' => ⟨by
        rw [← hA]
        refine ⟨hb'.1, ?_⟩
        have := hb'.2 0 _ hq1 (fun hm => by
          obtain ⟨p, hp, hp0⟩ := List.mem_map.1 hm
          have := List.all_eq_true.1 q4 p hp
          rw [hp0] at this; simp at this)
        cases a with | none => simp [ids, Ent.ids, Value.ownBlock] | some a => simpa [ids, Ent.ids, Value.ownBlock] using this, rfl⟩⟩
      simp only [RelL] at f1
      obtain ⟨v1, vs1, e1', f2, f3⟩ := f1
      simp only [List.cons.injEq] at e1'
      obtain ⟨rfl, rfl⟩ := e1'
      refine ⟨.row (.slice a rows.length c) e k rows, ⟨⟨a, c, by simpa [hl] using hb, rfl⟩, fun m hm' => by simpa using hm m (by omega)⟩, ⟨vs', (q6.rel f4).keep ⟨Nat.le_refl _, fun b' hb' ha => hk.2 b' hb' (Al_AlX _ ha)⟩, by rw [hl]; exact f5⟩, fun b' hb' => List.mem_flatMap.2 ⟨_, List.mem_of_getElem? (by rw [← nth_eq]; exact hq1), by cases a with | none => simp [Ent.ids, Value.ownBlock] at hb' | some a => simpa [Ent.ids, Value.ownBlock] using hb'⟩, ?_, q5 _ _ _ (f2.keep hk)⟩
      simp only [Ent.ids]; cases (Value.slice a rows.length c).ownBlock <;> simp
  have hnew : ∀ b ∈ x'.ids, b ∈ x.ids ∨ w.heap.size ≤ b := fun b hb => (hx.new b (g3 b hb)).imp (fun hb => by simpa [ids, hids] using hb) id
  have hblk : ∀ b, b < w.heap.size → b ∉ x.ids → w'.heap[b]? = w.heap[b]? := fun b hb hn => hx.block b hb (by simpa [ids, hids] using hn)
  have hset : ∀ (t : Nat), t ≠ l.length → ∀ n, (fun (t n : Nat) => if t = l.length then ρ'.s 0 n else ρ.s t n) t n = ρ.s t n := fun t ht n => by simp [ht]
  have hle : ρ.le ⟨fun t => if t = l.length then ρ'.b 0 else ρ.b t, fun t n => if t = l.length then ρ'.s 0 n else ρ.s t n⟩ := by
    refine ⟨fun t b hb => ?_, fun t n b hb => ?_⟩
    · by_cases ht : t = l.length
      · subst ht; simp only [if_true]; exact h10.1 b (by simpa [Rho.one] using hb)
      · simp only [ht, if_false]; exact hb
    · by_cases ht : t = l.length
      · subst ht; simp only [if_true]; exact h10.2 n b (by simpa [Rho.one] using hb)
      · simp only [ht, if_false]; exact hb
  have hlen : l.length < η.n := by have := hh.len; simp at this; omega
  refine ⟨.ret y, l ++ x' :: r, ⟨_, .ret (.d y), η.set l.length e1.c, hle.toK _, ⟨y, rfl, rfl⟩, ⟨fun t z hz => ?_, ?_, fun t ht => ?_⟩, rfl, rfl⟩, ⟨v, rfl, g5⟩, hH.upd hx.size hblk hnew g4 g2, ⟨hx.os, hx.tape, hx.output, hx.size, fun b hb hn => hblk b hb (fun hm => hn (by simp only [ids_append, ids_cons, List.mem_append]; exact .inr (.inl hm))), fun b hb => ?_⟩⟩
  · simp only [Hp.set] at hz
    rcases Tr.get_put 24 η.e l.length t (some e1.c) z hz with ⟨rfl, q1⟩ | ⟨hne, q1⟩
    · cases q1; exact ⟨x', nth_mid _ _ _, g1⟩
    · obtain ⟨z', q2, q3⟩ := hh.en t z q1
      exact ⟨z', by rw [nth_other hne]; exact q2, q3.mono hle (by funext n; exact hset t hne n)⟩
  · have := hh.len; simpa [Hp.set] using this
  · simp only [Hp.set] at ht
    have hne : t ≠ l.length := by omega
    simp only [hne, if_false]
    exact hh.dom t ht
  · simp only [ids_append, ids_cons, List.mem_append] at hb ⊢
    rcases hb with hb | hb | hb
    · exact .inl (.inl hb)
    · rcases hnew b hb with hb | hb
      · exact .inl (.inr (.inl hb))
      · exact .inr hb
    · exact .inl (.inr (.inr hb))

/-- A call that writes an entry of one's own. -/
theorem DWP.callS {dst : Option Nat} {f : Operand} {args : List Operand} {g : FuncId} {cs xs xs' : List CV} {ce : CEnt} {e0 e1 : SEnt} {y : AV} {tys : Array TypeId} {ty : TypeId} {pos : String} {after : Array Edge} (i : Nat)
    (h : SPure E g xs e0 y e1) (hc : calleeC σ f args = some (g, cs)) (hr : renL i cs = some xs') (hx : xs' = xs) (hi : η.e.get i = some ce) (hs : SImp ce e0) (hd : dstB N dst = true)
    (k1 : DWP E N K (.ops all rest :: k) Q (putT σ dst (.d y)) (η.set i e1.c)) :
    DWP E N K (.ops all (⟨dst, .call { callee := .value f, args := args.toArray, argTypes := tys }, ty, pos, after, none⟩ :: rest) :: k) Q σ η := by
  subst hx
  exact DO.call (h.frame hr hi hs) hc hd (fun x η' hq => by obtain ⟨e, rfl⟩ := hq; cases e; exact k1) (fun x η' hq => by cases hq.1)

/-- A fault is caught: its code and place. -/
def faultO (ty : Nat) (z : AV) : Option (Int × Int) := match z with
  | .ifc t (.agg [.v (.int .i64 a), .v (.int .i64 b)]) => bif Nat.beq t ty then some (a, b) else none
  | _ => none
theorem faultO_some {ty : Nat} {z : AV} {p : Int × Int} (h : faultO ty z = some p) : z = .ifc ty (.agg [.v (.int .i64 p.1), .v (.int .i64 p.2)]) := by
  unfold faultO at h
  split at h
  · rename_i t a b
    cases hb : Nat.beq t ty with
    | false => rw [hb] at h; cases h
    | true => rw [hb] at h; cases h; rw [Nat.eq_of_beq_eq_true hb]
  · cases h
def ctR {α β : Type} (ty : Nat) (o : Option (Res α)) (g : Int → Int → Option β) (f : α → Option β) : Option β := match o with
  | some (.ret x) => f x
  | some (.pan z) => (faultO ty z).bind fun p => g p.1 p.2
  | none => none
theorem ctR_some {α β : Type} {ty : Nat} {o : Option (Res α)} {g : Int → Int → Option β} {f : α → Option β} {r : β} (h : ctR ty o g f = some r) : (∃ a b, o = some (.pan (.ifc ty (.agg [.v (.int .i64 a), .v (.int .i64 b)]))) ∧ g a b = some r) ∨ ∃ x, o = some (.ret x) ∧ f x = some r := by
  cases o with
  | none => cases h
  | some x => cases x with
    | ret x => exact .inr ⟨x, rfl, h⟩
    | pan z =>
      obtain ⟨p, h1, h2⟩ := bindO h
      rw [faultO_some h1]; exact .inl ⟨p.1, p.2, rfl, h2⟩

/-- A call that panics with a fault that is caught further out. -/
theorem DWP.purePanC {dst dst' : Option Nat} {f : Operand} {args : List Operand} {g : FuncId} {cs : List CV} {xs' xs : List AV} {ns : List (Nat × Nat)} {ms : List (Nat × CEnt)} {ty' : Nat} {a b : Int} {N' K' : Nat} {σ' : TS} {k' : List It} {tys : Array TypeId} {ty : TypeId} {pos : String} {after : Array Edge} (h : Pure E.toCx g xs (.pan (.ifc ty' (.agg [.v (.int .i64 a), .v (.int .i64 b)])))) (hc : calleeC σ f args = some (g, cs)) (hf : frzL η.e 60 cs = some (xs', ns, ms)) (hn : eqs ns) (hi : ImpL xs' xs) (hl : ms = [] ∨ refFree (.ifc ty' (.agg [.v (.int .i64 a), .v (.int .i64 b)])) = true)
    (hp : panTo k = some (N', K', σ', dst', ty', k')) (hq : DWP E N' K' k' Q (putT σ' dst' (.d (.agg [.v (.int .i64 a), .v (.int .i64 b)]))) η) : DWP E N K (.ops all (⟨dst, .call { callee := .value f, args := args.toArray, argTypes := tys }, ty, pos, after, none⟩ :: rest) :: k) Q σ η := by
  show DO E N K all _ (dq E N K k Q) σ η
  exact DO.purePan 60 h hc hf hn hi hl (dq_panC (y := .agg [.v (.int .i64 a), .v (.int .i64 b)]) (.inr rfl) rfl k N K hp hq)

theorem DEff.callS {f : Operand} {args : List Operand} {g : FuncId} {cs xs xs' : List CV} {ce : CEnt} {e0 e1 : SEnt} {y : AV} {tys : Array TypeId} (i : Nat) (ho : o.op = .call { callee := .value f, args := args.toArray, argTypes := tys })
    (h : SPure E g xs e0 y e1) (hc : calleeC σ f args = some (g, cs)) (hr : renL i cs = some xs') (hx : xs' = xs) (hi : η.e.get i = some ce) (hs : SImp ce e0) : DEff E N o σ η (fun r η' => r = .ret (.d y) ∧ η' = η.set i e1.c) := by
  subst hx; exact DEff.call ho (h.frame hr hi hs) hc

theorem DWP.tlCallS {l : List (Nat × Oper × TK)} {A : Als} {pend : List (Nat × Oper × CV)} {fs : List (Nat × List AV × AV)} {j : Nat} {σ1 : TS} {η1 : Hp} {f : Operand} {args : List Operand} {g : FuncId} {cs xs xs' : List CV} {ce : CEnt} {e0 e1 : SEnt} {y : AV} {tys : Array TypeId} (i : Nat) (hp : PendD E N all pend σ η) (hnd : nodupB ((nuC (mOf all.toArray j A)).map (·.1)) = true) (hd : dstB N o.dst = true) (hop : openN (nuC (mOf all.toArray j A)) σ η = (σ1, η1)) (hw : wantedD all o σ1 = some true)
    (ho : o.op = .call { callee := .value f, args := args.toArray, argTypes := tys }) (h : SPure E g xs e0 y e1) (hc : calleeC σ1 f args = some (g, cs)) (hr : renL i cs = some xs') (hx : xs' = xs) (hi : η1.e.get i = some ce) (hs : SImp ce e0)
    (k1 : DWP E N K (.tl all l (mNot all.toArray j A) (keepC all j pend) fs :: k) Q (putT σ1 o.dst (.d y)) (η1.set i e1.c)) : DWP E N K (.tl all ((j, o, .one) :: l) A pend fs :: k) Q σ η :=
  DWP.tlEff hp hnd hd hop hw (DEff.callS i ho h hc hr hx hi hs) (fun x η' hR => by obtain ⟨e, rfl⟩ := hR; cases e; exact k1) (fun x η' hR => by cases hR.1)

/-- A function that writes the entry that it is handed: walked. -/
theorem SPure.walk {g : FuncId} {fn : Func} {c : Code} {xs : List CV} {rs : List ResultVar} {nt : Nat} {e0 e1 : SEnt} {y : AV} (hf : E.P.funcs[g]? = some fn) (hb : fn.body = some c) (hname : (fn.name == "runtime.NumGoroutine") = false) (hrs : fn.results = rs.toArray) (hnt : fn.ntmps = nt) (hn : Nat.ble xs.length nt = true)
    (h : DWP E nt 1 [.code c] (RD E.T rs (SEnds y e1)) (ofArgs 0 xs) (ofH [e0.c])) : SPure E g xs e0 y e1 := DCall.enter hf hb hname rs hrs nt hnt hn h

/-- The ends of such a walk. -/
theorem RD.leafSB {rs : List ResultVar} {xs cs : List CV} {z y : AV} {zs us : List AV} {ns : List (Nat × Nat)} {ms : List (Nat × CEnt)} (h : resD E.T σ η rs = some xs) (hg : η.e.get 0 = some (.box cs)) (hf : frzL η.e 60 (packC xs :: cs) = some (z :: zs, ns, ms)) (hn : eqs ns) (hm : (ms.all fun p => Nat.blt 0 p.1) = true) (e : Imp z y) (e' : ImpL zs us) : RD E.T rs (SEnds y (.box us)) .ret σ η :=
  ⟨xs, h, cs, z, zs, ns, ms, hg, hf, hn, hm, e, e'⟩
theorem RD.leafSBN {rs : List ResultVar} {xs cs : List CV} {z y : AV} {zs us : List AV} {ns : List (Nat × Nat)} {ms : List (Nat × CEnt)} (h : resD E.T σ η rs = some xs) (hg : η.e.get 0 = some (.box cs)) (hf : frzL η.e 60 (packC xs :: cs) = some (z :: zs, ns, ms)) (hn : eqs ns) (hm : (ms.all fun p => Nat.blt 0 p.1) = true) (e : Imp z y) (e' : ImpL zs us) : RD E.T rs (SEnds y (.box us)) .norm σ η :=
  ⟨xs, h, cs, z, zs, ns, ms, hg, hf, hn, hm, e, e'⟩
theorem RD.leafSR {rs : List ResultVar} {xs : List CV} {z y : AV} {e kk : Nat} {rows0 rows : List (List AV)} {ns : List (Nat × Nat)} {ms : List (Nat × CEnt)} (h : resD E.T σ η rs = some xs) (hg : η.e.get 0 = some (.row e kk rows0)) (hf : frzL η.e 60 [packC xs] = some ([z], ns, ms)) (hn : eqs ns) (hm : (ms.all fun p => Nat.blt 0 p.1) = true) (e1 : Imp z y) (e' : ImpR rows0 rows) : RD E.T rs (SEnds y (.row e kk rows)) .ret σ η :=
  ⟨xs, h, rows0, z, ns, ms, hg, hf, hn, hm, e1, e'⟩
theorem RD.leafSRN {rs : List ResultVar} {xs : List CV} {z y : AV} {e kk : Nat} {rows0 rows : List (List AV)} {ns : List (Nat × Nat)} {ms : List (Nat × CEnt)} (h : resD E.T σ η rs = some xs) (hg : η.e.get 0 = some (.row e kk rows0)) (hf : frzL η.e 60 [packC xs] = some ([z], ns, ms)) (hn : eqs ns) (hm : (ms.all fun p => Nat.blt 0 p.1) = true) (e1 : Imp z y) (e' : ImpR rows0 rows) : RD E.T rs (SEnds y (.row e kk rows)) .norm σ η :=
  ⟨xs, h, rows0, z, ns, ms, hg, hf, hn, hm, e1, e'⟩
/-! ### Calls whose result is a row of one's own -/

/-- So a call ends that makes a row. -/
def FEnds (e k : Nat) (rows : List (List AV)) : DR → Hp → Prop
  | .ret x, η => (∃ j n rows0, x = .os j n ∧ n = rows0.length ∧ η.e.get j = some (.row e k rows0) ∧ ImpR rows0 rows) ∨ (x = .d (.v (.slice none 0 0)) ∧ rows = [])
  | .pan _, _ => False
def FPure (E : Env) (g : FuncId) (args : List AV) (e k : Nat) (rows : List (List AV)) : Prop := DCall E g (args.map .d) Hp.nil (FEnds e k rows)

theorem FPure.frame {g : FuncId} {args : List AV} {e k : Nat} {rows : List (List AV)} {cs : List CV} (h : FPure E g args e k rows) (hc : allD cs = some args) : DCall E g cs η (fun r η' => r = .ret (.os η.n rows.length) ∧ η' = η.push (.row e k rows)) := fun ρ ys ηB hys hh => by
  have := instL_allD hc hys; subst this
  have h0 := h ⟨fun _ => none, fun _ _ => none⟩ ys [] (instL_d ys) (HS.nil _ fun _ => ⟨rfl, fun _ => rfl⟩)
  refine ⟨h0.1, fun F w vs hH hR => ?_⟩
  have hA : Al (fun b => F b ∨ b ∈ ids ηB) [] = Al F ηB := funext fun b => propext (by simp [Al, ids])
  have hH0 : HOk E.toCx.G w (fun b => F b ∨ b ∈ ids ηB) [] := ⟨by simp, by simp [ids], by simp [ids], fun b hb => hb.elim (hH.bound b) (hH.lt b), by rw [hA]; exact hH.glob⟩
  refine (h0.2 _ w vs hH0 (by rw [hA]; exact hR)).mono ?_
  rintro e' w' ⟨r', ηB', ⟨ρ', d, η1, h1, h2, h3, h4⟩, hv, hh', hx⟩
  cases d with
  | pan z => exact h4.elim
  | ret z0 =>
  obtain ⟨u, rfl, h2⟩ := h2
  obtain ⟨v, rfl, hv⟩ := hv
  have hsame : ∀ b, b < w.heap.size → w'.heap[b]? = w.heap[b]? := fun b hb => hx.block b hb (by simp [ids])
  have hlen := hh.len
  -- the row
  obtain ⟨a, c, rfl, g2, g3⟩ : ∃ a c, v = .slice a rows.length c ∧ (Ent.row (.slice a rows.length c) e k rows).ok w' (Al F (ηB ++ [.row (.slice a rows.length c) e k rows])) ∧ ∀ b ∈ (Ent.row (.slice a rows.length c) e k rows).ids, w.heap.size ≤ b := by
    rcases h4 with ⟨j, n, rows0, rfl, rfl, hg, hi⟩ | ⟨rfl, rfl⟩
    · obtain ⟨q, hq1, hq2⟩ := h3.en j _ hg
      obtain ⟨⟨a, c, hb, rfl⟩, _⟩ := hq2
      simp only [Inst] at h2
      obtain ⟨a', c', t', hb', rfl⟩ := h2
      rw [hb] at hb'; cases hb'
      have hl := hi.length
      simp only [Rel] at hv; subst hv
      obtain ⟨vs', f4, f5⟩ := ents_nth hh' hq1
      have hnew : ∀ b ∈ (Ent.row (.slice a rows0.length c) e k rows0).ids, w.heap.size ≤ b := fun b hb => (hx.new b (List.mem_flatMap.2 ⟨_, List.mem_of_getElem? (by rw [← nth_eq]; exact hq1), hb⟩)).elim (fun h => by simp [ids] at h) id
      refine ⟨a, c, by rw [hl], ⟨vs', (hi.rel f4).keep ⟨Nat.le_refl _, fun b _ ha => ⟨⟨fun hF => ha.1 (.inl hF), fun hm => ?_⟩, rfl⟩⟩, by rw [hl]; exact f5⟩, fun b hb => hnew b (by cases a with | none => simp [Ent.ids, Value.ownBlock] at hb | some a => simpa [Ent.ids, Value.ownBlock] using hb)⟩
      rw [ids_append, List.mem_append] at hm
      rcases hm with hm | hm
      · exact ha.1 (.inr hm)
      · exact ha.2 (List.mem_flatMap.2 ⟨_, List.mem_of_getElem? (by rw [← nth_eq]; exact hq1), by cases a with | none => simp [ids, Ent.ids, Value.ownBlock] at hm | some a => simpa [ids, Ent.ids, Value.ownBlock] using hm⟩)
    · simp only [Inst] at h2; subst h2
      simp only [Rel] at hv; subst hv
      exact ⟨none, 0, rfl, ⟨[], by simp [RelRows], by simp, .inl ⟨rfl, rfl⟩⟩, by simp [Ent.ids, Value.ownBlock]⟩
  have hdom := hh.dom η.n (Nat.le_refl _)
  have hle : ρ.le (ρ.setS η.n rows.length (a, c)) := Rho.le_setS fun y hy => by rw [hdom.2] at hy; cases hy
  have hbn : (ρ.setS η.n rows.length (a, c)).s η.n rows.length = some (a, c) := by simp [Rho.setS]
  refine ⟨.ret (.os 0 a rows.length c), ηB ++ [.row (.slice a rows.length c) e k rows], ⟨_, .ret (.os η.n rows.length), η.push (.row e k rows), hle.toK _, ⟨_, rfl, by simp only [Inst]; exact ⟨_, _, _, hbn, rfl⟩⟩, ?_, rfl, rfl⟩, ⟨_, rfl, by simp only [Rel]⟩, hH.push hx.size hsame g3 (by simp only [Ent.ids]; cases (Value.slice a rows.length c).ownBlock <;> simp) g2, ⟨hx.os, hx.tape, hx.output, hx.size, fun b hb _ => hsame b hb, fun b hb => ?_⟩⟩
  · refine hh.push hle (fun i hi => by funext m; simp [Rho.setS, hi]) (fun _ _ => rfl) ⟨⟨a, c, hbn, rfl⟩, fun m hm => ?_⟩
    have : m ≠ rows.length := by omega
    simp only [Rho.setS, this, and_false, if_false]
    exact hdom.2 m
  · rw [ids_append, List.mem_append] at hb
    rcases hb with hb | hb
    · exact .inl hb
    · exact .inr (g3 b (by simpa [ids] using hb))

theorem DWP.callO {dst : Option Nat} {f : Operand} {args : List Operand} {g : FuncId} {cs : List CV} {xs xs' : List AV} {e kk : Nat} {rows : List (List AV)} {tys : Array TypeId} {ty : TypeId} {pos : String} {after : Array Edge}
    (h : FPure E g xs e kk rows) (hc : calleeC σ f args = some (g, cs)) (hx : allD cs = some xs') (hi : xs' = xs) (hd : dstB N dst = true) (k1 : DWP E N K (.ops all rest :: k) Q (putT σ dst (.os η.n rows.length)) (η.push (.row e kk rows))) :
    DWP E N K (.ops all (⟨dst, .call { callee := .value f, args := args.toArray, argTypes := tys }, ty, pos, after, none⟩ :: rest) :: k) Q σ η := by
  subst hi
  exact DO.call (h.frame hx) hc hd (fun x η' hq => by obtain ⟨e, rfl⟩ := hq; cases e; exact k1) (fun x η' hq => by cases hq.1)

theorem DWP.tlCallO {l : List (Nat × Oper × TK)} {A : Als} {pend : List (Nat × Oper × CV)} {fs : List (Nat × List AV × AV)} {j : Nat} {σ1 : TS} {η1 : Hp} {f : Operand} {args : List Operand} {g : FuncId} {cs : List CV} {xs xs' : List AV} {e kk : Nat} {rows : List (List AV)} {tys : Array TypeId} (hp : PendD E N all pend σ η) (hnd : nodupB ((nuC (mOf all.toArray j A)).map (·.1)) = true) (hd : dstB N o.dst = true) (hop : openN (nuC (mOf all.toArray j A)) σ η = (σ1, η1)) (hw : wantedD all o σ1 = some true)
    (ho : o.op = .call { callee := .value f, args := args.toArray, argTypes := tys }) (h : FPure E g xs e kk rows) (hc : calleeC σ1 f args = some (g, cs)) (hx : allD cs = some xs') (hi : xs' = xs)
    (k1 : DWP E N K (.tl all l (mNot all.toArray j A) (keepC all j pend) fs :: k) Q (putT σ1 o.dst (.os η1.n rows.length)) (η1.push (.row e kk rows))) : DWP E N K (.tl all ((j, o, .one) :: l) A pend fs :: k) Q σ η := by
  subst hi
  exact DWP.tlEff hp hnd hd hop hw (DEff.call ho (h.frame hx) hc) (fun x η' hR => by obtain ⟨e, rfl⟩ := hR; cases e; exact k1) (fun x η' hR => by cases hR.1)

theorem FPure.walk {g : FuncId} {fn : Func} {c : Code} {xs : List AV} {rs : List ResultVar} {nt : Nat} {e kk : Nat} {rows : List (List AV)} (hf : E.P.funcs[g]? = some fn) (hb : fn.body = some c) (hname : (fn.name == "runtime.NumGoroutine") = false) (hrs : fn.results = rs.toArray) (hnt : fn.ntmps = nt) (hn : Nat.ble xs.length nt = true)
    (h : DWP E nt 0 [.code c] (RD E.T rs (FEnds e kk rows)) (ofArgs 0 (xs.map .d)) Hp.nil) : FPure E g xs e kk rows := DCall.enter hf hb hname rs hrs nt hnt (by simpa using hn) h

theorem RD.leafO {rs : List ResultVar} {xs : List CV} {e kk j n : Nat} {rows0 rows : List (List AV)} (h : resD E.T σ η rs = some xs) (hp : packC xs = .os j n) (hn : n = rows0.length) (hg : η.e.get j = some (.row e kk rows0)) (e' : ImpR rows0 rows) : RD E.T rs (FEnds e kk rows) .ret σ η :=
  ⟨xs, h, .inl ⟨j, n, rows0, hp, hn, hg, e'⟩⟩
theorem RD.leafOnil {rs : List ResultVar} {xs : List CV} {e kk : Nat} {rows : List (List AV)} (h : resD E.T σ η rs = some xs) (hp : packC xs = .d (.v (.slice none 0 0))) (e' : rows = []) : RD E.T rs (FEnds e kk rows) .ret σ η :=
  ⟨xs, h, .inr ⟨hp, e'⟩⟩
end
end Go.Bw
