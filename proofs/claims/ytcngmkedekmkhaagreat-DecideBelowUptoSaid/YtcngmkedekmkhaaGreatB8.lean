/-
  Own work. The program logic, eighth part: make, elements of own rows, package-level arrays, regions whose order is open.
-/
import Derived.Test.YtcngmkedekmkhaaGreatB7
noncomputable section
namespace Go.Bw
open Go
section
variable {N : Nat} {Q : AQ} {σ : Sg} {η : List Ent} {ops : Array Oper} {rest : List Oper} {E : Env} {w : World} {A : Nat → Prop} {a : Act}
theorem repsV_rows (z : List Value) : ∀ n, RelRows w A z.length (List.replicate n (z.map .v)) (repsV n z)
  | 0 => by simp [repsV, RelRows]
  | n + 1 => by
    simp only [List.replicate_succ, repsV, RelRows]
    exact ⟨z, _, rfl, by simp, relL_map_v z, repsV_rows z n⟩
theorem repsV_add (z : List Value) : ∀ n m, repsV (n + m) z = repsV n z ++ repsV m z
  | 0, m => by simp [repsV]
  | n + 1, m => by rw [show n + 1 + m = (n + m) + 1 by omega]; simp [repsV, repsV_add z n m]
theorem AOps.make {d : Nat} {t : TypeId} {x y : Operand} {ty : TypeId} {pos : String} {after : Array Edge} {e k sz by' sz' by'' : Nat} {z z' : List Value} {td' : TD} {kl kc : IntKind} {li ci : Int} (l c : Nat)
    (hb : c * by'' ≤ 140737488355328) (hl : l ≤ c) (hx : ev (look σ) x = some (.v (.int kl li))) (hli : li = (l : Int)) (hy : ev (look σ) y = some (.v (.int kc ci))) (hci : ci = (c : Int)) (ht : tget E.T t = some ⟨.slice e k, sz, by', z⟩) (hte : tget E.T e = some ⟨td', sz', by'', z'⟩)
    (hk : Nat.ble 1 k = true) (hby : Nat.ble 1 by'' = true) (hd : Nat.blt d N = true)
    (kk : ∀ b, AOps E.toCx N ops rest Q ((d, .os η.length (some ⟨b, 0, none⟩) l c) :: σ) (η ++ [.row (.slice (some ⟨b, 0, none⟩) l c) e k (List.replicate l (z'.map .v))])) : AOps E.toCx N ops (⟨some d, .makeSlice t x y, ty, pos, after, none⟩ :: rest) Q σ η :=
  AOps.opR (R := fun r η' => ∃ b, r = .os η.length (some ⟨b, 0, none⟩) l c ∧ η' = η ++ [.row (.slice (some ⟨b, 0, none⟩) l c) e k (List.replicate l (z'.map .v))]) rfl hd (fun F a w hs => by
    obtain ⟨hu, hke, hh⟩ := tiB_slice (E.tok _ _ ht) rfl
    obtain ⟨_, ti, _, hi, _, hsz, hbb, zv, hz1, hz2⟩ := tiB_spec (E.tok _ _ hte)
    have hzl := tiB_zlen (E.tok _ _ hte)
    simp only at hsz hbb hz2 hzl
    have hk := Nat.le_of_ble_eq_true hk
    have hby := Nat.le_of_ble_eq_true hby
    have hsize : ti.size = k := by rw [hke]; simp [sizeB, hi]
    have hzs : zv.cells.size = z'.length := by have := congrArg List.length hz2; simpa using this
    have hzk : z'.length = k := by omega
    have hx' := ev_rel hs.sg hx
    have hy' := ev_rel hs.sg hy
    simp only [Rel] at hx' hy'
    subst hli; subst hci
    have hcb : c ≤ 140737488355328 := Nat.le_trans (Nat.le_mul_of_pos_right c hby) hb
    have hr := run_make (P := E.P) w t e ti zv hu hi hz1 kl kc (l : Int) (c : Int) (by omega) (by omega) (by rw [hbb, ← Int.natCast_mul, Nat.mul_comm]; omega) (by omega)
    simp only [Int.toNat_natCast] at hr
    have hm : madeCells zv.cells (c * ti.size) = (repsV c z').toArray := by
      apply Array.ext'
      have := zeros_eq zv.cells c
      rw [hzs, hzk, hz2] at this
      simp only [madeCells, hsize]
      simpa [hzs, hzk] using this
    rw [hm] at hr
    have hext := ext_alloc w (.cells (repsV c z').toArray e) η (.row (.slice (some ⟨w.heap.size, 0, none⟩) l c) e k (List.replicate l (z'.map .v))) (by simp [Ent.ids, Value.ownBlock])
    refine ⟨.slice (some ⟨w.heap.size, 0, none⟩) l c, _, _, _, ⟨w.heap.size, rfl, rfl⟩, by simp [execOp, hx', hy', hr], by simp only [Rel], ?_, hext⟩
    refine hs.hp.push (by simp) (fun b hb => alloc_later w _ b hb) (by simp [Ent.ids, Value.ownBlock]) (by simp [Ent.ids, Value.ownBlock]) ?_
    refine ⟨repsV l z', by rw [← hzk]; exact repsV_rows z' l, ?_, .inr ⟨w.heap.size, c, _, by simp, Nat.zero_le _, alloc_new w _, by simpa using hl, by simp only [maxLen]; omega, ?_, ?_⟩⟩
    · simp [repsV_length, hzk]
    · simp [repsV_length, hzk]
    · have : c = l + (c - l) := by omega
      rw [this, repsV_add]
      simp only [List.length_replicate]
      rw [← hzk, ← repsV_length]
      exact List.take_left)
    (fun _ _ ⟨b, h1, h2⟩ => by subst h1; subst h2; exact kk b)
theorem opS_idxRow {tg : Nat} {o : Oper} {t : TypeId} {x ix : Operand} (ho : o.op = .indexAddr t x ix) {e k sz by' : Nat} {z : List Value} {i : Nat} {a0 : Option Addr} {n0 c0 : Nat} {rows : List (List AV)} {kd : IntKind} {n : Int} (j : Nat) (ht : tget E.T t = some ⟨.slice e k, sz, by', z⟩) (hx : ev (look σ) x = some (.os tg a0 n0 c0)) (hi : nth η i = some (.row (.slice a0 n0 c0) e k rows)) (hix : ev (look σ) ix = some (.v (.int kd n)))
    (hj : n = (j : Int)) (hr : j < rows.length) : OpS E.toCx N o σ η (.oe i (.slice a0 n0 c0) (j * k)) := fun F a w hs => by
  obtain ⟨hu, hke, hh⟩ := tiB_slice (E.tok _ _ ht) rfl
  have h1 := ev_rel hs.sg hx
  have h2 := ev_rel hs.sg hix
  simp only [Rel] at h1 h2
  subst hj
  obtain ⟨vs, h3, h4, h5⟩ := ents_nth hs.hp hi
  rcases h5 with ⟨_, h0⟩ | ⟨g, cap, cur, hv, _, hg, hn, _⟩
  · omega
  · cases hv
    refine ⟨.pointer (some ⟨g, j * k, none⟩), by simp only [Rel]; exact ⟨g, _, _, rfl, rfl⟩, fun w' _ => ?_⟩
    rw [hke]
    simp [execOp, ho, h1, h2, Instr.indexAt, asIntOf, run_underlying hu, hr, hasB_size hh, Addr.add_lit]
theorem AOps.idxRow {tg : Nat} (j : Nat) {i d : Nat} {t : TypeId} {x ix : Operand} {ty : TypeId} {pos : String} {after : Array Edge} {e k sz by' : Nat} {z : List Value} {a0 : Option Addr} {n0 c0 : Nat} {rows : List (List AV)} {kd : IntKind} {n : Int} (hr : j < rows.length) (hx : ev (look σ) x = some (.os tg a0 n0 c0)) (hi : nth η i = some (.row (.slice a0 n0 c0) e k rows)) (hix : ev (look σ) ix = some (.v (.int kd n)))
    (hj : n = (j : Int)) (ht : tget E.T t = some ⟨.slice e k, sz, by', z⟩) (hn : Nat.blt d N = true) (kk : AOps E.toCx N ops rest Q ((d, .oe i (.slice a0 n0 c0) (j * k)) :: σ) η) : AOps E.toCx N ops (⟨some d, .indexAddr t x ix, ty, pos, after, none⟩ :: rest) Q σ η :=
  AOps.opS rfl rfl hn (opS_idxRow rfl j ht hx hi hix hj hr) kk
theorem opS_loadRow {tg : Nat} {o : Oper} {t : TypeId} {p : Operand} (ho : o.op = .load t p) (j off : Nat) {i : Nat} {v : Value} {e k n : Nat} {rows : List (List AV)} {r : List AV} {x : AV} (hp : ev (look σ) p = some (.oe tg v n)) (hn : n = j * k + off) (hi : nth η i = some (.row v e k rows)) (hr : rows[j]? = some r) (hl : loadA E.T t r off = some x) :
    OpS E.toCx N o σ η x := fun F a w hs => by
  have h1 := ev_rel hs.sg hp
  simp only [Rel] at h1
  obtain ⟨g, len, cap, hv, h1⟩ := h1
  obtain ⟨vs, h2, h3⟩ := ents_nth hs.hp hi
  obtain ⟨hrk, us, h4, h5⟩ := h2.get hr
  have hlen : j * k + us.length ≤ vs.length := by
    rw [h2.length, h4.length, hrk]
    have : j < rows.length := (List.getElem?_eq_some_iff.1 hr).1
    calc j * k + k = (j + 1) * k := by rw [Nat.add_mul, Nat.one_mul]
      _ ≤ rows.length * k := Nat.mul_le_mul_right k (by omega)
  subst hn
  rcases h3.2 with ⟨hvn, _⟩ | ⟨g', cap', cur, hvg, _, hg, _, _, _, htake⟩
  · rw [hv] at hvn; cases hvn
  · rw [hv] at hvg; cases hvg
    have hb : g < w.heap.size := (Array.getElem?_eq_some_iff.1 hg).1
    obtain ⟨val, h6, h7⟩ := loadA_at (E := E) (b := g) (s := j * k) hl h4
    refine ⟨val, h6, fun w' hw' => ?_⟩
    have := h7 w' (fun i u hiu => by
      have h8 := h5 i u hiu
      rw [← htake, List.getElem?_take] at h8
      split at h8
      · have hc : cur[j * k + i]? = some u := by simpa using h8
        simp [World.cell?, hw'.2 g hb, hg, hc]
      · cases h8)
    simp [execOp, ho, h1, Instr.loadAt, Instr.sureAddr, this]
theorem AOps.loadRow {tg : Nat} (j off : Nat) {i d : Nat} {t : TypeId} {p : Operand} {ty : TypeId} {pos : String} {after : Array Edge} {v : Value} {e k n : Nat} {rows : List (List AV)} {r : List AV} {x : AV} (hr : rows[j]? = some r) (hp : ev (look σ) p = some (.oe tg v n)) (hi : nth η i = some (.row v e k rows)) (hnn : n = j * k + off) (hl : loadA E.T t r off = some x)
    (hn : Nat.blt d N = true) (kk : AOps E.toCx N ops rest Q ((d, x) :: σ) η) : AOps E.toCx N ops (⟨some d, .load t p, ty, pos, after, none⟩ :: rest) Q σ η :=
  AOps.opS rfl rfl hn (opS_loadRow rfl j off hp hnn hi hr hl) kk
theorem RelRows.set {k : Nat} : ∀ {rows : List (List AV)} {vs us : List Value} {j : Nat} {r : List AV}, RelRows w A k rows vs → j < rows.length → r.length = k → RelL w A r us → RelRows w A k (rows.set j r) (splice vs (j * k) us)
  | [], _, _, _, _, _, hlt, _, _ => by simp at hlt
  | q :: rs, vs, us, 0, r, h, _, hk, hr => by
    simp only [RelRows] at h
    obtain ⟨v1, v2, rfl, hq, h1, h2⟩ := h
    simp only [List.set_cons_zero, RelRows, Nat.zero_mul]
    refine ⟨us, v2, ?_, hk, hr, h2⟩
    have hlen : us.length = v1.length := by rw [hr.length, h1.length, hk, hq]
    have key : ∀ (us v1 : List Value), us.length = v1.length → splice (v1 ++ v2) 0 us = us ++ v2 := by
      intro us
      induction us with
      | nil => intro v1 hl; have : v1 = [] := List.eq_nil_of_length_eq_zero (by simpa using hl.symm); subst this; cases v2 <;> simp [splice, over]
      | cons u us ih => intro v1 hl; cases v1 with
        | nil => simp at hl
        | cons x v1 =>
          have := ih v1 (by simpa using hl)
          simp only [List.cons_append]
          have h0 : ∀ (l : List Value) (ys : List Value), splice l 0 ys = over l ys := by intro l ys; cases l <;> rfl
          rw [h0] at this ⊢
          simp [over, this]
    exact key us v1 hlen
  | q :: rs, vs, us, j + 1, r, h, hj, hk, hr => by
    simp only [RelRows] at h
    obtain ⟨v1, v2, rfl, hq, h1, h2⟩ := h
    simp only [List.set_cons_succ, RelRows]
    have hl1 : v1.length = k := by rw [h1.length, hq]
    refine ⟨v1, splice v2 (j * k) us, ?_, hq, h1, RelRows.set h2 (by simpa using hj) hk hr⟩
    have key : ∀ (v1 : List Value) (m : Nat), splice (v1 ++ v2) (v1.length + m) us = v1 ++ splice v2 m us := by
      intro v1 m
      induction v1 with
      | nil => simp
      | cons x v1 ih => rw [List.length_cons, show v1.length + 1 + m = (v1.length + m) + 1 by omega]; simp [splice, ih]
    have := key v1 (j * k)
    rw [hl1] at this
    rw [← this]
    congr 1
    rw [Nat.add_mul]; omega
theorem splice_length {α : Type} : ∀ {xs ys : List α} {p : Nat}, p + ys.length ≤ xs.length → (splice xs p ys).length = xs.length
  | [], ys, p, h => by
    have : ys = [] := List.eq_nil_of_length_eq_zero (by simp at h; simp [h.2])
    subst this; rw [splice_nil]
  | x :: xs, [], p, _ => by rw [splice_nil]
  | x :: xs, y :: ys, 0, h => by
    have h0 : splice xs 0 ys = over xs ys := by cases xs <;> rfl
    have := splice_length (xs := xs) (ys := ys) (p := 0) (by simpa using h)
    rw [h0] at this
    simp [splice, over, this]
  | x :: xs, y :: ys, p + 1, h => by
    simp only [splice, List.length_cons]
    rw [splice_length (by simp at h ⊢; omega)]
theorem splice_get {α : Type} : ∀ {xs ys : List α} {p : Nat}, p + ys.length ≤ xs.length → ∀ i, (splice xs p ys)[i]? = if p ≤ i ∧ i < p + ys.length then ys[i - p]? else xs[i]?
  | xs, [], p, _, i => by rw [splice_nil, if_neg (by simp only [List.length_nil]; omega)]
  | [], y :: ys, p, h, i => by simp at h
  | x :: xs, y :: ys, 0, h, i => by
    have h0 : splice xs 0 ys = over xs ys := by cases xs <;> rfl
    have ih := splice_get (xs := xs) (ys := ys) (p := 0) (by simpa using h)
    rw [h0] at ih
    simp only [splice, over]
    cases i with
    | zero => simp
    | succ i =>
      simp only [List.getElem?_cons_succ, ih i, List.length_cons]
      by_cases hi : i < ys.length
      · rw [if_pos (by omega), if_pos (by omega)]; simp
      · rw [if_neg (by omega), if_neg (by omega)]
  | x :: xs, y :: ys, p + 1, h, i => by
    simp only [splice]
    cases i with
    | zero => simp
    | succ i =>
      simp only [List.getElem?_cons_succ]
      rw [splice_get (by simp at h ⊢; omega) i]
      by_cases hi : p ≤ i ∧ i < p + (y :: ys).length
      · rw [if_pos hi, if_pos (by omega)]; congr 1; omega
      · rw [if_neg hi, if_neg (by omega)]
theorem opU_storeRow {tg : Nat} {o : Oper} {t : TypeId} {p x : Operand} (ho : o.op = .store t p x) (j off : Nat) {i : Nat} {v : Value} {e k n : Nat} {rows : List (List AV)} {r r' : List AV} {y : AV} {ti : TI} (hp : ev (look σ) p = some (.oe tg v n)) (hn : n = j * k + off) (hx : ev (look σ) x = some y) (hi : nth η i = some (.row v e k rows)) (hr : rows[j]? = some r)
    (ht : tget E.T t = some ti) (hk : Nat.beq (cellsA y).length ti.size = true) (h1 : onesB (cellsA y) = true) (hl : spliceA r off (cellsA y) = some r') :
    OpU E.toCx N o σ η (η.set i (.row v e k (rows.set j r'))) := fun F a w hs => by
  have hp' := ev_rel hs.sg hp
  simp only [Rel] at hp'
  obtain ⟨g, len, cap, hv, hp'⟩ := hp'
  have hy := cellsA_rel (ev_rel hs.sg hx)
  obtain ⟨l, rr, rfl, hset⟩ := nth_split hi
  simp only [hset]
  obtain ⟨vs, h2, h3⟩ := hs.hp.ents (.row v e k rows) (by simp)
  obtain ⟨hrk, us, h4, h5⟩ := h2.get hr
  have hjlt : j < rows.length := (List.getElem?_eq_some_iff.1 hr).1
  have hlen := spliceA_len hl
  have hyl := hy.length
  subst hn
  obtain ⟨h30, h3⟩ := h3
  rcases h3 with ⟨hvn, _⟩ | ⟨g', cap', cur, hvg, _, hg, hnc, hcm, hcs, htake⟩
  · rw [hv] at hvn; cases hvn
  · rw [hv] at hvg; cases hvg
    have hvl : vs.length = rows.length * k := h2.length
    have hjk : (j + 1) * k ≤ rows.length * k := Nat.mul_le_mul_right k (by omega)
    rw [Nat.add_mul, Nat.one_mul] at hjk
    have hcurlen : vs.length ≤ cur.toList.length := by rw [← htake, List.length_take]; omega
    have hg' : w.heap[g]? = some (.cells cur.toList.toArray e (0, 0)) := by simpa using hg
    obtain ⟨w', h6, h7, h8, h9, h10, h11, h12⟩ := run_storeCells_row (P := E.P) g e (a.eval x).cells.toList 0 (j * k + off) cur.toList w hg' (by omega) (onesB_one h1 hy)
    have hids : ∀ c ∈ Ent.ids (.row v e k (rows.set j r')), c ∈ Ent.ids (.row v e k rows) ∨ w.heap.size ≤ c := fun c hc => .inl hc
    have hown : Ent.ids (.row v e k rows) = [g] := by simp [Ent.ids, hv, Value.ownBlock]
    have hoth : ∀ c, c ∉ Ent.ids (.row v e k rows) → w'.heap[c]? = w.heap[c]? := fun c hc => h12 c (fun e => hc (by rw [hown, e]; simp))
    have hkeep : Keeps w (Al F (l ++ Ent.row v e k rows :: rr)) w' (Al F (l ++ Ent.row v e k (rows.set j r') :: rr)) := by
      refine ⟨by omega, fun c hc ha => ⟨?_, hoth c fun hcb => ha.2 (by simp [ids_append, ids_cons, hcb])⟩⟩
      simpa [Al, ids_append, ids_cons, Ent.ids] using ha
    refine ⟨w', ?_, ?_, ?_⟩
    · have hsz : (a.eval x).cells.size = ti.size := by
        have := Nat.eq_of_beq_eq_true hk
        rw [← hyl] at this
        simpa using this
      simp [execOp, ho, hp', Instr.storeAt, Instr.sureAddr, storeVar, tiB_size (E.tok _ _ ht), hsz, h6]
    · refine hs.hp.upd (by omega) (fun c _ hc => hoth c hc) hids (by simp [Ent.ids, hv, Value.ownBlock]) ?_
      have hr'k : r'.length = k := by rw [hlen.2, hrk]
      have hnew := (spliceA_rel hl h4 hy).keep hkeep
      have husl : us.length = k := by rw [h4.length, hrk]
      have hle1 : off + (a.eval x).cells.toList.length ≤ us.length := by omega
      have hsl : (splice us off (a.eval x).cells.toList).length = k := by rw [splice_length hle1, husl]
      have hle2 : j * k + (splice us off (a.eval x).cells.toList).length ≤ vs.length := by omega
      have hle3 : j * k + off + 0 + (a.eval x).cells.toList.length ≤ cur.toList.length := by omega
      refine ⟨splice vs (j * k) (splice us off (a.eval x).cells.toList), RelRows.set (h2.keep hkeep) hjlt hr'k hnew, ?_, .inr ⟨g, cap, _, by simpa using hv, Nat.zero_le _, h7, by simpa using hnc, hcm, ?_, ?_⟩⟩
      · rw [splice_length hle2, hvl]; simp
      · simp only [List.size_toArray]; rw [splice_length hle3]; simpa using hcs
      · apply List.ext_getElem?
        intro i
        simp only [List.length_set]
        rw [List.getElem?_take, splice_get hle2, splice_get hle1, splice_get hle3, hsl]
        have hvi : ∀ i, i < rows.length * k → vs[i]? = cur.toList[i]? := fun i hi => by rw [← htake, List.getElem?_take, if_pos hi]
        by_cases hi : i < rows.length * k
        · rw [if_pos hi]
          by_cases h13 : j * k ≤ i ∧ i < j * k + k
          · rw [if_pos h13]
            by_cases h14 : off ≤ i - j * k ∧ i - j * k < off + (a.eval x).cells.toList.length
            · rw [if_pos h14, if_pos (by omega)]; congr 1; omega
            · rw [if_neg h14, if_neg (by omega), ← hvi i hi]
              have : i - j * k < us.length := by omega
              have h15 := h5 (i - j * k) us[i - j * k] (by simp [this])
              rw [show j * k + (i - j * k) = i by omega] at h15
              rw [h15]; simp [this]
          · rw [if_neg h13, if_neg (by omega), hvi i hi]
        · rw [if_neg hi, if_neg (by omega), List.getElem?_eq_none (by omega)]
    · refine ⟨h8, h9, h10, by omega, fun c _ hc => hoth c fun hcb => hc (by simp [ids_append, ids_cons, hcb]), fun c hc => .inl ?_⟩
      simpa [ids_append, ids_cons, Ent.ids] using hc
theorem AOps.storeRow {tg : Nat} (j off : Nat) {i : Nat} {t : TypeId} {p x : Operand} {ty : TypeId} {pos : String} {after : Array Edge} {v : Value} {e k n : Nat} {rows : List (List AV)} {r r' : List AV} {y : AV} {ti : TI} (hr : rows[j]? = some r) (hp : ev (look σ) p = some (.oe tg v n)) (hx : ev (look σ) x = some y) (hi : nth η i = some (.row v e k rows)) (hnn : n = j * k + off)
    (ht : tget E.T t = some ti) (hk : Nat.beq (cellsA y).length ti.size = true) (h1 : onesB (cellsA y) = true) (hl : spliceA r off (cellsA y) = some r') (kk : AOps E.toCx N ops rest Q σ (η.set i (.row v e k (rows.set j r')))) :
    AOps E.toCx N ops (⟨none, .store t p x, ty, pos, after, none⟩ :: rest) Q σ η :=
  AOps.opU rfl rfl (opU_storeRow rfl j off hp hnn hx hi hr ht hk h1 hl) kk
def gget : Gl → Nat → Option (List Value)
  | [], _ => none
  | (k, x) :: r, t => match Nat.beq k t with
    | true => some x
    | false => gget r t
theorem gget_mem : ∀ {G : Gl} {t : Nat} {x : List Value}, gget G t = some x → (t, x) ∈ G
  | [], _, _, h => by simp [gget] at h
  | (k, y) :: r, t, x, h => by
    simp only [gget] at h
    cases hb : Nat.beq k t with
    | true => rw [hb] at h; simp only [Option.some.injEq] at h; subst h; rw [Nat.eq_of_beq_eq_true hb]; simp
    | false => rw [hb] at h; exact List.mem_cons_of_mem _ (gget_mem h)
theorem opS_loadG {o : Oper} {t : TypeId} {p : Operand} (ho : o.op = .load t p) {g off : Nat} {vs : List Value} {u : Value} {d : TD} {k b : Nat} {z : List Value} (hp : ev (look σ) p = some (.v (.pointer (some ⟨g, off, none⟩)))) (hg : gget E.G g = some vs) (hu : vs[off]? = some u) (ht : tget E.T t = some ⟨d, k, b, z⟩) (hd : d.agg = false) :
    OpS E.toCx N o σ η (.v u) := fun F a w hs => by
  have h1 := ev_rel hs.sg hp
  simp only [Rel] at h1
  obtain ⟨_, e, fz, hh⟩ := hs.hp.glob _ (gget_mem hg)
  have hb : g < w.heap.size := (Array.getElem?_eq_some_iff.1 hh).1
  refine ⟨u, rel_v _, fun w' hw' => ?_⟩
  have hc : w'.cell? ⟨g, off, none⟩ = some u := cell_of_heap ((hw'.2 g hb).trans hh) off u hu
  have := run_loadVar_cells (P := E.P) (v0 := u) (E.tok _ _ ht) (b := g) (o := off) (vs := [u]) (w' := w')
    (fun j v hj => by cases j with
      | zero => simp at hj; subst hj; simpa using hc
      | succ j => simp at hj) (fun hg' => by simp only at hg'; rw [hd] at hg'; cases hg') (fun _ => rfl)
  simp only at this
  simp [execOp, ho, h1, Instr.loadAt, Instr.sureAddr, this, hd]
theorem Weak.sub {G : Gl} {η' : List Ent} (hsl : η'.Sublist η) : Weak G N σ η σ η' := fun F w a hs => by
  have hids : (ids η').Sublist (ids η) := by
    have : ∀ {l r : List Ent}, l.Sublist r → (ids l).Sublist (ids r) := by
      intro l r h
      induction h with
      | slnil => exact List.Sublist.refl _
      | cons a h ih => rw [ids_cons]; exact ih.trans (List.sublist_append_right _ _)
      | cons_cons a h ih => rw [ids_cons, ids_cons]; exact List.Sublist.append (List.Sublist.refl _) ih
    exact this hsl
  have hsub : ∀ b ∈ ids η', b ∈ ids η := fun b hb => hids.subset hb
  have hkeep : Keeps w (Al F η) w (Al F η') := ⟨Nat.le_refl _, fun b _ h => ⟨⟨h.1, fun hm => h.2 (hsub b hm)⟩, rfl⟩⟩
  exact ⟨⟨hs.sg.keep hkeep, ⟨fun x hx => (hs.hp.ents x (hsl.subset hx)).keep hkeep (fun _ _ => rfl), hids.nodup hs.hp.nodup, fun b hb => hs.hp.free b (hsub b hb), hs.hp.bound, hs.hp.glob.keep hkeep⟩, hs.df⟩, hsub⟩
theorem Weak.trans {G : Gl} {σ' σ'' : Sg} {η' η'' : List Ent} (h : Weak G N σ η σ' η') (g : Weak G N σ' η' σ'' η'') : Weak G N σ η σ'' η'' := fun F w a hs =>
  let ⟨h1, h2⟩ := h F w a hs; let ⟨g1, g2⟩ := g F w a h1; ⟨g1, fun b hb => h2 b (g2 b hb)⟩
theorem AWP.cut {C : Cx} {c : Code} (ts : List Nat) (m : Nat) {σ' : Sg} (h1 : Bw.pick ts σ = some σ') (h : AWP C N c Q σ' (η.take m)) : AWP C N c Q σ η :=
  AWP.weak ((Weak.pick ts h1).trans (Weak.sub (List.take_sublist m η))) h
end
end Go.Bw
