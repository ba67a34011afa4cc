/-
  Own work. The program logic, seventh part: slices of the call's own: literals, make, append; handing them on as unchanging; package-level arrays.
-/
import Derived.Test.YtcngmkedekmkhaaGreatB6
import Derived.Lib.AppendStr
noncomputable section
namespace Go.Bw
open Go
def chunk : Nat → Nat → List AV → List (List AV)
  | 0, _, _ => []
  | n + 1, k, cs => cs.take k :: chunk n k (cs.drop k)
def fillG (k : Nat) (σ : Sl) : List AV → List (Nat × Operand) → Option (List AV)
  | cells, [] => some cells
  | cells, (i, o) :: rest => match ev σ o with
    | some x => match Nat.beq (cellsA x).length k, spliceA cells (i * k) (cellsA x) with
      | true, some cells' => fillG k σ cells' rest
      | _, _ => none
    | none => none
def reps : Nat → List AV → List AV
  | 0, _ => []
  | n + 1, z => z ++ reps n z
section
variable {N : Nat} {Q : AQ} {σ : Sg} {η : List Ent} {ops : Array Oper} {rest : List Oper} {E : Env} {w : World} {A : Nat → Prop} {a : Act}
theorem chunk_rel {k : Nat} : ∀ {n : Nat} {cs : List AV} {vs : List Value}, RelL w A cs vs → cs.length = n * k → RelRows w A k (chunk n k cs) vs
  | 0, cs, vs, h, hl => by simp at hl; subst hl; simp only [RelL] at h; subst h; simp [chunk, RelRows]
  | n + 1, cs, vs, h, hl => by
    simp only [chunk, RelRows]
    refine ⟨vs.take k, vs.drop k, (List.take_append_drop k vs).symm, ?_, h.take k, chunk_rel (h.drop k) ?_⟩
    · rw [List.length_take, hl, Nat.add_mul]; omega
    · rw [List.length_drop, hl, Nat.add_mul]; omega
theorem chunk_length : ∀ (n k : Nat) (cs : List AV), (chunk n k cs).length = n
  | 0, _, _ => rfl
  | n + 1, k, cs => by simp [chunk, chunk_length n k]
theorem fillG_run {k : Nat} {s : Sl} (hs : SlOk w A N a s) :
    ∀ {parts : List (Nat × Operand)} {cells r : List AV} {vs : List Value}, fillG k s cells parts = some r → RelL w A cells vs →
      ∃ us, Instr.fill (fun i => some (i * k, k)) vs.toArray (parts.map fun p => (p.1, a.eval p.2)) = some us ∧ RelL w A r us.toList ∧ r.length = cells.length
  | [], cells, r, vs, h, hr => by simp only [fillG, Option.some.injEq] at h; subst h; exact ⟨vs.toArray, rfl, by simpa using hr, rfl⟩
  | (i, o) :: rest, cells, r, vs, h, hr => by
    simp only [fillG] at h
    split at h
    · rename_i x h2
      split at h
      · rename_i cells' h3 h4
        have hx := ev_rel hs h2
        have hc := cellsA_rel hx
        have hl := spliceA_len h4
        have hk : k = (cellsA x).length := (Nat.eq_of_beq_eq_true h3).symm
        have hlv : (a.eval o).cells.size = k := by have := hc.length; simp at this; omega
        have hlen : i * k + (a.eval o).cells.size ≤ vs.length := by rw [hr.length, hlv, hk]; rw [hk] at hl; exact hl.1
        have hfold := splice_set (a.eval o).cells.toList vs (i * k) 0 (by simpa using hlen)
        simp only [Nat.add_zero] at hfold
        obtain ⟨us, h5, h6, h7⟩ := fillG_run hs h (spliceA_rel h4 hr hc)
        refine ⟨us, ?_, h6, by rw [h7, hl.2]⟩
        simp only [List.map_cons, Instr.fill]
        rw [if_neg (by simp [hlv]; rw [hlv] at hlen; simpa using hlen)]
        rw [← h5]
        congr 1
        apply Array.ext'
        rw [← hfold]
        have hz := Array.foldl_toList (f := fun (cs : Array Value) (x : Value × Nat) => cs.setIfInBounds (i * k + x.2) x.1) (init := vs.toArray) (xs := (a.eval o).cells.zipIdx)
        rw [Array.toList_zipIdx] at hz
        rw [hz]
      · cases h
    · cases h
theorem reps_length : ∀ (n : Nat) (z : List AV), (reps n z).length = n * z.length
  | 0, z => by simp [reps]
  | n + 1, z => by simp [reps, reps_length n z, Nat.add_mul, Nat.add_comm]
def repsV : Nat → List Value → List Value
  | 0, _ => []
  | n + 1, z => z ++ repsV n z
theorem repsV_length : ∀ (n : Nat) (z : List Value), (repsV n z).length = n * z.length
  | 0, z => by simp [repsV]
  | n + 1, z => by simp [repsV, repsV_length n z, Nat.add_mul, Nat.add_comm]
theorem reps_rel (z : List Value) : ∀ n, RelL w A (reps n (z.map .v)) (repsV n z)
  | 0 => by simp [reps, repsV, RelL]
  | n + 1 => by simp only [reps, repsV]; exact (relL_map_v z).append (reps_rel z n)
theorem repsV_get (z : List Value) : ∀ (n i : Nat), i < n * z.length → (repsV n z)[i]? = z[i % z.length]?
  | 0, i, h => by simp at h
  | n + 1, i, h => by
    simp only [repsV]
    by_cases hi : i < z.length
    · rw [List.getElem?_append_left hi, Nat.mod_eq_of_lt hi]
    · have hz : 0 < z.length := by rcases Nat.eq_zero_or_pos z.length with h0 | h0; (rw [h0] at h; simp at h); exact h0
      have hle : z.length ≤ i := by omega
      have hlt : i - z.length < n * z.length := by rw [Nat.add_mul, Nat.one_mul] at h; omega
      rw [List.getElem?_append_right hle, repsV_get z n _ hlt, Nat.mod_eq_sub_mod hle]
theorem zeros_eq (z : Array Value) (n : Nat) : ((Array.range (n * z.size)).map (z[· % z.size]!)).toList = repsV n z.toList := by
  apply List.ext_getElem?
  intro i
  by_cases hi : i < n * z.size
  · rw [repsV_get _ _ _ (by simpa using hi)]
    have hz : 0 < z.size := by rcases Nat.eq_zero_or_pos z.size with h0 | h0; (rw [h0] at hi; simp at hi); exact h0
    have hm : i % z.size < z.size := Nat.mod_lt _ hz
    simp [hi, hm, getElem!_pos, Array.length_toList]
  · rw [List.getElem?_eq_none (by simp; omega), List.getElem?_eq_none (by rw [repsV_length]; simpa using hi)]
theorem RelRows.append {k : Nat} : ∀ {r s : List (List AV)} {vs us : List Value}, RelRows w A k r vs → RelRows w A k s us → RelRows w A k (r ++ s) (vs ++ us)
  | [], _, _, _, h, g => by simp only [RelRows] at h; subst h; simpa using g
  | _ :: _, _, _, _, h, g => by simp only [RelRows] at h; obtain ⟨v1, v2, rfl, hk, h1, h2⟩ := h; simp only [List.cons_append, RelRows]; exact ⟨v1, _, by simp, hk, h1, RelRows.append h2 g⟩
theorem lit_core {d : Option Nat} {t : TypeId} {n : Nat} {parts : Array (Nat × Operand)} {ty : TypeId} {pos : String} {after : Array Edge} {gd : Option (Nat × Bool)} {e k sz by' sz' by'' : Nat} {z z' : List Value} {td' : TD} {cells : List AV} {F : Nat → Prop}
    (ht : tget E.T t = some ⟨.slice e k, sz, by', z⟩) (hte : tget E.T e = some ⟨td', sz', by'', z'⟩) (hf : fillG k (look σ) (reps n (z'.map .v)) parts.toList = some cells) (hb : Nat.ble (n * k) 16777216 = true) (hk : Nat.ble 1 k = true) (hs : St E.G N w F a σ η) :
    ∃ us : Array Value, (execOp a.eval ⟨d, .buildSlice t n parts, ty, pos, after, gd⟩).run E.P w = .ok (.value (.slice (some ⟨w.heap.size, 0, none⟩) n n)) (w.alloc (.cells us e)) ∧ RelRows w (Al F η) k (chunk n k cells) us.toList ∧ us.size = n * k := by
  obtain ⟨hu, hke, hh⟩ := tiB_slice (E.tok _ _ ht) rfl
  obtain ⟨_, ti, _, hi, _, hsz, _, zv, hz1, hz2⟩ := tiB_spec (E.tok _ _ hte)
  have hb := Nat.le_of_ble_eq_true hb
  have hk := Nat.le_of_ble_eq_true hk
  have hzs : zv.cells.size = z'.length := by have := congrArg List.length hz2; simpa using this
  have hzl := tiB_zlen (E.tok _ _ hte)
  have hsize : ti.size = k := by rw [hke]; simp [sizeB, hi]
  obtain ⟨us, h5, h6, h7⟩ := fillG_run (a := a) hs.sg hf (reps_rel z' n)
  have hlen : cells.length = n * z'.length := by rw [h7, reps_length]; simp
  have hzk : z'.length = k := by simp only at hzl hsz; omega
  have hck : cells.length = n * k := by rw [hlen, hzk]
  refine ⟨us, ?_, chunk_rel h6 hck, by have := h6.length; simp at this; rw [this, hck]⟩
  have hpl : (parts.map fun (x : Nat × Operand) => (x.1, a.eval x.2)).toList = parts.toList.map fun p => (p.1, a.eval p.2) := by simp
  have hsz' : ∀ w', (sizeOf e).run E.P w' = .ok k w' := fun w' => by rw [hasB_size hh, hke]
  have hz0 : ∀ w', (zeroValue e).run E.P w' = .ok zv w' := fun w' => by simp [zeroValue, typeInfo, hi, hz1]
  have hnb : ¬ n * k > 2 ^ 24 := by omega
  have hcells : (Array.range (n * k)).map (zv.cells[· % zv.cells.size]!) = (repsV n z').toArray := by
    apply Array.ext'
    have := zeros_eq zv.cells n
    rw [hzs, hzk, hz2] at this
    simpa [hzs, hzk] using this
  by_cases h0 : n * k = 0
  · have hn0 : n = 0 := by
      rcases Nat.mul_eq_zero.1 h0 with h | h
      · exact h
      · omega
    subst hn0
    simp only [execOp, Instr.buildSlice, Sem.run_bind, run_underlying hu, Result.andThen_ok, hsz', Sem.run_ite, if_neg hnb, Sem.run_pure, hpl]
    simp only [Nat.zero_mul, if_true, Array.range_zero', Array.map_empty]
    simp only [repsV] at h5
    rw [h5]
    simp [newRow]
  · simp only [execOp, Instr.buildSlice, Sem.run_bind, run_underlying hu, Result.andThen_ok, hsz', Sem.run_ite, if_neg hnb, Sem.run_pure, hpl, if_neg h0, hz0, hcells, h5]
    simp [newRow]
theorem AOps.lit {d : Nat} {t : TypeId} {n : Nat} {parts : Array (Nat × Operand)} {ty : TypeId} {pos : String} {after : Array Edge} {e k sz by' sz' by'' : Nat} {z z' : List Value} {td' : TD} {cells : List AV}
    (ht : tget E.T t = some ⟨.slice e k, sz, by', z⟩) (hte : tget E.T e = some ⟨td', sz', by'', z'⟩) (hf : fillG k (look σ) (reps n (z'.map .v)) parts.toList = some cells) (hb : Nat.ble (n * k) 16777216 = true) (hk : Nat.ble 1 k = true) (hd : Nat.blt d N = true)
    (kk : ∀ b, AOps E.toCx N ops rest Q ((d, .os η.length (some ⟨b, 0, none⟩) n n) :: σ) (η ++ [.row (.slice (some ⟨b, 0, none⟩) n n) e k (chunk n k cells)])) : AOps E.toCx N ops (⟨some d, .buildSlice t n parts, ty, pos, after, none⟩ :: rest) Q σ η :=
  AOps.opR (R := fun x η' => ∃ b, x = .os η.length (some ⟨b, 0, none⟩) n n ∧ η' = η ++ [.row (.slice (some ⟨b, 0, none⟩) n n) e k (chunk n k cells)]) rfl hd (fun F a w hs => by
    obtain ⟨us, h1, h2, h3⟩ := lit_core (d := some d) (ty := ty) (pos := pos) (after := after) (gd := none) ht hte hf hb hk hs
    have hb := Nat.le_of_ble_eq_true hb
    have hk := Nat.le_of_ble_eq_true hk
    refine ⟨.slice (some ⟨w.heap.size, 0, none⟩) n n, w.alloc (.cells us e), _, _, ⟨w.heap.size, rfl, rfl⟩, h1, by simp only [Rel], ?_, ext_alloc w _ η _ (by simp [Ent.ids, Value.ownBlock])⟩
    refine hs.hp.push (by simp) (fun b hb => alloc_later w _ b hb) (by simp [Ent.ids, Value.ownBlock]) (by simp [Ent.ids, Value.ownBlock]) ?_
    have hext := ext_alloc w (.cells us e) η (.row (.slice (some ⟨w.heap.size, 0, none⟩) n n) e k (chunk n k cells)) (by simp [Ent.ids, Value.ownBlock])
    refine ⟨us.toList, h2.keep hext.keeps, ?_, .inr ⟨w.heap.size, n, us, by rw [chunk_length], Nat.zero_le _, alloc_new w _, by rw [chunk_length]; exact Nat.le_refl _, ?_, h3, ?_⟩⟩
    · rw [chunk_length]; simpa using h3
    · have : n ≤ n * k := Nat.le_mul_of_pos_right n hk
      simp only [maxLen]; omega
    · rw [chunk_length, ← h3, ← Array.length_toList, List.take_length])
    (fun _ _ ⟨b, h1, h2⟩ => by subst h1; subst h2; exact kk b)
theorem Weak.nilRow {G : Gl} (t : Nat) (e : TypeId) (k : Nat) (ht : look σ t = some (.v (.slice none 0 0))) : Weak G N σ η ((t, .os η.length none 0 0) :: σ) (η ++ [.row (.slice none 0 0) e k []]) := fun F w a hs => by
  have hkeep : Keeps w (Al F η) w (Al F (η ++ [Ent.row (.slice none 0 0) e k []])) := ⟨Nat.le_refl _, fun b _ ha => ⟨by simpa [Al, ids_append, ids_cons, Ent.ids, Value.ownBlock, ids] using ha, rfl⟩⟩
  refine ⟨⟨⟨hs.sg.1, fun s x hx => ?_⟩, ?_, hs.df⟩, fun b hb => ?_⟩
  · simp only [look] at hx
    cases hb : Nat.beq t s with
    | true =>
      rw [hb] at hx; simp only [Option.some.injEq] at hx; subst hx
      rw [← Nat.eq_of_beq_eq_true hb]
      have := hs.sg.2 t _ ht
      simp only [Rel] at this ⊢
      exact this
    | false => rw [hb] at hx; exact ⟨(hs.sg.2 s x hx).1, (hs.sg.2 s x hx).2.keep hkeep⟩
  · refine hs.hp.push (Nat.le_refl _) (fun _ _ => rfl) (by simp [Ent.ids, Value.ownBlock]) (by simp [Ent.ids, Value.ownBlock]) ?_
    exact ⟨[], by simp [RelRows], by simp, .inl ⟨rfl, rfl⟩⟩
  · simpa [ids_append, ids_cons, Ent.ids, Value.ownBlock, ids] using hb
theorem AWP.nilRow {C : Cx} {c : Code} (t : Nat) (e : TypeId) (k : Nat) (ht : look σ t = some (.v (.slice none 0 0))) (h : AWP C N c Q ((t, .os η.length none 0 0) :: σ) (η ++ [.row (.slice none 0 0) e k []])) : AWP C N c Q σ η := AWP.weak (Weak.nilRow t e k ht) h
theorem AOps.nilRow {C : Cx} (t : Nat) (e : TypeId) (k : Nat) (ht : look σ t = some (.v (.slice none 0 0))) (h : AOps C N ops rest Q ((t, .os η.length none 0 0) :: σ) (η ++ [.row (.slice none 0 0) e k []])) : AOps C N ops rest Q σ η := AOps.weak (Weak.nilRow t e k ht) h
def SrcOk (w : World) (A : Nat → Prop) (k : Nat) (y : Value) (rows : List (List AV)) : Prop :=
  ∃ ad m c vs, y = .slice ad m c ∧ rows.length = m ∧ RelRows w A k rows vs ∧ (ad = none → m = 0) ∧ ∀ a0, ad = some a0 → ∀ j u, vs[j]? = some u → w.cell? (a0.add j) = some u
theorem SrcOk.sl {k : Nat} {rows : List (List AV)} {y : Value} (h : Rel w A (.sl k rows) y) : SrcOk w A k y rows := by
  simp only [Rel] at h
  rcases h with ⟨rfl, a0, cap, rfl⟩ | ⟨b, o, cap, vs, rfl, _, _, _, h5, h6⟩
  · exact ⟨a0, 0, cap, [], rfl, rfl, by simp [RelRows], fun _ => rfl, fun _ _ j u hj => by simp at hj⟩
  · refine ⟨some ⟨b, o, none⟩, rows.length, cap, vs, rfl, rfl, h5, ?_, ?_⟩
    · intro h; cases h
    · intro a0 h j u hj; cases h; rw [Addr.add_lit]; exact h6 j u hj
theorem SrcOk.row {k : Nat} {e : TypeId} {rows : List (List AV)} {y : Value} (h : Ent.ok w A (.row y e k rows)) : SrcOk w A k y rows := by
  obtain ⟨vs, h1, h2, h3⟩ := h
  rcases h3 with ⟨rfl, h4⟩ | ⟨g, cap, cur, rfl, _, hg, hn, _, hs, ht⟩
  · refine ⟨none, 0, 0, vs, rfl, h4, h1, fun _ => rfl, ?_⟩
    intro a0 h; cases h
  · refine ⟨some ⟨g, 0, none⟩, rows.length, cap, vs, rfl, rfl, h1, ?_, ?_⟩
    · intro h; cases h
    intro a0 h j u hj
    cases h
    rw [Addr.add_lit, Nat.zero_add]
    rw [← ht, List.getElem?_take] at hj
    split at hj
    · simp [World.cell?, hg]; simpa using hj
    · cases hj
def rowsOnes : List (List AV) → Bool
  | [] => true
  | r :: rs => onesB r && rowsOnes rs
theorem rowsOnes_one {k : Nat} : ∀ {rows : List (List AV)} {vs : List Value}, rowsOnes rows = true → RelRows w A k rows vs → ∀ u ∈ vs, u.oneCell' = true
  | [], _, _, h, u, hu => by simp only [RelRows] at h; subst h; cases hu
  | r :: rs, _, ho, h, u, hu => by
    simp only [RelRows] at h
    obtain ⟨v1, v2, rfl, _, h1, h2⟩ := h
    simp only [rowsOnes, Bool.and_eq_true] at ho
    rcases List.mem_append.1 hu with hu | hu
    · exact onesB_one ho.1 h1 u hu
    · exact rowsOnes_one ho.2 h2 u hu
theorem append_own' {P : Program} {t ty e : TypeId} {i : TypeInfo} {z : Value} {size bytes : Nat} (ht : P.underlying t = some (.slice e)) (hi : P.info? e = some i) (hz : i.zero = some z)
    (hsize : i.size = size) (hby : i.bytes = bytes) (hzs : z.cells.size = size) (hsz : 1 ≤ size) {v : Value} {n : Nat} {xs : List Value} (hown : w.ownsRow 0 e size v n xs)
    {ad : Addr} {m c : Nat} {news : List Value} (hl : news.length = m * size) (hnews : ∀ j u, news[j]? = some u → w.cell? (ad.add j) = some u) (h1 : ∀ u ∈ news, u.oneCell' = true)
    (h63 : n + m ≤ maxLen) (hbytes : (n + m) * bytes ≤ 140737488355328) :
    ∃ v' w', (Builtin.append_ #[t, t] ty #[v, .slice (some ad) m c]).run P w = .ok v' w' ∧ w'.ownsRow 0 e size v' (n + m) (xs ++ news) ∧ w.grownBy w' v.ownBlock ∧ ∀ b, v'.ownBlock = some b → v.ownBlock = some b ∨ w.heap.size ≤ b := by
  obtain ⟨v', w', g1, g2, g3, _⟩ := run_append_own (P := P) w 0 t ty e i z size bytes ht hi hz hsize hby hzs hsz v n xs hown ad m c news hl hnews h1 h63 hbytes (Nat.zero_le _)
  refine ⟨v', w', g1, g2, g3, fun b hb => ?_⟩
  subst hsize
  subst hby
  rcases hown.2 with ⟨rfl, rfl⟩ | ⟨g, cap, cur, rfl, _, hg, hn, hcm, hcs, htake⟩
  · have hx : xs = [] := List.eq_nil_of_length_eq_zero (by simpa using hown.1)
    subst hx
    obtain ⟨v2, w2, k1, k2, _⟩ := run_append_own (P := P) w w.heap.size t ty e i z i.size i.bytes ht hi hz rfl rfl hzs hsz (.slice none 0 0) 0 [] (World.ownsRow_nil w _ e _) ad m c news hl hnews h1 h63 hbytes (Nat.le_refl _)
    rw [g1] at k1
    injection k1 with e1 e2
    subst e1
    exact .inr (k2.lt b hb).1
  · by_cases hroom : n + m ≤ cap
    · have hfit : n * i.size + news.length ≤ cur.size := by rw [hl, hcs, ← Nat.add_mul]; exact Nat.mul_le_mul_right _ hroom
      have hr := run_append_room (P := P) w t ty e i ht hi g n cap cur hg ad m c news hl hnews h1 hroom hfit
      rw [g1] at hr
      injection hr with e1 e2
      subst e1
      exact .inl hb
    · have hr := run_append_grow (P := P) w t ty e i z ht hi hz ⟨g, 0, none⟩ n cap xs hown.1 (hown.cells (g := g) rfl) ad m c news hl hnews (by omega) (by simp only [maxLen] at h63; omega) (growslice_fits (by omega) hbytes)
      rw [g1] at hr
      injection hr with e1 e2
      subst e1
      simp only [Value.ownBlock, Option.some.injEq] at hb
      exact .inr (by omega)
theorem opR_append {tg : Nat} {o : Oper} {s x : Operand} {t : TypeId} (ho : o.op = .call { callee := .builtin .append, args := #[s, x], argTypes := #[t, t] }) {i : Nat} {a0 : Option Addr} {n0 c0 : Nat} {e k sz by' sz' by'' : Nat} {z z' : List Value} {td' : TD} {rows rows2 : List (List AV)}
    (ht : tget E.T t = some ⟨.slice e k, sz, by', z⟩) (hte : tget E.T e = some ⟨td', sz', by'', z'⟩) (hs' : ev (look σ) s = some (.os tg a0 n0 c0)) (hi : nth η i = some (.row (.slice a0 n0 c0) e k rows))
    (hsrc : ∀ F a w, St E.G N w F a σ η → SrcOk w (Al F η) k (a.eval x) rows2) (h1 : rowsOnes rows2 = true) (hk : Nat.ble 1 k = true) (hby : Nat.ble 1 by'' = true) (hb : (rows ++ rows2).length * by'' ≤ 140737488355328) :
    OpR E.toCx N o σ η (fun r η' => ∃ a c, (rows2 = [] → a = a0 ∧ c = c0) ∧ r = .os i a (rows ++ rows2).length c ∧ η' = η.set i (.row (.slice a (rows ++ rows2).length c) e k (rows ++ rows2))) := fun F a w hs => by
  obtain ⟨v, hvd⟩ : ∃ v, v = Value.slice a0 n0 c0 := ⟨_, rfl⟩
  rw [← hvd] at hi
  have hv := ev_rel hs.sg hs'
  simp only [Rel] at hv
  rw [← hvd] at hv
  obtain ⟨hu, hke, hh⟩ := tiB_slice (E.tok _ _ ht) rfl
  obtain ⟨_, ti, _, hti, _, hsz, hbb, zv, hz1, hz2⟩ := tiB_spec (E.tok _ _ hte)
  have hzl := tiB_zlen (E.tok _ _ hte)
  simp only at hsz hbb hz2 hzl
  have hsize : ti.size = k := by rw [hke]; simp [sizeB, hti]
  have hzs : zv.cells.size = k := by have := congrArg List.length hz2; simp at this; omega
  have hk := Nat.le_of_ble_eq_true hk
  have hby := Nat.le_of_ble_eq_true hby
  obtain ⟨l, r, rfl, hset⟩ := nth_split hi
  simp only [hset]
  obtain ⟨vs, h3, h4⟩ := hs.hp.ents (.row v e k rows) (by simp)
  obtain ⟨ad, m, c, vs2, h5, h6, h7, h8, h9⟩ := hsrc F a w hs
  have hlen : (rows ++ rows2).length = rows.length + m := by simp [h6]
  have h63 : rows.length + m ≤ maxLen := by
    have : (rows.length + m) ≤ (rows ++ rows2).length * by'' := by rw [hlen]; exact Nat.le_mul_of_pos_right _ hby
    simp only [maxLen]; omega
  have hbytes : (rows.length + m) * by'' ≤ 140737488355328 := by rw [← hlen]; exact hb
  -- the run
  have hrun : ∃ v' w', (Builtin.append_ #[t, t] o.type #[v, a.eval x]).run E.P w = .ok v' w' ∧ w'.ownsRow 0 e k v' (rows.length + m) (vs ++ vs2) ∧ w.grownBy w' v.ownBlock ∧ (∀ b, v'.ownBlock = some b → v.ownBlock = some b ∨ w.heap.size ≤ b) ∧ (m = 0 → v' = v) := by
    rw [h5]
    by_cases hm : m = 0
    · subst hm
      have hvs2 : vs2 = [] := List.eq_nil_of_length_eq_zero (by rw [h7.length, h6]; simp)
      subst hvs2
      refine ⟨v, w, ?_, by simpa using h4, ⟨rfl, rfl, rfl, Nat.le_refl _, fun _ _ _ => rfl⟩, fun b hb => .inl hb, fun _ => rfl⟩
      have hl0 : ∀ ad, (loadCells ad 0).run E.P w = .ok #[] w := fun ad => by have := run_loadCells_list (P := E.P) w ad [] (by simp); simpa using this
      rcases h4.2 with ⟨hvn, h0⟩ | ⟨g, cap, cur, hvg, _, hg, hn, _⟩
      · subst hvn
        cases ad <;> simp [Builtin.append_, run_underlying hu, sizeOf, typeInfo, hti, Builtin.lenOf, Builtin.firstCells, hl0]
      · subst hvg
        cases ad <;> simp [Builtin.append_, run_underlying hu, sizeOf, typeInfo, hti, Builtin.lenOf, Builtin.firstCells, hn, storeCells, hl0]
    · cases ad with
      | some a0 =>
        obtain ⟨v', w', q1, q2, q3, q4⟩ := append_own' (P := E.P) (ty := o.type) (c := c) hu hti hz1 hsize hbb hzs hk h4 (by rw [h7.length, h6]) (fun j u hj => h9 a0 rfl j u hj) (rowsOnes_one h1 h7) h63 hbytes
        exact ⟨v', w', q1, q2, q3, q4, fun h => absurd h hm⟩
      | none => exact absurd (h8 rfl) hm
  obtain ⟨v', w', g1, g2, g3, g4, g5⟩ := hrun
  obtain ⟨aa, cc, hv'⟩ : ∃ aa cc, v' = .slice aa (rows.length + m) cc := by
    rcases g2.2 with ⟨rfl, h0⟩ | ⟨g, cap, cur, rfl, _⟩
    · exact ⟨none, 0, by rw [h0]⟩
    · exact ⟨_, _, rfl⟩
  have hids : ∀ b ∈ Ent.ids (.row v' e k (rows ++ rows2)), b ∈ Ent.ids (.row v e k rows) ∨ w.heap.size ≤ b := fun b hb => by
    simp only [Ent.ids, Option.mem_toList] at hb ⊢
    exact g4 b hb
  have hext : Ext (l ++ Ent.row v e k rows :: r) w (l ++ Ent.row v' e k (rows ++ rows2) :: r) w' := by
    refine ⟨g3.os, g3.tape, g3.output, g3.size, fun b hb hn => g3.block b hb (fun hh => hn ?_), fun b hb => ?_⟩
    · simp [ids_append, ids_cons, Ent.ids, ← hh]
    · simp only [ids_append, ids_cons, List.mem_append] at hb ⊢
      rcases hb with hb | hb | hb
      · exact .inl (.inl hb)
      · exact (hids b hb).elim (fun h => .inl (.inr (.inl h))) .inr
      · exact .inl (.inr (.inr hb))
  refine ⟨v', w', _, _, ⟨aa, cc, fun h0 => ?_, rfl, rfl⟩, ?_, by simp only [Rel]; rw [hv', hlen], ?_, by rw [hlen, ← hv']; exact hext⟩
  · have hm : m = 0 := by rw [← h6, h0]; rfl
    have h10 := g5 hm
    rw [hv', hvd] at h10
    simp only [Value.slice.injEq] at h10
    exact ⟨h10.1, h10.2.2⟩
  · simp only [execOp, ho, resolve, invoke, builtin, Sem.run_bind, Sem.run_pure, Result.andThen_ok, List.map_toArray, List.map_cons, List.map_nil, hv, g1]
  · rw [hlen, ← hv']
    refine hs.hp.upd g3.size (fun b hb hn => g3.block b hb (fun hh => hn (by simp [Ent.ids, ← hh]))) hids (by cases hob : v'.ownBlock <;> simp [Ent.ids, hob]) ?_
    exact ⟨vs ++ vs2, (h3.keep hext.keeps).append (h7.keep hext.keeps), by rw [hlen]; exact g2⟩
theorem RelRows.sub {A' : Nat → Prop} {k : Nat} (h : ∀ b, A b → A' b) {rows : List (List AV)} {vs : List Value} (hr : RelRows w A k rows vs) : RelRows w A' k rows vs :=
  RelRows.keep ⟨Nat.le_refl _, fun b _ ha => ⟨h b ha, rfl⟩⟩ hr
theorem Weak.drop {G : Gl} (i : Nat) {x : Ent} (hi : nth η i = some x) : Weak G N σ η σ (η.set i .gone) := fun F w a hs => by
  obtain ⟨l, r, rfl, hset⟩ := nth_split hi
  rw [hset]
  have hsub : ∀ b ∈ ids (l ++ Ent.gone :: r), b ∈ ids (l ++ x :: r) := fun b hb => by
    simp only [ids_append, ids_cons, Ent.ids, List.mem_append, List.nil_append] at hb ⊢
    rcases hb with hb | hb
    · exact .inl hb
    · exact .inr (.inr hb)
  have hkeep : Keeps w (Al F (l ++ x :: r)) w (Al F (l ++ Ent.gone :: r)) := ⟨Nat.le_refl _, fun b _ h => ⟨⟨h.1, fun hm => h.2 (hsub b hm)⟩, rfl⟩⟩
  exact ⟨⟨hs.sg.keep hkeep, hs.hp.upd (Nat.le_refl _) (fun _ _ _ => rfl) (by simp [Ent.ids]) (by simp [Ent.ids]) trivial, hs.df⟩, hsub⟩
theorem AWP.drop {C : Cx} {c : Code} (i : Nat) {x : Ent} (hi : nth η i = some x) (h : AWP C N c Q σ (η.set i .gone)) : AWP C N c Q σ η := AWP.weak (Weak.drop i hi) h
theorem AOps.drop {C : Cx} (i : Nat) {x : Ent} (hi : nth η i = some x) (h : AOps C N ops rest Q σ (η.set i .gone)) : AOps C N ops rest Q σ η := AOps.weak (Weak.drop i hi) h
def bytesR (s : ByteArray) : List (List AV) := s.data.toList.map fun b => [AV.v (.int .u8 b.toNat)]
theorem bytesR_rel {w : World} {A : Nat → Prop} (s : ByteArray) : RelRows w A 1 (bytesR s) (Lib.strCells s) := by
  unfold bytesR Lib.strCells
  induction s.data.toList with
  | nil => simp [RelRows]
  | cons b l ih => simp only [List.map_cons, RelRows]; exact ⟨[.int .u8 b.toNat], _, rfl, rfl, by simp [RelL, Rel], ih⟩
theorem bytesR_len (s : ByteArray) : (bytesR s).length = s.size := by unfold bytesR; rw [List.length_map]; cases s; rfl
theorem append_own_str {P : Program} {w : World} {t u ty e : TypeId} {i : TypeInfo} {z : Value} (ht : P.underlying t = some (.slice e)) (hu : P.underlying u = some .string) (hi : P.info? e = some i) (hz : i.zero = some z)
    (hsize : i.size = 1) (hby : i.bytes = 1) (hz1 : z.cells.size = 1) {v : Value} {n : Nat} {xs : List Value} (hown : w.ownsRow 0 e 1 v n xs) (s : ByteArray) (hbytes : n + s.size ≤ 140737488355328) :
    ∃ v' w', (Builtin.append_ #[t, u] ty #[v, .string s]).run P w = .ok v' w' ∧ w'.ownsRow 0 e 1 v' (n + s.size) (xs ++ Lib.strCells s) ∧ w.grownBy w' v.ownBlock ∧ (∀ b, v'.ownBlock = some b → v.ownBlock = some b ∨ w.heap.size ≤ b) ∧ (s.size = 0 → v' = v) := by
  have hxl : xs.length = n := by simpa using hown.1
  have hlen : (xs ++ Lib.strCells s).length = (n + s.size) * 1 := by rw [List.length_append, hxl, Lib.strCells_length, Nat.mul_one]
  have grown : ∀ (old : Nat), old < n + s.size → ∀ (row : Option Nat),
      (w.drew.alloc (.cells (xs.toArray ++ (Lib.strCells s).toArray ++ Builtin.zeroCells z.cells (grownCap w (n + s.size) old e - (n + s.size))) e)).ownsRow 0 e 1
        (.slice (some ⟨w.heap.size, 0, none⟩) (n + s.size) (grownCap w (n + s.size) old e)) (n + s.size) (xs ++ Lib.strCells s) ∧
      w.grownBy (w.drew.alloc (.cells (xs.toArray ++ (Lib.strCells s).toArray ++ Builtin.zeroCells z.cells (grownCap w (n + s.size) old e - (n + s.size))) e)) row := by
    intro old ho row
    have hge := grownCap_ge w (n + s.size) old e
    have hcm : grownCap w (n + s.size) old e ≤ maxLen := grownCap_le_maxLen w (n + s.size) old e (by simp only [maxLen]; omega)
    refine ⟨⟨hlen, .inr ⟨w.heap.size, _, _, rfl, Nat.zero_le _, heap_alloc_new w.drew _, hge, hcm, ?_, ?_⟩⟩, ⟨rfl, rfl, rfl, by simp, fun k hk _ => heap_alloc_old w.drew _ hk⟩⟩
    · simp only [Array.size_append, List.size_toArray, size_zeroCells, hz1, hxl, Lib.strCells_length]
      omega
    · simp only [Array.toList_append, List.append_assoc]
      rw [← List.append_assoc, ← hlen]
      exact List.take_left
  rcases hown.2 with ⟨rfl, rfl⟩ | ⟨g, cap, cur, rfl, hbg, hg, hnc, hcm, hcs, htake⟩
  · have hx : xs = [] := List.eq_nil_of_length_eq_zero hxl
    subst hx
    by_cases hm : s.size = 0
    · have hn : Lib.strCells s = [] := List.eq_nil_of_length_eq_zero (by rw [Lib.strCells_length]; exact hm)
      refine ⟨.slice none 0 0, w, ?_, by rw [hm, hn]; exact World.ownsRow_nil w 0 e 1, ⟨rfl, rfl, rfl, Nat.le_refl _, fun _ _ _ => rfl⟩, fun b hb => .inl hb, fun _ => rfl⟩
      have hf := Lib.run_firstCells_string (P := P) w 1 s
      rw [hm] at hf
      simp [Builtin.append_, run_underlying ht, run_underlying hu, sizeOf, typeInfo, hi, hsize, Builtin.lenOf, hm, hf]
    · have hr := run_append_nil_string (P := P) w t u ty e i z ht hu hi hz s (by omega) (by omega) (by rw [hby]; omega)
      have hgr := grown 0 (by omega) (Value.ownBlock (.slice none 0 0))
      simp only [Nat.zero_add, List.nil_append, Array.empty_append] at hgr ⊢
      have e1 : (s.data.map fun b => Value.int .u8 b.toNat) = (Lib.strCells s).toArray := by
        apply Array.ext'
        simp [Lib.strCells]
      rw [e1] at hr
      exact ⟨_, _, hr, hgr.1, hgr.2, fun b hb => .inr (by simp only [Value.ownBlock, Option.some.injEq] at hb; omega), fun h => absurd h hm⟩
  · by_cases hroom : n + s.size ≤ cap
    · have hcs' : cur.size = cap := by simpa using hcs
      have hr := Lib.run_append_room_string (P := P) w t u ty e i ht hu hi hsize g n cap cur hg s hroom (by omega)
      refine ⟨_, _, hr, ⟨hlen, .inr ⟨g, cap, _, rfl, hbg, setRow_heap w g cur _ e _ hg, hroom, hcm, ?_, ?_⟩⟩, ⟨rfl, rfl, rfl, by simp, fun k _ hk => setRow_other w g k _ (fun e => hk (by simp [Value.ownBlock, e]))⟩, fun b hb => .inl hb, fun h => by rw [h]; rfl⟩
      · simp only [List.size_toArray, List.length_append, List.length_take, List.length_drop, Array.length_toList, Lib.strCells_length]
        omega
      · have ht' : cur.toList.take n = xs := by simpa using htake
        rw [ht', ← hlen]
        exact List.take_left
    · have holds : ∀ j u, xs[j]? = some u → w.cell? ((⟨g, 0, none⟩ : Addr).add j) = some u := hown.cells (g := g) rfl
      have hr := Lib.run_append_grow_string (P := P) w t u ty e i z ht hu hi hz ⟨g, 0, none⟩ n cap xs (by rw [hsize]; simpa using hxl) holds s (by omega) (by omega) (by rw [hby]; exact growslice_fits (by omega) (by omega))
      have hgr := grown cap (by omega) (Value.ownBlock (.slice (some ⟨g, 0, none⟩) n cap))
      exact ⟨_, _, hr, hgr.1, hgr.2, fun b hb => .inr (by simp only [Value.ownBlock, Option.some.injEq] at hb; omega), fun h => by omega⟩
theorem opR_appendS {tg : Nat} {o : Oper} {s x : Operand} {t u : TypeId} (ho : o.op = .call { callee := .builtin .append, args := #[s, x], argTypes := #[t, u] }) {i : Nat} {a0 : Option Addr} {n0 c0 : Nat} {e k sz by' sz' by'' szu byu : Nat} {z z' zu : List Value} {td' : TD} {rows : List (List AV)} {b : ByteArray}
    (ht : tget E.T t = some ⟨.slice e k, sz, by', z⟩) (hu : tget E.T u = some ⟨.str, szu, byu, zu⟩) (hte : tget E.T e = some ⟨td', sz', by'', z'⟩) (hs' : ev (look σ) s = some (.os tg a0 n0 c0)) (hi : nth η i = some (.row (.slice a0 n0 c0) e k rows))
    (hx : ev (look σ) x = some (.v (.string b))) (hk : Nat.beq k 1 = true) (hby : Nat.beq by'' 1 = true) (hb : (rows ++ bytesR b).length * by'' ≤ 140737488355328) :
    OpR E.toCx N o σ η (fun r η' => ∃ a c, (bytesR b = [] → a = a0 ∧ c = c0) ∧ r = .os i a (rows ++ bytesR b).length c ∧ η' = η.set i (.row (.slice a (rows ++ bytesR b).length c) e k (rows ++ bytesR b))) := fun F a w hs => by
  obtain ⟨v, hvd⟩ : ∃ v, v = Value.slice a0 n0 c0 := ⟨_, rfl⟩
  rw [← hvd] at hi
  have hv := ev_rel hs.sg hs'
  simp only [Rel] at hv
  rw [← hvd] at hv
  have hxv := ev_rel hs.sg hx
  simp only [Rel] at hxv
  obtain ⟨hut, hke, hh⟩ := tiB_slice (E.tok _ _ ht) rfl
  obtain ⟨uu, _, huu, _, hud, _⟩ := tiB_spec (E.tok _ _ hu)
  have huu' : E.P.underlying u = some .string := by
    rw [huu]
    cases uu <;> simp [tdB] at hud ⊢
  obtain ⟨_, ti, _, hti, _, hsz, hbb, zv, hz1, hz2⟩ := tiB_spec (E.tok _ _ hte)
  have hzl := tiB_zlen (E.tok _ _ hte)
  simp only at hsz hbb hz2 hzl
  have hk := Nat.eq_of_beq_eq_true hk
  have hby := Nat.eq_of_beq_eq_true hby
  have hsize : ti.size = k := by rw [hke]; simp [sizeB, hti]
  have hzs : zv.cells.size = k := by have := congrArg List.length hz2; simp at this; omega
  subst hk; subst hby
  obtain ⟨l, r, rfl, hset⟩ := nth_split hi
  simp only [hset]
  obtain ⟨vs, h3, h4⟩ := hs.hp.ents (.row v e 1 rows) (by simp)
  have hlen : (rows ++ bytesR b).length = rows.length + b.size := by simp [bytesR_len]
  obtain ⟨v', w', g1, g2, g3, g4, g5⟩ := append_own_str (P := E.P) (ty := o.type) hut huu' hti hz1 hsize hbb hzs h4 b (by rw [← hlen]; omega)
  obtain ⟨aa, cc, hv'⟩ : ∃ aa cc, v' = .slice aa (rows.length + b.size) cc := by
    rcases g2.2 with ⟨rfl, h0⟩ | ⟨g, cap, cur, rfl, _⟩
    · exact ⟨none, 0, by rw [h0]⟩
    · exact ⟨_, _, rfl⟩
  have hids : ∀ c ∈ Ent.ids (.row v' e 1 (rows ++ bytesR b)), c ∈ Ent.ids (.row v e 1 rows) ∨ w.heap.size ≤ c := fun c hc => by
    simp only [Ent.ids, Option.mem_toList] at hc ⊢
    exact g4 c hc
  have hext : Ext (l ++ Ent.row v e 1 rows :: r) w (l ++ Ent.row v' e 1 (rows ++ bytesR b) :: r) w' := by
    refine ⟨g3.os, g3.tape, g3.output, g3.size, fun c hc hn => g3.block c hc (fun hh => hn ?_), fun c hc => ?_⟩
    · simp [ids_append, ids_cons, Ent.ids, ← hh]
    · simp only [ids_append, ids_cons, List.mem_append] at hc ⊢
      rcases hc with hc | hc | hc
      · exact .inl (.inl hc)
      · exact (hids c hc).elim (fun h => .inl (.inr (.inl h))) .inr
      · exact .inl (.inr (.inr hc))
  refine ⟨v', w', _, _, ⟨aa, cc, fun h0 => ?_, rfl, rfl⟩, ?_, by simp only [Rel]; rw [hv', hlen], ?_, by rw [hlen, ← hv']; exact hext⟩
  · have hm : b.size = 0 := by rw [← bytesR_len, h0]; rfl
    have h10 := g5 hm
    rw [hv', hvd] at h10
    simp only [Value.slice.injEq] at h10
    exact ⟨h10.1, h10.2.2⟩
  · simp only [execOp, ho, resolve, invoke, builtin, Sem.run_bind, Sem.run_pure, Result.andThen_ok, List.map_toArray, List.map_cons, List.map_nil, hv, hxv, g1]
  · rw [hlen, ← hv']
    refine hs.hp.upd g3.size (fun c hc hn => g3.block c hc (fun hh => hn (by simp [Ent.ids, ← hh]))) hids (by cases hob : v'.ownBlock <;> simp [Ent.ids, hob]) ?_
    exact ⟨vs ++ Lib.strCells b, (h3.keep hext.keeps).append (bytesR_rel b), by rw [hlen]; exact g2⟩
end
end Go.Bw
