/-
  Own work. The program logic, sixth part: stores, slices, appends, loops.
-/
import Derived.Test.YtcngmkedekmkhaaGreatB5
noncomputable section
namespace Go.Bw
open Go
section
variable {N : Nat} {Q : AQ} {σ : Sg} {η : List Ent} {ops : Array Oper} {rest : List Oper} {E : Env}
theorem opU_store {tg : Nat} {o : Oper} {t : TypeId} {p x : Operand} (ho : o.op = .store t p x) {i b off : Nat} {cs cs' : List AV} {y : AV} {ti : TI} (hp : ev (look σ) p = some (.own tg b off)) (hx : ev (look σ) x = some y) (hi : nth η i = some (.box b cs))
    (ht : tget E.T t = some ti) (hk : Nat.beq (cellsA y).length ti.size = true) (h1 : onesB (cellsA y) = true) (hl : spliceA cs off (cellsA y) = some cs') :
    OpU E.toCx N o σ η (η.set i (.box b cs')) := fun F a w hs => by
  have hp' := ev_rel hs.sg hp
  simp only [Rel] at hp'
  have hy := cellsA_rel (ev_rel hs.sg hx)
  obtain ⟨l, r, rfl, hset⟩ := nth_split hi
  rw [hset]
  obtain ⟨e, vs, h2, h3⟩ := hs.hp.ents (.box b cs) (by simp)
  have hlen := spliceA_len hl
  have hyl := hy.length
  obtain ⟨w', h4, h5, h6, h7, h8, h9, h10⟩ := run_storeCells_row (P := E.P) b e (a.eval x).cells.toList 0 off vs w h2 (by rw [h3.length]; omega) (onesB_one h1 hy)
  have hids : ∀ c ∈ Ent.ids (.box b cs'), c ∈ Ent.ids (.box b cs) ∨ w.heap.size ≤ c := fun c hc => .inl hc
  refine ⟨w', ?_, ?_, ?_⟩
  · have hsz : (a.eval x).cells.size = ti.size := by
      have := Nat.eq_of_beq_eq_true hk
      rw [← hyl] at this
      simpa using this
    simp [execOp, ho, hp', Instr.storeAt, Instr.sureAddr, storeVar, tiB_size (E.tok _ _ ht), hsz, h4]
  · refine hs.hp.upd (by omega) (fun c _ hc => h10 c (by simpa [Ent.ids] using hc)) hids (by simp [Ent.ids]) ?_
    refine ⟨e, splice vs off (a.eval x).cells.toList, by simpa using h5, spliceA_rel hl (h3.keep ?_) (hy.keep ?_)⟩
    all_goals
      refine ⟨by omega, fun c hc ha => ⟨?_, h10 c fun hcb => ha.2 (by rw [hcb]; simp [ids_append, ids_cons, Ent.ids])⟩⟩
      simpa [Al, ids_append, ids_cons, Ent.ids] using ha
  · refine ⟨h6, h7, h8, by omega, fun c _ hc => h10 c fun hcb => hc (by rw [hcb]; simp [ids_append, ids_cons, Ent.ids]), fun c hc => .inl ?_⟩
    simpa [ids_append, ids_cons, Ent.ids] using hc
theorem AOps.store {tg : Nat} {t : TypeId} {p x : Operand} {ty : TypeId} {pos : String} {after : Array Edge} {i b off : Nat} {cs cs' : List AV} {y : AV} {ti : TI} (hp : ev (look σ) p = some (.own tg b off)) (hx : ev (look σ) x = some y) (hi : nth η i = some (.box b cs))
    (ht : tget E.T t = some ti) (hk : Nat.beq (cellsA y).length ti.size = true) (h1 : onesB (cellsA y) = true) (hl : spliceA cs off (cellsA y) = some cs') (k : AOps E.toCx N ops rest Q σ (η.set i (.box b cs'))) :
    AOps E.toCx N ops (⟨none, .store t p x, ty, pos, after, none⟩ :: rest) Q σ η :=
  AOps.opU rfl rfl (opU_store rfl hp hx hi ht hk h1 hl) k
theorem tiB_slice {P : Program} {t e k : Nat} {i : TI} (h : tiB P t i = true) (hd : i.d = .slice e k) : P.underlying t = some (.slice e) ∧ k = sizeB P e ∧ hasB P e = true := by
  obtain ⟨u, ti, hu, _, hd', _⟩ := tiB_spec h
  rw [hd] at hd'
  cases u <;> simp only [tdB, Bool.false_eq_true, Bool.and_eq_true, beq_iff_eq] at hd'
  obtain ⟨⟨rfl, h2⟩, h3⟩ := hd'
  exact ⟨hu, h2, h3⟩
theorem RelRows.get {w : World} {A : Nat → Prop} {k : Nat} : ∀ {rows : List (List AV)} {vs : List Value} {j : Nat} {r : List AV}, RelRows w A k rows vs → rows[j]? = some r →
    r.length = k ∧ ∃ us, RelL w A r us ∧ ∀ i u, us[i]? = some u → vs[j * k + i]? = some u
  | [], _, _, _, _, h => by simp at h
  | q :: rs, vs, 0, r, hr, h => by
    simp only [RelRows] at hr
    obtain ⟨v1, v2, rfl, hk, h1, _⟩ := hr
    simp at h; subst h
    refine ⟨hk, v1, h1, fun i u hi => ?_⟩
    have : i < v1.length := (List.getElem?_eq_some_iff.1 hi).1
    rw [Nat.zero_mul, Nat.zero_add, List.getElem?_append_left this]; exact hi
  | q :: rs, vs, j + 1, r, hr, h => by
    simp only [RelRows] at hr
    obtain ⟨v1, v2, rfl, hk, h1, h2⟩ := hr
    simp at h
    obtain ⟨h3, us, h4, h5⟩ := RelRows.get h2 h
    refine ⟨h3, us, h4, fun i u hi => ?_⟩
    have hl : v1.length = k := by rw [h1.length, hk]
    have := h5 i u hi
    rw [List.getElem?_append_right (by rw [hl, Nat.add_mul]; omega), hl]
    rw [show (j + 1) * k + i - k = j * k + i by rw [Nat.add_mul]; omega]
    exact this
theorem opS_idx {o : Oper} {t : TypeId} {x ix : Operand} (ho : o.op = .indexAddr t x ix) {e k sz by' : Nat} {z : List Value} {rows : List (List AV)} {r : List AV} {kd : IntKind} {n : Int} (j : Nat) (ht : tget E.T t = some ⟨.slice e k, sz, by', z⟩) (hx : ev (look σ) x = some (.sl k rows)) (hix : ev (look σ) ix = some (.v (.int kd n)))
    (hj : n = (j : Int)) (hr : rows[j]? = some r) : OpS E.toCx N o σ η (.ip r) := fun F a w hs => by
  obtain ⟨hu, hke, hh⟩ := tiB_slice (E.tok _ _ ht) rfl
  have h1 := ev_rel hs.sg hx
  have h2 := ev_rel hs.sg hix
  simp only [Rel] at h1 h2
  subst hj
  have hlt : j < rows.length := (List.getElem?_eq_some_iff.1 hr).1
  rcases h1 with ⟨rfl, _⟩ | ⟨b, off, cap, vs, e1, e2, e3, e4, e5, e6⟩
  · simp at hlt
  · obtain ⟨h3, us, h4, h5⟩ := e5.get hr
    refine ⟨.pointer (some ⟨b, off + j * k, none⟩), ?_, fun w' _ => ?_⟩
    rotate_left
    · rw [hke]
      simp [execOp, ho, e1, h2, Instr.indexAt, asIntOf, run_underlying hu, hlt, hasB_size hh, Addr.add_lit]
    · simp only [Rel]
      refine ⟨b, off + j * k, us, rfl, e2, h4, fun i u hi => ?_⟩
      have := e6 _ _ (h5 i u hi)
      rwa [← Nat.add_assoc] at this
theorem AOps.idx (j : Nat) {d : Nat} {t : TypeId} {x ix : Operand} {ty : TypeId} {pos : String} {after : Array Edge} {e k sz by' : Nat} {z : List Value} {rows : List (List AV)} {r : List AV} {kd : IntKind} {n : Int} (hr : rows[j]? = some r) (hx : ev (look σ) x = some (.sl k rows)) (hix : ev (look σ) ix = some (.v (.int kd n)))
    (hj : n = (j : Int)) (ht : tget E.T t = some ⟨.slice e k, sz, by', z⟩) (hn : Nat.blt d N = true) (kk : AOps E.toCx N ops rest Q ((d, .ip r) :: σ) η) : AOps E.toCx N ops (⟨some d, .indexAddr t x ix, ty, pos, after, none⟩ :: rest) Q σ η :=
  AOps.opS rfl rfl hn (opS_idx rfl j ht hx hix hj hr) kk
def lenA (T : Tab) (t : TypeId) : AV → Option Int
  | .sl _ rows => match tget T t with
    | some ⟨.slice _ _, _, _, _⟩ => some (rows.length : Int)
    | _ => none
  | .v (.slice _ n _) => match tget T t with
    | some ⟨.slice _ _, _, _, _⟩ => some (n : Int)
    | _ => none
  | .os _ _ n _ => match tget T t with
    | some ⟨.slice _ _, _, _, _⟩ => some (n : Int)
    | _ => none
  | .v (.string s) => match tget T t with
    | some ⟨.str, _, _, _⟩ => some (s.size : Int)
    | _ => none
  | _ => none
theorem opS_len {o : Oper} {t : TypeId} {x : Operand} (ho : o.op = .call { callee := .builtin .len, args := #[x], argTypes := #[t] }) {y : AV} {n : Int} (hx : ev (look σ) x = some y) (hl : lenA E.T t y = some n) :
    OpS E.toCx N o σ η (.v (.int .i64 n)) := fun F a w hs => by
  have h1 := ev_rel hs.sg hx
  refine ⟨.int .i64 n, by simp only [Rel], fun w' _ => ?_⟩
  unfold lenA at hl
  split at hl
  · split at hl
    · rename_i ht
      obtain ⟨hu, _, _⟩ := tiB_slice (E.tok _ _ ht) rfl
      simp only [Option.some.injEq] at hl; subst hl
      simp only [Rel] at h1
      rcases h1 with ⟨rfl, a', cap, e1⟩ | ⟨b, off, cap, vs, e1, _⟩
      · simp [execOp, ho, resolve, invoke, builtin, e1, Builtin.len_, run_underlying hu, goInt]
      · simp [execOp, ho, resolve, invoke, builtin, e1, Builtin.len_, run_underlying hu, goInt]
    · cases hl
  · split at hl
    · rename_i ht
      obtain ⟨hu, _, _⟩ := tiB_slice (E.tok _ _ ht) rfl
      simp only [Option.some.injEq] at hl; subst hl
      simp only [Rel] at h1
      simp [execOp, ho, resolve, invoke, builtin, h1, Builtin.len_, run_underlying hu, goInt]
    · cases hl
  · split at hl
    · rename_i ht
      obtain ⟨hu, _, _⟩ := tiB_slice (E.tok _ _ ht) rfl
      simp only [Option.some.injEq] at hl; subst hl
      simp only [Rel] at h1
      simp [execOp, ho, resolve, invoke, builtin, h1, Builtin.len_, run_underlying hu, goInt]
    · cases hl
  · split at hl
    · rename_i ht
      obtain ⟨u, _, hu, _, hd, _⟩ := tiB_spec (E.tok _ _ ht)
      simp only [Option.some.injEq] at hl; subst hl
      simp only [Rel] at h1
      cases u <;> simp [tdB] at hd
      simp [execOp, ho, resolve, invoke, builtin, h1, Builtin.len_, run_underlying hu, goInt]
    · cases hl
  · cases hl
theorem AOps.len {d : Nat} {t : TypeId} {x : Operand} {ty : TypeId} {pos : String} {after : Array Edge} {y : AV} {n : Int} (hx : ev (look σ) x = some y) (hl : lenA E.T t y = some n) (hn : Nat.blt d N = true) (k : AOps E.toCx N ops rest Q ((d, .v (.int .i64 n)) :: σ) η) :
    AOps E.toCx N ops (⟨some d, .call { callee := .builtin .len, args := #[x], argTypes := #[t] }, ty, pos, after, none⟩ :: rest) Q σ η :=
  AOps.opS rfl rfl hn (opS_len rfl hx hl) k
theorem wp_loop_ix {P : Program} {c : Code} {Q : Exit → Act → World → Prop} (I : Nat → Act → World → Prop)
    (round : ∀ n a w, I n a w → c.wp P (Exit.then (fun a' w' => ∃ m, m < n ∧ I m a' w') Q) a w) : ∀ {n : Nat} {a : Act} {w : World}, I n a w → (Code.loop c).wp P Q a w := by
  intro n a w h₀ b k cs
  have key : ∀ n a w, I n a w → ∃ e a' w', Q e a' w' ∧ Arrives P (lone (b.at a (.code c :: .inLoop c :: k)) cs w) b k cs e a' w' := by
    intro n
    induction n using Nat.strongRecOn with
    | _ n ih =>
      intro a w hI
      obtain ⟨e, a₁, w₁, hq, harr⟩ := round n a w hI b (.inLoop c :: k) cs
      cases e with
      | normal =>
        obtain ⟨m, hm, hI₁⟩ := hq
        obtain ⟨e₂, a₂, w₂, hq₂, harr₂⟩ := ih m hm a₁ w₁ hI₁
        exact ⟨e₂, a₂, w₂, hq₂, .of_steps (Steps.trans harr (.one step_inLoop)) harr₂⟩
      | exit id => exact ⟨_, a₁, w₁, hq, .pass (x := .inLoop c) rfl (fun _ _ => .inl (by simp)) harr⟩
      | goto l => exact ⟨_, a₁, w₁, hq, .pass (x := .inLoop c) rfl (fun _ _ => .inl (by simp)) harr⟩
      | ret => exact ⟨_, a₁, w₁, hq, .pass (x := .inLoop c) rfl (fun _ _ => .inl (by simp)) harr⟩
      | panic ch => exact ⟨_, a₁, w₁, hq, .pass (x := .inLoop c) rfl (fun _ _ => .inl (by simp)) harr⟩
      | outgrown => exact ⟨_, a₁, w₁, hq, .pass (x := .inLoop c) rfl (fun _ _ => .inl (by simp)) harr⟩
  obtain ⟨e, a', w', hq, harr⟩ := key n a w h₀
  exact ⟨e, a', w', hq, .of_steps (.one step_loop) harr⟩
theorem AWP.loop {C : Cx} {c : Code} (I : Nat → Sg → List Ent → Prop) (n : Nat) (h0 : I n σ η) (round : ∀ n σ η, I n σ η → AWP C N c (AE.then (fun σ' η' => ∃ m, m < n ∧ I m σ' η') Q) σ η) : AWP C N (.loop c) Q σ η :=
  fun F w0 η0 a w hs hx => by
    refine wp_loop_ix (P := C.P) (I := fun n a w => ∃ σ η, I n σ η ∧ St C.G N w F a σ η ∧ Ext η0 w0 η w) ?_ ⟨σ, η, h0, hs, hx⟩
    rintro n a w ⟨σ, η, hI, hs, hx⟩
    refine wp_mono (round n σ η hI F w0 η0 a w hs hx) ?_
    rintro e a' w' ⟨e0, σ', η', h1, h2, h3, h4⟩
    cases e0 with
    | norm => simp only [AE.rel] at h2; subst h2; obtain ⟨m, hm, hI'⟩ := h1; exact ⟨m, hm, σ', η', hI', h3, h4⟩
    | exit i => simp only [AE.rel] at h2; subst h2; exact ⟨.exit i, σ', η', h1, rfl, h3, h4⟩
    | ret => simp only [AE.rel] at h2; subst h2; exact ⟨.ret, σ', η', h1, rfl, h3, h4⟩
    | pan x => obtain ⟨v, rfl, h2⟩ := h2; exact ⟨.pan x, σ', η', h1, ⟨v, rfl, h2⟩, h3, h4⟩
end
end Go.Bw
