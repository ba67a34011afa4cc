/-
  Own work. The program logic, eleventh part: operations that compute where their operands are known in full: elements, pieces, text, structs compared; package-level variables.
-/
import Derived.Test.YtcngmkedekmkhaaGreatB10
import Derived.Laws.StructEq
noncomputable section
namespace Go.Bw
open Go
def natV : Option AV → Option Nat
  | some (.v (.int _ (.ofNat n))) => some n
  | _ => none
def bndV (s : Sl) (dflt : Nat) : Option Operand → Option Nat
  | none => some dflt
  | some o => natV (ev s o)
def eqFB (P : Program) : Nat → List Field → Bool
  | _, [] => true
  | i, f :: fs => Nat.beq f.offset i && f.name != "_" && hasB P f.type && (match P.underlying f.type with
      | some (.int _) => true
      | some .bool => true
      | some .string => true
      | _ => false) && eqFB P (i + 1) fs
def eqTB (P : Program) (t : TypeId) (n : Nat) : Bool := (match P.underlying t with
  | some (.struct fs) => eqFB P 0 fs.toList && Nat.beq fs.size n
  | _ => false) && !P.stoodInHeld t && !P.eqGuardType P.depth t
def kindOk (P : Program) (t : TypeId) : Value → Bool
  | .int _ _ => match P.underlying t with
    | some (.int _) => true
    | _ => false
  | .bool _ => match P.underlying t with
    | some .bool => true
    | _ => false
  | .string _ => match P.underlying t with
    | some .string => true
    | _ => false
  | _ => false
def eqVs (P : Program) : List Field → List AV → List AV → Option Bool
  | [], [], [] => some true
  | f :: fs, .v x :: xs, .v y :: ys => match kindOk P f.type x, kindOk P f.type y, eqVs P fs xs ys with
    | true, true, some c => match x, y with
      | .int k a, .int k' b => match decide (k = k') with
        | true => some (a == b && c)
        | false => none
      | .bool a, .bool b => some (a == b && c)
      | .string a, .string b => some (a.data.toList == b.data.toList && c)
      | _, _ => none
    | _, _, _ => none
  | _, _, _ => none
def kop (P : Program) (T : Tab) (s : Sl) : Op → Option AV
  | .indexAddr t x ix => match ev s x, natV (ev s ix), tget T t with
    | some (.sl k rows), some j, some ⟨.slice _ k', _, _, _⟩ => match Nat.beq k k', nth rows j with
      | true, some r => some (.ip r)
      | _, _ => none
    | some (.v (.pointer (some ⟨b, off, none⟩))), some j, some ⟨.array m _ k _, _, _, _⟩ => match Nat.blt j m with
      | true => some (.v (.pointer (some ⟨b, off + j * k, none⟩)))
      | false => none
    | _, _, _ => none
  | .index t x ix => match ev s x, natV (ev s ix), tget T t with
    | some (.v (.string b)), some j, some ⟨.str, _, _, _⟩ => match nth b.data.toList j with
      | some c => some (.v (.int .u8 c.toNat))
      | none => none
    | _, _, _ => none
  | .slice t x lo hi none => match ev s x, tget T t with
    | some (.sl k rows), some ⟨.slice _ k', _, _, _⟩ => match bndV s 0 lo, bndV s rows.length hi with
      | some l, some h => match Nat.beq k k' && Nat.ble l h && Nat.ble h rows.length with
        | true => some (.sl k ((rows.take h).drop l))
        | false => none
      | _, _ => none
    | some (.v (.string b)), some ⟨.str, _, _, _⟩ => match bndV s 0 lo, bndV s b.data.toList.length hi with
      | some l, some h => match Nat.ble l h && Nat.ble h b.data.toList.length with
        | true => some (.v (.string ⟨((b.data.toList.take h).drop l).toArray⟩))
        | false => none
      | _, _ => none
    | _, _ => none
  | .binOp .add _ x y _ => match ev s x, ev s y with
    | some (.v (.string a)), some (.v (.string b)) => match Nat.ble (a.data.toList.length + b.data.toList.length) 9223372036854775807 with
      | true => some (.v (.string ⟨(a.data.toList ++ b.data.toList).toArray⟩))
      | false => none
    | _, _ => none
  | .binOp .eql t x y _ => match ev s x, ev s y with
    | some (.agg xs), some (.agg ys) => match eqTB P t xs.length, P.underlying t with
      | true, some (.struct fs) => match eqVs P fs.toList xs ys with
        | some c => some (.v (.bool c))
        | none => none
      | _, _ => none
    | _, _ => none
  | .binOp .neq t x y _ => match ev s x, ev s y with
    | some (.agg xs), some (.agg ys) => match eqTB P t xs.length, P.underlying t with
      | true, some (.struct fs) => match eqVs P fs.toList xs ys with
        | some c => some (.v (.bool !c))
        | none => none
      | _, _ => none
    | _, _ => none
  | _ => none
section
variable {w : World} {A : Nat → Prop} {N : Nat} {a : Act} {s : Sl} {P : Program} {T : Tab}
theorem natV_spec {o : Option AV} {n : Nat} (h : natV o = some n) : ∃ k, o = some (.v (.int k (n : Int))) := by
  unfold natV at h
  split at h
  · rename_i k m; simp only [Option.some.injEq] at h; subst h; exact ⟨k, rfl⟩
  · cases h
theorem eqVs_run (d : Nat) : ∀ (fs : List Field) (i : Nat) {xs ys : List AV} {us vs : List Value} {c : Bool}, eqFB P i fs = true → eqVs P fs (xs.drop i) (ys.drop i) = some c → RelL w A xs us → RelL w A ys vs →
    ∀ w', (Op.eqFields (d + 1) us.toArray vs.toArray fs).run P w' = .ok c w'
  | [], i, xs, ys, us, vs, c, _, h, _, _, w' => by
    unfold eqVs at h
    split at h
    · simp only [Option.some.injEq] at h; subst h; simp [Op.eqFields]
    · contradiction
    · cases h
  | f :: fs, i, xs, ys, us, vs, c, hB, h, hx, hy, w' => by
    simp only [eqFB, Bool.and_eq_true, bne_iff_ne, ne_eq] at hB
    obtain ⟨⟨⟨⟨h1, h2⟩, h3⟩, h4⟩, h5⟩ := hB
    have h1 := Nat.eq_of_beq_eq_true h1
    unfold eqVs at h
    split at h
    · contradiction
    · rename_i f' fs' x xs' y ys' hf hxs hys
      simp only [List.cons.injEq] at hf
      obtain ⟨rfl, rfl⟩ := hf
      have hxi : nth xs i = some (.v x) := by rw [nth_eq]; have := congrArg (·[0]?) hxs; simpa using this
      have hyi : nth ys i = some (.v y) := by rw [nth_eq]; have := congrArg (·[0]?) hys; simpa using this
      have hxd : xs.drop (i + 1) = xs' := by have := congrArg (List.drop 1) hxs; simpa [Nat.add_comm] using this
      have hyd : ys.drop (i + 1) = ys' := by have := congrArg (List.drop 1) hys; simpa [Nat.add_comm] using this
      obtain ⟨u, hu, hu'⟩ := hx.nth hxi
      obtain ⟨v, hv, hv'⟩ := hy.nth hyi
      simp only [Rel] at hu' hv'
      subst hu'; subst hv'
      have hagg : aggB P f.type = false := by
        unfold aggB
        split at h4 <;> first | (rename_i hh; rw [hh]) | (cases h4; done)
      have hpart : ∀ (zs : List Value) (z : Value), zs[i]? = some z → ∀ w', (part f.type zs.toArray f.offset).run P w' = .ok z w' := by
        intro zs z hz w'
        simp [part, hasB_agg h3, hagg, h1, hz]
      split at h
      · rename_i c' hk1 hk2 hc'
        rw [← hxd, ← hyd] at hc'
        have ih := eqVs_run d fs (i + 1) h5 hc' hx hy w'
        have fin : ∀ (q : Bool), (∀ w', (Op.equalIn (d + 1) f.type u v).run P w' = .ok q w') → (Op.eqFields (d + 1) us.toArray vs.toArray (f :: fs)).run P w' = .ok (q && c') w' := by
          intro q hq
          simp only [Op.eqFields, ne_eq, h2, not_false_eq_true, if_true, Sem.run_bind, hpart us u hu, hpart vs v hv, Result.andThen_ok, hq, Sem.run_ite]
          cases q
          · simp
          · simp [ih]
        split at h
        · rename_i k a k' b
          split at h
          · rename_i hk
            have hk := of_decide_eq_true hk
            subst hk
            simp only [Option.some.injEq] at h; subst h
            refine fin _ fun w' => ?_
            simp only [kindOk] at hk1
            split at hk1
            · rename_i hh; exact run_equalIn_int w' d f.type k _ a b hh
            · cases hk1
          · cases h
        · rename_i a b
          simp only [Option.some.injEq] at h; subst h
          refine fin _ fun w' => ?_
          simp only [kindOk] at hk1
          split at hk1
          · rename_i hh; exact run_equalIn_bool' w' d f.type a b hh
          · cases hk1
        · rename_i a b
          simp only [Option.some.injEq] at h; subst h
          refine fin _ fun w' => ?_
          simp only [kindOk] at hk1
          split at hk1
          · rename_i hh; rw [run_equalIn_string w' d f.type a b hh, ByteArray.toList_eq, ByteArray.toList_eq]
          · cases hk1
        · cases h
      · cases h
    · cases h
theorem eqS_run {t : TypeId} {xs ys : List AV} {us vs : List Value} {fs : Array Field} {c : Bool} (hB : eqTB P t xs.length = true) (hu : P.underlying t = some (.struct fs)) (h : eqVs P fs.toList xs ys = some c) (hx : RelL w A xs us) (hy : RelL w A ys vs) (x y : Operand) :
    (∀ w', (do eqGuard .eql t x y (.agg us.toArray) (.agg vs.toArray); binOp .eql t (.agg us.toArray) (.agg vs.toArray) : Sem Value).run P w' = .ok (.bool c) w') ∧
    ∀ w', (do eqGuard .neq t x y (.agg us.toArray) (.agg vs.toArray); binOp .neq t (.agg us.toArray) (.agg vs.toArray) : Sem Value).run P w' = .ok (.bool !c) w' := by
  simp only [eqTB, hu, Bool.and_eq_true, Bool.not_eq_true'] at hB
  obtain ⟨⟨⟨h1, h2⟩, h3⟩, h4⟩ := hB
  have hfo : P.fieldsOf t = fs := by simp [Program.fieldsOf, hu]
  have hr : ∀ w', (Op.equalIn 10000 t (.agg us.toArray) (.agg vs.toArray)).run P w' = .ok c w' := fun w' => by
    rw [show 10000 = 9998 + 1 + 1 from rfl, run_equalIn_agg w' (9998 + 1) t _ _ (by rw [hfo]; exact hu) h3, hfo]
    exact eqVs_run 9998 fs.toList 0 h1 (by simpa using h) hx hy w'
  refine ⟨fun w' => ?_, fun w' => ?_⟩
  · simp only [Sem.run_bind, run_eqGuard_agg w' .eql t x y _ _ h4, Result.andThen_ok, run_eql_struct, hr]
  · simp only [Sem.run_bind, run_eqGuard_agg w' .neq t x y _ _ h4, Result.andThen_ok, run_neq_struct, hr]
theorem bndV_spec (hs : SlOk w A N a s) {dflt : Nat} {o : Option Operand} {n : Nat} (h : bndV s dflt o = some n) : (o = none ∧ n = dflt) ∨ ∃ p k, o = some p ∧ a.eval p = .int k (n : Int) := by
  cases o with
  | none => simp only [bndV, Option.some.injEq] at h; exact .inl ⟨rfl, h.symm⟩
  | some p =>
    simp only [bndV] at h
    obtain ⟨k, hk⟩ := natV_spec h
    have := ev_rel hs hk
    simp only [Rel] at this
    exact .inr ⟨p, k, rfl, this⟩
theorem bounds_run (hs : SlOk w A N a s) (isS : Bool) {len cap : Nat} {lo hi : Option Operand} {l h : Nat} (hl : bndV s 0 lo = some l) (hh : bndV s len hi = some h) (h1 : l ≤ h) (h2 : h ≤ len) (h3 : len ≤ cap) (w' : World) :
    (Instr.sliceBounds isS len cap (lo.map a.eval) (hi.map a.eval) none).run P w' = .ok (l, h, cap) w' := by
  rcases bndV_spec hs hl with ⟨rfl, rfl⟩ | ⟨p, k, rfl, hp⟩ <;> rcases bndV_spec hs hh with ⟨rfl, rfl⟩ | ⟨q, k', rfl, hq⟩
  · simp [Instr.sliceBounds]
  · have : h ≤ cap := by omega
    cases isS <;> simp [Instr.sliceBounds, hq, Instr.sliceBound, asIntOf, this]
  · simp [Instr.sliceBounds, hp, Instr.sliceBound, asIntOf, h1]
  · have : h ≤ cap := by omega
    cases isS <;> simp [Instr.sliceBounds, hp, hq, Instr.sliceBound, asIntOf, h1, this]
theorem RelRows.take' {k : Nat} : ∀ {n : Nat} {rows : List (List AV)} {vs : List Value}, RelRows w A k rows vs → RelRows w A k (rows.take n) (vs.take (n * k))
  | 0, _, _, _ => by simp [RelRows]
  | n + 1, [], _, h => by simp only [RelRows] at h; subst h; simp [RelRows]
  | n + 1, _ :: _, _, h => by
    simp only [RelRows] at h
    obtain ⟨v1, v2, rfl, hk, h1, h2⟩ := h
    simp only [List.take_succ_cons, RelRows]
    refine ⟨v1, v2.take (n * k), ?_, hk, h1, h2.take'⟩
    have : v1.length = k := by rw [h1.length, hk]
    rw [Nat.add_mul, Nat.one_mul, List.take_append, List.take_of_length_le (by omega), this]
    congr 2; omega
theorem RelRows.drop' {k : Nat} : ∀ {n : Nat} {rows : List (List AV)} {vs : List Value}, RelRows w A k rows vs → RelRows w A k (rows.drop n) (vs.drop (n * k))
  | 0, _, _, h => by simpa using h
  | n + 1, [], _, h => by simp only [RelRows] at h; subst h; simp [RelRows]
  | n + 1, _ :: _, _, h => by
    simp only [RelRows] at h
    obtain ⟨v1, v2, rfl, hk, h1, h2⟩ := h
    simp only [List.drop_succ_cons]
    have : v1.length = k := by rw [h1.length, hk]
    rw [show (n + 1) * k = v1.length + n * k by rw [this, Nat.add_mul, Nat.one_mul, Nat.add_comm], ← List.drop_drop, List.drop_left]
    exact h2.drop'
theorem extract_data (s : ByteArray) (l h : Nat) : s.extract l h = ⟨((s.data.toList.take h).drop l).toArray⟩ := by
  apply ByteArray.ext
  rw [ByteArray.data_extract]
  apply Array.ext'
  simp [List.extract_eq_take_drop, List.drop_take]
theorem append_data (s t : ByteArray) : s ++ t = ⟨(s.data.toList ++ t.data.toList).toArray⟩ := by
  apply ByteArray.ext
  rw [ByteArray.data_append]
  apply Array.ext'
  simp
theorem size_data (s : ByteArray) : s.size = s.data.toList.length := by cases s; rfl
theorem kop_run (tok : TabOk P T) (hs : SlOk w A N a s) {o : Oper} {x : AV} (h : kop P T s o.op = some x) :
    ∃ v, Rel w A x v ∧ ∀ w', Later w w' → (execOp a.eval o).run P w' = .ok (.value v) w' := by
  obtain ⟨dst, op, ty, pos, after, gd⟩ := o
  unfold kop at h
  simp only at h
  split at h
  · -- indexAddr
    rename_i t y ix
    split at h
    · rename_i k rows j e k' _ _ _ hy hj ht
      split at h
      · rename_i r hk hr
        simp only [Option.some.injEq] at h; subst h
        have hk := Nat.eq_of_beq_eq_true hk
        subst hk
        obtain ⟨kd, hj⟩ := natV_spec hj
        obtain ⟨hu, hke, hh⟩ := tiB_slice (tok _ _ ht) rfl
        have h1 := ev_rel hs hy
        have h2 := ev_rel hs hj
        simp only [Rel] at h1 h2
        rw [nth_eq] at hr
        have hlt : j < rows.length := (List.getElem?_eq_some_iff.1 hr).1
        rcases h1 with ⟨rfl, _⟩ | ⟨b, off, cap, vs, e1, e2, e3, e4, e5, e6⟩
        · simp at hlt
        · obtain ⟨h3, us, h4, h5⟩ := e5.get hr
          refine ⟨.pointer (some ⟨b, off + j * k, none⟩), ?_, fun w' _ => ?_⟩
          rotate_left
          · rw [hke]
            simp [execOp, e1, h2, Instr.indexAt, asIntOf, run_underlying hu, hlt, hasB_size hh, Addr.add_lit]
          · simp only [Rel]
            refine ⟨b, off + j * k, us, rfl, e2, h4, fun i u hi => ?_⟩
            have := e6 _ _ (h5 i u hi)
            rwa [← Nat.add_assoc] at this
      · cases h
    · rename_i b off j m e k g _ _ _ hy hj ht
      split at h
      · rename_i hjm
        simp only [Option.some.injEq] at h; subst h
        rw [Nat.blt_eq] at hjm
        obtain ⟨kd, hj⟩ := natV_spec hj
        obtain ⟨u, ti, hu, _, hd, _⟩ := tiB_spec (tok _ _ ht)
        cases u <;> simp only [tdB, Bool.false_eq_true, Bool.and_eq_true, beq_iff_eq] at hd
        obtain ⟨⟨⟨⟨⟨rfl, rfl⟩, hk⟩, _⟩, hh⟩, _⟩ := hd
        have h1 := ev_rel hs hy
        have h2 := ev_rel hs hj
        simp only [Rel] at h1 h2
        refine ⟨_, rel_v _, fun w' _ => ?_⟩
        rw [hk]
        simp [execOp, h1, h2, Instr.indexAt, Instr.sureAddr, asIntOf, run_underlying hu, hjm, hasB_size hh, Addr.add_lit]
      · cases h
    · cases h
  · -- index
    rename_i t y ix
    split at h
    · rename_i b j _ _ _ hy hj ht
      split at h
      · rename_i c hc
        simp only [Option.some.injEq] at h; subst h
        obtain ⟨kd, hj⟩ := natV_spec hj
        obtain ⟨u, _, hu, _, hd, _⟩ := tiB_spec (tok _ _ ht)
        cases u <;> simp [tdB] at hd
        have h1 := ev_rel hs hy
        have h2 := ev_rel hs hj
        simp only [Rel] at h1 h2
        refine ⟨_, rel_v _, fun w' _ => ?_⟩
        rw [nth_eq] at hc
        have hc' : b[j]? = some c := by
          obtain ⟨hlt, he⟩ := List.getElem?_eq_some_iff.1 hc
          rw [getElem?_pos b j (by rw [size_data]; exact hlt), ← he]
          rfl
        simp [execOp, h1, h2, Instr.index, asIntOf, run_underlying hu, hc']
      · cases h
    · cases h
  · -- slice
    rename_i t y lo hi
    split at h
    · rename_i k rows e k' _ _ _ hy ht
      split at h
      · rename_i l hh hl hhh
        split at h
        · rename_i hB
          simp only [Option.some.injEq] at h; subst h
          simp only [Bool.and_eq_true] at hB
          obtain ⟨⟨hk, h1⟩, h2⟩ := hB
          have hk := Nat.eq_of_beq_eq_true hk
          subst hk
          have h1 := Nat.le_of_ble_eq_true h1
          have h2 := Nat.le_of_ble_eq_true h2
          obtain ⟨hu, hke, hsz⟩ := tiB_slice (tok _ _ ht) rfl
          have hy' := ev_rel hs hy
          simp only [Rel] at hy'
          have hlen : ((rows.take hh).drop l).length = hh - l := by simp; omega
          rcases hy' with ⟨rfl, ad, cap, e1⟩ | ⟨b, off, cap, vs, e1, e2, e3, e4, e5, e6⟩
          · have hz : hh = 0 := by simpa using h2
            subst hz
            have hz : l = 0 := by omega
            subst hz
            refine ⟨.slice (if cap = 0 then ad else ad.map (·.add (0 * sizeB P e))) 0 cap, ?_, fun w' _ => ?_⟩
            · simp only [Rel, List.take_zero, List.drop_nil]
              exact .inl ⟨trivial, _, _, rfl⟩
            · have hb := bounds_run (P := P) (cap := cap) hs true hl hhh h1 h2 (Nat.zero_le _) w'
              simp only [List.length_nil] at hb
              simp only [execOp, e1, Instr.sliceAt, Instr.slice, Sem.run_bind, run_underlying hu, Option.map_none, hb, Result.andThen_ok, hasB_size hsz, Sem.run_pure, Nat.sub_zero]
          · have hb := fun w' => bounds_run (P := P) hs true hl hhh h1 h2 e3 w'
            have hrun : ∀ w', (execOp a.eval ⟨dst, .slice t y lo hi none, ty, pos, after, gd⟩).run P w' = .ok (.value (.slice (if cap = l then some ⟨b, off, none⟩ else some ⟨b, off + l * k, none⟩) (hh - l) (cap - l))) w' := fun w' => by
              simp only [execOp, e1, Instr.sliceAt, Instr.slice, Sem.run_bind, run_underlying hu, Option.map_none, hb w', Result.andThen_ok, hasB_size hsz, Sem.run_pure, Option.map_some, Addr.add_lit]
              rw [← hke]
            refine ⟨_, ?_, fun w' _ => hrun w'⟩
            simp only [Rel]
            by_cases hcl : cap = l
            · left
              refine ⟨List.eq_nil_of_length_eq_zero (by rw [hlen]; omega), some ⟨b, off, none⟩, 0, ?_⟩
              rw [if_pos hcl]
              congr 1 <;> omega
            · right
              rw [if_neg hcl]
              refine ⟨b, off + l * k, cap - l, (vs.take (hh * k)).drop (l * k), by rw [hlen], e2, by rw [hlen]; omega, by omega, e5.take'.drop', fun j u hj => ?_⟩
              rw [List.getElem?_drop, List.getElem?_take] at hj
              split at hj
              · have := e6 _ _ hj; rwa [← Nat.add_assoc] at this
              · cases hj
        · cases h
      · cases h
    · rename_i b _ _ _ hy ht
      split at h
      · rename_i l hh hl hhh
        split at h
        · rename_i hB
          simp only [Option.some.injEq] at h; subst h
          simp only [Bool.and_eq_true] at hB
          obtain ⟨h1, h2⟩ := hB
          have h1 := Nat.le_of_ble_eq_true h1
          have h2 := Nat.le_of_ble_eq_true h2
          obtain ⟨u, _, hu, _, hd, _⟩ := tiB_spec (tok _ _ ht)
          cases u <;> simp [tdB] at hd
          have hy' := ev_rel hs hy
          simp only [Rel] at hy'
          refine ⟨_, rel_v _, fun w' _ => ?_⟩
          have hb := bounds_run (P := P) hs false hl hhh h1 h2 (Nat.le_refl _) w'
          rw [← size_data] at hb
          simp only [execOp, hy', Instr.sliceAt, Instr.slice, Sem.run_bind, run_underlying hu, Option.map_none, Option.isSome_none, Bool.false_eq_true, if_false, Sem.run_ite, Sem.run_pure, hb, Result.andThen_ok, extract_data]
        · cases h
      · cases h
    · cases h
  · -- add
    rename_i t x' y' yt
    split at h
    · rename_i p q hp hq
      split at h
      · rename_i hle
        simp only [Option.some.injEq] at h; subst h
        have hle := Nat.le_of_ble_eq_true hle
        have h1 := ev_rel hs hp
        have h2 := ev_rel hs hq
        simp only [Rel] at h1 h2
        refine ⟨_, rel_v _, fun w' _ => ?_⟩
        have hlt : ¬ (((p.size + q.size : Nat) : Int) > IntKind.i64.max) := by
          rw [size_data, size_data]
          have : IntKind.i64.max = 9223372036854775807 := rfl
          rw [this]; omega
        simp only [execOp, h1, h2, eqGuard_at_string, binOp, Op.stringOp, if_neg hlt, Sem.run_bind, Sem.run_pure, Result.andThen_ok, append_data]
      · cases h
    · cases h
  · -- eql
    rename_i t x' y' yt
    split at h
    · rename_i xs ys hp hq
      split at h
      · rename_i fs hB hu
        split at h
        · rename_i c hc
          simp only [Option.some.injEq] at h; subst h
          have h1 := ev_rel hs hp
          have h2 := ev_rel hs hq
          simp only [Rel] at h1 h2
          obtain ⟨us, h1, h1'⟩ := h1
          obtain ⟨vs, h2, h2'⟩ := h2
          refine ⟨_, rel_v _, fun w' _ => ?_⟩
          have := (eqS_run hB hu hc h1' h2' x' y').1 w'
          simp only [execOp, h1, h2, Sem.run_bind] at this ⊢
          rw [this]; simp
        · cases h
      · cases h
    · cases h
  · -- neq
    rename_i t x' y' yt
    split at h
    · rename_i xs ys hp hq
      split at h
      · rename_i fs hB hu
        split at h
        · rename_i c hc
          simp only [Option.some.injEq] at h; subst h
          have h1 := ev_rel hs hp
          have h2 := ev_rel hs hq
          simp only [Rel] at h1 h2
          obtain ⟨us, h1, h1'⟩ := h1
          obtain ⟨vs, h2, h2'⟩ := h2
          refine ⟨_, rel_v _, fun w' _ => ?_⟩
          have := (eqS_run hB hu hc h1' h2' x' y').2 w'
          simp only [execOp, h1, h2, Sem.run_bind] at this ⊢
          rw [this]; simp
        · cases h
      · cases h
    · cases h
  · cases h
end
theorem kop_congr {P : Program} {T : Tab} {s s' : Sl} {op : Op} (h : ∀ p ∈ op.operands.toList, ev s' p = ev s p) : kop P T s' op = kop P T s op := by
  unfold kop
  split
  · rename_i t x ix
    rw [h x (by simp [Op.operands]), h ix (by simp [Op.operands])]
  · rename_i t x ix
    rw [h x (by simp [Op.operands]), h ix (by simp [Op.operands])]
  · rename_i t x lo hi
    have h1 : ∀ d, bndV s' d lo = bndV s d lo := fun d => by
      cases lo with
      | none => rfl
      | some p => simp only [bndV]; rw [h p (by simp [Op.operands])]
    have h2 : ∀ d, bndV s' d hi = bndV s d hi := fun d => by
      cases hi with
      | none => rfl
      | some p => simp only [bndV]; rw [h p (by simp [Op.operands])]
    rw [h x (by simp [Op.operands])]
    simp only [h1, h2]
  · rename_i t x y yt
    rw [h x (by simp [Op.operands]), h y (by simp [Op.operands])]
  · rename_i t x y yt
    rw [h x (by simp [Op.operands]), h y (by simp [Op.operands])]
  · rename_i t x y yt
    rw [h x (by simp [Op.operands]), h y (by simp [Op.operands])]
  · rfl
theorem OpP.kop {E : Env} {N : Nat} {o : Oper} {s : Sl} {η : List Ent} {x : AV} (h : kop E.P E.T s o.op = some x) : OpP E.toCx N o s η x :=
  OpP.ofS fun _ _ _ hs => kop_run (P := E.P) E.tok hs.sg (by rw [kop_congr fun p hp => ev_restr hp]; exact h)
def bytesOf : List (List AV) → Option (List UInt8)
  | [] => some []
  | [.v (.int .u8 n)] :: r => match bytesOf r with
    | some bs => some (UInt8.ofNat n.toNat :: bs)
    | none => none
  | _ => none
theorem bytesOf_rel {w : World} {A : Nat → Prop} : ∀ {rows : List (List AV)} {bs : List UInt8} {vs : List Value}, bytesOf rows = some bs → RelRows w A 1 rows vs → ∃ ns : List Int, vs = ns.map (Value.int .u8) ∧ bs = ns.map (fun n => UInt8.ofNat n.toNat) ∧ ns.length = rows.length
  | [], bs, vs, h, hr => by
    simp only [bytesOf, Option.some.injEq] at h; subst h
    simp only [RelRows] at hr; subst hr
    exact ⟨[], rfl, rfl, rfl⟩
  | x :: r, bs, vs, h, hr => by
    unfold bytesOf at h
    split at h
    · rename_i heq; cases heq
    · rename_i n r' heq
      cases heq
      split at h
      · rename_i bs' h1
        cases h
        simp only [RelRows, RelL] at hr
        obtain ⟨v1, v2, rfl, _, ⟨v, r0, rfl, h2, rfl⟩, h3⟩ := hr
        simp only [Rel] at h2; subst h2
        obtain ⟨ns, rfl, rfl, h4⟩ := bytesOf_rel h1 h3
        exact ⟨n :: ns, rfl, rfl, by simp [h4]⟩
      · cases h
    · cases h
theorem foldl_push : ∀ (ns : List Int) (s : ByteArray), ns.foldl (fun r n => r.push (UInt8.ofNat n.toNat)) s = ⟨⟨s.data.toList ++ ns.map (fun n => UInt8.ofNat n.toNat)⟩⟩
  | [], s => by simp
  | n :: ns, s => by rw [List.foldl_cons, foldl_push ns]; simp [ByteArray.push]
theorem opS_bytesStr {E : Env} {N : Nat} {σ : Sg} {η : List Ent} {o : Oper} {ts td e sz by' sz' by'' sz2 by2 : Nat} {z z' z2 : List Value} {x : Operand} (ho : o.op = .convert ts td x) {rows : List (List AV)} {bs : List UInt8} (hx : ev (look σ) x = some (.sl 1 rows)) (hs : tget E.T ts = some ⟨.slice e 1, sz, by', z⟩) (he : tget E.T e = some ⟨.int .u8, sz', by'', z'⟩) (hd : tget E.T td = some ⟨.str, sz2, by2, z2⟩)
    (hb : bytesOf rows = some bs) : OpS E.toCx N o σ η (.v (.string ⟨⟨bs⟩⟩)) := fun F a w hst => by
  have h1 := ev_rel hst.sg hx
  obtain ⟨hu, _, _⟩ := tiB_slice (E.tok _ _ hs) rfl
  have hud : E.P.underlying td = some .string := by
    obtain ⟨u, _, hu, _, hd', _⟩ := tiB_spec (E.tok _ _ hd)
    cases u <;> simp [tdB] at hd'
    exact hu
  have hue : E.P.underlying e = some (.int .u8) := by
    obtain ⟨u, _, hu, _, hd', _⟩ := tiB_spec (E.tok _ _ he)
    cases u <;> simp [tdB] at hd'
    subst hd'; exact hu
  refine ⟨.string ⟨⟨bs⟩⟩, by simp only [Rel], fun w' hw' => ?_⟩
  simp only [Rel] at h1
  rcases h1 with ⟨rfl, ad, cap, e1⟩ | ⟨b, off, cap, vs, e1, e2, _, _, e3, e4⟩
  · simp only [bytesOf, Option.some.injEq] at hb; subst hb
    have h3 : (Conv.bytesToString (.slice ad 0 cap)).run E.P w' = .ok (.string ⟨⟨[]⟩⟩) w' := by
      cases ad with
      | none => rfl
      | some ad => have := run_bytesToString (P := E.P) w' ad 0 cap [] (by have := run_loadCells_list (P := E.P) w' ad [] (by simp); simpa using this); exact this
    simp [execOp, ho, e1, run_convert_bytes_string w' ts td e ad 0 cap hu hue hud, h3]
  · obtain ⟨ns, rfl, rfl, hl⟩ := bytesOf_rel hb e3
    have h3 : (Conv.bytesToString (.slice (some ⟨b, off, none⟩) rows.length cap)).run E.P w' = .ok (.string ⟨⟨ns.map fun n => UInt8.ofNat n.toNat⟩⟩) w' := by
      have := run_bytesToString (P := E.P) w' ⟨b, off, none⟩ rows.length cap ns (by
        have := run_loadCells_list (P := E.P) w' ⟨b, off, none⟩ (ns.map (Value.int .u8)) (fun j v hj => by rw [Addr.add_lit]; exact hw'.cell (e4 j v hj))
        rw [List.length_map, hl] at this; exact this)
      rw [foldl_push] at this; simpa using this
    simp [execOp, ho, e1, run_convert_bytes_string w' ts td e _ _ cap hu hue hud, h3]
def gop (G : Gl) (T : Tab) (s : Sl) : Op → Option AV
  | .load t p => match ev s p, tget T t with
    | some (.v (.pointer (some ⟨g, off, none⟩))), some ⟨d, _, _, _⟩ => match d.agg, gget G g with
      | false, some vs => match nth vs off with
        | some u => some (.v u)
        | none => none
      | _, _ => none
    | _, _ => none
  | .convert ts td x => match ev s x, tget T ts, tget T td with
    | some (.sl k rows), some ⟨.slice e k', _, _, _⟩, some ⟨.str, _, _, _⟩ => match Nat.beq k 1, Nat.beq k' 1, tget T e, bytesOf rows with
      | true, true, some ⟨.int .u8, _, _, _⟩, some bs => some (.v (.string ⟨⟨bs⟩⟩))
      | _, _, _, _ => none
    | _, _, _ => none
  | _ => none
theorem OpP.gop {E : Env} {N : Nat} {o : Oper} {s : Sl} {η : List Ent} {x : AV} (h : gop E.G E.T s o.op = some x) : OpP E.toCx N o s η x := by
  refine OpP.ofS ?_
  unfold Bw.gop at h
  split at h
  · rename_i t p ho
    split at h
    · rename_i g off d k b z hp ht
      split at h
      · rename_i vs hd hg
        split at h
        · rename_i u hu
          simp only [Option.some.injEq] at h; subst h
          rw [nth_eq] at hu
          exact opS_loadG ho (by rw [ev_restr (by simp [ho, Op.operands])]; exact hp) hg hu ht hd
        · cases h
      · cases h
    · cases h
  · rename_i ts td p ho
    split at h
    · rename_i k rows e k' sz by' z sz2 by2 z2 hp hs hd
      split at h
      · rename_i hk hk' he hb
        cases h
        have := Nat.eq_of_beq_eq_true hk; subst this
        have := Nat.eq_of_beq_eq_true hk'; subst this
        exact opS_bytesStr ho (by rw [ev_restr (by simp [ho, Op.operands])]; exact hp) hs he hd hb
      · cases h
    · cases h
  · cases h
theorem OpP.len {E : Env} {N : Nat} {o : Oper} {s : Sl} {η : List Ent} {t : TypeId} {x : Operand} {y : AV} {n : Int} (ho : o.op = .call { callee := .builtin .len, args := #[x], argTypes := #[t] }) (hx : ev s x = some y) (hl : lenA E.T t y = some n) : OpP E.toCx N o s η (.v (.int .i64 n)) :=
  OpP.ofS (opS_len ho (by rw [ev_restr (by simp [ho, Op.operands, Call.operands])]; exact hx) hl)
def isNilS : Option AV → Option Bool
  | some (.v (.slice none _ _)) => some true
  | some (.v (.slice (some _) _ _)) => some false
  | some (.sl _ (_ :: _)) => some false
  | _ => none
def boolV : Option AV → Option Bool
  | some (.v (.bool b)) => some b
  | _ => none
theorem boolV_ok {x : Option AV} {b : Bool} (h : boolV x = some b) : x = some (.v (.bool b)) := by
  unfold boolV at h
  split at h
  · simp only [Option.some.injEq] at h; subst h; rfl
  · cases h
def intV : Option AV → Option (IntKind × Int)
  | some (.v (.int k n)) => some (k, n)
  | _ => none
theorem intV_ok {x : Option AV} {k : IntKind} {n : Int} (h : intV x = some (k, n)) : x = some (.v (.int k n)) := by
  unfold intV at h
  split at h
  · simp only [Option.some.injEq, Prod.mk.injEq] at h; obtain ⟨rfl, rfl⟩ := h; rfl
  · cases h
def nop (P : Program) (s : Sl) : Op → Option AV
  | .binOp .eql t x y _ => match P.underlying t, isNilS (ev s x), ev s y with
    | some (.slice _), some b, some (.v (.slice none 0 0)) => some (.v (.bool b))
    | some .bool, _, _ => match boolV (ev s x), boolV (ev s y) with
      | some a, some b => some (.v (.bool (a == b)))
      | _, _ => none
    | _, _, _ => none
  | .binOp .neq t x y _ => match P.underlying t, isNilS (ev s x), ev s y with
    | some (.slice _), some b, some (.v (.slice none 0 0)) => some (.v (.bool !b))
    | some .bool, _, _ => match boolV (ev s x), boolV (ev s y) with
      | some a, some b => some (.v (.bool !(a == b)))
      | _, _ => none
    | _, _, _ => none
  | .call { callee := .builtin .min, args := as, argTypes := _ } => match as.toList with
    | [x, y] => match intV (ev s x), intV (ev s y) with
      | some (k, a), some (_, b) => some (.v (.int k (if b < a then b else a)))
      | _, _ => none
    | _ => none
  | .call { callee := .builtin .max, args := as, argTypes := _ } => match as.toList with
    | [x, y] => match intV (ev s x), intV (ev s y) with
      | some (k, a), some (_, b) => some (.v (.int k (if b > a then b else a)))
      | _, _ => none
    | _ => none
  | _ => none
section
variable {w : World} {A : Nat → Prop} {N : Nat} {a : Act} {s : Sl} {P : Program}
theorem isNilS_ok (hs : SlOk w A N a s) {x : Operand} {b : Bool} (h : isNilS (ev s x) = some b) : ∃ ad n c, a.eval x = .slice ad n c ∧ ad.isNone = b := by
  unfold isNilS at h
  split at h
  · rename_i n c hx
    have := ev_rel hs hx
    simp only [Rel] at this
    cases h
    exact ⟨none, n, c, this, rfl⟩
  · rename_i ad n c hx
    have := ev_rel hs hx
    simp only [Rel] at this
    cases h
    exact ⟨some ad, n, c, this, rfl⟩
  · rename_i k r rows hx
    have := ev_rel hs hx
    simp only [Rel] at this
    cases h
    rcases this with ⟨h1, _⟩ | ⟨b, o, cap, vs, h1, _⟩
    · cases h1
    · exact ⟨_, _, _, h1, rfl⟩
  · cases h
theorem nilSl_eql {t e : TypeId} (hu : P.underlying t = some (.slice e)) (ad : Option Addr) (n c : Nat) (w : World) : (Op.equal t (.slice ad n c) (.slice none 0 0)).run P w = .ok ad.isNone w := by
  have h3 : Op.equal t (.slice ad n c) (.slice none 0 0) = Op.equalIn (9999 + 1) t (.slice ad n c) (.slice none 0 0) := rfl
  rw [h3]
  unfold Op.equalIn
  cases ad <;> simp [run_underlying hu]
theorem nop_run (hs : SlOk w A N a s) {o : Oper} {x : AV} (h : nop P s o.op = some x) : ∃ v, Rel w A x v ∧ ∀ w', (execOp a.eval o).run P w' = .ok (.value v) w' := by
  obtain ⟨dst, op, ty, pos, after, gd⟩ := o
  unfold nop at h
  simp only at h
  split at h
  · rename_i t x y yt
    split at h
    · rename_i e b hu hx hy
      simp only [Option.some.injEq] at h; subst h
      obtain ⟨ad, n, c, h1, rfl⟩ := isNilS_ok hs hx
      have h2 := ev_rel hs hy
      simp only [Rel] at h2
      refine ⟨_, rel_v _, fun w' => ?_⟩
      have h3 : binOp .eql t (.slice ad n c) (.slice none 0 0) = (do pure (.bool (← Op.equal t (.slice ad n c) (.slice none 0 0))) : Sem Value) := rfl
      simp [execOp, h1, h2, eqGuard, h3, nilSl_eql hu]
    · rename_i hu
      split at h
      · rename_i p q hx hy
        simp only [Option.some.injEq] at h; subst h
        have h1 := ev_rel hs (boolV_ok hx)
        have h2 := ev_rel hs (boolV_ok hy)
        simp only [Rel] at h1 h2
        refine ⟨_, rel_v _, fun w' => ?_⟩
        have h3 : binOp .eql t (.bool p) (.bool q) = (do pure (.bool (← Op.equal t (.bool p) (.bool q))) : Sem Value) := rfl
        have h4 : Op.equal t (.bool p) (.bool q) = Op.equalIn (9999 + 1) t (.bool p) (.bool q) := rfl
        simp [execOp, h1, h2, eqGuard, h3, h4, run_equalIn_bool' w' 9999 t p q hu]
      · cases h
    · cases h
  · rename_i t x y yt
    split at h
    · rename_i e b hu hx hy
      simp only [Option.some.injEq] at h; subst h
      obtain ⟨ad, n, c, h1, rfl⟩ := isNilS_ok hs hx
      have h2 := ev_rel hs hy
      simp only [Rel] at h2
      refine ⟨_, rel_v _, fun w' => ?_⟩
      have h3 : binOp .neq t (.slice ad n c) (.slice none 0 0) = (do pure (.bool (!(← Op.equal t (.slice ad n c) (.slice none 0 0)))) : Sem Value) := rfl
      simp [execOp, h1, h2, eqGuard, h3, nilSl_eql hu]
    · rename_i hu
      split at h
      · rename_i p q hx hy
        simp only [Option.some.injEq] at h; subst h
        have h1 := ev_rel hs (boolV_ok hx)
        have h2 := ev_rel hs (boolV_ok hy)
        simp only [Rel] at h1 h2
        refine ⟨_, rel_v _, fun w' => ?_⟩
        have h3 : binOp .neq t (.bool p) (.bool q) = (do pure (.bool (!(← Op.equal t (.bool p) (.bool q)))) : Sem Value) := rfl
        have h4 : Op.equal t (.bool p) (.bool q) = Op.equalIn (9999 + 1) t (.bool p) (.bool q) := rfl
        simp [execOp, h1, h2, eqGuard, h3, h4, run_equalIn_bool' w' 9999 t p q hu]
      · cases h
    · cases h
  · rename_i as ts
    obtain ⟨as⟩ := as
    split at h
    · rename_i x y he
      simp only at he; subst he
      split at h
      · rename_i k p k' q hx hy
        simp only [Option.some.injEq] at h; subst h
        have h1 := ev_rel hs (intV_ok hx)
        have h2 := ev_rel hs (intV_ok hy)
        simp only [Rel] at h1 h2
        refine ⟨_, rel_v _, fun w' => ?_⟩
        simp [execOp, resolve, invoke, builtin, h1, h2, Builtin.min_, Builtin.min2]
      · cases h
    · cases h
  · rename_i as ts
    obtain ⟨as⟩ := as
    split at h
    · rename_i x y he
      simp only at he; subst he
      split at h
      · rename_i k p k' q hx hy
        simp only [Option.some.injEq] at h; subst h
        have h1 := ev_rel hs (intV_ok hx)
        have h2 := ev_rel hs (intV_ok hy)
        simp only [Rel] at h1 h2
        refine ⟨_, rel_v _, fun w' => ?_⟩
        simp [execOp, resolve, invoke, builtin, h1, h2, Builtin.max_, Builtin.max2]
      · cases h
    · cases h
  · cases h
theorem nop_congr {s s' : Sl} {op : Op} (h : ∀ p ∈ op.operands.toList, ev s' p = ev s p) : nop P s' op = nop P s op := by
  unfold nop
  split
  · rename_i t x y yt
    rw [h x (by simp [Op.operands]), h y (by simp [Op.operands])]
  · rename_i t x y yt
    rw [h x (by simp [Op.operands]), h y (by simp [Op.operands])]
  · rename_i as ts
    obtain ⟨as⟩ := as
    simp only
    split
    · rename_i _ x y
      rw [h x (by simp [Op.operands, Call.operands]), h y (by simp [Op.operands, Call.operands])]
    · rfl
  · rename_i as ts
    obtain ⟨as⟩ := as
    simp only
    split
    · rename_i _ x y
      rw [h x (by simp [Op.operands, Call.operands]), h y (by simp [Op.operands, Call.operands])]
    · rfl
  · rfl
end
theorem OpP.nop {E : Env} {N : Nat} {o : Oper} {s : Sl} {η : List Ent} {x : AV} (h : nop E.P s o.op = some x) : OpP E.toCx N o s η x :=
  OpP.ofS fun _ _ _ hs => (nop_run (P := E.P) hs.sg (by rw [nop_congr fun p hp => ev_restr hp]; exact h)).imp fun _ h => ⟨h.1, fun w' _ => h.2 w'⟩
end Go.Bw
