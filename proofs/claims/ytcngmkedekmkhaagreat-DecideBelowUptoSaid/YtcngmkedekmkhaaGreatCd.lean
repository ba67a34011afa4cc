/-
  Own work. From a law of trees to its row: the reading of all arguments, the call, what the call leaves.
-/
import Derived.Test.YtcngmkedekmkhaaGreatSh
namespace Go.Proofs.YtcngmkedekmkhaaGreat
open Go Go.Bw Go.ChangeShapes Go.WideShapes Go.ChangeAt Go.RowKit
def ArgSh (P : Program) (B : Nat) (t : TypeId) (x : AV) : Prop := match P.underlying t with
  | some (.struct _) => ∃ n row, Sh P B n t row ∧ x = .agg row
  | some (.array _ _) => ∃ n row, Sh P B n t row ∧ x = .agg row
  | _ => ∃ n, Sh P B n t [x]
def ArgShs (P : Program) (B : Nat) : List TypeId → List AV → Prop
  | [], xs => xs = []
  | t :: ts, xs => ∃ x r, xs = x :: r ∧ ArgSh P B t x ∧ ArgShs P B ts r
def argB (P : Program) (t : TypeId) : Bool := Nat.blt t P.types.size && P.readableRec t && match P.underlying t with
  | some (.struct _) => true
  | some (.array _ _) => true
  | some .bool => true
  | some (.int _) => true
  | some .string => true
  | some (.slice _) => true
  | _ => false
theorem laidOut_P : laidOutB Tryz.prog = true := by kernel_rfl
section
variable {H : Type} {enc : TypeId × Value → H} {W W' : World} {base : Nat} {held : Bool} {B : Nat}
set_option maxRecDepth 100000 in
theorem arg_sh {t : TypeId} {v : Value} {d : DataW H} {p : List MemPlace} (hb : argB Tryz.prog t = true) (hv : Value.okWide Tryz.prog W .any base t v) (h : DataW.Trod enc Tryz.prog W 0 (fun _ => true) held t v d p) (hB : Rows.uptoBulk d ≤ B) :
    ∃ x, ArgSh Tryz.prog B t x ∧ Rel W AllA x v := by
  obtain ⟨n, h⟩ := h
  simp only [argB, Bool.and_eq_true, Nat.blt_eq] at hb
  obtain ⟨⟨ht, _⟩, hb⟩ := hb
  obtain ⟨row, h1, h2⟩ := sh_of_trod contig_all slices_all n t v.cells.toList d p ht h hB
  have one : ∀ u, v = u → u.cells = #[u] → ∃ x, row = [x] ∧ Rel W AllA x v := by
    intro u hu hc
    subst hu
    rw [hc] at h2
    cases row with
    | nil => simp [RelL] at h2
    | cons x r =>
      simp only [RelL] at h2
      obtain ⟨y, r', e, h3, h4⟩ := h2
      simp only [List.cons.injEq] at e
      obtain ⟨e1, e2⟩ := e
      subst e1; subst e2
      have := h4.length
      cases r with
      | nil => exact ⟨x, rfl, h3⟩
      | cons _ _ => simp at this
  cases hu : Tryz.prog.underlying t with
  | none => rw [hu] at hb; cases hb
  | some u =>
    rw [hu] at hb
    cases u <;> simp only [Bool.false_eq_true] at hb
    · obtain ⟨b, rfl⟩ := okWide_bool hu hv
      obtain ⟨x, rfl, hx⟩ := one _ rfl rfl
      exact ⟨x, by simp only [ArgSh, hu]; exact ⟨n, h1⟩, hx⟩
    · obtain ⟨b, rfl⟩ := okWide_int hu hv
      obtain ⟨x, rfl, hx⟩ := one _ rfl rfl
      exact ⟨x, by simp only [ArgSh, hu]; exact ⟨n, h1⟩, hx⟩
    · obtain ⟨b, rfl⟩ := okWide_string hu hv
      obtain ⟨x, rfl, hx⟩ := one _ rfl rfl
      exact ⟨x, by simp only [ArgSh, hu]; exact ⟨n, h1⟩, hx⟩
    · obtain ⟨a, l, c, rfl⟩ := okWide_slice hu hv
      obtain ⟨x, rfl, hx⟩ := one _ rfl rfl
      exact ⟨x, by simp only [ArgSh, hu]; exact ⟨n, h1⟩, hx⟩
    · have : ∃ cs, v = .agg cs := by
        simp only [Value.okWide, hu] at hv
        obtain ⟨cs, h1, _⟩ := hv
        exact ⟨cs, h1⟩
      obtain ⟨cs, rfl⟩ := this
      exact ⟨.agg row, by simp only [ArgSh, hu]; exact ⟨n, row, h1, rfl⟩, by simp only [Rel]; exact ⟨cs.toList, by simp, by simpa [Value.cells] using h2⟩⟩
    · have : ∃ cs, v = .agg cs := by
        simp only [Value.okWide, hu] at hv
        obtain ⟨cs, h1, _⟩ := hv
        exact ⟨cs, h1⟩
      obtain ⟨cs, rfl⟩ := this
      exact ⟨.agg row, by simp only [ArgSh, hu]; exact ⟨n, row, h1, rfl⟩, by simp only [Rel]; exact ⟨cs.toList, by simp, by simpa [Value.cells] using h2⟩⟩
set_option maxRecDepth 100000 in
theorem args_sh : ∀ {ts : List TypeId} {vs : List Value} {ds : List (DataW H)} {p : List MemPlace}, ts.all (argB Tryz.prog) = true → (∀ (j : Nat) t v, ts[j]? = some t → vs[j]? = some v → Value.okWide Tryz.prog W .any base t v) →
    DataW.TrodAll enc Tryz.prog W 0 (fun _ => true) true ts vs ds p → Rows.uptoBulkAll ds ≤ B → ∃ xs, ArgShs Tryz.prog B ts xs ∧ RelL W AllA xs vs
  | [], vs, ds, p, _, _, h, _ => by
    obtain ⟨rfl, rfl, rfl⟩ := trodAll_nil h
    exact ⟨[], by simp [ArgShs], by simp [RelL]⟩
  | t :: ts, vs, ds, p, ht, hv, h, hB => by
    obtain ⟨v, vs', d, ds', p1, q1, rfl, rfl, rfl, h1, h2⟩ := trodAll_cons h
    simp only [List.all_cons, Bool.and_eq_true] at ht
    simp only [Rows.uptoBulkAll] at hB
    obtain ⟨x, hx, hr⟩ := arg_sh ht.1 (hv 0 t v rfl rfl) h1 (B := B) (by omega)
    obtain ⟨xs, hxs, hrs⟩ := args_sh ht.2 (fun j t v h1 h2 => hv (j + 1) t v (by simpa using h1) (by simpa using h2)) h2 (by omega)
    exact ⟨x :: xs, ⟨x, xs, rfl, hx, hxs⟩, by simp only [RelL]; exact ⟨v, vs', rfl, hr, hrs⟩⟩
theorem sameAt_ext (h : Ext [] W [] W') {p : MemPlace} (hp : p.block < W.heap.size) : W.sameAt W' p := by
  cases p with
  | cell b o => exact World.cell?_of_block (h.block b hp (by simp [ids]))
  | map b => exact h.block b hp (by simp [ids])
set_option maxRecDepth 100000 in
theorem trodAll_back (hx : Ext [] W [] W') : ∀ {ts : List TypeId} {vs : List Value} {ds : List (DataW H)} {p : List MemPlace}, ts.all (argB Tryz.prog) = true → (∀ q ∈ p, q.block < W.heap.size) →
    DataW.TrodAll enc Tryz.prog W 0 (fun _ => true) true ts vs ds p → DataW.TrodAll enc Tryz.prog W' 0 (fun b => decide (b < W.heap.size)) true ts vs ds p
  | [], vs, ds, p, _, _, h => by
    obtain ⟨rfl, rfl, rfl⟩ := trodAll_nil h
    exact rfl
  | t :: ts, vs, ds, p, ht, hlt, h => by
    obtain ⟨v, vs', d, ds', p1, q1, rfl, rfl, rfl, h1, h2⟩ := trodAll_cons h
    simp only [List.all_cons, Bool.and_eq_true, argB, Nat.blt_eq] at ht
    obtain ⟨⟨⟨h3, h4⟩, _⟩, h5⟩ := ht
    refine ⟨p1, q1, WideElems.Trod_stays laidOut_P h4 h3 h1 (fun q hq => sameAt_ext hx (hlt q (List.mem_append_left _ hq))) (fun q hq => by simpa using hlt q (List.mem_append_left _ hq)), ?_, rfl⟩
    exact trodAll_back hx (by simpa [argB] using h5) (fun q hq => hlt q (List.mem_append_right _ hq)) h2
set_option maxRecDepth 100000 in
theorem law_contract {fid : FuncId} {fn : Func} {s : ChangeSpec} {tb : TypeId} (hvars : s.vars = []) (hfn : ∀ ds : List (DataW H), ds.length = fn.params.toList.length → s.fn H (ds ++ []) = { results := [.lit (.bool true)], args := ds })
    (hres : fn.resultTypes.toList = [tb]) (hsz : fn.resultTypes.size = 1) (hb : Tryz.prog.underlying tb = some .bool) (hts : fn.params.toList.all (argB Tryz.prog) = true) (hlaw : ∀ xs, ArgShs Tryz.prog B fn.params.toList xs → Bw.Pure env.toCx fid xs (.ret (boolC true)))
    {args : Array Value} {ds gs : List (DataW H)} {before : List MemPlace} (hval : ∀ (j : Nat) t v, fn.params[j]? = some t → args[j]? = some v → Value.okWide Tryz.prog W .any base t v)
    (hW : DataW.Whole enc Tryz.prog fn.params.toList s.vars false W args.toList ds gs before) (hG : GOk env.toCx.G W AllA) (hB : Rows.uptoBulkAll (ds ++ gs) ≤ B) :
    Calls Tryz.prog fid args W fun e W' => ∃ v, e = .returned v ∧ s.post enc Tryz.prog fn false true false false W args v W' := by
  have hW' := hW
  have hlt := hW.lt
  obtain ⟨p, q, hA, hV, hpq, _, _⟩ := hW
  rw [hvars] at hV
  obtain ⟨rfl, rfl⟩ := trodVars_none hV
  rw [List.append_nil] at hB hpq
  subst hpq
  have hlen : ds.length = fn.params.toList.length := by
    have key : ∀ {ts : List TypeId} {vs : List Value} {ds : List (DataW H)} {p : List MemPlace}, DataW.TrodAll enc Tryz.prog W 0 (fun _ => true) true ts vs ds p → ds.length = ts.length := by
      intro ts
      induction ts with
      | nil => intro vs ds p h; obtain ⟨rfl, rfl, rfl⟩ := trodAll_nil h; rfl
      | cons t ts ih =>
        intro vs ds p h
        obtain ⟨v, vs', d, ds', p1, q1, rfl, rfl, rfl, h1, h2⟩ := trodAll_cons h
        simp [ih h2]
    exact key hA
  obtain ⟨xs, h1, h2⟩ := args_sh (B := B) (base := base) hts (fun j t v h1 h2 => hval j t v (by simpa using h1) (by simpa using h2)) hA hB
  have hAA : Al (fun _ => False) [] = AllA := funext fun b => by simp [Al, ids, AllA]
  have := (hlaw xs h1).2 (fun _ => False) W args.toList ⟨by simp, by simp [ids], by simp [ids], by simp, by rw [hAA]; exact hG⟩ (by rw [hAA]; exact h2)
  simp only [Array.toArray_toList] at this
  refine this.mono ?_
  rintro e W' ⟨r, η', ⟨rfl, rfl⟩, ⟨v, rfl, hv⟩, _, hx⟩
  simp only [Rel] at hv
  subst hv
  refine ⟨_, rfl, ds, [], before, [], before, [], hW', ?_, ?_, ?_, kept_of_ext hx _, fun h => by cases h⟩
  · rw [hfn ds hlen, hres]
    have : (Value.bool true).resultList fn.resultTypes.size = [.bool true] := by rw [hsz]; rfl
    rw [this]
    exact trodAll_cons_mk (shut_bool hb _) trodAll_mk0
  · rw [hfn ds hlen]
    exact trodAll_back hx hts (fun q hq => hlt q hq) hA
  · rw [hfn ds hlen, hvars]
    exact rfl
end
end Go.Proofs.YtcngmkedekmkhaaGreat
