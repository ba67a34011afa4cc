/-
  Own work. From the rows' worlds to the walks: what a call leaves. Own work. A reading of an argument, as a tree of abstract values: what the trees of a type look like, and that the argument is one.
-/
import Derived.Test.YtcngmkedekmkhaaGreatTy
import Derived.Test.YtcngmkedekmkhaaGreatChecked
import Derived.ProofKit
import Derived.OpenShut
import Derived.Deep.DeepHandedRow
import Derived.SevenTiedAt
section
namespace Go.Proofs.YtcngmkedekmkhaaGreat
open Go Go.Bw Go.ChangeShapes Go.WideShapes Go.ChangeAt Go.RowKit
abbrev boolC (b : Bool) : AV := .v (.bool b)
theorem own : ownKnob Tryz.prog.godebug = none := by kernel_rfl
theorem gok_none {W : World} {A : Nat → Prop} : GOk env.toCx.G W A := fun p hp => by cases hp
theorem kept_of_ext {W W' : World} (h : Ext [] W [] W') (may : MemPlace → Prop) : W.keptBut W' may := by
  refine ⟨h.os, h.output, fun i hi => ?_⟩
  rw [h.block i hi (by simp [ids])]
  cases W.heap[i]? with
  | none => rfl
  | some o => cases o <;> simp
end Go.Proofs.YtcngmkedekmkhaaGreat
end

section
namespace Go.Proofs.YtcngmkedekmkhaaGreat
open Go Go.Bw
def contigB (P : Program) : Nat → List Field → Nat → Bool
  | off, [], e => Nat.beq off e
  | off, f :: fs, e => Nat.beq f.offset off && contigB P (off + P.cellsOf f.type) fs e
def ShF (sh : TypeId → List AV → Prop) : List Field → List AV → Prop
  | [], row => row = []
  | f :: fs, row => ∃ r1 r2, row = r1 ++ r2 ∧ sh f.type r1 ∧ ShF sh fs r2
def Sh (P : Program) (B : Nat) : Nat → TypeId → List AV → Prop
  | 0, _, _ => False
  | n + 1, t, row => match P.underlying t with
    | some .bool => ∃ b, row = [.v (.bool b)]
    | some (.int k) => ∃ z, row = [.v (.int k z)] ∧ (Lit.int k z).wf = true
    | some .string => ∃ s, row = [.v (.string s)] ∧ s.size ≤ B
    | some (.slice e) => ∃ rows, row = [.sl (P.cellsOf e) rows] ∧ rows.length ≤ B ∧ ∀ r ∈ rows, Sh P B n e r
    | some (.struct fs) => ShF (Sh P B n) fs.toList row
    | _ => ∃ vs : List Value, row = vs.map .v
abbrev AllA : Nat → Prop := fun _ => True
section
variable {H : Type} {enc : TypeId × Value → H} {P : Program} {w : World} {base : Nat} {sp : Nat → Bool} {held : Bool} {B : Nat}
theorem uptoBulkAll_mem : ∀ {l : List (DataW H)} {d : DataW H}, d ∈ l → Rows.uptoBulk d ≤ Rows.uptoBulkAll l
  | [], _, h => by cases h
  | x :: l, d, h => by
    simp only [Rows.uptoBulkAll]
    rcases List.mem_cons.1 h with rfl | h
    · omega
    · have := uptoBulkAll_mem h; omega
theorem uptoBulk_pos : ∀ d : DataW H, 1 ≤ Rows.uptoBulk d
  | .lit (.string _) => by simp [Rows.uptoBulk]
  | .lit (.bool _) => by simp [Rows.uptoBulk]
  | .lit .nil => by simp [Rows.uptoBulk]
  | .lit (.int _ _) => by simp [Rows.uptoBulk]
  | .lit (.float _ _) => by simp [Rows.uptoBulk]
  | .nil => by simp [Rows.uptoBulk]
  | .ptr _ => by simp [Rows.uptoBulk]
  | .slice _ _ => by simp [Rows.uptoBulk]
  | .agg _ => by simp [Rows.uptoBulk]
  | .iface _ _ => by simp [Rows.uptoBulk]
  | .map _ => by simp [Rows.uptoBulk]
  | .held _ => by simp [Rows.uptoBulk]
theorem uptoBulkAll_length : ∀ l : List (DataW H), l.length ≤ Rows.uptoBulkAll l
  | [] => by simp
  | x :: l => by
    have := uptoBulkAll_length l
    have := uptoBulk_pos x
    simp only [Rows.uptoBulkAll, List.length_cons]; omega
theorem fields_of_trod {n : Nat} {cs : List Value} (ih : ∀ t cs d ps, t < P.types.size → DataW.trod enc P w base sp held n t cs = some (d, ps) → Rows.uptoBulk d ≤ B → ∃ row, Sh P B n t row ∧ RelL w AllA row cs) :
    ∀ (fs : List Field) (off : Nat) (xs : List (DataW H × List MemPlace)), (fs.all fun f => Nat.blt f.type P.types.size) = true → contigB P off fs cs.length = true → xs.length = fs.length →
      (∀ (i : Nat) (f : Field), fs[i]? = some f → DataW.trod enc P w base sp held n f.type ((cs.drop f.offset).take (P.cellsOf f.type)) = xs[i]?) → Rows.uptoBulkAll (xs.map (·.1)) ≤ B → ∃ row, ShF (Sh P B n) fs row ∧ RelL w AllA row (cs.drop off)
  | [], off, xs, _, hc, _, h, hB => by
    simp only [contigB] at hc
    have := Nat.eq_of_beq_eq_true hc
    subst this
    exact ⟨[], by simp [ShF], by simp [RelL]⟩
  | f :: fs, off, [], _, hc, hl, h, hB => by simp at hl
  | f :: fs, off, (d, p) :: ys, ht, hc, hl, h, hB => by
    simp only [List.all_cons, Bool.and_eq_true, Nat.blt_eq] at ht
    simp only [contigB, Bool.and_eq_true] at hc
    obtain ⟨h1, h2⟩ := hc
    have h1 := Nat.eq_of_beq_eq_true h1
    have hd := h 0 f (by simp)
    simp only [List.map_cons, Rows.uptoBulkAll] at hB
    obtain ⟨r1, g1, g2⟩ := ih _ _ d p ht.1 (by simpa using hd) (by omega)
    obtain ⟨r2, k1, k2⟩ := fields_of_trod ih fs _ ys ht.2 h2 (by simpa using hl) (fun i g hg => by simpa using h (i + 1) g (by simpa using hg)) (by omega)
    refine ⟨r1 ++ r2, ⟨r1, r2, rfl, g1, k1⟩, ?_⟩
    have e : cs.drop off = (cs.drop f.offset).take (P.cellsOf f.type) ++ cs.drop (off + P.cellsOf f.type) := by
      rw [h1, ← List.drop_drop, List.take_append_drop]
    rw [e]
    exact g2.append k2
theorem RelRows.snoc {A : Nat → Prop} {k : Nat} {r : List AV} {cs : List Value} (hk : r.length = k) (hr : RelL w A r cs) : ∀ {rows : List (List AV)} {vs : List Value}, RelRows w A k rows vs → RelRows w A k (rows ++ [r]) (vs ++ cs)
  | [], vs, h => by
    simp only [RelRows] at h
    subst h
    simp only [List.nil_append, RelRows]
    exact ⟨cs, [], by simp, hk, hr, rfl⟩
  | x :: xs, vs, h => by
    simp only [RelRows] at h
    obtain ⟨v1, v2, rfl, m1, m2, m3⟩ := h
    simp only [List.cons_append, RelRows, List.append_assoc]
    exact ⟨v1, v2 ++ cs, rfl, m1, m2, RelRows.snoc hk hr m3⟩
theorem addr_add_add (a : Addr) (i j : Nat) : (a.add i).add j = a.add (i + j) := by
  unfold Addr.add
  by_cases hi : i = 0 <;> by_cases hj : j = 0 <;> simp [hi, hj, Nat.add_assoc]
theorem rows_of_cells {e : TypeId} {n : Nat} {a : Addr} (he : e < P.types.size) (ih : ∀ t cs d ps, t < P.types.size → DataW.trod enc P w base sp held n t cs = some (d, ps) → Rows.uptoBulk d ≤ B → ∃ row, Sh P B n t row ∧ RelL w AllA row cs) :
    ∀ (len : Nat) (elems : List (DataW H × List MemPlace)), elems.length = len → Rows.uptoBulkAll (elems.map (·.1)) ≤ B →
      (∀ i, i < len → (w.cells? base (a.add (i * P.cellsOf e)) (P.cellsOf e)).bind (DataW.trod enc P w base sp held n e) = elems[i]?) →
      ∃ rows vs, rows.length = len ∧ (∀ r ∈ rows, Sh P B n e r) ∧ RelRows w AllA (P.cellsOf e) rows vs ∧ ∀ j u, vs[j]? = some u → w.cell? (a.add j) = some u := by
  intro len
  induction len with
  | zero => intro elems hl _ _; exact ⟨[], [], rfl, by simp, by simp [RelRows], by simp⟩
  | succ len ihl =>
    intro elems hl hB hel
    obtain ⟨rows, vs, g1, g2, g3, g4⟩ := ihl (elems.take len) (by simp [hl]) (by
      have : Rows.uptoBulkAll ((elems.take len).map (·.1)) ≤ Rows.uptoBulkAll (elems.map (·.1)) := by
        conv => rhs; rw [← List.take_append_drop len elems]
        rw [List.map_append]
        have happ : ∀ l r : List (DataW H), Rows.uptoBulkAll (l ++ r) = Rows.uptoBulkAll l + Rows.uptoBulkAll r := by
          intro l r
          induction l with
          | nil => simp [Rows.uptoBulkAll]
          | cons x l ih => simp only [List.cons_append, Rows.uptoBulkAll, ih]; omega
        rw [happ]; omega
      omega) (fun i hi => by rw [hel i (by omega), List.getElem?_take]; simp [hi])
    have hlast := hel len (by omega)
    have hle : elems[len]? = some elems[len] := by simp [hl]
    rw [hle] at hlast
    obtain ⟨cs, hc, ht⟩ := Option.bind_eq_some_iff.1 hlast
    obtain ⟨r, k1, k2⟩ := ih e cs elems[len].1 elems[len].2 he (by rw [ht]) (by
      have : elems[len].1 ∈ elems.map (·.1) := List.mem_map.2 ⟨_, List.getElem_mem _, rfl⟩
      have := uptoBulkAll_mem this
      omega)
    obtain ⟨_, hcl, hcell⟩ := World.cells?_some hc
    have hrl : vs.length = len * P.cellsOf e := by rw [g3.length, g1]
    refine ⟨rows ++ [r], vs ++ cs, by simp [g1], ?_, ?_, ?_⟩
    · intro x hx
      rcases List.mem_append.1 hx with hx | hx
      · exact g2 x hx
      · simp only [List.mem_singleton] at hx; subst hx; exact k1
    · have hk2 : r.length = P.cellsOf e := by rw [← k2.length, hcl]
      exact RelRows.snoc hk2 k2 g3
    · intro j u hj
      by_cases hjl : j < vs.length
      · exact g4 j u (by rwa [List.getElem?_append_left hjl] at hj)
      · rw [List.getElem?_append_right (by omega)] at hj
        have hlt : j - vs.length < P.cellsOf e := by
          have := (List.getElem?_eq_some_iff.1 hj).1; omega
        have := hcell (j - vs.length) hlt
        rw [hj] at this
        rw [← this, addr_add_add]
        congr 2
        omega
theorem sh_of_trod (hc : ∀ t fs, t < P.types.size → P.underlying t = some (.struct fs) → contigB P 0 fs.toList (P.cellsOf t) = true ∧ (fs.toList.all fun f => Nat.blt f.type P.types.size) = true) (hk : ∀ t e, t < P.types.size → P.underlying t = some (.slice e) → 1 ≤ P.cellsOf e ∧ e < P.types.size) :
    ∀ (n : Nat) (t : TypeId) (cs : List Value) (d : DataW H) (ps : List MemPlace), t < P.types.size → DataW.trod enc P w base sp held n t cs = some (d, ps) → Rows.uptoBulk d ≤ B → ∃ row, Sh P B n t row ∧ RelL w AllA row cs
  | 0, t, cs, d, ps, _, h, _ => by simp [DataW.trod] at h
  | n + 1, t, cs, d, ps, hts, h, hB => by
    have ih := sh_of_trod hc hk n
    have other : (∃ vs : List Value, (cs.map AV.v) = vs.map .v) ∧ RelL w AllA (cs.map .v) cs := ⟨⟨cs, rfl⟩, relL_map_v cs⟩
    cases hu : P.underlying t with
    | none => exact ⟨cs.map .v, by simp only [Sh, hu]; exact other.1, other.2⟩
    | some u =>
      cases u with
      | bool =>
        obtain ⟨b, rfl, _⟩ := DataW.trod_bool hu h
        exact ⟨[.v (.bool b)], by simp only [Sh, hu]; exact ⟨b, rfl⟩, by simp [RelL, Rel]⟩
      | int k =>
        obtain ⟨z, rfl, _, hz⟩ := DataW.trod_int hu h
        exact ⟨[.v (.int k z)], by simp only [Sh, hu]; exact ⟨z, rfl, hz⟩, by simp [RelL, Rel]⟩
      | string =>
        obtain ⟨s, rfl, hx, _⟩ := DataW.trod_string hu h
        obtain ⟨rfl, _⟩ := Prod.mk.inj hx
        refine ⟨[.v (.string s)], ?_, by simp [RelL, Rel]⟩
        simp only [Sh, hu]
        refine ⟨s, rfl, ?_⟩
        simp only [Rows.uptoBulk, Array.length_toList] at hB
        have : s.size = s.data.size := rfl
        omega
      | slice e =>
        rcases DataW.trod_slice hu h with ⟨rfl, hx⟩ | ⟨a, len, cap, elems, rest, m, hm, rfl, hx, _, hlc, hcm, hel, hcell, _, _⟩
        · refine ⟨[.sl (P.cellsOf e) []], by simp only [Sh, hu]; exact ⟨[], rfl, by simp, by simp⟩, ?_⟩
          simp only [RelL, Rel]
          exact ⟨_, [], rfl, .inl ⟨trivial, none, 0, rfl⟩, rfl⟩
        · obtain rfl : n = m := by omega
          obtain ⟨rfl, _⟩ := Prod.mk.inj hx
          simp only [Rows.uptoBulk] at hB
          obtain ⟨rows, vs, g1, g2, g3, g4⟩ := rows_of_cells (hk t e hts hu).2 ih len elems hel (by omega) hcell
          have hlB : rows.length ≤ B := by
            have := uptoBulkAll_length (elems.map (·.1))
            rw [List.length_map, hel] at this
            omega
          refine ⟨[.sl (P.cellsOf e) rows], by simp only [Sh, hu]; exact ⟨rows, rfl, hlB, g2⟩, ?_⟩
          simp only [RelL, Rel]
          refine ⟨_, [], rfl, ?_, rfl⟩
          by_cases h0 : len = 0
          · subst h0
            exact .inl ⟨List.eq_nil_of_length_eq_zero g1, some a, cap, rfl⟩
          · have hvl : vs.length = len * P.cellsOf e := by rw [g3.length, g1]
            have hk1 := (hk t e hts hu).1
            have hpos : 0 < vs.length := by rw [hvl]; exact Nat.mul_pos (by omega) hk1
            obtain ⟨v0, hv0⟩ : ∃ v0, vs[0]? = some v0 := ⟨vs[0], by simp [hpos]⟩
            have hc0 := g4 0 v0 hv0
            obtain ⟨b, o, spot⟩ := a
            have hspot : spot = none := by
              simp only [Addr.add, if_true] at hc0
              unfold World.cell? at hc0
              split at hc0
              · split at hc0
                · cases hc0
                · rename_i hs; simpa using hs
              · cases hc0
            subst hspot
            refine .inr ⟨b, o, cap, vs, by rw [g1], ⟨?_, trivial⟩, by omega, hcm, g3, fun j u hj => ?_⟩
            · have := lt_of_cell (w := w) (b := b) (o := o) (u := v0) (by simpa [Addr.add] using hc0)
              exact this
            · have := g4 j u hj
              unfold Addr.add at this
              split at this
              · rename_i hj0; subst hj0; simpa using this
              · exact this
      | struct fs =>
        obtain ⟨xs, m, hm, hx, hcl, hxl, hf⟩ := DataW.trod_struct hu h
        obtain rfl : n = m := by omega
        obtain ⟨rfl, _⟩ := Prod.mk.inj hx
        simp only [Rows.uptoBulk] at hB
        obtain ⟨row, g1, g2⟩ := fields_of_trod ih fs.toList 0 xs (hc t fs hts hu).2 (by rw [hcl]; exact (hc t fs hts hu).1) (by simpa using hxl) (fun i f hi => hf i f (by simpa using hi)) (by omega)
        exact ⟨row, by simp only [Sh, hu]; exact g1, by simpa using g2⟩
      | _ => exact ⟨cs.map .v, by simp only [Sh, hu]; exact other.1, other.2⟩
end
end Go.Proofs.YtcngmkedekmkhaaGreat
end
