/-
  Own work, printed by a program. What the functions of the program answer, and that they do.
-/
import Derived.Test.YtdmkbllocddkaaaGreatAw
set_option linter.unusedVariables false
set_option linter.unusedSimpArgs false
namespace Go.Proofs.YtdmkbllocddkaaaGreat
open Go Go.Bw
/- slices.Equal[[]string,string] -/
def F93_L1 (a0 : (List (List UInt8))) (a1 : (List (List UInt8))) : Nat → Int → Option (Bool)
  | 0, _ => none
  | n + 1, s2 => (bif decide (s2 < (↑(rowsS a0).length : Int)) then ((idxO (a0) (s2)).bind fun x4 => ((idxO (a1) (s2)).bind fun x6 => (bif !x4 == x6 then (some (false)) else (F93_L1 a0 a1 n (IntKind.i64.wrap (s2 + 1)))))) else (some (true)))
def F93 (n : Nat) (a0 : (List (List UInt8))) (a1 : (List (List UInt8))) : Option (Bool) := (bif (↑(rowsS a0).length : Int) != (↑(rowsS a1).length : Int) then (some (false)) else (F93_L1 a0 a1 n (0)))
set_option maxRecDepth 100000 in
theorem F93_ok {n : Nat} {a0 : (List (List UInt8))} {a1 : (List (List UInt8))} {r} (hr : F93 n a0 a1 = some r) : Pure env.toCx 93 [(.sl 1 (rowsS a0)), (.sl 1 (rowsS a1))] (.ret (.v (.bool r))) := by
  unfold F93 at hr
  refine Pure.walk (E := env) Tryz.func93 rfl (by kernel_rfl) (rs := _) rfl Tryz.ntmps93 rfl ?_
  refine dr_run mixed 1000 ?_; conv => (arg 3; whnf)
  refine Ok.split ?_ ?_ <;> intro h1 <;> conv => (arg 3; whnf)
  · replace hr := bT h1 hr
    refine Ok.fin eqs_nil ?_
    obtain rfl := Option.some.inj hr
    exact RD.leaf rfl rfl eqs_nil rfl (Imp.refl _)
  replace hr := bF h1 hr
  refine Ok.stuck eqs_nil ?_
  refine DWP.loopA (S := Int) 0 [0, 1, 4, 12] [13] (fun s => [(13, .d (.v (.int .i64 s)))]) (fun s => []) (fun m s => m ≤ n ∧ F93_L1 a0 a1 m s = some r) n (0) rfl rfl rfl rfl rfl rfl ⟨Nat.le_refl _, hr⟩ ?_
  clear hr
  rintro n s2 ⟨hle, hr⟩
  rcases n with _ | n
  · exact noneO hr
  replace hr : F93_L1 a0 a1 (n + 1) s2 = some r := hr
  rw [F93_L1] at hr
  refine dr_run mixed 1000 ?_; conv => (arg 3; whnf)
  refine Ok.split ?_ ?_ <;> intro h3 <;> conv => (arg 3; whnf)
  · replace hr := bT h3 hr
    refine Ok.open (id := 6) [0, 1, 2, 3, 4, 5, 6, 7, 8] [] [] eqs_nil mixed rfl (by kernel_rfl) (by kernel_rfl) ?_
    refine dr_run mixed 1000 ?_; conv => (arg 3; whnf)
    obtain ⟨x4, ex4, hr⟩ := bindO hr
    obtain ⟨j5h, ex4⟩ := idxO_nat ex4
    refine Ok.lexVal eqs_nil rfl rfl rfl (DOpS.toP (DOpS.idx ((s2 : Int).toNat) rfl rfl rfl rfl j5h (rowsS_get ex4))) ?_
    refine dr_run mixed 1000 ?_; conv => (arg 3; whnf)
    obtain ⟨x6, ex6, hr⟩ := bindO hr
    obtain ⟨j7h, ex6⟩ := idxO_nat ex6
    refine Ok.lexVal eqs_nil rfl rfl rfl (DOpS.toP (DOpS.idx ((s2 : Int).toNat) rfl rfl rfl rfl j7h (rowsS_get ex6))) ?_
    refine dr_run mixed 1000 ?_; conv => (arg 3; whnf)
    refine Ok.split ?_ ?_ <;> intro h8 <;> conv => (arg 3; whnf)
    · replace hr := bT h8 hr
      refine Ok.fin eqs_nil ?_
      obtain rfl := Option.some.inj hr
      exact RD.leaf rfl rfl eqs_nil rfl (Imp.refl _)
    replace hr := bF h8 hr
    refine Ok.stuck eqs_nil ?_
    exact DWP.nextA (IntKind.i64.wrap (s2 + 1)) n rfl rfl (by first | rfl | (simp only [gsimp]; rfl) | (simp only [gsimp, List.length_set]; rfl) | (simp only [gcs, gsimp, List.length_set]; rfl)) (by first | rfl | (simp only [gsimp]; rfl) | (simp only [gsimp, List.length_set]; rfl) | (simp only [gcs, gsimp, List.length_set]; rfl)) (by omega) ⟨by omega, by exact hr⟩
  replace hr := bF h3 hr
  refine Ok.fin eqs_nil ?_
  obtain rfl := Option.some.inj hr
  exact RD.leaf rfl rfl eqs_nil rfl (Imp.refl _)
theorem LE_F93 : ∀ n : Nat, (∀ (a0 : (List (List UInt8))) (a1 : (List (List UInt8))) (s2 : Int), Le (F93_L1 a0 a1 n s2) (F93_L1 a0 a1 (n + 1) s2))
  | 0 => fun _ _ _ => Le.zero rfl
  | n + 1 => by
    have i0 := LE_F93 n
    · intro _ _ _
      refine Le.conv (F93_L1.eq_2 ..) (F93_L1.eq_2 ..) ?_
      repeat' (first | with_reducible refine Le.bif ?_ ?_ | with_reducible refine Le.bind ?_ (fun _ => ?_) | with_reducible refine Le.bindR ?_ (fun _ => ?_) | with_reducible refine Le.ctR ?_ (fun _ _ => ?_) (fun _ => ?_) | with_reducible exact i0 .. | with_reducible exact Le.refl _)
theorem F93_L1_le (n : Nat) (a0 : (List (List UInt8))) (a1 : (List (List UInt8))) (s2 : Int) : Le (F93_L1 a0 a1 n s2) (F93_L1 a0 a1 (n + 1) s2) := (LE_F93 n) a0 a1 s2
theorem F93_le (n : Nat) (a0 : (List (List UInt8))) (a1 : (List (List UInt8))) : Le (F93 n a0 a1) (F93 (n + 1) a0 a1) := by
  refine Le.conv (F93.eq_1 ..) (F93.eq_1 ..) ?_
  repeat' (first | with_reducible refine Le.bif ?_ ?_ | with_reducible refine Le.bind ?_ (fun _ => ?_) | with_reducible refine Le.bindR ?_ (fun _ => ?_) | with_reducible refine Le.ctR ?_ (fun _ _ => ?_) (fun _ => ?_) | with_reducible exact F93_L1_le .. | with_reducible exact Le.refl _)
noncomputable def P93_L1 (a0 : (List (List UInt8))) (a1 : (List (List UInt8))) (s2 : Int) : Option (Bool) := lim fun n => F93_L1 a0 a1 n s2
theorem P93_L1_lm (a0 : (List (List UInt8))) (a1 : (List (List UInt8))) (s2 : Int) : Lm (fun n => F93_L1 a0 a1 n s2) (P93_L1 a0 a1 s2) := Lm.of fun n => F93_L1_le n a0 a1 s2
noncomputable def P93 (a0 : (List (List UInt8))) (a1 : (List (List UInt8))) : Option (Bool) := lim fun n => F93 n a0 a1
theorem P93_lm (a0 : (List (List UInt8))) (a1 : (List (List UInt8))) : Lm (fun n => F93 n a0 a1) (P93 a0 a1) := Lm.of fun n => F93_le n a0 a1
theorem P93_L1_eq (a0 : (List (List UInt8))) (a1 : (List (List UInt8))) (s2 : Int) : P93_L1 a0 a1 s2 = (bif decide (s2 < (↑(rowsS a0).length : Int)) then ((idxO (a0) (s2)).bind fun x4 => ((idxO (a1) (s2)).bind fun x6 => (bif !x4 == x6 then (some (false)) else (P93_L1 a0 a1 (IntKind.i64.wrap (s2 + 1)))))) else (some (true))) := by
  refine (P93_L1_lm a0 a1 s2).succ (Lm.conv (fun n => F93_L1.eq_2 ..) ?_)
  repeat' (first | with_reducible refine Lm.bif ?_ ?_ | with_reducible refine Lm.bind ?_ (fun _ => ?_) | with_reducible refine Lm.bindR ?_ (fun _ => ?_) | with_reducible refine Lm.ctR ?_ (fun _ _ => ?_) (fun _ => ?_) | with_reducible exact P93_L1_lm .. | with_reducible exact Lm.const _)
theorem P93_eq (a0 : (List (List UInt8))) (a1 : (List (List UInt8))) : P93 a0 a1 = (bif (↑(rowsS a0).length : Int) != (↑(rowsS a1).length : Int) then (some (false)) else (P93_L1 a0 a1 (0))) := by
  refine (P93_lm a0 a1).uniq (Lm.conv (fun n => F93.eq_1 ..) ?_)
  repeat' (first | with_reducible refine Lm.bif ?_ ?_ | with_reducible refine Lm.bind ?_ (fun _ => ?_) | with_reducible refine Lm.bindR ?_ (fun _ => ?_) | with_reducible refine Lm.ctR ?_ (fun _ _ => ?_) (fun _ => ?_) | with_reducible exact P93_L1_lm .. | with_reducible exact Lm.const _)
/- plexus.lattice.sameRule -/
def F95 (n : Nat) (a0 : TRule) (a1 : TRule) : Option (Bool) := (bif a0.Then == a1.Then then ((F93 n (a0.If) (a1.If)).bind fun y2 => (some (y2))) else (some (false)))
set_option maxRecDepth 100000 in
theorem F95_ok {n : Nat} {a0 : TRule} {a1 : TRule} {r} (hr : F95 n a0 a1 = some r) : Pure env.toCx 95 [(.agg (TRule.cs a0)), (.agg (TRule.cs a1))] (.ret (.v (.bool r))) := by
  unfold F95 at hr
  refine Pure.walk (E := env) Tryz.func95 rfl (by kernel_rfl) (rs := _) rfl Tryz.ntmps95 rfl ?_
  refine dr_run mixed 1000 ?_; conv => (arg 3; whnf)
  refine Ok.split ?_ ?_ <;> intro h1 <;> conv => (arg 3; whnf)
  · replace hr := bT h1 hr
    obtain ⟨y2, ey2, hr⟩ := bindO hr
    replace ey2 := (F93_ok ey2)
    refine Ok.val eqs_nil rfl rfl (DOpP.callF ey2 rfl rfl rfl eqs_nil (ImpL.refl _) (.inl rfl)) ?_
    refine dr_run mixed 1000 ?_; conv => (arg 3; whnf)
    refine Ok.fin eqs_nil ?_
    obtain rfl := Option.some.inj hr
    exact RD.leaf rfl rfl eqs_nil rfl (Imp.refl _)
  replace hr := bF h1 hr
  refine Ok.fin eqs_nil ?_
  obtain rfl := Option.some.inj hr
  exact RD.leaf rfl rfl eqs_nil rfl (Imp.refl _)
theorem F95_le (n : Nat) (a0 : TRule) (a1 : TRule) : Le (F95 n a0 a1) (F95 (n + 1) a0 a1) := by
  refine Le.conv (F95.eq_1 ..) (F95.eq_1 ..) ?_
  repeat' (first | with_reducible refine Le.bif ?_ ?_ | with_reducible refine Le.bind ?_ (fun _ => ?_) | with_reducible refine Le.bindR ?_ (fun _ => ?_) | with_reducible refine Le.ctR ?_ (fun _ _ => ?_) (fun _ => ?_) | with_reducible exact F93_le .. | with_reducible exact Le.refl _)
noncomputable def P95 (a0 : TRule) (a1 : TRule) : Option (Bool) := lim fun n => F95 n a0 a1
theorem P95_lm (a0 : TRule) (a1 : TRule) : Lm (fun n => F95 n a0 a1) (P95 a0 a1) := Lm.of fun n => F95_le n a0 a1
theorem P95_eq (a0 : TRule) (a1 : TRule) : P95 a0 a1 = (bif a0.Then == a1.Then then ((P93 (a0.If) (a1.If)).bind fun y2 => (some (y2))) else (some (false))) := by
  refine (P95_lm a0 a1).uniq (Lm.conv (fun n => F95.eq_1 ..) ?_)
  repeat' (first | with_reducible refine Lm.bif ?_ ?_ | with_reducible refine Lm.bind ?_ (fun _ => ?_) | with_reducible refine Lm.bindR ?_ (fun _ => ?_) | with_reducible refine Lm.ctR ?_ (fun _ _ => ?_) (fun _ => ?_) | with_reducible exact P93_lm .. | with_reducible exact Lm.const _)
/- slices.EqualFunc[[]plexus.api.Rule,[]plexus.api.Rule,plexus.api.Rule,plexus.api.Rule] -/
def F94f95_L1 (a0 : (List TRule)) (a1 : (List TRule)) : Nat → Int → Option (Bool)
  | 0, _ => none
  | n + 1, s2 => (bif decide (s2 < (↑(TRule.rows a0).length : Int)) then ((idxO (a0) (s2)).bind fun x4 => ((idxO (a1) (s2)).bind fun x6 => ((F95 n (x4) (x6)).bind fun y8 => (bif !y8 then (some (false)) else (F94f95_L1 a0 a1 n (IntKind.i64.wrap (s2 + 1))))))) else (some (true)))
def F94f95 (n : Nat) (a0 : (List TRule)) (a1 : (List TRule)) : Option (Bool) := (bif (↑(TRule.rows a0).length : Int) != (↑(TRule.rows a1).length : Int) then (some (false)) else (F94f95_L1 a0 a1 n (0)))
set_option maxRecDepth 100000 in
theorem F94f95_ok {n : Nat} {a0 : (List TRule)} {a1 : (List TRule)} {r} (hr : F94f95 n a0 a1 = some r) : Pure env.toCx 94 [(.sl 2 (TRule.rows a0)), (.sl 2 (TRule.rows a1)), (.v (.func (.func 95) #[] #[]))] (.ret (.v (.bool r))) := by
  unfold F94f95 at hr
  refine Pure.walk (E := env) Tryz.func94 rfl (by kernel_rfl) (rs := _) rfl Tryz.ntmps94 rfl ?_
  refine dr_run mixed 1000 ?_; conv => (arg 3; whnf)
  refine Ok.split ?_ ?_ <;> intro h1 <;> conv => (arg 3; whnf)
  · replace hr := bT h1 hr
    refine Ok.fin eqs_nil ?_
    obtain rfl := Option.some.inj hr
    exact RD.leaf rfl rfl eqs_nil rfl (Imp.refl _)
  replace hr := bF h1 hr
  refine Ok.stuck eqs_nil ?_
  refine DWP.loopA (S := Int) 0 [1, 2, 6, 15, 16] [17] (fun s => [(17, .d (.v (.int .i64 s)))]) (fun s => []) (fun m s => m ≤ n ∧ F94f95_L1 a0 a1 m s = some r) n (0) rfl rfl rfl rfl rfl rfl ⟨Nat.le_refl _, hr⟩ ?_
  clear hr
  rintro n s2 ⟨hle, hr⟩
  rcases n with _ | n
  · exact noneO hr
  replace hr : F94f95_L1 a0 a1 (n + 1) s2 = some r := hr
  rw [F94f95_L1] at hr
  refine dr_run mixed 1000 ?_; conv => (arg 3; whnf)
  refine Ok.split ?_ ?_ <;> intro h3 <;> conv => (arg 3; whnf)
  · replace hr := bT h3 hr
    obtain ⟨x4, ex4, hr⟩ := bindO hr
    obtain ⟨j5h, ex4⟩ := idxO_nat ex4
    refine Ok.val eqs_nil rfl rfl (DOpS.toP (DOpS.idx ((s2 : Int).toNat) rfl rfl rfl rfl j5h (TRule.rows_get ex4))) ?_
    refine dr_run mixed 1000 ?_; conv => (arg 3; whnf)
    obtain ⟨x6, ex6, hr⟩ := bindO hr
    obtain ⟨j7h, ex6⟩ := idxO_nat ex6
    refine Ok.val eqs_nil rfl rfl (DOpS.toP (DOpS.idx ((s2 : Int).toNat) rfl rfl rfl rfl j7h (TRule.rows_get ex6))) ?_
    refine dr_run mixed 1000 ?_; conv => (arg 3; whnf)
    obtain ⟨y8, ey8, hr⟩ := bindO hr
    replace ey8 := (F95_ok ey8)
    refine Ok.val eqs_nil rfl rfl (DOpP.callF ey8 rfl rfl rfl eqs_nil (ImpL.refl _) (.inl rfl)) ?_
    refine dr_run mixed 1000 ?_; conv => (arg 3; whnf)
    refine Ok.split ?_ ?_ <;> intro h9 <;> conv => (arg 3; whnf)
    · replace hr := bT h9 hr
      refine Ok.fin eqs_nil ?_
      obtain rfl := Option.some.inj hr
      exact RD.leaf rfl rfl eqs_nil rfl (Imp.refl _)
    replace hr := bF h9 hr
    refine Ok.stuck eqs_nil ?_
    exact DWP.nextA (IntKind.i64.wrap (s2 + 1)) n rfl rfl (by first | rfl | (simp only [gsimp]; rfl) | (simp only [gsimp, List.length_set]; rfl) | (simp only [gcs, gsimp, List.length_set]; rfl)) (by first | rfl | (simp only [gsimp]; rfl) | (simp only [gsimp, List.length_set]; rfl) | (simp only [gcs, gsimp, List.length_set]; rfl)) (by omega) ⟨by omega, by exact hr⟩
  replace hr := bF h3 hr
  refine Ok.fin eqs_nil ?_
  obtain rfl := Option.some.inj hr
  exact RD.leaf rfl rfl eqs_nil rfl (Imp.refl _)
theorem LE_F94f95 : ∀ n : Nat, (∀ (a0 : (List TRule)) (a1 : (List TRule)) (s2 : Int), Le (F94f95_L1 a0 a1 n s2) (F94f95_L1 a0 a1 (n + 1) s2))
  | 0 => fun _ _ _ => Le.zero rfl
  | n + 1 => by
    have i0 := LE_F94f95 n
    · intro _ _ _
      refine Le.conv (F94f95_L1.eq_2 ..) (F94f95_L1.eq_2 ..) ?_
      repeat' (first | with_reducible refine Le.bif ?_ ?_ | with_reducible refine Le.bind ?_ (fun _ => ?_) | with_reducible refine Le.bindR ?_ (fun _ => ?_) | with_reducible refine Le.ctR ?_ (fun _ _ => ?_) (fun _ => ?_) | with_reducible exact i0 .. | with_reducible exact F95_le .. | with_reducible exact Le.refl _)
theorem F94f95_L1_le (n : Nat) (a0 : (List TRule)) (a1 : (List TRule)) (s2 : Int) : Le (F94f95_L1 a0 a1 n s2) (F94f95_L1 a0 a1 (n + 1) s2) := (LE_F94f95 n) a0 a1 s2
theorem F94f95_le (n : Nat) (a0 : (List TRule)) (a1 : (List TRule)) : Le (F94f95 n a0 a1) (F94f95 (n + 1) a0 a1) := by
  refine Le.conv (F94f95.eq_1 ..) (F94f95.eq_1 ..) ?_
  repeat' (first | with_reducible refine Le.bif ?_ ?_ | with_reducible refine Le.bind ?_ (fun _ => ?_) | with_reducible refine Le.bindR ?_ (fun _ => ?_) | with_reducible refine Le.ctR ?_ (fun _ _ => ?_) (fun _ => ?_) | with_reducible exact F94f95_L1_le .. | with_reducible exact Le.refl _)
noncomputable def P94f95_L1 (a0 : (List TRule)) (a1 : (List TRule)) (s2 : Int) : Option (Bool) := lim fun n => F94f95_L1 a0 a1 n s2
theorem P94f95_L1_lm (a0 : (List TRule)) (a1 : (List TRule)) (s2 : Int) : Lm (fun n => F94f95_L1 a0 a1 n s2) (P94f95_L1 a0 a1 s2) := Lm.of fun n => F94f95_L1_le n a0 a1 s2
noncomputable def P94f95 (a0 : (List TRule)) (a1 : (List TRule)) : Option (Bool) := lim fun n => F94f95 n a0 a1
theorem P94f95_lm (a0 : (List TRule)) (a1 : (List TRule)) : Lm (fun n => F94f95 n a0 a1) (P94f95 a0 a1) := Lm.of fun n => F94f95_le n a0 a1
theorem P94f95_L1_eq (a0 : (List TRule)) (a1 : (List TRule)) (s2 : Int) : P94f95_L1 a0 a1 s2 = (bif decide (s2 < (↑(TRule.rows a0).length : Int)) then ((idxO (a0) (s2)).bind fun x4 => ((idxO (a1) (s2)).bind fun x6 => ((P95 (x4) (x6)).bind fun y8 => (bif !y8 then (some (false)) else (P94f95_L1 a0 a1 (IntKind.i64.wrap (s2 + 1))))))) else (some (true))) := by
  refine (P94f95_L1_lm a0 a1 s2).succ (Lm.conv (fun n => F94f95_L1.eq_2 ..) ?_)
  repeat' (first | with_reducible refine Lm.bif ?_ ?_ | with_reducible refine Lm.bind ?_ (fun _ => ?_) | with_reducible refine Lm.bindR ?_ (fun _ => ?_) | with_reducible refine Lm.ctR ?_ (fun _ _ => ?_) (fun _ => ?_) | with_reducible exact P94f95_L1_lm .. | with_reducible exact P95_lm .. | with_reducible exact Lm.const _)
theorem P94f95_eq (a0 : (List TRule)) (a1 : (List TRule)) : P94f95 a0 a1 = (bif (↑(TRule.rows a0).length : Int) != (↑(TRule.rows a1).length : Int) then (some (false)) else (P94f95_L1 a0 a1 (0))) := by
  refine (P94f95_lm a0 a1).uniq (Lm.conv (fun n => F94f95.eq_1 ..) ?_)
  repeat' (first | with_reducible refine Lm.bif ?_ ?_ | with_reducible refine Lm.bind ?_ (fun _ => ?_) | with_reducible refine Lm.bindR ?_ (fun _ => ?_) | with_reducible refine Lm.ctR ?_ (fun _ _ => ?_) (fun _ => ?_) | with_reducible exact P94f95_L1_lm .. | with_reducible exact Lm.const _)
/- plexus.lattice.Equal · slices.EqualFunc[[]plexus.api.Lattice,[]plexus.api.Lattice,plexus.api.Lattice,plexus.api.Lattice] -/
mutual
def F51 : Nat → TLattice → TLattice → Option (Bool)
  | 0, _, _ => none
  | n + 1, a0, a1 => (bif a0.Kind == a1.Kind then (bif a0.Lo == a1.Lo then (bif a0.Hi == a1.Hi then ((F93 n (a0.Names) (a1.Names)).bind fun y4 => (bif y4 then ((F94f95 n (a0.Rules) (a1.Rules)).bind fun y6 => (bif y6 then ((F96f51 n (a0.Parts) (a1.Parts)).bind fun y8 => (some (y8))) else (some (false)))) else (some (false)))) else (some (false))) else (some (false))) else (some (false)))
def F96f51_L1 (a0 : (List TLattice)) (a1 : (List TLattice)) : Nat → Int → Option (Bool)
  | 0, _ => none
  | n + 1, s2 => (bif decide (s2 < (↑(TLattice.rows a0).length : Int)) then ((idxO (a0) (s2)).bind fun x4 => ((idxO (a1) (s2)).bind fun x6 => ((F51 n (x4) (x6)).bind fun y8 => (bif !y8 then (some (false)) else (F96f51_L1 a0 a1 n (IntKind.i64.wrap (s2 + 1))))))) else (some (true)))
def F96f51 : Nat → (List TLattice) → (List TLattice) → Option (Bool)
  | 0, _, _ => none
  | n + 1, a0, a1 => (bif (↑(TLattice.rows a0).length : Int) != (↑(TLattice.rows a1).length : Int) then (some (false)) else (F96f51_L1 a0 a1 n (0)))
end
set_option maxRecDepth 100000 in
theorem F51_step (n : Nat) (ih_F51 : ∀ m, m ≤ n → ∀ (a0 : TLattice) (a1 : TLattice) r, F51 m a0 a1 = some r → Pure env.toCx 51 [(.agg (TLattice.cs a0)), (.agg (TLattice.cs a1))] (.ret (.v (.bool r)))) (ih_F96f51 : ∀ m, m ≤ n → ∀ (a0 : (List TLattice)) (a1 : (List TLattice)) r, F96f51 m a0 a1 = some r → Pure env.toCx 96 [(.sl 6 (TLattice.rows a0)), (.sl 6 (TLattice.rows a1)), (.v (.func (.func 51) #[] #[]))] (.ret (.v (.bool r)))) {a0 : TLattice} {a1 : TLattice} {r} (hr : F51 (n + 1) a0 a1 = some r) : Pure env.toCx 51 [(.agg (TLattice.cs a0)), (.agg (TLattice.cs a1))] (.ret (.v (.bool r))) := by
  rw [F51] at hr
  have hle0 : n ≤ n := Nat.le_refl n
  refine Pure.walk (E := env) Tryz.func51 rfl (by kernel_rfl) (rs := _) rfl Tryz.ntmps51 rfl ?_
  refine dr_run mixed 1000 ?_; conv => (arg 3; whnf)
  refine Ok.split ?_ ?_ <;> intro h1 <;> conv => (arg 3; whnf)
  · replace hr := bT h1 hr
    refine Ok.split ?_ ?_ <;> intro h2 <;> conv => (arg 3; whnf)
    · replace hr := bT h2 hr
      refine Ok.split ?_ ?_ <;> intro h3 <;> conv => (arg 3; whnf)
      · replace hr := bT h3 hr
        obtain ⟨y4, ey4, hr⟩ := bindO hr
        replace ey4 := (F93_ok ey4)
        refine Ok.val eqs_nil rfl rfl (DOpP.callF ey4 rfl rfl rfl eqs_nil (ImpL.refl _) (.inl rfl)) ?_
        refine dr_run mixed 1000 ?_; conv => (arg 3; whnf)
        refine Ok.split ?_ ?_ <;> intro h5 <;> conv => (arg 3; whnf)
        · replace hr := bT h5 hr
          obtain ⟨y6, ey6, hr⟩ := bindO hr
          replace ey6 := (F94f95_ok ey6)
          refine Ok.val eqs_nil rfl rfl (DOpP.callF ey6 rfl rfl rfl eqs_nil (ImpL.refl _) (.inl rfl)) ?_
          refine dr_run mixed 1000 ?_; conv => (arg 3; whnf)
          refine Ok.split ?_ ?_ <;> intro h7 <;> conv => (arg 3; whnf)
          · replace hr := bT h7 hr
            obtain ⟨y8, ey8, hr⟩ := bindO hr
            replace ey8 := (ih_F96f51 _ (by omega) _ _ _ ey8)
            refine Ok.val eqs_nil rfl rfl (DOpP.callF ey8 rfl rfl rfl eqs_nil (ImpL.refl _) (.inl rfl)) ?_
            refine dr_run mixed 1000 ?_; conv => (arg 3; whnf)
            refine Ok.fin eqs_nil ?_
            obtain rfl := Option.some.inj hr
            exact RD.leaf rfl rfl eqs_nil rfl (Imp.refl _)
          replace hr := bF h7 hr
          refine Ok.fin eqs_nil ?_
          obtain rfl := Option.some.inj hr
          exact RD.leaf rfl rfl eqs_nil rfl (Imp.refl _)
        replace hr := bF h5 hr
        refine Ok.fin eqs_nil ?_
        obtain rfl := Option.some.inj hr
        exact RD.leaf rfl rfl eqs_nil rfl (Imp.refl _)
      replace hr := bF h3 hr
      refine Ok.fin eqs_nil ?_
      obtain rfl := Option.some.inj hr
      exact RD.leaf rfl rfl eqs_nil rfl (Imp.refl _)
    replace hr := bF h2 hr
    refine Ok.fin eqs_nil ?_
    obtain rfl := Option.some.inj hr
    exact RD.leaf rfl rfl eqs_nil rfl (Imp.refl _)
  replace hr := bF h1 hr
  refine Ok.fin eqs_nil ?_
  obtain rfl := Option.some.inj hr
  exact RD.leaf rfl rfl eqs_nil rfl (Imp.refl _)
set_option maxRecDepth 100000 in
theorem F96f51_step (n : Nat) (ih_F51 : ∀ m, m ≤ n → ∀ (a0 : TLattice) (a1 : TLattice) r, F51 m a0 a1 = some r → Pure env.toCx 51 [(.agg (TLattice.cs a0)), (.agg (TLattice.cs a1))] (.ret (.v (.bool r)))) (ih_F96f51 : ∀ m, m ≤ n → ∀ (a0 : (List TLattice)) (a1 : (List TLattice)) r, F96f51 m a0 a1 = some r → Pure env.toCx 96 [(.sl 6 (TLattice.rows a0)), (.sl 6 (TLattice.rows a1)), (.v (.func (.func 51) #[] #[]))] (.ret (.v (.bool r)))) {a0 : (List TLattice)} {a1 : (List TLattice)} {r} (hr : F96f51 (n + 1) a0 a1 = some r) : Pure env.toCx 96 [(.sl 6 (TLattice.rows a0)), (.sl 6 (TLattice.rows a1)), (.v (.func (.func 51) #[] #[]))] (.ret (.v (.bool r))) := by
  rw [F96f51] at hr
  have hle0 : n ≤ n := Nat.le_refl n
  refine Pure.walk (E := env) Tryz.func96 rfl (by kernel_rfl) (rs := _) rfl Tryz.ntmps96 rfl ?_
  refine dr_run mixed 1000 ?_; conv => (arg 3; whnf)
  refine Ok.split ?_ ?_ <;> intro h1 <;> conv => (arg 3; whnf)
  · replace hr := bT h1 hr
    refine Ok.fin eqs_nil ?_
    obtain rfl := Option.some.inj hr
    exact RD.leaf rfl rfl eqs_nil rfl (Imp.refl _)
  replace hr := bF h1 hr
  refine Ok.stuck eqs_nil ?_
  refine DWP.loopA (S := Int) 0 [1, 2, 6, 15, 16] [17] (fun s => [(17, .d (.v (.int .i64 s)))]) (fun s => []) (fun m s => m ≤ n ∧ F96f51_L1 a0 a1 m s = some r) n (0) rfl rfl rfl rfl rfl rfl ⟨Nat.le_refl _, hr⟩ ?_
  clear hr
  rintro n s2 ⟨hle, hr⟩
  rcases n with _ | n
  · exact noneO hr
  replace hr : F96f51_L1 a0 a1 (n + 1) s2 = some r := hr
  rw [F96f51_L1] at hr
  refine dr_run mixed 1000 ?_; conv => (arg 3; whnf)
  refine Ok.split ?_ ?_ <;> intro h3 <;> conv => (arg 3; whnf)
  · replace hr := bT h3 hr
    obtain ⟨x4, ex4, hr⟩ := bindO hr
    obtain ⟨j5h, ex4⟩ := idxO_nat ex4
    refine Ok.val eqs_nil rfl rfl (DOpS.toP (DOpS.idx ((s2 : Int).toNat) rfl rfl rfl rfl j5h (TLattice.rows_get ex4))) ?_
    refine dr_run mixed 1000 ?_; conv => (arg 3; whnf)
    obtain ⟨x6, ex6, hr⟩ := bindO hr
    obtain ⟨j7h, ex6⟩ := idxO_nat ex6
    refine Ok.val eqs_nil rfl rfl (DOpS.toP (DOpS.idx ((s2 : Int).toNat) rfl rfl rfl rfl j7h (TLattice.rows_get ex6))) ?_
    refine dr_run mixed 1000 ?_; conv => (arg 3; whnf)
    obtain ⟨y8, ey8, hr⟩ := bindO hr
    replace ey8 := (ih_F51 _ (by omega) _ _ _ ey8)
    refine Ok.val eqs_nil rfl rfl (DOpP.callF ey8 rfl rfl rfl eqs_nil (ImpL.refl _) (.inl rfl)) ?_
    refine dr_run mixed 1000 ?_; conv => (arg 3; whnf)
    refine Ok.split ?_ ?_ <;> intro h9 <;> conv => (arg 3; whnf)
    · replace hr := bT h9 hr
      refine Ok.fin eqs_nil ?_
      obtain rfl := Option.some.inj hr
      exact RD.leaf rfl rfl eqs_nil rfl (Imp.refl _)
    replace hr := bF h9 hr
    refine Ok.stuck eqs_nil ?_
    exact DWP.nextA (IntKind.i64.wrap (s2 + 1)) n rfl rfl (by first | rfl | (simp only [gsimp]; rfl) | (simp only [gsimp, List.length_set]; rfl) | (simp only [gcs, gsimp, List.length_set]; rfl)) (by first | rfl | (simp only [gsimp]; rfl) | (simp only [gsimp, List.length_set]; rfl) | (simp only [gcs, gsimp, List.length_set]; rfl)) (by omega) ⟨by omega, by exact hr⟩
  replace hr := bF h3 hr
  refine Ok.fin eqs_nil ?_
  obtain rfl := Option.some.inj hr
  exact RD.leaf rfl rfl eqs_nil rfl (Imp.refl _)
theorem SCC_F51 : ∀ N n, n ≤ N → (∀ (a0 : TLattice) (a1 : TLattice) r, F51 n a0 a1 = some r → Pure env.toCx 51 [(.agg (TLattice.cs a0)), (.agg (TLattice.cs a1))] (.ret (.v (.bool r)))) ∧ (∀ (a0 : (List TLattice)) (a1 : (List TLattice)) r, F96f51 n a0 a1 = some r → Pure env.toCx 96 [(.sl 6 (TLattice.rows a0)), (.sl 6 (TLattice.rows a1)), (.v (.func (.func 51) #[] #[]))] (.ret (.v (.bool r))))
  | _, 0, _ => by
    refine ⟨?_, ?_⟩ <;> intros <;> exact noneO ‹_›
  | 0, _ + 1, h => absurd h (by omega)
  | N + 1, n + 1, h => by
    have ih := fun m (hm : m ≤ n) => SCC_F51 N m (by omega)
    exact ⟨fun _ _ _ hr => F51_step n (fun m hm => (ih m hm).1) (fun m hm => (ih m hm).2) hr, fun _ _ _ hr => F96f51_step n (fun m hm => (ih m hm).1) (fun m hm => (ih m hm).2) hr⟩
theorem F51_ok {n : Nat} {a0 : TLattice} {a1 : TLattice} {r} (hr : F51 n a0 a1 = some r) : Pure env.toCx 51 [(.agg (TLattice.cs a0)), (.agg (TLattice.cs a1))] (.ret (.v (.bool r))) := (SCC_F51 n n (Nat.le_refl n)).1 _ _ _ hr
theorem LE_F51 : ∀ n : Nat, (∀ (a0 : (List TLattice)) (a1 : (List TLattice)) (s2 : Int), Le (F96f51_L1 a0 a1 n s2) (F96f51_L1 a0 a1 (n + 1) s2)) ∧ (∀ (a0 : TLattice) (a1 : TLattice), Le (F51 n a0 a1) (F51 (n + 1) a0 a1)) ∧ (∀ (a0 : (List TLattice)) (a1 : (List TLattice)), Le (F96f51 n a0 a1) (F96f51 (n + 1) a0 a1))
  | 0 => ⟨fun _ _ _ => Le.zero rfl, fun _ _ => Le.zero rfl, fun _ _ => Le.zero rfl⟩
  | n + 1 => by
    obtain ⟨i0, i1, i2⟩ := LE_F51 n
    refine ⟨?_, ?_, ?_⟩
    · intro _ _ _
      refine Le.conv (F96f51_L1.eq_2 ..) (F96f51_L1.eq_2 ..) ?_
      repeat' (first | with_reducible refine Le.bif ?_ ?_ | with_reducible refine Le.bind ?_ (fun _ => ?_) | with_reducible refine Le.bindR ?_ (fun _ => ?_) | with_reducible refine Le.ctR ?_ (fun _ _ => ?_) (fun _ => ?_) | with_reducible exact i1 .. | with_reducible exact i0 .. | with_reducible exact Le.refl _)
    · intro _ _
      refine Le.conv (F51.eq_2 ..) (F51.eq_2 ..) ?_
      repeat' (first | with_reducible refine Le.bif ?_ ?_ | with_reducible refine Le.bind ?_ (fun _ => ?_) | with_reducible refine Le.bindR ?_ (fun _ => ?_) | with_reducible refine Le.ctR ?_ (fun _ _ => ?_) (fun _ => ?_) | with_reducible exact F93_le .. | with_reducible exact F94f95_le .. | with_reducible exact i2 .. | with_reducible exact Le.refl _)
    · intro _ _
      refine Le.conv (F96f51.eq_2 ..) (F96f51.eq_2 ..) ?_
      repeat' (first | with_reducible refine Le.bif ?_ ?_ | with_reducible refine Le.bind ?_ (fun _ => ?_) | with_reducible refine Le.bindR ?_ (fun _ => ?_) | with_reducible refine Le.ctR ?_ (fun _ _ => ?_) (fun _ => ?_) | with_reducible exact i0 .. | with_reducible exact Le.refl _)
theorem F96f51_L1_le (n : Nat) (a0 : (List TLattice)) (a1 : (List TLattice)) (s2 : Int) : Le (F96f51_L1 a0 a1 n s2) (F96f51_L1 a0 a1 (n + 1) s2) := (LE_F51 n).1 a0 a1 s2
theorem F51_le (n : Nat) (a0 : TLattice) (a1 : TLattice) : Le (F51 n a0 a1) (F51 (n + 1) a0 a1) := (LE_F51 n).2.1 a0 a1
theorem F96f51_le (n : Nat) (a0 : (List TLattice)) (a1 : (List TLattice)) : Le (F96f51 n a0 a1) (F96f51 (n + 1) a0 a1) := (LE_F51 n).2.2 a0 a1
noncomputable def P96f51_L1 (a0 : (List TLattice)) (a1 : (List TLattice)) (s2 : Int) : Option (Bool) := lim fun n => F96f51_L1 a0 a1 n s2
theorem P96f51_L1_lm (a0 : (List TLattice)) (a1 : (List TLattice)) (s2 : Int) : Lm (fun n => F96f51_L1 a0 a1 n s2) (P96f51_L1 a0 a1 s2) := Lm.of fun n => F96f51_L1_le n a0 a1 s2
noncomputable def P51 (a0 : TLattice) (a1 : TLattice) : Option (Bool) := lim fun n => F51 n a0 a1
theorem P51_lm (a0 : TLattice) (a1 : TLattice) : Lm (fun n => F51 n a0 a1) (P51 a0 a1) := Lm.of fun n => F51_le n a0 a1
noncomputable def P96f51 (a0 : (List TLattice)) (a1 : (List TLattice)) : Option (Bool) := lim fun n => F96f51 n a0 a1
theorem P96f51_lm (a0 : (List TLattice)) (a1 : (List TLattice)) : Lm (fun n => F96f51 n a0 a1) (P96f51 a0 a1) := Lm.of fun n => F96f51_le n a0 a1
theorem P96f51_L1_eq (a0 : (List TLattice)) (a1 : (List TLattice)) (s2 : Int) : P96f51_L1 a0 a1 s2 = (bif decide (s2 < (↑(TLattice.rows a0).length : Int)) then ((idxO (a0) (s2)).bind fun x4 => ((idxO (a1) (s2)).bind fun x6 => ((P51 (x4) (x6)).bind fun y8 => (bif !y8 then (some (false)) else (P96f51_L1 a0 a1 (IntKind.i64.wrap (s2 + 1))))))) else (some (true))) := by
  refine (P96f51_L1_lm a0 a1 s2).succ (Lm.conv (fun n => F96f51_L1.eq_2 ..) ?_)
  repeat' (first | with_reducible refine Lm.bif ?_ ?_ | with_reducible refine Lm.bind ?_ (fun _ => ?_) | with_reducible refine Lm.bindR ?_ (fun _ => ?_) | with_reducible refine Lm.ctR ?_ (fun _ _ => ?_) (fun _ => ?_) | with_reducible exact P51_lm .. | with_reducible exact P96f51_L1_lm .. | with_reducible exact Lm.const _)
theorem P51_eq (a0 : TLattice) (a1 : TLattice) : P51 a0 a1 = (bif a0.Kind == a1.Kind then (bif a0.Lo == a1.Lo then (bif a0.Hi == a1.Hi then ((P93 (a0.Names) (a1.Names)).bind fun y4 => (bif y4 then ((P94f95 (a0.Rules) (a1.Rules)).bind fun y6 => (bif y6 then ((P96f51 (a0.Parts) (a1.Parts)).bind fun y8 => (some (y8))) else (some (false)))) else (some (false)))) else (some (false))) else (some (false))) else (some (false))) := by
  refine (P51_lm a0 a1).succ (Lm.conv (fun n => F51.eq_2 ..) ?_)
  repeat' (first | with_reducible refine Lm.bif ?_ ?_ | with_reducible refine Lm.bind ?_ (fun _ => ?_) | with_reducible refine Lm.bindR ?_ (fun _ => ?_) | with_reducible refine Lm.ctR ?_ (fun _ _ => ?_) (fun _ => ?_) | with_reducible exact P93_lm .. | with_reducible exact P94f95_lm .. | with_reducible exact P96f51_lm .. | with_reducible exact Lm.const _)
theorem P96f51_eq (a0 : (List TLattice)) (a1 : (List TLattice)) : P96f51 a0 a1 = (bif (↑(TLattice.rows a0).length : Int) != (↑(TLattice.rows a1).length : Int) then (some (false)) else (P96f51_L1 a0 a1 (0))) := by
  refine (P96f51_lm a0 a1).succ (Lm.conv (fun n => F96f51.eq_2 ..) ?_)
  repeat' (first | with_reducible refine Lm.bif ?_ ?_ | with_reducible refine Lm.bind ?_ (fun _ => ?_) | with_reducible refine Lm.bindR ?_ (fun _ => ?_) | with_reducible refine Lm.ctR ?_ (fun _ _ => ?_) (fun _ => ?_) | with_reducible exact P96f51_L1_lm .. | with_reducible exact Lm.const _)
/- plexus.types.Same -/
def F21 (n : Nat) (a0 : TType) (a1 : TType) : Option (Bool) := (bif a0.Sort_ == a1.Sort_ then ((F51 n (a0.Lattice) (a1.Lattice)).bind fun y2 => (some (y2))) else (some (false)))
set_option maxRecDepth 100000 in
theorem F21_ok {n : Nat} {a0 : TType} {a1 : TType} {r} (hr : F21 n a0 a1 = some r) : Pure env.toCx 21 [(.agg (TType.cs a0)), (.agg (TType.cs a1))] (.ret (.v (.bool r))) := by
  unfold F21 at hr
  refine Pure.walk (E := env) Tryz.func21 rfl (by kernel_rfl) (rs := _) rfl Tryz.ntmps21 rfl ?_
  refine dr_run mixed 1000 ?_; conv => (arg 3; whnf)
  refine Ok.split ?_ ?_ <;> intro h1 <;> conv => (arg 3; whnf)
  · replace hr := bT h1 hr
    obtain ⟨y2, ey2, hr⟩ := bindO hr
    replace ey2 := (F51_ok ey2)
    refine Ok.val eqs_nil rfl rfl (DOpP.callF ey2 rfl rfl rfl eqs_nil (ImpL.refl _) (.inl rfl)) ?_
    refine dr_run mixed 1000 ?_; conv => (arg 3; whnf)
    refine Ok.fin eqs_nil ?_
    obtain rfl := Option.some.inj hr
    exact RD.leaf rfl rfl eqs_nil rfl (Imp.refl _)
  replace hr := bF h1 hr
  refine Ok.fin eqs_nil ?_
  obtain rfl := Option.some.inj hr
  exact RD.leaf rfl rfl eqs_nil rfl (Imp.refl _)
theorem F21_le (n : Nat) (a0 : TType) (a1 : TType) : Le (F21 n a0 a1) (F21 (n + 1) a0 a1) := by
  refine Le.conv (F21.eq_1 ..) (F21.eq_1 ..) ?_
  repeat' (first | with_reducible refine Le.bif ?_ ?_ | with_reducible refine Le.bind ?_ (fun _ => ?_) | with_reducible refine Le.bindR ?_ (fun _ => ?_) | with_reducible refine Le.ctR ?_ (fun _ _ => ?_) (fun _ => ?_) | with_reducible exact F51_le .. | with_reducible exact Le.refl _)
noncomputable def P21 (a0 : TType) (a1 : TType) : Option (Bool) := lim fun n => F21 n a0 a1
theorem P21_lm (a0 : TType) (a1 : TType) : Lm (fun n => F21 n a0 a1) (P21 a0 a1) := Lm.of fun n => F21_le n a0 a1
theorem P21_eq (a0 : TType) (a1 : TType) : P21 a0 a1 = (bif a0.Sort_ == a1.Sort_ then ((P51 (a0.Lattice) (a1.Lattice)).bind fun y2 => (some (y2))) else (some (false))) := by
  refine (P21_lm a0 a1).uniq (Lm.conv (fun n => F21.eq_1 ..) ?_)
  repeat' (first | with_reducible refine Lm.bif ?_ ?_ | with_reducible refine Lm.bind ?_ (fun _ => ?_) | with_reducible refine Lm.bindR ?_ (fun _ => ?_) | with_reducible refine Lm.ctR ?_ (fun _ _ => ?_) (fun _ => ?_) | with_reducible exact P51_lm .. | with_reducible exact Lm.const _)
/- plexus.plexusref09.names -/
def F70_L1 (a0 : (List (List UInt8))) (a1 : (List (List UInt8))) : Nat → Int → Option (Bool)
  | 0, _ => none
  | n + 1, s2 => (bif decide (s2 < (↑(rowsS a0).length : Int)) then ((idxO (a0) (s2)).bind fun x4 => ((idxO (a1) (s2)).bind fun x6 => (bif !x4 == x6 then (some (false)) else (F70_L1 a0 a1 n (IntKind.i64.wrap (s2 + 1)))))) else (some (true)))
def F70 (n : Nat) (a0 : (List (List UInt8))) (a1 : (List (List UInt8))) : Option (Bool) := (bif (↑(rowsS a0).length : Int) != (↑(rowsS a1).length : Int) then (some (false)) else (F70_L1 a0 a1 n (0)))
set_option maxRecDepth 100000 in
theorem F70_ok {n : Nat} {a0 : (List (List UInt8))} {a1 : (List (List UInt8))} {r} (hr : F70 n a0 a1 = some r) : Pure env.toCx 70 [(.sl 1 (rowsS a0)), (.sl 1 (rowsS a1))] (.ret (.v (.bool r))) := by
  unfold F70 at hr
  refine Pure.walk (E := env) Tryz.func70 rfl (by kernel_rfl) (rs := _) rfl Tryz.ntmps70 rfl ?_
  refine dr_run mixed 1000 ?_; conv => (arg 3; whnf)
  refine Ok.split ?_ ?_ <;> intro h1 <;> conv => (arg 3; whnf)
  · replace hr := bT h1 hr
    refine Ok.fin eqs_nil ?_
    obtain rfl := Option.some.inj hr
    exact RD.leaf rfl rfl eqs_nil rfl (Imp.refl _)
  replace hr := bF h1 hr
  refine Ok.stuck eqs_nil ?_
  refine DWP.loopA (S := Int) 0 [0, 1, 4] [5] (fun s => [(5, .d (.v (.int .i64 s)))]) (fun s => []) (fun m s => m ≤ n ∧ F70_L1 a0 a1 m s = some r) n (0) rfl rfl rfl rfl rfl rfl ⟨Nat.le_refl _, hr⟩ ?_
  clear hr
  rintro n s2 ⟨hle, hr⟩
  rcases n with _ | n
  · exact noneO hr
  replace hr : F70_L1 a0 a1 (n + 1) s2 = some r := hr
  rw [F70_L1] at hr
  refine dr_run mixed 1000 ?_; conv => (arg 3; whnf)
  refine Ok.split ?_ ?_ <;> intro h3 <;> conv => (arg 3; whnf)
  · replace hr := bT h3 hr
    refine Ok.open (id := 6) [0, 1, 2, 3, 4, 5, 6, 7, 8] [] [] eqs_nil mixed rfl (by kernel_rfl) (by kernel_rfl) ?_
    refine dr_run mixed 1000 ?_; conv => (arg 3; whnf)
    obtain ⟨x4, ex4, hr⟩ := bindO hr
    obtain ⟨j5h, ex4⟩ := idxO_nat ex4
    refine Ok.lexVal eqs_nil rfl rfl rfl (DOpS.toP (DOpS.idx ((s2 : Int).toNat) rfl rfl rfl rfl j5h (rowsS_get ex4))) ?_
    refine dr_run mixed 1000 ?_; conv => (arg 3; whnf)
    obtain ⟨x6, ex6, hr⟩ := bindO hr
    obtain ⟨j7h, ex6⟩ := idxO_nat ex6
    refine Ok.lexVal eqs_nil rfl rfl rfl (DOpS.toP (DOpS.idx ((s2 : Int).toNat) rfl rfl rfl rfl j7h (rowsS_get ex6))) ?_
    refine dr_run mixed 1000 ?_; conv => (arg 3; whnf)
    refine Ok.split ?_ ?_ <;> intro h8 <;> conv => (arg 3; whnf)
    · replace hr := bT h8 hr
      refine Ok.fin eqs_nil ?_
      obtain rfl := Option.some.inj hr
      exact RD.leaf rfl rfl eqs_nil rfl (Imp.refl _)
    replace hr := bF h8 hr
    refine Ok.stuck eqs_nil ?_
    exact DWP.nextA (IntKind.i64.wrap (s2 + 1)) n rfl rfl (by first | rfl | (simp only [gsimp]; rfl) | (simp only [gsimp, List.length_set]; rfl) | (simp only [gcs, gsimp, List.length_set]; rfl)) (by first | rfl | (simp only [gsimp]; rfl) | (simp only [gsimp, List.length_set]; rfl) | (simp only [gcs, gsimp, List.length_set]; rfl)) (by omega) ⟨by omega, by exact hr⟩
  replace hr := bF h3 hr
  refine Ok.fin eqs_nil ?_
  obtain rfl := Option.some.inj hr
  exact RD.leaf rfl rfl eqs_nil rfl (Imp.refl _)
theorem LE_F70 : ∀ n : Nat, (∀ (a0 : (List (List UInt8))) (a1 : (List (List UInt8))) (s2 : Int), Le (F70_L1 a0 a1 n s2) (F70_L1 a0 a1 (n + 1) s2))
  | 0 => fun _ _ _ => Le.zero rfl
  | n + 1 => by
    have i0 := LE_F70 n
    · intro _ _ _
      refine Le.conv (F70_L1.eq_2 ..) (F70_L1.eq_2 ..) ?_
      repeat' (first | with_reducible refine Le.bif ?_ ?_ | with_reducible refine Le.bind ?_ (fun _ => ?_) | with_reducible refine Le.bindR ?_ (fun _ => ?_) | with_reducible refine Le.ctR ?_ (fun _ _ => ?_) (fun _ => ?_) | with_reducible exact i0 .. | with_reducible exact Le.refl _)
theorem F70_L1_le (n : Nat) (a0 : (List (List UInt8))) (a1 : (List (List UInt8))) (s2 : Int) : Le (F70_L1 a0 a1 n s2) (F70_L1 a0 a1 (n + 1) s2) := (LE_F70 n) a0 a1 s2
theorem F70_le (n : Nat) (a0 : (List (List UInt8))) (a1 : (List (List UInt8))) : Le (F70 n a0 a1) (F70 (n + 1) a0 a1) := by
  refine Le.conv (F70.eq_1 ..) (F70.eq_1 ..) ?_
  repeat' (first | with_reducible refine Le.bif ?_ ?_ | with_reducible refine Le.bind ?_ (fun _ => ?_) | with_reducible refine Le.bindR ?_ (fun _ => ?_) | with_reducible refine Le.ctR ?_ (fun _ _ => ?_) (fun _ => ?_) | with_reducible exact F70_L1_le .. | with_reducible exact Le.refl _)
noncomputable def P70_L1 (a0 : (List (List UInt8))) (a1 : (List (List UInt8))) (s2 : Int) : Option (Bool) := lim fun n => F70_L1 a0 a1 n s2
theorem P70_L1_lm (a0 : (List (List UInt8))) (a1 : (List (List UInt8))) (s2 : Int) : Lm (fun n => F70_L1 a0 a1 n s2) (P70_L1 a0 a1 s2) := Lm.of fun n => F70_L1_le n a0 a1 s2
noncomputable def P70 (a0 : (List (List UInt8))) (a1 : (List (List UInt8))) : Option (Bool) := lim fun n => F70 n a0 a1
theorem P70_lm (a0 : (List (List UInt8))) (a1 : (List (List UInt8))) : Lm (fun n => F70 n a0 a1) (P70 a0 a1) := Lm.of fun n => F70_le n a0 a1
theorem P70_L1_eq (a0 : (List (List UInt8))) (a1 : (List (List UInt8))) (s2 : Int) : P70_L1 a0 a1 s2 = (bif decide (s2 < (↑(rowsS a0).length : Int)) then ((idxO (a0) (s2)).bind fun x4 => ((idxO (a1) (s2)).bind fun x6 => (bif !x4 == x6 then (some (false)) else (P70_L1 a0 a1 (IntKind.i64.wrap (s2 + 1)))))) else (some (true))) := by
  refine (P70_L1_lm a0 a1 s2).succ (Lm.conv (fun n => F70_L1.eq_2 ..) ?_)
  repeat' (first | with_reducible refine Lm.bif ?_ ?_ | with_reducible refine Lm.bind ?_ (fun _ => ?_) | with_reducible refine Lm.bindR ?_ (fun _ => ?_) | with_reducible refine Lm.ctR ?_ (fun _ _ => ?_) (fun _ => ?_) | with_reducible exact P70_L1_lm .. | with_reducible exact Lm.const _)
theorem P70_eq (a0 : (List (List UInt8))) (a1 : (List (List UInt8))) : P70 a0 a1 = (bif (↑(rowsS a0).length : Int) != (↑(rowsS a1).length : Int) then (some (false)) else (P70_L1 a0 a1 (0))) := by
  refine (P70_lm a0 a1).uniq (Lm.conv (fun n => F70.eq_1 ..) ?_)
  repeat' (first | with_reducible refine Lm.bif ?_ ?_ | with_reducible refine Lm.bind ?_ (fun _ => ?_) | with_reducible refine Lm.bindR ?_ (fun _ => ?_) | with_reducible refine Lm.ctR ?_ (fun _ _ => ?_) (fun _ => ?_) | with_reducible exact P70_L1_lm .. | with_reducible exact Lm.const _)
/- plexus.plexusref09.Equal -/
mutual
def F31_L2 (a0 : TLattice) (a1 : TLattice) : Nat → Int → Option (Bool)
  | 0, _ => none
  | n + 1, s22 => (bif decide (s22 < (↑(TLattice.rows a0.Parts).length : Int)) then ((idxO (a0.Parts) (s22)).bind fun x24 => ((idxO (a1.Parts) (s22)).bind fun x26 => ((F31 n (x24) (x26)).bind fun y28 => (bif !y28 then (some (false)) else (F31_L2 a0 a1 n (IntKind.i64.wrap (s22 + 1))))))) else (some (true)))
def F31_L1 (a0 : TLattice) (a1 : TLattice) : Nat → Bool → Int → Option (Bool)
  | 0, _, _ => none
  | n + 1, s8, s9 => (bif decide (s9 < (↑(TRule.rows a0.Rules).length : Int)) then ((idxO (a0.Rules) (s9)).bind fun x11 => ((idxO (a1.Rules) (s9)).bind fun x13 => (bif !x11.Then == x13.Then then (some (false)) else ((idxO (a0.Rules) (s9)).bind fun x16 => ((idxO (a1.Rules) (s9)).bind fun x18 => ((F70 n (x16.If) (x18.If)).bind fun y20 => (bif !y20 then (some (false)) else (F31_L1 a0 a1 n (s8) (IntKind.i64.wrap (s9 + 1)))))))))) else (F31_L2 a0 a1 n (0)))
def F31 : Nat → TLattice → TLattice → Option (Bool)
  | 0, _, _ => none
  | n + 1, a0, a1 => (bif a0.Kind != a1.Kind then (some (false)) else (bif a0.Lo != a1.Lo then (some (false)) else (bif a0.Hi != a1.Hi then (some (false)) else ((F70 n (a0.Names) (a1.Names)).bind fun y4 => (bif !y4 then (some (false)) else (bif (↑(TLattice.rows a0.Parts).length : Int) != (↑(TLattice.rows a1.Parts).length : Int) then (some (false)) else (bif (↑(TRule.rows a0.Rules).length : Int) != (↑(TRule.rows a1.Rules).length : Int) then (some (false)) else (F31_L1 a0 a1 n (false) (0)))))))))
end
set_option maxRecDepth 100000 in
theorem F31_step (n : Nat) (ih_F31 : ∀ m, m ≤ n → ∀ (a0 : TLattice) (a1 : TLattice) r, F31 m a0 a1 = some r → Pure env.toCx 31 [(.agg (TLattice.cs a0)), (.agg (TLattice.cs a1))] (.ret (.v (.bool r)))) {a0 : TLattice} {a1 : TLattice} {r} (hr : F31 (n + 1) a0 a1 = some r) : Pure env.toCx 31 [(.agg (TLattice.cs a0)), (.agg (TLattice.cs a1))] (.ret (.v (.bool r))) := by
  rw [F31] at hr
  have hle0 : n ≤ n := Nat.le_refl n
  refine Pure.walk (E := env) Tryz.func31 rfl (by kernel_rfl) (rs := _) rfl Tryz.ntmps31 rfl ?_
  refine dr_run mixed 1000 ?_; conv => (arg 3; whnf)
  refine Ok.split ?_ ?_ <;> intro h1 <;> conv => (arg 3; whnf)
  · replace hr := bT h1 hr
    refine Ok.fin eqs_nil ?_
    obtain rfl := Option.some.inj hr
    exact RD.leaf rfl rfl eqs_nil rfl (Imp.refl _)
  replace hr := bF h1 hr
  refine Ok.split ?_ ?_ <;> intro h2 <;> conv => (arg 3; whnf)
  · replace hr := bT h2 hr
    refine Ok.fin eqs_nil ?_
    obtain rfl := Option.some.inj hr
    exact RD.leaf rfl rfl eqs_nil rfl (Imp.refl _)
  replace hr := bF h2 hr
  refine Ok.split ?_ ?_ <;> intro h3 <;> conv => (arg 3; whnf)
  · replace hr := bT h3 hr
    refine Ok.fin eqs_nil ?_
    obtain rfl := Option.some.inj hr
    exact RD.leaf rfl rfl eqs_nil rfl (Imp.refl _)
  replace hr := bF h3 hr
  obtain ⟨y4, ey4, hr⟩ := bindO hr
  replace ey4 := (F70_ok ey4)
  refine Ok.val eqs_nil rfl rfl (DOpP.callF ey4 rfl rfl rfl eqs_nil (ImpL.refl _) (.inl rfl)) ?_
  refine dr_run mixed 1000 ?_; conv => (arg 3; whnf)
  refine Ok.split ?_ ?_ <;> intro h5 <;> conv => (arg 3; whnf)
  · replace hr := bT h5 hr
    refine Ok.fin eqs_nil ?_
    obtain rfl := Option.some.inj hr
    exact RD.leaf rfl rfl eqs_nil rfl (Imp.refl _)
  replace hr := bF h5 hr
  refine Ok.split ?_ ?_ <;> intro h6 <;> conv => (arg 3; whnf)
  · replace hr := bT h6 hr
    refine Ok.fin eqs_nil ?_
    obtain rfl := Option.some.inj hr
    exact RD.leaf rfl rfl eqs_nil rfl (Imp.refl _)
  replace hr := bF h6 hr
  refine Ok.split ?_ ?_ <;> intro h7 <;> conv => (arg 3; whnf)
  · replace hr := bT h7 hr
    refine Ok.fin eqs_nil ?_
    obtain rfl := Option.some.inj hr
    exact RD.leaf rfl rfl eqs_nil rfl (Imp.refl _)
  replace hr := bF h7 hr
  refine Ok.stuck eqs_nil ?_
  refine DWP.loopA (S := Bool × Int) 2 [2, 3] [4, 5] (fun s => [(4, .d (.v (.bool s.1))), (5, .d (.v (.int .i64 s.2)))]) (fun s => []) (fun m s => m ≤ n ∧ F31_L1 a0 a1 m s.1 s.2 = some r) n (false, 0) rfl rfl rfl rfl rfl rfl ⟨Nat.le_refl _, hr⟩ ?_
  clear hr
  rintro n ⟨s8, s9⟩ ⟨hle, hr⟩
  rcases n with _ | n
  · exact noneO hr
  replace hr : F31_L1 a0 a1 (n + 1) s8 s9 = some r := hr
  rw [F31_L1] at hr
  refine dr_run mixed 1000 ?_; conv => (arg 3; whnf)
  refine Ok.split ?_ ?_ <;> intro h10 <;> conv => (arg 3; whnf)
  · replace hr := bT h10 hr
    refine Ok.open (id := 6) [0, 1, 2, 3, 4, 5, 6, 7, 8, 9, 10, 11, 12, 13, 14, 15, 16, 17, 18, 19, 20, 21, 22, 23, 24, 25, 26, 27, 28] [] [] eqs_nil mixed rfl (by kernel_rfl) (by kernel_rfl) ?_
    refine dr_run mixed 1000 ?_; conv => (arg 3; whnf)
    obtain ⟨x11, ex11, hr⟩ := bindO hr
    obtain ⟨j12h, ex11⟩ := idxO_nat ex11
    refine Ok.lexVal eqs_nil rfl rfl rfl (DOpS.toP (DOpS.idx ((s9 : Int).toNat) rfl rfl rfl rfl j12h (TRule.rows_get ex11))) ?_
    refine dr_run mixed 1000 ?_; conv => (arg 3; whnf)
    obtain ⟨x13, ex13, hr⟩ := bindO hr
    obtain ⟨j14h, ex13⟩ := idxO_nat ex13
    refine Ok.lexVal eqs_nil rfl rfl rfl (DOpS.toP (DOpS.idx ((s9 : Int).toNat) rfl rfl rfl rfl j14h (TRule.rows_get ex13))) ?_
    refine dr_run mixed 1000 ?_; conv => (arg 3; whnf)
    refine Ok.split ?_ ?_ <;> intro h15 <;> conv => (arg 3; whnf)
    · replace hr := bT h15 hr
      refine Ok.fin eqs_nil ?_
      obtain rfl := Option.some.inj hr
      exact RD.leaf rfl rfl eqs_nil rfl (Imp.refl _)
    replace hr := bF h15 hr
    obtain ⟨x16, ex16, hr⟩ := bindO hr
    obtain ⟨j17h, ex16⟩ := idxO_nat ex16
    refine Ok.lexVal eqs_nil rfl rfl rfl (DOpS.toP (DOpS.idx ((s9 : Int).toNat) rfl rfl rfl rfl j17h (TRule.rows_get ex16))) ?_
    refine dr_run mixed 1000 ?_; conv => (arg 3; whnf)
    obtain ⟨x18, ex18, hr⟩ := bindO hr
    obtain ⟨j19h, ex18⟩ := idxO_nat ex18
    refine Ok.lexVal eqs_nil rfl rfl rfl (DOpS.toP (DOpS.idx ((s9 : Int).toNat) rfl rfl rfl rfl j19h (TRule.rows_get ex18))) ?_
    refine dr_run mixed 1000 ?_; conv => (arg 3; whnf)
    obtain ⟨y20, ey20, hr⟩ := bindO hr
    replace ey20 := (F70_ok ey20)
    refine Ok.lexVal eqs_nil rfl rfl rfl (DOpP.callF ey20 rfl rfl rfl eqs_nil (ImpL.refl _) (.inl rfl)) ?_
    refine dr_run mixed 1000 ?_; conv => (arg 3; whnf)
    refine Ok.split ?_ ?_ <;> intro h21 <;> conv => (arg 3; whnf)
    · replace hr := bT h21 hr
      refine Ok.fin eqs_nil ?_
      obtain rfl := Option.some.inj hr
      exact RD.leaf rfl rfl eqs_nil rfl (Imp.refl _)
    replace hr := bF h21 hr
    refine Ok.stuck eqs_nil ?_
    exact DWP.nextA (s8, IntKind.i64.wrap (s9 + 1)) n rfl rfl (by first | rfl | (simp only [gsimp]; rfl) | (simp only [gsimp, List.length_set]; rfl) | (simp only [gcs, gsimp, List.length_set]; rfl)) (by first | rfl | (simp only [gsimp]; rfl) | (simp only [gsimp, List.length_set]; rfl) | (simp only [gcs, gsimp, List.length_set]; rfl)) (by omega) ⟨by omega, by exact hr⟩
  replace hr := bF h10 hr
  refine Ok.stuck eqs_nil ?_
  refine DWP.loopA (S := Int) 2 [2, 3, 4, 5] [6] (fun s => [(6, .d (.v (.int .i64 s)))]) (fun s => []) (fun m s => m ≤ n ∧ F31_L2 a0 a1 m s = some r) n (0) rfl rfl rfl rfl rfl rfl ⟨Nat.le_refl _, hr⟩ ?_
  clear hr
  rintro n s22 ⟨hle, hr⟩
  rcases n with _ | n
  · exact noneO hr
  replace hr : F31_L2 a0 a1 (n + 1) s22 = some r := hr
  rw [F31_L2] at hr
  refine dr_run mixed 1000 ?_; conv => (arg 3; whnf)
  refine Ok.split ?_ ?_ <;> intro h23 <;> conv => (arg 3; whnf)
  · replace hr := bT h23 hr
    refine Ok.open (id := 11) [0, 1, 2, 3, 4, 5, 6, 7, 8, 9, 10, 11] [] [] eqs_nil mixed rfl (by kernel_rfl) (by kernel_rfl) ?_
    refine dr_run mixed 1000 ?_; conv => (arg 3; whnf)
    obtain ⟨x24, ex24, hr⟩ := bindO hr
    obtain ⟨j25h, ex24⟩ := idxO_nat ex24
    refine Ok.lexVal eqs_nil rfl rfl rfl (DOpS.toP (DOpS.idx ((s22 : Int).toNat) rfl rfl rfl rfl j25h (TLattice.rows_get ex24))) ?_
    refine dr_run mixed 1000 ?_; conv => (arg 3; whnf)
    obtain ⟨x26, ex26, hr⟩ := bindO hr
    obtain ⟨j27h, ex26⟩ := idxO_nat ex26
    refine Ok.lexVal eqs_nil rfl rfl rfl (DOpS.toP (DOpS.idx ((s22 : Int).toNat) rfl rfl rfl rfl j27h (TLattice.rows_get ex26))) ?_
    refine dr_run mixed 1000 ?_; conv => (arg 3; whnf)
    obtain ⟨y28, ey28, hr⟩ := bindO hr
    replace ey28 := (ih_F31 _ (by omega) _ _ _ ey28)
    refine Ok.lexVal eqs_nil rfl rfl rfl (DOpP.callF ey28 rfl rfl rfl eqs_nil (ImpL.refl _) (.inl rfl)) ?_
    refine dr_run mixed 1000 ?_; conv => (arg 3; whnf)
    refine Ok.split ?_ ?_ <;> intro h29 <;> conv => (arg 3; whnf)
    · replace hr := bT h29 hr
      refine Ok.fin eqs_nil ?_
      obtain rfl := Option.some.inj hr
      exact RD.leaf rfl rfl eqs_nil rfl (Imp.refl _)
    replace hr := bF h29 hr
    refine Ok.stuck eqs_nil ?_
    exact DWP.nextA (IntKind.i64.wrap (s22 + 1)) n rfl rfl (by first | rfl | (simp only [gsimp]; rfl) | (simp only [gsimp, List.length_set]; rfl) | (simp only [gcs, gsimp, List.length_set]; rfl)) (by first | rfl | (simp only [gsimp]; rfl) | (simp only [gsimp, List.length_set]; rfl) | (simp only [gcs, gsimp, List.length_set]; rfl)) (by omega) ⟨by omega, by exact hr⟩
  replace hr := bF h23 hr
  refine Ok.fin eqs_nil ?_
  obtain rfl := Option.some.inj hr
  exact RD.leaf rfl rfl eqs_nil rfl (Imp.refl _)
theorem SCC_F31 : ∀ N n, n ≤ N → (∀ (a0 : TLattice) (a1 : TLattice) r, F31 n a0 a1 = some r → Pure env.toCx 31 [(.agg (TLattice.cs a0)), (.agg (TLattice.cs a1))] (.ret (.v (.bool r))))
  | _, 0, _ => by intros; exact noneO ‹_›
  | 0, _ + 1, h => absurd h (by omega)
  | N + 1, n + 1, h => by
    have ih := fun m (hm : m ≤ n) => SCC_F31 N m (by omega)
    intros; exact F31_step n (fun m hm => ih m hm) ‹_›
theorem F31_ok {n : Nat} {a0 : TLattice} {a1 : TLattice} {r} (hr : F31 n a0 a1 = some r) : Pure env.toCx 31 [(.agg (TLattice.cs a0)), (.agg (TLattice.cs a1))] (.ret (.v (.bool r))) := (SCC_F31 n n (Nat.le_refl n)) _ _ _ hr
theorem LE_F31 : ∀ n : Nat, (∀ (a0 : TLattice) (a1 : TLattice) (s22 : Int), Le (F31_L2 a0 a1 n s22) (F31_L2 a0 a1 (n + 1) s22)) ∧ (∀ (a0 : TLattice) (a1 : TLattice) (s8 : Bool) (s9 : Int), Le (F31_L1 a0 a1 n s8 s9) (F31_L1 a0 a1 (n + 1) s8 s9)) ∧ (∀ (a0 : TLattice) (a1 : TLattice), Le (F31 n a0 a1) (F31 (n + 1) a0 a1))
  | 0 => ⟨fun _ _ _ => Le.zero rfl, fun _ _ _ _ => Le.zero rfl, fun _ _ => Le.zero rfl⟩
  | n + 1 => by
    obtain ⟨i0, i1, i2⟩ := LE_F31 n
    refine ⟨?_, ?_, ?_⟩
    · intro _ _ _
      refine Le.conv (F31_L2.eq_2 ..) (F31_L2.eq_2 ..) ?_
      repeat' (first | with_reducible refine Le.bif ?_ ?_ | with_reducible refine Le.bind ?_ (fun _ => ?_) | with_reducible refine Le.bindR ?_ (fun _ => ?_) | with_reducible refine Le.ctR ?_ (fun _ _ => ?_) (fun _ => ?_) | with_reducible exact i2 .. | with_reducible exact i0 .. | with_reducible exact Le.refl _)
    · intro _ _ _ _
      refine Le.conv (F31_L1.eq_2 ..) (F31_L1.eq_2 ..) ?_
      repeat' (first | with_reducible refine Le.bif ?_ ?_ | with_reducible refine Le.bind ?_ (fun _ => ?_) | with_reducible refine Le.bindR ?_ (fun _ => ?_) | with_reducible refine Le.ctR ?_ (fun _ _ => ?_) (fun _ => ?_) | with_reducible exact i1 .. | with_reducible exact i0 .. | with_reducible exact F70_le .. | with_reducible exact Le.refl _)
    · intro _ _
      refine Le.conv (F31.eq_2 ..) (F31.eq_2 ..) ?_
      repeat' (first | with_reducible refine Le.bif ?_ ?_ | with_reducible refine Le.bind ?_ (fun _ => ?_) | with_reducible refine Le.bindR ?_ (fun _ => ?_) | with_reducible refine Le.ctR ?_ (fun _ _ => ?_) (fun _ => ?_) | with_reducible exact i1 .. | with_reducible exact F70_le .. | with_reducible exact Le.refl _)
theorem F31_L2_le (n : Nat) (a0 : TLattice) (a1 : TLattice) (s22 : Int) : Le (F31_L2 a0 a1 n s22) (F31_L2 a0 a1 (n + 1) s22) := (LE_F31 n).1 a0 a1 s22
theorem F31_L1_le (n : Nat) (a0 : TLattice) (a1 : TLattice) (s8 : Bool) (s9 : Int) : Le (F31_L1 a0 a1 n s8 s9) (F31_L1 a0 a1 (n + 1) s8 s9) := (LE_F31 n).2.1 a0 a1 s8 s9
theorem F31_le (n : Nat) (a0 : TLattice) (a1 : TLattice) : Le (F31 n a0 a1) (F31 (n + 1) a0 a1) := (LE_F31 n).2.2 a0 a1
noncomputable def P31_L2 (a0 : TLattice) (a1 : TLattice) (s22 : Int) : Option (Bool) := lim fun n => F31_L2 a0 a1 n s22
theorem P31_L2_lm (a0 : TLattice) (a1 : TLattice) (s22 : Int) : Lm (fun n => F31_L2 a0 a1 n s22) (P31_L2 a0 a1 s22) := Lm.of fun n => F31_L2_le n a0 a1 s22
noncomputable def P31_L1 (a0 : TLattice) (a1 : TLattice) (s8 : Bool) (s9 : Int) : Option (Bool) := lim fun n => F31_L1 a0 a1 n s8 s9
theorem P31_L1_lm (a0 : TLattice) (a1 : TLattice) (s8 : Bool) (s9 : Int) : Lm (fun n => F31_L1 a0 a1 n s8 s9) (P31_L1 a0 a1 s8 s9) := Lm.of fun n => F31_L1_le n a0 a1 s8 s9
noncomputable def P31 (a0 : TLattice) (a1 : TLattice) : Option (Bool) := lim fun n => F31 n a0 a1
theorem P31_lm (a0 : TLattice) (a1 : TLattice) : Lm (fun n => F31 n a0 a1) (P31 a0 a1) := Lm.of fun n => F31_le n a0 a1
theorem P31_L2_eq (a0 : TLattice) (a1 : TLattice) (s22 : Int) : P31_L2 a0 a1 s22 = (bif decide (s22 < (↑(TLattice.rows a0.Parts).length : Int)) then ((idxO (a0.Parts) (s22)).bind fun x24 => ((idxO (a1.Parts) (s22)).bind fun x26 => ((P31 (x24) (x26)).bind fun y28 => (bif !y28 then (some (false)) else (P31_L2 a0 a1 (IntKind.i64.wrap (s22 + 1))))))) else (some (true))) := by
  refine (P31_L2_lm a0 a1 s22).succ (Lm.conv (fun n => F31_L2.eq_2 ..) ?_)
  repeat' (first | with_reducible refine Lm.bif ?_ ?_ | with_reducible refine Lm.bind ?_ (fun _ => ?_) | with_reducible refine Lm.bindR ?_ (fun _ => ?_) | with_reducible refine Lm.ctR ?_ (fun _ _ => ?_) (fun _ => ?_) | with_reducible exact P31_lm .. | with_reducible exact P31_L2_lm .. | with_reducible exact Lm.const _)
theorem P31_L1_eq (a0 : TLattice) (a1 : TLattice) (s8 : Bool) (s9 : Int) : P31_L1 a0 a1 s8 s9 = (bif decide (s9 < (↑(TRule.rows a0.Rules).length : Int)) then ((idxO (a0.Rules) (s9)).bind fun x11 => ((idxO (a1.Rules) (s9)).bind fun x13 => (bif !x11.Then == x13.Then then (some (false)) else ((idxO (a0.Rules) (s9)).bind fun x16 => ((idxO (a1.Rules) (s9)).bind fun x18 => ((P70 (x16.If) (x18.If)).bind fun y20 => (bif !y20 then (some (false)) else (P31_L1 a0 a1 (s8) (IntKind.i64.wrap (s9 + 1)))))))))) else (P31_L2 a0 a1 (0))) := by
  refine (P31_L1_lm a0 a1 s8 s9).succ (Lm.conv (fun n => F31_L1.eq_2 ..) ?_)
  repeat' (first | with_reducible refine Lm.bif ?_ ?_ | with_reducible refine Lm.bind ?_ (fun _ => ?_) | with_reducible refine Lm.bindR ?_ (fun _ => ?_) | with_reducible refine Lm.ctR ?_ (fun _ _ => ?_) (fun _ => ?_) | with_reducible exact P31_L1_lm .. | with_reducible exact P31_L2_lm .. | with_reducible exact P70_lm .. | with_reducible exact Lm.const _)
theorem P31_eq (a0 : TLattice) (a1 : TLattice) : P31 a0 a1 = (bif a0.Kind != a1.Kind then (some (false)) else (bif a0.Lo != a1.Lo then (some (false)) else (bif a0.Hi != a1.Hi then (some (false)) else ((P70 (a0.Names) (a1.Names)).bind fun y4 => (bif !y4 then (some (false)) else (bif (↑(TLattice.rows a0.Parts).length : Int) != (↑(TLattice.rows a1.Parts).length : Int) then (some (false)) else (bif (↑(TRule.rows a0.Rules).length : Int) != (↑(TRule.rows a1.Rules).length : Int) then (some (false)) else (P31_L1 a0 a1 (false) (0))))))))) := by
  refine (P31_lm a0 a1).succ (Lm.conv (fun n => F31.eq_2 ..) ?_)
  repeat' (first | with_reducible refine Lm.bif ?_ ?_ | with_reducible refine Lm.bind ?_ (fun _ => ?_) | with_reducible refine Lm.bindR ?_ (fun _ => ?_) | with_reducible refine Lm.ctR ?_ (fun _ _ => ?_) (fun _ => ?_) | with_reducible exact P31_L1_lm .. | with_reducible exact P70_lm .. | with_reducible exact Lm.const _)
/- plexus.plexusref18.Same -/
def F22 (n : Nat) (a0 : TType) (a1 : TType) : Option (Bool) := (bif a0.Sort_ == a1.Sort_ then ((F31 n (a0.Lattice) (a1.Lattice)).bind fun y2 => (some (y2))) else (some (false)))
set_option maxRecDepth 100000 in
theorem F22_ok {n : Nat} {a0 : TType} {a1 : TType} {r} (hr : F22 n a0 a1 = some r) : Pure env.toCx 22 [(.agg (TType.cs a0)), (.agg (TType.cs a1))] (.ret (.v (.bool r))) := by
  unfold F22 at hr
  refine Pure.walk (E := env) Tryz.func22 rfl (by kernel_rfl) (rs := _) rfl Tryz.ntmps22 rfl ?_
  refine dr_run mixed 1000 ?_; conv => (arg 3; whnf)
  refine Ok.split ?_ ?_ <;> intro h1 <;> conv => (arg 3; whnf)
  · replace hr := bT h1 hr
    obtain ⟨y2, ey2, hr⟩ := bindO hr
    replace ey2 := (F31_ok ey2)
    refine Ok.val eqs_nil rfl rfl (DOpP.callF ey2 rfl rfl rfl eqs_nil (ImpL.refl _) (.inl rfl)) ?_
    refine dr_run mixed 1000 ?_; conv => (arg 3; whnf)
    refine Ok.fin eqs_nil ?_
    obtain rfl := Option.some.inj hr
    exact RD.leaf rfl rfl eqs_nil rfl (Imp.refl _)
  replace hr := bF h1 hr
  refine Ok.fin eqs_nil ?_
  obtain rfl := Option.some.inj hr
  exact RD.leaf rfl rfl eqs_nil rfl (Imp.refl _)
theorem F22_le (n : Nat) (a0 : TType) (a1 : TType) : Le (F22 n a0 a1) (F22 (n + 1) a0 a1) := by
  refine Le.conv (F22.eq_1 ..) (F22.eq_1 ..) ?_
  repeat' (first | with_reducible refine Le.bif ?_ ?_ | with_reducible refine Le.bind ?_ (fun _ => ?_) | with_reducible refine Le.bindR ?_ (fun _ => ?_) | with_reducible refine Le.ctR ?_ (fun _ _ => ?_) (fun _ => ?_) | with_reducible exact F31_le .. | with_reducible exact Le.refl _)
noncomputable def P22 (a0 : TType) (a1 : TType) : Option (Bool) := lim fun n => F22 n a0 a1
theorem P22_lm (a0 : TType) (a1 : TType) : Lm (fun n => F22 n a0 a1) (P22 a0 a1) := Lm.of fun n => F22_le n a0 a1
theorem P22_eq (a0 : TType) (a1 : TType) : P22 a0 a1 = (bif a0.Sort_ == a1.Sort_ then ((P31 (a0.Lattice) (a1.Lattice)).bind fun y2 => (some (y2))) else (some (false))) := by
  refine (P22_lm a0 a1).uniq (Lm.conv (fun n => F22.eq_1 ..) ?_)
  repeat' (first | with_reducible refine Lm.bif ?_ ?_ | with_reducible refine Lm.bind ?_ (fun _ => ?_) | with_reducible refine Lm.bindR ?_ (fun _ => ?_) | with_reducible refine Lm.ctR ?_ (fun _ _ => ?_) (fun _ => ?_) | with_reducible exact P31_lm .. | with_reducible exact Lm.const _)
/- plexus.plexuslaw18.TypesSame -/
def F5 (n : Nat) (a0 : TType) (a1 : TType) : Option (Bool) := ((F9 n).bind fun y1 => (bif y1 then ((F21 n (a0) (a1)).bind fun y3 => ((F22 n (a0) (a1)).bind fun y4 => (bif y3 == y4 then ((F21 n (a0) (a0)).bind fun y6 => (some (y6))) else (some (false))))) else (some (false))))
set_option maxRecDepth 100000 in
theorem F5_ok {n : Nat} {a0 : TType} {a1 : TType} {r} (hr : F5 n a0 a1 = some r) : Pure env.toCx 5 [(.agg (TType.cs a0)), (.agg (TType.cs a1))] (.ret (.v (.bool r))) := by
  unfold F5 at hr
  refine Pure.walk (E := env) Tryz.func5 rfl (by kernel_rfl) (rs := _) rfl Tryz.ntmps5 rfl ?_
  refine dr_run mixed 1000 ?_; conv => (arg 3; whnf)
  refine Ok.open (id := 1) [0, 1, 2, 3, 4, 5, 6, 7, 8, 9, 10, 11, 12, 13, 14, 15] [] [] eqs_nil mixed rfl (by kernel_rfl) (by kernel_rfl) ?_
  refine dr_run mixed 1000 ?_; conv => (arg 3; whnf)
  obtain ⟨y1, ey1, hr⟩ := bindO hr
  replace ey1 := (F9_ok ey1)
  refine Ok.lexVal eqs_nil rfl rfl rfl (DOpP.callF ey1 rfl rfl rfl eqs_nil (ImpL.refl _) (.inl rfl)) ?_
  refine dr_run mixed 1000 ?_; conv => (arg 3; whnf)
  refine Ok.split ?_ ?_ <;> intro h2 <;> conv => (arg 3; whnf)
  · replace hr := bT h2 hr
    obtain ⟨y3, ey3, hr⟩ := bindO hr
    replace ey3 := (F21_ok ey3)
    refine Ok.lexVal eqs_nil rfl rfl rfl (DOpP.callF ey3 rfl rfl rfl eqs_nil (ImpL.refl _) (.inl rfl)) ?_
    refine dr_run mixed 1000 ?_; conv => (arg 3; whnf)
    obtain ⟨y4, ey4, hr⟩ := bindO hr
    replace ey4 := (F22_ok ey4)
    refine Ok.lexVal eqs_nil rfl rfl rfl (DOpP.callF ey4 rfl rfl rfl eqs_nil (ImpL.refl _) (.inl rfl)) ?_
    refine dr_run mixed 1000 ?_; conv => (arg 3; whnf)
    refine Ok.lexVal eqs_nil rfl rfl rfl (DOpS.toP (DOpS.boolEq rfl (by kernel_rfl) rfl rfl)) ?_
    refine dr_run mixed 1000 ?_; conv => (arg 3; whnf)
    refine Ok.split ?_ ?_ <;> intro h5 <;> conv => (arg 3; whnf)
    · replace hr := bT h5 hr
      obtain ⟨y6, ey6, hr⟩ := bindO hr
      replace ey6 := (F21_ok ey6)
      refine Ok.lexVal eqs_nil rfl rfl rfl (DOpP.callF ey6 rfl rfl rfl eqs_nil (ImpL.refl _) (.inl rfl)) ?_
      refine dr_run mixed 1000 ?_; conv => (arg 3; whnf)
      refine Ok.fin eqs_nil ?_
      obtain rfl := Option.some.inj hr
      exact RD.leaf rfl rfl eqs_nil rfl (Imp.refl _)
    replace hr := bF h5 hr
    refine Ok.fin eqs_nil ?_
    obtain rfl := Option.some.inj hr
    exact RD.leaf rfl rfl eqs_nil rfl (Imp.refl _)
  replace hr := bF h2 hr
  refine Ok.fin eqs_nil ?_
  obtain rfl := Option.some.inj hr
  exact RD.leaf rfl rfl eqs_nil rfl (Imp.refl _)
theorem F5_le (n : Nat) (a0 : TType) (a1 : TType) : Le (F5 n a0 a1) (F5 (n + 1) a0 a1) := by
  refine Le.conv (F5.eq_1 ..) (F5.eq_1 ..) ?_
  repeat' (first | with_reducible refine Le.bif ?_ ?_ | with_reducible refine Le.bind ?_ (fun _ => ?_) | with_reducible refine Le.bindR ?_ (fun _ => ?_) | with_reducible refine Le.ctR ?_ (fun _ _ => ?_) (fun _ => ?_) | with_reducible exact F21_le .. | with_reducible exact F22_le .. | with_reducible exact F9_le .. | with_reducible exact Le.refl _)
noncomputable def P5 (a0 : TType) (a1 : TType) : Option (Bool) := lim fun n => F5 n a0 a1
theorem P5_lm (a0 : TType) (a1 : TType) : Lm (fun n => F5 n a0 a1) (P5 a0 a1) := Lm.of fun n => F5_le n a0 a1
theorem P5_eq (a0 : TType) (a1 : TType) : P5 a0 a1 = ((P9).bind fun y1 => (bif y1 then ((P21 (a0) (a1)).bind fun y3 => ((P22 (a0) (a1)).bind fun y4 => (bif y3 == y4 then ((P21 (a0) (a0)).bind fun y6 => (some (y6))) else (some (false))))) else (some (false)))) := by
  refine (P5_lm a0 a1).uniq (Lm.conv (fun n => F5.eq_1 ..) ?_)
  repeat' (first | with_reducible refine Lm.bif ?_ ?_ | with_reducible refine Lm.bind ?_ (fun _ => ?_) | with_reducible refine Lm.bindR ?_ (fun _ => ?_) | with_reducible refine Lm.ctR ?_ (fun _ _ => ?_) (fun _ => ?_) | with_reducible exact P21_lm .. | with_reducible exact P22_lm .. | with_reducible exact P9_lm .. | with_reducible exact Lm.const _)
theorem P5_ok {a0 : TType} {a1 : TType} {r} (h : P5 a0 a1 = some r) : Pure env.toCx 5 [(.agg (TType.cs a0)), (.agg (TType.cs a1))] (.ret (.v (.bool r))) := by obtain ⟨n, hn⟩ := lim_ex h; exact F5_ok hn
end Go.Proofs.YtdmkbllocddkaaaGreat
