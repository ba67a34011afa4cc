/-
  Own work, printed by a program. What the functions of the program answer, and that they do. Own work, printed by a program. What the functions of the program answer, and that they do.
-/
import Derived.Test.YtdmkbllocddkaaaGreatTy
section
set_option linter.unusedVariables false
set_option linter.unusedSimpArgs false
namespace Go.Proofs.YtdmkbllocddkaaaGreat
open Go Go.Bw
/- plexus.plexusref15.fault -/
def F178 (n : Nat) (a0 : Int) (a1 : Int) : Option ((TToken × Int × TFault)) := (some (({ Kind := 0, Text := [], N := 0, At := 0 : TToken }, 0, { Code := a0, At := a1 : TFault })))
set_option maxRecDepth 100000 in
theorem F178_ok {n : Nat} {a0 : Int} {a1 : Int} {r} (hr : F178 n a0 a1 = some r) : Pure env.toCx 178 [(.v (.int .i64 a0)), (.v (.int .i64 a1))] (.ret (.tup [(.agg (TToken.cs r.1)), (.v (.int .i64 r.2.1)), (.agg (TFault.cs r.2.2))])) := by
  unfold F178 at hr
  refine Pure.walk (E := env) Tryz.func178 rfl (by kernel_rfl) (rs := _) rfl Tryz.ntmps178 rfl ?_
  refine dr_run mixed 1000 ?_; conv => (arg 3; whnf)
  refine Ok.fin eqs_nil ?_
  obtain rfl := Option.some.inj hr
  exact RD.leaf rfl rfl eqs_nil rfl (Imp.refl _)
/- plexus.plexusref15.blank -/
def F220 (n : Nat) (a0 : Int) : Option (Bool) := (bif a0 == 32 then (some (true)) else (bif a0 == 9 then (some (true)) else (bif a0 == 10 then (some (true)) else (some (a0 == 13)))))
set_option maxRecDepth 100000 in
theorem F220_ok {n : Nat} {a0 : Int} {r} (hr : F220 n a0 = some r) : Pure env.toCx 220 [(.v (.int .u8 a0))] (.ret (.v (.bool r))) := by
  unfold F220 at hr
  refine Pure.walk (E := env) Tryz.func220 rfl (by kernel_rfl) (rs := _) rfl Tryz.ntmps220 rfl ?_
  refine dr_run mixed 1000 ?_; conv => (arg 3; whnf)
  refine Ok.split ?_ ?_ <;> intro h1 <;> conv => (arg 3; whnf)
  · replace hr := bT h1 hr
    refine Ok.fin eqs_nil ?_
    obtain rfl := Option.some.inj hr
    exact RD.leaf rfl rfl eqs_nil rfl (Imp.refl _)
  replace hr := bF h1 hr
  refine Ok.split ?_ ?_ <;> intro h2 <;> conv => (arg 3; whnf)
  · replace hr := bT h2 hr
    refine Ok.fin eqs_nil ?_
    obtain rfl := Option.some.inj hr
    exact RD.leaf rfl rfl eqs_nil rfl (Imp.refl _)
  replace hr := bF h2 hr
  refine Ok.split ?_ ?_ <;> intro h3 <;> conv => (arg 3; whnf)
  · replace hr := bT h3 hr
    refine Ok.fin eqs_nil ?_
    obtain rfl := Option.some.inj hr
    exact RD.leaf rfl rfl eqs_nil rfl (Imp.refl _)
  replace hr := bF h3 hr
  refine Ok.fin eqs_nil ?_
  obtain rfl := Option.some.inj hr
  exact RD.leaf rfl rfl eqs_nil rfl (Imp.refl _)
/- plexus.plexusref15.skip -/
mutual
def F179_L2 (a0 : (List UInt8)) (a1 : Int) (s1 : Int) (x3 : UInt8) (y5 : Bool) (x7 : UInt8) : Nat → Int → Option (Int)
  | 0, _ => none
  | n + 1, s10 => (bif decide (s10 < (↑a0.length : Int)) then ((idxO ((a0) : List UInt8) (s10)).bind fun x12 => (bif (↑x12.toNat : Int) != 10 then (F179_L2 a0 a1 s1 x3 y5 x7 n (IntKind.i64.wrap (s10 + 1))) else (F179_L1 a0 a1 n (s10)))) else (F179_L1 a0 a1 n (s10)))
def F179_L3 (a0 : (List UInt8)) (a1 : Int) (s1 : Int) (x3 : UInt8) (y5 : Bool) (x15 : UInt8) (x18 : UInt8) : Nat → Int → Option (Int)
  | 0, _ => none
  | n + 1, s21 => (bif decide (s21 < (↑a0.length : Int)) then ((idxO ((a0) : List UInt8) (s21)).bind fun x23 => (bif (↑x23.toNat : Int) != 10 then (F179_L3 a0 a1 s1 x3 y5 x15 x18 n (IntKind.i64.wrap (s21 + 1))) else (F179_L1 a0 a1 n (s21)))) else (F179_L1 a0 a1 n (s21)))
def F179_L1 (a0 : (List UInt8)) (a1 : Int) : Nat → Int → Option (Int)
  | 0, _ => none
  | n + 1, s1 => (bif decide (s1 < (↑a0.length : Int)) then ((idxO ((a0) : List UInt8) (s1)).bind fun x3 => ((F220 n ((↑x3.toNat : Int))).bind fun y5 => (bif y5 then ((idxO ((a0) : List UInt8) (s1)).bind fun x7 => (bif (↑x7.toNat : Int) != 35 then (F179_L1 a0 a1 n (IntKind.i64.wrap (s1 + 1))) else (F179_L2 a0 a1 s1 x3 y5 x7 n (s1)))) else ((idxO ((a0) : List UInt8) (s1)).bind fun x15 => (bif (↑x15.toNat : Int) == 35 then ((idxO ((a0) : List UInt8) (s1)).bind fun x18 => (bif (↑x18.toNat : Int) != 35 then (F179_L1 a0 a1 n (IntKind.i64.wrap (s1 + 1))) else (F179_L3 a0 a1 s1 x3 y5 x15 x18 n (s1)))) else (some (s1))))))) else (some (s1)))
end
def F179 (n : Nat) (a0 : (List UInt8)) (a1 : Int) : Option (Int) := (F179_L1 a0 a1 n (a1))
set_option maxRecDepth 100000 in
theorem F179_ok {n : Nat} {a0 : (List UInt8)} {a1 : Int} {r} (hr : F179 n a0 a1 = some r) : Pure env.toCx 179 [(.v (.string ⟨⟨a0⟩⟩)), (.v (.int .i64 a1))] (.ret (.v (.int .i64 r))) := by
  unfold F179 at hr
  refine Pure.walk (E := env) Tryz.func179 rfl (by kernel_rfl) (rs := _) rfl Tryz.ntmps179 rfl ?_
  refine dr_run mixed 1000 ?_; conv => (arg 3; whnf)
  refine Ok.stuck eqs_nil ?_
  refine DWP.loopA (S := Int) 0 [0, 4] [1] (fun s => [(1, .d (.v (.int .i64 s)))]) (fun s => []) (fun m s => m ≤ n ∧ F179_L1 a0 a1 m s = some r) n (a1) rfl rfl rfl rfl rfl rfl ⟨Nat.le_refl _, hr⟩ ?_
  clear hr
  rintro n s1 ⟨hle, hr⟩
  rcases n with _ | n
  · exact noneO hr
  replace hr : F179_L1 a0 a1 (n + 1) s1 = some r := hr
  rw [F179_L1] at hr
  refine dr_run mixed 1000 ?_; conv => (arg 3; whnf)
  refine Ok.split ?_ ?_ <;> intro h2 <;> conv => (arg 3; whnf)
  · replace hr := bT h2 hr
    obtain ⟨x3, ex3, hr⟩ := bindO hr
    obtain ⟨j4h, ex3⟩ := idxO_nat ex3
    refine Ok.val eqs_nil rfl rfl (DOpS.toP (DOpS.strIdx ((s1 : Int).toNat) rfl rfl rfl rfl j4h ex3)) ?_
    refine dr_run mixed 1000 ?_; conv => (arg 3; whnf)
    obtain ⟨y5, ey5, hr⟩ := bindO hr
    replace ey5 := (F220_ok ey5)
    refine Ok.val eqs_nil rfl rfl (DOpP.callF ey5 rfl rfl rfl eqs_nil (ImpL.refl _) (.inl rfl)) ?_
    refine dr_run mixed 1000 ?_; conv => (arg 3; whnf)
    refine Ok.split ?_ ?_ <;> intro h6 <;> conv => (arg 3; whnf)
    · replace hr := bT h6 hr
      obtain ⟨x7, ex7, hr⟩ := bindO hr
      obtain ⟨j8h, ex7⟩ := idxO_nat ex7
      refine Ok.val eqs_nil rfl rfl (DOpS.toP (DOpS.strIdx ((s1 : Int).toNat) rfl rfl rfl rfl j8h ex7)) ?_
      refine dr_run mixed 1000 ?_; conv => (arg 3; whnf)
      refine Ok.split ?_ ?_ <;> intro h9 <;> conv => (arg 3; whnf)
      · replace hr := bT h9 hr
        refine Ok.stuck eqs_nil ?_
        exact DWP.nextA (IntKind.i64.wrap (s1 + 1)) n rfl rfl (by first | rfl | (simp only [gsimp]; rfl) | (simp only [gsimp, List.length_set]; rfl) | (simp only [gcs, gsimp, List.length_set]; rfl)) (by first | rfl | (simp only [gsimp]; rfl) | (simp only [gsimp, List.length_set]; rfl) | (simp only [gcs, gsimp, List.length_set]; rfl)) (by omega) ⟨by omega, by exact hr⟩
      replace hr := bF h9 hr
      refine Ok.stuck eqs_nil ?_
      refine DWP.loopA (S := Int) 0 [0, 4] [1] (fun s => [(1, .d (.v (.int .i64 s)))]) (fun s => []) (fun m s => m ≤ n ∧ F179_L2 a0 a1 s1 x3 y5 x7 m s = some r) n (s1) rfl rfl rfl rfl rfl rfl ⟨Nat.le_refl _, hr⟩ ?_
      clear hr
      rintro n s10 ⟨hle, hr⟩
      rcases n with _ | n
      · exact noneO hr
      replace hr : F179_L2 a0 a1 s1 x3 y5 x7 (n + 1) s10 = some r := hr
      rw [F179_L2] at hr
      refine dr_run mixed 1000 ?_; conv => (arg 3; whnf)
      refine Ok.split ?_ ?_ <;> intro h11 <;> conv => (arg 3; whnf)
      · replace hr := bT h11 hr
        obtain ⟨x12, ex12, hr⟩ := bindO hr
        obtain ⟨j13h, ex12⟩ := idxO_nat ex12
        refine Ok.val eqs_nil rfl rfl (DOpS.toP (DOpS.strIdx ((s10 : Int).toNat) rfl rfl rfl rfl j13h ex12)) ?_
        refine dr_run mixed 1000 ?_; conv => (arg 3; whnf)
        refine Ok.split ?_ ?_ <;> intro h14 <;> conv => (arg 3; whnf)
        · replace hr := bT h14 hr
          refine Ok.stuck eqs_nil ?_
          exact DWP.nextA (IntKind.i64.wrap (s10 + 1)) n rfl rfl (by first | rfl | (simp only [gsimp]; rfl) | (simp only [gsimp, List.length_set]; rfl) | (simp only [gcs, gsimp, List.length_set]; rfl)) (by first | rfl | (simp only [gsimp]; rfl) | (simp only [gsimp, List.length_set]; rfl) | (simp only [gcs, gsimp, List.length_set]; rfl)) (by omega) ⟨by omega, by exact hr⟩
        replace hr := bF h14 hr
        refine Ok.stuck eqs_nil ?_
        exact DWP.nextA (s10) n rfl rfl (by first | rfl | (simp only [gsimp]; rfl) | (simp only [gsimp, List.length_set]; rfl) | (simp only [gcs, gsimp, List.length_set]; rfl)) (by first | rfl | (simp only [gsimp]; rfl) | (simp only [gsimp, List.length_set]; rfl) | (simp only [gcs, gsimp, List.length_set]; rfl)) (by omega) ⟨by omega, by exact hr⟩
      replace hr := bF h11 hr
      refine Ok.stuck eqs_nil ?_
      exact DWP.nextA (s10) n rfl rfl (by first | rfl | (simp only [gsimp]; rfl) | (simp only [gsimp, List.length_set]; rfl) | (simp only [gcs, gsimp, List.length_set]; rfl)) (by first | rfl | (simp only [gsimp]; rfl) | (simp only [gsimp, List.length_set]; rfl) | (simp only [gcs, gsimp, List.length_set]; rfl)) (by omega) ⟨by omega, by exact hr⟩
    replace hr := bF h6 hr
    obtain ⟨x15, ex15, hr⟩ := bindO hr
    obtain ⟨j16h, ex15⟩ := idxO_nat ex15
    refine Ok.val eqs_nil rfl rfl (DOpS.toP (DOpS.strIdx ((s1 : Int).toNat) rfl rfl rfl rfl j16h ex15)) ?_
    refine dr_run mixed 1000 ?_; conv => (arg 3; whnf)
    refine Ok.split ?_ ?_ <;> intro h17 <;> conv => (arg 3; whnf)
    · replace hr := bT h17 hr
      obtain ⟨x18, ex18, hr⟩ := bindO hr
      obtain ⟨j19h, ex18⟩ := idxO_nat ex18
      refine Ok.val eqs_nil rfl rfl (DOpS.toP (DOpS.strIdx ((s1 : Int).toNat) rfl rfl rfl rfl j19h ex18)) ?_
      refine dr_run mixed 1000 ?_; conv => (arg 3; whnf)
      refine Ok.split ?_ ?_ <;> intro h20 <;> conv => (arg 3; whnf)
      · replace hr := bT h20 hr
        refine Ok.stuck eqs_nil ?_
        exact DWP.nextA (IntKind.i64.wrap (s1 + 1)) n rfl rfl (by first | rfl | (simp only [gsimp]; rfl) | (simp only [gsimp, List.length_set]; rfl) | (simp only [gcs, gsimp, List.length_set]; rfl)) (by first | rfl | (simp only [gsimp]; rfl) | (simp only [gsimp, List.length_set]; rfl) | (simp only [gcs, gsimp, List.length_set]; rfl)) (by omega) ⟨by omega, by exact hr⟩
      replace hr := bF h20 hr
      refine Ok.stuck eqs_nil ?_
      refine DWP.loopA (S := Int) 0 [0, 4] [1] (fun s => [(1, .d (.v (.int .i64 s)))]) (fun s => []) (fun m s => m ≤ n ∧ F179_L3 a0 a1 s1 x3 y5 x15 x18 m s = some r) n (s1) rfl rfl rfl rfl rfl rfl ⟨Nat.le_refl _, hr⟩ ?_
      clear hr
      rintro n s21 ⟨hle, hr⟩
      rcases n with _ | n
      · exact noneO hr
      replace hr : F179_L3 a0 a1 s1 x3 y5 x15 x18 (n + 1) s21 = some r := hr
      rw [F179_L3] at hr
      refine dr_run mixed 1000 ?_; conv => (arg 3; whnf)
      refine Ok.split ?_ ?_ <;> intro h22 <;> conv => (arg 3; whnf)
      · replace hr := bT h22 hr
        obtain ⟨x23, ex23, hr⟩ := bindO hr
        obtain ⟨j24h, ex23⟩ := idxO_nat ex23
        refine Ok.val eqs_nil rfl rfl (DOpS.toP (DOpS.strIdx ((s21 : Int).toNat) rfl rfl rfl rfl j24h ex23)) ?_
        refine dr_run mixed 1000 ?_; conv => (arg 3; whnf)
        refine Ok.split ?_ ?_ <;> intro h25 <;> conv => (arg 3; whnf)
        · replace hr := bT h25 hr
          refine Ok.stuck eqs_nil ?_
          exact DWP.nextA (IntKind.i64.wrap (s21 + 1)) n rfl rfl (by first | rfl | (simp only [gsimp]; rfl) | (simp only [gsimp, List.length_set]; rfl) | (simp only [gcs, gsimp, List.length_set]; rfl)) (by first | rfl | (simp only [gsimp]; rfl) | (simp only [gsimp, List.length_set]; rfl) | (simp only [gcs, gsimp, List.length_set]; rfl)) (by omega) ⟨by omega, by exact hr⟩
        replace hr := bF h25 hr
        refine Ok.stuck eqs_nil ?_
        exact DWP.nextA (s21) n rfl rfl (by first | rfl | (simp only [gsimp]; rfl) | (simp only [gsimp, List.length_set]; rfl) | (simp only [gcs, gsimp, List.length_set]; rfl)) (by first | rfl | (simp only [gsimp]; rfl) | (simp only [gsimp, List.length_set]; rfl) | (simp only [gcs, gsimp, List.length_set]; rfl)) (by omega) ⟨by omega, by exact hr⟩
      replace hr := bF h22 hr
      refine Ok.stuck eqs_nil ?_
      exact DWP.nextA (s21) n rfl rfl (by first | rfl | (simp only [gsimp]; rfl) | (simp only [gsimp, List.length_set]; rfl) | (simp only [gcs, gsimp, List.length_set]; rfl)) (by first | rfl | (simp only [gsimp]; rfl) | (simp only [gsimp, List.length_set]; rfl) | (simp only [gcs, gsimp, List.length_set]; rfl)) (by omega) ⟨by omega, by exact hr⟩
    replace hr := bF h17 hr
    refine Ok.fin eqs_nil ?_
    obtain rfl := Option.some.inj hr
    exact RD.leaf rfl rfl eqs_nil rfl (Imp.refl _)
  replace hr := bF h2 hr
  refine Ok.fin eqs_nil ?_
  obtain rfl := Option.some.inj hr
  exact RD.leaf rfl rfl eqs_nil rfl (Imp.refl _)
/- plexus.plexusref15.letter -/
def F221 (n : Nat) (a0 : Int) : Option (Bool) := (bif decide (a0 ≥ 97) then (some (decide (a0 ≤ 122))) else (some (false)))
set_option maxRecDepth 100000 in
theorem F221_ok {n : Nat} {a0 : Int} {r} (hr : F221 n a0 = some r) : Pure env.toCx 221 [(.v (.int .u8 a0))] (.ret (.v (.bool r))) := by
  unfold F221 at hr
  refine Pure.walk (E := env) Tryz.func221 rfl (by kernel_rfl) (rs := _) rfl Tryz.ntmps221 rfl ?_
  refine dr_run mixed 1000 ?_; conv => (arg 3; whnf)
  refine Ok.split ?_ ?_ <;> intro h1 <;> conv => (arg 3; whnf)
  · replace hr := bT h1 hr
    refine Ok.fin eqs_nil ?_
    obtain rfl := Option.some.inj hr
    exact RD.leaf rfl rfl eqs_nil rfl (Imp.refl _)
  replace hr := bF h1 hr
  refine Ok.fin eqs_nil ?_
  obtain rfl := Option.some.inj hr
  exact RD.leaf rfl rfl eqs_nil rfl (Imp.refl _)
/- plexus.plexusref15.digit -/
def F224 (n : Nat) (a0 : Int) : Option (Bool) := (bif decide (a0 ≥ 48) then (some (decide (a0 ≤ 57))) else (some (false)))
set_option maxRecDepth 100000 in
theorem F224_ok {n : Nat} {a0 : Int} {r} (hr : F224 n a0 = some r) : Pure env.toCx 224 [(.v (.int .u8 a0))] (.ret (.v (.bool r))) := by
  unfold F224 at hr
  refine Pure.walk (E := env) Tryz.func224 rfl (by kernel_rfl) (rs := _) rfl Tryz.ntmps224 rfl ?_
  refine dr_run mixed 1000 ?_; conv => (arg 3; whnf)
  refine Ok.split ?_ ?_ <;> intro h1 <;> conv => (arg 3; whnf)
  · replace hr := bT h1 hr
    refine Ok.fin eqs_nil ?_
    obtain rfl := Option.some.inj hr
    exact RD.leaf rfl rfl eqs_nil rfl (Imp.refl _)
  replace hr := bF h1 hr
  refine Ok.fin eqs_nil ?_
  obtain rfl := Option.some.inj hr
  exact RD.leaf rfl rfl eqs_nil rfl (Imp.refl _)
/- plexus.plexusref15.part -/
def F237 (n : Nat) (a0 : Int) : Option (Bool) := ((F221 n (a0)).bind fun y1 => (bif y1 then (some (true)) else ((F224 n (a0)).bind fun y3 => (bif y3 then (some (true)) else (some (a0 == 45))))))
set_option maxRecDepth 100000 in
theorem F237_ok {n : Nat} {a0 : Int} {r} (hr : F237 n a0 = some r) : Pure env.toCx 237 [(.v (.int .u8 a0))] (.ret (.v (.bool r))) := by
  unfold F237 at hr
  refine Pure.walk (E := env) Tryz.func237 rfl (by kernel_rfl) (rs := _) rfl Tryz.ntmps237 rfl ?_
  refine dr_run mixed 1000 ?_; conv => (arg 3; whnf)
  obtain ⟨y1, ey1, hr⟩ := bindO hr
  replace ey1 := (F221_ok ey1)
  refine Ok.val eqs_nil rfl rfl (DOpP.callF ey1 rfl rfl rfl eqs_nil (ImpL.refl _) (.inl rfl)) ?_
  refine dr_run mixed 1000 ?_; conv => (arg 3; whnf)
  refine Ok.split ?_ ?_ <;> intro h2 <;> conv => (arg 3; whnf)
  · replace hr := bT h2 hr
    refine Ok.fin eqs_nil ?_
    obtain rfl := Option.some.inj hr
    exact RD.leaf rfl rfl eqs_nil rfl (Imp.refl _)
  replace hr := bF h2 hr
  obtain ⟨y3, ey3, hr⟩ := bindO hr
  replace ey3 := (F224_ok ey3)
  refine Ok.val eqs_nil rfl rfl (DOpP.callF ey3 rfl rfl rfl eqs_nil (ImpL.refl _) (.inl rfl)) ?_
  refine dr_run mixed 1000 ?_; conv => (arg 3; whnf)
  refine Ok.split ?_ ?_ <;> intro h4 <;> conv => (arg 3; whnf)
  · replace hr := bT h4 hr
    refine Ok.fin eqs_nil ?_
    obtain rfl := Option.some.inj hr
    exact RD.leaf rfl rfl eqs_nil rfl (Imp.refl _)
  replace hr := bF h4 hr
  refine Ok.fin eqs_nil ?_
  obtain rfl := Option.some.inj hr
  exact RD.leaf rfl rfl eqs_nil rfl (Imp.refl _)
/- plexus.plexusref15.word -/
def F222_L1 (a0 : (List UInt8)) : Nat → Int → Option (Int)
  | 0, _ => none
  | n + 1, s1 => (bif decide (s1 < (↑a0.length : Int)) then ((idxO ((a0) : List UInt8) (s1)).bind fun x3 => ((F237 n ((↑x3.toNat : Int))).bind fun y5 => (bif y5 then (F222_L1 a0 n (IntKind.i64.wrap (s1 + 1))) else (some (s1))))) else (some (s1)))
def F222 (n : Nat) (a0 : (List UInt8)) (a1 : Int) : Option (Int) := (F222_L1 a0 n (a1))
set_option maxRecDepth 100000 in
theorem F222_ok {n : Nat} {a0 : (List UInt8)} {a1 : Int} {r} (hr : F222 n a0 a1 = some r) : Pure env.toCx 222 [(.v (.string ⟨⟨a0⟩⟩)), (.v (.int .i64 a1))] (.ret (.v (.int .i64 r))) := by
  unfold F222 at hr
  refine Pure.walk (E := env) Tryz.func222 rfl (by kernel_rfl) (rs := _) rfl Tryz.ntmps222 rfl ?_
  refine dr_run mixed 1000 ?_; conv => (arg 3; whnf)
  refine Ok.stuck eqs_nil ?_
  refine DWP.loopA (S := Int) 0 [0, 4] [1] (fun s => [(1, .d (.v (.int .i64 s)))]) (fun s => []) (fun m s => m ≤ n ∧ F222_L1 a0 m s = some r) n (a1) rfl rfl rfl rfl rfl rfl ⟨Nat.le_refl _, hr⟩ ?_
  clear hr
  rintro n s1 ⟨hle, hr⟩
  rcases n with _ | n
  · exact noneO hr
  replace hr : F222_L1 a0 (n + 1) s1 = some r := hr
  rw [F222_L1] at hr
  refine dr_run mixed 1000 ?_; conv => (arg 3; whnf)
  refine Ok.split ?_ ?_ <;> intro h2 <;> conv => (arg 3; whnf)
  · replace hr := bT h2 hr
    obtain ⟨x3, ex3, hr⟩ := bindO hr
    obtain ⟨j4h, ex3⟩ := idxO_nat ex3
    refine Ok.val eqs_nil rfl rfl (DOpS.toP (DOpS.strIdx ((s1 : Int).toNat) rfl rfl rfl rfl j4h ex3)) ?_
    refine dr_run mixed 1000 ?_; conv => (arg 3; whnf)
    obtain ⟨y5, ey5, hr⟩ := bindO hr
    replace ey5 := (F237_ok ey5)
    refine Ok.val eqs_nil rfl rfl (DOpP.callF ey5 rfl rfl rfl eqs_nil (ImpL.refl _) (.inl rfl)) ?_
    refine dr_run mixed 1000 ?_; conv => (arg 3; whnf)
    refine Ok.split ?_ ?_ <;> intro h6 <;> conv => (arg 3; whnf)
    · replace hr := bT h6 hr
      refine Ok.stuck eqs_nil ?_
      exact DWP.nextA (IntKind.i64.wrap (s1 + 1)) n rfl rfl (by first | rfl | (simp only [gsimp]; rfl) | (simp only [gsimp, List.length_set]; rfl) | (simp only [gcs, gsimp, List.length_set]; rfl)) (by first | rfl | (simp only [gsimp]; rfl) | (simp only [gsimp, List.length_set]; rfl) | (simp only [gcs, gsimp, List.length_set]; rfl)) (by omega) ⟨by omega, by exact hr⟩
    replace hr := bF h6 hr
    refine Ok.fin eqs_nil ?_
    obtain rfl := Option.some.inj hr
    exact RD.leaf rfl rfl eqs_nil rfl (Imp.refl _)
  replace hr := bF h2 hr
  refine Ok.fin eqs_nil ?_
  obtain rfl := Option.some.inj hr
  exact RD.leaf rfl rfl eqs_nil rfl (Imp.refl _)
/- plexus.plexusref15.keywords -/
def F239 (n : Nat) : Option ((List (List UInt8))) := (some ([[97, 110, 100], [98, 111, 111, 108], [98, 111, 116, 116, 111, 109], [99, 108, 111, 115, 101, 100], [99, 111, 110, 102, 108, 105, 99, 116], [101, 108, 115, 101], [102, 97, 108, 115, 101], [102, 105, 114, 115, 116], [102, 108, 97, 103], [102, 108, 97, 116], [105, 102], [105, 110], [105, 110, 116], [106, 111, 105, 110], [107, 101, 121, 115], [108, 97, 116, 116, 105, 99, 101], [108, 101, 113], [108, 101, 120], [109, 97, 112], [109, 97, 120], [109, 105, 110], [110, 97, 109, 101], [110, 97, 109, 101, 115], [110, 111, 116], [110, 117, 109], [110, 117, 109, 98, 101, 114], [111, 98, 106, 101, 99, 116], [111, 110], [111, 110, 101], [111, 114], [112, 97, 105, 114], [113, 117, 101, 114, 121], [114, 101, 99], [114, 101, 103, 105, 115, 116, 101, 114], [115], [115, 101, 99, 111, 110, 100], [115, 101, 116], [115, 105, 122, 101], [115, 117, 109], [116, 104, 101, 110], [116, 114, 117, 101], [117, 112, 100, 97, 116, 101], [118, 97, 108, 117, 101, 115], [119, 114, 105, 116, 101]]))
set_option maxRecDepth 100000 in
theorem F239_ok {n : Nat} {r} (hr : F239 n = some r) : Pure env.toCx 239 [] (.ret (.sl 1 (rowsS r))) := by
  unfold F239 at hr
  refine Pure.walk (E := env) Tryz.func239 rfl (by kernel_rfl) (rs := _) rfl Tryz.ntmps239 rfl ?_
  refine dr_run mixed 1000 ?_; conv => (arg 3; whnf)
  refine Ok.fin eqs_nil ?_
  obtain rfl := Option.some.inj hr
  exact RD.leaf rfl rfl (eqs_cons rfl eqs_nil) rfl (Imp.refl _)
/- plexus.plexusref15.in -/
def F238_L1 (a0 : (List (List UInt8))) (a1 : (List UInt8)) : Nat → Int → Option (Bool)
  | 0, _ => none
  | n + 1, s1 => (bif decide (s1 < (↑(rowsS a0).length : Int)) then ((idxO (a0) (s1)).bind fun x3 => (bif x3 == a1 then (some (true)) else (F238_L1 a0 a1 n (IntKind.i64.wrap (s1 + 1))))) else (some (false)))
def F238 (n : Nat) (a0 : (List (List UInt8))) (a1 : (List UInt8)) : Option (Bool) := (F238_L1 a0 a1 n (0))
set_option maxRecDepth 100000 in
theorem F238_ok {n : Nat} {a0 : (List (List UInt8))} {a1 : (List UInt8)} {r} (hr : F238 n a0 a1 = some r) : Pure env.toCx 238 [(.sl 1 (rowsS a0)), (.v (.string ⟨⟨a1⟩⟩))] (.ret (.v (.bool r))) := by
  unfold F238 at hr
  refine Pure.walk (E := env) Tryz.func238 rfl (by kernel_rfl) (rs := _) rfl Tryz.ntmps238 rfl ?_
  refine dr_run mixed 1000 ?_; conv => (arg 3; whnf)
  refine Ok.stuck eqs_nil ?_
  refine DWP.loopA (S := Int) 0 [0, 1, 4] [5] (fun s => [(5, .d (.v (.int .i64 s)))]) (fun s => []) (fun m s => m ≤ n ∧ F238_L1 a0 a1 m s = some r) n (0) rfl rfl rfl rfl rfl rfl ⟨Nat.le_refl _, hr⟩ ?_
  clear hr
  rintro n s1 ⟨hle, hr⟩
  rcases n with _ | n
  · exact noneO hr
  replace hr : F238_L1 a0 a1 (n + 1) s1 = some r := hr
  rw [F238_L1] at hr
  refine dr_run mixed 1000 ?_; conv => (arg 3; whnf)
  refine Ok.split ?_ ?_ <;> intro h2 <;> conv => (arg 3; whnf)
  · replace hr := bT h2 hr
    obtain ⟨x3, ex3, hr⟩ := bindO hr
    obtain ⟨j4h, ex3⟩ := idxO_nat ex3
    refine Ok.val eqs_nil rfl rfl (DOpS.toP (DOpS.idx ((s1 : Int).toNat) rfl rfl rfl rfl j4h (rowsS_get ex3))) ?_
    refine dr_run mixed 1000 ?_; conv => (arg 3; whnf)
    refine Ok.split ?_ ?_ <;> intro h5 <;> conv => (arg 3; whnf)
    · replace hr := bT h5 hr
      refine Ok.fin eqs_nil ?_
      obtain rfl := Option.some.inj hr
      exact RD.leaf rfl rfl eqs_nil rfl (Imp.refl _)
    replace hr := bF h5 hr
    refine Ok.stuck eqs_nil ?_
    exact DWP.nextA (IntKind.i64.wrap (s1 + 1)) n rfl rfl (by first | rfl | (simp only [gsimp]; rfl) | (simp only [gsimp, List.length_set]; rfl) | (simp only [gcs, gsimp, List.length_set]; rfl)) (by first | rfl | (simp only [gsimp]; rfl) | (simp only [gsimp, List.length_set]; rfl) | (simp only [gcs, gsimp, List.length_set]; rfl)) (by omega) ⟨by omega, by exact hr⟩
  replace hr := bF h2 hr
  refine Ok.fin eqs_nil ?_
  obtain rfl := Option.some.inj hr
  exact RD.leaf rfl rfl eqs_nil rfl (Imp.refl _)
/- plexus.plexusref15.Keyword -/
def F223 (n : Nat) (a0 : (List UInt8)) : Option (Bool) := ((F239 n).bind fun y1 => ((F238 n (y1) (a0)).bind fun y2 => (some (y2))))
set_option maxRecDepth 100000 in
theorem F223_ok {n : Nat} {a0 : (List UInt8)} {r} (hr : F223 n a0 = some r) : Pure env.toCx 223 [(.v (.string ⟨⟨a0⟩⟩))] (.ret (.v (.bool r))) := by
  unfold F223 at hr
  refine Pure.walk (E := env) Tryz.func223 rfl (by kernel_rfl) (rs := _) rfl Tryz.ntmps223 rfl ?_
  refine dr_run mixed 1000 ?_; conv => (arg 3; whnf)
  obtain ⟨y1, ey1, hr⟩ := bindO hr
  replace ey1 := (F239_ok ey1)
  refine Ok.val eqs_nil rfl rfl (DOpP.callF ey1 rfl rfl rfl eqs_nil (ImpL.refl _) (.inl rfl)) ?_
  refine dr_run mixed 1000 ?_; conv => (arg 3; whnf)
  obtain ⟨y2, ey2, hr⟩ := bindO hr
  replace ey2 := (F238_ok ey2)
  refine Ok.val eqs_nil rfl rfl (DOpP.callF ey2 rfl rfl rfl eqs_nil (ImpL.refl _) (.inl rfl)) ?_
  refine dr_run mixed 1000 ?_; conv => (arg 3; whnf)
  refine Ok.fin eqs_nil ?_
  obtain rfl := Option.some.inj hr
  exact RD.leaf rfl rfl eqs_nil rfl (Imp.refl _)
/- plexus.plexusref15.integer -/
def F225_L1 (a0 : (List UInt8)) (a1 : Int) : Nat → Int → Int → Option ((TToken × Int × TFault))
  | 0, _, _ => none
  | n + 1, s1, s2 => (bif decide (s1 < (↑a0.length : Int)) then ((idxO ((a0) : List UInt8) (s1)).bind fun x4 => ((F224 n ((↑x4.toNat : Int))).bind fun y6 => (bif y6 then (bif decide (s2 ≤ 1000000000000000) then ((idxO ((a0) : List UInt8) (s1)).bind fun x9 => (F225_L1 a0 a1 n (IntKind.i64.wrap (s1 + 1)) (IntKind.i64.wrap (IntKind.i64.wrap (10 * s2) + IntKind.i64.wrap (IntKind.u8.wrap ((↑x9.toNat : Int) - 48)))))) else (F225_L1 a0 a1 n (IntKind.i64.wrap (s1 + 1)) (s2))) else ((idxO ((a0) : List UInt8) (a1)).bind fun x11 => (bif (↑x11.toNat : Int) == 48 then (bif decide (IntKind.i64.wrap (s1 - a1) > 1) then ((F178 n (2) (a1)).bind fun y15 => (some (y15))) else (bif decide (s2 > 1000000000000000) then ((F178 n (5) (a1)).bind fun y17 => (some (y17))) else (some (({ Kind := 3, Text := [], N := s2, At := a1 : TToken }, s1, { Code := 0, At := 0 : TFault }))))) else (bif decide (s2 > 1000000000000000) then ((F178 n (5) (a1)).bind fun y19 => (some (y19))) else (some (({ Kind := 3, Text := [], N := s2, At := a1 : TToken }, s1, { Code := 0, At := 0 : TFault }))))))))) else ((idxO ((a0) : List UInt8) (a1)).bind fun x20 => (bif (↑x20.toNat : Int) == 48 then (bif decide (IntKind.i64.wrap (s1 - a1) > 1) then ((F178 n (2) (a1)).bind fun y24 => (some (y24))) else (bif decide (s2 > 1000000000000000) then ((F178 n (5) (a1)).bind fun y26 => (some (y26))) else (some (({ Kind := 3, Text := [], N := s2, At := a1 : TToken }, s1, { Code := 0, At := 0 : TFault }))))) else (bif decide (s2 > 1000000000000000) then ((F178 n (5) (a1)).bind fun y28 => (some (y28))) else (some (({ Kind := 3, Text := [], N := s2, At := a1 : TToken }, s1, { Code := 0, At := 0 : TFault })))))))
def F225 (n : Nat) (a0 : (List UInt8)) (a1 : Int) : Option ((TToken × Int × TFault)) := (F225_L1 a0 a1 n (a1) (0))
set_option maxRecDepth 100000 in
theorem F225_ok {n : Nat} {a0 : (List UInt8)} {a1 : Int} {r} (hr : F225 n a0 a1 = some r) : Pure env.toCx 225 [(.v (.string ⟨⟨a0⟩⟩)), (.v (.int .i64 a1))] (.ret (.tup [(.agg (TToken.cs r.1)), (.v (.int .i64 r.2.1)), (.agg (TFault.cs r.2.2))])) := by
  unfold F225 at hr
  refine Pure.walk (E := env) Tryz.func225 rfl (by kernel_rfl) (rs := _) rfl Tryz.ntmps225 rfl ?_
  refine dr_run mixed 1000 ?_; conv => (arg 3; whnf)
  refine Ok.stuck eqs_nil ?_
  refine DWP.loopA (S := Int × Int) 2 [0, 1, 4, 5, 6] [7, 8] (fun s => [(7, .d (.v (.int .i64 s.1))), (8, .d (.v (.int .i64 s.2)))]) (fun s => []) (fun m s => m ≤ n ∧ F225_L1 a0 a1 m s.1 s.2 = some r) n (a1, 0) rfl rfl rfl rfl rfl rfl ⟨Nat.le_refl _, hr⟩ ?_
  clear hr
  rintro n ⟨s1, s2⟩ ⟨hle, hr⟩
  rcases n with _ | n
  · exact noneO hr
  replace hr : F225_L1 a0 a1 (n + 1) s1 s2 = some r := hr
  rw [F225_L1] at hr
  refine dr_run mixed 1000 ?_; conv => (arg 3; whnf)
  refine Ok.split ?_ ?_ <;> intro h3 <;> conv => (arg 3; whnf)
  · replace hr := bT h3 hr
    obtain ⟨x4, ex4, hr⟩ := bindO hr
    obtain ⟨j5h, ex4⟩ := idxO_nat ex4
    refine Ok.val eqs_nil rfl rfl (DOpS.toP (DOpS.strIdx ((s1 : Int).toNat) rfl rfl rfl rfl j5h ex4)) ?_
    refine dr_run mixed 1000 ?_; conv => (arg 3; whnf)
    obtain ⟨y6, ey6, hr⟩ := bindO hr
    replace ey6 := (F224_ok ey6)
    refine Ok.val eqs_nil rfl rfl (DOpP.callF ey6 rfl rfl rfl eqs_nil (ImpL.refl _) (.inl rfl)) ?_
    refine dr_run mixed 1000 ?_; conv => (arg 3; whnf)
    refine Ok.split ?_ ?_ <;> intro h7 <;> conv => (arg 3; whnf)
    · replace hr := bT h7 hr
      refine Ok.split ?_ ?_ <;> intro h8 <;> conv => (arg 3; whnf)
      · replace hr := bT h8 hr
        obtain ⟨x9, ex9, hr⟩ := bindO hr
        obtain ⟨j10h, ex9⟩ := idxO_nat ex9
        refine Ok.val eqs_nil rfl rfl (DOpS.toP (DOpS.strIdx ((s1 : Int).toNat) rfl rfl rfl rfl j10h ex9)) ?_
        refine dr_run mixed 1000 ?_; conv => (arg 3; whnf)
        refine Ok.stuck eqs_nil ?_
        exact DWP.nextA (IntKind.i64.wrap (s1 + 1), IntKind.i64.wrap (IntKind.i64.wrap (10 * s2) + IntKind.i64.wrap (IntKind.u8.wrap ((↑x9.toNat : Int) - 48)))) n rfl rfl (by first | rfl | (simp only [gsimp]; rfl) | (simp only [gsimp, List.length_set]; rfl) | (simp only [gcs, gsimp, List.length_set]; rfl)) (by first | rfl | (simp only [gsimp]; rfl) | (simp only [gsimp, List.length_set]; rfl) | (simp only [gcs, gsimp, List.length_set]; rfl)) (by omega) ⟨by omega, by exact hr⟩
      replace hr := bF h8 hr
      refine Ok.stuck eqs_nil ?_
      exact DWP.nextA (IntKind.i64.wrap (s1 + 1), s2) n rfl rfl (by first | rfl | (simp only [gsimp]; rfl) | (simp only [gsimp, List.length_set]; rfl) | (simp only [gcs, gsimp, List.length_set]; rfl)) (by first | rfl | (simp only [gsimp]; rfl) | (simp only [gsimp, List.length_set]; rfl) | (simp only [gcs, gsimp, List.length_set]; rfl)) (by omega) ⟨by omega, by exact hr⟩
    replace hr := bF h7 hr
    obtain ⟨x11, ex11, hr⟩ := bindO hr
    obtain ⟨j12h, ex11⟩ := idxO_nat ex11
    refine Ok.val eqs_nil rfl rfl (DOpS.toP (DOpS.strIdx ((a1 : Int).toNat) rfl rfl rfl rfl j12h ex11)) ?_
    refine dr_run mixed 1000 ?_; conv => (arg 3; whnf)
    refine Ok.split ?_ ?_ <;> intro h13 <;> conv => (arg 3; whnf)
    · replace hr := bT h13 hr
      refine Ok.split ?_ ?_ <;> intro h14 <;> conv => (arg 3; whnf)
      · replace hr := bT h14 hr
        obtain ⟨y15, ey15, hr⟩ := bindO hr
        replace ey15 := (F178_ok ey15)
        refine Ok.val eqs_nil rfl rfl (DOpP.callF ey15 rfl rfl rfl eqs_nil (ImpL.refl _) (.inl rfl)) ?_
        refine dr_run mixed 1000 ?_; conv => (arg 3; whnf)
        refine Ok.fin eqs_nil ?_
        obtain rfl := Option.some.inj hr
        exact RD.leaf rfl rfl eqs_nil rfl (Imp.refl _)
      replace hr := bF h14 hr
      refine Ok.split ?_ ?_ <;> intro h16 <;> conv => (arg 3; whnf)
      · replace hr := bT h16 hr
        obtain ⟨y17, ey17, hr⟩ := bindO hr
        replace ey17 := (F178_ok ey17)
        refine Ok.val eqs_nil rfl rfl (DOpP.callF ey17 rfl rfl rfl eqs_nil (ImpL.refl _) (.inl rfl)) ?_
        refine dr_run mixed 1000 ?_; conv => (arg 3; whnf)
        refine Ok.fin eqs_nil ?_
        obtain rfl := Option.some.inj hr
        exact RD.leaf rfl rfl eqs_nil rfl (Imp.refl _)
      replace hr := bF h16 hr
      refine Ok.fin eqs_nil ?_
      obtain rfl := Option.some.inj hr
      exact RD.leaf rfl rfl eqs_nil rfl (Imp.refl _)
    replace hr := bF h13 hr
    refine Ok.split ?_ ?_ <;> intro h18 <;> conv => (arg 3; whnf)
    · replace hr := bT h18 hr
      obtain ⟨y19, ey19, hr⟩ := bindO hr
      replace ey19 := (F178_ok ey19)
      refine Ok.val eqs_nil rfl rfl (DOpP.callF ey19 rfl rfl rfl eqs_nil (ImpL.refl _) (.inl rfl)) ?_
      refine dr_run mixed 1000 ?_; conv => (arg 3; whnf)
      refine Ok.fin eqs_nil ?_
      obtain rfl := Option.some.inj hr
      exact RD.leaf rfl rfl eqs_nil rfl (Imp.refl _)
    replace hr := bF h18 hr
    refine Ok.fin eqs_nil ?_
    obtain rfl := Option.some.inj hr
    exact RD.leaf rfl rfl eqs_nil rfl (Imp.refl _)
  replace hr := bF h3 hr
  obtain ⟨x20, ex20, hr⟩ := bindO hr
  obtain ⟨j21h, ex20⟩ := idxO_nat ex20
  refine Ok.val eqs_nil rfl rfl (DOpS.toP (DOpS.strIdx ((a1 : Int).toNat) rfl rfl rfl rfl j21h ex20)) ?_
  refine dr_run mixed 1000 ?_; conv => (arg 3; whnf)
  refine Ok.split ?_ ?_ <;> intro h22 <;> conv => (arg 3; whnf)
  · replace hr := bT h22 hr
    refine Ok.split ?_ ?_ <;> intro h23 <;> conv => (arg 3; whnf)
    · replace hr := bT h23 hr
      obtain ⟨y24, ey24, hr⟩ := bindO hr
      replace ey24 := (F178_ok ey24)
      refine Ok.val eqs_nil rfl rfl (DOpP.callF ey24 rfl rfl rfl eqs_nil (ImpL.refl _) (.inl rfl)) ?_
      refine dr_run mixed 1000 ?_; conv => (arg 3; whnf)
      refine Ok.fin eqs_nil ?_
      obtain rfl := Option.some.inj hr
      exact RD.leaf rfl rfl eqs_nil rfl (Imp.refl _)
    replace hr := bF h23 hr
    refine Ok.split ?_ ?_ <;> intro h25 <;> conv => (arg 3; whnf)
    · replace hr := bT h25 hr
      obtain ⟨y26, ey26, hr⟩ := bindO hr
      replace ey26 := (F178_ok ey26)
      refine Ok.val eqs_nil rfl rfl (DOpP.callF ey26 rfl rfl rfl eqs_nil (ImpL.refl _) (.inl rfl)) ?_
      refine dr_run mixed 1000 ?_; conv => (arg 3; whnf)
      refine Ok.fin eqs_nil ?_
      obtain rfl := Option.some.inj hr
      exact RD.leaf rfl rfl eqs_nil rfl (Imp.refl _)
    replace hr := bF h25 hr
    refine Ok.fin eqs_nil ?_
    obtain rfl := Option.some.inj hr
    exact RD.leaf rfl rfl eqs_nil rfl (Imp.refl _)
  replace hr := bF h22 hr
  refine Ok.split ?_ ?_ <;> intro h27 <;> conv => (arg 3; whnf)
  · replace hr := bT h27 hr
    obtain ⟨y28, ey28, hr⟩ := bindO hr
    replace ey28 := (F178_ok ey28)
    refine Ok.val eqs_nil rfl rfl (DOpP.callF ey28 rfl rfl rfl eqs_nil (ImpL.refl _) (.inl rfl)) ?_
    refine dr_run mixed 1000 ?_; conv => (arg 3; whnf)
    refine Ok.fin eqs_nil ?_
    obtain rfl := Option.some.inj hr
    exact RD.leaf rfl rfl eqs_nil rfl (Imp.refl _)
  replace hr := bF h27 hr
  refine Ok.fin eqs_nil ?_
  obtain rfl := Option.some.inj hr
  exact RD.leaf rfl rfl eqs_nil rfl (Imp.refl _)
/- plexus.plexusref02.letter -/
def F104 (n : Nat) (a0 : Int) : Option (Bool) := (bif decide (a0 ≥ 97) then (bif decide (a0 ≤ 122) then (some (true)) else (bif decide (a0 ≥ 48) then (bif decide (a0 ≤ 57) then (some (true)) else (some (a0 == 45))) else (some (a0 == 45)))) else (bif decide (a0 ≥ 48) then (bif decide (a0 ≤ 57) then (some (true)) else (some (a0 == 45))) else (some (a0 == 45))))
set_option maxRecDepth 100000 in
theorem F104_ok {n : Nat} {a0 : Int} {r} (hr : F104 n a0 = some r) : Pure env.toCx 104 [(.v (.int .u8 a0))] (.ret (.v (.bool r))) := by
  unfold F104 at hr
  refine Pure.walk (E := env) Tryz.func104 rfl (by kernel_rfl) (rs := _) rfl Tryz.ntmps104 rfl ?_
  refine dr_run mixed 1000 ?_; conv => (arg 3; whnf)
  refine Ok.split ?_ ?_ <;> intro h1 <;> conv => (arg 3; whnf)
  · replace hr := bT h1 hr
    refine Ok.split ?_ ?_ <;> intro h2 <;> conv => (arg 3; whnf)
    · replace hr := bT h2 hr
      refine Ok.fin eqs_nil ?_
      obtain rfl := Option.some.inj hr
      exact RD.leaf rfl rfl eqs_nil rfl (Imp.refl _)
    replace hr := bF h2 hr
    refine Ok.split ?_ ?_ <;> intro h3 <;> conv => (arg 3; whnf)
    · replace hr := bT h3 hr
      refine Ok.split ?_ ?_ <;> intro h4 <;> conv => (arg 3; whnf)
      · replace hr := bT h4 hr
        refine Ok.fin eqs_nil ?_
        obtain rfl := Option.some.inj hr
        exact RD.leaf rfl rfl eqs_nil rfl (Imp.refl _)
      replace hr := bF h4 hr
      refine Ok.fin eqs_nil ?_
      obtain rfl := Option.some.inj hr
      exact RD.leaf rfl rfl eqs_nil rfl (Imp.refl _)
    replace hr := bF h3 hr
    refine Ok.fin eqs_nil ?_
    obtain rfl := Option.some.inj hr
    exact RD.leaf rfl rfl eqs_nil rfl (Imp.refl _)
  replace hr := bF h1 hr
  refine Ok.split ?_ ?_ <;> intro h5 <;> conv => (arg 3; whnf)
  · replace hr := bT h5 hr
    refine Ok.split ?_ ?_ <;> intro h6 <;> conv => (arg 3; whnf)
    · replace hr := bT h6 hr
      refine Ok.fin eqs_nil ?_
      obtain rfl := Option.some.inj hr
      exact RD.leaf rfl rfl eqs_nil rfl (Imp.refl _)
    replace hr := bF h6 hr
    refine Ok.fin eqs_nil ?_
    obtain rfl := Option.some.inj hr
    exact RD.leaf rfl rfl eqs_nil rfl (Imp.refl _)
  replace hr := bF h5 hr
  refine Ok.fin eqs_nil ?_
  obtain rfl := Option.some.inj hr
  exact RD.leaf rfl rfl eqs_nil rfl (Imp.refl _)
/- plexus.plexusref02.Valid -/
def F59_L1 (a0 : (List UInt8)) : Nat → Int → Option (Bool)
  | 0, _ => none
  | n + 1, s9 => (bif decide (s9 < (↑a0.length : Int)) then ((idxO ((a0) : List UInt8) (s9)).bind fun x11 => ((F104 n ((↑x11.toNat : Int))).bind fun y13 => (bif !y13 then (some (false)) else (F59_L1 a0 n (IntKind.i64.wrap (s9 + 1)))))) else (some (true)))
def F59 (n : Nat) (a0 : (List UInt8)) : Option (Bool) := (bif decide ((↑a0.length : Int) < 1) then (some (false)) else (bif decide ((↑a0.length : Int) > 16) then (some (false)) else ((idxO ((a0) : List UInt8) (0)).bind fun x3 => (bif decide ((↑x3.toNat : Int) < 97) then (some (false)) else ((idxO ((a0) : List UInt8) (0)).bind fun x6 => (bif decide ((↑x6.toNat : Int) > 122) then (some (false)) else (F59_L1 a0 n (0))))))))
set_option maxRecDepth 100000 in
theorem F59_ok {n : Nat} {a0 : (List UInt8)} {r} (hr : F59 n a0 = some r) : Pure env.toCx 59 [(.v (.string ⟨⟨a0⟩⟩))] (.ret (.v (.bool r))) := by
  unfold F59 at hr
  refine Pure.walk (E := env) Tryz.func59 rfl (by kernel_rfl) (rs := _) rfl Tryz.ntmps59 rfl ?_
  refine dr_run mixed 1000 ?_; conv => (arg 3; whnf)
  refine Ok.split ?_ ?_ <;> intro h1 <;> conv => (arg 3; whnf)
  · replace hr := bT h1 hr
    refine Ok.fin eqs_nil ?_
    obtain rfl := Option.some.inj hr
    exact RD.leaf rfl rfl eqs_nil rfl (Imp.refl _)
  replace hr := bF h1 hr
  refine Ok.split ?_ ?_ <;> intro h2 <;> conv => (arg 3; whnf)
  · replace hr := bT h2 hr
    refine Ok.fin eqs_nil ?_
    obtain rfl := Option.some.inj hr
    exact RD.leaf rfl rfl eqs_nil rfl (Imp.refl _)
  replace hr := bF h2 hr
  obtain ⟨x3, ex3, hr⟩ := bindO hr
  obtain ⟨j4h, ex3⟩ := idxO_nat ex3
  refine Ok.val eqs_nil rfl rfl (DOpS.toP (DOpS.strIdx ((0 : Int).toNat) rfl rfl rfl rfl j4h ex3)) ?_
  refine dr_run mixed 1000 ?_; conv => (arg 3; whnf)
  refine Ok.split ?_ ?_ <;> intro h5 <;> conv => (arg 3; whnf)
  · replace hr := bT h5 hr
    refine Ok.fin eqs_nil ?_
    obtain rfl := Option.some.inj hr
    exact RD.leaf rfl rfl eqs_nil rfl (Imp.refl _)
  replace hr := bF h5 hr
  obtain ⟨x6, ex6, hr⟩ := bindO hr
  obtain ⟨j7h, ex6⟩ := idxO_nat ex6
  refine Ok.val eqs_nil rfl rfl (DOpS.toP (DOpS.strIdx ((0 : Int).toNat) rfl rfl rfl rfl j7h ex6)) ?_
  refine dr_run mixed 1000 ?_; conv => (arg 3; whnf)
  refine Ok.split ?_ ?_ <;> intro h8 <;> conv => (arg 3; whnf)
  · replace hr := bT h8 hr
    refine Ok.fin eqs_nil ?_
    obtain rfl := Option.some.inj hr
    exact RD.leaf rfl rfl eqs_nil rfl (Imp.refl _)
  replace hr := bF h8 hr
  refine Ok.stuck eqs_nil ?_
  refine DWP.loopA (S := Int) 0 [0, 2] [3] (fun s => [(3, .d (.v (.int .i64 s)))]) (fun s => []) (fun m s => m ≤ n ∧ F59_L1 a0 m s = some r) n (0) rfl rfl rfl rfl rfl rfl ⟨Nat.le_refl _, hr⟩ ?_
  clear hr
  rintro n s9 ⟨hle, hr⟩
  rcases n with _ | n
  · exact noneO hr
  replace hr : F59_L1 a0 (n + 1) s9 = some r := hr
  rw [F59_L1] at hr
  refine dr_run mixed 1000 ?_; conv => (arg 3; whnf)
  refine Ok.split ?_ ?_ <;> intro h10 <;> conv => (arg 3; whnf)
  · replace hr := bT h10 hr
    obtain ⟨x11, ex11, hr⟩ := bindO hr
    obtain ⟨j12h, ex11⟩ := idxO_nat ex11
    refine Ok.val eqs_nil rfl rfl (DOpS.toP (DOpS.strIdx ((s9 : Int).toNat) rfl rfl rfl rfl j12h ex11)) ?_
    refine dr_run mixed 1000 ?_; conv => (arg 3; whnf)
    obtain ⟨y13, ey13, hr⟩ := bindO hr
    replace ey13 := (F104_ok ey13)
    refine Ok.val eqs_nil rfl rfl (DOpP.callF ey13 rfl rfl rfl eqs_nil (ImpL.refl _) (.inl rfl)) ?_
    refine dr_run mixed 1000 ?_; conv => (arg 3; whnf)
    refine Ok.split ?_ ?_ <;> intro h14 <;> conv => (arg 3; whnf)
    · replace hr := bT h14 hr
      refine Ok.fin eqs_nil ?_
      obtain rfl := Option.some.inj hr
      exact RD.leaf rfl rfl eqs_nil rfl (Imp.refl _)
    replace hr := bF h14 hr
    refine Ok.stuck eqs_nil ?_
    exact DWP.nextA (IntKind.i64.wrap (s9 + 1)) n rfl rfl (by first | rfl | (simp only [gsimp]; rfl) | (simp only [gsimp, List.length_set]; rfl) | (simp only [gcs, gsimp, List.length_set]; rfl)) (by first | rfl | (simp only [gsimp]; rfl) | (simp only [gsimp, List.length_set]; rfl) | (simp only [gcs, gsimp, List.length_set]; rfl)) (by omega) ⟨by omega, by exact hr⟩
  replace hr := bF h10 hr
  refine Ok.fin eqs_nil ?_
  obtain rfl := Option.some.inj hr
  exact RD.leaf rfl rfl eqs_nil rfl (Imp.refl _)
/- plexus.plexusref15.signs -/
def F226 (n : Nat) : Option ((List (List UInt8))) := (some ([[60, 61], [61, 61], [61, 62], [61], [58], [59], [44], [40], [41], [123], [125], [91], [93], [46], [43], [45], [60]]))
set_option maxRecDepth 100000 in
theorem F226_ok {n : Nat} {r} (hr : F226 n = some r) : Pure env.toCx 226 [] (.ret (.sl 1 (rowsS r))) := by
  unfold F226 at hr
  refine Pure.walk (E := env) Tryz.func226 rfl (by kernel_rfl) (rs := _) rfl Tryz.ntmps226 rfl ?_
  refine dr_run mixed 1000 ?_; conv => (arg 3; whnf)
  refine Ok.fin eqs_nil ?_
  obtain rfl := Option.some.inj hr
  exact RD.leaf rfl rfl (eqs_cons rfl eqs_nil) rfl (Imp.refl _)
/- plexus.plexusref15.token -/
def F180_L1 (a0 : (List UInt8)) (a1 : Int) (y34 : (List (List UInt8))) : Nat → Int → Option ((TToken × Int × TFault))
  | 0, _ => none
  | n + 1, s35 => (bif decide (s35 < (↑(rowsS y34).length : Int)) then ((idxO (y34) (s35)).bind fun x37 => (bif decide (IntKind.i64.wrap ((↑a0.length : Int) - a1) ≥ (↑x37.length : Int)) then ((partO ((a0) : List UInt8) (a1) (IntKind.i64.wrap (a1 + (↑x37.length : Int)))).bind fun x40 => ((idxO (y34) (s35)).bind fun x42 => (bif x40 == x42 then ((idxO (y34) (s35)).bind fun x45 => (some (({ Kind := 5, Text := x45, N := 0, At := a1 : TToken }, IntKind.i64.wrap (a1 + (↑x37.length : Int)), { Code := 0, At := 0 : TFault })))) else (F180_L1 a0 a1 y34 n (IntKind.i64.wrap (s35 + 1)))))) else (F180_L1 a0 a1 y34 n (IntKind.i64.wrap (s35 + 1))))) else ((F178 n (2) (a1)).bind fun y47 => (some (y47))))
def F180 (n : Nat) (a0 : (List UInt8)) (a1 : Int) : Option ((TToken × Int × TFault)) := ((idxO ((a0) : List UInt8) (a1)).bind fun x1 => ((F221 n ((↑x1.toNat : Int))).bind fun y3 => (bif y3 then ((F222 n (a0) (a1)).bind fun y5 => (bif decide (IntKind.i64.wrap (y5 - a1) > 16) then ((F178 n (3) (a1)).bind fun y7 => (some (y7))) else ((partO ((a0) : List UInt8) (a1) (y5)).bind fun x8 => ((F223 n (x8)).bind fun y10 => (bif y10 then ((partO ((a0) : List UInt8) (a1) (y5)).bind fun x12 => (some (({ Kind := 2, Text := x12, N := 0, At := a1 : TToken }, y5, { Code := 0, At := 0 : TFault })))) else ((partO ((a0) : List UInt8) (a1) (y5)).bind fun x14 => (some (({ Kind := 1, Text := x14, N := 0, At := a1 : TToken }, y5, { Code := 0, At := 0 : TFault }))))))))) else ((F224 n ((↑x1.toNat : Int))).bind fun y16 => (bif y16 then ((F225 n (a0) (a1)).bind fun y18 => (some (y18))) else (bif (↑x1.toNat : Int) == 39 then ((F222 n (a0) (IntKind.i64.wrap (a1 + 1))).bind fun y20 => (bif y20 == (↑a0.length : Int) then ((F178 n (2) (a1)).bind fun y22 => (some (y22))) else ((idxO ((a0) : List UInt8) (y20)).bind fun x23 => (bif (↑x23.toNat : Int) != 39 then ((F178 n (2) (a1)).bind fun y26 => (some (y26))) else ((partO ((a0) : List UInt8) (IntKind.i64.wrap (a1 + 1)) (y20)).bind fun x27 => ((F59 n (x27)).bind fun y29 => (bif !y29 then ((F178 n (3) (a1)).bind fun y31 => (some (y31))) else ((partO ((a0) : List UInt8) (IntKind.i64.wrap (a1 + 1)) (y20)).bind fun x32 => (some (({ Kind := 4, Text := x32, N := 0, At := a1 : TToken }, IntKind.i64.wrap (y20 + 1), { Code := 0, At := 0 : TFault }))))))))))) else ((F226 n).bind fun y34 => (F180_L1 a0 a1 y34 n (0)))))))))
set_option maxRecDepth 100000 in
theorem F180_ok {n : Nat} {a0 : (List UInt8)} {a1 : Int} {r} (hr : F180 n a0 a1 = some r) : Pure env.toCx 180 [(.v (.string ⟨⟨a0⟩⟩)), (.v (.int .i64 a1))] (.ret (.tup [(.agg (TToken.cs r.1)), (.v (.int .i64 r.2.1)), (.agg (TFault.cs r.2.2))])) := by
  unfold F180 at hr
  refine Pure.walk (E := env) Tryz.func180 rfl (by kernel_rfl) (rs := _) rfl Tryz.ntmps180 rfl ?_
  refine dr_run mixed 1000 ?_; conv => (arg 3; whnf)
  obtain ⟨x1, ex1, hr⟩ := bindO hr
  obtain ⟨j2h, ex1⟩ := idxO_nat ex1
  refine Ok.val eqs_nil rfl rfl (DOpS.toP (DOpS.strIdx ((a1 : Int).toNat) rfl rfl rfl rfl j2h ex1)) ?_
  refine dr_run mixed 1000 ?_; conv => (arg 3; whnf)
  obtain ⟨y3, ey3, hr⟩ := bindO hr
  replace ey3 := (F221_ok ey3)
  refine Ok.val eqs_nil rfl rfl (DOpP.callF ey3 rfl rfl rfl eqs_nil (ImpL.refl _) (.inl rfl)) ?_
  refine dr_run mixed 1000 ?_; conv => (arg 3; whnf)
  refine Ok.split ?_ ?_ <;> intro h4 <;> conv => (arg 3; whnf)
  · replace hr := bT h4 hr
    obtain ⟨y5, ey5, hr⟩ := bindO hr
    replace ey5 := (F222_ok ey5)
    refine Ok.val eqs_nil rfl rfl (DOpP.callF ey5 rfl rfl rfl eqs_nil (ImpL.refl _) (.inl rfl)) ?_
    refine dr_run mixed 1000 ?_; conv => (arg 3; whnf)
    refine Ok.split ?_ ?_ <;> intro h6 <;> conv => (arg 3; whnf)
    · replace hr := bT h6 hr
      obtain ⟨y7, ey7, hr⟩ := bindO hr
      replace ey7 := (F178_ok ey7)
      refine Ok.val eqs_nil rfl rfl (DOpP.callF ey7 rfl rfl rfl eqs_nil (ImpL.refl _) (.inl rfl)) ?_
      refine dr_run mixed 1000 ?_; conv => (arg 3; whnf)
      refine Ok.fin eqs_nil ?_
      obtain rfl := Option.some.inj hr
      exact RD.leaf rfl rfl eqs_nil rfl (Imp.refl _)
    replace hr := bF h6 hr
    obtain ⟨x8, ex8, hr⟩ := bindO hr
    obtain ⟨j9a, j9b, j9h, j9i, j9k, j9m, ex8⟩ := partO_some ex8
    refine Ok.val eqs_nil rfl rfl (DOpS.toP (DOpS.conv (DOpS.strPart j9a j9b rfl rfl rfl (bndC_of j9h rfl) (bndC_of j9i rfl) j9k j9m) (by rw [ex8])) (x := .d (.v (.string ⟨⟨x8⟩⟩)))) ?_
    refine dr_run mixed 1000 ?_; conv => (arg 3; whnf)
    obtain ⟨y10, ey10, hr⟩ := bindO hr
    replace ey10 := (F223_ok ey10)
    refine Ok.val eqs_nil rfl rfl (DOpP.callF ey10 rfl rfl rfl eqs_nil (ImpL.refl _) (.inl rfl)) ?_
    refine dr_run mixed 1000 ?_; conv => (arg 3; whnf)
    refine Ok.split ?_ ?_ <;> intro h11 <;> conv => (arg 3; whnf)
    · replace hr := bT h11 hr
      obtain ⟨x12, ex12, hr⟩ := bindO hr
      obtain ⟨j13a, j13b, j13h, j13i, j13k, j13m, ex12⟩ := partO_some ex12
      refine Ok.val eqs_nil rfl rfl (DOpS.toP (DOpS.conv (DOpS.strPart j13a j13b rfl rfl rfl (bndC_of j13h rfl) (bndC_of j13i rfl) j13k j13m) (by rw [ex12])) (x := .d (.v (.string ⟨⟨x12⟩⟩)))) ?_
      refine dr_run mixed 1000 ?_; conv => (arg 3; whnf)
      refine Ok.fin eqs_nil ?_
      obtain rfl := Option.some.inj hr
      exact RD.leaf rfl rfl eqs_nil rfl (Imp.refl _)
    replace hr := bF h11 hr
    obtain ⟨x14, ex14, hr⟩ := bindO hr
    obtain ⟨j15a, j15b, j15h, j15i, j15k, j15m, ex14⟩ := partO_some ex14
    refine Ok.val eqs_nil rfl rfl (DOpS.toP (DOpS.conv (DOpS.strPart j15a j15b rfl rfl rfl (bndC_of j15h rfl) (bndC_of j15i rfl) j15k j15m) (by rw [ex14])) (x := .d (.v (.string ⟨⟨x14⟩⟩)))) ?_
    refine dr_run mixed 1000 ?_; conv => (arg 3; whnf)
    refine Ok.fin eqs_nil ?_
    obtain rfl := Option.some.inj hr
    exact RD.leaf rfl rfl eqs_nil rfl (Imp.refl _)
  replace hr := bF h4 hr
  obtain ⟨y16, ey16, hr⟩ := bindO hr
  replace ey16 := (F224_ok ey16)
  refine Ok.val eqs_nil rfl rfl (DOpP.callF ey16 rfl rfl rfl eqs_nil (ImpL.refl _) (.inl rfl)) ?_
  refine dr_run mixed 1000 ?_; conv => (arg 3; whnf)
  refine Ok.split ?_ ?_ <;> intro h17 <;> conv => (arg 3; whnf)
  · replace hr := bT h17 hr
    obtain ⟨y18, ey18, hr⟩ := bindO hr
    replace ey18 := (F225_ok ey18)
    refine Ok.val eqs_nil rfl rfl (DOpP.callF ey18 rfl rfl rfl eqs_nil (ImpL.refl _) (.inl rfl)) ?_
    refine dr_run mixed 1000 ?_; conv => (arg 3; whnf)
    refine Ok.fin eqs_nil ?_
    obtain rfl := Option.some.inj hr
    exact RD.leaf rfl rfl eqs_nil rfl (Imp.refl _)
  replace hr := bF h17 hr
  refine Ok.split ?_ ?_ <;> intro h19 <;> conv => (arg 3; whnf)
  · replace hr := bT h19 hr
    obtain ⟨y20, ey20, hr⟩ := bindO hr
    replace ey20 := (F222_ok ey20)
    refine Ok.val eqs_nil rfl rfl (DOpP.callF ey20 rfl rfl rfl eqs_nil (ImpL.refl _) (.inl rfl)) ?_
    refine dr_run mixed 1000 ?_; conv => (arg 3; whnf)
    refine Ok.split ?_ ?_ <;> intro h21 <;> conv => (arg 3; whnf)
    · replace hr := bT h21 hr
      obtain ⟨y22, ey22, hr⟩ := bindO hr
      replace ey22 := (F178_ok ey22)
      refine Ok.val eqs_nil rfl rfl (DOpP.callF ey22 rfl rfl rfl eqs_nil (ImpL.refl _) (.inl rfl)) ?_
      refine dr_run mixed 1000 ?_; conv => (arg 3; whnf)
      refine Ok.fin eqs_nil ?_
      obtain rfl := Option.some.inj hr
      exact RD.leaf rfl rfl eqs_nil rfl (Imp.refl _)
    replace hr := bF h21 hr
    obtain ⟨x23, ex23, hr⟩ := bindO hr
    obtain ⟨j24h, ex23⟩ := idxO_nat ex23
    refine Ok.val eqs_nil rfl rfl (DOpS.toP (DOpS.strIdx ((y20 : Int).toNat) rfl rfl rfl rfl j24h ex23)) ?_
    refine dr_run mixed 1000 ?_; conv => (arg 3; whnf)
    refine Ok.split ?_ ?_ <;> intro h25 <;> conv => (arg 3; whnf)
    · replace hr := bT h25 hr
      obtain ⟨y26, ey26, hr⟩ := bindO hr
      replace ey26 := (F178_ok ey26)
      refine Ok.val eqs_nil rfl rfl (DOpP.callF ey26 rfl rfl rfl eqs_nil (ImpL.refl _) (.inl rfl)) ?_
      refine dr_run mixed 1000 ?_; conv => (arg 3; whnf)
      refine Ok.fin eqs_nil ?_
      obtain rfl := Option.some.inj hr
      exact RD.leaf rfl rfl eqs_nil rfl (Imp.refl _)
    replace hr := bF h25 hr
    obtain ⟨x27, ex27, hr⟩ := bindO hr
    obtain ⟨j28a, j28b, j28h, j28i, j28k, j28m, ex27⟩ := partO_some ex27
    refine Ok.val eqs_nil rfl rfl (DOpS.toP (DOpS.conv (DOpS.strPart j28a j28b rfl rfl rfl (bndC_of j28h rfl) (bndC_of j28i rfl) j28k j28m) (by rw [ex27])) (x := .d (.v (.string ⟨⟨x27⟩⟩)))) ?_
    refine dr_run mixed 1000 ?_; conv => (arg 3; whnf)
    obtain ⟨y29, ey29, hr⟩ := bindO hr
    replace ey29 := (F59_ok ey29)
    refine Ok.val eqs_nil rfl rfl (DOpP.callF ey29 rfl rfl rfl eqs_nil (ImpL.refl _) (.inl rfl)) ?_
    refine dr_run mixed 1000 ?_; conv => (arg 3; whnf)
    refine Ok.split ?_ ?_ <;> intro h30 <;> conv => (arg 3; whnf)
    · replace hr := bT h30 hr
      obtain ⟨y31, ey31, hr⟩ := bindO hr
      replace ey31 := (F178_ok ey31)
      refine Ok.val eqs_nil rfl rfl (DOpP.callF ey31 rfl rfl rfl eqs_nil (ImpL.refl _) (.inl rfl)) ?_
      refine dr_run mixed 1000 ?_; conv => (arg 3; whnf)
      refine Ok.fin eqs_nil ?_
      obtain rfl := Option.some.inj hr
      exact RD.leaf rfl rfl eqs_nil rfl (Imp.refl _)
    replace hr := bF h30 hr
    obtain ⟨x32, ex32, hr⟩ := bindO hr
    obtain ⟨j33a, j33b, j33h, j33i, j33k, j33m, ex32⟩ := partO_some ex32
    refine Ok.val eqs_nil rfl rfl (DOpS.toP (DOpS.conv (DOpS.strPart j33a j33b rfl rfl rfl (bndC_of j33h rfl) (bndC_of j33i rfl) j33k j33m) (by rw [ex32])) (x := .d (.v (.string ⟨⟨x32⟩⟩)))) ?_
    refine dr_run mixed 1000 ?_; conv => (arg 3; whnf)
    refine Ok.fin eqs_nil ?_
    obtain rfl := Option.some.inj hr
    exact RD.leaf rfl rfl eqs_nil rfl (Imp.refl _)
  replace hr := bF h19 hr
  obtain ⟨y34, ey34, hr⟩ := bindO hr
  replace ey34 := (F226_ok ey34)
  refine Ok.val eqs_nil rfl rfl (DOpP.callF ey34 rfl rfl rfl eqs_nil (ImpL.refl _) (.inl rfl)) ?_
  refine dr_run mixed 1000 ?_; conv => (arg 3; whnf)
  refine Ok.stuck eqs_nil ?_
  refine DWP.loopA (S := Int) 2 [0, 1, 4, 5, 6, 11] [12] (fun s => [(12, .d (.v (.int .i64 s)))]) (fun s => []) (fun m s => m ≤ n ∧ F180_L1 a0 a1 y34 m s = some r) n (0) rfl rfl rfl rfl rfl rfl ⟨Nat.le_refl _, hr⟩ ?_
  clear hr
  rintro n s35 ⟨hle, hr⟩
  rcases n with _ | n
  · exact noneO hr
  replace hr : F180_L1 a0 a1 y34 (n + 1) s35 = some r := hr
  rw [F180_L1] at hr
  refine dr_run mixed 1000 ?_; conv => (arg 3; whnf)
  refine Ok.split ?_ ?_ <;> intro h36 <;> conv => (arg 3; whnf)
  · replace hr := bT h36 hr
    obtain ⟨x37, ex37, hr⟩ := bindO hr
    obtain ⟨j38h, ex37⟩ := idxO_nat ex37
    refine Ok.val eqs_nil rfl rfl (DOpS.toP (DOpS.idx ((s35 : Int).toNat) rfl rfl rfl rfl j38h (rowsS_get ex37))) ?_
    refine dr_run mixed 1000 ?_; conv => (arg 3; whnf)
    refine Ok.open (id := 24) [0, 1, 2, 3, 4, 5, 6, 7, 8, 9, 10, 11, 12, 13, 14, 15, 16, 17, 18] [] [] eqs_nil mixed rfl (by kernel_rfl) (by kernel_rfl) ?_
    refine dr_run mixed 1000 ?_; conv => (arg 3; whnf)
    refine Ok.split ?_ ?_ <;> intro h39 <;> conv => (arg 3; whnf)
    · replace hr := bT h39 hr
      obtain ⟨x40, ex40, hr⟩ := bindO hr
      obtain ⟨j41a, j41b, j41h, j41i, j41k, j41m, ex40⟩ := partO_some ex40
      refine Ok.lexVal eqs_nil rfl rfl rfl (DOpS.toP (DOpS.conv (DOpS.strPart j41a j41b rfl rfl rfl (bndC_of j41h rfl) (bndC_of j41i rfl) j41k j41m) (by rw [ex40])) (x := .d (.v (.string ⟨⟨x40⟩⟩)))) ?_
      refine dr_run mixed 1000 ?_; conv => (arg 3; whnf)
      obtain ⟨x42, ex42, hr⟩ := bindO hr
      obtain ⟨j43h, ex42⟩ := idxO_nat ex42
      refine Ok.lexVal eqs_nil rfl rfl rfl (DOpS.toP (DOpS.idx ((s35 : Int).toNat) rfl rfl rfl rfl j43h (rowsS_get ex42))) ?_
      refine dr_run mixed 1000 ?_; conv => (arg 3; whnf)
      refine Ok.split ?_ ?_ <;> intro h44 <;> conv => (arg 3; whnf)
      · replace hr := bT h44 hr
        obtain ⟨x45, ex45, hr⟩ := bindO hr
        obtain ⟨j46h, ex45⟩ := idxO_nat ex45
        refine Ok.val eqs_nil rfl rfl (DOpS.toP (DOpS.idx ((s35 : Int).toNat) rfl rfl rfl rfl j46h (rowsS_get ex45))) ?_
        refine dr_run mixed 1000 ?_; conv => (arg 3; whnf)
        refine Ok.fin eqs_nil ?_
        obtain rfl := Option.some.inj hr
        exact RD.leaf rfl rfl eqs_nil rfl (Imp.refl _)
      replace hr := bF h44 hr
      refine Ok.stuck eqs_nil ?_
      exact DWP.nextA (IntKind.i64.wrap (s35 + 1)) n rfl rfl (by first | rfl | (simp only [gsimp]; rfl) | (simp only [gsimp, List.length_set]; rfl) | (simp only [gcs, gsimp, List.length_set]; rfl)) (by first | rfl | (simp only [gsimp]; rfl) | (simp only [gsimp, List.length_set]; rfl) | (simp only [gcs, gsimp, List.length_set]; rfl)) (by omega) ⟨by omega, by exact hr⟩
    replace hr := bF h39 hr
    refine Ok.stuck eqs_nil ?_
    exact DWP.nextA (IntKind.i64.wrap (s35 + 1)) n rfl rfl (by first | rfl | (simp only [gsimp]; rfl) | (simp only [gsimp, List.length_set]; rfl) | (simp only [gcs, gsimp, List.length_set]; rfl)) (by first | rfl | (simp only [gsimp]; rfl) | (simp only [gsimp, List.length_set]; rfl) | (simp only [gcs, gsimp, List.length_set]; rfl)) (by omega) ⟨by omega, by exact hr⟩
  replace hr := bF h36 hr
  obtain ⟨y47, ey47, hr⟩ := bindO hr
  replace ey47 := (F178_ok ey47)
  refine Ok.val eqs_nil rfl rfl (DOpP.callF ey47 rfl rfl rfl eqs_nil (ImpL.refl _) (.inl rfl)) ?_
  refine dr_run mixed 1000 ?_; conv => (arg 3; whnf)
  refine Ok.fin eqs_nil ?_
  obtain rfl := Option.some.inj hr
  exact RD.leaf rfl rfl eqs_nil rfl (Imp.refl _)
/- plexus.plexusref15.Next -/
def F120 (n : Nat) (a0 : (List UInt8)) (a1 : Int) : Option ((TToken × Int × TFault)) := (bif decide ((↑a0.length : Int) > 65536) then ((F178 n (6) (65536)).bind fun y2 => (some (y2))) else (bif decide (a1 < 0) then ((F178 n (1) (0)).bind fun y4 => (some (y4))) else (bif decide (a1 > (↑a0.length : Int)) then ((F178 n (1) (0)).bind fun y6 => (some (y6))) else ((F179 n (a0) (a1)).bind fun y7 => (bif y7 == (↑a0.length : Int) then (some (({ Kind := 6, Text := [], N := 0, At := y7 : TToken }, y7, { Code := 0, At := 0 : TFault }))) else ((F180 n (a0) (y7)).bind fun y9 => (some (y9))))))))
set_option maxRecDepth 100000 in
theorem F120_ok {n : Nat} {a0 : (List UInt8)} {a1 : Int} {r} (hr : F120 n a0 a1 = some r) : Pure env.toCx 120 [(.v (.string ⟨⟨a0⟩⟩)), (.v (.int .i64 a1))] (.ret (.tup [(.agg (TToken.cs r.1)), (.v (.int .i64 r.2.1)), (.agg (TFault.cs r.2.2))])) := by
  unfold F120 at hr
  refine Pure.walk (E := env) Tryz.func120 rfl (by kernel_rfl) (rs := _) rfl Tryz.ntmps120 rfl ?_
  refine dr_run mixed 1000 ?_; conv => (arg 3; whnf)
  refine Ok.split ?_ ?_ <;> intro h1 <;> conv => (arg 3; whnf)
  · replace hr := bT h1 hr
    obtain ⟨y2, ey2, hr⟩ := bindO hr
    replace ey2 := (F178_ok ey2)
    refine Ok.val eqs_nil rfl rfl (DOpP.callF ey2 rfl rfl rfl eqs_nil (ImpL.refl _) (.inl rfl)) ?_
    refine dr_run mixed 1000 ?_; conv => (arg 3; whnf)
    refine Ok.fin eqs_nil ?_
    obtain rfl := Option.some.inj hr
    exact RD.leaf rfl rfl eqs_nil rfl (Imp.refl _)
  replace hr := bF h1 hr
  refine Ok.split ?_ ?_ <;> intro h3 <;> conv => (arg 3; whnf)
  · replace hr := bT h3 hr
    obtain ⟨y4, ey4, hr⟩ := bindO hr
    replace ey4 := (F178_ok ey4)
    refine Ok.val eqs_nil rfl rfl (DOpP.callF ey4 rfl rfl rfl eqs_nil (ImpL.refl _) (.inl rfl)) ?_
    refine dr_run mixed 1000 ?_; conv => (arg 3; whnf)
    refine Ok.fin eqs_nil ?_
    obtain rfl := Option.some.inj hr
    exact RD.leaf rfl rfl eqs_nil rfl (Imp.refl _)
  replace hr := bF h3 hr
  refine Ok.split ?_ ?_ <;> intro h5 <;> conv => (arg 3; whnf)
  · replace hr := bT h5 hr
    obtain ⟨y6, ey6, hr⟩ := bindO hr
    replace ey6 := (F178_ok ey6)
    refine Ok.val eqs_nil rfl rfl (DOpP.callF ey6 rfl rfl rfl eqs_nil (ImpL.refl _) (.inl rfl)) ?_
    refine dr_run mixed 1000 ?_; conv => (arg 3; whnf)
    refine Ok.fin eqs_nil ?_
    obtain rfl := Option.some.inj hr
    exact RD.leaf rfl rfl eqs_nil rfl (Imp.refl _)
  replace hr := bF h5 hr
  obtain ⟨y7, ey7, hr⟩ := bindO hr
  replace ey7 := (F179_ok ey7)
  refine Ok.val eqs_nil rfl rfl (DOpP.callF ey7 rfl rfl rfl eqs_nil (ImpL.refl _) (.inl rfl)) ?_
  refine dr_run mixed 1000 ?_; conv => (arg 3; whnf)
  refine Ok.split ?_ ?_ <;> intro h8 <;> conv => (arg 3; whnf)
  · replace hr := bT h8 hr
    refine Ok.fin eqs_nil ?_
    obtain rfl := Option.some.inj hr
    exact RD.leaf rfl rfl eqs_nil rfl (Imp.refl _)
  replace hr := bF h8 hr
  obtain ⟨y9, ey9, hr⟩ := bindO hr
  replace ey9 := (F180_ok ey9)
  refine Ok.val eqs_nil rfl rfl (DOpP.callF ey9 rfl rfl rfl eqs_nil (ImpL.refl _) (.inl rfl)) ?_
  refine dr_run mixed 1000 ?_; conv => (arg 3; whnf)
  refine Ok.fin eqs_nil ?_
  obtain rfl := Option.some.inj hr
  exact RD.leaf rfl rfl eqs_nil rfl (Imp.refl _)
/- plexus.plexusref15.Lex -/
def F71_L1 (a0 : (List UInt8)) : Nat → (List TToken) → (List TToken) → Int → Option (((List TToken) × TFault))
  | 0, _, _, _ => none
  | n + 1, s1, s2, s3 => ((F120 n (a0) (s3)).bind fun y4 => (bif y4.snd.snd.Code != 0 then (some (([], y4.snd.snd))) else (bif decide (((s2 : List TToken) ++ ([y4.fst] : List TToken)).length ≤ 274877906944) then (bif y4.fst.Kind == 6 then (some ((s2 ++ [y4.fst], { Code := 0, At := 0 : TFault }))) else (F71_L1 a0 n (s1) (s2 ++ [y4.fst]) (y4.snd.fst))) else none)))
def F71 (n : Nat) (a0 : (List UInt8)) : Option (((List TToken) × TFault)) := (F71_L1 a0 n ([]) ([]) (0))
set_option maxRecDepth 100000 in
theorem F71_ok {n : Nat} {a0 : (List UInt8)} {r} (hr : F71 n a0 = some r) : Pure env.toCx 71 [(.v (.string ⟨⟨a0⟩⟩))] (.ret (.tup [(.sl 4 (TToken.rows r.1)), (.agg (TFault.cs r.2))])) := by
  unfold F71 at hr
  refine Pure.walk (E := env) Tryz.func71 rfl (by kernel_rfl) (rs := _) rfl Tryz.ntmps71 rfl ?_
  refine dr_run mixed 1000 ?_; conv => (arg 3; whnf)
  refine Ok.stuck eqs_nil ?_
  refine DWP.nilRowN 2 126 4 1 rfl rfl ?_
  refine DWP.nilRowN 4 126 4 2 rfl rfl ?_
  refine DWP.loopA (S := (List TToken) × (List TToken) × Int) 3 [0, 3] [2, 4, 5] (fun s => [(2, .os 1 (TToken.rows s.1).length), (4, .os 2 (TToken.rows s.2.1).length), (5, .d (.v (.int .i64 s.2.2)))]) (fun s => [(1, .row 126 4 (TToken.rows s.1)), (2, .row 126 4 (TToken.rows s.2.1))]) (fun m s => m ≤ n ∧ F71_L1 a0 m s.1 s.2.1 s.2.2 = some r) n ([], [], 0) rfl rfl rfl rfl rfl rfl ⟨Nat.le_refl _, hr⟩ ?_
  clear hr
  rintro n ⟨s1, s2, s3⟩ ⟨hle, hr⟩
  rcases n with _ | n
  · exact noneO hr
  replace hr : F71_L1 a0 (n + 1) s1 s2 s3 = some r := hr
  rw [F71_L1] at hr
  refine dr_run mixed 1000 ?_; conv => (arg 3; whnf)
  obtain ⟨y4, ey4, hr⟩ := bindO hr
  replace ey4 := (F120_ok ey4)
  refine Ok.val eqs_nil rfl rfl (DOpP.callF ey4 rfl rfl rfl eqs_nil (ImpL.refl _) (.inl rfl)) ?_
  refine dr_run mixed 1000 ?_; conv => (arg 3; whnf)
  refine Ok.split ?_ ?_ <;> intro h5 <;> conv => (arg 3; whnf)
  · replace hr := bT h5 hr
    refine Ok.open (id := 5) [0, 1] [(2, .one)] [] eqs_nil mixed rfl (by kernel_rfl) (by kernel_rfl) ?_
    refine dr_run mixed 1000 ?_; conv => (arg 3; whnf)
    refine Ok.fin eqs_nil ?_
    obtain rfl := Option.some.inj hr
    exact RD.leaf rfl rfl eqs_nil rfl (by (try simp only [gsimp]); repeat (first | exact Imp.refl _ | exact Imp.nil _ | exact ImpL.nil | exact ImpR.nil | exact ImpL.refl _ | exact ImpR.refl _ | exact Imp.of (by simp only [gsimp]; rfl) | (dsimp only; try simp only [gsimp]) | apply Imp.agg | apply Imp.tup | apply Imp.ip | apply Imp.fn | apply ImpL.cons | apply Imp.sl | apply ImpR.cons | apply ImpR.append))
  replace hr := bF h5 hr
  refine Ok.stuck eqs_nil ?_; refine DWP.rowImp 5 (rows' := TToken.rows ([y4.fst])) rfl (by exact ImpR.refl _) ?_
  refine dr_run mixed 1000 ?_; conv => (arg 3; whnf)
  obtain ⟨h6, hr⟩ := guardO hr
  refine Ok.stuck eqs_nil ?_; refine DO.appRow rfl rfl (by first | rfl | simp only [List.length_set] | simp only [glen, List.length_set, List.length_replicate, List.length_append, List.length_cons, List.length_nil]) rfl rfl (by first | rfl | simp only [List.length_set] | simp only [glen, List.length_set, List.length_replicate, List.length_append, List.length_cons, List.length_nil]) rfl rfl (TToken.rows_ones _) rfl rfl rfl (by have h0 := of_decide_eq_true h6; simp only [List.length_append, List.length_set, List.length_cons, List.length_nil, chunk_length, TToken.rows_len] at h0 ⊢; omega) ?_
  refine dr_run mixed 1000 ?_; conv => (arg 3; whnf)
  refine Ok.split ?_ ?_ <;> intro h7 <;> conv => (arg 3; whnf)
  · replace hr := bT h7 hr
    refine Ok.fin eqs_nil ?_
    obtain rfl := Option.some.inj hr
    exact RD.leaf rfl rfl (eqs_cons rfl eqs_nil) rfl (by exact Imp.of (by simp only [gsimp]; rfl))
  replace hr := bF h7 hr
  refine Ok.stuck eqs_nil ?_
  exact DWP.nextA (s1, s2 ++ [y4.fst], y4.snd.fst) n rfl rfl (by first | rfl | (simp only [gsimp]; rfl) | (simp only [gsimp, List.length_set]; rfl) | (simp only [gcs, gsimp, List.length_set]; rfl)) (by first | rfl | (simp only [gsimp]; rfl) | (simp only [gsimp, List.length_set]; rfl) | (simp only [gcs, gsimp, List.length_set]; rfl)) (by omega) ⟨by omega, by exact hr⟩
/- (*plexus.plexusref16.P).token -/
def F74 (n : Nat) (a0 : Tplexusref16UP) : Option (TToken) := ((idxO (a0.T) (a0.I)).bind fun x1 => (some (x1)))
set_option maxRecDepth 100000 in
theorem F74_ok {n : Nat} {a0 : Tplexusref16UP} {r} (hr : F74 n a0 = some r) : Pure env.toCx 74 [(.ip (Tplexusref16UP.cs a0))] (.ret (.agg (TToken.cs r))) := by
  unfold F74 at hr
  refine Pure.walk (E := env) Tryz.func74 rfl (by kernel_rfl) (rs := _) rfl Tryz.ntmps74 rfl ?_
  refine dr_run mixed 1000 ?_; conv => (arg 3; whnf)
  refine Ok.open (id := 1) [0, 1, 2, 3, 4, 5, 6, 7, 8, 9] [(10, .one)] [] eqs_nil mixed rfl (by kernel_rfl) (by kernel_rfl) ?_
  refine dr_run mixed 1000 ?_; conv => (arg 3; whnf)
  obtain ⟨x1, ex1, hr⟩ := bindO hr
  obtain ⟨j2h, ex1⟩ := idxO_nat ex1
  refine Ok.lexVal eqs_nil rfl rfl rfl (DOpS.toP (DOpS.idx ((a0.I : Int).toNat) rfl rfl rfl rfl j2h (TToken.rows_get ex1))) ?_
  refine dr_run mixed 1000 ?_; conv => (arg 3; whnf)
  refine Ok.fin eqs_nil ?_
  obtain rfl := Option.some.inj hr
  exact RD.leaf rfl rfl eqs_nil rfl (Imp.refl _)
end Go.Proofs.YtdmkbllocddkaaaGreat
end

section
set_option linter.unusedVariables false
set_option linter.unusedSimpArgs false
namespace Go.Proofs.YtdmkbllocddkaaaGreat
open Go Go.Bw
/- (*plexus.plexusref16.P).is -/
def F121 (n : Nat) (a0 : Tplexusref16UP) (a1 : (List UInt8)) : Option (Bool) := ((F74 n (a0)).bind fun y1 => (bif !a0.Bad then (bif y1.Kind == 2 then (some (y1.Text == a1)) else (bif y1.Kind == 5 then (some (y1.Text == a1)) else (some (false)))) else (some (false))))
set_option maxRecDepth 100000 in
theorem F121_ok {n : Nat} {a0 : Tplexusref16UP} {a1 : (List UInt8)} {r} (hr : F121 n a0 a1 = some r) : Pure env.toCx 121 [(.ip (Tplexusref16UP.cs a0)), (.v (.string ⟨⟨a1⟩⟩))] (.ret (.v (.bool r))) := by
  unfold F121 at hr
  refine Pure.walk (E := env) Tryz.func121 rfl (by kernel_rfl) (rs := _) rfl Tryz.ntmps121 rfl ?_
  refine dr_run mixed 1000 ?_; conv => (arg 3; whnf)
  obtain ⟨y1, ey1, hr⟩ := bindO hr
  replace ey1 := (F74_ok ey1)
  refine Ok.val eqs_nil rfl rfl (DOpP.callF ey1 rfl rfl rfl eqs_nil (ImpL.refl _) (.inl rfl)) ?_
  refine dr_run mixed 1000 ?_; conv => (arg 3; whnf)
  refine Ok.split ?_ ?_ <;> intro h2 <;> conv => (arg 3; whnf)
  · replace hr := bT h2 hr
    refine Ok.split ?_ ?_ <;> intro h3 <;> conv => (arg 3; whnf)
    · replace hr := bT h3 hr
      refine Ok.fin eqs_nil ?_
      obtain rfl := Option.some.inj hr
      exact RD.leaf rfl rfl eqs_nil rfl (Imp.refl _)
    replace hr := bF h3 hr
    refine Ok.split ?_ ?_ <;> intro h4 <;> conv => (arg 3; whnf)
    · replace hr := bT h4 hr
      refine Ok.fin eqs_nil ?_
      obtain rfl := Option.some.inj hr
      exact RD.leaf rfl rfl eqs_nil rfl (Imp.refl _)
    replace hr := bF h4 hr
    refine Ok.fin eqs_nil ?_
    obtain rfl := Option.some.inj hr
    exact RD.leaf rfl rfl eqs_nil rfl (Imp.refl _)
  replace hr := bF h2 hr
  refine Ok.fin eqs_nil ?_
  obtain rfl := Option.some.inj hr
  exact RD.leaf rfl rfl eqs_nil rfl (Imp.refl _)
/- (*plexus.plexusref16.P).fail -/
def F76 (n : Nat) (a0 : Tplexusref16UP) (a1 : Int) : Option ((Unit × Tplexusref16UP)) := (bif !a0.Bad then ((F74 n ({ T := a0.T, I := a0.I, Open := a0.Open, Bad := true, Fault := a0.Fault : Tplexusref16UP })).bind fun y2 => (some ((()), ({ T := a0.T, I := a0.I, Open := a0.Open, Bad := true, Fault := { Code := a1, At := y2.At : TFault } : Tplexusref16UP })))) else (some ((()), (a0))))
set_option maxRecDepth 100000 in
theorem F76_ok {n : Nat} {a0 : Tplexusref16UP} {a1 : Int} {r} (hr : F76 n a0 a1 = some r) : SPure env 76 [(.own 0 0), (.d (.v (.int .i64 a1)))] (.box (Tplexusref16UP.cs a0)) (.tup []) (.box (Tplexusref16UP.cs r.2)) := by
  unfold F76 at hr
  refine SPure.walk (E := env) Tryz.func76 rfl (by kernel_rfl) (rs := _) rfl Tryz.ntmps76 rfl ?_
  refine dr_run mixed 1000 ?_; conv => (arg 3; whnf)
  refine Ok.split ?_ ?_ <;> intro h1 <;> conv => (arg 3; whnf)
  · replace hr := bT h1 hr
    obtain ⟨y2, ey2, hr⟩ := bindO hr
    replace ey2 := (F74_ok ey2)
    refine Ok.val eqs_nil rfl rfl (DOpP.callF ey2 rfl rfl rfl eqs_nil (ImpL.refl _) (.inr rfl)) ?_
    refine dr_run mixed 1000 ?_; conv => (arg 3; whnf)
    refine Ok.fin eqs_nil ?_
    obtain rfl := Option.some.inj hr
    exact RD.leafSBN rfl rfl rfl eqs_nil rfl (by exact Imp.refl _) (by exact ImpL.refl _)
  replace hr := bF h1 hr
  refine Ok.fin eqs_nil ?_
  obtain rfl := Option.some.inj hr
  exact RD.leafSBN rfl rfl rfl eqs_nil rfl (by exact Imp.refl _) (by exact ImpL.refl _)
/- (*plexus.plexusref16.P).text -/
def F125 (n : Nat) (a0 : Tplexusref16UP) (a1 : Int) : Option (((List UInt8) × Tplexusref16UP)) := ((F74 n (a0)).bind fun y1 => (bif a0.Bad then ((F76 n (a0) (2)).bind fun y3 => (some (([]), (y3.snd)))) else (bif y1.Kind != a1 then ((F76 n (a0) (2)).bind fun y5 => (some (([]), (y5.snd)))) else (some ((y1.Text), ({ T := a0.T, I := IntKind.i64.wrap (a0.I + 1), Open := a0.Open, Bad := a0.Bad, Fault := a0.Fault : Tplexusref16UP }))))))
set_option maxRecDepth 100000 in
theorem F125_ok {n : Nat} {a0 : Tplexusref16UP} {a1 : Int} {r} (hr : F125 n a0 a1 = some r) : SPure env 125 [(.own 0 0), (.d (.v (.int .i64 a1)))] (.box (Tplexusref16UP.cs a0)) (.v (.string ⟨⟨r.1⟩⟩)) (.box (Tplexusref16UP.cs r.2)) := by
  unfold F125 at hr
  refine SPure.walk (E := env) Tryz.func125 rfl (by kernel_rfl) (rs := _) rfl Tryz.ntmps125 rfl ?_
  refine dr_run mixed 1000 ?_; conv => (arg 3; whnf)
  obtain ⟨y1, ey1, hr⟩ := bindO hr
  replace ey1 := (F74_ok ey1)
  refine Ok.val eqs_nil rfl rfl (DOpP.callF ey1 rfl rfl rfl eqs_nil (ImpL.refl _) (.inr rfl)) ?_
  refine dr_run mixed 1000 ?_; conv => (arg 3; whnf)
  refine Ok.split ?_ ?_ <;> intro h2 <;> conv => (arg 3; whnf)
  · replace hr := bT h2 hr
    obtain ⟨y3, ey3, hr⟩ := bindO hr
    replace ey3 := (F76_ok ey3)
    refine Ok.stuck eqs_nil ?_; refine DWP.callS 0 ey3 rfl rfl rfl rfl (SImp.box rfl (by exact ImpL.refl _)) rfl ?_
    refine dr_run mixed 1000 ?_; conv => (arg 3; whnf)
    refine Ok.fin eqs_nil ?_
    obtain rfl := Option.some.inj hr
    exact RD.leafSB rfl rfl rfl eqs_nil rfl (by exact Imp.refl _) (by exact ImpL.refl _)
  replace hr := bF h2 hr
  refine Ok.split ?_ ?_ <;> intro h4 <;> conv => (arg 3; whnf)
  · replace hr := bT h4 hr
    obtain ⟨y5, ey5, hr⟩ := bindO hr
    replace ey5 := (F76_ok ey5)
    refine Ok.stuck eqs_nil ?_; refine DWP.callS 0 ey5 rfl rfl rfl rfl (SImp.box rfl (by exact ImpL.refl _)) rfl ?_
    refine dr_run mixed 1000 ?_; conv => (arg 3; whnf)
    refine Ok.fin eqs_nil ?_
    obtain rfl := Option.some.inj hr
    exact RD.leafSB rfl rfl rfl eqs_nil rfl (by exact Imp.refl _) (by exact ImpL.refl _)
  replace hr := bF h4 hr
  refine Ok.fin eqs_nil ?_
  obtain rfl := Option.some.inj hr
  exact RD.leafSB rfl rfl rfl eqs_nil rfl (by exact Imp.refl _) (by exact ImpL.refl _)
/- (*plexus.plexusref16.P).integer -/
def F127 (n : Nat) (a0 : Tplexusref16UP) : Option ((TNode × Tplexusref16UP)) := ((F74 n (a0)).bind fun y1 => ((F121 n (a0) ([45])).bind fun y2 => (bif y2 then ((F74 n ({ T := a0.T, I := IntKind.i64.wrap (a0.I + 1), Open := a0.Open, Bad := a0.Bad, Fault := a0.Fault : Tplexusref16UP })).bind fun y4 => ((F125 n ({ T := a0.T, I := IntKind.i64.wrap (a0.I + 1), Open := a0.Open, Bad := a0.Bad, Fault := a0.Fault : Tplexusref16UP }) (3)).bind fun y5 => (some (({ Kind := 44, Text := [], N := IntKind.i64.wrap (-1 * y4.N), At := y1.At, Kids := [] : TNode }), (y5.snd))))) else ((F74 n (a0)).bind fun y6 => ((F125 n (a0) (3)).bind fun y7 => (some (({ Kind := 44, Text := [], N := IntKind.i64.wrap (1 * y6.N), At := y1.At, Kids := [] : TNode }), (y7.snd))))))))
set_option maxRecDepth 100000 in
theorem F127_ok {n : Nat} {a0 : Tplexusref16UP} {r} (hr : F127 n a0 = some r) : SPure env 127 [(.own 0 0)] (.box (Tplexusref16UP.cs a0)) (.agg (TNode.cs r.1)) (.box (Tplexusref16UP.cs r.2)) := by
  unfold F127 at hr
  refine SPure.walk (E := env) Tryz.func127 rfl (by kernel_rfl) (rs := _) rfl Tryz.ntmps127 rfl ?_
  refine dr_run mixed 1000 ?_; conv => (arg 3; whnf)
  obtain ⟨y1, ey1, hr⟩ := bindO hr
  replace ey1 := (F74_ok ey1)
  refine Ok.val eqs_nil rfl rfl (DOpP.callF ey1 rfl rfl rfl eqs_nil (ImpL.refl _) (.inr rfl)) ?_
  refine dr_run mixed 1000 ?_; conv => (arg 3; whnf)
  obtain ⟨y2, ey2, hr⟩ := bindO hr
  replace ey2 := (F121_ok ey2)
  refine Ok.val eqs_nil rfl rfl (DOpP.callF ey2 rfl rfl rfl eqs_nil (ImpL.refl _) (.inr rfl)) ?_
  refine dr_run mixed 1000 ?_; conv => (arg 3; whnf)
  refine Ok.split ?_ ?_ <;> intro h3 <;> conv => (arg 3; whnf)
  · replace hr := bT h3 hr
    obtain ⟨y4, ey4, hr⟩ := bindO hr
    replace ey4 := (F74_ok ey4)
    refine Ok.val eqs_nil rfl rfl (DOpP.callF ey4 rfl rfl rfl eqs_nil (ImpL.refl _) (.inr rfl)) ?_
    refine dr_run mixed 1000 ?_; conv => (arg 3; whnf)
    obtain ⟨y5, ey5, hr⟩ := bindO hr
    replace ey5 := (F125_ok ey5)
    refine Ok.stuck eqs_nil ?_; refine DWP.callS 0 ey5 rfl rfl rfl rfl (SImp.box rfl (by exact ImpL.refl _)) rfl ?_
    refine dr_run mixed 1000 ?_; conv => (arg 3; whnf)
    refine Ok.fin eqs_nil ?_
    obtain rfl := Option.some.inj hr
    exact RD.leafSB rfl rfl rfl eqs_nil rfl (by (try simp only [gsimp]); repeat (first | exact Imp.refl _ | exact Imp.nil _ | exact ImpL.nil | exact ImpR.nil | exact ImpL.refl _ | exact ImpR.refl _ | exact Imp.of (by simp only [gsimp]; rfl) | (dsimp only; try simp only [gsimp]) | apply Imp.agg | apply Imp.tup | apply Imp.ip | apply Imp.fn | apply ImpL.cons | apply Imp.sl | apply ImpR.cons | apply ImpR.append)) (by exact ImpL.refl _)
  replace hr := bF h3 hr
  obtain ⟨y6, ey6, hr⟩ := bindO hr
  replace ey6 := (F74_ok ey6)
  refine Ok.val eqs_nil rfl rfl (DOpP.callF ey6 rfl rfl rfl eqs_nil (ImpL.refl _) (.inr rfl)) ?_
  refine dr_run mixed 1000 ?_; conv => (arg 3; whnf)
  obtain ⟨y7, ey7, hr⟩ := bindO hr
  replace ey7 := (F125_ok ey7)
  refine Ok.stuck eqs_nil ?_; refine DWP.callS 0 ey7 rfl rfl rfl rfl (SImp.box rfl (by exact ImpL.refl _)) rfl ?_
  refine dr_run mixed 1000 ?_; conv => (arg 3; whnf)
  refine Ok.fin eqs_nil ?_
  obtain rfl := Option.some.inj hr
  exact RD.leafSB rfl rfl rfl eqs_nil rfl (by (try simp only [gsimp]); repeat (first | exact Imp.refl _ | exact Imp.nil _ | exact ImpL.nil | exact ImpR.nil | exact ImpL.refl _ | exact ImpR.refl _ | exact Imp.of (by simp only [gsimp]; rfl) | (dsimp only; try simp only [gsimp]) | apply Imp.agg | apply Imp.tup | apply Imp.ip | apply Imp.fn | apply ImpL.cons | apply Imp.sl | apply ImpR.cons | apply ImpR.append)) (by exact ImpL.refl _)
/- (*plexus.plexusref16.P).enter -/
def F123 (n : Nat) (a0 : Tplexusref16UP) : Option ((Unit × Tplexusref16UP)) := (bif decide (a0.Open ≥ 64) then ((F76 n (a0) (6)).bind fun y2 => (some ((()), ({ T := y2.snd.T, I := y2.snd.I, Open := IntKind.i64.wrap (y2.snd.Open + 1), Bad := y2.snd.Bad, Fault := y2.snd.Fault : Tplexusref16UP })))) else (some ((()), ({ T := a0.T, I := a0.I, Open := IntKind.i64.wrap (a0.Open + 1), Bad := a0.Bad, Fault := a0.Fault : Tplexusref16UP }))))
set_option maxRecDepth 100000 in
theorem F123_ok {n : Nat} {a0 : Tplexusref16UP} {r} (hr : F123 n a0 = some r) : SPure env 123 [(.own 0 0)] (.box (Tplexusref16UP.cs a0)) (.tup []) (.box (Tplexusref16UP.cs r.2)) := by
  unfold F123 at hr
  refine SPure.walk (E := env) Tryz.func123 rfl (by kernel_rfl) (rs := _) rfl Tryz.ntmps123 rfl ?_
  refine dr_run mixed 1000 ?_; conv => (arg 3; whnf)
  refine Ok.split ?_ ?_ <;> intro h1 <;> conv => (arg 3; whnf)
  · replace hr := bT h1 hr
    obtain ⟨y2, ey2, hr⟩ := bindO hr
    replace ey2 := (F76_ok ey2)
    refine Ok.stuck eqs_nil ?_; refine DWP.callS 0 ey2 rfl rfl rfl rfl (SImp.box rfl (by exact ImpL.refl _)) rfl ?_
    refine dr_run mixed 1000 ?_; conv => (arg 3; whnf)
    refine Ok.fin eqs_nil ?_
    obtain rfl := Option.some.inj hr
    exact RD.leafSBN rfl rfl rfl eqs_nil rfl (by exact Imp.refl _) (by exact ImpL.refl _)
  replace hr := bF h1 hr
  refine Ok.fin eqs_nil ?_
  obtain rfl := Option.some.inj hr
  exact RD.leafSBN rfl rfl rfl eqs_nil rfl (by exact Imp.refl _) (by exact ImpL.refl _)
/- (*plexus.plexusref16.P).take -/
def F124 (n : Nat) (a0 : Tplexusref16UP) (a1 : (List UInt8)) : Option ((Unit × Tplexusref16UP)) := ((F121 n (a0) (a1)).bind fun y1 => (bif y1 then (some ((()), ({ T := a0.T, I := IntKind.i64.wrap (a0.I + 1), Open := a0.Open, Bad := a0.Bad, Fault := a0.Fault : Tplexusref16UP }))) else ((F76 n (a0) (2)).bind fun y3 => (some ((()), (y3.snd))))))
set_option maxRecDepth 100000 in
theorem F124_ok {n : Nat} {a0 : Tplexusref16UP} {a1 : (List UInt8)} {r} (hr : F124 n a0 a1 = some r) : SPure env 124 [(.own 0 0), (.d (.v (.string ⟨⟨a1⟩⟩)))] (.box (Tplexusref16UP.cs a0)) (.tup []) (.box (Tplexusref16UP.cs r.2)) := by
  unfold F124 at hr
  refine SPure.walk (E := env) Tryz.func124 rfl (by kernel_rfl) (rs := _) rfl Tryz.ntmps124 rfl ?_
  refine dr_run mixed 1000 ?_; conv => (arg 3; whnf)
  obtain ⟨y1, ey1, hr⟩ := bindO hr
  replace ey1 := (F121_ok ey1)
  refine Ok.val eqs_nil rfl rfl (DOpP.callF ey1 rfl rfl rfl eqs_nil (ImpL.refl _) (.inr rfl)) ?_
  refine dr_run mixed 1000 ?_; conv => (arg 3; whnf)
  refine Ok.split ?_ ?_ <;> intro h2 <;> conv => (arg 3; whnf)
  · replace hr := bT h2 hr
    refine Ok.fin eqs_nil ?_
    obtain rfl := Option.some.inj hr
    exact RD.leafSB rfl rfl rfl eqs_nil rfl (by exact Imp.refl _) (by exact ImpL.refl _)
  replace hr := bF h2 hr
  obtain ⟨y3, ey3, hr⟩ := bindO hr
  replace ey3 := (F76_ok ey3)
  refine Ok.stuck eqs_nil ?_; refine DWP.callS 0 ey3 rfl rfl rfl rfl (SImp.box rfl (by exact ImpL.refl _)) rfl ?_
  refine dr_run mixed 1000 ?_; conv => (arg 3; whnf)
  refine Ok.fin eqs_nil ?_
  obtain rfl := Option.some.inj hr
  exact RD.leafSBN rfl rfl rfl eqs_nil rfl (by exact Imp.refl _) (by exact ImpL.refl _)
/- plexus.plexusref16.Functions -/
def F243 (n : Nat) : Option ((List (List UInt8))) := (some ([[102, 108, 97, 103], [110, 117, 109], [115, 101, 116], [109, 97, 112], [114, 101, 99], [112, 97, 105, 114], [111, 110, 101], [119, 114, 105, 116, 101], [115, 105, 122, 101], [115, 117, 109], [110, 117, 109, 98, 101, 114], [111, 110], [107, 101, 121, 115], [118, 97, 108, 117, 101, 115], [102, 105, 114, 115, 116], [115, 101, 99, 111, 110, 100], [99, 111, 110, 102, 108, 105, 99, 116]]))
set_option maxRecDepth 100000 in
theorem F243_ok {n : Nat} {r} (hr : F243 n = some r) : Pure env.toCx 243 [] (.ret (.sl 1 (rowsS r))) := by
  unfold F243 at hr
  refine Pure.walk (E := env) Tryz.func243 rfl (by kernel_rfl) (rs := _) rfl Tryz.ntmps243 rfl ?_
  refine dr_run mixed 1000 ?_; conv => (arg 3; whnf)
  refine Ok.fin eqs_nil ?_
  obtain rfl := Option.some.inj hr
  exact RD.leaf rfl rfl (eqs_cons rfl eqs_nil) rfl (Imp.refl _)
/- (*plexus.plexusref16.P).function -/
def F240_L1 (a0 : Tplexusref16UP) (y1 : (List (List UInt8))) : Nat → Int → Option (Bool)
  | 0, _ => none
  | n + 1, s2 => (bif decide (s2 < (↑(rowsS y1).length : Int)) then ((idxO (y1) (s2)).bind fun x4 => ((F121 n (a0) (x4)).bind fun y6 => (bif y6 then (some (true)) else (F240_L1 a0 y1 n (IntKind.i64.wrap (s2 + 1)))))) else (some (false)))
def F240 (n : Nat) (a0 : Tplexusref16UP) : Option (Bool) := ((F243 n).bind fun y1 => (F240_L1 a0 y1 n (0)))
set_option maxRecDepth 100000 in
theorem F240_ok {n : Nat} {a0 : Tplexusref16UP} {r} (hr : F240 n a0 = some r) : Pure env.toCx 240 [(.ip (Tplexusref16UP.cs a0))] (.ret (.v (.bool r))) := by
  unfold F240 at hr
  refine Pure.walk (E := env) Tryz.func240 rfl (by kernel_rfl) (rs := _) rfl Tryz.ntmps240 rfl ?_
  refine dr_run mixed 1000 ?_; conv => (arg 3; whnf)
  obtain ⟨y1, ey1, hr⟩ := bindO hr
  replace ey1 := (F243_ok ey1)
  refine Ok.val eqs_nil rfl rfl (DOpP.callF ey1 rfl rfl rfl eqs_nil (ImpL.refl _) (.inl rfl)) ?_
  refine dr_run mixed 1000 ?_; conv => (arg 3; whnf)
  refine Ok.stuck eqs_nil ?_
  refine DWP.loopA (S := Int) 0 [0, 2, 3] [4] (fun s => [(4, .d (.v (.int .i64 s)))]) (fun s => []) (fun m s => m ≤ n ∧ F240_L1 a0 y1 m s = some r) n (0) rfl rfl rfl rfl rfl rfl ⟨Nat.le_refl _, hr⟩ ?_
  clear hr
  rintro n s2 ⟨hle, hr⟩
  rcases n with _ | n
  · exact noneO hr
  replace hr : F240_L1 a0 y1 (n + 1) s2 = some r := hr
  rw [F240_L1] at hr
  refine dr_run mixed 1000 ?_; conv => (arg 3; whnf)
  refine Ok.split ?_ ?_ <;> intro h3 <;> conv => (arg 3; whnf)
  · replace hr := bT h3 hr
    obtain ⟨x4, ex4, hr⟩ := bindO hr
    obtain ⟨j5h, ex4⟩ := idxO_nat ex4
    refine Ok.val eqs_nil rfl rfl (DOpS.toP (DOpS.idx ((s2 : Int).toNat) rfl rfl rfl rfl j5h (rowsS_get ex4))) ?_
    refine dr_run mixed 1000 ?_; conv => (arg 3; whnf)
    obtain ⟨y6, ey6, hr⟩ := bindO hr
    replace ey6 := (F121_ok ey6)
    refine Ok.val eqs_nil rfl rfl (DOpP.callF ey6 rfl rfl rfl eqs_nil (ImpL.refl _) (.inl rfl)) ?_
    refine dr_run mixed 1000 ?_; conv => (arg 3; whnf)
    refine Ok.split ?_ ?_ <;> intro h7 <;> conv => (arg 3; whnf)
    · replace hr := bT h7 hr
      refine Ok.fin eqs_nil ?_
      obtain rfl := Option.some.inj hr
      exact RD.leaf rfl rfl eqs_nil rfl (Imp.refl _)
    replace hr := bF h7 hr
    refine Ok.stuck eqs_nil ?_
    exact DWP.nextA (IntKind.i64.wrap (s2 + 1)) n rfl rfl (by first | rfl | (simp only [gsimp]; rfl) | (simp only [gsimp, List.length_set]; rfl) | (simp only [gcs, gsimp, List.length_set]; rfl)) (by first | rfl | (simp only [gsimp]; rfl) | (simp only [gsimp, List.length_set]; rfl) | (simp only [gcs, gsimp, List.length_set]; rfl)) (by omega) ⟨by omega, by exact hr⟩
  replace hr := bF h3 hr
  refine Ok.fin eqs_nil ?_
  obtain rfl := Option.some.inj hr
  exact RD.leaf rfl rfl eqs_nil rfl (Imp.refl _)
/- (*plexus.plexusref16.P).operator -/
def F182 (n : Nat) (a0 : Tplexusref16UP) (a1 : Int) : Option (Int) := (bif a1 == 0 then ((F121 n (a0) ([111, 114])).bind fun y2 => (bif y2 then (some (31)) else (some (0)))) else (bif a1 == 1 then ((F121 n (a0) ([97, 110, 100])).bind fun y5 => (bif y5 then (some (32)) else (some (0)))) else (bif a1 == 2 then ((F121 n (a0) ([60, 61])).bind fun y8 => (bif y8 then (some (34)) else ((F121 n (a0) ([60])).bind fun y10 => (bif y10 then (some (35)) else ((F121 n (a0) ([61, 61])).bind fun y12 => (bif y12 then (some (36)) else ((F121 n (a0) ([105, 110])).bind fun y14 => (bif y14 then (some (37)) else ((F121 n (a0) ([108, 101, 113])).bind fun y16 => (bif y16 then (some (38)) else (some (0)))))))))))) else (bif a1 == 3 then ((F121 n (a0) ([106, 111, 105, 110])).bind fun y19 => (bif y19 then (some (39)) else (some (0)))) else (bif a1 == 4 then ((F121 n (a0) ([43])).bind fun y22 => (bif y22 then (some (40)) else ((F121 n (a0) ([45])).bind fun y24 => (bif y24 then (some (41)) else (some (0)))))) else (some (0)))))))
set_option maxRecDepth 100000 in
theorem F182_ok {n : Nat} {a0 : Tplexusref16UP} {a1 : Int} {r} (hr : F182 n a0 a1 = some r) : Pure env.toCx 182 [(.ip (Tplexusref16UP.cs a0)), (.v (.int .i64 a1))] (.ret (.v (.int .i64 r))) := by
  unfold F182 at hr
  refine Pure.walk (E := env) Tryz.func182 rfl (by kernel_rfl) (rs := _) rfl Tryz.ntmps182 rfl ?_
  refine dr_run mixed 1000 ?_; conv => (arg 3; whnf)
  refine Ok.split ?_ ?_ <;> intro h1 <;> conv => (arg 3; whnf)
  · replace hr := bT h1 hr
    obtain ⟨y2, ey2, hr⟩ := bindO hr
    replace ey2 := (F121_ok ey2)
    refine Ok.val eqs_nil rfl rfl (DOpP.callF ey2 rfl rfl rfl eqs_nil (ImpL.refl _) (.inl rfl)) ?_
    refine dr_run mixed 1000 ?_; conv => (arg 3; whnf)
    refine Ok.split ?_ ?_ <;> intro h3 <;> conv => (arg 3; whnf)
    · replace hr := bT h3 hr
      refine Ok.fin eqs_nil ?_
      obtain rfl := Option.some.inj hr
      exact RD.leaf rfl rfl eqs_nil rfl (Imp.refl _)
    replace hr := bF h3 hr
    refine Ok.splitF (by rw [eq_of_beq h1]; first | rfl | decide) ?_; conv => (arg 3; whnf)
    refine Ok.splitF (by rw [eq_of_beq h1]; first | rfl | decide) ?_; conv => (arg 3; whnf)
    refine Ok.splitF (by rw [eq_of_beq h1]; first | rfl | decide) ?_; conv => (arg 3; whnf)
    refine Ok.splitF (by rw [eq_of_beq h1]; first | rfl | decide) ?_; conv => (arg 3; whnf)
    refine Ok.splitF (by rw [eq_of_beq h1]; first | rfl | decide) ?_; conv => (arg 3; whnf)
    refine Ok.splitF (by rw [eq_of_beq h1]; first | rfl | decide) ?_; conv => (arg 3; whnf)
    refine Ok.splitF (by rw [eq_of_beq h1]; first | rfl | decide) ?_; conv => (arg 3; whnf)
    refine Ok.splitF (by rw [eq_of_beq h1]; first | rfl | decide) ?_; conv => (arg 3; whnf)
    refine Ok.splitF (by rw [eq_of_beq h1]; first | rfl | decide) ?_; conv => (arg 3; whnf)
    refine Ok.fin eqs_nil ?_
    obtain rfl := Option.some.inj hr
    exact RD.leaf rfl rfl eqs_nil rfl (Imp.refl _)
  replace hr := bF h1 hr
  refine Ok.split ?_ ?_ <;> intro h4 <;> conv => (arg 3; whnf)
  · replace hr := bT h4 hr
    obtain ⟨y5, ey5, hr⟩ := bindO hr
    replace ey5 := (F121_ok ey5)
    refine Ok.val eqs_nil rfl rfl (DOpP.callF ey5 rfl rfl rfl eqs_nil (ImpL.refl _) (.inl rfl)) ?_
    refine dr_run mixed 1000 ?_; conv => (arg 3; whnf)
    refine Ok.split ?_ ?_ <;> intro h6 <;> conv => (arg 3; whnf)
    · replace hr := bT h6 hr
      refine Ok.fin eqs_nil ?_
      obtain rfl := Option.some.inj hr
      exact RD.leaf rfl rfl eqs_nil rfl (Imp.refl _)
    replace hr := bF h6 hr
    refine Ok.splitF (by rw [eq_of_beq h4]; first | rfl | decide) ?_; conv => (arg 3; whnf)
    refine Ok.splitF (by rw [eq_of_beq h4]; first | rfl | decide) ?_; conv => (arg 3; whnf)
    refine Ok.splitF (by rw [eq_of_beq h4]; first | rfl | decide) ?_; conv => (arg 3; whnf)
    refine Ok.splitF (by rw [eq_of_beq h4]; first | rfl | decide) ?_; conv => (arg 3; whnf)
    refine Ok.splitF (by rw [eq_of_beq h4]; first | rfl | decide) ?_; conv => (arg 3; whnf)
    refine Ok.splitF (by rw [eq_of_beq h4]; first | rfl | decide) ?_; conv => (arg 3; whnf)
    refine Ok.splitF (by rw [eq_of_beq h4]; first | rfl | decide) ?_; conv => (arg 3; whnf)
    refine Ok.splitF (by rw [eq_of_beq h4]; first | rfl | decide) ?_; conv => (arg 3; whnf)
    refine Ok.fin eqs_nil ?_
    obtain rfl := Option.some.inj hr
    exact RD.leaf rfl rfl eqs_nil rfl (Imp.refl _)
  replace hr := bF h4 hr
  refine Ok.split ?_ ?_ <;> intro h7 <;> conv => (arg 3; whnf)
  · replace hr := bT h7 hr
    obtain ⟨y8, ey8, hr⟩ := bindO hr
    replace ey8 := (F121_ok ey8)
    refine Ok.val eqs_nil rfl rfl (DOpP.callF ey8 rfl rfl rfl eqs_nil (ImpL.refl _) (.inl rfl)) ?_
    refine dr_run mixed 1000 ?_; conv => (arg 3; whnf)
    refine Ok.split ?_ ?_ <;> intro h9 <;> conv => (arg 3; whnf)
    · replace hr := bT h9 hr
      refine Ok.fin eqs_nil ?_
      obtain rfl := Option.some.inj hr
      exact RD.leaf rfl rfl eqs_nil rfl (Imp.refl _)
    replace hr := bF h9 hr
    refine Ok.splitT h7 ?_; conv => (arg 3; whnf)
    obtain ⟨y10, ey10, hr⟩ := bindO hr
    replace ey10 := (F121_ok ey10)
    refine Ok.val eqs_nil rfl rfl (DOpP.callF ey10 rfl rfl rfl eqs_nil (ImpL.refl _) (.inl rfl)) ?_
    refine dr_run mixed 1000 ?_; conv => (arg 3; whnf)
    refine Ok.split ?_ ?_ <;> intro h11 <;> conv => (arg 3; whnf)
    · replace hr := bT h11 hr
      refine Ok.fin eqs_nil ?_
      obtain rfl := Option.some.inj hr
      exact RD.leaf rfl rfl eqs_nil rfl (Imp.refl _)
    replace hr := bF h11 hr
    refine Ok.splitT h7 ?_; conv => (arg 3; whnf)
    obtain ⟨y12, ey12, hr⟩ := bindO hr
    replace ey12 := (F121_ok ey12)
    refine Ok.val eqs_nil rfl rfl (DOpP.callF ey12 rfl rfl rfl eqs_nil (ImpL.refl _) (.inl rfl)) ?_
    refine dr_run mixed 1000 ?_; conv => (arg 3; whnf)
    refine Ok.split ?_ ?_ <;> intro h13 <;> conv => (arg 3; whnf)
    · replace hr := bT h13 hr
      refine Ok.fin eqs_nil ?_
      obtain rfl := Option.some.inj hr
      exact RD.leaf rfl rfl eqs_nil rfl (Imp.refl _)
    replace hr := bF h13 hr
    refine Ok.splitT h7 ?_; conv => (arg 3; whnf)
    obtain ⟨y14, ey14, hr⟩ := bindO hr
    replace ey14 := (F121_ok ey14)
    refine Ok.val eqs_nil rfl rfl (DOpP.callF ey14 rfl rfl rfl eqs_nil (ImpL.refl _) (.inl rfl)) ?_
    refine dr_run mixed 1000 ?_; conv => (arg 3; whnf)
    refine Ok.split ?_ ?_ <;> intro h15 <;> conv => (arg 3; whnf)
    · replace hr := bT h15 hr
      refine Ok.fin eqs_nil ?_
      obtain rfl := Option.some.inj hr
      exact RD.leaf rfl rfl eqs_nil rfl (Imp.refl _)
    replace hr := bF h15 hr
    refine Ok.splitT h7 ?_; conv => (arg 3; whnf)
    obtain ⟨y16, ey16, hr⟩ := bindO hr
    replace ey16 := (F121_ok ey16)
    refine Ok.val eqs_nil rfl rfl (DOpP.callF ey16 rfl rfl rfl eqs_nil (ImpL.refl _) (.inl rfl)) ?_
    refine dr_run mixed 1000 ?_; conv => (arg 3; whnf)
    refine Ok.split ?_ ?_ <;> intro h17 <;> conv => (arg 3; whnf)
    · replace hr := bT h17 hr
      refine Ok.fin eqs_nil ?_
      obtain rfl := Option.some.inj hr
      exact RD.leaf rfl rfl eqs_nil rfl (Imp.refl _)
    replace hr := bF h17 hr
    refine Ok.splitF (by rw [eq_of_beq h7]; first | rfl | decide) ?_; conv => (arg 3; whnf)
    refine Ok.splitF (by rw [eq_of_beq h7]; first | rfl | decide) ?_; conv => (arg 3; whnf)
    refine Ok.splitF (by rw [eq_of_beq h7]; first | rfl | decide) ?_; conv => (arg 3; whnf)
    refine Ok.fin eqs_nil ?_
    obtain rfl := Option.some.inj hr
    exact RD.leaf rfl rfl eqs_nil rfl (Imp.refl _)
  replace hr := bF h7 hr
  refine Ok.splitF h7 ?_; conv => (arg 3; whnf)
  refine Ok.splitF h7 ?_; conv => (arg 3; whnf)
  refine Ok.splitF h7 ?_; conv => (arg 3; whnf)
  refine Ok.splitF h7 ?_; conv => (arg 3; whnf)
  refine Ok.split ?_ ?_ <;> intro h18 <;> conv => (arg 3; whnf)
  · replace hr := bT h18 hr
    obtain ⟨y19, ey19, hr⟩ := bindO hr
    replace ey19 := (F121_ok ey19)
    refine Ok.val eqs_nil rfl rfl (DOpP.callF ey19 rfl rfl rfl eqs_nil (ImpL.refl _) (.inl rfl)) ?_
    refine dr_run mixed 1000 ?_; conv => (arg 3; whnf)
    refine Ok.split ?_ ?_ <;> intro h20 <;> conv => (arg 3; whnf)
    · replace hr := bT h20 hr
      refine Ok.fin eqs_nil ?_
      obtain rfl := Option.some.inj hr
      exact RD.leaf rfl rfl eqs_nil rfl (Imp.refl _)
    replace hr := bF h20 hr
    refine Ok.splitF (by rw [eq_of_beq h18]; first | rfl | decide) ?_; conv => (arg 3; whnf)
    refine Ok.splitF (by rw [eq_of_beq h18]; first | rfl | decide) ?_; conv => (arg 3; whnf)
    refine Ok.fin eqs_nil ?_
    obtain rfl := Option.some.inj hr
    exact RD.leaf rfl rfl eqs_nil rfl (Imp.refl _)
  replace hr := bF h18 hr
  refine Ok.split ?_ ?_ <;> intro h21 <;> conv => (arg 3; whnf)
  · replace hr := bT h21 hr
    obtain ⟨y22, ey22, hr⟩ := bindO hr
    replace ey22 := (F121_ok ey22)
    refine Ok.val eqs_nil rfl rfl (DOpP.callF ey22 rfl rfl rfl eqs_nil (ImpL.refl _) (.inl rfl)) ?_
    refine dr_run mixed 1000 ?_; conv => (arg 3; whnf)
    refine Ok.split ?_ ?_ <;> intro h23 <;> conv => (arg 3; whnf)
    · replace hr := bT h23 hr
      refine Ok.fin eqs_nil ?_
      obtain rfl := Option.some.inj hr
      exact RD.leaf rfl rfl eqs_nil rfl (Imp.refl _)
    replace hr := bF h23 hr
    refine Ok.splitT h21 ?_; conv => (arg 3; whnf)
    obtain ⟨y24, ey24, hr⟩ := bindO hr
    replace ey24 := (F121_ok ey24)
    refine Ok.val eqs_nil rfl rfl (DOpP.callF ey24 rfl rfl rfl eqs_nil (ImpL.refl _) (.inl rfl)) ?_
    refine dr_run mixed 1000 ?_; conv => (arg 3; whnf)
    refine Ok.split ?_ ?_ <;> intro h25 <;> conv => (arg 3; whnf)
    · replace hr := bT h25 hr
      refine Ok.fin eqs_nil ?_
      obtain rfl := Option.some.inj hr
      exact RD.leaf rfl rfl eqs_nil rfl (Imp.refl _)
    replace hr := bF h25 hr
    refine Ok.fin eqs_nil ?_
    obtain rfl := Option.some.inj hr
    exact RD.leaf rfl rfl eqs_nil rfl (Imp.refl _)
  replace hr := bF h21 hr
  refine Ok.splitF h21 ?_; conv => (arg 3; whnf)
  refine Ok.fin eqs_nil ?_
  obtain rfl := Option.some.inj hr
  exact RD.leaf rfl rfl eqs_nil rfl (Imp.refl _)
/- (*plexus.plexusref16.P).expression · (*plexus.plexusref16.P).binary · (*plexus.plexusref16.P).postfix · (*plexus.plexusref16.P).primary · (*plexus.plexusref16.P).argument -/
mutual
def F72 : Nat → Tplexusref16UP → Option ((TNode × Tplexusref16UP))
  | 0, _ => none
  | n + 1, a0 => ((F121 n (a0) ([105, 102])).bind fun y1 => (bif !y1 then ((F122 n (a0) (0)).bind fun y3 => (some ((y3.fst), (y3.snd)))) else ((F74 n (a0)).bind fun y4 => ((F123 n (a0)).bind fun y5 => (bif y5.snd.Bad then (some (({ Kind := 30, Text := [], N := 0, At := y4.At, Kids := [] : TNode }), (y5.snd))) else ((F72 n ({ T := y5.snd.T, I := IntKind.i64.wrap (y5.snd.I + 1), Open := y5.snd.Open, Bad := y5.snd.Bad, Fault := y5.snd.Fault : Tplexusref16UP })).bind fun y7 => ((F124 n (y7.snd) ([116, 104, 101, 110])).bind fun y8 => ((F72 n (y8.snd)).bind fun y9 => ((F124 n (y9.snd) ([101, 108, 115, 101])).bind fun y10 => ((F72 n (y10.snd)).bind fun y11 => (some (({ Kind := 30, Text := [], N := 0, At := y4.At, Kids := [y7.fst, y9.fst, y11.fst] : TNode }), ({ T := y11.snd.T, I := y11.snd.I, Open := IntKind.i64.wrap (y11.snd.Open - 1), Bad := y11.snd.Bad, Fault := y11.snd.Fault : Tplexusref16UP })))))))))))))
def F122_L1 (a1 : Int) (y10 : (TNode × Tplexusref16UP)) : Nat → Option ((TNode × Tplexusref16UP))
  | 0 => none
  | n + 1 => ((F182 n (y10.snd) (a1)).bind fun y11 => (bif y11 == 0 then (some ((y10.fst), (y10.snd))) else ((F74 n (y10.snd)).bind fun y13 => ((F122 n ({ T := y10.snd.T, I := IntKind.i64.wrap (y10.snd.I + 1), Open := y10.snd.Open, Bad := y10.snd.Bad, Fault := y10.snd.Fault : Tplexusref16UP }) (IntKind.i64.wrap (a1 + 1))).bind fun y14 => (some (({ Kind := y11, Text := [], N := 0, At := y13.At, Kids := [y10.fst, y14.fst] : TNode }), (y14.snd)))))))
def F122_L2 (a1 : Int) : Nat → Tplexusref16UP → TNode → Option ((TNode × Tplexusref16UP))
  | 0, _, _ => none
  | n + 1, s16, s17 => ((F182 n (s16) (a1)).bind fun y18 => (bif y18 == 0 then (some ((s17), (s16))) else ((F74 n (s16)).bind fun y20 => ((F122 n ({ T := s16.T, I := IntKind.i64.wrap (s16.I + 1), Open := s16.Open, Bad := s16.Bad, Fault := s16.Fault : Tplexusref16UP }) (IntKind.i64.wrap (a1 + 1))).bind fun y21 => (F122_L2 a1 n (y21.snd) ({ Kind := y18, Text := [], N := 0, At := y20.At, Kids := [s17, y21.fst] : TNode }))))))
def F122 : Nat → Tplexusref16UP → Int → Option ((TNode × Tplexusref16UP))
  | 0, _, _ => none
  | n + 1, a0, a1 => (bif decide (a1 > 4) then ((F181 n (a0)).bind fun y2 => (some ((y2.fst), (y2.snd)))) else (bif a1 == 2 then ((F121 n (a0) ([110, 111, 116])).bind fun y4 => (bif y4 then ((F74 n (a0)).bind fun y6 => ((F123 n (a0)).bind fun y7 => (bif y7.snd.Bad then (some (({ Kind := 33, Text := [], N := 0, At := y6.At, Kids := [] : TNode }), (y7.snd))) else ((F122 n ({ T := y7.snd.T, I := IntKind.i64.wrap (y7.snd.I + 1), Open := y7.snd.Open, Bad := y7.snd.Bad, Fault := y7.snd.Fault : Tplexusref16UP }) (2)).bind fun y9 => (some (({ Kind := 33, Text := [], N := 0, At := y6.At, Kids := [y9.fst] : TNode }), ({ T := y9.snd.T, I := y9.snd.I, Open := IntKind.i64.wrap (y9.snd.Open - 1), Bad := y9.snd.Bad, Fault := y9.snd.Fault : Tplexusref16UP }))))))) else ((F122 n (a0) (IntKind.i64.wrap (a1 + 1))).bind fun y10 => (F122_L1 a1 y10 n)))) else ((F122 n (a0) (IntKind.i64.wrap (a1 + 1))).bind fun y15 => (F122_L2 a1 n (y15.snd) (y15.fst)))))
def F181_L1 : Nat → Tplexusref16UP → TNode → Option ((TNode × Tplexusref16UP))
  | 0, _, _ => none
  | n + 1, s2, s3 => ((F74 n (s2)).bind fun y4 => ((F121 n (s2) ([46])).bind fun y5 => (bif y5 then ((F125 n ({ T := s2.T, I := IntKind.i64.wrap (s2.I + 1), Open := s2.Open, Bad := s2.Bad, Fault := s2.Fault : Tplexusref16UP }) (1)).bind fun y7 => (F181_L1 n (y7.snd) ({ Kind := 42, Text := y7.fst, N := 0, At := y4.At, Kids := [s3] : TNode }))) else ((F121 n (s2) ([91])).bind fun y8 => (bif y8 then ((F123 n (s2)).bind fun y10 => (bif y10.snd.Bad then (some ((s3), (y10.snd))) else ((F72 n ({ T := y10.snd.T, I := IntKind.i64.wrap (y10.snd.I + 1), Open := y10.snd.Open, Bad := y10.snd.Bad, Fault := y10.snd.Fault : Tplexusref16UP })).bind fun y12 => ((F124 n (y12.snd) ([93])).bind fun y13 => (F181_L1 n ({ T := y13.snd.T, I := y13.snd.I, Open := IntKind.i64.wrap (y13.snd.Open - 1), Bad := y13.snd.Bad, Fault := y13.snd.Fault : Tplexusref16UP }) ({ Kind := 43, Text := [], N := 0, At := y4.At, Kids := [s3, y12.fst] : TNode })))))) else (some ((s3), (s2))))))))
def F181 : Nat → Tplexusref16UP → Option ((TNode × Tplexusref16UP))
  | 0, _ => none
  | n + 1, a0 => ((F227 n (a0)).bind fun y1 => (F181_L1 n (y1.snd) (y1.fst)))
def F227_L1 (y1 : TToken) : Nat → Tplexusref16UP → (List TNode) → Option ((TNode × Tplexusref16UP))
  | 0, _, _ => none
  | n + 1, s36, s41 => ((F121 n (s36) ([44])).bind fun y42 => (bif y42 then ((F241 n ({ T := s36.T, I := IntKind.i64.wrap (s36.I + 1), Open := s36.Open, Bad := s36.Bad, Fault := s36.Fault : Tplexusref16UP }) (y1.Text)).bind fun y44 => (bif decide (((s41 : List TNode) ++ ([y44.fst] : List TNode)).length ≤ 274877906944) then (F227_L1 y1 n (y44.snd) (s41 ++ [y44.fst])) else none)) else ((F124 n (s36) ([41])).bind fun y46 => (some (({ Kind := 51, Text := y1.Text, N := 0, At := y1.At, Kids := s41 : TNode }), ({ T := y46.snd.T, I := y46.snd.I, Open := IntKind.i64.wrap (y46.snd.Open - 1), Bad := y46.snd.Bad, Fault := y46.snd.Fault : Tplexusref16UP }))))))
def F227 : Nat → Tplexusref16UP → Option ((TNode × Tplexusref16UP))
  | 0, _ => none
  | n + 1, a0 => ((F74 n (a0)).bind fun y1 => ((F121 n (a0) ([45])).bind fun y2 => (bif y2 then ((F127 n (a0)).bind fun y4 => (some ((y4.fst), (y4.snd)))) else (bif y1.Kind == 3 then ((F127 n (a0)).bind fun y6 => (some ((y6.fst), (y6.snd)))) else (bif y1.Kind == 4 then ((F125 n (a0) (4)).bind fun y8 => (some (({ Kind := 47, Text := y8.fst, N := 0, At := y1.At, Kids := [] : TNode }), (y8.snd)))) else (bif y1.Kind == 1 then ((F125 n (a0) (1)).bind fun y10 => (some (({ Kind := 48, Text := y10.fst, N := 0, At := y1.At, Kids := [] : TNode }), (y10.snd)))) else ((F121 n (a0) ([116, 114, 117, 101])).bind fun y11 => (bif y11 then (some (({ Kind := 45, Text := [], N := 0, At := y1.At, Kids := [] : TNode }), ({ T := a0.T, I := IntKind.i64.wrap (a0.I + 1), Open := a0.Open, Bad := a0.Bad, Fault := a0.Fault : Tplexusref16UP }))) else ((F121 n (a0) ([102, 97, 108, 115, 101])).bind fun y13 => (bif y13 then (some (({ Kind := 46, Text := [], N := 0, At := y1.At, Kids := [] : TNode }), ({ T := a0.T, I := IntKind.i64.wrap (a0.I + 1), Open := a0.Open, Bad := a0.Bad, Fault := a0.Fault : Tplexusref16UP }))) else ((F121 n (a0) ([115])).bind fun y15 => (bif y15 then (some (({ Kind := 49, Text := [], N := 0, At := y1.At, Kids := [] : TNode }), ({ T := a0.T, I := IntKind.i64.wrap (a0.I + 1), Open := a0.Open, Bad := a0.Bad, Fault := a0.Fault : Tplexusref16UP }))) else ((F121 n (a0) ([98, 111, 116, 116, 111, 109])).bind fun y17 => (bif y17 then (some (({ Kind := 50, Text := [], N := 0, At := y1.At, Kids := [] : TNode }), ({ T := a0.T, I := IntKind.i64.wrap (a0.I + 1), Open := a0.Open, Bad := a0.Bad, Fault := a0.Fault : Tplexusref16UP }))) else ((F121 n (a0) ([40])).bind fun y19 => (bif y19 then ((F123 n (a0)).bind fun y21 => (bif y21.snd.Bad then (some (({ Kind := 0, Text := [], N := 0, At := y1.At, Kids := [] : TNode }), (y21.snd))) else ((F72 n ({ T := y21.snd.T, I := IntKind.i64.wrap (y21.snd.I + 1), Open := y21.snd.Open, Bad := y21.snd.Bad, Fault := y21.snd.Fault : Tplexusref16UP })).bind fun y23 => ((F124 n (y23.snd) ([41])).bind fun y24 => (some ((y23.fst), ({ T := y24.snd.T, I := y24.snd.I, Open := IntKind.i64.wrap (y24.snd.Open - 1), Bad := y24.snd.Bad, Fault := y24.snd.Fault : Tplexusref16UP }))))))) else ((F240 n (a0)).bind fun y25 => (bif y25 then ((F121 n ({ T := a0.T, I := IntKind.i64.wrap (a0.I + 1), Open := a0.Open, Bad := a0.Bad, Fault := a0.Fault : Tplexusref16UP }) ([40])).bind fun y27 => (bif !y27 then ((F76 n ({ T := a0.T, I := IntKind.i64.wrap (a0.I + 1), Open := a0.Open, Bad := a0.Bad, Fault := a0.Fault : Tplexusref16UP }) (2)).bind fun y29 => (some (({ Kind := 51, Text := y1.Text, N := 0, At := y1.At, Kids := [] : TNode }), (y29.snd)))) else ((F123 n ({ T := a0.T, I := IntKind.i64.wrap (a0.I + 1), Open := a0.Open, Bad := a0.Bad, Fault := a0.Fault : Tplexusref16UP })).bind fun y30 => (bif y30.snd.Bad then (some (({ Kind := 51, Text := y1.Text, N := 0, At := y1.At, Kids := [] : TNode }), (y30.snd))) else ((F121 n ({ T := y30.snd.T, I := IntKind.i64.wrap (y30.snd.I + 1), Open := y30.snd.Open, Bad := y30.snd.Bad, Fault := y30.snd.Fault : Tplexusref16UP }) ([41])).bind fun y32 => (bif !y32 then ((F241 n ({ T := y30.snd.T, I := IntKind.i64.wrap (y30.snd.I + 1), Open := y30.snd.Open, Bad := y30.snd.Bad, Fault := y30.snd.Fault : Tplexusref16UP }) (y1.Text)).bind fun y34 => (bif decide (([y34.fst] : List TNode).length ≤ 274877906944) then (F227_L1 y1 n (y34.snd) ([y34.fst])) else none)) else ((F124 n ({ T := y30.snd.T, I := IntKind.i64.wrap (y30.snd.I + 1), Open := y30.snd.Open, Bad := y30.snd.Bad, Fault := y30.snd.Fault : Tplexusref16UP }) ([41])).bind fun y47 => (some (({ Kind := 51, Text := y1.Text, N := 0, At := y1.At, Kids := [] : TNode }), ({ T := y47.snd.T, I := y47.snd.I, Open := IntKind.i64.wrap (y47.snd.Open - 1), Bad := y47.snd.Bad, Fault := y47.snd.Fault : Tplexusref16UP })))))))))) else ((F76 n (a0) (2)).bind fun y48 => (some (({ Kind := 0, Text := [], N := 0, At := y1.At, Kids := [] : TNode }), (y48.snd))))))))))))))))))))))
def F241 : Nat → Tplexusref16UP → (List UInt8) → Option ((TNode × Tplexusref16UP))
  | 0, _, _ => none
  | n + 1, a0, a1 => ((F74 n (a0)).bind fun y1 => (bif a1 == [114, 101, 99] then ((F125 n (a0) (1)).bind fun y3 => ((F124 n (y3.snd) ([58])).bind fun y4 => ((F72 n (y4.snd)).bind fun y5 => (some (({ Kind := 52, Text := y3.fst, N := 0, At := y1.At, Kids := [y5.fst] : TNode }), (y5.snd)))))) else ((F72 n (a0)).bind fun y6 => (bif !a1 == [109, 97, 112] then (some ((y6.fst), (y6.snd))) else ((F124 n (y6.snd) ([58])).bind fun y8 => ((F72 n (y8.snd)).bind fun y9 => (some (({ Kind := 52, Text := [], N := 0, At := y1.At, Kids := [y6.fst, y9.fst] : TNode }), (y9.snd)))))))))
end
set_option maxRecDepth 100000 in
theorem F72_step (n : Nat) (ih_F72 : ∀ m, m ≤ n → ∀ (a0 : Tplexusref16UP) r, F72 m a0 = some r → SPure env 72 [(.own 0 0)] (.box (Tplexusref16UP.cs a0)) (.agg (TNode.cs r.1)) (.box (Tplexusref16UP.cs r.2))) (ih_F122 : ∀ m, m ≤ n → ∀ (a0 : Tplexusref16UP) (a1 : Int) r, F122 m a0 a1 = some r → SPure env 122 [(.own 0 0), (.d (.v (.int .i64 a1)))] (.box (Tplexusref16UP.cs a0)) (.agg (TNode.cs r.1)) (.box (Tplexusref16UP.cs r.2))) (ih_F181 : ∀ m, m ≤ n → ∀ (a0 : Tplexusref16UP) r, F181 m a0 = some r → SPure env 181 [(.own 0 0)] (.box (Tplexusref16UP.cs a0)) (.agg (TNode.cs r.1)) (.box (Tplexusref16UP.cs r.2))) (ih_F227 : ∀ m, m ≤ n → ∀ (a0 : Tplexusref16UP) r, F227 m a0 = some r → SPure env 227 [(.own 0 0)] (.box (Tplexusref16UP.cs a0)) (.agg (TNode.cs r.1)) (.box (Tplexusref16UP.cs r.2))) (ih_F241 : ∀ m, m ≤ n → ∀ (a0 : Tplexusref16UP) (a1 : (List UInt8)) r, F241 m a0 a1 = some r → SPure env 241 [(.own 0 0), (.d (.v (.string ⟨⟨a1⟩⟩)))] (.box (Tplexusref16UP.cs a0)) (.agg (TNode.cs r.1)) (.box (Tplexusref16UP.cs r.2))) {a0 : Tplexusref16UP} {r} (hr : F72 (n + 1) a0 = some r) : SPure env 72 [(.own 0 0)] (.box (Tplexusref16UP.cs a0)) (.agg (TNode.cs r.1)) (.box (Tplexusref16UP.cs r.2)) := by
  rw [F72] at hr
  have hle0 : n ≤ n := Nat.le_refl n
  refine SPure.walk (E := env) Tryz.func72 rfl (by kernel_rfl) (rs := _) rfl Tryz.ntmps72 rfl ?_
  refine dr_run mixed 1000 ?_; conv => (arg 3; whnf)
  obtain ⟨y1, ey1, hr⟩ := bindO hr
  replace ey1 := (F121_ok ey1)
  refine Ok.val eqs_nil rfl rfl (DOpP.callF ey1 rfl rfl rfl eqs_nil (ImpL.refl _) (.inr rfl)) ?_
  refine dr_run mixed 1000 ?_; conv => (arg 3; whnf)
  refine Ok.split ?_ ?_ <;> intro h2 <;> conv => (arg 3; whnf)
  · replace hr := bT h2 hr
    obtain ⟨y3, ey3, hr⟩ := bindO hr
    replace ey3 := (ih_F122 _ (by omega) _ _ _ ey3)
    refine Ok.stuck eqs_nil ?_; refine DWP.callS 0 ey3 rfl rfl rfl rfl (SImp.box rfl (by exact ImpL.refl _)) rfl ?_
    refine dr_run mixed 1000 ?_; conv => (arg 3; whnf)
    refine Ok.fin eqs_nil ?_
    obtain rfl := Option.some.inj hr
    exact RD.leafSB rfl rfl rfl eqs_nil rfl (by exact Imp.refl _) (by exact ImpL.refl _)
  replace hr := bF h2 hr
  obtain ⟨y4, ey4, hr⟩ := bindO hr
  replace ey4 := (F74_ok ey4)
  refine Ok.val eqs_nil rfl rfl (DOpP.callF ey4 rfl rfl rfl eqs_nil (ImpL.refl _) (.inr rfl)) ?_
  refine dr_run mixed 1000 ?_; conv => (arg 3; whnf)
  obtain ⟨y5, ey5, hr⟩ := bindO hr
  replace ey5 := (F123_ok ey5)
  refine Ok.stuck eqs_nil ?_; refine DWP.callS 0 ey5 rfl rfl rfl rfl (SImp.box rfl (by exact ImpL.refl _)) rfl ?_
  refine dr_run mixed 1000 ?_; conv => (arg 3; whnf)
  refine Ok.split ?_ ?_ <;> intro h6 <;> conv => (arg 3; whnf)
  · replace hr := bT h6 hr
    refine Ok.fin eqs_nil ?_
    obtain rfl := Option.some.inj hr
    exact RD.leafSB rfl rfl rfl eqs_nil rfl (by (try simp only [gsimp]); repeat (first | exact Imp.refl _ | exact Imp.nil _ | exact ImpL.nil | exact ImpR.nil | exact ImpL.refl _ | exact ImpR.refl _ | exact Imp.of (by simp only [gsimp]; rfl) | (dsimp only; try simp only [gsimp]) | apply Imp.agg | apply Imp.tup | apply Imp.ip | apply Imp.fn | apply ImpL.cons | apply Imp.sl | apply ImpR.cons | apply ImpR.append)) (by exact ImpL.refl _)
  replace hr := bF h6 hr
  obtain ⟨y7, ey7, hr⟩ := bindO hr
  replace ey7 := (ih_F72 _ (by omega) _ _ ey7)
  refine Ok.stuck eqs_nil ?_; refine DWP.callS 0 ey7 rfl rfl rfl rfl (SImp.box rfl (by exact ImpL.refl _)) rfl ?_
  refine dr_run mixed 1000 ?_; conv => (arg 3; whnf)
  obtain ⟨y8, ey8, hr⟩ := bindO hr
  replace ey8 := (F124_ok ey8)
  refine Ok.stuck eqs_nil ?_; refine DWP.callS 0 ey8 rfl rfl rfl rfl (SImp.box rfl (by exact ImpL.refl _)) rfl ?_
  refine dr_run mixed 1000 ?_; conv => (arg 3; whnf)
  obtain ⟨y9, ey9, hr⟩ := bindO hr
  replace ey9 := (ih_F72 _ (by omega) _ _ ey9)
  refine Ok.stuck eqs_nil ?_; refine DWP.callS 0 ey9 rfl rfl rfl rfl (SImp.box rfl (by exact ImpL.refl _)) rfl ?_
  refine dr_run mixed 1000 ?_; conv => (arg 3; whnf)
  obtain ⟨y10, ey10, hr⟩ := bindO hr
  replace ey10 := (F124_ok ey10)
  refine Ok.stuck eqs_nil ?_; refine DWP.callS 0 ey10 rfl rfl rfl rfl (SImp.box rfl (by exact ImpL.refl _)) rfl ?_
  refine dr_run mixed 1000 ?_; conv => (arg 3; whnf)
  obtain ⟨y11, ey11, hr⟩ := bindO hr
  replace ey11 := (ih_F72 _ (by omega) _ _ ey11)
  refine Ok.stuck eqs_nil ?_; refine DWP.callS 0 ey11 rfl rfl rfl rfl (SImp.box rfl (by exact ImpL.refl _)) rfl ?_
  refine dr_run mixed 1000 ?_; conv => (arg 3; whnf)
  refine Ok.fin (eqs_cons rfl eqs_nil) ?_
  obtain rfl := Option.some.inj hr
  exact RD.leafSB rfl rfl rfl eqs_nil rfl (by (try simp only [gsimp]); repeat (first | exact Imp.refl _ | exact Imp.nil _ | exact ImpL.nil | exact ImpR.nil | exact ImpL.refl _ | exact ImpR.refl _ | exact Imp.of (by simp only [gsimp]; rfl) | (dsimp only; try simp only [gsimp]) | apply Imp.agg | apply Imp.tup | apply Imp.ip | apply Imp.fn | apply ImpL.cons | apply Imp.sl | apply ImpR.cons | apply ImpR.append)) (by exact ImpL.refl _)
set_option maxRecDepth 100000 in
theorem F122_step (n : Nat) (ih_F72 : ∀ m, m ≤ n → ∀ (a0 : Tplexusref16UP) r, F72 m a0 = some r → SPure env 72 [(.own 0 0)] (.box (Tplexusref16UP.cs a0)) (.agg (TNode.cs r.1)) (.box (Tplexusref16UP.cs r.2))) (ih_F122 : ∀ m, m ≤ n → ∀ (a0 : Tplexusref16UP) (a1 : Int) r, F122 m a0 a1 = some r → SPure env 122 [(.own 0 0), (.d (.v (.int .i64 a1)))] (.box (Tplexusref16UP.cs a0)) (.agg (TNode.cs r.1)) (.box (Tplexusref16UP.cs r.2))) (ih_F181 : ∀ m, m ≤ n → ∀ (a0 : Tplexusref16UP) r, F181 m a0 = some r → SPure env 181 [(.own 0 0)] (.box (Tplexusref16UP.cs a0)) (.agg (TNode.cs r.1)) (.box (Tplexusref16UP.cs r.2))) (ih_F227 : ∀ m, m ≤ n → ∀ (a0 : Tplexusref16UP) r, F227 m a0 = some r → SPure env 227 [(.own 0 0)] (.box (Tplexusref16UP.cs a0)) (.agg (TNode.cs r.1)) (.box (Tplexusref16UP.cs r.2))) (ih_F241 : ∀ m, m ≤ n → ∀ (a0 : Tplexusref16UP) (a1 : (List UInt8)) r, F241 m a0 a1 = some r → SPure env 241 [(.own 0 0), (.d (.v (.string ⟨⟨a1⟩⟩)))] (.box (Tplexusref16UP.cs a0)) (.agg (TNode.cs r.1)) (.box (Tplexusref16UP.cs r.2))) {a0 : Tplexusref16UP} {a1 : Int} {r} (hr : F122 (n + 1) a0 a1 = some r) : SPure env 122 [(.own 0 0), (.d (.v (.int .i64 a1)))] (.box (Tplexusref16UP.cs a0)) (.agg (TNode.cs r.1)) (.box (Tplexusref16UP.cs r.2)) := by
  rw [F122] at hr
  have hle0 : n ≤ n := Nat.le_refl n
  refine SPure.walk (E := env) Tryz.func122 rfl (by kernel_rfl) (rs := _) rfl Tryz.ntmps122 rfl ?_
  refine dr_run mixed 1000 ?_; conv => (arg 3; whnf)
  refine Ok.split ?_ ?_ <;> intro h1 <;> conv => (arg 3; whnf)
  · replace hr := bT h1 hr
    obtain ⟨y2, ey2, hr⟩ := bindO hr
    replace ey2 := (ih_F181 _ (by omega) _ _ ey2)
    refine Ok.stuck eqs_nil ?_; refine DWP.callS 0 ey2 rfl rfl rfl rfl (SImp.box rfl (by exact ImpL.refl _)) rfl ?_
    refine dr_run mixed 1000 ?_; conv => (arg 3; whnf)
    refine Ok.fin eqs_nil ?_
    obtain rfl := Option.some.inj hr
    exact RD.leafSB rfl rfl rfl eqs_nil rfl (by exact Imp.refl _) (by exact ImpL.refl _)
  replace hr := bF h1 hr
  refine Ok.split ?_ ?_ <;> intro h3 <;> conv => (arg 3; whnf)
  · replace hr := bT h3 hr
    obtain ⟨y4, ey4, hr⟩ := bindO hr
    replace ey4 := (F121_ok ey4)
    refine Ok.val eqs_nil rfl rfl (DOpP.callF ey4 rfl rfl rfl eqs_nil (ImpL.refl _) (.inr rfl)) ?_
    refine dr_run mixed 1000 ?_; conv => (arg 3; whnf)
    refine Ok.split ?_ ?_ <;> intro h5 <;> conv => (arg 3; whnf)
    · replace hr := bT h5 hr
      obtain ⟨y6, ey6, hr⟩ := bindO hr
      replace ey6 := (F74_ok ey6)
      refine Ok.val eqs_nil rfl rfl (DOpP.callF ey6 rfl rfl rfl eqs_nil (ImpL.refl _) (.inr rfl)) ?_
      refine dr_run mixed 1000 ?_; conv => (arg 3; whnf)
      obtain ⟨y7, ey7, hr⟩ := bindO hr
      replace ey7 := (F123_ok ey7)
      refine Ok.stuck eqs_nil ?_; refine DWP.callS 0 ey7 rfl rfl rfl rfl (SImp.box rfl (by exact ImpL.refl _)) rfl ?_
      refine dr_run mixed 1000 ?_; conv => (arg 3; whnf)
      refine Ok.split ?_ ?_ <;> intro h8 <;> conv => (arg 3; whnf)
      · replace hr := bT h8 hr
        refine Ok.fin eqs_nil ?_
        obtain rfl := Option.some.inj hr
        exact RD.leafSB rfl rfl rfl eqs_nil rfl (by (try simp only [gsimp]); repeat (first | exact Imp.refl _ | exact Imp.nil _ | exact ImpL.nil | exact ImpR.nil | exact ImpL.refl _ | exact ImpR.refl _ | exact Imp.of (by simp only [gsimp]; rfl) | (dsimp only; try simp only [gsimp]) | apply Imp.agg | apply Imp.tup | apply Imp.ip | apply Imp.fn | apply ImpL.cons | apply Imp.sl | apply ImpR.cons | apply ImpR.append)) (by exact ImpL.refl _)
      replace hr := bF h8 hr
      obtain ⟨y9, ey9, hr⟩ := bindO hr
      replace ey9 := (ih_F122 _ (by omega) _ _ _ ey9)
      refine Ok.stuck eqs_nil ?_; refine DWP.callS 0 ey9 rfl rfl rfl rfl (SImp.box rfl (by exact ImpL.refl _)) rfl ?_
      refine dr_run mixed 1000 ?_; conv => (arg 3; whnf)
      refine Ok.fin (eqs_cons rfl eqs_nil) ?_
      obtain rfl := Option.some.inj hr
      exact RD.leafSB rfl rfl rfl eqs_nil rfl (by (try simp only [gsimp]); repeat (first | exact Imp.refl _ | exact Imp.nil _ | exact ImpL.nil | exact ImpR.nil | exact ImpL.refl _ | exact ImpR.refl _ | exact Imp.of (by simp only [gsimp]; rfl) | (dsimp only; try simp only [gsimp]) | apply Imp.agg | apply Imp.tup | apply Imp.ip | apply Imp.fn | apply ImpL.cons | apply Imp.sl | apply ImpR.cons | apply ImpR.append)) (by exact ImpL.refl _)
    replace hr := bF h5 hr
    obtain ⟨y10, ey10, hr⟩ := bindO hr
    replace ey10 := (ih_F122 _ (by omega) _ _ _ ey10)
    refine Ok.stuck eqs_nil ?_; refine DWP.callS 0 ey10 rfl rfl rfl rfl (SImp.box rfl (by exact ImpL.refl _)) rfl ?_
    refine dr_run mixed 1000 ?_; conv => (arg 3; whnf)
    refine Ok.stuck eqs_nil ?_
    refine DWP.loopA (S := Unit) 3 [0, 1, 4, 6] [] (fun s => []) (fun s => []) (fun m s => m ≤ n ∧ F122_L1 a1 y10 m = some r) n () rfl rfl rfl rfl rfl rfl ⟨Nat.le_refl _, hr⟩ ?_
    clear hr
    rintro n s ⟨hle, hr⟩
    rcases n with _ | n
    · exact noneO hr
    replace hr : F122_L1 a1 y10 (n + 1) = some r := hr
    rw [F122_L1] at hr
    refine dr_run mixed 1000 ?_; conv => (arg 3; whnf)
    obtain ⟨y11, ey11, hr⟩ := bindO hr
    replace ey11 := (F182_ok ey11)
    refine Ok.val eqs_nil rfl rfl (DOpP.callF ey11 rfl rfl rfl eqs_nil (ImpL.refl _) (.inr rfl)) ?_
    refine dr_run mixed 1000 ?_; conv => (arg 3; whnf)
    refine Ok.split ?_ ?_ <;> intro h12 <;> conv => (arg 3; whnf)
    · replace hr := bT h12 hr
      refine Ok.fin eqs_nil ?_
      obtain rfl := Option.some.inj hr
      exact RD.leafSB rfl rfl rfl eqs_nil rfl (by exact Imp.refl _) (by exact ImpL.refl _)
    replace hr := bF h12 hr
    obtain ⟨y13, ey13, hr⟩ := bindO hr
    replace ey13 := (F74_ok ey13)
    refine Ok.val eqs_nil rfl rfl (DOpP.callF ey13 rfl rfl rfl eqs_nil (ImpL.refl _) (.inr rfl)) ?_
    refine dr_run mixed 1000 ?_; conv => (arg 3; whnf)
    refine Ok.open (id := 18) [] [(0, .fl), (1, .fl), (2, .fl), (3, .fl), (4, .one), (5, .fl), (6, .fl), (7, .one)] [] eqs_nil mixed rfl (by kernel_rfl) (by kernel_rfl) ?_
    refine dr_run mixed 1000 ?_; conv => (arg 3; whnf)
    refine Ok.stuck eqs_nil ?_; refine DWP.tlStep mixed (by repeat (first | exact PendD.nil | refine PendD.cons rfl (DOpP.vop (cl := false) rfl eqs_nil) ?_ | refine PendD.skip rfl ?_ | refine PendD.cons rfl (vopL_ok (cl := false) rfl eqs_nil) ?_)) ?_; (conv => (arg 3; whnf)); refine Nx.go_ok eqs_nil ?_
    refine dr_run mixed 1000 ?_; conv => (arg 3; whnf)
    refine Ok.stuck eqs_nil ?_; refine DWP.tlStep mixed (by repeat (first | exact PendD.nil | refine PendD.cons rfl (DOpP.vop (cl := false) rfl eqs_nil) ?_ | refine PendD.skip rfl ?_ | refine PendD.cons rfl (vopL_ok (cl := false) rfl eqs_nil) ?_)) ?_; (conv => (arg 3; whnf)); refine Nx.go_ok eqs_nil ?_
    refine dr_run mixed 1000 ?_; conv => (arg 3; whnf)
    refine Ok.stuck eqs_nil ?_; refine DWP.tlStep mixed (by repeat (first | exact PendD.nil | refine PendD.cons rfl (DOpP.vop (cl := false) rfl eqs_nil) ?_ | refine PendD.skip rfl ?_ | refine PendD.cons rfl (vopL_ok (cl := false) rfl eqs_nil) ?_)) ?_; (conv => (arg 3; whnf)); refine Nx.go_ok eqs_nil ?_
    refine dr_run mixed 1000 ?_; conv => (arg 3; whnf)
    obtain ⟨y14, ey14, hr⟩ := bindO hr
    replace ey14 := (ih_F122 _ (by omega) _ _ _ ey14)
    refine Ok.stuck eqs_nil ?_; refine DWP.tlCallS 0 (by repeat (first | exact PendD.nil | refine PendD.cons rfl (DOpP.vop (cl := false) rfl eqs_nil) ?_ | refine PendD.skip rfl ?_ | refine PendD.cons rfl (vopL_ok (cl := false) rfl eqs_nil) ?_)) rfl rfl rfl rfl rfl ey14 rfl rfl rfl rfl (SImp.box rfl (by exact ImpL.refl _)) ?_
    refine dr_run mixed 1000 ?_; conv => (arg 3; whnf)
    refine Ok.stuck eqs_nil ?_; refine DWP.tlStep mixed (by repeat (first | exact PendD.nil | refine PendD.cons rfl (DOpP.vop (cl := false) rfl eqs_nil) ?_ | refine PendD.skip rfl ?_ | refine PendD.cons rfl (vopL_ok (cl := false) rfl eqs_nil) ?_)) ?_; (conv => (arg 3; whnf)); refine Nx.go_ok eqs_nil ?_
    refine dr_run mixed 1000 ?_; conv => (arg 3; whnf)
    refine Ok.stuck eqs_nil ?_; refine DWP.tlStep mixed (by repeat (first | exact PendD.nil | refine PendD.cons rfl (DOpP.vop (cl := false) rfl eqs_nil) ?_ | refine PendD.skip rfl ?_ | refine PendD.cons rfl (vopL_ok (cl := false) rfl eqs_nil) ?_)) ?_; (conv => (arg 3; whnf)); refine Nx.go_ok eqs_nil ?_
    refine dr_run mixed 1000 ?_; conv => (arg 3; whnf)
    refine Ok.stuck eqs_nil ?_; refine DWP.tlStep mixed (by repeat (first | exact PendD.nil | refine PendD.cons rfl (DOpP.vop (cl := false) rfl eqs_nil) ?_ | refine PendD.skip rfl ?_ | refine PendD.cons rfl (vopL_ok (cl := false) rfl eqs_nil) ?_)) ?_; (conv => (arg 3; whnf)); refine Nx.go_ok eqs_nil ?_
    refine dr_run mixed 1000 ?_; conv => (arg 3; whnf)
    refine Ok.splitT h3 ?_; conv => (arg 3; whnf)
    refine Ok.fin eqs_nil ?_
    obtain rfl := Option.some.inj hr
    exact RD.leafSB rfl rfl rfl eqs_nil rfl (by (try simp only [gsimp]); repeat (first | exact Imp.refl _ | exact Imp.nil _ | exact ImpL.nil | exact ImpR.nil | exact ImpL.refl _ | exact ImpR.refl _ | exact Imp.of (by simp only [gsimp]; rfl) | (dsimp only; try simp only [gsimp]) | apply Imp.agg | apply Imp.tup | apply Imp.ip | apply Imp.fn | apply ImpL.cons | apply Imp.sl | apply ImpR.cons | apply ImpR.append)) (by exact ImpL.refl _)
  replace hr := bF h3 hr
  obtain ⟨y15, ey15, hr⟩ := bindO hr
  replace ey15 := (ih_F122 _ (by omega) _ _ _ ey15)
  refine Ok.stuck eqs_nil ?_; refine DWP.callS 0 ey15 rfl rfl rfl rfl (SImp.box rfl (by exact ImpL.refl _)) rfl ?_
  refine dr_run mixed 1000 ?_; conv => (arg 3; whnf)
  refine Ok.stuck eqs_nil ?_
  refine DWP.loopA (S := Tplexusref16UP × TNode) 3 [0, 1, 4, 6] [] (fun s => []) (fun s => [(0, .box ((Tplexusref16UP.cs s.1).map .d)), (2, .box ((TNode.cs s.2).map .d))]) (fun m s => m ≤ n ∧ F122_L2 a1 m s.1 s.2 = some r) n (y15.snd, y15.fst) rfl rfl rfl rfl rfl rfl ⟨Nat.le_refl _, hr⟩ ?_
  clear hr
  rintro n ⟨s16, s17⟩ ⟨hle, hr⟩
  rcases n with _ | n
  · exact noneO hr
  replace hr : F122_L2 a1 (n + 1) s16 s17 = some r := hr
  rw [F122_L2] at hr
  refine dr_run mixed 1000 ?_; conv => (arg 3; whnf)
  obtain ⟨y18, ey18, hr⟩ := bindO hr
  replace ey18 := (F182_ok ey18)
  refine Ok.val eqs_nil rfl rfl (DOpP.callF ey18 rfl rfl rfl eqs_nil (ImpL.refl _) (.inr rfl)) ?_
  refine dr_run mixed 1000 ?_; conv => (arg 3; whnf)
  refine Ok.split ?_ ?_ <;> intro h19 <;> conv => (arg 3; whnf)
  · replace hr := bT h19 hr
    refine Ok.fin eqs_nil ?_
    obtain rfl := Option.some.inj hr
    exact RD.leafSB rfl rfl rfl eqs_nil rfl (by exact Imp.refl _) (by exact ImpL.refl _)
  replace hr := bF h19 hr
  obtain ⟨y20, ey20, hr⟩ := bindO hr
  replace ey20 := (F74_ok ey20)
  refine Ok.val eqs_nil rfl rfl (DOpP.callF ey20 rfl rfl rfl eqs_nil (ImpL.refl _) (.inr rfl)) ?_
  refine dr_run mixed 1000 ?_; conv => (arg 3; whnf)
  refine Ok.open (id := 18) [] [(0, .fl), (1, .fl), (2, .fl), (3, .fl), (4, .one), (5, .fl), (6, .fl), (7, .one)] [] eqs_nil mixed rfl (by kernel_rfl) (by kernel_rfl) ?_
  refine dr_run mixed 1000 ?_; conv => (arg 3; whnf)
  refine Ok.stuck eqs_nil ?_; refine DWP.tlStep mixed (by repeat (first | exact PendD.nil | refine PendD.cons rfl (DOpP.vop (cl := false) rfl eqs_nil) ?_ | refine PendD.skip rfl ?_ | refine PendD.cons rfl (vopL_ok (cl := false) rfl eqs_nil) ?_)) ?_; (conv => (arg 3; whnf)); refine Nx.go_ok eqs_nil ?_
  refine dr_run mixed 1000 ?_; conv => (arg 3; whnf)
  refine Ok.stuck eqs_nil ?_; refine DWP.tlStep mixed (by repeat (first | exact PendD.nil | refine PendD.cons rfl (DOpP.vop (cl := false) rfl eqs_nil) ?_ | refine PendD.skip rfl ?_ | refine PendD.cons rfl (vopL_ok (cl := false) rfl eqs_nil) ?_)) ?_; (conv => (arg 3; whnf)); refine Nx.go_ok eqs_nil ?_
  refine dr_run mixed 1000 ?_; conv => (arg 3; whnf)
  refine Ok.stuck eqs_nil ?_; refine DWP.tlStep mixed (by repeat (first | exact PendD.nil | refine PendD.cons rfl (DOpP.vop (cl := false) rfl eqs_nil) ?_ | refine PendD.skip rfl ?_ | refine PendD.cons rfl (vopL_ok (cl := false) rfl eqs_nil) ?_)) ?_; (conv => (arg 3; whnf)); refine Nx.go_ok eqs_nil ?_
  refine dr_run mixed 1000 ?_; conv => (arg 3; whnf)
  obtain ⟨y21, ey21, hr⟩ := bindO hr
  replace ey21 := (ih_F122 _ (by omega) _ _ _ ey21)
  refine Ok.stuck eqs_nil ?_; refine DWP.tlCallS 0 (by repeat (first | exact PendD.nil | refine PendD.cons rfl (DOpP.vop (cl := false) rfl eqs_nil) ?_ | refine PendD.skip rfl ?_ | refine PendD.cons rfl (vopL_ok (cl := false) rfl eqs_nil) ?_)) rfl rfl rfl rfl rfl ey21 rfl rfl rfl rfl (SImp.box rfl (by exact ImpL.refl _)) ?_
  refine dr_run mixed 1000 ?_; conv => (arg 3; whnf)
  refine Ok.stuck eqs_nil ?_; refine DWP.tlStep mixed (by repeat (first | exact PendD.nil | refine PendD.cons rfl (DOpP.vop (cl := false) rfl eqs_nil) ?_ | refine PendD.skip rfl ?_ | refine PendD.cons rfl (vopL_ok (cl := false) rfl eqs_nil) ?_)) ?_; (conv => (arg 3; whnf)); refine Nx.go_ok eqs_nil ?_
  refine dr_run mixed 1000 ?_; conv => (arg 3; whnf)
  refine Ok.stuck eqs_nil ?_; refine DWP.tlStep mixed (by repeat (first | exact PendD.nil | refine PendD.cons rfl (DOpP.vop (cl := false) rfl eqs_nil) ?_ | refine PendD.skip rfl ?_ | refine PendD.cons rfl (vopL_ok (cl := false) rfl eqs_nil) ?_)) ?_; (conv => (arg 3; whnf)); refine Nx.go_ok eqs_nil ?_
  refine dr_run mixed 1000 ?_; conv => (arg 3; whnf)
  refine Ok.stuck eqs_nil ?_; refine DWP.tlStep mixed (by repeat (first | exact PendD.nil | refine PendD.cons rfl (DOpP.vop (cl := false) rfl eqs_nil) ?_ | refine PendD.skip rfl ?_ | refine PendD.cons rfl (vopL_ok (cl := false) rfl eqs_nil) ?_)) ?_; (conv => (arg 3; whnf)); refine Nx.go_ok eqs_nil ?_
  refine dr_run mixed 1000 ?_; conv => (arg 3; whnf)
  refine Ok.splitF h3 ?_; conv => (arg 3; whnf)
  refine Ok.stuck eqs_nil ?_
  exact DWP.nextA (y21.snd, { Kind := y18, Text := [], N := 0, At := y20.At, Kids := [s17, y21.fst] : TNode }) n rfl rfl (by first | rfl | (simp only [gsimp]; rfl) | (simp only [gsimp, List.length_set]; rfl) | (simp only [gcs, gsimp, List.length_set]; rfl)) (by first | rfl | (simp only [gsimp]; rfl) | (simp only [gsimp, List.length_set]; rfl) | (simp only [gcs, gsimp, List.length_set]; rfl)) (by omega) ⟨by omega, by exact hr⟩
set_option maxRecDepth 100000 in
theorem F181_step (n : Nat) (ih_F72 : ∀ m, m ≤ n → ∀ (a0 : Tplexusref16UP) r, F72 m a0 = some r → SPure env 72 [(.own 0 0)] (.box (Tplexusref16UP.cs a0)) (.agg (TNode.cs r.1)) (.box (Tplexusref16UP.cs r.2))) (ih_F122 : ∀ m, m ≤ n → ∀ (a0 : Tplexusref16UP) (a1 : Int) r, F122 m a0 a1 = some r → SPure env 122 [(.own 0 0), (.d (.v (.int .i64 a1)))] (.box (Tplexusref16UP.cs a0)) (.agg (TNode.cs r.1)) (.box (Tplexusref16UP.cs r.2))) (ih_F181 : ∀ m, m ≤ n → ∀ (a0 : Tplexusref16UP) r, F181 m a0 = some r → SPure env 181 [(.own 0 0)] (.box (Tplexusref16UP.cs a0)) (.agg (TNode.cs r.1)) (.box (Tplexusref16UP.cs r.2))) (ih_F227 : ∀ m, m ≤ n → ∀ (a0 : Tplexusref16UP) r, F227 m a0 = some r → SPure env 227 [(.own 0 0)] (.box (Tplexusref16UP.cs a0)) (.agg (TNode.cs r.1)) (.box (Tplexusref16UP.cs r.2))) (ih_F241 : ∀ m, m ≤ n → ∀ (a0 : Tplexusref16UP) (a1 : (List UInt8)) r, F241 m a0 a1 = some r → SPure env 241 [(.own 0 0), (.d (.v (.string ⟨⟨a1⟩⟩)))] (.box (Tplexusref16UP.cs a0)) (.agg (TNode.cs r.1)) (.box (Tplexusref16UP.cs r.2))) {a0 : Tplexusref16UP} {r} (hr : F181 (n + 1) a0 = some r) : SPure env 181 [(.own 0 0)] (.box (Tplexusref16UP.cs a0)) (.agg (TNode.cs r.1)) (.box (Tplexusref16UP.cs r.2)) := by
  rw [F181] at hr
  have hle0 : n ≤ n := Nat.le_refl n
  refine SPure.walk (E := env) Tryz.func181 rfl (by kernel_rfl) (rs := _) rfl Tryz.ntmps181 rfl ?_
  refine dr_run mixed 1000 ?_; conv => (arg 3; whnf)
  obtain ⟨y1, ey1, hr⟩ := bindO hr
  replace ey1 := (ih_F227 _ (by omega) _ _ ey1)
  refine Ok.stuck eqs_nil ?_; refine DWP.callS 0 ey1 rfl rfl rfl rfl (SImp.box rfl (by exact ImpL.refl _)) rfl ?_
  refine dr_run mixed 1000 ?_; conv => (arg 3; whnf)
  refine Ok.stuck eqs_nil ?_
  refine DWP.loopA (S := Tplexusref16UP × TNode) 3 [0, 2, 3] [] (fun s => []) (fun s => [(0, .box ((Tplexusref16UP.cs s.1).map .d)), (2, .box ((TNode.cs s.2).map .d))]) (fun m s => m ≤ n ∧ F181_L1 m s.1 s.2 = some r) n (y1.snd, y1.fst) rfl rfl rfl rfl rfl rfl ⟨Nat.le_refl _, hr⟩ ?_
  clear hr
  rintro n ⟨s2, s3⟩ ⟨hle, hr⟩
  rcases n with _ | n
  · exact noneO hr
  replace hr : F181_L1 (n + 1) s2 s3 = some r := hr
  rw [F181_L1] at hr
  refine dr_run mixed 1000 ?_; conv => (arg 3; whnf)
  obtain ⟨y4, ey4, hr⟩ := bindO hr
  replace ey4 := (F74_ok ey4)
  refine Ok.val eqs_nil rfl rfl (DOpP.callF ey4 rfl rfl rfl eqs_nil (ImpL.refl _) (.inr rfl)) ?_
  refine dr_run mixed 1000 ?_; conv => (arg 3; whnf)
  obtain ⟨y5, ey5, hr⟩ := bindO hr
  replace ey5 := (F121_ok ey5)
  refine Ok.val eqs_nil rfl rfl (DOpP.callF ey5 rfl rfl rfl eqs_nil (ImpL.refl _) (.inr rfl)) ?_
  refine dr_run mixed 1000 ?_; conv => (arg 3; whnf)
  refine Ok.split ?_ ?_ <;> intro h6 <;> conv => (arg 3; whnf)
  · replace hr := bT h6 hr
    obtain ⟨y7, ey7, hr⟩ := bindO hr
    replace ey7 := (F125_ok ey7)
    refine Ok.stuck eqs_nil ?_; refine DWP.callS 0 ey7 rfl rfl rfl rfl (SImp.box rfl (by exact ImpL.refl _)) rfl ?_
    refine dr_run mixed 1000 ?_; conv => (arg 3; whnf)
    refine Ok.stuck (eqs_cons rfl eqs_nil) ?_
    exact DWP.nextA (y7.snd, { Kind := 42, Text := y7.fst, N := 0, At := y4.At, Kids := [s3] : TNode }) n rfl rfl (by first | rfl | (simp only [gsimp]; rfl) | (simp only [gsimp, List.length_set]; rfl) | (simp only [gcs, gsimp, List.length_set]; rfl)) (by first | rfl | (simp only [gsimp]; rfl) | (simp only [gsimp, List.length_set]; rfl) | (simp only [gcs, gsimp, List.length_set]; rfl)) (by omega) ⟨by omega, by exact hr⟩
  replace hr := bF h6 hr
  obtain ⟨y8, ey8, hr⟩ := bindO hr
  replace ey8 := (F121_ok ey8)
  refine Ok.val eqs_nil rfl rfl (DOpP.callF ey8 rfl rfl rfl eqs_nil (ImpL.refl _) (.inr rfl)) ?_
  refine dr_run mixed 1000 ?_; conv => (arg 3; whnf)
  refine Ok.split ?_ ?_ <;> intro h9 <;> conv => (arg 3; whnf)
  · replace hr := bT h9 hr
    obtain ⟨y10, ey10, hr⟩ := bindO hr
    replace ey10 := (F123_ok ey10)
    refine Ok.stuck eqs_nil ?_; refine DWP.callS 0 ey10 rfl rfl rfl rfl (SImp.box rfl (by exact ImpL.refl _)) rfl ?_
    refine dr_run mixed 1000 ?_; conv => (arg 3; whnf)
    refine Ok.split ?_ ?_ <;> intro h11 <;> conv => (arg 3; whnf)
    · replace hr := bT h11 hr
      refine Ok.fin eqs_nil ?_
      obtain rfl := Option.some.inj hr
      exact RD.leafSB rfl rfl rfl eqs_nil rfl (by exact Imp.refl _) (by exact ImpL.refl _)
    replace hr := bF h11 hr
    refine Ok.open (id := 14) [] [(0, .fl), (1, .fl), (2, .one), (3, .fl), (4, .fl), (5, .one)] [] eqs_nil mixed rfl (by kernel_rfl) (by kernel_rfl) ?_
    refine dr_run mixed 1000 ?_; conv => (arg 3; whnf)
    refine Ok.stuck eqs_nil ?_; refine DWP.tlStep mixed (by repeat (first | exact PendD.nil | refine PendD.cons rfl (DOpP.vop (cl := false) rfl eqs_nil) ?_ | refine PendD.skip rfl ?_ | refine PendD.cons rfl (vopL_ok (cl := false) rfl eqs_nil) ?_)) ?_; (conv => (arg 3; whnf)); refine Nx.go_ok eqs_nil ?_
    refine dr_run mixed 1000 ?_; conv => (arg 3; whnf)
    obtain ⟨y12, ey12, hr⟩ := bindO hr
    replace ey12 := (ih_F72 _ (by omega) _ _ ey12)
    refine Ok.stuck eqs_nil ?_; refine DWP.tlCallS 0 (by repeat (first | exact PendD.nil | refine PendD.cons rfl (DOpP.vop (cl := false) rfl eqs_nil) ?_ | refine PendD.skip rfl ?_ | refine PendD.cons rfl (vopL_ok (cl := false) rfl eqs_nil) ?_)) rfl rfl rfl rfl rfl ey12 rfl rfl rfl rfl (SImp.box rfl (by exact ImpL.refl _)) ?_
    refine dr_run mixed 1000 ?_; conv => (arg 3; whnf)
    refine Ok.stuck eqs_nil ?_; refine DWP.tlStep mixed (by repeat (first | exact PendD.nil | refine PendD.cons rfl (DOpP.vop (cl := false) rfl eqs_nil) ?_ | refine PendD.skip rfl ?_ | refine PendD.cons rfl (vopL_ok (cl := false) rfl eqs_nil) ?_)) ?_; (conv => (arg 3; whnf)); refine Nx.go_ok eqs_nil ?_
    refine dr_run mixed 1000 ?_; conv => (arg 3; whnf)
    refine Ok.stuck eqs_nil ?_; refine DWP.tlStep mixed (by repeat (first | exact PendD.nil | refine PendD.cons rfl (DOpP.vop (cl := false) rfl eqs_nil) ?_ | refine PendD.skip rfl ?_ | refine PendD.cons rfl (vopL_ok (cl := false) rfl eqs_nil) ?_)) ?_; (conv => (arg 3; whnf)); refine Nx.go_ok eqs_nil ?_
    refine dr_run mixed 1000 ?_; conv => (arg 3; whnf)
    refine Ok.stuck eqs_nil ?_; refine DWP.tlStep mixed (by repeat (first | exact PendD.nil | refine PendD.cons rfl (DOpP.vop (cl := false) rfl eqs_nil) ?_ | refine PendD.skip rfl ?_ | refine PendD.cons rfl (vopL_ok (cl := false) rfl eqs_nil) ?_)) ?_; (conv => (arg 3; whnf)); refine Nx.go_ok eqs_nil ?_
    refine dr_run mixed 1000 ?_; conv => (arg 3; whnf)
    obtain ⟨y13, ey13, hr⟩ := bindO hr
    replace ey13 := (F124_ok ey13)
    refine Ok.stuck eqs_nil ?_; refine DWP.callS 0 ey13 rfl rfl rfl rfl (SImp.box rfl (by exact ImpL.refl _)) rfl ?_
    refine dr_run mixed 1000 ?_; conv => (arg 3; whnf)
    refine Ok.stuck eqs_nil ?_
    exact DWP.nextA ({ T := y13.snd.T, I := y13.snd.I, Open := IntKind.i64.wrap (y13.snd.Open - 1), Bad := y13.snd.Bad, Fault := y13.snd.Fault : Tplexusref16UP }, { Kind := 43, Text := [], N := 0, At := y4.At, Kids := [s3, y12.fst] : TNode }) n rfl rfl (by first | rfl | (simp only [gsimp]; rfl) | (simp only [gsimp, List.length_set]; rfl) | (simp only [gcs, gsimp, List.length_set]; rfl)) (by first | rfl | (simp only [gsimp]; rfl) | (simp only [gsimp, List.length_set]; rfl) | (simp only [gcs, gsimp, List.length_set]; rfl)) (by omega) ⟨by omega, by exact hr⟩
  replace hr := bF h9 hr
  refine Ok.fin eqs_nil ?_
  obtain rfl := Option.some.inj hr
  exact RD.leafSB rfl rfl rfl eqs_nil rfl (by exact Imp.refl _) (by exact ImpL.refl _)
set_option maxRecDepth 100000 in
theorem F227_step (n : Nat) (ih_F72 : ∀ m, m ≤ n → ∀ (a0 : Tplexusref16UP) r, F72 m a0 = some r → SPure env 72 [(.own 0 0)] (.box (Tplexusref16UP.cs a0)) (.agg (TNode.cs r.1)) (.box (Tplexusref16UP.cs r.2))) (ih_F122 : ∀ m, m ≤ n → ∀ (a0 : Tplexusref16UP) (a1 : Int) r, F122 m a0 a1 = some r → SPure env 122 [(.own 0 0), (.d (.v (.int .i64 a1)))] (.box (Tplexusref16UP.cs a0)) (.agg (TNode.cs r.1)) (.box (Tplexusref16UP.cs r.2))) (ih_F181 : ∀ m, m ≤ n → ∀ (a0 : Tplexusref16UP) r, F181 m a0 = some r → SPure env 181 [(.own 0 0)] (.box (Tplexusref16UP.cs a0)) (.agg (TNode.cs r.1)) (.box (Tplexusref16UP.cs r.2))) (ih_F227 : ∀ m, m ≤ n → ∀ (a0 : Tplexusref16UP) r, F227 m a0 = some r → SPure env 227 [(.own 0 0)] (.box (Tplexusref16UP.cs a0)) (.agg (TNode.cs r.1)) (.box (Tplexusref16UP.cs r.2))) (ih_F241 : ∀ m, m ≤ n → ∀ (a0 : Tplexusref16UP) (a1 : (List UInt8)) r, F241 m a0 a1 = some r → SPure env 241 [(.own 0 0), (.d (.v (.string ⟨⟨a1⟩⟩)))] (.box (Tplexusref16UP.cs a0)) (.agg (TNode.cs r.1)) (.box (Tplexusref16UP.cs r.2))) {a0 : Tplexusref16UP} {r} (hr : F227 (n + 1) a0 = some r) : SPure env 227 [(.own 0 0)] (.box (Tplexusref16UP.cs a0)) (.agg (TNode.cs r.1)) (.box (Tplexusref16UP.cs r.2)) := by
  rw [F227] at hr
  have hle0 : n ≤ n := Nat.le_refl n
  refine SPure.walk (E := env) Tryz.func227 rfl (by kernel_rfl) (rs := _) rfl Tryz.ntmps227 rfl ?_
  refine dr_run mixed 1000 ?_; conv => (arg 3; whnf)
  obtain ⟨y1, ey1, hr⟩ := bindO hr
  replace ey1 := (F74_ok ey1)
  refine Ok.val eqs_nil rfl rfl (DOpP.callF ey1 rfl rfl rfl eqs_nil (ImpL.refl _) (.inr rfl)) ?_
  refine dr_run mixed 1000 ?_; conv => (arg 3; whnf)
  obtain ⟨y2, ey2, hr⟩ := bindO hr
  replace ey2 := (F121_ok ey2)
  refine Ok.val eqs_nil rfl rfl (DOpP.callF ey2 rfl rfl rfl eqs_nil (ImpL.refl _) (.inr rfl)) ?_
  refine dr_run mixed 1000 ?_; conv => (arg 3; whnf)
  refine Ok.split ?_ ?_ <;> intro h3 <;> conv => (arg 3; whnf)
  · replace hr := bT h3 hr
    obtain ⟨y4, ey4, hr⟩ := bindO hr
    replace ey4 := (F127_ok ey4)
    refine Ok.stuck eqs_nil ?_; refine DWP.callS 0 ey4 rfl rfl rfl rfl (SImp.box rfl (by exact ImpL.refl _)) rfl ?_
    refine dr_run mixed 1000 ?_; conv => (arg 3; whnf)
    refine Ok.fin eqs_nil ?_
    obtain rfl := Option.some.inj hr
    exact RD.leafSB rfl rfl rfl eqs_nil rfl (by exact Imp.refl _) (by exact ImpL.refl _)
  replace hr := bF h3 hr
  refine Ok.split ?_ ?_ <;> intro h5 <;> conv => (arg 3; whnf)
  · replace hr := bT h5 hr
    obtain ⟨y6, ey6, hr⟩ := bindO hr
    replace ey6 := (F127_ok ey6)
    refine Ok.stuck eqs_nil ?_; refine DWP.callS 0 ey6 rfl rfl rfl rfl (SImp.box rfl (by exact ImpL.refl _)) rfl ?_
    refine dr_run mixed 1000 ?_; conv => (arg 3; whnf)
    refine Ok.fin eqs_nil ?_
    obtain rfl := Option.some.inj hr
    exact RD.leafSB rfl rfl rfl eqs_nil rfl (by exact Imp.refl _) (by exact ImpL.refl _)
  replace hr := bF h5 hr
  refine Ok.split ?_ ?_ <;> intro h7 <;> conv => (arg 3; whnf)
  · replace hr := bT h7 hr
    obtain ⟨y8, ey8, hr⟩ := bindO hr
    replace ey8 := (F125_ok ey8)
    refine Ok.stuck eqs_nil ?_; refine DWP.callS 0 ey8 rfl rfl rfl rfl (SImp.box rfl (by exact ImpL.refl _)) rfl ?_
    refine dr_run mixed 1000 ?_; conv => (arg 3; whnf)
    refine Ok.fin eqs_nil ?_
    obtain rfl := Option.some.inj hr
    exact RD.leafSB rfl rfl rfl eqs_nil rfl (by (try simp only [gsimp]); repeat (first | exact Imp.refl _ | exact Imp.nil _ | exact ImpL.nil | exact ImpR.nil | exact ImpL.refl _ | exact ImpR.refl _ | exact Imp.of (by simp only [gsimp]; rfl) | (dsimp only; try simp only [gsimp]) | apply Imp.agg | apply Imp.tup | apply Imp.ip | apply Imp.fn | apply ImpL.cons | apply Imp.sl | apply ImpR.cons | apply ImpR.append)) (by exact ImpL.refl _)
  replace hr := bF h7 hr
  refine Ok.split ?_ ?_ <;> intro h9 <;> conv => (arg 3; whnf)
  · replace hr := bT h9 hr
    obtain ⟨y10, ey10, hr⟩ := bindO hr
    replace ey10 := (F125_ok ey10)
    refine Ok.stuck eqs_nil ?_; refine DWP.callS 0 ey10 rfl rfl rfl rfl (SImp.box rfl (by exact ImpL.refl _)) rfl ?_
    refine dr_run mixed 1000 ?_; conv => (arg 3; whnf)
    refine Ok.fin eqs_nil ?_
    obtain rfl := Option.some.inj hr
    exact RD.leafSB rfl rfl rfl eqs_nil rfl (by (try simp only [gsimp]); repeat (first | exact Imp.refl _ | exact Imp.nil _ | exact ImpL.nil | exact ImpR.nil | exact ImpL.refl _ | exact ImpR.refl _ | exact Imp.of (by simp only [gsimp]; rfl) | (dsimp only; try simp only [gsimp]) | apply Imp.agg | apply Imp.tup | apply Imp.ip | apply Imp.fn | apply ImpL.cons | apply Imp.sl | apply ImpR.cons | apply ImpR.append)) (by exact ImpL.refl _)
  replace hr := bF h9 hr
  obtain ⟨y11, ey11, hr⟩ := bindO hr
  replace ey11 := (F121_ok ey11)
  refine Ok.val eqs_nil rfl rfl (DOpP.callF ey11 rfl rfl rfl eqs_nil (ImpL.refl _) (.inr rfl)) ?_
  refine dr_run mixed 1000 ?_; conv => (arg 3; whnf)
  refine Ok.split ?_ ?_ <;> intro h12 <;> conv => (arg 3; whnf)
  · replace hr := bT h12 hr
    refine Ok.fin eqs_nil ?_
    obtain rfl := Option.some.inj hr
    exact RD.leafSB rfl rfl rfl eqs_nil rfl (by (try simp only [gsimp]); repeat (first | exact Imp.refl _ | exact Imp.nil _ | exact ImpL.nil | exact ImpR.nil | exact ImpL.refl _ | exact ImpR.refl _ | exact Imp.of (by simp only [gsimp]; rfl) | (dsimp only; try simp only [gsimp]) | apply Imp.agg | apply Imp.tup | apply Imp.ip | apply Imp.fn | apply ImpL.cons | apply Imp.sl | apply ImpR.cons | apply ImpR.append)) (by exact ImpL.refl _)
  replace hr := bF h12 hr
  obtain ⟨y13, ey13, hr⟩ := bindO hr
  replace ey13 := (F121_ok ey13)
  refine Ok.val eqs_nil rfl rfl (DOpP.callF ey13 rfl rfl rfl eqs_nil (ImpL.refl _) (.inr rfl)) ?_
  refine dr_run mixed 1000 ?_; conv => (arg 3; whnf)
  refine Ok.split ?_ ?_ <;> intro h14 <;> conv => (arg 3; whnf)
  · replace hr := bT h14 hr
    refine Ok.fin eqs_nil ?_
    obtain rfl := Option.some.inj hr
    exact RD.leafSB rfl rfl rfl eqs_nil rfl (by (try simp only [gsimp]); repeat (first | exact Imp.refl _ | exact Imp.nil _ | exact ImpL.nil | exact ImpR.nil | exact ImpL.refl _ | exact ImpR.refl _ | exact Imp.of (by simp only [gsimp]; rfl) | (dsimp only; try simp only [gsimp]) | apply Imp.agg | apply Imp.tup | apply Imp.ip | apply Imp.fn | apply ImpL.cons | apply Imp.sl | apply ImpR.cons | apply ImpR.append)) (by exact ImpL.refl _)
  replace hr := bF h14 hr
  obtain ⟨y15, ey15, hr⟩ := bindO hr
  replace ey15 := (F121_ok ey15)
  refine Ok.val eqs_nil rfl rfl (DOpP.callF ey15 rfl rfl rfl eqs_nil (ImpL.refl _) (.inr rfl)) ?_
  refine dr_run mixed 1000 ?_; conv => (arg 3; whnf)
  refine Ok.split ?_ ?_ <;> intro h16 <;> conv => (arg 3; whnf)
  · replace hr := bT h16 hr
    refine Ok.fin eqs_nil ?_
    obtain rfl := Option.some.inj hr
    exact RD.leafSB rfl rfl rfl eqs_nil rfl (by (try simp only [gsimp]); repeat (first | exact Imp.refl _ | exact Imp.nil _ | exact ImpL.nil | exact ImpR.nil | exact ImpL.refl _ | exact ImpR.refl _ | exact Imp.of (by simp only [gsimp]; rfl) | (dsimp only; try simp only [gsimp]) | apply Imp.agg | apply Imp.tup | apply Imp.ip | apply Imp.fn | apply ImpL.cons | apply Imp.sl | apply ImpR.cons | apply ImpR.append)) (by exact ImpL.refl _)
  replace hr := bF h16 hr
  obtain ⟨y17, ey17, hr⟩ := bindO hr
  replace ey17 := (F121_ok ey17)
  refine Ok.val eqs_nil rfl rfl (DOpP.callF ey17 rfl rfl rfl eqs_nil (ImpL.refl _) (.inr rfl)) ?_
  refine dr_run mixed 1000 ?_; conv => (arg 3; whnf)
  refine Ok.split ?_ ?_ <;> intro h18 <;> conv => (arg 3; whnf)
  · replace hr := bT h18 hr
    refine Ok.fin eqs_nil ?_
    obtain rfl := Option.some.inj hr
    exact RD.leafSB rfl rfl rfl eqs_nil rfl (by (try simp only [gsimp]); repeat (first | exact Imp.refl _ | exact Imp.nil _ | exact ImpL.nil | exact ImpR.nil | exact ImpL.refl _ | exact ImpR.refl _ | exact Imp.of (by simp only [gsimp]; rfl) | (dsimp only; try simp only [gsimp]) | apply Imp.agg | apply Imp.tup | apply Imp.ip | apply Imp.fn | apply ImpL.cons | apply Imp.sl | apply ImpR.cons | apply ImpR.append)) (by exact ImpL.refl _)
  replace hr := bF h18 hr
  obtain ⟨y19, ey19, hr⟩ := bindO hr
  replace ey19 := (F121_ok ey19)
  refine Ok.val eqs_nil rfl rfl (DOpP.callF ey19 rfl rfl rfl eqs_nil (ImpL.refl _) (.inr rfl)) ?_
  refine dr_run mixed 1000 ?_; conv => (arg 3; whnf)
  refine Ok.split ?_ ?_ <;> intro h20 <;> conv => (arg 3; whnf)
  · replace hr := bT h20 hr
    obtain ⟨y21, ey21, hr⟩ := bindO hr
    replace ey21 := (F123_ok ey21)
    refine Ok.stuck eqs_nil ?_; refine DWP.callS 0 ey21 rfl rfl rfl rfl (SImp.box rfl (by exact ImpL.refl _)) rfl ?_
    refine dr_run mixed 1000 ?_; conv => (arg 3; whnf)
    refine Ok.split ?_ ?_ <;> intro h22 <;> conv => (arg 3; whnf)
    · replace hr := bT h22 hr
      refine Ok.fin eqs_nil ?_
      obtain rfl := Option.some.inj hr
      exact RD.leafSB rfl rfl rfl eqs_nil rfl (by (try simp only [gsimp]); repeat (first | exact Imp.refl _ | exact Imp.nil _ | exact ImpL.nil | exact ImpR.nil | exact ImpL.refl _ | exact ImpR.refl _ | exact Imp.of (by simp only [gsimp]; rfl) | (dsimp only; try simp only [gsimp]) | apply Imp.agg | apply Imp.tup | apply Imp.ip | apply Imp.fn | apply ImpL.cons | apply Imp.sl | apply ImpR.cons | apply ImpR.append)) (by exact ImpL.refl _)
    replace hr := bF h22 hr
    obtain ⟨y23, ey23, hr⟩ := bindO hr
    replace ey23 := (ih_F72 _ (by omega) _ _ ey23)
    refine Ok.stuck eqs_nil ?_; refine DWP.callS 0 ey23 rfl rfl rfl rfl (SImp.box rfl (by exact ImpL.refl _)) rfl ?_
    refine dr_run mixed 1000 ?_; conv => (arg 3; whnf)
    obtain ⟨y24, ey24, hr⟩ := bindO hr
    replace ey24 := (F124_ok ey24)
    refine Ok.stuck eqs_nil ?_; refine DWP.callS 0 ey24 rfl rfl rfl rfl (SImp.box rfl (by exact ImpL.refl _)) rfl ?_
    refine dr_run mixed 1000 ?_; conv => (arg 3; whnf)
    refine Ok.fin eqs_nil ?_
    obtain rfl := Option.some.inj hr
    exact RD.leafSB rfl rfl rfl eqs_nil rfl (by exact Imp.refl _) (by exact ImpL.refl _)
  replace hr := bF h20 hr
  obtain ⟨y25, ey25, hr⟩ := bindO hr
  replace ey25 := (F240_ok ey25)
  refine Ok.val eqs_nil rfl rfl (DOpP.callF ey25 rfl rfl rfl eqs_nil (ImpL.refl _) (.inr rfl)) ?_
  refine dr_run mixed 1000 ?_; conv => (arg 3; whnf)
  refine Ok.split ?_ ?_ <;> intro h26 <;> conv => (arg 3; whnf)
  · replace hr := bT h26 hr
    obtain ⟨y27, ey27, hr⟩ := bindO hr
    replace ey27 := (F121_ok ey27)
    refine Ok.val eqs_nil rfl rfl (DOpP.callF ey27 rfl rfl rfl eqs_nil (ImpL.refl _) (.inr rfl)) ?_
    refine dr_run mixed 1000 ?_; conv => (arg 3; whnf)
    refine Ok.split ?_ ?_ <;> intro h28 <;> conv => (arg 3; whnf)
    · replace hr := bT h28 hr
      obtain ⟨y29, ey29, hr⟩ := bindO hr
      replace ey29 := (F76_ok ey29)
      refine Ok.stuck eqs_nil ?_; refine DWP.callS 0 ey29 rfl rfl rfl rfl (SImp.box rfl (by exact ImpL.refl _)) rfl ?_
      refine dr_run mixed 1000 ?_; conv => (arg 3; whnf)
      refine Ok.fin eqs_nil ?_
      obtain rfl := Option.some.inj hr
      exact RD.leafSB rfl rfl rfl eqs_nil rfl (by (try simp only [gsimp]); repeat (first | exact Imp.refl _ | exact Imp.nil _ | exact ImpL.nil | exact ImpR.nil | exact ImpL.refl _ | exact ImpR.refl _ | exact Imp.of (by simp only [gsimp]; rfl) | (dsimp only; try simp only [gsimp]) | apply Imp.agg | apply Imp.tup | apply Imp.ip | apply Imp.fn | apply ImpL.cons | apply Imp.sl | apply ImpR.cons | apply ImpR.append)) (by exact ImpL.refl _)
    replace hr := bF h28 hr
    obtain ⟨y30, ey30, hr⟩ := bindO hr
    replace ey30 := (F123_ok ey30)
    refine Ok.stuck eqs_nil ?_; refine DWP.callS 0 ey30 rfl rfl rfl rfl (SImp.box rfl (by exact ImpL.refl _)) rfl ?_
    refine dr_run mixed 1000 ?_; conv => (arg 3; whnf)
    refine Ok.split ?_ ?_ <;> intro h31 <;> conv => (arg 3; whnf)
    · replace hr := bT h31 hr
      refine Ok.fin eqs_nil ?_
      obtain rfl := Option.some.inj hr
      exact RD.leafSB rfl rfl rfl eqs_nil rfl (by (try simp only [gsimp]); repeat (first | exact Imp.refl _ | exact Imp.nil _ | exact ImpL.nil | exact ImpR.nil | exact ImpL.refl _ | exact ImpR.refl _ | exact Imp.of (by simp only [gsimp]; rfl) | (dsimp only; try simp only [gsimp]) | apply Imp.agg | apply Imp.tup | apply Imp.ip | apply Imp.fn | apply ImpL.cons | apply Imp.sl | apply ImpR.cons | apply ImpR.append)) (by exact ImpL.refl _)
    replace hr := bF h31 hr
    obtain ⟨y32, ey32, hr⟩ := bindO hr
    replace ey32 := (F121_ok ey32)
    refine Ok.val eqs_nil rfl rfl (DOpP.callF ey32 rfl rfl rfl eqs_nil (ImpL.refl _) (.inr rfl)) ?_
    refine dr_run mixed 1000 ?_; conv => (arg 3; whnf)
    refine Ok.split ?_ ?_ <;> intro h33 <;> conv => (arg 3; whnf)
    · replace hr := bT h33 hr
      refine Ok.open (id := 45) [] [(0, .fl), (1, .fl), (2, .fl), (3, .fl), (4, .fl), (5, .one), (6, .fl), (7, .one), (8, .fl), (9, .one)] [] eqs_nil mixed rfl (by kernel_rfl) (by kernel_rfl) ?_
      refine dr_run mixed 1000 ?_; conv => (arg 3; whnf)
      refine Ok.stuck eqs_nil ?_; refine DWP.tlStep mixed (by repeat (first | exact PendD.nil | refine PendD.cons rfl (DOpP.vop (cl := false) rfl eqs_nil) ?_ | refine PendD.skip rfl ?_ | refine PendD.cons rfl (vopL_ok (cl := false) rfl eqs_nil) ?_)) ?_; (conv => (arg 3; whnf)); refine Nx.go_ok eqs_nil ?_
      refine dr_run mixed 1000 ?_; conv => (arg 3; whnf)
      refine Ok.stuck eqs_nil ?_; refine DWP.tlStep mixed (by repeat (first | exact PendD.nil | refine PendD.cons rfl (DOpP.vop (cl := false) rfl eqs_nil) ?_ | refine PendD.skip rfl ?_ | refine PendD.cons rfl (vopL_ok (cl := false) rfl eqs_nil) ?_)) ?_; (conv => (arg 3; whnf)); refine Nx.go_ok eqs_nil ?_
      refine dr_run mixed 1000 ?_; conv => (arg 3; whnf)
      refine Ok.stuck eqs_nil ?_; refine DWP.tlStep mixed (by repeat (first | exact PendD.nil | refine PendD.cons rfl (DOpP.vop (cl := false) rfl eqs_nil) ?_ | refine PendD.skip rfl ?_ | refine PendD.cons rfl (vopL_ok (cl := false) rfl eqs_nil) ?_)) ?_; (conv => (arg 3; whnf)); refine Nx.go_ok eqs_nil ?_
      refine dr_run mixed 1000 ?_; conv => (arg 3; whnf)
      obtain ⟨y34, ey34, hr⟩ := bindO hr
      replace ey34 := (ih_F241 _ (by omega) _ _ _ ey34)
      refine Ok.stuck eqs_nil ?_; refine DWP.tlCallS 0 (by repeat (first | exact PendD.nil | refine PendD.cons rfl (DOpP.vop (cl := false) rfl eqs_nil) ?_ | refine PendD.skip rfl ?_ | refine PendD.cons rfl (vopL_ok (cl := false) rfl eqs_nil) ?_)) rfl rfl rfl rfl rfl ey34 rfl rfl rfl rfl (SImp.box rfl (by exact ImpL.refl _)) ?_
      refine dr_run mixed 1000 ?_; conv => (arg 3; whnf)
      refine Ok.stuck eqs_nil ?_; refine DWP.tlStep mixed (by repeat (first | exact PendD.nil | refine PendD.cons rfl (DOpP.vop (cl := false) rfl eqs_nil) ?_ | refine PendD.skip rfl ?_ | refine PendD.cons rfl (vopL_ok (cl := false) rfl eqs_nil) ?_)) ?_; (conv => (arg 3; whnf)); refine Nx.go_ok eqs_nil ?_
      refine dr_run mixed 1000 ?_; conv => (arg 3; whnf)
      obtain ⟨h35, hr⟩ := guardO hr
      refine Ok.stuck eqs_nil ?_; refine DWP.tlNilSl 4 (by repeat (first | exact PendD.nil | refine PendD.cons rfl (DOpP.vop (cl := false) rfl eqs_nil) ?_ | refine PendD.skip rfl ?_ | refine PendD.cons rfl (vopL_ok (cl := false) rfl eqs_nil) ?_)) rfl rfl rfl rfl rfl rfl rfl rfl rfl rfl rfl rfl rfl (by have h0 := of_decide_eq_true h35; simp only [List.length_append, List.length_set, List.length_cons, List.length_nil, chunk_length, TNode.rows_len] at h0 ⊢; omega) ?_
      refine dr_run mixed 1000 ?_; conv => (arg 3; whnf)
      refine Ok.stuck eqs_nil ?_
      refine DWP.loopA (S := Tplexusref16UP × (List TNode)) 5 [0, 2, 3, 4] [] (fun s => []) (fun s => [(0, .box ((Tplexusref16UP.cs s.1).map .d)), (4, .row 25 5 (TNode.rows s.2)), (3, .box [.d (.v (.int .i64 (51))), .d (.v (.string ⟨⟨(y1.Text)⟩⟩)), .d (.v (.int .i64 (0))), .d (.v (.int .i64 (y1.At))), .os 4 (TNode.rows s.2).length])]) (fun m s => m ≤ n ∧ F227_L1 y1 m s.1 s.2 = some r) n (y34.snd, [y34.fst]) rfl rfl rfl rfl rfl (by first | rfl | (simp only [gsimp]; rfl)) ⟨Nat.le_refl _, hr⟩ ?_
      clear hr
      rintro n ⟨s36, s41⟩ ⟨hle, hr⟩
      rcases n with _ | n
      · exact noneO hr
      replace hr : F227_L1 y1 (n + 1) s36 s41 = some r := hr
      rw [F227_L1] at hr
      refine dr_run mixed 1000 ?_; conv => (arg 3; whnf)
      obtain ⟨y42, ey42, hr⟩ := bindO hr
      replace ey42 := (F121_ok ey42)
      refine Ok.val eqs_nil rfl rfl (DOpP.callF ey42 rfl rfl rfl eqs_nil (ImpL.refl _) (.inr rfl)) ?_
      refine dr_run mixed 1000 ?_; conv => (arg 3; whnf)
      refine Ok.split ?_ ?_ <;> intro h43 <;> conv => (arg 3; whnf)
      · replace hr := bT h43 hr
        refine Ok.open (id := 48) [] [(0, .fl), (1, .fl), (2, .fl), (3, .fl), (4, .fl), (5, .one), (6, .fl), (7, .one), (8, .fl), (9, .one)] [] eqs_nil mixed rfl (by kernel_rfl) (by kernel_rfl) ?_
        refine dr_run mixed 1000 ?_; conv => (arg 3; whnf)
        refine Ok.stuck eqs_nil ?_; refine DWP.tlStep mixed (by repeat (first | exact PendD.nil | refine PendD.cons rfl (DOpP.vop (cl := false) rfl eqs_nil) ?_ | refine PendD.skip rfl ?_ | refine PendD.cons rfl (vopL_ok (cl := false) rfl eqs_nil) ?_)) ?_; (conv => (arg 3; whnf)); refine Nx.go_ok eqs_nil ?_
        refine dr_run mixed 1000 ?_; conv => (arg 3; whnf)
        refine Ok.stuck eqs_nil ?_; refine DWP.tlStep mixed (by repeat (first | exact PendD.nil | refine PendD.cons rfl (DOpP.vop (cl := false) rfl eqs_nil) ?_ | refine PendD.skip rfl ?_ | refine PendD.cons rfl (vopL_ok (cl := false) rfl eqs_nil) ?_)) ?_; (conv => (arg 3; whnf)); refine Nx.go_ok eqs_nil ?_
        refine dr_run mixed 1000 ?_; conv => (arg 3; whnf)
        refine Ok.stuck eqs_nil ?_; refine DWP.tlStep mixed (by repeat (first | exact PendD.nil | refine PendD.cons rfl (DOpP.vop (cl := false) rfl eqs_nil) ?_ | refine PendD.skip rfl ?_ | refine PendD.cons rfl (vopL_ok (cl := false) rfl eqs_nil) ?_)) ?_; (conv => (arg 3; whnf)); refine Nx.go_ok eqs_nil ?_
        refine dr_run mixed 1000 ?_; conv => (arg 3; whnf)
        obtain ⟨y44, ey44, hr⟩ := bindO hr
        replace ey44 := (ih_F241 _ (by omega) _ _ _ ey44)
        refine Ok.stuck eqs_nil ?_; refine DWP.tlCallS 0 (by repeat (first | exact PendD.nil | refine PendD.cons rfl (DOpP.vop (cl := false) rfl eqs_nil) ?_ | refine PendD.skip rfl ?_ | refine PendD.cons rfl (vopL_ok (cl := false) rfl eqs_nil) ?_)) rfl rfl rfl rfl rfl ey44 rfl rfl rfl rfl (SImp.box rfl (by exact ImpL.refl _)) ?_
        refine dr_run mixed 1000 ?_; conv => (arg 3; whnf)
        refine Ok.stuck eqs_nil ?_; refine DWP.tlStep mixed (by repeat (first | exact PendD.nil | refine PendD.cons rfl (DOpP.vop (cl := false) rfl eqs_nil) ?_ | refine PendD.skip rfl ?_ | refine PendD.cons rfl (vopL_ok (cl := false) rfl eqs_nil) ?_)) ?_; (conv => (arg 3; whnf)); refine Nx.go_ok eqs_nil ?_
        refine dr_run mixed 1000 ?_; conv => (arg 3; whnf)
        obtain ⟨h45, hr⟩ := guardO hr
        refine Ok.stuck eqs_nil ?_; refine DWP.tlAppI (rows2 := (TNode.rows ([y44.fst]))) (by repeat (first | exact PendD.nil | refine PendD.cons rfl (DOpP.vop (cl := false) rfl eqs_nil) ?_ | refine PendD.skip rfl ?_ | refine PendD.cons rfl (vopL_ok (cl := false) rfl eqs_nil) ?_)) rfl rfl rfl rfl rfl (by first | rfl | simp only [List.length_set] | simp only [glen, List.length_set, List.length_replicate, List.length_append, List.length_cons, List.length_nil]) rfl (by exact Imp.of (by simp only [gsimp]; rfl)) rfl rfl (TNode.rows_ones _) rfl rfl (by have h0 := of_decide_eq_true h45; simp only [List.length_append, List.length_set, List.length_cons, List.length_nil, chunk_length, TNode.rows_len] at h0 ⊢; omega) ?_
        refine dr_run mixed 1000 ?_; conv => (arg 3; whnf)
        refine Ok.stuck eqs_nil ?_
        exact DWP.nextA (y44.snd, s41 ++ [y44.fst]) n rfl rfl (by first | rfl | (simp only [gsimp]; rfl) | (simp only [gsimp, List.length_set]; rfl) | (simp only [gcs, gsimp, List.length_set]; rfl)) (by first | rfl | (simp only [gsimp]; rfl) | (simp only [gsimp, List.length_set]; rfl) | (simp only [gcs, gsimp, List.length_set]; rfl)) (by omega) ⟨by omega, by exact hr⟩
      replace hr := bF h43 hr
      obtain ⟨y46, ey46, hr⟩ := bindO hr
      replace ey46 := (F124_ok ey46)
      refine Ok.stuck eqs_nil ?_; refine DWP.callS 0 ey46 rfl rfl rfl rfl (SImp.box rfl (by exact ImpL.refl _)) rfl ?_
      refine dr_run mixed 1000 ?_; conv => (arg 3; whnf)
      refine Ok.fin (eqs_cons rfl eqs_nil) ?_
      obtain rfl := Option.some.inj hr
      exact RD.leafSB rfl rfl rfl eqs_nil rfl (by exact Imp.refl _) (by exact ImpL.refl _)
    replace hr := bF h33 hr
    obtain ⟨y47, ey47, hr⟩ := bindO hr
    replace ey47 := (F124_ok ey47)
    refine Ok.stuck eqs_nil ?_; refine DWP.callS 0 ey47 rfl rfl rfl rfl (SImp.box rfl (by exact ImpL.refl _)) rfl ?_
    refine dr_run mixed 1000 ?_; conv => (arg 3; whnf)
    refine Ok.fin eqs_nil ?_
    obtain rfl := Option.some.inj hr
    exact RD.leafSB rfl rfl rfl eqs_nil rfl (by (try simp only [gsimp]); repeat (first | exact Imp.refl _ | exact Imp.nil _ | exact ImpL.nil | exact ImpR.nil | exact ImpL.refl _ | exact ImpR.refl _ | exact Imp.of (by simp only [gsimp]; rfl) | (dsimp only; try simp only [gsimp]) | apply Imp.agg | apply Imp.tup | apply Imp.ip | apply Imp.fn | apply ImpL.cons | apply Imp.sl | apply ImpR.cons | apply ImpR.append)) (by exact ImpL.refl _)
  replace hr := bF h26 hr
  obtain ⟨y48, ey48, hr⟩ := bindO hr
  replace ey48 := (F76_ok ey48)
  refine Ok.stuck eqs_nil ?_; refine DWP.callS 0 ey48 rfl rfl rfl rfl (SImp.box rfl (by exact ImpL.refl _)) rfl ?_
  refine dr_run mixed 1000 ?_; conv => (arg 3; whnf)
  refine Ok.fin eqs_nil ?_
  obtain rfl := Option.some.inj hr
  exact RD.leafSB rfl rfl rfl eqs_nil rfl (by (try simp only [gsimp]); repeat (first | exact Imp.refl _ | exact Imp.nil _ | exact ImpL.nil | exact ImpR.nil | exact ImpL.refl _ | exact ImpR.refl _ | exact Imp.of (by simp only [gsimp]; rfl) | (dsimp only; try simp only [gsimp]) | apply Imp.agg | apply Imp.tup | apply Imp.ip | apply Imp.fn | apply ImpL.cons | apply Imp.sl | apply ImpR.cons | apply ImpR.append)) (by exact ImpL.refl _)
set_option maxRecDepth 100000 in
theorem F241_step (n : Nat) (ih_F72 : ∀ m, m ≤ n → ∀ (a0 : Tplexusref16UP) r, F72 m a0 = some r → SPure env 72 [(.own 0 0)] (.box (Tplexusref16UP.cs a0)) (.agg (TNode.cs r.1)) (.box (Tplexusref16UP.cs r.2))) (ih_F122 : ∀ m, m ≤ n → ∀ (a0 : Tplexusref16UP) (a1 : Int) r, F122 m a0 a1 = some r → SPure env 122 [(.own 0 0), (.d (.v (.int .i64 a1)))] (.box (Tplexusref16UP.cs a0)) (.agg (TNode.cs r.1)) (.box (Tplexusref16UP.cs r.2))) (ih_F181 : ∀ m, m ≤ n → ∀ (a0 : Tplexusref16UP) r, F181 m a0 = some r → SPure env 181 [(.own 0 0)] (.box (Tplexusref16UP.cs a0)) (.agg (TNode.cs r.1)) (.box (Tplexusref16UP.cs r.2))) (ih_F227 : ∀ m, m ≤ n → ∀ (a0 : Tplexusref16UP) r, F227 m a0 = some r → SPure env 227 [(.own 0 0)] (.box (Tplexusref16UP.cs a0)) (.agg (TNode.cs r.1)) (.box (Tplexusref16UP.cs r.2))) (ih_F241 : ∀ m, m ≤ n → ∀ (a0 : Tplexusref16UP) (a1 : (List UInt8)) r, F241 m a0 a1 = some r → SPure env 241 [(.own 0 0), (.d (.v (.string ⟨⟨a1⟩⟩)))] (.box (Tplexusref16UP.cs a0)) (.agg (TNode.cs r.1)) (.box (Tplexusref16UP.cs r.2))) {a0 : Tplexusref16UP} {a1 : (List UInt8)} {r} (hr : F241 (n + 1) a0 a1 = some r) : SPure env 241 [(.own 0 0), (.d (.v (.string ⟨⟨a1⟩⟩)))] (.box (Tplexusref16UP.cs a0)) (.agg (TNode.cs r.1)) (.box (Tplexusref16UP.cs r.2)) := by
  rw [F241] at hr
  have hle0 : n ≤ n := Nat.le_refl n
  refine SPure.walk (E := env) Tryz.func241 rfl (by kernel_rfl) (rs := _) rfl Tryz.ntmps241 rfl ?_
  refine dr_run mixed 1000 ?_; conv => (arg 3; whnf)
  obtain ⟨y1, ey1, hr⟩ := bindO hr
  replace ey1 := (F74_ok ey1)
  refine Ok.val eqs_nil rfl rfl (DOpP.callF ey1 rfl rfl rfl eqs_nil (ImpL.refl _) (.inr rfl)) ?_
  refine dr_run mixed 1000 ?_; conv => (arg 3; whnf)
  refine Ok.split ?_ ?_ <;> intro h2 <;> conv => (arg 3; whnf)
  · replace hr := bT h2 hr
    obtain ⟨y3, ey3, hr⟩ := bindO hr
    replace ey3 := (F125_ok ey3)
    refine Ok.stuck eqs_nil ?_; refine DWP.callS 0 ey3 rfl rfl rfl rfl (SImp.box rfl (by exact ImpL.refl _)) rfl ?_
    refine dr_run mixed 1000 ?_; conv => (arg 3; whnf)
    obtain ⟨y4, ey4, hr⟩ := bindO hr
    replace ey4 := (F124_ok ey4)
    refine Ok.stuck eqs_nil ?_; refine DWP.callS 0 ey4 rfl rfl rfl rfl (SImp.box rfl (by exact ImpL.refl _)) rfl ?_
    refine dr_run mixed 1000 ?_; conv => (arg 3; whnf)
    obtain ⟨y5, ey5, hr⟩ := bindO hr
    replace ey5 := (ih_F72 _ (by omega) _ _ ey5)
    refine Ok.stuck eqs_nil ?_; refine DWP.callS 0 ey5 rfl rfl rfl rfl (SImp.box rfl (by exact ImpL.refl _)) rfl ?_
    refine dr_run mixed 1000 ?_; conv => (arg 3; whnf)
    refine Ok.fin (eqs_cons rfl eqs_nil) ?_
    obtain rfl := Option.some.inj hr
    exact RD.leafSB rfl rfl rfl eqs_nil rfl (by (try simp only [gsimp]); repeat (first | exact Imp.refl _ | exact Imp.nil _ | exact ImpL.nil | exact ImpR.nil | exact ImpL.refl _ | exact ImpR.refl _ | exact Imp.of (by simp only [gsimp]; rfl) | (dsimp only; try simp only [gsimp]) | apply Imp.agg | apply Imp.tup | apply Imp.ip | apply Imp.fn | apply ImpL.cons | apply Imp.sl | apply ImpR.cons | apply ImpR.append)) (by exact ImpL.refl _)
  replace hr := bF h2 hr
  obtain ⟨y6, ey6, hr⟩ := bindO hr
  replace ey6 := (ih_F72 _ (by omega) _ _ ey6)
  refine Ok.stuck eqs_nil ?_; refine DWP.callS 0 ey6 rfl rfl rfl rfl (SImp.box rfl (by exact ImpL.refl _)) rfl ?_
  refine dr_run mixed 1000 ?_; conv => (arg 3; whnf)
  refine Ok.split ?_ ?_ <;> intro h7 <;> conv => (arg 3; whnf)
  · replace hr := bT h7 hr
    refine Ok.fin eqs_nil ?_
    obtain rfl := Option.some.inj hr
    exact RD.leafSB rfl rfl rfl eqs_nil rfl (by exact Imp.refl _) (by exact ImpL.refl _)
  replace hr := bF h7 hr
  obtain ⟨y8, ey8, hr⟩ := bindO hr
  replace ey8 := (F124_ok ey8)
  refine Ok.stuck eqs_nil ?_; refine DWP.callS 0 ey8 rfl rfl rfl rfl (SImp.box rfl (by exact ImpL.refl _)) rfl ?_
  refine dr_run mixed 1000 ?_; conv => (arg 3; whnf)
  refine Ok.open (id := 11) [] [(0, .fl), (1, .fl), (2, .one), (3, .fl), (4, .fl), (5, .one)] [] eqs_nil mixed rfl (by kernel_rfl) (by kernel_rfl) ?_
  refine dr_run mixed 1000 ?_; conv => (arg 3; whnf)
  refine Ok.stuck eqs_nil ?_; refine DWP.tlStep mixed (by repeat (first | exact PendD.nil | refine PendD.cons rfl (DOpP.vop (cl := false) rfl eqs_nil) ?_ | refine PendD.skip rfl ?_ | refine PendD.cons rfl (vopL_ok (cl := false) rfl eqs_nil) ?_)) ?_; (conv => (arg 3; whnf)); refine Nx.go_ok eqs_nil ?_
  refine dr_run mixed 1000 ?_; conv => (arg 3; whnf)
  obtain ⟨y9, ey9, hr⟩ := bindO hr
  replace ey9 := (ih_F72 _ (by omega) _ _ ey9)
  refine Ok.stuck eqs_nil ?_; refine DWP.tlCallS 0 (by repeat (first | exact PendD.nil | refine PendD.cons rfl (DOpP.vop (cl := false) rfl eqs_nil) ?_ | refine PendD.skip rfl ?_ | refine PendD.cons rfl (vopL_ok (cl := false) rfl eqs_nil) ?_)) rfl rfl rfl rfl rfl ey9 rfl rfl rfl rfl (SImp.box rfl (by exact ImpL.refl _)) ?_
  refine dr_run mixed 1000 ?_; conv => (arg 3; whnf)
  refine Ok.stuck eqs_nil ?_; refine DWP.tlStep mixed (by repeat (first | exact PendD.nil | refine PendD.cons rfl (DOpP.vop (cl := false) rfl eqs_nil) ?_ | refine PendD.skip rfl ?_ | refine PendD.cons rfl (vopL_ok (cl := false) rfl eqs_nil) ?_)) ?_; (conv => (arg 3; whnf)); refine Nx.go_ok eqs_nil ?_
  refine dr_run mixed 1000 ?_; conv => (arg 3; whnf)
  refine Ok.stuck eqs_nil ?_; refine DWP.tlStep mixed (by repeat (first | exact PendD.nil | refine PendD.cons rfl (DOpP.vop (cl := false) rfl eqs_nil) ?_ | refine PendD.skip rfl ?_ | refine PendD.cons rfl (vopL_ok (cl := false) rfl eqs_nil) ?_)) ?_; (conv => (arg 3; whnf)); refine Nx.go_ok eqs_nil ?_
  refine dr_run mixed 1000 ?_; conv => (arg 3; whnf)
  refine Ok.stuck eqs_nil ?_; refine DWP.tlStep mixed (by repeat (first | exact PendD.nil | refine PendD.cons rfl (DOpP.vop (cl := false) rfl eqs_nil) ?_ | refine PendD.skip rfl ?_ | refine PendD.cons rfl (vopL_ok (cl := false) rfl eqs_nil) ?_)) ?_; (conv => (arg 3; whnf)); refine Nx.go_ok eqs_nil ?_
  refine dr_run mixed 1000 ?_; conv => (arg 3; whnf)
  refine Ok.fin eqs_nil ?_
  obtain rfl := Option.some.inj hr
  exact RD.leafSB rfl rfl rfl eqs_nil rfl (by (try simp only [gsimp]); repeat (first | exact Imp.refl _ | exact Imp.nil _ | exact ImpL.nil | exact ImpR.nil | exact ImpL.refl _ | exact ImpR.refl _ | exact Imp.of (by simp only [gsimp]; rfl) | (dsimp only; try simp only [gsimp]) | apply Imp.agg | apply Imp.tup | apply Imp.ip | apply Imp.fn | apply ImpL.cons | apply Imp.sl | apply ImpR.cons | apply ImpR.append)) (by exact ImpL.refl _)
theorem SCC_F72 : ∀ N n, n ≤ N → (∀ (a0 : Tplexusref16UP) r, F72 n a0 = some r → SPure env 72 [(.own 0 0)] (.box (Tplexusref16UP.cs a0)) (.agg (TNode.cs r.1)) (.box (Tplexusref16UP.cs r.2))) ∧ (∀ (a0 : Tplexusref16UP) (a1 : Int) r, F122 n a0 a1 = some r → SPure env 122 [(.own 0 0), (.d (.v (.int .i64 a1)))] (.box (Tplexusref16UP.cs a0)) (.agg (TNode.cs r.1)) (.box (Tplexusref16UP.cs r.2))) ∧ (∀ (a0 : Tplexusref16UP) r, F181 n a0 = some r → SPure env 181 [(.own 0 0)] (.box (Tplexusref16UP.cs a0)) (.agg (TNode.cs r.1)) (.box (Tplexusref16UP.cs r.2))) ∧ (∀ (a0 : Tplexusref16UP) r, F227 n a0 = some r → SPure env 227 [(.own 0 0)] (.box (Tplexusref16UP.cs a0)) (.agg (TNode.cs r.1)) (.box (Tplexusref16UP.cs r.2))) ∧ (∀ (a0 : Tplexusref16UP) (a1 : (List UInt8)) r, F241 n a0 a1 = some r → SPure env 241 [(.own 0 0), (.d (.v (.string ⟨⟨a1⟩⟩)))] (.box (Tplexusref16UP.cs a0)) (.agg (TNode.cs r.1)) (.box (Tplexusref16UP.cs r.2)))
  | _, 0, _ => by
    refine ⟨?_, ?_, ?_, ?_, ?_⟩ <;> intros <;> exact noneO ‹_›
  | 0, _ + 1, h => absurd h (by omega)
  | N + 1, n + 1, h => by
    have ih := fun m (hm : m ≤ n) => SCC_F72 N m (by omega)
    exact ⟨fun _ _ hr => F72_step n (fun m hm => (ih m hm).1) (fun m hm => (ih m hm).2.1) (fun m hm => (ih m hm).2.2.1) (fun m hm => (ih m hm).2.2.2.1) (fun m hm => (ih m hm).2.2.2.2) hr, fun _ _ _ hr => F122_step n (fun m hm => (ih m hm).1) (fun m hm => (ih m hm).2.1) (fun m hm => (ih m hm).2.2.1) (fun m hm => (ih m hm).2.2.2.1) (fun m hm => (ih m hm).2.2.2.2) hr, fun _ _ hr => F181_step n (fun m hm => (ih m hm).1) (fun m hm => (ih m hm).2.1) (fun m hm => (ih m hm).2.2.1) (fun m hm => (ih m hm).2.2.2.1) (fun m hm => (ih m hm).2.2.2.2) hr, fun _ _ hr => F227_step n (fun m hm => (ih m hm).1) (fun m hm => (ih m hm).2.1) (fun m hm => (ih m hm).2.2.1) (fun m hm => (ih m hm).2.2.2.1) (fun m hm => (ih m hm).2.2.2.2) hr, fun _ _ _ hr => F241_step n (fun m hm => (ih m hm).1) (fun m hm => (ih m hm).2.1) (fun m hm => (ih m hm).2.2.1) (fun m hm => (ih m hm).2.2.2.1) (fun m hm => (ih m hm).2.2.2.2) hr⟩
theorem F72_ok {n : Nat} {a0 : Tplexusref16UP} {r} (hr : F72 n a0 = some r) : SPure env 72 [(.own 0 0)] (.box (Tplexusref16UP.cs a0)) (.agg (TNode.cs r.1)) (.box (Tplexusref16UP.cs r.2)) := (SCC_F72 n n (Nat.le_refl n)).1 _ _ hr
end Go.Proofs.YtdmkbllocddkaaaGreat
end
