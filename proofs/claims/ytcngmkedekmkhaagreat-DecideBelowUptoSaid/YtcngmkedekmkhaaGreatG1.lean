/-
  Own work, printed by a program. What the functions of the program answer, and that they do.
-/
import Derived.Test.YtcngmkedekmkhaaGreatAw
set_option linter.unusedVariables false
set_option linter.unusedSimpArgs false
noncomputable section
namespace Go.Proofs.YtcngmkedekmkhaaGreat
open Go Go.Bw
/- plexus.plexusref22.SmallArgs -/
abbrev T14_L2 : Type := (List TDatum) → Bool → Int → TDatum → TDatum → Bool → Int → Option (Bool)
abbrev T14_L1 : Type := (List TDatum) → Bool → Int → Option (Bool)
abbrev T14 : Type := (List TDatum) → Option (Bool)
def B14_L2 (F14_L1 : T14_L1) (F14_L2 : T14_L2) (a0 : (List TDatum)) (s2 : Bool) (s3 : Int) (x5 : TDatum) (x8 : TDatum) (s11 : Bool) (s12 : Int) : Option (Bool) := ((idxO a0 s3).bind fun x13 => (bif decide (s12 < (↑(rowsS x13.Names).length : Int)) then ((idxO a0 s3).bind fun x16 => ((idxO x16.Names s12).bind fun x18 => (bif decide ((↑x18.length : Int) > 100) then (some false) else (F14_L2 a0 s2 s3 x5 x8 s11 (IntKind.i64.wrap (s12 + 1)))))) else (F14_L1 a0 s11 (IntKind.i64.wrap (s3 + 1)))))
def B14_L1 (F14_L2 : T14_L2) (a0 : (List TDatum)) (s2 : Bool) (s3 : Int) : Option (Bool) := (bif decide (s3 < (↑(TDatum.rows a0).length : Int)) then ((idxO a0 s3).bind fun x5 => (bif decide ((↑(rowsS x5.Names).length : Int) > 20) then (some false) else ((idxO a0 s3).bind fun x8 => (bif decide ((↑x8.3.length : Int) > 100) then (some false) else (F14_L2 a0 s2 s3 x5 x8 s2 0))))) else (some true))
def B14 (F14_L1 : T14_L1) (a0 : (List TDatum)) : Option (Bool) := (bif decide ((↑(TDatum.rows a0).length : Int) > 12) then (some false) else (F14_L1 a0 false 0))
def Q14_L2 (f : T14_L2 × T14_L1) : T14_L2 × T14_L1 := (B14_L2 f.2 f.1, B14_L1 f.1)
def G14_L2 : Nat → T14_L2 × T14_L1
  | 0 => (fun _ _ _ _ _ _ _ => none, fun _ _ _ => none)
  | n + 1 => Q14_L2 (G14_L2 n)
abbrev F14_L2 (n : Nat) : T14_L2 := (G14_L2 n).1
abbrev F14_L1 (n : Nat) : T14_L1 := (G14_L2 n).2
theorem F14_L2_s (n a0 s2 s3 x5 x8 s11 s12) : F14_L2 (n + 1) a0 s2 s3 x5 x8 s11 s12 = B14_L2 (F14_L1 n) (F14_L2 n) a0 s2 s3 x5 x8 s11 s12 := rfl
theorem F14_L1_s (n a0 s2 s3) : F14_L1 (n + 1) a0 s2 s3 = B14_L1 (F14_L2 n) a0 s2 s3 := rfl
def F14 (n : Nat) : T14 := B14 (F14_L1 n)
def C14 (n : Nat) : Prop := ∀ a0 r, F14 n a0 = some r → Pure env.toCx 14 [(.sl 4 (TDatum.rows a0))] (.ret (.v (.bool r)))
set_option maxRecDepth 100000 in
theorem F14_ok {n : Nat} : C14 n := by
  intro a0 r hr
  rw [F14, B14] at hr
  refine yw Tryz.func14 Tryz.ntmps14 ?_
  refine zs hr ?_ ?_ <;> (clear hr; intro h1 hr)
  cases hr; exact zl
  refine yk <| yL (S := Bool × Int) (G := fun m s => F14_L1 m a0 s.1 s.2) (s0 := (false, 0)) 0 [0] [2, 3] (fun s => [(2, .d (.v (.bool s.1))), (3, .d (.v (.int .i64 s.2)))]) (fun s => []) hr ?_; clear hr; rintro n ⟨s2, s3⟩ hle hr; replace hr : F14_L1 (n + 1) a0 s2 s3 = some r := hr; rw [F14_L1_s, B14_L1] at hr; refine yz ?_
  refine zs hr ?_ ?_ <;> (clear hr; intro h4 hr)
  obtain ⟨x5, ex5, j6h, hr⟩ := bindI hr
  refine yv (yI j6h (TDatum.rows_get ex5)) ?_
  refine zs hr ?_ ?_ <;> (clear hr; intro h7 hr)
  cases hr; exact zl
  obtain ⟨x8, ex8, j9h, hr⟩ := bindI hr
  refine yv (yI j9h (TDatum.rows_get ex8)) ?_
  refine zs hr ?_ ?_ <;> (clear hr; intro h10 hr)
  cases hr; exact zl
  refine yk <| yL (S := Bool × Int) (G := fun m s => F14_L2 m a0 s2 s3 x5 x8 s.1 s.2) (s0 := (s2, 0)) 0 [0, 3] [2, 4] (fun s => [(2, .d (.v (.bool s.1))), (4, .d (.v (.int .i64 s.2)))]) (fun s => []) hr ?_; clear hr; rintro n ⟨s11, s12⟩ hle hr; replace hr : F14_L2 (n + 1) a0 s2 s3 x5 x8 s11 s12 = some r := hr; rw [F14_L2_s, B14_L2] at hr; refine yz ?_
  obtain ⟨x13, ex13, j14h, hr⟩ := bindI hr
  refine yv (yI j14h (TDatum.rows_get ex13)) ?_
  refine zs hr ?_ ?_ <;> (clear hr; intro h15 hr)
  obtain ⟨x16, ex16, j17h, hr⟩ := bindI hr
  refine yv (yI j17h (TDatum.rows_get ex16)) ?_
  obtain ⟨x18, ex18, j19h, hr⟩ := bindI hr
  refine yv (yI j19h (rowsS_get ex18)) ?_
  refine zs hr ?_ ?_ <;> (clear hr; intro h20 hr)
  cases hr; exact zl
  iterate 2 (exact yk (yN (_, _) n ⟨by omega, hr⟩))
  cases hr; exact zl
def P14_L2 : T14_L2 := PF.lm F14_L2
def P14_L1 : T14_L1 := PF.lm F14_L1
theorem B14_L2_r {f0 p0 f1 p1} (h0 : PF.R (α := T14_L1) f0 p0) (h1 : PF.R (α := T14_L2) f1 p1) : PF.R (fun n => B14_L2 (f0 n) (f1 n)) (B14_L2 p0 p1) := by (repeat refine PF.fn fun _ => ?_); unfold B14_L2; exact zR
theorem B14_L1_r {f0 p0} (h0 : PF.R (α := T14_L2) f0 p0) : PF.R (fun n => B14_L1 (f0 n)) (B14_L1 p0) := by (repeat refine PF.fn fun _ => ?_); unfold B14_L1; exact zR
theorem X14_L2 : PF.Fix G14_L2 (Q14_L2) := PF.fix (Φ := fun n => Q14_L2) (fun f p h => PF.pair (B14_L2_r (PF.snd h) (PF.fst h)) (B14_L1_r (PF.fst h))) rfl fun _ => rfl
theorem P14_L2_eq (a0 s2 s3 x5 x8 s11 s12) : P14_L2 a0 s2 s3 x5 x8 s11 s12 = B14_L2 P14_L1 P14_L2 a0 s2 s3 x5 x8 s11 s12 := congrArg (fun f => f.1 a0 s2 s3 x5 x8 s11 s12) X14_L2.2
theorem P14_L1_lm : PF.R F14_L1 P14_L1 := (PF.snd X14_L2.1)
theorem P14_L1_eq (a0 s2 s3) : P14_L1 a0 s2 s3 = B14_L1 P14_L2 a0 s2 s3 := congrArg (fun f => f.2 a0 s2 s3) X14_L2.2
def P14 : T14 := B14 P14_L1
theorem B14_r {f0 p0} (h0 : PF.R (α := T14_L1) f0 p0) : PF.R (fun n => B14 (f0 n)) (B14 p0) := by (repeat refine PF.fn fun _ => ?_); unfold B14; exact zR
theorem P14_lm : PF.R F14 P14 := B14_r P14_L1_lm
theorem P14_eq (a0) : P14 a0 = B14 P14_L1 a0 := rfl
/- slices.Index[[]string,string] -/
abbrev T137_L1 : Type := (List (List UInt8)) → (List UInt8) → Int → Option (Int)
abbrev T137 : Type := (List (List UInt8)) → (List UInt8) → Option (Int)
def B137_L1 (F137_L1 : T137_L1) (a0 : (List (List UInt8))) (a1 : (List UInt8)) (s1 : Int) : Option (Int) := (bif decide (s1 < (↑(rowsS a0).length : Int)) then ((idxO a0 s1).bind fun x3 => (bif a1 == x3 then (some s1) else (F137_L1 a0 a1 (IntKind.i64.wrap (s1 + 1))))) else (some (-1)))
def B137 (F137_L1 : T137_L1) (a0 : (List (List UInt8))) (a1 : (List UInt8)) : Option (Int) := (F137_L1 a0 a1 0)
def Q137_L1 (f : T137_L1) : T137_L1 := B137_L1 f
def G137_L1 : Nat → T137_L1
  | 0 => fun _ _ _ => none
  | n + 1 => Q137_L1 (G137_L1 n)
abbrev F137_L1 (n : Nat) : T137_L1 := (G137_L1 n)
theorem F137_L1_s (n a0 a1 s1) : F137_L1 (n + 1) a0 a1 s1 = B137_L1 (F137_L1 n) a0 a1 s1 := rfl
def F137 (n : Nat) : T137 := B137 (F137_L1 n)
def C137 (n : Nat) : Prop := ∀ a0 a1 r, F137 n a0 a1 = some r → Pure env.toCx 137 [(.sl 1 (rowsS a0)), (.v (.string ⟨⟨a1⟩⟩))] (.ret (.v (.int .i64 r)))
set_option maxRecDepth 100000 in
theorem F137_ok {n : Nat} : C137 n := by
  intro a0 a1 r hr
  rw [F137, B137] at hr
  refine yw Tryz.func137 Tryz.ntmps137 ?_
  refine yk <| yL (S := Int) (G := fun m s => F137_L1 m a0 a1 s) (s0 := 0) 0 [0, 1, 4, 7] [8] (fun s => [(8, .d (.v (.int .i64 s)))]) (fun s => []) hr ?_; clear hr; rintro n s1 hle hr; replace hr : F137_L1 (n + 1) a0 a1 s1 = some r := hr; rw [F137_L1_s, B137_L1] at hr; refine yz ?_
  refine zs hr ?_ ?_ <;> (clear hr; intro h2 hr)
  obtain ⟨x3, ex3, j4h, hr⟩ := bindI hr
  refine yv (yI j4h (rowsS_get ex3)) ?_
  refine zs hr ?_ ?_ <;> (clear hr; intro h5 hr)
  cases hr; exact zl
  exact yk (yN _ n ⟨by omega, hr⟩)
  cases hr; exact zl
def P137_L1 : T137_L1 := PF.lm F137_L1
theorem B137_L1_r {f0 p0} (h0 : PF.R (α := T137_L1) f0 p0) : PF.R (fun n => B137_L1 (f0 n)) (B137_L1 p0) := by (repeat refine PF.fn fun _ => ?_); unfold B137_L1; exact zR
theorem X137_L1 : PF.Fix G137_L1 (Q137_L1) := PF.fix (Φ := fun n => Q137_L1) (fun f p h => B137_L1_r h) rfl fun _ => rfl
theorem P137_L1_lm : PF.R F137_L1 P137_L1 := X137_L1.1
theorem P137_L1_eq (a0 a1 s1) : P137_L1 a0 a1 s1 = B137_L1 P137_L1 a0 a1 s1 := congrArg (fun f => f a0 a1 s1) X137_L1.2
def P137 : T137 := B137 P137_L1
theorem B137_r {f0 p0} (h0 : PF.R (α := T137_L1) f0 p0) : PF.R (fun n => B137 (f0 n)) (B137 p0) := by (repeat refine PF.fn fun _ => ?_); unfold B137; exact zR
theorem P137_lm : PF.R F137 P137 := B137_r P137_L1_lm
theorem P137_eq (a0 a1) : P137 a0 a1 = B137 P137_L1 a0 a1 := rfl
/- slices.Contains[[]string,string] -/
abbrev T116 : Type := (List (List UInt8)) → (List UInt8) → Option (Bool)
def B116 (F137 : T137) (a0 : (List (List UInt8))) (a1 : (List UInt8)) : Option (Bool) := ((F137 a0 a1).bind fun y1 => (some (decide (y1 ≥ 0))))
def F116 (n : Nat) : T116 := B116 (F137 n)
def C116 (n : Nat) : Prop := ∀ a0 a1 r, F116 n a0 a1 = some r → Pure env.toCx 116 [(.sl 1 (rowsS a0)), (.v (.string ⟨⟨a1⟩⟩))] (.ret (.v (.bool r)))
set_option maxRecDepth 100000 in
theorem F116_ok {n : Nat} : C116 n := by
  intro a0 a1 r hr
  rw [F116, B116] at hr
  refine yw Tryz.func116 Tryz.ntmps116 ?_
  refine yc hr (fun _ => F137_ok _ _ _) fun y1 hr => ?_
  cases hr; exact zl
def P116 : T116 := B116 P137
theorem B116_r {f0 p0} (h0 : PF.R (α := T137) f0 p0) : PF.R (fun n => B116 (f0 n)) (B116 p0) := by (repeat refine PF.fn fun _ => ?_); unfold B116; exact zR
theorem P116_lm : PF.R F116 P116 := B116_r P137_lm
theorem P116_eq (a0 a1) : P116 a0 a1 = B116 P137 a0 a1 := rfl
/- plexus.names.Has -/
abbrev T80 : Type := (List (List UInt8)) → (List UInt8) → Option (Bool)
def B80 (F116 : T116) (a0 : (List (List UInt8))) (a1 : (List UInt8)) : Option (Bool) := ((F116 a0 a1).bind fun y1 => (some y1))
def F80 (n : Nat) : T80 := B80 (F116 n)
def C80 (n : Nat) : Prop := ∀ a0 a1 r, F80 n a0 a1 = some r → Pure env.toCx 80 [(.sl 1 (rowsS a0)), (.v (.string ⟨⟨a1⟩⟩))] (.ret (.v (.bool r)))
set_option maxRecDepth 100000 in
theorem F80_ok {n : Nat} : C80 n := by
  intro a0 a1 r hr
  rw [F80, B80] at hr
  refine yw Tryz.func80 Tryz.ntmps80 ?_
  refine yc hr (fun _ => F116_ok _ _ _) fun y1 hr => ?_
  cases hr; exact zl
def P80 : T80 := B80 P116
theorem B80_r {f0 p0} (h0 : PF.R (α := T116) f0 p0) : PF.R (fun n => B80 (f0 n)) (B80 p0) := by (repeat refine PF.fn fun _ => ?_); unfold B80; exact zR
theorem P80_lm : PF.R F80 P80 := B80_r P116_lm
theorem P80_eq (a0 a1) : P80 a0 a1 = B80 P116 a0 a1 := rfl
/- plexus.names.Subset -/
abbrev T41_L1 : Type := (List (List UInt8)) → (List (List UInt8)) → Int → Option (Bool)
abbrev T41 : Type := (List (List UInt8)) → (List (List UInt8)) → Option (Bool)
def B41_L1 (F41_L1 : T41_L1) (F80 : T80) (a0 : (List (List UInt8))) (a1 : (List (List UInt8))) (s1 : Int) : Option (Bool) := (bif decide (s1 < (↑(rowsS a0).length : Int)) then ((idxO a0 s1).bind fun x3 => ((F80 a1 x3).bind fun y5 => (bif !y5 then (some false) else (F41_L1 a0 a1 (IntKind.i64.wrap (s1 + 1)))))) else (some true))
def B41 (F41_L1 : T41_L1) (a0 : (List (List UInt8))) (a1 : (List (List UInt8))) : Option (Bool) := (F41_L1 a0 a1 0)
def Q41_L1 (F80 : T80) (f : T41_L1) : T41_L1 := B41_L1 f F80
def G41_L1 : Nat → T41_L1
  | 0 => fun _ _ _ => none
  | n + 1 => Q41_L1 (F80 n) (G41_L1 n)
abbrev F41_L1 (n : Nat) : T41_L1 := (G41_L1 n)
theorem F41_L1_s (n a0 a1 s1) : F41_L1 (n + 1) a0 a1 s1 = B41_L1 (F41_L1 n) (F80 n) a0 a1 s1 := rfl
def F41 (n : Nat) : T41 := B41 (F41_L1 n)
def C41 (n : Nat) : Prop := ∀ a0 a1 r, F41 n a0 a1 = some r → Pure env.toCx 41 [(.sl 1 (rowsS a0)), (.sl 1 (rowsS a1))] (.ret (.v (.bool r)))
set_option maxRecDepth 100000 in
theorem F41_ok {n : Nat} : C41 n := by
  intro a0 a1 r hr
  rw [F41, B41] at hr
  refine yw Tryz.func41 Tryz.ntmps41 ?_
  refine yk <| yL (S := Int) (G := fun m s => F41_L1 m a0 a1 s) (s0 := 0) 0 [1, 4, 7, 8] [9] (fun s => [(9, .d (.v (.int .i64 s)))]) (fun s => []) hr ?_; clear hr; rintro n s1 hle hr; replace hr : F41_L1 (n + 1) a0 a1 s1 = some r := hr; rw [F41_L1_s, B41_L1] at hr; refine yz ?_
  refine zs hr ?_ ?_ <;> (clear hr; intro h2 hr)
  obtain ⟨x3, ex3, j4h, hr⟩ := bindI hr
  refine yv (yI j4h (rowsS_get ex3)) ?_
  refine yc hr (fun _ => F80_ok _ _ _) fun y5 hr => ?_
  refine zs hr ?_ ?_ <;> (clear hr; intro h6 hr)
  cases hr; exact zl
  exact yk (yN _ n ⟨by omega, hr⟩)
  cases hr; exact zl
def P41_L1 : T41_L1 := PF.lm F41_L1
theorem B41_L1_r {f0 p0 f1 p1} (h0 : PF.R (α := T41_L1) f0 p0) (h1 : PF.R (α := T80) f1 p1) : PF.R (fun n => B41_L1 (f0 n) (f1 n)) (B41_L1 p0 p1) := by (repeat refine PF.fn fun _ => ?_); unfold B41_L1; exact zR
theorem X41_L1 : PF.Fix G41_L1 (Q41_L1 P80) := PF.fix (Φ := fun n => Q41_L1 (F80 n)) (fun f p h => B41_L1_r h P80_lm) rfl fun _ => rfl
theorem P41_L1_lm : PF.R F41_L1 P41_L1 := X41_L1.1
theorem P41_L1_eq (a0 a1 s1) : P41_L1 a0 a1 s1 = B41_L1 P41_L1 P80 a0 a1 s1 := congrArg (fun f => f a0 a1 s1) X41_L1.2
def P41 : T41 := B41 P41_L1
theorem B41_r {f0 p0} (h0 : PF.R (α := T41_L1) f0 p0) : PF.R (fun n => B41 (f0 n)) (B41 p0) := by (repeat refine PF.fn fun _ => ?_); unfold B41; exact zR
theorem P41_lm : PF.R F41 P41 := B41_r P41_L1_lm
theorem P41_eq (a0 a1) : P41 a0 a1 = B41 P41_L1 a0 a1 := rfl
/- plexus.decide.Below -/
abbrev T16 : Type := TDatum → TDatum → Option (Bool)
def B16 (F41 : T41) (a0 : TDatum) (a1 : TDatum) : Option (Bool) := (bif a0.Sort_ != a1.Sort_ then (some false) else (bif a0.Sort_ == 1 then (some (decide (a0.N ≤ a1.N))) else (bif a0.Sort_ == 2 then (some (decide (a0.N ≤ a1.N))) else (bif a0.Sort_ == 3 then (some (a0.Name == a1.Name)) else (bif a0.Sort_ == 4 then ((F41 a0.Names a1.Names).bind fun y6 => (some y6)) else (some false))))))
def F16 (n : Nat) : T16 := B16 (F41 n)
def C16 (n : Nat) : Prop := ∀ a0 a1 r, F16 n a0 a1 = some r → Pure env.toCx 16 [(.agg (TDatum.cs a0)), (.agg (TDatum.cs a1))] (.ret (.v (.bool r)))
set_option maxRecDepth 100000 in
theorem F16_ok {n : Nat} : C16 n := by
  intro a0 a1 r hr
  rw [F16, B16] at hr
  refine yw Tryz.func16 Tryz.ntmps16 ?_
  refine zs hr ?_ ?_ <;> (clear hr; intro h1 hr)
  cases hr; exact zl
  refine zs hr ?_ ?_ <;> (clear hr; intro h2 hr)
  cases hr; exact zl
  refine zs hr ?_ ?_ <;> (clear hr; intro h3 hr)
  cases hr; exact zl
  refine zs hr ?_ ?_ <;> (clear hr; intro h4 hr)
  cases hr; exact zl
  refine zs hr ?_ ?_ <;> (clear hr; intro h5 hr)
  refine yc hr (fun _ => F41_ok _ _ _) fun y6 hr => ?_
  cases hr; exact zl
  cases hr; exact zl
def P16 : T16 := B16 P41
theorem B16_r {f0 p0} (h0 : PF.R (α := T41) f0 p0) : PF.R (fun n => B16 (f0 n)) (B16 p0) := by (repeat refine PF.fn fun _ => ?_); unfold B16; exact zR
theorem P16_lm : PF.R F16 P16 := B16_r P41_lm
theorem P16_eq (a0 a1) : P16 a0 a1 = B16 P41 a0 a1 := rfl
/- plexus.plexusref02.Has -/
abbrev T43_L1 : Type := (List (List UInt8)) → (List UInt8) → Int → Option (Bool)
abbrev T43 : Type := (List (List UInt8)) → (List UInt8) → Option (Bool)
def B43_L1 (F43_L1 : T43_L1) (a0 : (List (List UInt8))) (a1 : (List UInt8)) (s1 : Int) : Option (Bool) := (bif decide (s1 < (↑(rowsS a0).length : Int)) then ((idxO a0 s1).bind fun x3 => (bif x3 == a1 then (some true) else (F43_L1 a0 a1 (IntKind.i64.wrap (s1 + 1))))) else (some false))
def B43 (F43_L1 : T43_L1) (a0 : (List (List UInt8))) (a1 : (List UInt8)) : Option (Bool) := (F43_L1 a0 a1 0)
def Q43_L1 (f : T43_L1) : T43_L1 := B43_L1 f
def G43_L1 : Nat → T43_L1
  | 0 => fun _ _ _ => none
  | n + 1 => Q43_L1 (G43_L1 n)
abbrev F43_L1 (n : Nat) : T43_L1 := (G43_L1 n)
theorem F43_L1_s (n a0 a1 s1) : F43_L1 (n + 1) a0 a1 s1 = B43_L1 (F43_L1 n) a0 a1 s1 := rfl
def F43 (n : Nat) : T43 := B43 (F43_L1 n)
def C43 (n : Nat) : Prop := ∀ a0 a1 r, F43 n a0 a1 = some r → Pure env.toCx 43 [(.sl 1 (rowsS a0)), (.v (.string ⟨⟨a1⟩⟩))] (.ret (.v (.bool r)))
set_option maxRecDepth 100000 in
theorem F43_ok {n : Nat} : C43 n := by
  intro a0 a1 r hr
  rw [F43, B43] at hr
  refine yw Tryz.func43 Tryz.ntmps43 ?_
  refine yk <| yL (S := Int) (G := fun m s => F43_L1 m a0 a1 s) (s0 := 0) 0 [0, 1, 4] [5] (fun s => [(5, .d (.v (.int .i64 s)))]) (fun s => []) hr ?_; clear hr; rintro n s1 hle hr; replace hr : F43_L1 (n + 1) a0 a1 s1 = some r := hr; rw [F43_L1_s, B43_L1] at hr; refine yz ?_
  refine zs hr ?_ ?_ <;> (clear hr; intro h2 hr)
  obtain ⟨x3, ex3, j4h, hr⟩ := bindI hr
  refine yv (yI j4h (rowsS_get ex3)) ?_
  refine zs hr ?_ ?_ <;> (clear hr; intro h5 hr)
  cases hr; exact zl
  exact yk (yN _ n ⟨by omega, hr⟩)
  cases hr; exact zl
def P43_L1 : T43_L1 := PF.lm F43_L1
theorem B43_L1_r {f0 p0} (h0 : PF.R (α := T43_L1) f0 p0) : PF.R (fun n => B43_L1 (f0 n)) (B43_L1 p0) := by (repeat refine PF.fn fun _ => ?_); unfold B43_L1; exact zR
theorem X43_L1 : PF.Fix G43_L1 (Q43_L1) := PF.fix (Φ := fun n => Q43_L1) (fun f p h => B43_L1_r h) rfl fun _ => rfl
theorem P43_L1_lm : PF.R F43_L1 P43_L1 := X43_L1.1
theorem P43_L1_eq (a0 a1 s1) : P43_L1 a0 a1 s1 = B43_L1 P43_L1 a0 a1 s1 := congrArg (fun f => f a0 a1 s1) X43_L1.2
def P43 : T43 := B43 P43_L1
theorem B43_r {f0 p0} (h0 : PF.R (α := T43_L1) f0 p0) : PF.R (fun n => B43 (f0 n)) (B43 p0) := by (repeat refine PF.fn fun _ => ?_); unfold B43; exact zR
theorem P43_lm : PF.R F43 P43 := B43_r P43_L1_lm
theorem P43_eq (a0 a1) : P43 a0 a1 = B43 P43_L1 a0 a1 := rfl
/- plexus.plexusref02.Of -/
abbrev T19_L2 : Type := (List (List UInt8)) → (List (List UInt8)) → Int → (List UInt8) → Bool → (List UInt8) → (List (List UInt8)) → Int → Option ((List (List UInt8)))
abbrev T19_L1 : Type := (List (List UInt8)) → (List (List UInt8)) → Int → Option ((List (List UInt8)))
abbrev T19 : Type := (List (List UInt8)) → Option ((List (List UInt8)))
def B19_L2 (F19_L1 : T19_L1) (F19_L2 : T19_L2) (a0 : (List (List UInt8))) (s1 : (List (List UInt8))) (s2 : Int) (x4 : (List UInt8)) (y6 : Bool) (x8 : (List UInt8)) (s11 : (List (List UInt8))) (s12 : Int) : Option ((List (List UInt8))) := (bif decide (s12 > 0) then ((idxO s11 (IntKind.i64.wrap (s12 - 1))).bind fun x14 => ((idxO s11 s12).bind fun x16 => (bif !(Op.bytesLess x14 x16 || x14 == x16) then ((idxO s11 s12).bind fun x19 => ((idxO s11 (IntKind.i64.wrap (s12 - 1))).bind fun x21 => ((idxO s11 (IntKind.i64.wrap (s12 - 1))).bind fun x23 => ((idxO (s11.set (IntKind.i64.wrap (s12 - 1)).toNat x19) s12).bind fun x25 => (F19_L2 a0 s1 s2 x4 y6 x8 ((s11.set (IntKind.i64.wrap (s12 - 1)).toNat x19).set s12.toNat x21) (IntKind.i64.wrap (s12 - 1))))))) else (F19_L1 a0 s11 (IntKind.i64.wrap (s2 + 1)))))) else (F19_L1 a0 s11 (IntKind.i64.wrap (s2 + 1))))
def B19_L1 (F19_L1 : T19_L1) (F19_L2 : T19_L2) (F43 : T43) (a0 : (List (List UInt8))) (s1 : (List (List UInt8))) (s2 : Int) : Option ((List (List UInt8))) := (bif decide (s2 < (↑(rowsS a0).length : Int)) then ((idxO a0 s2).bind fun x4 => ((F43 s1 x4).bind fun y6 => (bif y6 then (F19_L1 a0 s1 (IntKind.i64.wrap (s2 + 1))) else ((idxO a0 s2).bind fun x8 => (bif decide (((s1 : List (List UInt8)) ++ ([x8] : List (List UInt8))).length ≤ 274877906944) then (F19_L2 a0 s1 s2 x4 y6 x8 (s1 ++ [x8]) (IntKind.i64.wrap ((↑(rowsS s1 ++ [List.take 1 (AV.v (Value.string { data := { toList := x8 : Array UInt8 } : ByteArray }) :: (List.map AV.v []).append [])]).length : Int) - 1))) else none))))) else (some s1))
def B19 (F19_L1 : T19_L1) (a0 : (List (List UInt8))) : Option ((List (List UInt8))) := (F19_L1 a0 ([]) 0)
def Q19_L2 (F43 : T43) (f : T19_L2 × T19_L1) : T19_L2 × T19_L1 := (B19_L2 f.2 f.1, B19_L1 f.2 f.1 F43)
def G19_L2 : Nat → T19_L2 × T19_L1
  | 0 => (fun _ _ _ _ _ _ _ _ => none, fun _ _ _ => none)
  | n + 1 => Q19_L2 (F43 n) (G19_L2 n)
abbrev F19_L2 (n : Nat) : T19_L2 := (G19_L2 n).1
abbrev F19_L1 (n : Nat) : T19_L1 := (G19_L2 n).2
theorem F19_L2_s (n a0 s1 s2 x4 y6 x8 s11 s12) : F19_L2 (n + 1) a0 s1 s2 x4 y6 x8 s11 s12 = B19_L2 (F19_L1 n) (F19_L2 n) a0 s1 s2 x4 y6 x8 s11 s12 := rfl
theorem F19_L1_s (n a0 s1 s2) : F19_L1 (n + 1) a0 s1 s2 = B19_L1 (F19_L1 n) (F19_L2 n) (F43 n) a0 s1 s2 := rfl
def F19 (n : Nat) : T19 := B19 (F19_L1 n)
def C19 (n : Nat) : Prop := ∀ a0 r, F19 n a0 = some r → Pure env.toCx 19 [(.sl 1 (rowsS a0))] (.ret (.sl 1 (rowsS r)))
set_option maxRecDepth 100000 in
theorem F19_ok {n : Nat} : C19 n := by
  intro a0 r hr
  rw [F19, B19] at hr
  refine yw Tryz.func19 Tryz.ntmps19 ?_
  refine yk <| yL (S := (List (List UInt8)) × Int) (G := fun m s => F19_L1 m a0 s.1 s.2) (s0 := ([], 0)) 1 [0, 2] [3, 4] (fun s => [(3, .os 0 (rowsS s.1).length), (4, .d (.v (.int .i64 s.2)))]) (fun s => [(0, .row 9 1 (rowsS s.1))]) hr ?_; clear hr; rintro n ⟨s1, s2⟩ hle hr; replace hr : F19_L1 (n + 1) a0 s1 s2 = some r := hr; rw [F19_L1_s, B19_L1] at hr; refine yz ?_
  refine zs hr ?_ ?_ <;> (clear hr; intro h3 hr)
  obtain ⟨x4, ex4, j5h, hr⟩ := bindI hr
  refine yv (yI j5h (rowsS_get ex4)) ?_
  refine yc hr (fun _ => F43_ok _ _ _) fun y6 hr => ?_
  refine zs hr ?_ ?_ <;> (clear hr; intro h7 hr)
  exact yk (yN (_, _) n ⟨by omega, hr⟩)
  obtain ⟨x8, ex8, j9h, hr⟩ := bindI hr
  refine yv (yI j9h (rowsS_get ex8)) ?_
  obtain ⟨h10, hr⟩ := guardO hr
  refine yk <| DO.appRow rfl rfl zg rfl rfl zg rfl rfl rfl rfl rfl rfl (zo h10) (yz ?_)
  refine yk <| yL (S := (List (List UInt8)) × Int) (G := fun m s => F19_L2 m a0 s1 s2 x4 y6 x8 s.1 s.2) (s0 := (s1 ++ [x8], IntKind.i64.wrap ((↑(rowsS s1 ++ [List.take 1 (AV.v (Value.string { data := { toList := x8 : Array UInt8 } : ByteArray }) :: (List.map AV.v []).append [])]).length : Int) - 1))) 2 [0, 2, 4] [3, 5] (fun s => [(3, .os 0 (rowsS s.1).length), (5, .d (.v (.int .i64 s.2)))]) (fun s => [(0, .row 9 1 (rowsS s.1))]) hr ?_; clear hr; rintro n ⟨s11, s12⟩ hle hr; replace hr : F19_L2 (n + 1) a0 s1 s2 x4 y6 x8 s11 s12 = some r := hr; rw [F19_L2_s, B19_L2] at hr; refine yz ?_
  refine yo [0, 1, 2, 3, 4, 5, 6, 7, 8, 9, 10, 11, 12, 13] [] [] ?_
  refine zs hr ?_ ?_ <;> (clear hr; intro h13 hr)
  obtain ⟨x14, ex14, j15h, hr⟩ := bindI hr
  refine yl (yr j15h ex14) ?_
  refine yl (ym ((IntKind.i64.wrap (s12 - 1)).toNat) 0 (rowsS_get ex14)) ?_
  obtain ⟨x16, ex16, j17h, hr⟩ := bindI hr
  refine yl (yr j17h ex16) ?_
  refine yl (ym s12.toNat 0 (rowsS_get ex16)) ?_
  refine zs hr ?_ ?_ <;> (clear hr; intro h18 hr)
  refine yo [] [(0, .fl), (1, .fl), (2, .fl), (3, .fl), (4, .fl), (5, .fl), (6, .fl), (7, .fl), (8, .fl), (9, .fl), (10, .fl), (11, .fl), (12, .fl), (13, .fl), (14, .fl), (15, .one), (16, .fl), (17, .one)] [] ?_
  obtain ⟨x19, ex19, j20h, hr⟩ := bindI hr
  refine yU zp (yr j20h ex19) ?_
  refine yU (zp1 j20h ex19) (ym s12.toNat 0 (rowsS_get ex19)) ?_
  iterate 3 (refine yt (by repeat (first | exact PendD.nil | refine PendD.cons rfl (DOpP.vop (cl := false) rfl eqs_nil) ?_ | refine PendD.skip rfl ?_ | refine PendD.cons rfl (yr j20h ex19) ?_ | refine PendD.cons rfl (ym s12.toNat 0 (rowsS_get ex19)) ?_ | refine PendD.cons rfl (vopL_ok (cl := false) rfl eqs_nil) ?_)) ?_)
  obtain ⟨x21, ex21, j22h, hr⟩ := bindI hr
  refine yU (by repeat (first | exact PendD.nil | refine PendD.cons rfl (DOpP.vop (cl := false) rfl eqs_nil) ?_ | refine PendD.skip rfl ?_ | refine PendD.cons rfl (yr j20h ex19) ?_ | refine PendD.cons rfl (ym s12.toNat 0 (rowsS_get ex19)) ?_ | refine PendD.cons rfl (vopL_ok (cl := false) rfl eqs_nil) ?_)) (yr j22h ex21) ?_
  refine yU (by repeat (first | exact PendD.nil | refine PendD.cons rfl (DOpP.vop (cl := false) rfl eqs_nil) ?_ | refine PendD.skip rfl ?_ | refine PendD.cons rfl (yr j20h ex19) ?_ | refine PendD.cons rfl (ym s12.toNat 0 (rowsS_get ex19)) ?_ | refine PendD.cons rfl (yr j22h ex21) ?_ | refine PendD.cons rfl (vopL_ok (cl := false) rfl eqs_nil) ?_)) (ym ((IntKind.i64.wrap (s12 - 1)).toNat) 0 (rowsS_get ex21)) ?_
  obtain ⟨x23, ex23, j24h, hr⟩ := bindI hr
  refine yU (by repeat (first | exact PendD.nil | refine PendD.cons rfl (DOpP.vop (cl := false) rfl eqs_nil) ?_ | refine PendD.skip rfl ?_ | refine PendD.cons rfl (yr j20h ex19) ?_ | refine PendD.cons rfl (ym s12.toNat 0 (rowsS_get ex19)) ?_ | refine PendD.cons rfl (yr j22h ex21) ?_ | refine PendD.cons rfl (ym ((IntKind.i64.wrap (s12 - 1)).toNat) 0 (rowsS_get ex21)) ?_ | refine PendD.cons rfl (vopL_ok (cl := false) rfl eqs_nil) ?_)) (yr j24h ex23) ?_
  refine yk <| DWP.tlStoreRow ((IntKind.i64.wrap (s12 - 1)).toNat) 0 (by repeat (first | exact PendD.nil | refine PendD.cons rfl (DOpP.vop (cl := false) rfl eqs_nil) ?_ | refine PendD.skip rfl ?_ | refine PendD.cons rfl (yr j20h ex19) ?_ | refine PendD.cons rfl (ym s12.toNat 0 (rowsS_get ex19)) ?_ | refine PendD.cons rfl (yr j22h ex21) ?_ | refine PendD.cons rfl (ym ((IntKind.i64.wrap (s12 - 1)).toNat) 0 (rowsS_get ex21)) ?_ | refine PendD.cons rfl (yr j24h ex23) ?_ | refine PendD.cons rfl (vopL_ok (cl := false) rfl eqs_nil) ?_)) (by rfl) (by rfl) (by rfl) (by rfl) (by rfl) (by rfl) (by rfl) (by rfl) zg (by rfl) (yg (rowsS_get ex23)) (by rfl) (by rfl) (by rfl) (by rfl) (yz ?_)
  obtain ⟨x25, ex25, j26h, hr⟩ := bindI hr
  refine yU (by repeat (first | exact PendD.nil | refine PendD.cons rfl (DOpP.vop (cl := false) rfl eqs_nil) ?_ | refine PendD.skip rfl ?_ | refine PendD.cons rfl (yr j20h ex19) ?_ | refine PendD.cons rfl (ym s12.toNat 0 (rowsS_get ex19)) ?_ | refine PendD.cons rfl (yr j22h ex21) ?_ | refine PendD.cons rfl (ym ((IntKind.i64.wrap (s12 - 1)).toNat) 0 (rowsS_get ex21)) ?_ | refine PendD.cons rfl (yr j24h ex23) ?_ | refine PendD.cons rfl (vopL_ok (cl := false) rfl eqs_nil) ?_)) (yr j26h ex25) ?_
  refine yk <| DWP.tlStoreRow s12.toNat 0 (by repeat (first | exact PendD.nil | refine PendD.cons rfl (DOpP.vop (cl := false) rfl eqs_nil) ?_ | refine PendD.skip rfl ?_ | refine PendD.cons rfl (yr j20h ex19) ?_ | refine PendD.cons rfl (ym s12.toNat 0 (rowsS_get ex19)) ?_ | refine PendD.cons rfl (yr j22h ex21) ?_ | refine PendD.cons rfl (ym ((IntKind.i64.wrap (s12 - 1)).toNat) 0 (rowsS_get ex21)) ?_ | refine PendD.cons rfl (yr j24h ex23) ?_ | refine PendD.cons rfl (yr j26h ex25) ?_ | refine PendD.cons rfl (vopL_ok (cl := false) rfl eqs_nil) ?_)) (by rfl) (by rfl) (by rfl) (by rfl) (by rfl) (by rfl) (by rfl) (by rfl) zg (by rfl) (yg (rowsS_get ex25)) (by rfl) (by rfl) (by rfl) (by rfl) (yz ?_)
  iterate 3 (exact yk (yN (_, _) n ⟨by omega, hr⟩))
  cases hr; exact zl
def P19_L2 : T19_L2 := PF.lm F19_L2
def P19_L1 : T19_L1 := PF.lm F19_L1
theorem B19_L2_r {f0 p0 f1 p1} (h0 : PF.R (α := T19_L1) f0 p0) (h1 : PF.R (α := T19_L2) f1 p1) : PF.R (fun n => B19_L2 (f0 n) (f1 n)) (B19_L2 p0 p1) := by (repeat refine PF.fn fun _ => ?_); unfold B19_L2; exact zR
theorem B19_L1_r {f0 p0 f1 p1 f2 p2} (h0 : PF.R (α := T19_L1) f0 p0) (h1 : PF.R (α := T19_L2) f1 p1) (h2 : PF.R (α := T43) f2 p2) : PF.R (fun n => B19_L1 (f0 n) (f1 n) (f2 n)) (B19_L1 p0 p1 p2) := by (repeat refine PF.fn fun _ => ?_); unfold B19_L1; exact zR
theorem X19_L2 : PF.Fix G19_L2 (Q19_L2 P43) := PF.fix (Φ := fun n => Q19_L2 (F43 n)) (fun f p h => PF.pair (B19_L2_r (PF.snd h) (PF.fst h)) (B19_L1_r (PF.snd h) (PF.fst h) P43_lm)) rfl fun _ => rfl
theorem P19_L2_eq (a0 s1 s2 x4 y6 x8 s11 s12) : P19_L2 a0 s1 s2 x4 y6 x8 s11 s12 = B19_L2 P19_L1 P19_L2 a0 s1 s2 x4 y6 x8 s11 s12 := congrArg (fun f => f.1 a0 s1 s2 x4 y6 x8 s11 s12) X19_L2.2
theorem P19_L1_lm : PF.R F19_L1 P19_L1 := (PF.snd X19_L2.1)
theorem P19_L1_eq (a0 s1 s2) : P19_L1 a0 s1 s2 = B19_L1 P19_L1 P19_L2 P43 a0 s1 s2 := congrArg (fun f => f.2 a0 s1 s2) X19_L2.2
def P19 : T19 := B19 P19_L1
theorem B19_r {f0 p0} (h0 : PF.R (α := T19_L1) f0 p0) : PF.R (fun n => B19 (f0 n)) (B19 p0) := by (repeat refine PF.fn fun _ => ?_); unfold B19; exact zR
theorem P19_lm : PF.R F19 P19 := B19_r P19_L1_lm
theorem P19_eq (a0) : P19 a0 = B19 P19_L1 a0 := rfl
/- plexus.plexusref02.Minus -/
abbrev T81_L1 : Type := (List (List UInt8)) → (List (List UInt8)) → (List (List UInt8)) → Int → Option ((List (List UInt8)))
abbrev T81 : Type := (List (List UInt8)) → (List (List UInt8)) → Option ((List (List UInt8)))
def B81_L1 (F19 : T19) (F43 : T43) (F81_L1 : T81_L1) (a0 : (List (List UInt8))) (a1 : (List (List UInt8))) (s1 : (List (List UInt8))) (s2 : Int) : Option ((List (List UInt8))) := (bif decide (s2 < (↑(rowsS a0).length : Int)) then ((idxO a0 s2).bind fun x4 => ((F43 a1 x4).bind fun y6 => (bif !y6 then ((idxO a0 s2).bind fun x8 => (bif decide (((s1 : List (List UInt8)) ++ ([x8] : List (List UInt8))).length ≤ 274877906944) then (F81_L1 a0 a1 (s1 ++ [x8]) (IntKind.i64.wrap (s2 + 1))) else none)) else (F81_L1 a0 a1 s1 (IntKind.i64.wrap (s2 + 1)))))) else ((F19 s1).bind fun y12 => (some y12)))
def B81 (F81_L1 : T81_L1) (a0 : (List (List UInt8))) (a1 : (List (List UInt8))) : Option ((List (List UInt8))) := (F81_L1 a0 a1 ([]) 0)
def Q81_L1 (F19 : T19) (F43 : T43) (f : T81_L1) : T81_L1 := B81_L1 F19 F43 f
def G81_L1 : Nat → T81_L1
  | 0 => fun _ _ _ _ => none
  | n + 1 => Q81_L1 (F19 n) (F43 n) (G81_L1 n)
abbrev F81_L1 (n : Nat) : T81_L1 := (G81_L1 n)
theorem F81_L1_s (n a0 a1 s1 s2) : F81_L1 (n + 1) a0 a1 s1 s2 = B81_L1 (F19 n) (F43 n) (F81_L1 n) a0 a1 s1 s2 := rfl
def F81 (n : Nat) : T81 := B81 (F81_L1 n)
def C81 (n : Nat) : Prop := ∀ a0 a1 r, F81 n a0 a1 = some r → Pure env.toCx 81 [(.sl 1 (rowsS a0)), (.sl 1 (rowsS a1))] (.ret (.sl 1 (rowsS r)))
set_option maxRecDepth 100000 in
theorem F81_ok {n : Nat} : C81 n := by
  intro a0 a1 r hr
  rw [F81, B81] at hr
  refine yw Tryz.func81 Tryz.ntmps81 ?_
  refine yk <| yL (S := (List (List UInt8)) × Int) (G := fun m s => F81_L1 m a0 a1 s.1 s.2) (s0 := ([], 0)) 1 [0, 1, 4] [5, 6] (fun s => [(5, .os 0 (rowsS s.1).length), (6, .d (.v (.int .i64 s.2)))]) (fun s => [(0, .row 9 1 (rowsS s.1))]) hr ?_; clear hr; rintro n ⟨s1, s2⟩ hle hr; replace hr : F81_L1 (n + 1) a0 a1 s1 s2 = some r := hr; rw [F81_L1_s, B81_L1] at hr; refine yz ?_
  refine zs hr ?_ ?_ <;> (clear hr; intro h3 hr)
  obtain ⟨x4, ex4, j5h, hr⟩ := bindI hr
  refine yv (yI j5h (rowsS_get ex4)) ?_
  refine yc hr (fun _ => F43_ok _ _ _) fun y6 hr => ?_
  refine zs hr ?_ ?_ <;> (clear hr; intro h7 hr)
  obtain ⟨x8, ex8, j9h, hr⟩ := bindI hr
  refine yv (yI j9h (rowsS_get ex8)) ?_
  obtain ⟨h10, hr⟩ := guardO hr
  refine yk <| DO.appRow rfl rfl zg rfl rfl zg rfl rfl rfl rfl rfl rfl (zo h10) (yz ?_)
  iterate 2 (exact yk (yN (_, _) n ⟨by omega, hr⟩))
  refine yk <| DWP.frz (t := 28) rfl rfl (eqs_cons rfl eqs_nil) (yz ?_)
  refine yc hr (fun _ => F19_ok _ _) fun y12 hr => ?_
  cases hr; exact zl
def P81_L1 : T81_L1 := PF.lm F81_L1
theorem B81_L1_r {f0 p0 f1 p1 f2 p2} (h0 : PF.R (α := T19) f0 p0) (h1 : PF.R (α := T43) f1 p1) (h2 : PF.R (α := T81_L1) f2 p2) : PF.R (fun n => B81_L1 (f0 n) (f1 n) (f2 n)) (B81_L1 p0 p1 p2) := by (repeat refine PF.fn fun _ => ?_); unfold B81_L1; exact zR
theorem X81_L1 : PF.Fix G81_L1 (Q81_L1 P19 P43) := PF.fix (Φ := fun n => Q81_L1 (F19 n) (F43 n)) (fun f p h => B81_L1_r P19_lm P43_lm h) rfl fun _ => rfl
theorem P81_L1_lm : PF.R F81_L1 P81_L1 := X81_L1.1
theorem P81_L1_eq (a0 a1 s1 s2) : P81_L1 a0 a1 s1 s2 = B81_L1 P19 P43 P81_L1 a0 a1 s1 s2 := congrArg (fun f => f a0 a1 s1 s2) X81_L1.2
def P81 : T81 := B81 P81_L1
theorem B81_r {f0 p0} (h0 : PF.R (α := T81_L1) f0 p0) : PF.R (fun n => B81 (f0 n)) (B81 p0) := by (repeat refine PF.fn fun _ => ?_); unfold B81; exact zR
theorem P81_lm : PF.R F81 P81 := B81_r P81_L1_lm
theorem P81_eq (a0 a1) : P81 a0 a1 = B81 P81_L1 a0 a1 := rfl
/- plexus.plexusref02.Subset -/
abbrev T42 : Type := (List (List UInt8)) → (List (List UInt8)) → Option (Bool)
def B42 (F81 : T81) (a0 : (List (List UInt8))) (a1 : (List (List UInt8))) : Option (Bool) := ((F81 a0 a1).bind fun y1 => (some ((↑(rowsS y1).length : Int) == 0)))
def F42 (n : Nat) : T42 := B42 (F81 n)
def C42 (n : Nat) : Prop := ∀ a0 a1 r, F42 n a0 a1 = some r → Pure env.toCx 42 [(.sl 1 (rowsS a0)), (.sl 1 (rowsS a1))] (.ret (.v (.bool r)))
set_option maxRecDepth 100000 in
theorem F42_ok {n : Nat} : C42 n := by
  intro a0 a1 r hr
  rw [F42, B42] at hr
  refine yw Tryz.func42 Tryz.ntmps42 ?_
  refine yc hr (fun _ => F81_ok _ _ _) fun y1 hr => ?_
  cases hr; exact zl
def P42 : T42 := B42 P81
theorem B42_r {f0 p0} (h0 : PF.R (α := T81) f0 p0) : PF.R (fun n => B42 (f0 n)) (B42 p0) := by (repeat refine PF.fn fun _ => ?_); unfold B42; exact zR
theorem P42_lm : PF.R F42 P42 := B42_r P81_lm
theorem P42_eq (a0 a1) : P42 a0 a1 = B42 P81 a0 a1 := rfl
/- plexus.plexusref22.Below -/
abbrev T17 : Type := TDatum → TDatum → Option (Bool)
def B17 (F42 : T42) (a0 : TDatum) (a1 : TDatum) : Option (Bool) := (bif a0.Sort_ != a1.Sort_ then (some false) else (bif a0.Sort_ == 1 then (some (decide (a0.N ≤ a1.N))) else (bif a0.Sort_ == 2 then (some (decide (a0.N ≤ a1.N))) else (bif a0.Sort_ == 3 then (some (a0.Name == a1.Name)) else (bif a0.Sort_ == 4 then ((F42 a0.Names a1.Names).bind fun y6 => (some y6)) else (some false))))))
def F17 (n : Nat) : T17 := B17 (F42 n)
def C17 (n : Nat) : Prop := ∀ a0 a1 r, F17 n a0 a1 = some r → Pure env.toCx 17 [(.agg (TDatum.cs a0)), (.agg (TDatum.cs a1))] (.ret (.v (.bool r)))
set_option maxRecDepth 100000 in
theorem F17_ok {n : Nat} : C17 n := by
  intro a0 a1 r hr
  rw [F17, B17] at hr
  refine yw Tryz.func17 Tryz.ntmps17 ?_
  refine zs hr ?_ ?_ <;> (clear hr; intro h1 hr)
  cases hr; exact zl
  refine zs hr ?_ ?_ <;> (clear hr; intro h2 hr)
  cases hr; exact zl
  refine zs hr ?_ ?_ <;> (clear hr; intro h3 hr)
  cases hr; exact zl
  refine zs hr ?_ ?_ <;> (clear hr; intro h4 hr)
  cases hr; exact zl
  refine zs hr ?_ ?_ <;> (clear hr; intro h5 hr)
  refine yc hr (fun _ => F42_ok _ _ _) fun y6 hr => ?_
  cases hr; exact zl
  cases hr; exact zl
def P17 : T17 := B17 P42
theorem B17_r {f0 p0} (h0 : PF.R (α := T42) f0 p0) : PF.R (fun n => B17 (f0 n)) (B17 p0) := by (repeat refine PF.fn fun _ => ?_); unfold B17; exact zR
theorem P17_lm : PF.R F17 P17 := B17_r P42_lm
theorem P17_eq (a0 a1) : P17 a0 a1 = B17 P42 a0 a1 := rfl
/- plexus.plexusref02.Same -/
abbrev T18_L1 : Type := (List (List UInt8)) → (List (List UInt8)) → Int → Option (Bool)
abbrev T18 : Type := (List (List UInt8)) → (List (List UInt8)) → Option (Bool)
def B18_L1 (F18_L1 : T18_L1) (a0 : (List (List UInt8))) (a1 : (List (List UInt8))) (s2 : Int) : Option (Bool) := (bif decide (s2 < (↑(rowsS a0).length : Int)) then ((idxO a0 s2).bind fun x4 => ((idxO a1 s2).bind fun x6 => (bif !x4 == x6 then (some false) else (F18_L1 a0 a1 (IntKind.i64.wrap (s2 + 1)))))) else (some true))
def B18 (F18_L1 : T18_L1) (a0 : (List (List UInt8))) (a1 : (List (List UInt8))) : Option (Bool) := (bif (↑(rowsS a0).length : Int) != (↑(rowsS a1).length : Int) then (some false) else (F18_L1 a0 a1 0))
def Q18_L1 (f : T18_L1) : T18_L1 := B18_L1 f
def G18_L1 : Nat → T18_L1
  | 0 => fun _ _ _ => none
  | n + 1 => Q18_L1 (G18_L1 n)
abbrev F18_L1 (n : Nat) : T18_L1 := (G18_L1 n)
theorem F18_L1_s (n a0 a1 s2) : F18_L1 (n + 1) a0 a1 s2 = B18_L1 (F18_L1 n) a0 a1 s2 := rfl
def F18 (n : Nat) : T18 := B18 (F18_L1 n)
def C18 (n : Nat) : Prop := ∀ a0 a1 r, F18 n a0 a1 = some r → Pure env.toCx 18 [(.sl 1 (rowsS a0)), (.sl 1 (rowsS a1))] (.ret (.v (.bool r)))
set_option maxRecDepth 100000 in
theorem F18_ok {n : Nat} : C18 n := by
  intro a0 a1 r hr
  rw [F18, B18] at hr
  refine yw Tryz.func18 Tryz.ntmps18 ?_
  refine zs hr ?_ ?_ <;> (clear hr; intro h1 hr)
  cases hr; exact zl
  refine yk <| yL (S := Int) (G := fun m s => F18_L1 m a0 a1 s) (s0 := 0) 0 [0, 1, 4] [5] (fun s => [(5, .d (.v (.int .i64 s)))]) (fun s => []) hr ?_; clear hr; rintro n s2 hle hr; replace hr : F18_L1 (n + 1) a0 a1 s2 = some r := hr; rw [F18_L1_s, B18_L1] at hr; refine yz ?_
  refine zs hr ?_ ?_ <;> (clear hr; intro h3 hr)
  refine yo [0, 1, 2, 3, 4, 5, 6, 7, 8] [] [] ?_
  obtain ⟨x4, ex4, j5h, hr⟩ := bindI hr
  refine yl (yI j5h (rowsS_get ex4)) ?_
  obtain ⟨x6, ex6, j7h, hr⟩ := bindI hr
  refine yl (yI j7h (rowsS_get ex6)) ?_
  refine zs hr ?_ ?_ <;> (clear hr; intro h8 hr)
  cases hr; exact zl
  exact yk (yN _ n ⟨by omega, hr⟩)
  cases hr; exact zl
def P18_L1 : T18_L1 := PF.lm F18_L1
theorem B18_L1_r {f0 p0} (h0 : PF.R (α := T18_L1) f0 p0) : PF.R (fun n => B18_L1 (f0 n)) (B18_L1 p0) := by (repeat refine PF.fn fun _ => ?_); unfold B18_L1; exact zR
theorem X18_L1 : PF.Fix G18_L1 (Q18_L1) := PF.fix (Φ := fun n => Q18_L1) (fun f p h => B18_L1_r h) rfl fun _ => rfl
theorem P18_L1_lm : PF.R F18_L1 P18_L1 := X18_L1.1
theorem P18_L1_eq (a0 a1 s2) : P18_L1 a0 a1 s2 = B18_L1 P18_L1 a0 a1 s2 := congrArg (fun f => f a0 a1 s2) X18_L1.2
def P18 : T18 := B18 P18_L1
theorem B18_r {f0 p0} (h0 : PF.R (α := T18_L1) f0 p0) : PF.R (fun n => B18 (f0 n)) (B18 p0) := by (repeat refine PF.fn fun _ => ?_); unfold B18; exact zR
theorem P18_lm : PF.R F18 P18 := B18_r P18_L1_lm
theorem P18_eq (a0 a1) : P18 a0 a1 = B18 P18_L1 a0 a1 := rfl
/- plexus.plexuslaw22.DecideBelow -/
abbrev T5 : Type := TDatum → TDatum → TDatum → Option (Bool)
def B5 (F14 : T14) (F15 : T15) (F16 : T16) (F17 : T17) (F18 : T18) (F19 : T19) (a0 : TDatum) (a1 : TDatum) (a2 : TDatum) : Option (Bool) := ((F14 ([a0, a1, a2])).bind fun y1 => (bif !y1 then ((F15).bind fun y3 => (some y3)) else ((F16 a0 a1).bind fun y4 => ((F17 a0 a1).bind fun y5 => (bif !y4 == y5 then (some false) else ((F16 a0 a0).bind fun y7 => (bif decide (a0.Sort_ ≥ 1) then (bif !y7 == decide (a0.Sort_ ≤ 4) then (some false) else ((F16 a0 a1).bind fun y10 => (bif y10 then ((F16 a1 a2).bind fun y12 => (bif y12 then ((F16 a0 a2).bind fun y14 => (bif !y14 then (some false) else ((F16 a0 a1).bind fun y16 => (bif !y16 then ((F15).bind fun y18 => (some y18)) else ((F16 a1 a0).bind fun y19 => (bif !y19 then ((F15).bind fun y21 => (some y21)) else ((F15).bind fun y22 => (bif y22 then (bif a0.Sort_ == a1.Sort_ then (bif decide (a0.Sort_ > 2) then (bif a0.Sort_ != 3 then (bif a0.Sort_ != 4 then (some true) else ((F19 a0.Names).bind fun y28 => ((F19 a1.Names).bind fun y29 => ((F18 y28 y29).bind fun y30 => (some y30))))) else (bif a0.Name == a1.Name then (some true) else (some false))) else (bif a0.N == a1.N then (bif a0.Sort_ != 3 then (bif a0.Sort_ != 4 then (some true) else ((F19 a0.Names).bind fun y35 => ((F19 a1.Names).bind fun y36 => ((F18 y35 y36).bind fun y37 => (some y37))))) else (bif a0.Name == a1.Name then (some true) else (some false))) else (some false))) else (some false)) else (some false))))))))) else ((F16 a0 a1).bind fun y39 => (bif !y39 then ((F15).bind fun y41 => (some y41)) else ((F16 a1 a0).bind fun y42 => (bif !y42 then ((F15).bind fun y44 => (some y44)) else ((F15).bind fun y45 => (bif y45 then (bif a0.Sort_ == a1.Sort_ then (bif decide (a0.Sort_ > 2) then (bif a0.Sort_ != 3 then (bif a0.Sort_ != 4 then (some true) else ((F19 a0.Names).bind fun y51 => ((F19 a1.Names).bind fun y52 => ((F18 y51 y52).bind fun y53 => (some y53))))) else (bif a0.Name == a1.Name then (some true) else (some false))) else (bif a0.N == a1.N then (bif a0.Sort_ != 3 then (bif a0.Sort_ != 4 then (some true) else ((F19 a0.Names).bind fun y58 => ((F19 a1.Names).bind fun y59 => ((F18 y58 y59).bind fun y60 => (some y60))))) else (bif a0.Name == a1.Name then (some true) else (some false))) else (some false))) else (some false)) else (some false))))))))) else ((F16 a0 a1).bind fun y62 => (bif !y62 then ((F15).bind fun y64 => (some y64)) else ((F16 a1 a0).bind fun y65 => (bif !y65 then ((F15).bind fun y67 => (some y67)) else ((F15).bind fun y68 => (bif y68 then (bif a0.Sort_ == a1.Sort_ then (bif decide (a0.Sort_ > 2) then (bif a0.Sort_ != 3 then (bif a0.Sort_ != 4 then (some true) else ((F19 a0.Names).bind fun y74 => ((F19 a1.Names).bind fun y75 => ((F18 y74 y75).bind fun y76 => (some y76))))) else (bif a0.Name == a1.Name then (some true) else (some false))) else (bif a0.N == a1.N then (bif a0.Sort_ != 3 then (bif a0.Sort_ != 4 then (some true) else ((F19 a0.Names).bind fun y81 => ((F19 a1.Names).bind fun y82 => ((F18 y81 y82).bind fun y83 => (some y83))))) else (bif a0.Name == a1.Name then (some true) else (some false))) else (some false))) else (some false)) else (some false)))))))))) else (bif !y7 == false then (some false) else ((F16 a0 a1).bind fun y86 => (bif y86 then ((F16 a1 a2).bind fun y88 => (bif y88 then ((F16 a0 a2).bind fun y90 => (bif !y90 then (some false) else ((F16 a0 a1).bind fun y92 => (bif !y92 then ((F15).bind fun y94 => (some y94)) else ((F16 a1 a0).bind fun y95 => (bif !y95 then ((F15).bind fun y97 => (some y97)) else ((F15).bind fun y98 => (bif y98 then (bif a0.Sort_ == a1.Sort_ then (bif decide (a0.Sort_ > 2) then (bif a0.Sort_ != 3 then (bif a0.Sort_ != 4 then (some true) else ((F19 a0.Names).bind fun y104 => ((F19 a1.Names).bind fun y105 => ((F18 y104 y105).bind fun y106 => (some y106))))) else (bif a0.Name == a1.Name then (some true) else (some false))) else (bif a0.N == a1.N then (bif a0.Sort_ != 3 then (bif a0.Sort_ != 4 then (some true) else ((F19 a0.Names).bind fun y111 => ((F19 a1.Names).bind fun y112 => ((F18 y111 y112).bind fun y113 => (some y113))))) else (bif a0.Name == a1.Name then (some true) else (some false))) else (some false))) else (some false)) else (some false))))))))) else ((F16 a0 a1).bind fun y115 => (bif !y115 then ((F15).bind fun y117 => (some y117)) else ((F16 a1 a0).bind fun y118 => (bif !y118 then ((F15).bind fun y120 => (some y120)) else ((F15).bind fun y121 => (bif y121 then (bif a0.Sort_ == a1.Sort_ then (bif decide (a0.Sort_ > 2) then (bif a0.Sort_ != 3 then (bif a0.Sort_ != 4 then (some true) else ((F19 a0.Names).bind fun y127 => ((F19 a1.Names).bind fun y128 => ((F18 y127 y128).bind fun y129 => (some y129))))) else (bif a0.Name == a1.Name then (some true) else (some false))) else (bif a0.N == a1.N then (bif a0.Sort_ != 3 then (bif a0.Sort_ != 4 then (some true) else ((F19 a0.Names).bind fun y134 => ((F19 a1.Names).bind fun y135 => ((F18 y134 y135).bind fun y136 => (some y136))))) else (bif a0.Name == a1.Name then (some true) else (some false))) else (some false))) else (some false)) else (some false))))))))) else ((F16 a0 a1).bind fun y138 => (bif !y138 then ((F15).bind fun y140 => (some y140)) else ((F16 a1 a0).bind fun y141 => (bif !y141 then ((F15).bind fun y143 => (some y143)) else ((F15).bind fun y144 => (bif y144 then (bif a0.Sort_ == a1.Sort_ then (bif decide (a0.Sort_ > 2) then (bif a0.Sort_ != 3 then (bif a0.Sort_ != 4 then (some true) else ((F19 a0.Names).bind fun y150 => ((F19 a1.Names).bind fun y151 => ((F18 y150 y151).bind fun y152 => (some y152))))) else (bif a0.Name == a1.Name then (some true) else (some false))) else (bif a0.N == a1.N then (bif a0.Sort_ != 3 then (bif a0.Sort_ != 4 then (some true) else ((F19 a0.Names).bind fun y157 => ((F19 a1.Names).bind fun y158 => ((F18 y157 y158).bind fun y159 => (some y159))))) else (bif a0.Name == a1.Name then (some true) else (some false))) else (some false))) else (some false)) else (some false)))))))))))))))))
def F5 (n : Nat) : T5 := B5 (F14 n) (F15 n) (F16 n) (F17 n) (F18 n) (F19 n)
def C5 (n : Nat) : Prop := ∀ a0 a1 a2 r, F5 n a0 a1 a2 = some r → Pure env.toCx 5 [(.agg (TDatum.cs a0)), (.agg (TDatum.cs a1)), (.agg (TDatum.cs a2))] (.ret (.v (.bool r)))
set_option maxRecDepth 100000 in
set_option maxHeartbeats 0 in
theorem F5_ok {n : Nat} : C5 n := by
  intro a0 a1 a2 r hr
  rw [F5, B5] at hr
  refine yw Tryz.func5 Tryz.ntmps5 ?_
  refine yc hr (fun _ => F14_ok _ _) fun y1 hr => ?_
  refine zs hr ?_ ?_ <;> (clear hr; intro h2 hr)
  refine yc hr (fun _ => F15_ok _) fun y3 hr => ?_
  cases hr; exact zl
  refine yo [0, 1, 2, 3, 4, 5, 6, 7, 8, 9, 10, 11, 12, 13, 14, 15, 16, 17, 18, 19, 20] [] [] ?_
  obtain ⟨y4, ey4, hr⟩ := bindK hr fun _ => F16_ok _ _ _
  refine yl (yC ey4) ?_
  obtain ⟨y5, ey5, hr⟩ := bindK hr fun _ => F17_ok _ _ _
  refine yl (yC ey5) ?_
  refine yl (DOpS.toP (DOpS.boolNe rfl zk rfl rfl)) ?_
  refine zs hr ?_ ?_ <;> (clear hr; intro h6 hr)
  cases hr; exact zl
  obtain ⟨y7, ey7, hr⟩ := bindK hr fun _ => F16_ok _ _ _
  refine yl (yC ey7) ?_
  refine zs hr ?_ ?_ <;> (clear hr; intro h8 hr)
  refine yl (DOpS.toP (DOpS.boolNe rfl zk rfl rfl)) ?_
  refine zs hr ?_ ?_ <;> (clear hr; intro h9 hr)
  cases hr; exact zl
  refine yc hr (fun _ => F16_ok _ _ _) fun y10 hr => ?_
  refine zs hr ?_ ?_ <;> (clear hr; intro h11 hr)
  refine yc hr (fun _ => F16_ok _ _ _) fun y12 hr => ?_
  refine zs hr ?_ ?_ <;> (clear hr; intro h13 hr)
  refine yc hr (fun _ => F16_ok _ _ _) fun y14 hr => ?_
  refine zs hr ?_ ?_ <;> (clear hr; intro h15 hr)
  cases hr; exact zl
  refine yc hr (fun _ => F16_ok _ _ _) fun y16 hr => ?_
  refine zs hr ?_ ?_ <;> (clear hr; intro h17 hr)
  refine yc hr (fun _ => F15_ok _) fun y18 hr => ?_
  cases hr; exact zl
  refine yc hr (fun _ => F16_ok _ _ _) fun y19 hr => ?_
  refine zs hr ?_ ?_ <;> (clear hr; intro h20 hr)
  refine yc hr (fun _ => F15_ok _) fun y21 hr => ?_
  cases hr; exact zl
  refine yo [0, 1, 2, 3, 4, 5, 6, 7, 8, 9, 10, 11, 12, 13, 14, 15, 16, 17, 18, 19, 20, 21, 22, 23, 24, 25, 26, 27, 28, 29, 30, 31, 32, 33, 34, 35, 36, 37, 38, 39, 40, 41, 42, 43, 44, 45, 46] [] [] ?_
  obtain ⟨y22, ey22, hr⟩ := bindK hr fun _ => F15_ok _
  refine yl (yC ey22) ?_
  refine zs hr ?_ ?_ <;> (clear hr; intro h23 hr)
  refine zs hr ?_ ?_ <;> (clear hr; intro h24 hr)
  refine zs hr ?_ ?_ <;> (clear hr; intro h25 hr)
  refine zs hr ?_ ?_ <;> (clear hr; intro h26 hr)
  refine zs hr ?_ ?_ <;> (clear hr; intro h27 hr)
  cases hr; exact zl
  obtain ⟨y28, ey28, hr⟩ := bindK hr fun _ => F19_ok _ _
  refine yl (yC ey28) ?_
  obtain ⟨y29, ey29, hr⟩ := bindK hr fun _ => F19_ok _ _
  refine yl (yC ey29) ?_
  obtain ⟨y30, ey30, hr⟩ := bindK hr fun _ => F18_ok _ _ _
  refine yl (yC ey30) ?_
  cases hr; exact zl
  refine zs hr ?_ ?_ <;> (clear hr; intro h31 hr)
  refine yT (atomT h26) ?_
  cases hr; exact zl
  cases hr; exact zl
  refine zs hr ?_ ?_ <;> (clear hr; intro h32 hr)
  refine zs hr ?_ ?_ <;> (clear hr; intro h33 hr)
  refine zs hr ?_ ?_ <;> (clear hr; intro h34 hr)
  cases hr; exact zl
  obtain ⟨y35, ey35, hr⟩ := bindK hr fun _ => F19_ok _ _
  refine yl (yC ey35) ?_
  obtain ⟨y36, ey36, hr⟩ := bindK hr fun _ => F19_ok _ _
  refine yl (yC ey36) ?_
  obtain ⟨y37, ey37, hr⟩ := bindK hr fun _ => F18_ok _ _ _
  refine yl (yC ey37) ?_
  cases hr; exact zl
  refine zs hr ?_ ?_ <;> (clear hr; intro h38 hr)
  refine yT (atomT h33) ?_
  cases hr; exact zl
  cases hr; exact zl
  cases hr; exact zl
  cases hr; exact zl
  cases hr; exact zl
  refine yc hr (fun _ => F16_ok _ _ _) fun y39 hr => ?_
  refine zs hr ?_ ?_ <;> (clear hr; intro h40 hr)
  refine yc hr (fun _ => F15_ok _) fun y41 hr => ?_
  cases hr; exact zl
  refine yc hr (fun _ => F16_ok _ _ _) fun y42 hr => ?_
  refine zs hr ?_ ?_ <;> (clear hr; intro h43 hr)
  refine yc hr (fun _ => F15_ok _) fun y44 hr => ?_
  cases hr; exact zl
  refine yo [0, 1, 2, 3, 4, 5, 6, 7, 8, 9, 10, 11, 12, 13, 14, 15, 16, 17, 18, 19, 20, 21, 22, 23, 24, 25, 26, 27, 28, 29, 30, 31, 32, 33, 34, 35, 36, 37, 38, 39, 40, 41, 42, 43, 44, 45, 46] [] [] ?_
  obtain ⟨y45, ey45, hr⟩ := bindK hr fun _ => F15_ok _
  refine yl (yC ey45) ?_
  refine zs hr ?_ ?_ <;> (clear hr; intro h46 hr)
  refine zs hr ?_ ?_ <;> (clear hr; intro h47 hr)
  refine zs hr ?_ ?_ <;> (clear hr; intro h48 hr)
  refine zs hr ?_ ?_ <;> (clear hr; intro h49 hr)
  refine zs hr ?_ ?_ <;> (clear hr; intro h50 hr)
  cases hr; exact zl
  obtain ⟨y51, ey51, hr⟩ := bindK hr fun _ => F19_ok _ _
  refine yl (yC ey51) ?_
  obtain ⟨y52, ey52, hr⟩ := bindK hr fun _ => F19_ok _ _
  refine yl (yC ey52) ?_
  obtain ⟨y53, ey53, hr⟩ := bindK hr fun _ => F18_ok _ _ _
  refine yl (yC ey53) ?_
  cases hr; exact zl
  refine zs hr ?_ ?_ <;> (clear hr; intro h54 hr)
  refine yT (atomT h49) ?_
  cases hr; exact zl
  cases hr; exact zl
  refine zs hr ?_ ?_ <;> (clear hr; intro h55 hr)
  refine zs hr ?_ ?_ <;> (clear hr; intro h56 hr)
  refine zs hr ?_ ?_ <;> (clear hr; intro h57 hr)
  cases hr; exact zl
  obtain ⟨y58, ey58, hr⟩ := bindK hr fun _ => F19_ok _ _
  refine yl (yC ey58) ?_
  obtain ⟨y59, ey59, hr⟩ := bindK hr fun _ => F19_ok _ _
  refine yl (yC ey59) ?_
  obtain ⟨y60, ey60, hr⟩ := bindK hr fun _ => F18_ok _ _ _
  refine yl (yC ey60) ?_
  cases hr; exact zl
  refine zs hr ?_ ?_ <;> (clear hr; intro h61 hr)
  refine yT (atomT h56) ?_
  cases hr; exact zl
  cases hr; exact zl
  cases hr; exact zl
  cases hr; exact zl
  cases hr; exact zl
  refine yc hr (fun _ => F16_ok _ _ _) fun y62 hr => ?_
  refine zs hr ?_ ?_ <;> (clear hr; intro h63 hr)
  refine yc hr (fun _ => F15_ok _) fun y64 hr => ?_
  cases hr; exact zl
  refine yc hr (fun _ => F16_ok _ _ _) fun y65 hr => ?_
  refine zs hr ?_ ?_ <;> (clear hr; intro h66 hr)
  refine yc hr (fun _ => F15_ok _) fun y67 hr => ?_
  cases hr; exact zl
  refine yo [0, 1, 2, 3, 4, 5, 6, 7, 8, 9, 10, 11, 12, 13, 14, 15, 16, 17, 18, 19, 20, 21, 22, 23, 24, 25, 26, 27, 28, 29, 30, 31, 32, 33, 34, 35, 36, 37, 38, 39, 40, 41, 42, 43, 44, 45, 46] [] [] ?_
  obtain ⟨y68, ey68, hr⟩ := bindK hr fun _ => F15_ok _
  refine yl (yC ey68) ?_
  refine zs hr ?_ ?_ <;> (clear hr; intro h69 hr)
  refine zs hr ?_ ?_ <;> (clear hr; intro h70 hr)
  refine zs hr ?_ ?_ <;> (clear hr; intro h71 hr)
  refine zs hr ?_ ?_ <;> (clear hr; intro h72 hr)
  refine zs hr ?_ ?_ <;> (clear hr; intro h73 hr)
  cases hr; exact zl
  obtain ⟨y74, ey74, hr⟩ := bindK hr fun _ => F19_ok _ _
  refine yl (yC ey74) ?_
  obtain ⟨y75, ey75, hr⟩ := bindK hr fun _ => F19_ok _ _
  refine yl (yC ey75) ?_
  obtain ⟨y76, ey76, hr⟩ := bindK hr fun _ => F18_ok _ _ _
  refine yl (yC ey76) ?_
  cases hr; exact zl
  refine zs hr ?_ ?_ <;> (clear hr; intro h77 hr)
  refine yT (atomT h72) ?_
  cases hr; exact zl
  cases hr; exact zl
  refine zs hr ?_ ?_ <;> (clear hr; intro h78 hr)
  refine zs hr ?_ ?_ <;> (clear hr; intro h79 hr)
  refine zs hr ?_ ?_ <;> (clear hr; intro h80 hr)
  cases hr; exact zl
  obtain ⟨y81, ey81, hr⟩ := bindK hr fun _ => F19_ok _ _
  refine yl (yC ey81) ?_
  obtain ⟨y82, ey82, hr⟩ := bindK hr fun _ => F19_ok _ _
  refine yl (yC ey82) ?_
  obtain ⟨y83, ey83, hr⟩ := bindK hr fun _ => F18_ok _ _ _
  refine yl (yC ey83) ?_
  cases hr; exact zl
  refine zs hr ?_ ?_ <;> (clear hr; intro h84 hr)
  refine yT (atomT h79) ?_
  cases hr; exact zl
  cases hr; exact zl
  cases hr; exact zl
  cases hr; exact zl
  cases hr; exact zl
  refine yl (DOpS.toP (DOpS.boolNe rfl zk rfl rfl)) ?_
  refine zs hr ?_ ?_ <;> (clear hr; intro h85 hr)
  cases hr; exact zl
  refine yc hr (fun _ => F16_ok _ _ _) fun y86 hr => ?_
  refine zs hr ?_ ?_ <;> (clear hr; intro h87 hr)
  refine yc hr (fun _ => F16_ok _ _ _) fun y88 hr => ?_
  refine zs hr ?_ ?_ <;> (clear hr; intro h89 hr)
  refine yc hr (fun _ => F16_ok _ _ _) fun y90 hr => ?_
  refine zs hr ?_ ?_ <;> (clear hr; intro h91 hr)
  cases hr; exact zl
  refine yc hr (fun _ => F16_ok _ _ _) fun y92 hr => ?_
  refine zs hr ?_ ?_ <;> (clear hr; intro h93 hr)
  refine yc hr (fun _ => F15_ok _) fun y94 hr => ?_
  cases hr; exact zl
  refine yc hr (fun _ => F16_ok _ _ _) fun y95 hr => ?_
  refine zs hr ?_ ?_ <;> (clear hr; intro h96 hr)
  refine yc hr (fun _ => F15_ok _) fun y97 hr => ?_
  cases hr; exact zl
  refine yo [0, 1, 2, 3, 4, 5, 6, 7, 8, 9, 10, 11, 12, 13, 14, 15, 16, 17, 18, 19, 20, 21, 22, 23, 24, 25, 26, 27, 28, 29, 30, 31, 32, 33, 34, 35, 36, 37, 38, 39, 40, 41, 42, 43, 44, 45, 46] [] [] ?_
  obtain ⟨y98, ey98, hr⟩ := bindK hr fun _ => F15_ok _
  refine yl (yC ey98) ?_
  refine zs hr ?_ ?_ <;> (clear hr; intro h99 hr)
  refine zs hr ?_ ?_ <;> (clear hr; intro h100 hr)
  refine zs hr ?_ ?_ <;> (clear hr; intro h101 hr)
  refine zs hr ?_ ?_ <;> (clear hr; intro h102 hr)
  refine zs hr ?_ ?_ <;> (clear hr; intro h103 hr)
  cases hr; exact zl
  obtain ⟨y104, ey104, hr⟩ := bindK hr fun _ => F19_ok _ _
  refine yl (yC ey104) ?_
  obtain ⟨y105, ey105, hr⟩ := bindK hr fun _ => F19_ok _ _
  refine yl (yC ey105) ?_
  obtain ⟨y106, ey106, hr⟩ := bindK hr fun _ => F18_ok _ _ _
  refine yl (yC ey106) ?_
  cases hr; exact zl
  refine zs hr ?_ ?_ <;> (clear hr; intro h107 hr)
  refine yT (atomT h102) ?_
  cases hr; exact zl
  cases hr; exact zl
  refine zs hr ?_ ?_ <;> (clear hr; intro h108 hr)
  refine zs hr ?_ ?_ <;> (clear hr; intro h109 hr)
  refine zs hr ?_ ?_ <;> (clear hr; intro h110 hr)
  cases hr; exact zl
  obtain ⟨y111, ey111, hr⟩ := bindK hr fun _ => F19_ok _ _
  refine yl (yC ey111) ?_
  obtain ⟨y112, ey112, hr⟩ := bindK hr fun _ => F19_ok _ _
  refine yl (yC ey112) ?_
  obtain ⟨y113, ey113, hr⟩ := bindK hr fun _ => F18_ok _ _ _
  refine yl (yC ey113) ?_
  cases hr; exact zl
  refine zs hr ?_ ?_ <;> (clear hr; intro h114 hr)
  refine yT (atomT h109) ?_
  cases hr; exact zl
  cases hr; exact zl
  cases hr; exact zl
  cases hr; exact zl
  cases hr; exact zl
  refine yc hr (fun _ => F16_ok _ _ _) fun y115 hr => ?_
  refine zs hr ?_ ?_ <;> (clear hr; intro h116 hr)
  refine yc hr (fun _ => F15_ok _) fun y117 hr => ?_
  cases hr; exact zl
  refine yc hr (fun _ => F16_ok _ _ _) fun y118 hr => ?_
  refine zs hr ?_ ?_ <;> (clear hr; intro h119 hr)
  refine yc hr (fun _ => F15_ok _) fun y120 hr => ?_
  cases hr; exact zl
  refine yo [0, 1, 2, 3, 4, 5, 6, 7, 8, 9, 10, 11, 12, 13, 14, 15, 16, 17, 18, 19, 20, 21, 22, 23, 24, 25, 26, 27, 28, 29, 30, 31, 32, 33, 34, 35, 36, 37, 38, 39, 40, 41, 42, 43, 44, 45, 46] [] [] ?_
  obtain ⟨y121, ey121, hr⟩ := bindK hr fun _ => F15_ok _
  refine yl (yC ey121) ?_
  refine zs hr ?_ ?_ <;> (clear hr; intro h122 hr)
  refine zs hr ?_ ?_ <;> (clear hr; intro h123 hr)
  refine zs hr ?_ ?_ <;> (clear hr; intro h124 hr)
  refine zs hr ?_ ?_ <;> (clear hr; intro h125 hr)
  refine zs hr ?_ ?_ <;> (clear hr; intro h126 hr)
  cases hr; exact zl
  obtain ⟨y127, ey127, hr⟩ := bindK hr fun _ => F19_ok _ _
  refine yl (yC ey127) ?_
  obtain ⟨y128, ey128, hr⟩ := bindK hr fun _ => F19_ok _ _
  refine yl (yC ey128) ?_
  obtain ⟨y129, ey129, hr⟩ := bindK hr fun _ => F18_ok _ _ _
  refine yl (yC ey129) ?_
  cases hr; exact zl
  refine zs hr ?_ ?_ <;> (clear hr; intro h130 hr)
  refine yT (atomT h125) ?_
  cases hr; exact zl
  cases hr; exact zl
  refine zs hr ?_ ?_ <;> (clear hr; intro h131 hr)
  refine zs hr ?_ ?_ <;> (clear hr; intro h132 hr)
  refine zs hr ?_ ?_ <;> (clear hr; intro h133 hr)
  cases hr; exact zl
  obtain ⟨y134, ey134, hr⟩ := bindK hr fun _ => F19_ok _ _
  refine yl (yC ey134) ?_
  obtain ⟨y135, ey135, hr⟩ := bindK hr fun _ => F19_ok _ _
  refine yl (yC ey135) ?_
  obtain ⟨y136, ey136, hr⟩ := bindK hr fun _ => F18_ok _ _ _
  refine yl (yC ey136) ?_
  cases hr; exact zl
  refine zs hr ?_ ?_ <;> (clear hr; intro h137 hr)
  refine yT (atomT h132) ?_
  cases hr; exact zl
  cases hr; exact zl
  cases hr; exact zl
  cases hr; exact zl
  cases hr; exact zl
  refine yc hr (fun _ => F16_ok _ _ _) fun y138 hr => ?_
  refine zs hr ?_ ?_ <;> (clear hr; intro h139 hr)
  refine yc hr (fun _ => F15_ok _) fun y140 hr => ?_
  cases hr; exact zl
  refine yc hr (fun _ => F16_ok _ _ _) fun y141 hr => ?_
  refine zs hr ?_ ?_ <;> (clear hr; intro h142 hr)
  refine yc hr (fun _ => F15_ok _) fun y143 hr => ?_
  cases hr; exact zl
  refine yo [0, 1, 2, 3, 4, 5, 6, 7, 8, 9, 10, 11, 12, 13, 14, 15, 16, 17, 18, 19, 20, 21, 22, 23, 24, 25, 26, 27, 28, 29, 30, 31, 32, 33, 34, 35, 36, 37, 38, 39, 40, 41, 42, 43, 44, 45, 46] [] [] ?_
  obtain ⟨y144, ey144, hr⟩ := bindK hr fun _ => F15_ok _
  refine yl (yC ey144) ?_
  refine zs hr ?_ ?_ <;> (clear hr; intro h145 hr)
  refine zs hr ?_ ?_ <;> (clear hr; intro h146 hr)
  refine zs hr ?_ ?_ <;> (clear hr; intro h147 hr)
  refine zs hr ?_ ?_ <;> (clear hr; intro h148 hr)
  refine zs hr ?_ ?_ <;> (clear hr; intro h149 hr)
  cases hr; exact zl
  obtain ⟨y150, ey150, hr⟩ := bindK hr fun _ => F19_ok _ _
  refine yl (yC ey150) ?_
  obtain ⟨y151, ey151, hr⟩ := bindK hr fun _ => F19_ok _ _
  refine yl (yC ey151) ?_
  obtain ⟨y152, ey152, hr⟩ := bindK hr fun _ => F18_ok _ _ _
  refine yl (yC ey152) ?_
  cases hr; exact zl
  refine zs hr ?_ ?_ <;> (clear hr; intro h153 hr)
  refine yT (atomT h148) ?_
  cases hr; exact zl
  cases hr; exact zl
  refine zs hr ?_ ?_ <;> (clear hr; intro h154 hr)
  refine zs hr ?_ ?_ <;> (clear hr; intro h155 hr)
  refine zs hr ?_ ?_ <;> (clear hr; intro h156 hr)
  cases hr; exact zl
  obtain ⟨y157, ey157, hr⟩ := bindK hr fun _ => F19_ok _ _
  refine yl (yC ey157) ?_
  obtain ⟨y158, ey158, hr⟩ := bindK hr fun _ => F19_ok _ _
  refine yl (yC ey158) ?_
  obtain ⟨y159, ey159, hr⟩ := bindK hr fun _ => F18_ok _ _ _
  refine yl (yC ey159) ?_
  cases hr; exact zl
  refine zs hr ?_ ?_ <;> (clear hr; intro h160 hr)
  refine yT (atomT h155) ?_
  cases hr; exact zl
  cases hr; exact zl
  cases hr; exact zl
  cases hr; exact zl
  cases hr; exact zl
def P5 : T5 := B5 P14 P15 P16 P17 P18 P19
theorem B5_r {f0 p0 f1 p1 f2 p2 f3 p3 f4 p4 f5 p5} (h0 : PF.R (α := T14) f0 p0) (h1 : PF.R (α := T15) f1 p1) (h2 : PF.R (α := T16) f2 p2) (h3 : PF.R (α := T17) f3 p3) (h4 : PF.R (α := T18) f4 p4) (h5 : PF.R (α := T19) f5 p5) : PF.R (fun n => B5 (f0 n) (f1 n) (f2 n) (f3 n) (f4 n) (f5 n)) (B5 p0 p1 p2 p3 p4 p5) := by (repeat refine PF.fn fun _ => ?_); unfold B5; exact zR
theorem P5_lm : PF.R F5 P5 := B5_r P14_lm P15_lm P16_lm P17_lm P18_lm P19_lm
theorem P5_eq (a0 a1 a2) : P5 a0 a1 a2 = B5 P14 P15 P16 P17 P18 P19 a0 a1 a2 := rfl
theorem P5_ok {a0 : TDatum} {a1 : TDatum} {a2 : TDatum} {r} (h : P5 a0 a1 a2 = some r) : Pure env.toCx 5 [(.agg (TDatum.cs a0)), (.agg (TDatum.cs a1)), (.agg (TDatum.cs a2))] (.ret (.v (.bool r))) := by obtain ⟨n, hn⟩ := PF.ex (PF.ap (PF.ap (PF.ap P5_lm _) _) _) h; exact F5_ok _ _ _ _ hn
end Go.Proofs.YtcngmkedekmkhaaGreat
