/-
  Own work, printed by a program. What the functions of the program answer, and that they do. Own work, printed by a program. What the functions of the program answer, and that they do.
-/
import Derived.Test.YtdmkbllocddkaaaGreatKH1
section
set_option linter.unusedVariables false
set_option linter.unusedSimpArgs false
namespace Go.Proofs.YtdmkbllocddkaaaGreat
open Go Go.Bw
/- (*plexus.plexusref16.P).allowed -/
def F126_L1 : Nat → (List TNode) → (List TNode) → Tplexusref16UP → Option (((List TNode) × Tplexusref16UP))
  | 0, _, _, _ => none
  | n + 1, s3, s4, s5 => ((F74 n (s5)).bind fun y6 => ((F125 n (s5) (4)).bind fun y7 => (bif decide (((s3 : List TNode) ++ ([{ Kind := 47, Text := y7.fst, N := 0, At := y6.At, Kids := [] : TNode }] : List TNode)).length ≤ 274877906944) then ((F121 n (y7.snd) ([44])).bind fun y9 => (bif !y9 then ((F124 n (y7.snd) ([41])).bind fun y11 => (some ((s3 ++ [{ Kind := 47, Text := y7.fst, N := 0, At := y6.At, Kids := [] : TNode }]), (y11.snd)))) else (F126_L1 n (s3 ++ [{ Kind := 47, Text := y7.fst, N := 0, At := y6.At, Kids := [] : TNode }]) (s4) ({ T := y7.snd.T, I := IntKind.i64.wrap (y7.snd.I + 1), Open := y7.snd.Open, Bad := y7.snd.Bad, Fault := y7.snd.Fault : Tplexusref16UP })))) else none)))
def F126 (n : Nat) (a0 : Tplexusref16UP) : Option (((List TNode) × Tplexusref16UP)) := ((F121 n (a0) ([40])).bind fun y1 => (bif y1 then (F126_L1 n ([]) ([]) ({ T := a0.T, I := IntKind.i64.wrap (a0.I + 1), Open := a0.Open, Bad := a0.Bad, Fault := a0.Fault : Tplexusref16UP })) else (some (([]), (a0)))))
set_option maxRecDepth 100000 in
theorem F126_ok {n : Nat} {a0 : Tplexusref16UP} {r} (hr : F126 n a0 = some r) : SFPure env 126 [(.own 0 0)] (Tplexusref16UP.cs a0) (Tplexusref16UP.cs r.2) 25 5 (TNode.rows r.1) := by
  unfold F126 at hr
  refine SFPure.walk (E := env) Tryz.func126 rfl (by kernel_rfl) (rs := _) rfl Tryz.ntmps126 rfl ?_
  refine dr_run mixed 1000 ?_; conv => (arg 3; whnf)
  obtain ⟨y1, ey1, hr⟩ := bindO hr
  replace ey1 := (F121_ok ey1)
  refine Ok.val eqs_nil rfl rfl (DOpP.callF ey1 rfl rfl rfl eqs_nil (ImpL.refl _) (.inr rfl)) ?_
  refine dr_run mixed 1000 ?_; conv => (arg 3; whnf)
  refine Ok.split ?_ ?_ <;> intro h2 <;> conv => (arg 3; whnf)
  · replace hr := bT h2 hr
    refine Ok.stuck eqs_nil ?_; refine DWP.inl (rs := _) rfl Tryz.func128 rfl (by kernel_rfl) rfl Tryz.ntmps128 rfl rfl ?_
    refine dr_run mixed 1000 ?_; conv => (arg 3; whnf)
    refine Ok.stuck eqs_nil ?_
    refine DWP.nilRowN 4 25 5 2 rfl rfl ?_
    refine DWP.loopA (S := (List TNode) × (List TNode) × Tplexusref16UP) 3 [0] [1, 4] (fun s => [(1, .os 1 (TNode.rows s.1).length), (4, .os 2 (TNode.rows s.2.1).length)]) (fun s => [(1, .row 25 5 (TNode.rows s.1)), (2, .row 25 5 (TNode.rows s.2.1)), (0, .box ((Tplexusref16UP.cs s.2.2).map .d))]) (fun m s => m ≤ n ∧ F126_L1 m s.1 s.2.1 s.2.2 = some r) n ([], [], { T := a0.T, I := IntKind.i64.wrap (a0.I + 1), Open := a0.Open, Bad := a0.Bad, Fault := a0.Fault : Tplexusref16UP }) rfl rfl rfl rfl rfl rfl ⟨Nat.le_refl _, hr⟩ ?_
    clear hr
    rintro n ⟨s3, s4, s5⟩ ⟨hle, hr⟩
    rcases n with _ | n
    · exact noneO hr
    replace hr : F126_L1 (n + 1) s3 s4 s5 = some r := hr
    rw [F126_L1] at hr
    refine dr_run mixed 1000 ?_; conv => (arg 3; whnf)
    obtain ⟨y6, ey6, hr⟩ := bindO hr
    replace ey6 := (F74_ok ey6)
    refine Ok.val eqs_nil rfl rfl (DOpP.callF ey6 rfl rfl rfl eqs_nil (ImpL.refl _) (.inr rfl)) ?_
    refine dr_run mixed 1000 ?_; conv => (arg 3; whnf)
    obtain ⟨y7, ey7, hr⟩ := bindO hr
    replace ey7 := (F125_ok ey7)
    refine Ok.stuck eqs_nil ?_; refine DWP.callS 0 ey7 rfl rfl rfl rfl (SImp.box rfl (by exact ImpL.refl _)) rfl ?_
    refine dr_run mixed 1000 ?_; conv => (arg 3; whnf)
    refine Ok.stuck eqs_nil ?_; refine DWP.rowImp 4 (rows' := TNode.rows ([{ Kind := 47, Text := y7.fst, N := 0, At := y6.At, Kids := [] : TNode }])) rfl (by (try simp only [gsimp]); repeat (first | exact Imp.refl _ | exact Imp.nil _ | exact ImpL.nil | exact ImpR.nil | exact ImpL.refl _ | exact ImpR.refl _ | exact Imp.of (by simp only [gsimp]; rfl) | (dsimp only; try simp only [gsimp]) | apply Imp.agg | apply Imp.tup | apply Imp.ip | apply Imp.fn | apply ImpL.cons | apply Imp.sl | apply ImpR.cons | apply ImpR.append)) ?_
    refine dr_run mixed 1000 ?_; conv => (arg 3; whnf)
    obtain ⟨h8, hr⟩ := guardO hr
    refine Ok.stuck eqs_nil ?_; refine DO.appRow rfl rfl (by first | rfl | simp only [List.length_set] | simp only [glen, List.length_set, List.length_replicate, List.length_append, List.length_cons, List.length_nil]) rfl rfl (by first | rfl | simp only [List.length_set] | simp only [glen, List.length_set, List.length_replicate, List.length_append, List.length_cons, List.length_nil]) rfl rfl (TNode.rows_ones _) rfl rfl rfl (by have h0 := of_decide_eq_true h8; simp only [List.length_append, List.length_set, List.length_cons, List.length_nil, chunk_length, TNode.rows_len] at h0 ⊢; omega) ?_
    refine dr_run mixed 1000 ?_; conv => (arg 3; whnf)
    obtain ⟨y9, ey9, hr⟩ := bindO hr
    replace ey9 := (F121_ok ey9)
    refine Ok.val eqs_nil rfl rfl (DOpP.callF ey9 rfl rfl rfl eqs_nil (ImpL.refl _) (.inr rfl)) ?_
    refine dr_run mixed 1000 ?_; conv => (arg 3; whnf)
    refine Ok.split ?_ ?_ <;> intro h10 <;> conv => (arg 3; whnf)
    · replace hr := bT h10 hr
      obtain ⟨y11, ey11, hr⟩ := bindO hr
      replace ey11 := (F124_ok ey11)
      refine Ok.stuck eqs_nil ?_; refine DWP.callS 0 ey11 rfl rfl rfl rfl (SImp.box rfl (by exact ImpL.refl _)) rfl ?_
      refine dr_run mixed 1000 ?_; conv => (arg 3; whnf)
      refine Ok.fin eqs_nil ?_
      obtain rfl := Option.some.inj hr
      exact RD.leafSF rfl rfl rfl rfl rfl rfl eqs_nil rfl rfl (by (try simp only [gsimp]); repeat (first | exact Imp.refl _ | exact Imp.nil _ | exact ImpL.nil | exact ImpR.nil | exact ImpL.refl _ | exact ImpR.refl _ | exact Imp.of (by simp only [gsimp]; rfl) | (dsimp only; try simp only [gsimp]) | apply Imp.agg | apply Imp.tup | apply Imp.ip | apply Imp.fn | apply ImpL.cons | apply Imp.sl | apply ImpR.cons | apply ImpR.append)) (by exact ImpL.refl _)
    replace hr := bF h10 hr
    refine Ok.stuck eqs_nil ?_
    exact DWP.nextA (s3 ++ [{ Kind := 47, Text := y7.fst, N := 0, At := y6.At, Kids := [] : TNode }], s4, { T := y7.snd.T, I := IntKind.i64.wrap (y7.snd.I + 1), Open := y7.snd.Open, Bad := y7.snd.Bad, Fault := y7.snd.Fault : Tplexusref16UP }) n rfl rfl (by first | rfl | (simp only [gsimp]; rfl) | (simp only [gsimp, List.length_set]; rfl) | (simp only [gcs, gsimp, List.length_set]; rfl)) (by first | rfl | (simp only [gsimp]; rfl) | (simp only [gsimp, List.length_set]; rfl) | (simp only [gcs, gsimp, List.length_set]; rfl)) (by omega) ⟨by omega, by exact hr⟩
  replace hr := bF h2 hr
  refine Ok.fin eqs_nil ?_
  obtain rfl := Option.some.inj hr
  exact RD.leafSF rfl rfl rfl rfl rfl rfl eqs_nil rfl rfl (by exact ImpR.refl _) (by exact ImpL.refl _)
/- (*plexus.plexusref16.P).lattice -/
mutual
def F73_L1 (y1 : TToken) : Nat → Tplexusref16UP → (List TNode) → Option ((TNode × Tplexusref16UP))
  | 0, _, _ => none
  | n + 1, s59, s64 => ((F74 n (s59)).bind fun y65 => ((F125 n (s59) (1)).bind fun y66 => ((F124 n (y66.snd) ([58])).bind fun y67 => ((F73 n (y67.snd)).bind fun y68 => (bif decide (((s64 : List TNode) ++ ([{ Kind := 22, Text := y66.fst, N := 0, At := y65.At, Kids := [y68.fst] : TNode }] : List TNode)).length ≤ 274877906944) then ((F121 n (y68.snd) ([44])).bind fun y70 => (bif !y70 then ((F124 n (y68.snd) ([125])).bind fun y72 => (some (({ Kind := 15, Text := [], N := 0, At := y1.At, Kids := s64 ++ [{ Kind := 22, Text := y66.fst, N := 0, At := y65.At, Kids := [y68.fst] : TNode }] : TNode }), ({ T := y72.snd.T, I := y72.snd.I, Open := IntKind.i64.wrap (y72.snd.Open - 1), Bad := y72.snd.Bad, Fault := y72.snd.Fault : Tplexusref16UP })))) else (F73_L1 y1 n ({ T := y68.snd.T, I := IntKind.i64.wrap (y68.snd.I + 1), Open := y68.snd.Open, Bad := y68.snd.Bad, Fault := y68.snd.Fault : Tplexusref16UP }) (s64 ++ [{ Kind := 22, Text := y66.fst, N := 0, At := y65.At, Kids := [y68.fst] : TNode }])))) else none)))))
def F73_L4 (a0 : Tplexusref16UP) (y1 : TToken) (y4 : Bool) (y6 : Bool) (y8 : Bool) (y11 : Bool) (y14 : Bool) (y28 : Bool) (y42 : Bool) (y48 : Bool) (y56 : Bool) (y73 : Bool) (y75 : (Unit × Tplexusref16UP)) (y76 : TToken) (s78 : (List TNode)) (s79 : (List TNode)) (s80 : Tplexusref16UP) (y81 : TToken) (y82 : ((List UInt8) × Tplexusref16UP)) (y84 : Bool) (s86 : Tplexusref16UP) (s91 : (List TNode)) (y92 : Bool) (y94 : TToken) (y95 : TToken) : Nat → (List TNode) → (List TNode) → Tplexusref16UP → Option ((TNode × Tplexusref16UP))
  | 0, _, _, _ => none
  | n + 1, s97, s98, s99 => ((F74 n (s99)).bind fun y100 => ((F125 n (s99) (4)).bind fun y101 => (bif decide (((s97 : List TNode) ++ ([{ Kind := 47, Text := y101.fst, N := 0, At := y100.At, Kids := [] : TNode }] : List TNode)).length ≤ 274877906944) then ((F121 n (y101.snd) ([44])).bind fun y103 => (bif !y103 then ((F124 n (y101.snd) ([61, 62])).bind fun y105 => ((F74 n (y105.snd)).bind fun y106 => ((F125 n (y105.snd) (4)).bind fun y107 => (bif decide (((s97 ++ [{ Kind := 47, Text := y101.fst, N := 0, At := y100.At, Kids := [] : TNode }] : List TNode) ++ ([{ Kind := 47, Text := y107.fst, N := 0, At := y106.At, Kids := [] : TNode }] : List TNode)).length ≤ 274877906944) then (bif decide (((s91 : List TNode) ++ ([{ Kind := 20, Text := [], N := 0, At := y94.At, Kids := s97 ++ [{ Kind := 47, Text := y101.fst, N := 0, At := y100.At, Kids := [] : TNode }] ++ [{ Kind := 47, Text := y107.fst, N := 0, At := y106.At, Kids := [] : TNode }] : TNode }] : List TNode)).length ≤ 274877906944) then (F73_L3 a0 y1 y4 y6 y8 y11 y14 y28 y42 y48 y56 y73 y75 y76 s78 s79 s80 y81 y82 y84 n (y107.snd) (s91 ++ [{ Kind := 20, Text := [], N := 0, At := y94.At, Kids := s97 ++ [{ Kind := 47, Text := y101.fst, N := 0, At := y100.At, Kids := [] : TNode }] ++ [{ Kind := 47, Text := y107.fst, N := 0, At := y106.At, Kids := [] : TNode }] : TNode }])) else none) else none)))) else (F73_L4 a0 y1 y4 y6 y8 y11 y14 y28 y42 y48 y56 y73 y75 y76 s78 s79 s80 y81 y82 y84 s86 s91 y92 y94 y95 n (s97 ++ [{ Kind := 47, Text := y101.fst, N := 0, At := y100.At, Kids := [] : TNode }]) (s98) ({ T := y101.snd.T, I := IntKind.i64.wrap (y101.snd.I + 1), Open := y101.snd.Open, Bad := y101.snd.Bad, Fault := y101.snd.Fault : Tplexusref16UP })))) else none)))
def F73_L3 (a0 : Tplexusref16UP) (y1 : TToken) (y4 : Bool) (y6 : Bool) (y8 : Bool) (y11 : Bool) (y14 : Bool) (y28 : Bool) (y42 : Bool) (y48 : Bool) (y56 : Bool) (y73 : Bool) (y75 : (Unit × Tplexusref16UP)) (y76 : TToken) (s78 : (List TNode)) (s79 : (List TNode)) (s80 : Tplexusref16UP) (y81 : TToken) (y82 : ((List UInt8) × Tplexusref16UP)) (y84 : Bool) : Nat → Tplexusref16UP → (List TNode) → Option ((TNode × Tplexusref16UP))
  | 0, _, _ => none
  | n + 1, s86, s91 => ((F121 n (s86) ([59])).bind fun y92 => (bif y92 then ((F74 n ({ T := s86.T, I := IntKind.i64.wrap (s86.I + 1), Open := s86.Open, Bad := s86.Bad, Fault := s86.Fault : Tplexusref16UP })).bind fun y94 => ((F74 n ({ T := s86.T, I := IntKind.i64.wrap (s86.I + 1), Open := s86.Open, Bad := s86.Bad, Fault := s86.Fault : Tplexusref16UP })).bind fun y95 => (bif y95.Kind == 4 then (F73_L4 a0 y1 y4 y6 y8 y11 y14 y28 y42 y48 y56 y73 y75 y76 s78 s79 s80 y81 y82 y84 s86 s91 y92 y94 y95 n ([]) ([]) ({ T := s86.T, I := IntKind.i64.wrap (s86.I + 1), Open := s86.Open, Bad := s86.Bad, Fault := s86.Fault : Tplexusref16UP })) else ((F124 n ({ T := s86.T, I := IntKind.i64.wrap (s86.I + 1), Open := s86.Open, Bad := s86.Bad, Fault := s86.Fault : Tplexusref16UP }) ([61, 62])).bind fun y110 => ((F74 n (y110.snd)).bind fun y111 => ((F125 n (y110.snd) (4)).bind fun y112 => (bif decide ((([] : List TNode) ++ ([{ Kind := 47, Text := y112.fst, N := 0, At := y111.At, Kids := [] : TNode }] : List TNode)).length ≤ 274877906944) then (bif decide (((s91 : List TNode) ++ ([{ Kind := 20, Text := [], N := 0, At := y94.At, Kids := [] ++ [{ Kind := 47, Text := y112.fst, N := 0, At := y111.At, Kids := [] : TNode }] : TNode }] : List TNode)).length ≤ 274877906944) then (F73_L3 a0 y1 y4 y6 y8 y11 y14 y28 y42 y48 y56 y73 y75 y76 s78 s79 s80 y81 y82 y84 n (y112.snd) (s91 ++ [{ Kind := 20, Text := [], N := 0, At := y94.At, Kids := [] ++ [{ Kind := 47, Text := y112.fst, N := 0, At := y111.At, Kids := [] : TNode }] : TNode }])) else none) else none))))))) else ((F124 n (s86) ([41])).bind fun y115 => (some (({ Kind := 19, Text := [], N := 0, At := y1.At, Kids := s91 : TNode }), (y115.snd))))))
def F73_L2 (a0 : Tplexusref16UP) (y1 : TToken) (y4 : Bool) (y6 : Bool) (y8 : Bool) (y11 : Bool) (y14 : Bool) (y28 : Bool) (y42 : Bool) (y48 : Bool) (y56 : Bool) (y73 : Bool) (y75 : (Unit × Tplexusref16UP)) (y76 : TToken) : Nat → (List TNode) → (List TNode) → Tplexusref16UP → Option ((TNode × Tplexusref16UP))
  | 0, _, _, _ => none
  | n + 1, s78, s79, s80 => ((F74 n (s80)).bind fun y81 => ((F125 n (s80) (4)).bind fun y82 => (bif decide (((s78 : List TNode) ++ ([{ Kind := 47, Text := y82.fst, N := 0, At := y81.At, Kids := [] : TNode }] : List TNode)).length ≤ 274877906944) then ((F121 n (y82.snd) ([44])).bind fun y84 => (bif !y84 then (F73_L3 a0 y1 y4 y6 y8 y11 y14 y28 y42 y48 y56 y73 y75 y76 s78 s79 s80 y81 y82 y84 n (y82.snd) (s78 ++ [{ Kind := 47, Text := y82.fst, N := 0, At := y81.At, Kids := [] : TNode }])) else (F73_L2 a0 y1 y4 y6 y8 y11 y14 y28 y42 y48 y56 y73 y75 y76 n (s78 ++ [{ Kind := 47, Text := y82.fst, N := 0, At := y81.At, Kids := [] : TNode }]) (s79) ({ T := y82.snd.T, I := IntKind.i64.wrap (y82.snd.I + 1), Open := y82.snd.Open, Bad := y82.snd.Bad, Fault := y82.snd.Fault : Tplexusref16UP })))) else none)))
def F73_L6 (a0 : Tplexusref16UP) (y1 : TToken) (y4 : Bool) (y6 : Bool) (y8 : Bool) (y11 : Bool) (y14 : Bool) (y28 : Bool) (y42 : Bool) (y48 : Bool) (y56 : Bool) (y73 : Bool) (y75 : (Unit × Tplexusref16UP)) (y76 : TToken) (s116 : Tplexusref16UP) (s121 : (List TNode)) (y122 : Bool) (y124 : TToken) (y125 : TToken) : Nat → (List TNode) → (List TNode) → Tplexusref16UP → Option ((TNode × Tplexusref16UP))
  | 0, _, _, _ => none
  | n + 1, s127, s128, s129 => ((F74 n (s129)).bind fun y130 => ((F125 n (s129) (4)).bind fun y131 => (bif decide (((s127 : List TNode) ++ ([{ Kind := 47, Text := y131.fst, N := 0, At := y130.At, Kids := [] : TNode }] : List TNode)).length ≤ 274877906944) then ((F121 n (y131.snd) ([44])).bind fun y133 => (bif !y133 then ((F124 n (y131.snd) ([61, 62])).bind fun y135 => ((F74 n (y135.snd)).bind fun y136 => ((F125 n (y135.snd) (4)).bind fun y137 => (bif decide (((s127 ++ [{ Kind := 47, Text := y131.fst, N := 0, At := y130.At, Kids := [] : TNode }] : List TNode) ++ ([{ Kind := 47, Text := y137.fst, N := 0, At := y136.At, Kids := [] : TNode }] : List TNode)).length ≤ 274877906944) then (bif decide (((s121 : List TNode) ++ ([{ Kind := 20, Text := [], N := 0, At := y124.At, Kids := s127 ++ [{ Kind := 47, Text := y131.fst, N := 0, At := y130.At, Kids := [] : TNode }] ++ [{ Kind := 47, Text := y137.fst, N := 0, At := y136.At, Kids := [] : TNode }] : TNode }] : List TNode)).length ≤ 274877906944) then (F73_L5 a0 y1 y4 y6 y8 y11 y14 y28 y42 y48 y56 y73 y75 y76 n (y137.snd) (s121 ++ [{ Kind := 20, Text := [], N := 0, At := y124.At, Kids := s127 ++ [{ Kind := 47, Text := y131.fst, N := 0, At := y130.At, Kids := [] : TNode }] ++ [{ Kind := 47, Text := y137.fst, N := 0, At := y136.At, Kids := [] : TNode }] : TNode }])) else none) else none)))) else (F73_L6 a0 y1 y4 y6 y8 y11 y14 y28 y42 y48 y56 y73 y75 y76 s116 s121 y122 y124 y125 n (s127 ++ [{ Kind := 47, Text := y131.fst, N := 0, At := y130.At, Kids := [] : TNode }]) (s128) ({ T := y131.snd.T, I := IntKind.i64.wrap (y131.snd.I + 1), Open := y131.snd.Open, Bad := y131.snd.Bad, Fault := y131.snd.Fault : Tplexusref16UP })))) else none)))
def F73_L5 (a0 : Tplexusref16UP) (y1 : TToken) (y4 : Bool) (y6 : Bool) (y8 : Bool) (y11 : Bool) (y14 : Bool) (y28 : Bool) (y42 : Bool) (y48 : Bool) (y56 : Bool) (y73 : Bool) (y75 : (Unit × Tplexusref16UP)) (y76 : TToken) : Nat → Tplexusref16UP → (List TNode) → Option ((TNode × Tplexusref16UP))
  | 0, _, _ => none
  | n + 1, s116, s121 => ((F121 n (s116) ([59])).bind fun y122 => (bif y122 then ((F74 n ({ T := s116.T, I := IntKind.i64.wrap (s116.I + 1), Open := s116.Open, Bad := s116.Bad, Fault := s116.Fault : Tplexusref16UP })).bind fun y124 => ((F74 n ({ T := s116.T, I := IntKind.i64.wrap (s116.I + 1), Open := s116.Open, Bad := s116.Bad, Fault := s116.Fault : Tplexusref16UP })).bind fun y125 => (bif y125.Kind == 4 then (F73_L6 a0 y1 y4 y6 y8 y11 y14 y28 y42 y48 y56 y73 y75 y76 s116 s121 y122 y124 y125 n ([]) ([]) ({ T := s116.T, I := IntKind.i64.wrap (s116.I + 1), Open := s116.Open, Bad := s116.Bad, Fault := s116.Fault : Tplexusref16UP })) else ((F124 n ({ T := s116.T, I := IntKind.i64.wrap (s116.I + 1), Open := s116.Open, Bad := s116.Bad, Fault := s116.Fault : Tplexusref16UP }) ([61, 62])).bind fun y140 => ((F74 n (y140.snd)).bind fun y141 => ((F125 n (y140.snd) (4)).bind fun y142 => (bif decide ((([] : List TNode) ++ ([{ Kind := 47, Text := y142.fst, N := 0, At := y141.At, Kids := [] : TNode }] : List TNode)).length ≤ 274877906944) then (bif decide (((s121 : List TNode) ++ ([{ Kind := 20, Text := [], N := 0, At := y124.At, Kids := [] ++ [{ Kind := 47, Text := y142.fst, N := 0, At := y141.At, Kids := [] : TNode }] : TNode }] : List TNode)).length ≤ 274877906944) then (F73_L5 a0 y1 y4 y6 y8 y11 y14 y28 y42 y48 y56 y73 y75 y76 n (y142.snd) (s121 ++ [{ Kind := 20, Text := [], N := 0, At := y124.At, Kids := [] ++ [{ Kind := 47, Text := y142.fst, N := 0, At := y141.At, Kids := [] : TNode }] : TNode }])) else none) else none))))))) else ((F124 n (s116) ([41])).bind fun y145 => (some (({ Kind := 19, Text := [], N := 0, At := y1.At, Kids := s121 : TNode }), (y145.snd))))))
def F73 : Nat → Tplexusref16UP → Option ((TNode × Tplexusref16UP))
  | 0, _ => none
  | n + 1, a0 => ((F74 n (a0)).bind fun y1 => (bif y1.Kind == 1 then ((F125 n (a0) (1)).bind fun y3 => (some (({ Kind := 21, Text := y3.fst, N := 0, At := y1.At, Kids := [] : TNode }), (y3.snd)))) else ((F121 n (a0) ([102, 108, 97, 103])).bind fun y4 => (bif y4 then (some (({ Kind := 10, Text := [], N := 0, At := y1.At, Kids := [] : TNode }), ({ T := a0.T, I := IntKind.i64.wrap (a0.I + 1), Open := a0.Open, Bad := a0.Bad, Fault := a0.Fault : Tplexusref16UP }))) else ((F121 n (a0) ([114, 101, 103, 105, 115, 116, 101, 114])).bind fun y6 => (bif y6 then (some (({ Kind := 18, Text := [], N := 0, At := y1.At, Kids := [] : TNode }), ({ T := a0.T, I := IntKind.i64.wrap (a0.I + 1), Open := a0.Open, Bad := a0.Bad, Fault := a0.Fault : Tplexusref16UP }))) else ((F121 n (a0) ([115, 101, 116])).bind fun y8 => (bif y8 then ((F126 n ({ T := a0.T, I := IntKind.i64.wrap (a0.I + 1), Open := a0.Open, Bad := a0.Bad, Fault := a0.Fault : Tplexusref16UP })).bind fun y10 => (some (({ Kind := 13, Text := [], N := 0, At := y1.At, Kids := y10.fst : TNode }), (y10.snd)))) else ((F121 n (a0) ([102, 108, 97, 116])).bind fun y11 => (bif y11 then ((F126 n ({ T := a0.T, I := IntKind.i64.wrap (a0.I + 1), Open := a0.Open, Bad := a0.Bad, Fault := a0.Fault : Tplexusref16UP })).bind fun y13 => (some (({ Kind := 17, Text := [], N := 0, At := y1.At, Kids := y13.fst : TNode }), (y13.snd)))) else ((F121 n (a0) ([109, 97, 120])).bind fun y14 => (bif y14 then ((F121 n (a0) ([109, 97, 120])).bind fun y16 => (bif y16 then ((F124 n ({ T := a0.T, I := IntKind.i64.wrap (a0.I + 1), Open := a0.Open, Bad := a0.Bad, Fault := a0.Fault : Tplexusref16UP }) ([40])).bind fun y18 => ((F127 n (y18.snd)).bind fun y19 => ((F124 n (y19.snd) ([44])).bind fun y20 => ((F127 n (y20.snd)).bind fun y21 => ((F124 n (y21.snd) ([41])).bind fun y22 => (some (({ Kind := 11, Text := [], N := 0, At := y1.At, Kids := [y19.fst, y21.fst] : TNode }), (y22.snd)))))))) else ((F124 n ({ T := a0.T, I := IntKind.i64.wrap (a0.I + 1), Open := a0.Open, Bad := a0.Bad, Fault := a0.Fault : Tplexusref16UP }) ([40])).bind fun y23 => ((F127 n (y23.snd)).bind fun y24 => ((F124 n (y24.snd) ([44])).bind fun y25 => ((F127 n (y25.snd)).bind fun y26 => ((F124 n (y26.snd) ([41])).bind fun y27 => (some (({ Kind := 12, Text := [], N := 0, At := y1.At, Kids := [y24.fst, y26.fst] : TNode }), (y27.snd)))))))))) else ((F121 n (a0) ([109, 105, 110])).bind fun y28 => (bif y28 then ((F121 n (a0) ([109, 97, 120])).bind fun y30 => (bif y30 then ((F124 n ({ T := a0.T, I := IntKind.i64.wrap (a0.I + 1), Open := a0.Open, Bad := a0.Bad, Fault := a0.Fault : Tplexusref16UP }) ([40])).bind fun y32 => ((F127 n (y32.snd)).bind fun y33 => ((F124 n (y33.snd) ([44])).bind fun y34 => ((F127 n (y34.snd)).bind fun y35 => ((F124 n (y35.snd) ([41])).bind fun y36 => (some (({ Kind := 11, Text := [], N := 0, At := y1.At, Kids := [y33.fst, y35.fst] : TNode }), (y36.snd)))))))) else ((F124 n ({ T := a0.T, I := IntKind.i64.wrap (a0.I + 1), Open := a0.Open, Bad := a0.Bad, Fault := a0.Fault : Tplexusref16UP }) ([40])).bind fun y37 => ((F127 n (y37.snd)).bind fun y38 => ((F124 n (y38.snd) ([44])).bind fun y39 => ((F127 n (y39.snd)).bind fun y40 => ((F124 n (y40.snd) ([41])).bind fun y41 => (some (({ Kind := 12, Text := [], N := 0, At := y1.At, Kids := [y38.fst, y40.fst] : TNode }), (y41.snd)))))))))) else ((F121 n (a0) ([109, 97, 112])).bind fun y42 => (bif y42 then ((F123 n (a0)).bind fun y44 => ((F126 n ({ T := y44.snd.T, I := IntKind.i64.wrap (y44.snd.I + 1), Open := y44.snd.Open, Bad := y44.snd.Bad, Fault := y44.snd.Fault : Tplexusref16UP })).bind fun y45 => ((F73 n (y45.snd)).bind fun y46 => (bif decide (((y45.fst : List TNode) ++ ([y46.fst] : List TNode)).length ≤ 274877906944) then (some (({ Kind := 14, Text := [], N := 0, At := y1.At, Kids := y45.fst ++ [y46.fst] : TNode }), ({ T := y46.snd.T, I := y46.snd.I, Open := IntKind.i64.wrap (y46.snd.Open - 1), Bad := y46.snd.Bad, Fault := y46.snd.Fault : Tplexusref16UP }))) else none)))) else ((F121 n (a0) ([108, 101, 120])).bind fun y48 => (bif y48 then ((F123 n (a0)).bind fun y50 => ((F124 n ({ T := y50.snd.T, I := IntKind.i64.wrap (y50.snd.I + 1), Open := y50.snd.Open, Bad := y50.snd.Bad, Fault := y50.snd.Fault : Tplexusref16UP }) ([40])).bind fun y51 => ((F73 n (y51.snd)).bind fun y52 => ((F124 n (y52.snd) ([44])).bind fun y53 => ((F73 n (y53.snd)).bind fun y54 => ((F124 n (y54.snd) ([41])).bind fun y55 => (some (({ Kind := 16, Text := [], N := 0, At := y1.At, Kids := [y52.fst, y54.fst] : TNode }), ({ T := y55.snd.T, I := y55.snd.I, Open := IntKind.i64.wrap (y55.snd.Open - 1), Bad := y55.snd.Bad, Fault := y55.snd.Fault : Tplexusref16UP }))))))))) else ((F121 n (a0) ([123])).bind fun y56 => (bif y56 then ((F123 n (a0)).bind fun y58 => (F73_L1 y1 n ({ T := y58.snd.T, I := IntKind.i64.wrap (y58.snd.I + 1), Open := y58.snd.Open, Bad := y58.snd.Bad, Fault := y58.snd.Fault : Tplexusref16UP }) ([]))) else ((F121 n (a0) ([99, 108, 111, 115, 101, 100])).bind fun y73 => (bif y73 then ((F124 n ({ T := a0.T, I := IntKind.i64.wrap (a0.I + 1), Open := a0.Open, Bad := a0.Bad, Fault := a0.Fault : Tplexusref16UP }) ([40])).bind fun y75 => ((F74 n (y75.snd)).bind fun y76 => (bif y76.Kind == 4 then (F73_L2 a0 y1 y4 y6 y8 y11 y14 y28 y42 y48 y56 y73 y75 y76 n ([]) ([]) (y75.snd)) else (F73_L5 a0 y1 y4 y6 y8 y11 y14 y28 y42 y48 y56 y73 y75 y76 n (y75.snd) ([]))))) else ((F76 n (a0) (2)).bind fun y146 => (some (({ Kind := 0, Text := [], N := 0, At := y1.At, Kids := [] : TNode }), (y146.snd))))))))))))))))))))))))))
end
set_option maxRecDepth 100000 in
set_option maxHeartbeats 0 in
theorem F73_step (n : Nat) (ih_F73 : ∀ m, m ≤ n → ∀ (a0 : Tplexusref16UP) r, F73 m a0 = some r → SPure env 73 [(.own 0 0)] (.box (Tplexusref16UP.cs a0)) (.agg (TNode.cs r.1)) (.box (Tplexusref16UP.cs r.2))) {a0 : Tplexusref16UP} {r} (hr : F73 (n + 1) a0 = some r) : SPure env 73 [(.own 0 0)] (.box (Tplexusref16UP.cs a0)) (.agg (TNode.cs r.1)) (.box (Tplexusref16UP.cs r.2)) := by
  rw [F73] at hr
  have hle0 : n ≤ n := Nat.le_refl n
  refine SPure.walk (E := env) Tryz.func73 rfl (by kernel_rfl) (rs := _) rfl Tryz.ntmps73 rfl ?_
  refine dr_run mixed 1000 ?_; conv => (arg 3; whnf)
  obtain ⟨y1, ey1, hr⟩ := bindO hr
  replace ey1 := (F74_ok ey1)
  refine Ok.val eqs_nil rfl rfl (DOpP.callF ey1 rfl rfl rfl eqs_nil (ImpL.refl _) (.inr rfl)) ?_
  refine dr_run mixed 1000 ?_; conv => (arg 3; whnf)
  refine Ok.split ?_ ?_ <;> intro h2 <;> conv => (arg 3; whnf)
  · replace hr := bT h2 hr
    obtain ⟨y3, ey3, hr⟩ := bindO hr
    replace ey3 := (F125_ok ey3)
    refine Ok.stuck eqs_nil ?_; refine DWP.callS 0 ey3 rfl rfl rfl rfl (SImp.box rfl (by exact ImpL.refl _)) rfl ?_
    refine dr_run mixed 1000 ?_; conv => (arg 3; whnf)
    refine Ok.fin eqs_nil ?_
    obtain rfl := Option.some.inj hr
    exact RD.leafSB rfl rfl rfl eqs_nil rfl (by (try simp only [gsimp]); repeat (first | exact Imp.refl _ | exact Imp.nil _ | exact ImpL.nil | exact ImpR.nil | exact ImpL.refl _ | exact ImpR.refl _ | exact Imp.of (by simp only [gsimp]; rfl) | (dsimp only; try simp only [gsimp]) | apply Imp.agg | apply Imp.tup | apply Imp.ip | apply Imp.fn | apply ImpL.cons | apply Imp.sl | apply ImpR.cons | apply ImpR.append)) (by exact ImpL.refl _)
  replace hr := bF h2 hr
  obtain ⟨y4, ey4, hr⟩ := bindO hr
  replace ey4 := (F121_ok ey4)
  refine Ok.val eqs_nil rfl rfl (DOpP.callF ey4 rfl rfl rfl eqs_nil (ImpL.refl _) (.inr rfl)) ?_
  refine dr_run mixed 1000 ?_; conv => (arg 3; whnf)
  refine Ok.split ?_ ?_ <;> intro h5 <;> conv => (arg 3; whnf)
  · replace hr := bT h5 hr
    refine Ok.fin eqs_nil ?_
    obtain rfl := Option.some.inj hr
    exact RD.leafSB rfl rfl rfl eqs_nil rfl (by (try simp only [gsimp]); repeat (first | exact Imp.refl _ | exact Imp.nil _ | exact ImpL.nil | exact ImpR.nil | exact ImpL.refl _ | exact ImpR.refl _ | exact Imp.of (by simp only [gsimp]; rfl) | (dsimp only; try simp only [gsimp]) | apply Imp.agg | apply Imp.tup | apply Imp.ip | apply Imp.fn | apply ImpL.cons | apply Imp.sl | apply ImpR.cons | apply ImpR.append)) (by exact ImpL.refl _)
  replace hr := bF h5 hr
  obtain ⟨y6, ey6, hr⟩ := bindO hr
  replace ey6 := (F121_ok ey6)
  refine Ok.val eqs_nil rfl rfl (DOpP.callF ey6 rfl rfl rfl eqs_nil (ImpL.refl _) (.inr rfl)) ?_
  refine dr_run mixed 1000 ?_; conv => (arg 3; whnf)
  refine Ok.split ?_ ?_ <;> intro h7 <;> conv => (arg 3; whnf)
  · replace hr := bT h7 hr
    refine Ok.fin eqs_nil ?_
    obtain rfl := Option.some.inj hr
    exact RD.leafSB rfl rfl rfl eqs_nil rfl (by (try simp only [gsimp]); repeat (first | exact Imp.refl _ | exact Imp.nil _ | exact ImpL.nil | exact ImpR.nil | exact ImpL.refl _ | exact ImpR.refl _ | exact Imp.of (by simp only [gsimp]; rfl) | (dsimp only; try simp only [gsimp]) | apply Imp.agg | apply Imp.tup | apply Imp.ip | apply Imp.fn | apply ImpL.cons | apply Imp.sl | apply ImpR.cons | apply ImpR.append)) (by exact ImpL.refl _)
  replace hr := bF h7 hr
  obtain ⟨y8, ey8, hr⟩ := bindO hr
  replace ey8 := (F121_ok ey8)
  refine Ok.val eqs_nil rfl rfl (DOpP.callF ey8 rfl rfl rfl eqs_nil (ImpL.refl _) (.inr rfl)) ?_
  refine dr_run mixed 1000 ?_; conv => (arg 3; whnf)
  refine Ok.split ?_ ?_ <;> intro h9 <;> conv => (arg 3; whnf)
  · replace hr := bT h9 hr
    obtain ⟨y10, ey10, hr⟩ := bindO hr
    replace ey10 := (F126_ok ey10)
    refine Ok.stuck eqs_nil ?_; refine DWP.callSF 0 ey10 rfl rfl rfl rfl (SImp.box rfl (by exact ImpL.refl _)) rfl ?_
    refine dr_run mixed 1000 ?_; conv => (arg 3; whnf)
    refine Ok.fin (eqs_cons rfl eqs_nil) ?_
    obtain rfl := Option.some.inj hr
    exact RD.leafSB rfl rfl rfl eqs_nil rfl (by exact Imp.refl _) (by exact ImpL.refl _)
  replace hr := bF h9 hr
  obtain ⟨y11, ey11, hr⟩ := bindO hr
  replace ey11 := (F121_ok ey11)
  refine Ok.val eqs_nil rfl rfl (DOpP.callF ey11 rfl rfl rfl eqs_nil (ImpL.refl _) (.inr rfl)) ?_
  refine dr_run mixed 1000 ?_; conv => (arg 3; whnf)
  refine Ok.split ?_ ?_ <;> intro h12 <;> conv => (arg 3; whnf)
  · replace hr := bT h12 hr
    obtain ⟨y13, ey13, hr⟩ := bindO hr
    replace ey13 := (F126_ok ey13)
    refine Ok.stuck eqs_nil ?_; refine DWP.callSF 0 ey13 rfl rfl rfl rfl (SImp.box rfl (by exact ImpL.refl _)) rfl ?_
    refine dr_run mixed 1000 ?_; conv => (arg 3; whnf)
    refine Ok.fin (eqs_cons rfl eqs_nil) ?_
    obtain rfl := Option.some.inj hr
    exact RD.leafSB rfl rfl rfl eqs_nil rfl (by exact Imp.refl _) (by exact ImpL.refl _)
  replace hr := bF h12 hr
  obtain ⟨y14, ey14, hr⟩ := bindO hr
  replace ey14 := (F121_ok ey14)
  refine Ok.val eqs_nil rfl rfl (DOpP.callF ey14 rfl rfl rfl eqs_nil (ImpL.refl _) (.inr rfl)) ?_
  refine dr_run mixed 1000 ?_; conv => (arg 3; whnf)
  refine Ok.split ?_ ?_ <;> intro h15 <;> conv => (arg 3; whnf)
  · replace hr := bT h15 hr
    obtain ⟨y16, ey16, hr⟩ := bindO hr
    replace ey16 := (F121_ok ey16)
    refine Ok.val eqs_nil rfl rfl (DOpP.callF ey16 rfl rfl rfl eqs_nil (ImpL.refl _) (.inr rfl)) ?_
    refine dr_run mixed 1000 ?_; conv => (arg 3; whnf)
    refine Ok.split ?_ ?_ <;> intro h17 <;> conv => (arg 3; whnf)
    · replace hr := bT h17 hr
      obtain ⟨y18, ey18, hr⟩ := bindO hr
      replace ey18 := (F124_ok ey18)
      refine Ok.stuck eqs_nil ?_; refine DWP.callS 0 ey18 rfl rfl rfl rfl (SImp.box rfl (by exact ImpL.refl _)) rfl ?_
      refine dr_run mixed 1000 ?_; conv => (arg 3; whnf)
      obtain ⟨y19, ey19, hr⟩ := bindO hr
      replace ey19 := (F127_ok ey19)
      refine Ok.stuck eqs_nil ?_; refine DWP.callS 0 ey19 rfl rfl rfl rfl (SImp.box rfl (by exact ImpL.refl _)) rfl ?_
      refine dr_run mixed 1000 ?_; conv => (arg 3; whnf)
      obtain ⟨y20, ey20, hr⟩ := bindO hr
      replace ey20 := (F124_ok ey20)
      refine Ok.stuck eqs_nil ?_; refine DWP.callS 0 ey20 rfl rfl rfl rfl (SImp.box rfl (by exact ImpL.refl _)) rfl ?_
      refine dr_run mixed 1000 ?_; conv => (arg 3; whnf)
      obtain ⟨y21, ey21, hr⟩ := bindO hr
      replace ey21 := (F127_ok ey21)
      refine Ok.stuck eqs_nil ?_; refine DWP.callS 0 ey21 rfl rfl rfl rfl (SImp.box rfl (by exact ImpL.refl _)) rfl ?_
      refine dr_run mixed 1000 ?_; conv => (arg 3; whnf)
      obtain ⟨y22, ey22, hr⟩ := bindO hr
      replace ey22 := (F124_ok ey22)
      refine Ok.stuck eqs_nil ?_; refine DWP.callS 0 ey22 rfl rfl rfl rfl (SImp.box rfl (by exact ImpL.refl _)) rfl ?_
      refine dr_run mixed 1000 ?_; conv => (arg 3; whnf)
      refine Ok.fin (eqs_cons rfl eqs_nil) ?_
      obtain rfl := Option.some.inj hr
      exact RD.leafSB rfl rfl rfl eqs_nil rfl (by (try simp only [gsimp]); repeat (first | exact Imp.refl _ | exact Imp.nil _ | exact ImpL.nil | exact ImpR.nil | exact ImpL.refl _ | exact ImpR.refl _ | exact Imp.of (by simp only [gsimp]; rfl) | (dsimp only; try simp only [gsimp]) | apply Imp.agg | apply Imp.tup | apply Imp.ip | apply Imp.fn | apply ImpL.cons | apply Imp.sl | apply ImpR.cons | apply ImpR.append)) (by exact ImpL.refl _)
    replace hr := bF h17 hr
    obtain ⟨y23, ey23, hr⟩ := bindO hr
    replace ey23 := (F124_ok ey23)
    refine Ok.stuck eqs_nil ?_; refine DWP.callS 0 ey23 rfl rfl rfl rfl (SImp.box rfl (by exact ImpL.refl _)) rfl ?_
    refine dr_run mixed 1000 ?_; conv => (arg 3; whnf)
    obtain ⟨y24, ey24, hr⟩ := bindO hr
    replace ey24 := (F127_ok ey24)
    refine Ok.stuck eqs_nil ?_; refine DWP.callS 0 ey24 rfl rfl rfl rfl (SImp.box rfl (by exact ImpL.refl _)) rfl ?_
    refine dr_run mixed 1000 ?_; conv => (arg 3; whnf)
    obtain ⟨y25, ey25, hr⟩ := bindO hr
    replace ey25 := (F124_ok ey25)
    refine Ok.stuck eqs_nil ?_; refine DWP.callS 0 ey25 rfl rfl rfl rfl (SImp.box rfl (by exact ImpL.refl _)) rfl ?_
    refine dr_run mixed 1000 ?_; conv => (arg 3; whnf)
    obtain ⟨y26, ey26, hr⟩ := bindO hr
    replace ey26 := (F127_ok ey26)
    refine Ok.stuck eqs_nil ?_; refine DWP.callS 0 ey26 rfl rfl rfl rfl (SImp.box rfl (by exact ImpL.refl _)) rfl ?_
    refine dr_run mixed 1000 ?_; conv => (arg 3; whnf)
    obtain ⟨y27, ey27, hr⟩ := bindO hr
    replace ey27 := (F124_ok ey27)
    refine Ok.stuck eqs_nil ?_; refine DWP.callS 0 ey27 rfl rfl rfl rfl (SImp.box rfl (by exact ImpL.refl _)) rfl ?_
    refine dr_run mixed 1000 ?_; conv => (arg 3; whnf)
    refine Ok.fin (eqs_cons rfl eqs_nil) ?_
    obtain rfl := Option.some.inj hr
    exact RD.leafSB rfl rfl rfl eqs_nil rfl (by (try simp only [gsimp]); repeat (first | exact Imp.refl _ | exact Imp.nil _ | exact ImpL.nil | exact ImpR.nil | exact ImpL.refl _ | exact ImpR.refl _ | exact Imp.of (by simp only [gsimp]; rfl) | (dsimp only; try simp only [gsimp]) | apply Imp.agg | apply Imp.tup | apply Imp.ip | apply Imp.fn | apply ImpL.cons | apply Imp.sl | apply ImpR.cons | apply ImpR.append)) (by exact ImpL.refl _)
  replace hr := bF h15 hr
  obtain ⟨y28, ey28, hr⟩ := bindO hr
  replace ey28 := (F121_ok ey28)
  refine Ok.val eqs_nil rfl rfl (DOpP.callF ey28 rfl rfl rfl eqs_nil (ImpL.refl _) (.inr rfl)) ?_
  refine dr_run mixed 1000 ?_; conv => (arg 3; whnf)
  refine Ok.split ?_ ?_ <;> intro h29 <;> conv => (arg 3; whnf)
  · replace hr := bT h29 hr
    obtain ⟨y30, ey30, hr⟩ := bindO hr
    replace ey30 := (F121_ok ey30)
    refine Ok.val eqs_nil rfl rfl (DOpP.callF ey30 rfl rfl rfl eqs_nil (ImpL.refl _) (.inr rfl)) ?_
    refine dr_run mixed 1000 ?_; conv => (arg 3; whnf)
    refine Ok.split ?_ ?_ <;> intro h31 <;> conv => (arg 3; whnf)
    · replace hr := bT h31 hr
      obtain ⟨y32, ey32, hr⟩ := bindO hr
      replace ey32 := (F124_ok ey32)
      refine Ok.stuck eqs_nil ?_; refine DWP.callS 0 ey32 rfl rfl rfl rfl (SImp.box rfl (by exact ImpL.refl _)) rfl ?_
      refine dr_run mixed 1000 ?_; conv => (arg 3; whnf)
      obtain ⟨y33, ey33, hr⟩ := bindO hr
      replace ey33 := (F127_ok ey33)
      refine Ok.stuck eqs_nil ?_; refine DWP.callS 0 ey33 rfl rfl rfl rfl (SImp.box rfl (by exact ImpL.refl _)) rfl ?_
      refine dr_run mixed 1000 ?_; conv => (arg 3; whnf)
      obtain ⟨y34, ey34, hr⟩ := bindO hr
      replace ey34 := (F124_ok ey34)
      refine Ok.stuck eqs_nil ?_; refine DWP.callS 0 ey34 rfl rfl rfl rfl (SImp.box rfl (by exact ImpL.refl _)) rfl ?_
      refine dr_run mixed 1000 ?_; conv => (arg 3; whnf)
      obtain ⟨y35, ey35, hr⟩ := bindO hr
      replace ey35 := (F127_ok ey35)
      refine Ok.stuck eqs_nil ?_; refine DWP.callS 0 ey35 rfl rfl rfl rfl (SImp.box rfl (by exact ImpL.refl _)) rfl ?_
      refine dr_run mixed 1000 ?_; conv => (arg 3; whnf)
      obtain ⟨y36, ey36, hr⟩ := bindO hr
      replace ey36 := (F124_ok ey36)
      refine Ok.stuck eqs_nil ?_; refine DWP.callS 0 ey36 rfl rfl rfl rfl (SImp.box rfl (by exact ImpL.refl _)) rfl ?_
      refine dr_run mixed 1000 ?_; conv => (arg 3; whnf)
      refine Ok.fin (eqs_cons rfl eqs_nil) ?_
      obtain rfl := Option.some.inj hr
      exact RD.leafSB rfl rfl rfl eqs_nil rfl (by (try simp only [gsimp]); repeat (first | exact Imp.refl _ | exact Imp.nil _ | exact ImpL.nil | exact ImpR.nil | exact ImpL.refl _ | exact ImpR.refl _ | exact Imp.of (by simp only [gsimp]; rfl) | (dsimp only; try simp only [gsimp]) | apply Imp.agg | apply Imp.tup | apply Imp.ip | apply Imp.fn | apply ImpL.cons | apply Imp.sl | apply ImpR.cons | apply ImpR.append)) (by exact ImpL.refl _)
    replace hr := bF h31 hr
    obtain ⟨y37, ey37, hr⟩ := bindO hr
    replace ey37 := (F124_ok ey37)
    refine Ok.stuck eqs_nil ?_; refine DWP.callS 0 ey37 rfl rfl rfl rfl (SImp.box rfl (by exact ImpL.refl _)) rfl ?_
    refine dr_run mixed 1000 ?_; conv => (arg 3; whnf)
    obtain ⟨y38, ey38, hr⟩ := bindO hr
    replace ey38 := (F127_ok ey38)
    refine Ok.stuck eqs_nil ?_; refine DWP.callS 0 ey38 rfl rfl rfl rfl (SImp.box rfl (by exact ImpL.refl _)) rfl ?_
    refine dr_run mixed 1000 ?_; conv => (arg 3; whnf)
    obtain ⟨y39, ey39, hr⟩ := bindO hr
    replace ey39 := (F124_ok ey39)
    refine Ok.stuck eqs_nil ?_; refine DWP.callS 0 ey39 rfl rfl rfl rfl (SImp.box rfl (by exact ImpL.refl _)) rfl ?_
    refine dr_run mixed 1000 ?_; conv => (arg 3; whnf)
    obtain ⟨y40, ey40, hr⟩ := bindO hr
    replace ey40 := (F127_ok ey40)
    refine Ok.stuck eqs_nil ?_; refine DWP.callS 0 ey40 rfl rfl rfl rfl (SImp.box rfl (by exact ImpL.refl _)) rfl ?_
    refine dr_run mixed 1000 ?_; conv => (arg 3; whnf)
    obtain ⟨y41, ey41, hr⟩ := bindO hr
    replace ey41 := (F124_ok ey41)
    refine Ok.stuck eqs_nil ?_; refine DWP.callS 0 ey41 rfl rfl rfl rfl (SImp.box rfl (by exact ImpL.refl _)) rfl ?_
    refine dr_run mixed 1000 ?_; conv => (arg 3; whnf)
    refine Ok.fin (eqs_cons rfl eqs_nil) ?_
    obtain rfl := Option.some.inj hr
    exact RD.leafSB rfl rfl rfl eqs_nil rfl (by (try simp only [gsimp]); repeat (first | exact Imp.refl _ | exact Imp.nil _ | exact ImpL.nil | exact ImpR.nil | exact ImpL.refl _ | exact ImpR.refl _ | exact Imp.of (by simp only [gsimp]; rfl) | (dsimp only; try simp only [gsimp]) | apply Imp.agg | apply Imp.tup | apply Imp.ip | apply Imp.fn | apply ImpL.cons | apply Imp.sl | apply ImpR.cons | apply ImpR.append)) (by exact ImpL.refl _)
  replace hr := bF h29 hr
  obtain ⟨y42, ey42, hr⟩ := bindO hr
  replace ey42 := (F121_ok ey42)
  refine Ok.val eqs_nil rfl rfl (DOpP.callF ey42 rfl rfl rfl eqs_nil (ImpL.refl _) (.inr rfl)) ?_
  refine dr_run mixed 1000 ?_; conv => (arg 3; whnf)
  refine Ok.split ?_ ?_ <;> intro h43 <;> conv => (arg 3; whnf)
  · replace hr := bT h43 hr
    obtain ⟨y44, ey44, hr⟩ := bindO hr
    replace ey44 := (F123_ok ey44)
    refine Ok.stuck eqs_nil ?_; refine DWP.callS 0 ey44 rfl rfl rfl rfl (SImp.box rfl (by exact ImpL.refl _)) rfl ?_
    refine dr_run mixed 1000 ?_; conv => (arg 3; whnf)
    obtain ⟨y45, ey45, hr⟩ := bindO hr
    replace ey45 := (F126_ok ey45)
    refine Ok.stuck eqs_nil ?_; refine DWP.callSF 0 ey45 rfl rfl rfl rfl (SImp.box rfl (by exact ImpL.refl _)) rfl ?_
    refine dr_run mixed 1000 ?_; conv => (arg 3; whnf)
    refine Ok.open (id := 39) [] [(0, .fl), (1, .fl), (2, .fl), (3, .one), (4, .fl), (5, .one), (6, .fl), (7, .one)] [] eqs_nil mixed rfl (by kernel_rfl) (by kernel_rfl) ?_
    refine dr_run mixed 1000 ?_; conv => (arg 3; whnf)
    refine Ok.stuck eqs_nil ?_; refine DWP.tlStep mixed (by repeat (first | exact PendD.nil | refine PendD.cons rfl (DOpP.vop (cl := false) rfl eqs_nil) ?_ | refine PendD.skip rfl ?_ | refine PendD.cons rfl (vopL_ok (cl := false) rfl eqs_nil) ?_)) ?_; (conv => (arg 3; whnf)); refine Nx.go_ok eqs_nil ?_
    refine dr_run mixed 1000 ?_; conv => (arg 3; whnf)
    obtain ⟨y46, ey46, hr⟩ := bindO hr
    replace ey46 := (ih_F73 _ (by omega) _ _ ey46)
    refine Ok.stuck eqs_nil ?_; refine DWP.tlCallS 0 (by repeat (first | exact PendD.nil | refine PendD.cons rfl (DOpP.vop (cl := false) rfl eqs_nil) ?_ | refine PendD.skip rfl ?_ | refine PendD.cons rfl (vopL_ok (cl := false) rfl eqs_nil) ?_)) rfl rfl rfl rfl rfl ey46 rfl rfl rfl rfl (SImp.box rfl (by exact ImpL.refl _)) ?_
    refine dr_run mixed 1000 ?_; conv => (arg 3; whnf)
    refine Ok.stuck eqs_nil ?_; refine DWP.tlStep mixed (by repeat (first | exact PendD.nil | refine PendD.cons rfl (DOpP.vop (cl := false) rfl eqs_nil) ?_ | refine PendD.skip rfl ?_ | refine PendD.cons rfl (vopL_ok (cl := false) rfl eqs_nil) ?_)) ?_; (conv => (arg 3; whnf)); refine Nx.go_ok eqs_nil ?_
    refine dr_run mixed 1000 ?_; conv => (arg 3; whnf)
    obtain ⟨h47, hr⟩ := guardO hr
    refine Ok.stuck eqs_nil ?_; refine DWP.tlAppI (rows2 := (TNode.rows ([y46.fst]))) (by repeat (first | exact PendD.nil | refine PendD.cons rfl (DOpP.vop (cl := false) rfl eqs_nil) ?_ | refine PendD.skip rfl ?_ | refine PendD.cons rfl (vopL_ok (cl := false) rfl eqs_nil) ?_)) rfl rfl rfl rfl rfl (by first | rfl | simp only [List.length_set] | simp only [glen, List.length_set, List.length_replicate, List.length_append, List.length_cons, List.length_nil]) rfl (by exact Imp.of (by simp only [gsimp]; rfl)) rfl rfl (TNode.rows_ones _) rfl rfl (by have h0 := of_decide_eq_true h47; simp only [List.length_append, List.length_set, List.length_cons, List.length_nil, chunk_length, TNode.rows_len] at h0 ⊢; omega) ?_
    refine dr_run mixed 1000 ?_; conv => (arg 3; whnf)
    refine Ok.fin (eqs_cons rfl eqs_nil) ?_
    obtain rfl := Option.some.inj hr
    exact RD.leafSB rfl rfl rfl eqs_nil rfl (by (try simp only [gsimp]); repeat (first | exact Imp.refl _ | exact Imp.nil _ | exact ImpL.nil | exact ImpR.nil | exact ImpL.refl _ | exact ImpR.refl _ | exact Imp.of (by simp only [gsimp]; rfl) | (dsimp only; try simp only [gsimp]) | apply Imp.agg | apply Imp.tup | apply Imp.ip | apply Imp.fn | apply ImpL.cons | apply Imp.sl | apply ImpR.cons | apply ImpR.append)) (by exact ImpL.refl _)
  replace hr := bF h43 hr
  obtain ⟨y48, ey48, hr⟩ := bindO hr
  replace ey48 := (F121_ok ey48)
  refine Ok.val eqs_nil rfl rfl (DOpP.callF ey48 rfl rfl rfl eqs_nil (ImpL.refl _) (.inr rfl)) ?_
  refine dr_run mixed 1000 ?_; conv => (arg 3; whnf)
  refine Ok.split ?_ ?_ <;> intro h49 <;> conv => (arg 3; whnf)
  · replace hr := bT h49 hr
    obtain ⟨y50, ey50, hr⟩ := bindO hr
    replace ey50 := (F123_ok ey50)
    refine Ok.stuck eqs_nil ?_; refine DWP.callS 0 ey50 rfl rfl rfl rfl (SImp.box rfl (by exact ImpL.refl _)) rfl ?_
    refine dr_run mixed 1000 ?_; conv => (arg 3; whnf)
    obtain ⟨y51, ey51, hr⟩ := bindO hr
    replace ey51 := (F124_ok ey51)
    refine Ok.stuck eqs_nil ?_; refine DWP.callS 0 ey51 rfl rfl rfl rfl (SImp.box rfl (by exact ImpL.refl _)) rfl ?_
    refine dr_run mixed 1000 ?_; conv => (arg 3; whnf)
    obtain ⟨y52, ey52, hr⟩ := bindO hr
    replace ey52 := (ih_F73 _ (by omega) _ _ ey52)
    refine Ok.stuck eqs_nil ?_; refine DWP.callS 0 ey52 rfl rfl rfl rfl (SImp.box rfl (by exact ImpL.refl _)) rfl ?_
    refine dr_run mixed 1000 ?_; conv => (arg 3; whnf)
    obtain ⟨y53, ey53, hr⟩ := bindO hr
    replace ey53 := (F124_ok ey53)
    refine Ok.stuck eqs_nil ?_; refine DWP.callS 0 ey53 rfl rfl rfl rfl (SImp.box rfl (by exact ImpL.refl _)) rfl ?_
    refine dr_run mixed 1000 ?_; conv => (arg 3; whnf)
    obtain ⟨y54, ey54, hr⟩ := bindO hr
    replace ey54 := (ih_F73 _ (by omega) _ _ ey54)
    refine Ok.stuck eqs_nil ?_; refine DWP.callS 0 ey54 rfl rfl rfl rfl (SImp.box rfl (by exact ImpL.refl _)) rfl ?_
    refine dr_run mixed 1000 ?_; conv => (arg 3; whnf)
    obtain ⟨y55, ey55, hr⟩ := bindO hr
    replace ey55 := (F124_ok ey55)
    refine Ok.stuck eqs_nil ?_; refine DWP.callS 0 ey55 rfl rfl rfl rfl (SImp.box rfl (by exact ImpL.refl _)) rfl ?_
    refine dr_run mixed 1000 ?_; conv => (arg 3; whnf)
    refine Ok.fin (eqs_cons rfl eqs_nil) ?_
    obtain rfl := Option.some.inj hr
    exact RD.leafSB rfl rfl rfl eqs_nil rfl (by (try simp only [gsimp]); repeat (first | exact Imp.refl _ | exact Imp.nil _ | exact ImpL.nil | exact ImpR.nil | exact ImpL.refl _ | exact ImpR.refl _ | exact Imp.of (by simp only [gsimp]; rfl) | (dsimp only; try simp only [gsimp]) | apply Imp.agg | apply Imp.tup | apply Imp.ip | apply Imp.fn | apply ImpL.cons | apply Imp.sl | apply ImpR.cons | apply ImpR.append)) (by exact ImpL.refl _)
  replace hr := bF h49 hr
  obtain ⟨y56, ey56, hr⟩ := bindO hr
  replace ey56 := (F121_ok ey56)
  refine Ok.val eqs_nil rfl rfl (DOpP.callF ey56 rfl rfl rfl eqs_nil (ImpL.refl _) (.inr rfl)) ?_
  refine dr_run mixed 1000 ?_; conv => (arg 3; whnf)
  refine Ok.split ?_ ?_ <;> intro h57 <;> conv => (arg 3; whnf)
  · replace hr := bT h57 hr
    obtain ⟨y58, ey58, hr⟩ := bindO hr
    replace ey58 := (F123_ok ey58)
    refine Ok.stuck eqs_nil ?_; refine DWP.callS 0 ey58 rfl rfl rfl rfl (SImp.box rfl (by exact ImpL.refl _)) rfl ?_
    refine dr_run mixed 1000 ?_; conv => (arg 3; whnf)
    refine Ok.stuck eqs_nil ?_
    refine DWP.nilCell 3 4 25 5 4 rfl rfl rfl ?_
    refine DWP.loopA (S := Tplexusref16UP × (List TNode)) 5 [0, 2, 4] [] (fun s => []) (fun s => [(0, .box ((Tplexusref16UP.cs s.1).map .d)), (4, .row 25 5 (TNode.rows s.2)), (3, .box [.d (.v (.int .i64 (15))), .d (.v (.string ⟨⟨([])⟩⟩)), .d (.v (.int .i64 (0))), .d (.v (.int .i64 (y1.At))), .os 4 (TNode.rows s.2).length])]) (fun m s => m ≤ n ∧ F73_L1 y1 m s.1 s.2 = some r) n ({ T := y58.snd.T, I := IntKind.i64.wrap (y58.snd.I + 1), Open := y58.snd.Open, Bad := y58.snd.Bad, Fault := y58.snd.Fault : Tplexusref16UP }, []) rfl rfl rfl rfl rfl rfl ⟨Nat.le_refl _, hr⟩ ?_
    clear hr
    rintro n ⟨s59, s64⟩ ⟨hle, hr⟩
    rcases n with _ | n
    · exact noneO hr
    replace hr : F73_L1 y1 (n + 1) s59 s64 = some r := hr
    rw [F73_L1] at hr
    refine dr_run mixed 1000 ?_; conv => (arg 3; whnf)
    obtain ⟨y65, ey65, hr⟩ := bindO hr
    replace ey65 := (F74_ok ey65)
    refine Ok.val eqs_nil rfl rfl (DOpP.callF ey65 rfl rfl rfl eqs_nil (ImpL.refl _) (.inr rfl)) ?_
    refine dr_run mixed 1000 ?_; conv => (arg 3; whnf)
    obtain ⟨y66, ey66, hr⟩ := bindO hr
    replace ey66 := (F125_ok ey66)
    refine Ok.stuck eqs_nil ?_; refine DWP.callS 0 ey66 rfl rfl rfl rfl (SImp.box rfl (by exact ImpL.refl _)) rfl ?_
    refine dr_run mixed 1000 ?_; conv => (arg 3; whnf)
    obtain ⟨y67, ey67, hr⟩ := bindO hr
    replace ey67 := (F124_ok ey67)
    refine Ok.stuck eqs_nil ?_; refine DWP.callS 0 ey67 rfl rfl rfl rfl (SImp.box rfl (by exact ImpL.refl _)) rfl ?_
    refine dr_run mixed 1000 ?_; conv => (arg 3; whnf)
    obtain ⟨y68, ey68, hr⟩ := bindO hr
    replace ey68 := (ih_F73 _ (by omega) _ _ ey68)
    refine Ok.stuck eqs_nil ?_; refine DWP.callS 0 ey68 rfl rfl rfl rfl (SImp.box rfl (by exact ImpL.refl _)) rfl ?_
    refine dr_run mixed 1000 ?_; conv => (arg 3; whnf)
    refine Ok.stuck (eqs_cons rfl eqs_nil) ?_; refine DWP.rowImp 7 (rows' := TNode.rows ([{ Kind := 22, Text := y66.fst, N := 0, At := y65.At, Kids := [y68.fst] : TNode }])) rfl (by (try simp only [gsimp]); repeat (first | exact Imp.refl _ | exact Imp.nil _ | exact ImpL.nil | exact ImpR.nil | exact ImpL.refl _ | exact ImpR.refl _ | exact Imp.of (by simp only [gsimp]; rfl) | (dsimp only; try simp only [gsimp]) | apply Imp.agg | apply Imp.tup | apply Imp.ip | apply Imp.fn | apply ImpL.cons | apply Imp.sl | apply ImpR.cons | apply ImpR.append)) ?_
    refine dr_run mixed 1000 ?_; conv => (arg 3; whnf)
    obtain ⟨h69, hr⟩ := guardO hr
    refine Ok.stuck eqs_nil ?_; refine DO.appRow rfl rfl (by first | rfl | simp only [List.length_set] | simp only [glen, List.length_set, List.length_replicate, List.length_append, List.length_cons, List.length_nil]) rfl rfl (by first | rfl | simp only [List.length_set] | simp only [glen, List.length_set, List.length_replicate, List.length_append, List.length_cons, List.length_nil]) rfl rfl (TNode.rows_ones _) rfl rfl rfl (by have h0 := of_decide_eq_true h69; simp only [List.length_append, List.length_set, List.length_cons, List.length_nil, chunk_length, TNode.rows_len] at h0 ⊢; omega) ?_
    refine dr_run mixed 1000 ?_; conv => (arg 3; whnf)
    obtain ⟨y70, ey70, hr⟩ := bindO hr
    replace ey70 := (F121_ok ey70)
    refine Ok.val eqs_nil rfl rfl (DOpP.callF ey70 rfl rfl rfl eqs_nil (ImpL.refl _) (.inr rfl)) ?_
    refine dr_run mixed 1000 ?_; conv => (arg 3; whnf)
    refine Ok.split ?_ ?_ <;> intro h71 <;> conv => (arg 3; whnf)
    · replace hr := bT h71 hr
      obtain ⟨y72, ey72, hr⟩ := bindO hr
      replace ey72 := (F124_ok ey72)
      refine Ok.stuck eqs_nil ?_; refine DWP.callS 0 ey72 rfl rfl rfl rfl (SImp.box rfl (by exact ImpL.refl _)) rfl ?_
      refine dr_run mixed 1000 ?_; conv => (arg 3; whnf)
      refine Ok.fin (eqs_cons rfl eqs_nil) ?_
      obtain rfl := Option.some.inj hr
      exact RD.leafSB rfl rfl rfl eqs_nil rfl (by (try simp only [gsimp]); repeat (first | exact Imp.refl _ | exact Imp.nil _ | exact ImpL.nil | exact ImpR.nil | exact ImpL.refl _ | exact ImpR.refl _ | exact Imp.of (by simp only [gsimp]; rfl) | (dsimp only; try simp only [gsimp]) | apply Imp.agg | apply Imp.tup | apply Imp.ip | apply Imp.fn | apply ImpL.cons | apply Imp.sl | apply ImpR.cons | apply ImpR.append)) (by exact ImpL.refl _)
    replace hr := bF h71 hr
    refine Ok.stuck eqs_nil ?_
    exact DWP.nextA ({ T := y68.snd.T, I := IntKind.i64.wrap (y68.snd.I + 1), Open := y68.snd.Open, Bad := y68.snd.Bad, Fault := y68.snd.Fault : Tplexusref16UP }, s64 ++ [{ Kind := 22, Text := y66.fst, N := 0, At := y65.At, Kids := [y68.fst] : TNode }]) n rfl rfl (by first | rfl | (simp only [gsimp]; rfl) | (simp only [gsimp, List.length_set]; rfl) | (simp only [gcs, gsimp, List.length_set]; rfl)) (by first | rfl | (simp only [gsimp]; rfl) | (simp only [gsimp, List.length_set]; rfl) | (simp only [gcs, gsimp, List.length_set]; rfl)) (by omega) ⟨by omega, by exact hr⟩
  replace hr := bF h57 hr
  obtain ⟨y73, ey73, hr⟩ := bindO hr
  replace ey73 := (F121_ok ey73)
  refine Ok.val eqs_nil rfl rfl (DOpP.callF ey73 rfl rfl rfl eqs_nil (ImpL.refl _) (.inr rfl)) ?_
  refine dr_run mixed 1000 ?_; conv => (arg 3; whnf)
  refine Ok.split ?_ ?_ <;> intro h74 <;> conv => (arg 3; whnf)
  · replace hr := bT h74 hr
    obtain ⟨y75, ey75, hr⟩ := bindO hr
    replace ey75 := (F124_ok ey75)
    refine Ok.stuck eqs_nil ?_; refine DWP.callS 0 ey75 rfl rfl rfl rfl (SImp.box rfl (by exact ImpL.refl _)) rfl ?_
    refine dr_run mixed 1000 ?_; conv => (arg 3; whnf)
    obtain ⟨y76, ey76, hr⟩ := bindO hr
    replace ey76 := (F74_ok ey76)
    refine Ok.val eqs_nil rfl rfl (DOpP.callF ey76 rfl rfl rfl eqs_nil (ImpL.refl _) (.inr rfl)) ?_
    refine dr_run mixed 1000 ?_; conv => (arg 3; whnf)
    refine Ok.split ?_ ?_ <;> intro h77 <;> conv => (arg 3; whnf)
    · replace hr := bT h77 hr
      refine Ok.stuck eqs_nil ?_; refine DWP.inl (rs := _) rfl Tryz.func128 rfl (by kernel_rfl) rfl Tryz.ntmps128 rfl rfl ?_
      refine dr_run mixed 1000 ?_; conv => (arg 3; whnf)
      refine Ok.stuck eqs_nil ?_
      refine DWP.nilRowN 1 25 5 4 rfl rfl ?_
      refine DWP.nilRowN 4 25 5 5 rfl rfl ?_
      refine DWP.loopA (S := (List TNode) × (List TNode) × Tplexusref16UP) 6 [0] [1, 4] (fun s => [(1, .os 4 (TNode.rows s.1).length), (4, .os 5 (TNode.rows s.2.1).length)]) (fun s => [(4, .row 25 5 (TNode.rows s.1)), (5, .row 25 5 (TNode.rows s.2.1)), (0, .box ((Tplexusref16UP.cs s.2.2).map .d))]) (fun m s => m ≤ n ∧ F73_L2 a0 y1 y4 y6 y8 y11 y14 y28 y42 y48 y56 y73 y75 y76 m s.1 s.2.1 s.2.2 = some r) n ([], [], y75.snd) rfl rfl rfl rfl rfl rfl ⟨Nat.le_refl _, hr⟩ ?_
      clear hr
      rintro n ⟨s78, s79, s80⟩ ⟨hle, hr⟩
      rcases n with _ | n
      · exact noneO hr
      replace hr : F73_L2 a0 y1 y4 y6 y8 y11 y14 y28 y42 y48 y56 y73 y75 y76 (n + 1) s78 s79 s80 = some r := hr
      rw [F73_L2] at hr
      refine dr_run mixed 1000 ?_; conv => (arg 3; whnf)
      obtain ⟨y81, ey81, hr⟩ := bindO hr
      replace ey81 := (F74_ok ey81)
      refine Ok.val eqs_nil rfl rfl (DOpP.callF ey81 rfl rfl rfl eqs_nil (ImpL.refl _) (.inr rfl)) ?_
      refine dr_run mixed 1000 ?_; conv => (arg 3; whnf)
      obtain ⟨y82, ey82, hr⟩ := bindO hr
      replace ey82 := (F125_ok ey82)
      refine Ok.stuck eqs_nil ?_; refine DWP.callS 0 ey82 rfl rfl rfl rfl (SImp.box rfl (by exact ImpL.refl _)) rfl ?_
      refine dr_run mixed 1000 ?_; conv => (arg 3; whnf)
      refine Ok.stuck eqs_nil ?_; refine DWP.rowImp 7 (rows' := TNode.rows ([{ Kind := 47, Text := y82.fst, N := 0, At := y81.At, Kids := [] : TNode }])) rfl (by (try simp only [gsimp]); repeat (first | exact Imp.refl _ | exact Imp.nil _ | exact ImpL.nil | exact ImpR.nil | exact ImpL.refl _ | exact ImpR.refl _ | exact Imp.of (by simp only [gsimp]; rfl) | (dsimp only; try simp only [gsimp]) | apply Imp.agg | apply Imp.tup | apply Imp.ip | apply Imp.fn | apply ImpL.cons | apply Imp.sl | apply ImpR.cons | apply ImpR.append)) ?_
      refine dr_run mixed 1000 ?_; conv => (arg 3; whnf)
      obtain ⟨h83, hr⟩ := guardO hr
      refine Ok.stuck eqs_nil ?_; refine DO.appRow rfl rfl (by first | rfl | simp only [List.length_set] | simp only [glen, List.length_set, List.length_replicate, List.length_append, List.length_cons, List.length_nil]) rfl rfl (by first | rfl | simp only [List.length_set] | simp only [glen, List.length_set, List.length_replicate, List.length_append, List.length_cons, List.length_nil]) rfl rfl (TNode.rows_ones _) rfl rfl rfl (by have h0 := of_decide_eq_true h83; simp only [List.length_append, List.length_set, List.length_cons, List.length_nil, chunk_length, TNode.rows_len] at h0 ⊢; omega) ?_
      refine dr_run mixed 1000 ?_; conv => (arg 3; whnf)
      obtain ⟨y84, ey84, hr⟩ := bindO hr
      replace ey84 := (F121_ok ey84)
      refine Ok.val eqs_nil rfl rfl (DOpP.callF ey84 rfl rfl rfl eqs_nil (ImpL.refl _) (.inr rfl)) ?_
      refine dr_run mixed 1000 ?_; conv => (arg 3; whnf)
      refine Ok.split ?_ ?_ <;> intro h85 <;> conv => (arg 3; whnf)
      · replace hr := bT h85 hr
        refine Ok.stuck eqs_nil ?_
        refine DWP.loopA (S := Tplexusref16UP × (List TNode)) 8 [0, 2, 4] [] (fun s => []) (fun s => [(0, .box ((Tplexusref16UP.cs s.1).map .d)), (4, .row 25 5 (TNode.rows s.2)), (3, .box [.d (.v (.int .i64 (19))), .d (.v (.string ⟨⟨([])⟩⟩)), .d (.v (.int .i64 (0))), .d (.v (.int .i64 (y1.At))), .os 4 (TNode.rows s.2).length])]) (fun m s => m ≤ n ∧ F73_L3 a0 y1 y4 y6 y8 y11 y14 y28 y42 y48 y56 y73 y75 y76 s78 s79 s80 y81 y82 y84 m s.1 s.2 = some r) n (y82.snd, s78 ++ [{ Kind := 47, Text := y82.fst, N := 0, At := y81.At, Kids := [] : TNode }]) rfl rfl rfl rfl rfl (by first | rfl | (simp only [gsimp]; rfl)) ⟨Nat.le_refl _, hr⟩ ?_
        clear hr
        rintro n ⟨s86, s91⟩ ⟨hle, hr⟩
        rcases n with _ | n
        · exact noneO hr
        replace hr : F73_L3 a0 y1 y4 y6 y8 y11 y14 y28 y42 y48 y56 y73 y75 y76 s78 s79 s80 y81 y82 y84 (n + 1) s86 s91 = some r := hr
        rw [F73_L3] at hr
        refine dr_run mixed 1000 ?_; conv => (arg 3; whnf)
        obtain ⟨y92, ey92, hr⟩ := bindO hr
        replace ey92 := (F121_ok ey92)
        refine Ok.val eqs_nil rfl rfl (DOpP.callF ey92 rfl rfl rfl eqs_nil (ImpL.refl _) (.inr rfl)) ?_
        refine dr_run mixed 1000 ?_; conv => (arg 3; whnf)
        refine Ok.split ?_ ?_ <;> intro h93 <;> conv => (arg 3; whnf)
        · replace hr := bT h93 hr
          obtain ⟨y94, ey94, hr⟩ := bindO hr
          replace ey94 := (F74_ok ey94)
          refine Ok.val eqs_nil rfl rfl (DOpP.callF ey94 rfl rfl rfl eqs_nil (ImpL.refl _) (.inr rfl)) ?_
          refine dr_run mixed 1000 ?_; conv => (arg 3; whnf)
          obtain ⟨y95, ey95, hr⟩ := bindO hr
          replace ey95 := (F74_ok ey95)
          refine Ok.val eqs_nil rfl rfl (DOpP.callF ey95 rfl rfl rfl eqs_nil (ImpL.refl _) (.inr rfl)) ?_
          refine dr_run mixed 1000 ?_; conv => (arg 3; whnf)
          refine Ok.split ?_ ?_ <;> intro h96 <;> conv => (arg 3; whnf)
          · replace hr := bT h96 hr
            refine Ok.stuck eqs_nil ?_; refine DWP.inl (rs := _) rfl Tryz.func128 rfl (by kernel_rfl) rfl Tryz.ntmps128 rfl rfl ?_
            refine dr_run mixed 1000 ?_; conv => (arg 3; whnf)
            refine Ok.stuck eqs_nil ?_
            refine DWP.nilRowN 1 25 5 9 rfl rfl ?_
            refine DWP.nilRowN 4 25 5 10 rfl rfl ?_
            refine DWP.loopA (S := (List TNode) × (List TNode) × Tplexusref16UP) 11 [0] [1, 4] (fun s => [(1, .os 9 (TNode.rows s.1).length), (4, .os 10 (TNode.rows s.2.1).length)]) (fun s => [(9, .row 25 5 (TNode.rows s.1)), (10, .row 25 5 (TNode.rows s.2.1)), (0, .box ((Tplexusref16UP.cs s.2.2).map .d))]) (fun m s => m ≤ n ∧ F73_L4 a0 y1 y4 y6 y8 y11 y14 y28 y42 y48 y56 y73 y75 y76 s78 s79 s80 y81 y82 y84 s86 s91 y92 y94 y95 m s.1 s.2.1 s.2.2 = some r) n ([], [], { T := s86.T, I := IntKind.i64.wrap (s86.I + 1), Open := s86.Open, Bad := s86.Bad, Fault := s86.Fault : Tplexusref16UP }) rfl rfl rfl rfl rfl rfl ⟨Nat.le_refl _, hr⟩ ?_
            clear hr
            rintro n ⟨s97, s98, s99⟩ ⟨hle, hr⟩
            rcases n with _ | n
            · exact noneO hr
            replace hr : F73_L4 a0 y1 y4 y6 y8 y11 y14 y28 y42 y48 y56 y73 y75 y76 s78 s79 s80 y81 y82 y84 s86 s91 y92 y94 y95 (n + 1) s97 s98 s99 = some r := hr
            rw [F73_L4] at hr
            refine dr_run mixed 1000 ?_; conv => (arg 3; whnf)
            obtain ⟨y100, ey100, hr⟩ := bindO hr
            replace ey100 := (F74_ok ey100)
            refine Ok.val eqs_nil rfl rfl (DOpP.callF ey100 rfl rfl rfl eqs_nil (ImpL.refl _) (.inr rfl)) ?_
            refine dr_run mixed 1000 ?_; conv => (arg 3; whnf)
            obtain ⟨y101, ey101, hr⟩ := bindO hr
            replace ey101 := (F125_ok ey101)
            refine Ok.stuck eqs_nil ?_; refine DWP.callS 0 ey101 rfl rfl rfl rfl (SImp.box rfl (by exact ImpL.refl _)) rfl ?_
            refine dr_run mixed 1000 ?_; conv => (arg 3; whnf)
            refine Ok.stuck eqs_nil ?_; refine DWP.rowImp 12 (rows' := TNode.rows ([{ Kind := 47, Text := y101.fst, N := 0, At := y100.At, Kids := [] : TNode }])) rfl (by (try simp only [gsimp]); repeat (first | exact Imp.refl _ | exact Imp.nil _ | exact ImpL.nil | exact ImpR.nil | exact ImpL.refl _ | exact ImpR.refl _ | exact Imp.of (by simp only [gsimp]; rfl) | (dsimp only; try simp only [gsimp]) | apply Imp.agg | apply Imp.tup | apply Imp.ip | apply Imp.fn | apply ImpL.cons | apply Imp.sl | apply ImpR.cons | apply ImpR.append)) ?_
            refine dr_run mixed 1000 ?_; conv => (arg 3; whnf)
            obtain ⟨h102, hr⟩ := guardO hr
            refine Ok.stuck eqs_nil ?_; refine DO.appRow rfl rfl (by first | rfl | simp only [List.length_set] | simp only [glen, List.length_set, List.length_replicate, List.length_append, List.length_cons, List.length_nil]) rfl rfl (by first | rfl | simp only [List.length_set] | simp only [glen, List.length_set, List.length_replicate, List.length_append, List.length_cons, List.length_nil]) rfl rfl (TNode.rows_ones _) rfl rfl rfl (by have h0 := of_decide_eq_true h102; simp only [List.length_append, List.length_set, List.length_cons, List.length_nil, chunk_length, TNode.rows_len] at h0 ⊢; omega) ?_
            refine dr_run mixed 1000 ?_; conv => (arg 3; whnf)
            obtain ⟨y103, ey103, hr⟩ := bindO hr
            replace ey103 := (F121_ok ey103)
            refine Ok.val eqs_nil rfl rfl (DOpP.callF ey103 rfl rfl rfl eqs_nil (ImpL.refl _) (.inr rfl)) ?_
            refine dr_run mixed 1000 ?_; conv => (arg 3; whnf)
            refine Ok.split ?_ ?_ <;> intro h104 <;> conv => (arg 3; whnf)
            · replace hr := bT h104 hr
              obtain ⟨y105, ey105, hr⟩ := bindO hr
              replace ey105 := (F124_ok ey105)
              refine Ok.stuck eqs_nil ?_; refine DWP.callS 0 ey105 rfl rfl rfl rfl (SImp.box rfl (by exact ImpL.refl _)) rfl ?_
              refine dr_run mixed 1000 ?_; conv => (arg 3; whnf)
              obtain ⟨y106, ey106, hr⟩ := bindO hr
              replace ey106 := (F74_ok ey106)
              refine Ok.val eqs_nil rfl rfl (DOpP.callF ey106 rfl rfl rfl eqs_nil (ImpL.refl _) (.inr rfl)) ?_
              refine dr_run mixed 1000 ?_; conv => (arg 3; whnf)
              obtain ⟨y107, ey107, hr⟩ := bindO hr
              replace ey107 := (F125_ok ey107)
              refine Ok.stuck eqs_nil ?_; refine DWP.callS 0 ey107 rfl rfl rfl rfl (SImp.box rfl (by exact ImpL.refl _)) rfl ?_
              refine dr_run mixed 1000 ?_; conv => (arg 3; whnf)
              refine Ok.stuck eqs_nil ?_; refine DWP.rowImp 14 (rows' := TNode.rows ([{ Kind := 47, Text := y107.fst, N := 0, At := y106.At, Kids := [] : TNode }])) rfl (by (try simp only [gsimp]); repeat (first | exact Imp.refl _ | exact Imp.nil _ | exact ImpL.nil | exact ImpR.nil | exact ImpL.refl _ | exact ImpR.refl _ | exact Imp.of (by simp only [gsimp]; rfl) | (dsimp only; try simp only [gsimp]) | apply Imp.agg | apply Imp.tup | apply Imp.ip | apply Imp.fn | apply ImpL.cons | apply Imp.sl | apply ImpR.cons | apply ImpR.append)) ?_
              refine dr_run mixed 1000 ?_; conv => (arg 3; whnf)
              obtain ⟨h108, hr⟩ := guardO hr
              refine Ok.stuck eqs_nil ?_; refine DO.appRow rfl rfl (by first | rfl | simp only [List.length_set] | simp only [glen, List.length_set, List.length_replicate, List.length_append, List.length_cons, List.length_nil]) rfl rfl (by first | rfl | simp only [List.length_set] | simp only [glen, List.length_set, List.length_replicate, List.length_append, List.length_cons, List.length_nil]) rfl rfl (TNode.rows_ones _) rfl rfl rfl (by have h0 := of_decide_eq_true h108; simp only [List.length_append, List.length_set, List.length_cons, List.length_nil, chunk_length, TNode.rows_len] at h0 ⊢; omega) ?_
              refine dr_run mixed 1000 ?_; conv => (arg 3; whnf)
              refine Ok.stuck (eqs_cons rfl eqs_nil) ?_; refine DWP.rowImp 15 (rows' := TNode.rows ([{ Kind := 20, Text := [], N := 0, At := y94.At, Kids := s97 ++ [{ Kind := 47, Text := y101.fst, N := 0, At := y100.At, Kids := [] : TNode }] ++ [{ Kind := 47, Text := y107.fst, N := 0, At := y106.At, Kids := [] : TNode }] : TNode }])) rfl (by (try simp only [gsimp]); repeat (first | exact Imp.refl _ | exact Imp.nil _ | exact ImpL.nil | exact ImpR.nil | exact ImpL.refl _ | exact ImpR.refl _ | exact Imp.of (by simp only [gsimp]; rfl) | (dsimp only; try simp only [gsimp]) | apply Imp.agg | apply Imp.tup | apply Imp.ip | apply Imp.fn | apply ImpL.cons | apply Imp.sl | apply ImpR.cons | apply ImpR.append)) ?_
              refine dr_run mixed 1000 ?_; conv => (arg 3; whnf)
              obtain ⟨h109, hr⟩ := guardO hr
              refine Ok.stuck eqs_nil ?_; refine DO.appRow rfl rfl (by first | rfl | simp only [List.length_set] | simp only [glen, List.length_set, List.length_replicate, List.length_append, List.length_cons, List.length_nil]) rfl rfl (by first | rfl | simp only [List.length_set] | simp only [glen, List.length_set, List.length_replicate, List.length_append, List.length_cons, List.length_nil]) rfl rfl (TNode.rows_ones _) rfl rfl rfl (by have h0 := of_decide_eq_true h109; simp only [List.length_append, List.length_set, List.length_cons, List.length_nil, chunk_length, TNode.rows_len] at h0 ⊢; omega) ?_
              refine dr_run mixed 1000 ?_; conv => (arg 3; whnf)
              refine Ok.stuck eqs_nil ?_
              exact DWP.nextA (y107.snd, s91 ++ [{ Kind := 20, Text := [], N := 0, At := y94.At, Kids := s97 ++ [{ Kind := 47, Text := y101.fst, N := 0, At := y100.At, Kids := [] : TNode }] ++ [{ Kind := 47, Text := y107.fst, N := 0, At := y106.At, Kids := [] : TNode }] : TNode }]) n rfl rfl (by first | rfl | (simp only [gsimp]; rfl) | (simp only [gsimp, List.length_set]; rfl) | (simp only [gcs, gsimp, List.length_set]; rfl)) (by first | rfl | (simp only [gsimp]; rfl) | (simp only [gsimp, List.length_set]; rfl) | (simp only [gcs, gsimp, List.length_set]; rfl)) (by omega) ⟨by omega, by exact hr⟩
            replace hr := bF h104 hr
            refine Ok.stuck eqs_nil ?_
            exact DWP.nextA (s97 ++ [{ Kind := 47, Text := y101.fst, N := 0, At := y100.At, Kids := [] : TNode }], s98, { T := y101.snd.T, I := IntKind.i64.wrap (y101.snd.I + 1), Open := y101.snd.Open, Bad := y101.snd.Bad, Fault := y101.snd.Fault : Tplexusref16UP }) n rfl rfl (by first | rfl | (simp only [gsimp]; rfl) | (simp only [gsimp, List.length_set]; rfl) | (simp only [gcs, gsimp, List.length_set]; rfl)) (by first | rfl | (simp only [gsimp]; rfl) | (simp only [gsimp, List.length_set]; rfl) | (simp only [gcs, gsimp, List.length_set]; rfl)) (by omega) ⟨by omega, by exact hr⟩
          replace hr := bF h96 hr
          obtain ⟨y110, ey110, hr⟩ := bindO hr
          replace ey110 := (F124_ok ey110)
          refine Ok.stuck eqs_nil ?_; refine DWP.callS 0 ey110 rfl rfl rfl rfl (SImp.box rfl (by exact ImpL.refl _)) rfl ?_
          refine dr_run mixed 1000 ?_; conv => (arg 3; whnf)
          obtain ⟨y111, ey111, hr⟩ := bindO hr
          replace ey111 := (F74_ok ey111)
          refine Ok.val eqs_nil rfl rfl (DOpP.callF ey111 rfl rfl rfl eqs_nil (ImpL.refl _) (.inr rfl)) ?_
          refine dr_run mixed 1000 ?_; conv => (arg 3; whnf)
          obtain ⟨y112, ey112, hr⟩ := bindO hr
          replace ey112 := (F125_ok ey112)
          refine Ok.stuck eqs_nil ?_; refine DWP.callS 0 ey112 rfl rfl rfl rfl (SImp.box rfl (by exact ImpL.refl _)) rfl ?_
          refine dr_run mixed 1000 ?_; conv => (arg 3; whnf)
          refine Ok.stuck eqs_nil ?_; refine DWP.rowImp 10 (rows' := TNode.rows ([{ Kind := 47, Text := y112.fst, N := 0, At := y111.At, Kids := [] : TNode }])) rfl (by (try simp only [gsimp]); repeat (first | exact Imp.refl _ | exact Imp.nil _ | exact ImpL.nil | exact ImpR.nil | exact ImpL.refl _ | exact ImpR.refl _ | exact Imp.of (by simp only [gsimp]; rfl) | (dsimp only; try simp only [gsimp]) | apply Imp.agg | apply Imp.tup | apply Imp.ip | apply Imp.fn | apply ImpL.cons | apply Imp.sl | apply ImpR.cons | apply ImpR.append)) ?_
          refine dr_run mixed 1000 ?_; conv => (arg 3; whnf)
          obtain ⟨h113, hr⟩ := guardO hr
          refine Ok.stuck eqs_nil ?_; refine DO.appRow rfl rfl (by first | rfl | simp only [List.length_set] | simp only [glen, List.length_set, List.length_replicate, List.length_append, List.length_cons, List.length_nil]) rfl rfl (by first | rfl | simp only [List.length_set] | simp only [glen, List.length_set, List.length_replicate, List.length_append, List.length_cons, List.length_nil]) rfl rfl (TNode.rows_ones _) rfl rfl rfl (by have h0 := of_decide_eq_true h113; simp only [List.length_append, List.length_set, List.length_cons, List.length_nil, chunk_length, TNode.rows_len] at h0 ⊢; omega) ?_
          refine dr_run mixed 1000 ?_; conv => (arg 3; whnf)
          refine Ok.stuck (eqs_cons rfl eqs_nil) ?_; refine DWP.rowImp 12 (rows' := TNode.rows ([{ Kind := 20, Text := [], N := 0, At := y94.At, Kids := [] ++ [{ Kind := 47, Text := y112.fst, N := 0, At := y111.At, Kids := [] : TNode }] : TNode }])) rfl (by exact ImpR.refl _) ?_
          refine dr_run mixed 1000 ?_; conv => (arg 3; whnf)
          obtain ⟨h114, hr⟩ := guardO hr
          refine Ok.stuck eqs_nil ?_; refine DO.appRow rfl rfl (by first | rfl | simp only [List.length_set] | simp only [glen, List.length_set, List.length_replicate, List.length_append, List.length_cons, List.length_nil]) rfl rfl (by first | rfl | simp only [List.length_set] | simp only [glen, List.length_set, List.length_replicate, List.length_append, List.length_cons, List.length_nil]) rfl rfl (TNode.rows_ones _) rfl rfl rfl (by have h0 := of_decide_eq_true h114; simp only [List.length_append, List.length_set, List.length_cons, List.length_nil, chunk_length, TNode.rows_len] at h0 ⊢; omega) ?_
          refine dr_run mixed 1000 ?_; conv => (arg 3; whnf)
          refine Ok.stuck eqs_nil ?_
          exact DWP.nextA (y112.snd, s91 ++ [{ Kind := 20, Text := [], N := 0, At := y94.At, Kids := [] ++ [{ Kind := 47, Text := y112.fst, N := 0, At := y111.At, Kids := [] : TNode }] : TNode }]) n rfl rfl (by first | rfl | (simp only [gsimp]; rfl) | (simp only [gsimp, List.length_set]; rfl) | (simp only [gcs, gsimp, List.length_set]; rfl)) (by first | rfl | (simp only [gsimp]; rfl) | (simp only [gsimp, List.length_set]; rfl) | (simp only [gcs, gsimp, List.length_set]; rfl)) (by omega) ⟨by omega, by exact hr⟩
        replace hr := bF h93 hr
        obtain ⟨y115, ey115, hr⟩ := bindO hr
        replace ey115 := (F124_ok ey115)
        refine Ok.stuck eqs_nil ?_; refine DWP.callS 0 ey115 rfl rfl rfl rfl (SImp.box rfl (by exact ImpL.refl _)) rfl ?_
        refine dr_run mixed 1000 ?_; conv => (arg 3; whnf)
        refine Ok.fin (eqs_cons rfl eqs_nil) ?_
        obtain rfl := Option.some.inj hr
        exact RD.leafSB rfl rfl rfl eqs_nil rfl (by exact Imp.refl _) (by exact ImpL.refl _)
      replace hr := bF h85 hr
      refine Ok.stuck eqs_nil ?_
      exact DWP.nextA (s78 ++ [{ Kind := 47, Text := y82.fst, N := 0, At := y81.At, Kids := [] : TNode }], s79, { T := y82.snd.T, I := IntKind.i64.wrap (y82.snd.I + 1), Open := y82.snd.Open, Bad := y82.snd.Bad, Fault := y82.snd.Fault : Tplexusref16UP }) n rfl rfl (by first | rfl | (simp only [gsimp]; rfl) | (simp only [gsimp, List.length_set]; rfl) | (simp only [gcs, gsimp, List.length_set]; rfl)) (by first | rfl | (simp only [gsimp]; rfl) | (simp only [gsimp, List.length_set]; rfl) | (simp only [gcs, gsimp, List.length_set]; rfl)) (by omega) ⟨by omega, by exact hr⟩
    replace hr := bF h77 hr
    refine Ok.stuck eqs_nil ?_
    refine DWP.nilCell 3 4 25 5 4 rfl rfl rfl ?_
    refine DWP.loopA (S := Tplexusref16UP × (List TNode)) 5 [0, 2, 4] [] (fun s => []) (fun s => [(0, .box ((Tplexusref16UP.cs s.1).map .d)), (4, .row 25 5 (TNode.rows s.2)), (3, .box [.d (.v (.int .i64 (19))), .d (.v (.string ⟨⟨([])⟩⟩)), .d (.v (.int .i64 (0))), .d (.v (.int .i64 (y1.At))), .os 4 (TNode.rows s.2).length])]) (fun m s => m ≤ n ∧ F73_L5 a0 y1 y4 y6 y8 y11 y14 y28 y42 y48 y56 y73 y75 y76 m s.1 s.2 = some r) n (y75.snd, []) rfl rfl rfl rfl rfl rfl ⟨Nat.le_refl _, hr⟩ ?_
    clear hr
    rintro n ⟨s116, s121⟩ ⟨hle, hr⟩
    rcases n with _ | n
    · exact noneO hr
    replace hr : F73_L5 a0 y1 y4 y6 y8 y11 y14 y28 y42 y48 y56 y73 y75 y76 (n + 1) s116 s121 = some r := hr
    rw [F73_L5] at hr
    refine dr_run mixed 1000 ?_; conv => (arg 3; whnf)
    obtain ⟨y122, ey122, hr⟩ := bindO hr
    replace ey122 := (F121_ok ey122)
    refine Ok.val eqs_nil rfl rfl (DOpP.callF ey122 rfl rfl rfl eqs_nil (ImpL.refl _) (.inr rfl)) ?_
    refine dr_run mixed 1000 ?_; conv => (arg 3; whnf)
    refine Ok.split ?_ ?_ <;> intro h123 <;> conv => (arg 3; whnf)
    · replace hr := bT h123 hr
      obtain ⟨y124, ey124, hr⟩ := bindO hr
      replace ey124 := (F74_ok ey124)
      refine Ok.val eqs_nil rfl rfl (DOpP.callF ey124 rfl rfl rfl eqs_nil (ImpL.refl _) (.inr rfl)) ?_
      refine dr_run mixed 1000 ?_; conv => (arg 3; whnf)
      obtain ⟨y125, ey125, hr⟩ := bindO hr
      replace ey125 := (F74_ok ey125)
      refine Ok.val eqs_nil rfl rfl (DOpP.callF ey125 rfl rfl rfl eqs_nil (ImpL.refl _) (.inr rfl)) ?_
      refine dr_run mixed 1000 ?_; conv => (arg 3; whnf)
      refine Ok.split ?_ ?_ <;> intro h126 <;> conv => (arg 3; whnf)
      · replace hr := bT h126 hr
        refine Ok.stuck eqs_nil ?_; refine DWP.inl (rs := _) rfl Tryz.func128 rfl (by kernel_rfl) rfl Tryz.ntmps128 rfl rfl ?_
        refine dr_run mixed 1000 ?_; conv => (arg 3; whnf)
        refine Ok.stuck eqs_nil ?_
        refine DWP.nilRowN 1 25 5 6 rfl rfl ?_
        refine DWP.nilRowN 4 25 5 7 rfl rfl ?_
        refine DWP.loopA (S := (List TNode) × (List TNode) × Tplexusref16UP) 8 [0] [1, 4] (fun s => [(1, .os 6 (TNode.rows s.1).length), (4, .os 7 (TNode.rows s.2.1).length)]) (fun s => [(6, .row 25 5 (TNode.rows s.1)), (7, .row 25 5 (TNode.rows s.2.1)), (0, .box ((Tplexusref16UP.cs s.2.2).map .d))]) (fun m s => m ≤ n ∧ F73_L6 a0 y1 y4 y6 y8 y11 y14 y28 y42 y48 y56 y73 y75 y76 s116 s121 y122 y124 y125 m s.1 s.2.1 s.2.2 = some r) n ([], [], { T := s116.T, I := IntKind.i64.wrap (s116.I + 1), Open := s116.Open, Bad := s116.Bad, Fault := s116.Fault : Tplexusref16UP }) rfl rfl rfl rfl rfl rfl ⟨Nat.le_refl _, hr⟩ ?_
        clear hr
        rintro n ⟨s127, s128, s129⟩ ⟨hle, hr⟩
        rcases n with _ | n
        · exact noneO hr
        replace hr : F73_L6 a0 y1 y4 y6 y8 y11 y14 y28 y42 y48 y56 y73 y75 y76 s116 s121 y122 y124 y125 (n + 1) s127 s128 s129 = some r := hr
        rw [F73_L6] at hr
        refine dr_run mixed 1000 ?_; conv => (arg 3; whnf)
        obtain ⟨y130, ey130, hr⟩ := bindO hr
        replace ey130 := (F74_ok ey130)
        refine Ok.val eqs_nil rfl rfl (DOpP.callF ey130 rfl rfl rfl eqs_nil (ImpL.refl _) (.inr rfl)) ?_
        refine dr_run mixed 1000 ?_; conv => (arg 3; whnf)
        obtain ⟨y131, ey131, hr⟩ := bindO hr
        replace ey131 := (F125_ok ey131)
        refine Ok.stuck eqs_nil ?_; refine DWP.callS 0 ey131 rfl rfl rfl rfl (SImp.box rfl (by exact ImpL.refl _)) rfl ?_
        refine dr_run mixed 1000 ?_; conv => (arg 3; whnf)
        refine Ok.stuck eqs_nil ?_; refine DWP.rowImp 9 (rows' := TNode.rows ([{ Kind := 47, Text := y131.fst, N := 0, At := y130.At, Kids := [] : TNode }])) rfl (by (try simp only [gsimp]); repeat (first | exact Imp.refl _ | exact Imp.nil _ | exact ImpL.nil | exact ImpR.nil | exact ImpL.refl _ | exact ImpR.refl _ | exact Imp.of (by simp only [gsimp]; rfl) | (dsimp only; try simp only [gsimp]) | apply Imp.agg | apply Imp.tup | apply Imp.ip | apply Imp.fn | apply ImpL.cons | apply Imp.sl | apply ImpR.cons | apply ImpR.append)) ?_
        refine dr_run mixed 1000 ?_; conv => (arg 3; whnf)
        obtain ⟨h132, hr⟩ := guardO hr
        refine Ok.stuck eqs_nil ?_; refine DO.appRow rfl rfl (by first | rfl | simp only [List.length_set] | simp only [glen, List.length_set, List.length_replicate, List.length_append, List.length_cons, List.length_nil]) rfl rfl (by first | rfl | simp only [List.length_set] | simp only [glen, List.length_set, List.length_replicate, List.length_append, List.length_cons, List.length_nil]) rfl rfl (TNode.rows_ones _) rfl rfl rfl (by have h0 := of_decide_eq_true h132; simp only [List.length_append, List.length_set, List.length_cons, List.length_nil, chunk_length, TNode.rows_len] at h0 ⊢; omega) ?_
        refine dr_run mixed 1000 ?_; conv => (arg 3; whnf)
        obtain ⟨y133, ey133, hr⟩ := bindO hr
        replace ey133 := (F121_ok ey133)
        refine Ok.val eqs_nil rfl rfl (DOpP.callF ey133 rfl rfl rfl eqs_nil (ImpL.refl _) (.inr rfl)) ?_
        refine dr_run mixed 1000 ?_; conv => (arg 3; whnf)
        refine Ok.split ?_ ?_ <;> intro h134 <;> conv => (arg 3; whnf)
        · replace hr := bT h134 hr
          obtain ⟨y135, ey135, hr⟩ := bindO hr
          replace ey135 := (F124_ok ey135)
          refine Ok.stuck eqs_nil ?_; refine DWP.callS 0 ey135 rfl rfl rfl rfl (SImp.box rfl (by exact ImpL.refl _)) rfl ?_
          refine dr_run mixed 1000 ?_; conv => (arg 3; whnf)
          obtain ⟨y136, ey136, hr⟩ := bindO hr
          replace ey136 := (F74_ok ey136)
          refine Ok.val eqs_nil rfl rfl (DOpP.callF ey136 rfl rfl rfl eqs_nil (ImpL.refl _) (.inr rfl)) ?_
          refine dr_run mixed 1000 ?_; conv => (arg 3; whnf)
          obtain ⟨y137, ey137, hr⟩ := bindO hr
          replace ey137 := (F125_ok ey137)
          refine Ok.stuck eqs_nil ?_; refine DWP.callS 0 ey137 rfl rfl rfl rfl (SImp.box rfl (by exact ImpL.refl _)) rfl ?_
          refine dr_run mixed 1000 ?_; conv => (arg 3; whnf)
          refine Ok.stuck eqs_nil ?_; refine DWP.rowImp 11 (rows' := TNode.rows ([{ Kind := 47, Text := y137.fst, N := 0, At := y136.At, Kids := [] : TNode }])) rfl (by (try simp only [gsimp]); repeat (first | exact Imp.refl _ | exact Imp.nil _ | exact ImpL.nil | exact ImpR.nil | exact ImpL.refl _ | exact ImpR.refl _ | exact Imp.of (by simp only [gsimp]; rfl) | (dsimp only; try simp only [gsimp]) | apply Imp.agg | apply Imp.tup | apply Imp.ip | apply Imp.fn | apply ImpL.cons | apply Imp.sl | apply ImpR.cons | apply ImpR.append)) ?_
          refine dr_run mixed 1000 ?_; conv => (arg 3; whnf)
          obtain ⟨h138, hr⟩ := guardO hr
          refine Ok.stuck eqs_nil ?_; refine DO.appRow rfl rfl (by first | rfl | simp only [List.length_set] | simp only [glen, List.length_set, List.length_replicate, List.length_append, List.length_cons, List.length_nil]) rfl rfl (by first | rfl | simp only [List.length_set] | simp only [glen, List.length_set, List.length_replicate, List.length_append, List.length_cons, List.length_nil]) rfl rfl (TNode.rows_ones _) rfl rfl rfl (by have h0 := of_decide_eq_true h138; simp only [List.length_append, List.length_set, List.length_cons, List.length_nil, chunk_length, TNode.rows_len] at h0 ⊢; omega) ?_
          refine dr_run mixed 1000 ?_; conv => (arg 3; whnf)
          refine Ok.stuck (eqs_cons rfl eqs_nil) ?_; refine DWP.rowImp 12 (rows' := TNode.rows ([{ Kind := 20, Text := [], N := 0, At := y124.At, Kids := s127 ++ [{ Kind := 47, Text := y131.fst, N := 0, At := y130.At, Kids := [] : TNode }] ++ [{ Kind := 47, Text := y137.fst, N := 0, At := y136.At, Kids := [] : TNode }] : TNode }])) rfl (by (try simp only [gsimp]); repeat (first | exact Imp.refl _ | exact Imp.nil _ | exact ImpL.nil | exact ImpR.nil | exact ImpL.refl _ | exact ImpR.refl _ | exact Imp.of (by simp only [gsimp]; rfl) | (dsimp only; try simp only [gsimp]) | apply Imp.agg | apply Imp.tup | apply Imp.ip | apply Imp.fn | apply ImpL.cons | apply Imp.sl | apply ImpR.cons | apply ImpR.append)) ?_
          refine dr_run mixed 1000 ?_; conv => (arg 3; whnf)
          obtain ⟨h139, hr⟩ := guardO hr
          refine Ok.stuck eqs_nil ?_; refine DO.appRow rfl rfl (by first | rfl | simp only [List.length_set] | simp only [glen, List.length_set, List.length_replicate, List.length_append, List.length_cons, List.length_nil]) rfl rfl (by first | rfl | simp only [List.length_set] | simp only [glen, List.length_set, List.length_replicate, List.length_append, List.length_cons, List.length_nil]) rfl rfl (TNode.rows_ones _) rfl rfl rfl (by have h0 := of_decide_eq_true h139; simp only [List.length_append, List.length_set, List.length_cons, List.length_nil, chunk_length, TNode.rows_len] at h0 ⊢; omega) ?_
          refine dr_run mixed 1000 ?_; conv => (arg 3; whnf)
          refine Ok.stuck eqs_nil ?_
          exact DWP.nextA (y137.snd, s121 ++ [{ Kind := 20, Text := [], N := 0, At := y124.At, Kids := s127 ++ [{ Kind := 47, Text := y131.fst, N := 0, At := y130.At, Kids := [] : TNode }] ++ [{ Kind := 47, Text := y137.fst, N := 0, At := y136.At, Kids := [] : TNode }] : TNode }]) n rfl rfl (by first | rfl | (simp only [gsimp]; rfl) | (simp only [gsimp, List.length_set]; rfl) | (simp only [gcs, gsimp, List.length_set]; rfl)) (by first | rfl | (simp only [gsimp]; rfl) | (simp only [gsimp, List.length_set]; rfl) | (simp only [gcs, gsimp, List.length_set]; rfl)) (by omega) ⟨by omega, by exact hr⟩
        replace hr := bF h134 hr
        refine Ok.stuck eqs_nil ?_
        exact DWP.nextA (s127 ++ [{ Kind := 47, Text := y131.fst, N := 0, At := y130.At, Kids := [] : TNode }], s128, { T := y131.snd.T, I := IntKind.i64.wrap (y131.snd.I + 1), Open := y131.snd.Open, Bad := y131.snd.Bad, Fault := y131.snd.Fault : Tplexusref16UP }) n rfl rfl (by first | rfl | (simp only [gsimp]; rfl) | (simp only [gsimp, List.length_set]; rfl) | (simp only [gcs, gsimp, List.length_set]; rfl)) (by first | rfl | (simp only [gsimp]; rfl) | (simp only [gsimp, List.length_set]; rfl) | (simp only [gcs, gsimp, List.length_set]; rfl)) (by omega) ⟨by omega, by exact hr⟩
      replace hr := bF h126 hr
      obtain ⟨y140, ey140, hr⟩ := bindO hr
      replace ey140 := (F124_ok ey140)
      refine Ok.stuck eqs_nil ?_; refine DWP.callS 0 ey140 rfl rfl rfl rfl (SImp.box rfl (by exact ImpL.refl _)) rfl ?_
      refine dr_run mixed 1000 ?_; conv => (arg 3; whnf)
      obtain ⟨y141, ey141, hr⟩ := bindO hr
      replace ey141 := (F74_ok ey141)
      refine Ok.val eqs_nil rfl rfl (DOpP.callF ey141 rfl rfl rfl eqs_nil (ImpL.refl _) (.inr rfl)) ?_
      refine dr_run mixed 1000 ?_; conv => (arg 3; whnf)
      obtain ⟨y142, ey142, hr⟩ := bindO hr
      replace ey142 := (F125_ok ey142)
      refine Ok.stuck eqs_nil ?_; refine DWP.callS 0 ey142 rfl rfl rfl rfl (SImp.box rfl (by exact ImpL.refl _)) rfl ?_
      refine dr_run mixed 1000 ?_; conv => (arg 3; whnf)
      refine Ok.stuck eqs_nil ?_; refine DWP.rowImp 7 (rows' := TNode.rows ([{ Kind := 47, Text := y142.fst, N := 0, At := y141.At, Kids := [] : TNode }])) rfl (by (try simp only [gsimp]); repeat (first | exact Imp.refl _ | exact Imp.nil _ | exact ImpL.nil | exact ImpR.nil | exact ImpL.refl _ | exact ImpR.refl _ | exact Imp.of (by simp only [gsimp]; rfl) | (dsimp only; try simp only [gsimp]) | apply Imp.agg | apply Imp.tup | apply Imp.ip | apply Imp.fn | apply ImpL.cons | apply Imp.sl | apply ImpR.cons | apply ImpR.append)) ?_
      refine dr_run mixed 1000 ?_; conv => (arg 3; whnf)
      obtain ⟨h143, hr⟩ := guardO hr
      refine Ok.stuck eqs_nil ?_; refine DO.appRow rfl rfl (by first | rfl | simp only [List.length_set] | simp only [glen, List.length_set, List.length_replicate, List.length_append, List.length_cons, List.length_nil]) rfl rfl (by first | rfl | simp only [List.length_set] | simp only [glen, List.length_set, List.length_replicate, List.length_append, List.length_cons, List.length_nil]) rfl rfl (TNode.rows_ones _) rfl rfl rfl (by have h0 := of_decide_eq_true h143; simp only [List.length_append, List.length_set, List.length_cons, List.length_nil, chunk_length, TNode.rows_len] at h0 ⊢; omega) ?_
      refine dr_run mixed 1000 ?_; conv => (arg 3; whnf)
      refine Ok.stuck (eqs_cons rfl eqs_nil) ?_; refine DWP.rowImp 9 (rows' := TNode.rows ([{ Kind := 20, Text := [], N := 0, At := y124.At, Kids := [] ++ [{ Kind := 47, Text := y142.fst, N := 0, At := y141.At, Kids := [] : TNode }] : TNode }])) rfl (by exact ImpR.refl _) ?_
      refine dr_run mixed 1000 ?_; conv => (arg 3; whnf)
      obtain ⟨h144, hr⟩ := guardO hr
      refine Ok.stuck eqs_nil ?_; refine DO.appRow rfl rfl (by first | rfl | simp only [List.length_set] | simp only [glen, List.length_set, List.length_replicate, List.length_append, List.length_cons, List.length_nil]) rfl rfl (by first | rfl | simp only [List.length_set] | simp only [glen, List.length_set, List.length_replicate, List.length_append, List.length_cons, List.length_nil]) rfl rfl (TNode.rows_ones _) rfl rfl rfl (by have h0 := of_decide_eq_true h144; simp only [List.length_append, List.length_set, List.length_cons, List.length_nil, chunk_length, TNode.rows_len] at h0 ⊢; omega) ?_
      refine dr_run mixed 1000 ?_; conv => (arg 3; whnf)
      refine Ok.stuck eqs_nil ?_
      exact DWP.nextA (y142.snd, s121 ++ [{ Kind := 20, Text := [], N := 0, At := y124.At, Kids := [] ++ [{ Kind := 47, Text := y142.fst, N := 0, At := y141.At, Kids := [] : TNode }] : TNode }]) n rfl rfl (by first | rfl | (simp only [gsimp]; rfl) | (simp only [gsimp, List.length_set]; rfl) | (simp only [gcs, gsimp, List.length_set]; rfl)) (by first | rfl | (simp only [gsimp]; rfl) | (simp only [gsimp, List.length_set]; rfl) | (simp only [gcs, gsimp, List.length_set]; rfl)) (by omega) ⟨by omega, by exact hr⟩
    replace hr := bF h123 hr
    obtain ⟨y145, ey145, hr⟩ := bindO hr
    replace ey145 := (F124_ok ey145)
    refine Ok.stuck eqs_nil ?_; refine DWP.callS 0 ey145 rfl rfl rfl rfl (SImp.box rfl (by exact ImpL.refl _)) rfl ?_
    refine dr_run mixed 1000 ?_; conv => (arg 3; whnf)
    refine Ok.fin (eqs_cons rfl eqs_nil) ?_
    obtain rfl := Option.some.inj hr
    exact RD.leafSB rfl rfl rfl eqs_nil rfl (by exact Imp.refl _) (by exact ImpL.refl _)
  replace hr := bF h74 hr
  obtain ⟨y146, ey146, hr⟩ := bindO hr
  replace ey146 := (F76_ok ey146)
  refine Ok.stuck eqs_nil ?_; refine DWP.callS 0 ey146 rfl rfl rfl rfl (SImp.box rfl (by exact ImpL.refl _)) rfl ?_
  refine dr_run mixed 1000 ?_; conv => (arg 3; whnf)
  refine Ok.fin eqs_nil ?_
  obtain rfl := Option.some.inj hr
  exact RD.leafSB rfl rfl rfl eqs_nil rfl (by (try simp only [gsimp]); repeat (first | exact Imp.refl _ | exact Imp.nil _ | exact ImpL.nil | exact ImpR.nil | exact ImpL.refl _ | exact ImpR.refl _ | exact Imp.of (by simp only [gsimp]; rfl) | (dsimp only; try simp only [gsimp]) | apply Imp.agg | apply Imp.tup | apply Imp.ip | apply Imp.fn | apply ImpL.cons | apply Imp.sl | apply ImpR.cons | apply ImpR.append)) (by exact ImpL.refl _)
theorem SCC_F73 : ∀ N n, n ≤ N → (∀ (a0 : Tplexusref16UP) r, F73 n a0 = some r → SPure env 73 [(.own 0 0)] (.box (Tplexusref16UP.cs a0)) (.agg (TNode.cs r.1)) (.box (Tplexusref16UP.cs r.2)))
  | _, 0, _ => by intros; exact noneO ‹_›
  | 0, _ + 1, h => absurd h (by omega)
  | N + 1, n + 1, h => by
    have ih := fun m (hm : m ≤ n) => SCC_F73 N m (by omega)
    intros; exact F73_step n (fun m hm => ih m hm) ‹_›
theorem F73_ok {n : Nat} {a0 : Tplexusref16UP} {r} (hr : F73 n a0 = some r) : SPure env 73 [(.own 0 0)] (.box (Tplexusref16UP.cs a0)) (.agg (TNode.cs r.1)) (.box (Tplexusref16UP.cs r.2)) := (SCC_F73 n n (Nat.le_refl n)) _ _ hr
end Go.Proofs.YtdmkbllocddkaaaGreat
end

section
set_option linter.unusedVariables false
set_option linter.unusedSimpArgs false
namespace Go.Proofs.YtdmkbllocddkaaaGreat
open Go Go.Bw
/- (*plexus.plexusref16.P).sort -/
def F129_L1 (a0 : Tplexusref16UP) : Nat → Int → Option ((Int × Tplexusref16UP))
  | 0, _ => none
  | n + 1, s1 => (bif decide (s1 < (↑4 : Int)) then ((idxO ([[105, 110, 116], [98, 111, 111, 108], [110, 97, 109, 101], [110, 97, 109, 101, 115]]) (s1)).bind fun x3 => ((F121 n (a0) (x3)).bind fun y5 => (bif y5 then (some ((IntKind.i64.wrap (s1 + 1)), ({ T := a0.T, I := IntKind.i64.wrap (a0.I + 1), Open := a0.Open, Bad := a0.Bad, Fault := a0.Fault : Tplexusref16UP }))) else (F129_L1 a0 n (IntKind.i64.wrap (s1 + 1)))))) else ((F76 n (a0) (2)).bind fun y7 => (some ((0), (y7.snd)))))
def F129 (n : Nat) (a0 : Tplexusref16UP) : Option ((Int × Tplexusref16UP)) := (F129_L1 a0 n (0))
set_option maxRecDepth 100000 in
theorem F129_ok {n : Nat} {a0 : Tplexusref16UP} {r} (hr : F129 n a0 = some r) : SPure env 129 [(.own 0 0)] (.box (Tplexusref16UP.cs a0)) (.v (.int .i64 r.1)) (.box (Tplexusref16UP.cs r.2)) := by
  unfold F129 at hr
  refine SPure.walk (E := env) Tryz.func129 rfl (by kernel_rfl) (rs := _) rfl Tryz.ntmps129 rfl ?_
  refine dr_run mixed 1000 ?_; conv => (arg 3; whnf)
  refine Ok.stuck eqs_nil ?_
  refine DWP.loopA (S := Int) 2 [0, 2, 3] [4] (fun s => [(4, .d (.v (.int .i64 s)))]) (fun s => []) (fun m s => m ≤ n ∧ F129_L1 a0 m s = some r) n (0) rfl rfl rfl rfl rfl rfl ⟨Nat.le_refl _, hr⟩ ?_
  clear hr
  rintro n s1 ⟨hle, hr⟩
  rcases n with _ | n
  · exact noneO hr
  replace hr : F129_L1 a0 (n + 1) s1 = some r := hr
  rw [F129_L1] at hr
  refine dr_run mixed 1000 ?_; conv => (arg 3; whnf)
  refine Ok.split ?_ ?_ <;> intro h2 <;> conv => (arg 3; whnf)
  · replace hr := bT h2 hr
    obtain ⟨x3, ex3, hr⟩ := bindO hr
    obtain ⟨j4h, ex3⟩ := idxO_nat ex3
    refine Ok.val eqs_nil rfl rfl (DOpP.idxRow ((s1 : Int).toNat) rfl rfl rfl (by first | rfl | simp only [List.length_set] | simp only [glen, List.length_set, List.length_replicate, List.length_append, List.length_cons, List.length_nil]) rfl rfl j4h (by have h0 := (List.getElem?_eq_some_iff.1 ex3).1; first | exact h0 | (simpa only [rowsS_len, List.length_append, List.length_set, List.length_replicate, List.length_cons, List.length_nil, List.length_take, List.length_drop, chunk_length] using h0))) ?_
    refine dr_run mixed 1000 ?_; conv => (arg 3; whnf)
    refine Ok.val eqs_nil rfl rfl (DOpP.loadRow (s1.toNat) 0 rfl rfl rfl (by first | rfl | simp only [List.length_set] | simp only [glen, List.length_set, List.length_replicate, List.length_append, List.length_cons, List.length_nil]) rfl (by first | exact (rowsS_get ex3) | exact rfl | simpa only [gsimp] using (rowsS_get ex3) | (have h0 := (rowsS_get ex3); simp only [gsimp] at h0; exact h0)) rfl) ?_
    refine dr_run mixed 1000 ?_; conv => (arg 3; whnf)
    obtain ⟨y5, ey5, hr⟩ := bindO hr
    replace ey5 := (F121_ok ey5)
    refine Ok.val eqs_nil rfl rfl (DOpP.callF ey5 rfl rfl rfl eqs_nil (ImpL.refl _) (.inr rfl)) ?_
    refine dr_run mixed 1000 ?_; conv => (arg 3; whnf)
    refine Ok.split ?_ ?_ <;> intro h6 <;> conv => (arg 3; whnf)
    · replace hr := bT h6 hr
      refine Ok.fin eqs_nil ?_
      obtain rfl := Option.some.inj hr
      exact RD.leafSB rfl rfl rfl eqs_nil rfl (by exact Imp.refl _) (by exact ImpL.refl _)
    replace hr := bF h6 hr
    refine Ok.stuck eqs_nil ?_
    exact DWP.nextA (IntKind.i64.wrap (s1 + 1)) n rfl rfl (by first | rfl | (simp only [gsimp]; rfl) | (simp only [gsimp, List.length_set]; rfl) | (simp only [gcs, gsimp, List.length_set]; rfl)) (by first | rfl | (simp only [gsimp]; rfl) | (simp only [gsimp, List.length_set]; rfl) | (simp only [gcs, gsimp, List.length_set]; rfl)) (by omega) ⟨by omega, by exact hr⟩
  replace hr := bF h2 hr
  obtain ⟨y7, ey7, hr⟩ := bindO hr
  replace ey7 := (F76_ok ey7)
  refine Ok.stuck eqs_nil ?_; refine DWP.callS 0 ey7 rfl rfl rfl rfl (SImp.box rfl (by exact ImpL.refl _)) rfl ?_
  refine dr_run mixed 1000 ?_; conv => (arg 3; whnf)
  refine Ok.fin eqs_nil ?_
  obtain rfl := Option.some.inj hr
  exact RD.leafSB rfl rfl rfl eqs_nil rfl (by exact Imp.refl _) (by exact ImpL.refl _)
/- (*plexus.plexusref16.P).declaration -/
def F75_L1 (y1 : TToken) (y33 : ((List UInt8) × Tplexusref16UP)) : Nat → Tplexusref16UP → (List TNode) → Option ((TNode × Tplexusref16UP))
  | 0, _, _ => none
  | n + 1, s37, s42 => ((F74 n (s37)).bind fun y43 => ((F125 n (s37) (1)).bind fun y44 => ((F124 n (y44.snd) ([58])).bind fun y45 => ((F129 n (y45.snd)).bind fun y46 => (bif decide (((s42 : List TNode) ++ ([{ Kind := 6, Text := y44.fst, N := y46.fst, At := y43.At, Kids := [] : TNode }] : List TNode)).length ≤ 274877906944) then ((F121 n (y46.snd) ([44])).bind fun y48 => (bif !y48 then ((F124 n (y46.snd) ([41])).bind fun y50 => ((F124 n (y50.snd) ([111, 110])).bind fun y51 => ((F74 n (y51.snd)).bind fun y52 => ((F125 n (y51.snd) (1)).bind fun y53 => (bif decide (((s42 ++ [{ Kind := 6, Text := y44.fst, N := y46.fst, At := y43.At, Kids := [] : TNode }] : List TNode) ++ ([{ Kind := 48, Text := y53.fst, N := 0, At := y52.At, Kids := [] : TNode }] : List TNode)).length ≤ 274877906944) then ((F124 n (y53.snd) ([58])).bind fun y55 => ((F129 n (y55.snd)).bind fun y56 => ((F124 n (y56.snd) ([61])).bind fun y57 => ((F72 n (y57.snd)).bind fun y58 => (bif decide (((s42 ++ [{ Kind := 6, Text := y44.fst, N := y46.fst, At := y43.At, Kids := [] : TNode }] ++ [{ Kind := 48, Text := y53.fst, N := 0, At := y52.At, Kids := [] : TNode }] : List TNode) ++ ([y58.fst] : List TNode)).length ≤ 274877906944) then ((F124 n (y58.snd) ([59])).bind fun y60 => (some (({ Kind := 5, Text := y33.fst, N := y56.fst, At := y1.At, Kids := s42 ++ [{ Kind := 6, Text := y44.fst, N := y46.fst, At := y43.At, Kids := [] : TNode }] ++ [{ Kind := 48, Text := y53.fst, N := 0, At := y52.At, Kids := [] : TNode }] ++ [y58.fst] : TNode }), (y60.snd)))) else none))))) else none))))) else (F75_L1 y1 y33 n ({ T := y46.snd.T, I := IntKind.i64.wrap (y46.snd.I + 1), Open := y46.snd.Open, Bad := y46.snd.Bad, Fault := y46.snd.Fault : Tplexusref16UP }) (s42 ++ [{ Kind := 6, Text := y44.fst, N := y46.fst, At := y43.At, Kids := [] : TNode }])))) else none)))))
def F75_L2 (y1 : TToken) (y72 : ((List UInt8) × Tplexusref16UP)) : Nat → Tplexusref16UP → (List TNode) → Option ((TNode × Tplexusref16UP))
  | 0, _, _ => none
  | n + 1, s76, s81 => ((F74 n (s76)).bind fun y82 => ((F125 n (s76) (1)).bind fun y83 => ((F124 n (y83.snd) ([58])).bind fun y84 => ((F129 n (y84.snd)).bind fun y85 => (bif decide (((s81 : List TNode) ++ ([{ Kind := 6, Text := y83.fst, N := y85.fst, At := y82.At, Kids := [] : TNode }] : List TNode)).length ≤ 274877906944) then ((F121 n (y85.snd) ([44])).bind fun y87 => (bif !y87 then ((F124 n (y85.snd) ([41])).bind fun y89 => ((F124 n (y89.snd) ([111, 110])).bind fun y90 => ((F74 n (y90.snd)).bind fun y91 => ((F125 n (y90.snd) (1)).bind fun y92 => (bif decide (((s81 ++ [{ Kind := 6, Text := y83.fst, N := y85.fst, At := y82.At, Kids := [] : TNode }] : List TNode) ++ ([{ Kind := 48, Text := y92.fst, N := 0, At := y91.At, Kids := [] : TNode }] : List TNode)).length ≤ 274877906944) then ((F124 n (y92.snd) ([61])).bind fun y94 => ((F72 n (y94.snd)).bind fun y95 => (bif decide (((s81 ++ [{ Kind := 6, Text := y83.fst, N := y85.fst, At := y82.At, Kids := [] : TNode }] ++ [{ Kind := 48, Text := y92.fst, N := 0, At := y91.At, Kids := [] : TNode }] : List TNode) ++ ([y95.fst] : List TNode)).length ≤ 274877906944) then ((F124 n (y95.snd) ([59])).bind fun y97 => (some (({ Kind := 4, Text := y72.fst, N := 0, At := y1.At, Kids := s81 ++ [{ Kind := 6, Text := y83.fst, N := y85.fst, At := y82.At, Kids := [] : TNode }] ++ [{ Kind := 48, Text := y92.fst, N := 0, At := y91.At, Kids := [] : TNode }] ++ [y95.fst] : TNode }), (y97.snd)))) else none))) else none))))) else (F75_L2 y1 y72 n ({ T := y85.snd.T, I := IntKind.i64.wrap (y85.snd.I + 1), Open := y85.snd.Open, Bad := y85.snd.Bad, Fault := y85.snd.Fault : Tplexusref16UP }) (s81 ++ [{ Kind := 6, Text := y83.fst, N := y85.fst, At := y82.At, Kids := [] : TNode }])))) else none)))))
def F75_L3 (y1 : TToken) (y109 : ((List UInt8) × Tplexusref16UP)) : Nat → Tplexusref16UP → (List TNode) → Option ((TNode × Tplexusref16UP))
  | 0, _, _ => none
  | n + 1, s113, s118 => ((F74 n (s113)).bind fun y119 => ((F125 n (s113) (1)).bind fun y120 => ((F124 n (y120.snd) ([58])).bind fun y121 => ((F129 n (y121.snd)).bind fun y122 => (bif decide (((s118 : List TNode) ++ ([{ Kind := 6, Text := y120.fst, N := y122.fst, At := y119.At, Kids := [] : TNode }] : List TNode)).length ≤ 274877906944) then ((F121 n (y122.snd) ([44])).bind fun y124 => (bif !y124 then ((F124 n (y122.snd) ([41])).bind fun y126 => ((F124 n (y126.snd) ([111, 110])).bind fun y127 => ((F74 n (y127.snd)).bind fun y128 => ((F125 n (y127.snd) (1)).bind fun y129 => (bif decide (((s118 ++ [{ Kind := 6, Text := y120.fst, N := y122.fst, At := y119.At, Kids := [] : TNode }] : List TNode) ++ ([{ Kind := 48, Text := y129.fst, N := 0, At := y128.At, Kids := [] : TNode }] : List TNode)).length ≤ 274877906944) then ((F124 n (y129.snd) ([58])).bind fun y131 => ((F129 n (y131.snd)).bind fun y132 => ((F124 n (y132.snd) ([61])).bind fun y133 => ((F72 n (y133.snd)).bind fun y134 => (bif decide (((s118 ++ [{ Kind := 6, Text := y120.fst, N := y122.fst, At := y119.At, Kids := [] : TNode }] ++ [{ Kind := 48, Text := y129.fst, N := 0, At := y128.At, Kids := [] : TNode }] : List TNode) ++ ([y134.fst] : List TNode)).length ≤ 274877906944) then ((F124 n (y134.snd) ([59])).bind fun y136 => (some (({ Kind := 5, Text := y109.fst, N := y132.fst, At := y1.At, Kids := s118 ++ [{ Kind := 6, Text := y120.fst, N := y122.fst, At := y119.At, Kids := [] : TNode }] ++ [{ Kind := 48, Text := y129.fst, N := 0, At := y128.At, Kids := [] : TNode }] ++ [y134.fst] : TNode }), (y136.snd)))) else none))))) else none))))) else (F75_L3 y1 y109 n ({ T := y122.snd.T, I := IntKind.i64.wrap (y122.snd.I + 1), Open := y122.snd.Open, Bad := y122.snd.Bad, Fault := y122.snd.Fault : Tplexusref16UP }) (s118 ++ [{ Kind := 6, Text := y120.fst, N := y122.fst, At := y119.At, Kids := [] : TNode }])))) else none)))))
def F75_L4 (y1 : TToken) (y148 : ((List UInt8) × Tplexusref16UP)) : Nat → Tplexusref16UP → (List TNode) → Option ((TNode × Tplexusref16UP))
  | 0, _, _ => none
  | n + 1, s152, s157 => ((F74 n (s152)).bind fun y158 => ((F125 n (s152) (1)).bind fun y159 => ((F124 n (y159.snd) ([58])).bind fun y160 => ((F129 n (y160.snd)).bind fun y161 => (bif decide (((s157 : List TNode) ++ ([{ Kind := 6, Text := y159.fst, N := y161.fst, At := y158.At, Kids := [] : TNode }] : List TNode)).length ≤ 274877906944) then ((F121 n (y161.snd) ([44])).bind fun y163 => (bif !y163 then ((F124 n (y161.snd) ([41])).bind fun y165 => ((F124 n (y165.snd) ([111, 110])).bind fun y166 => ((F74 n (y166.snd)).bind fun y167 => ((F125 n (y166.snd) (1)).bind fun y168 => (bif decide (((s157 ++ [{ Kind := 6, Text := y159.fst, N := y161.fst, At := y158.At, Kids := [] : TNode }] : List TNode) ++ ([{ Kind := 48, Text := y168.fst, N := 0, At := y167.At, Kids := [] : TNode }] : List TNode)).length ≤ 274877906944) then ((F124 n (y168.snd) ([61])).bind fun y170 => ((F72 n (y170.snd)).bind fun y171 => (bif decide (((s157 ++ [{ Kind := 6, Text := y159.fst, N := y161.fst, At := y158.At, Kids := [] : TNode }] ++ [{ Kind := 48, Text := y168.fst, N := 0, At := y167.At, Kids := [] : TNode }] : List TNode) ++ ([y171.fst] : List TNode)).length ≤ 274877906944) then ((F124 n (y171.snd) ([59])).bind fun y173 => (some (({ Kind := 4, Text := y148.fst, N := 0, At := y1.At, Kids := s157 ++ [{ Kind := 6, Text := y159.fst, N := y161.fst, At := y158.At, Kids := [] : TNode }] ++ [{ Kind := 48, Text := y168.fst, N := 0, At := y167.At, Kids := [] : TNode }] ++ [y171.fst] : TNode }), (y173.snd)))) else none))) else none))))) else (F75_L4 y1 y148 n ({ T := y161.snd.T, I := IntKind.i64.wrap (y161.snd.I + 1), Open := y161.snd.Open, Bad := y161.snd.Bad, Fault := y161.snd.Fault : Tplexusref16UP }) (s157 ++ [{ Kind := 6, Text := y159.fst, N := y161.fst, At := y158.At, Kids := [] : TNode }])))) else none)))))
def F75 (n : Nat) (a0 : Tplexusref16UP) : Option ((TNode × Tplexusref16UP)) := ((F74 n (a0)).bind fun y1 => ((F121 n (a0) ([108, 97, 116, 116, 105, 99, 101])).bind fun y2 => (bif y2 then ((F121 n (a0) ([108, 97, 116, 116, 105, 99, 101])).bind fun y4 => (bif y4 then ((F125 n ({ T := a0.T, I := IntKind.i64.wrap (a0.I + 1), Open := a0.Open, Bad := a0.Bad, Fault := a0.Fault : Tplexusref16UP }) (1)).bind fun y6 => ((F124 n (y6.snd) ([61])).bind fun y7 => ((F73 n (y7.snd)).bind fun y8 => ((F124 n (y8.snd) ([59])).bind fun y9 => (some (({ Kind := 2, Text := y6.fst, N := 0, At := y1.At, Kids := [y8.fst] : TNode }), (y9.snd))))))) else ((F125 n ({ T := a0.T, I := IntKind.i64.wrap (a0.I + 1), Open := a0.Open, Bad := a0.Bad, Fault := a0.Fault : Tplexusref16UP }) (1)).bind fun y10 => ((F124 n (y10.snd) ([58])).bind fun y11 => ((F73 n (y11.snd)).bind fun y12 => ((F124 n (y12.snd) ([59])).bind fun y13 => (some (({ Kind := 3, Text := y10.fst, N := 0, At := y1.At, Kids := [y12.fst] : TNode }), (y13.snd))))))))) else ((F121 n (a0) ([111, 98, 106, 101, 99, 116])).bind fun y14 => (bif y14 then ((F121 n (a0) ([108, 97, 116, 116, 105, 99, 101])).bind fun y16 => (bif y16 then ((F125 n ({ T := a0.T, I := IntKind.i64.wrap (a0.I + 1), Open := a0.Open, Bad := a0.Bad, Fault := a0.Fault : Tplexusref16UP }) (1)).bind fun y18 => ((F124 n (y18.snd) ([61])).bind fun y19 => ((F73 n (y19.snd)).bind fun y20 => ((F124 n (y20.snd) ([59])).bind fun y21 => (some (({ Kind := 2, Text := y18.fst, N := 0, At := y1.At, Kids := [y20.fst] : TNode }), (y21.snd))))))) else ((F125 n ({ T := a0.T, I := IntKind.i64.wrap (a0.I + 1), Open := a0.Open, Bad := a0.Bad, Fault := a0.Fault : Tplexusref16UP }) (1)).bind fun y22 => ((F124 n (y22.snd) ([58])).bind fun y23 => ((F73 n (y23.snd)).bind fun y24 => ((F124 n (y24.snd) ([59])).bind fun y25 => (some (({ Kind := 3, Text := y22.fst, N := 0, At := y1.At, Kids := [y24.fst] : TNode }), (y25.snd))))))))) else ((F121 n (a0) ([117, 112, 100, 97, 116, 101])).bind fun y26 => (bif !y26 then ((F121 n (a0) ([113, 117, 101, 114, 121])).bind fun y28 => (bif !y28 then ((F76 n (a0) (2)).bind fun y30 => (some (({ Kind := 0, Text := [], N := 0, At := y1.At, Kids := [] : TNode }), (y30.snd)))) else ((F121 n (a0) ([113, 117, 101, 114, 121])).bind fun y31 => (bif y31 then ((F125 n ({ T := a0.T, I := IntKind.i64.wrap (a0.I + 1), Open := a0.Open, Bad := a0.Bad, Fault := a0.Fault : Tplexusref16UP }) (1)).bind fun y33 => ((F124 n (y33.snd) ([40])).bind fun y34 => ((F121 n (y34.snd) ([41])).bind fun y35 => (bif !y35 then (F75_L1 y1 y33 n (y34.snd) ([])) else ((F124 n (y34.snd) ([41])).bind fun y61 => ((F124 n (y61.snd) ([111, 110])).bind fun y62 => ((F74 n (y62.snd)).bind fun y63 => ((F125 n (y62.snd) (1)).bind fun y64 => (bif decide ((([] : List TNode) ++ ([{ Kind := 48, Text := y64.fst, N := 0, At := y63.At, Kids := [] : TNode }] : List TNode)).length ≤ 274877906944) then ((F124 n (y64.snd) ([58])).bind fun y66 => ((F129 n (y66.snd)).bind fun y67 => ((F124 n (y67.snd) ([61])).bind fun y68 => ((F72 n (y68.snd)).bind fun y69 => (bif decide ((([] ++ [{ Kind := 48, Text := y64.fst, N := 0, At := y63.At, Kids := [] : TNode }] : List TNode) ++ ([y69.fst] : List TNode)).length ≤ 274877906944) then ((F124 n (y69.snd) ([59])).bind fun y71 => (some (({ Kind := 5, Text := y33.fst, N := y67.fst, At := y1.At, Kids := [] ++ [{ Kind := 48, Text := y64.fst, N := 0, At := y63.At, Kids := [] : TNode }] ++ [y69.fst] : TNode }), (y71.snd)))) else none))))) else none))))))))) else ((F125 n ({ T := a0.T, I := IntKind.i64.wrap (a0.I + 1), Open := a0.Open, Bad := a0.Bad, Fault := a0.Fault : Tplexusref16UP }) (1)).bind fun y72 => ((F124 n (y72.snd) ([40])).bind fun y73 => ((F121 n (y73.snd) ([41])).bind fun y74 => (bif !y74 then (F75_L2 y1 y72 n (y73.snd) ([])) else ((F124 n (y73.snd) ([41])).bind fun y98 => ((F124 n (y98.snd) ([111, 110])).bind fun y99 => ((F74 n (y99.snd)).bind fun y100 => ((F125 n (y99.snd) (1)).bind fun y101 => (bif decide ((([] : List TNode) ++ ([{ Kind := 48, Text := y101.fst, N := 0, At := y100.At, Kids := [] : TNode }] : List TNode)).length ≤ 274877906944) then ((F124 n (y101.snd) ([61])).bind fun y103 => ((F72 n (y103.snd)).bind fun y104 => (bif decide ((([] ++ [{ Kind := 48, Text := y101.fst, N := 0, At := y100.At, Kids := [] : TNode }] : List TNode) ++ ([y104.fst] : List TNode)).length ≤ 274877906944) then ((F124 n (y104.snd) ([59])).bind fun y106 => (some (({ Kind := 4, Text := y72.fst, N := 0, At := y1.At, Kids := [] ++ [{ Kind := 48, Text := y101.fst, N := 0, At := y100.At, Kids := [] : TNode }] ++ [y104.fst] : TNode }), (y106.snd)))) else none))) else none))))))))))))) else ((F121 n (a0) ([113, 117, 101, 114, 121])).bind fun y107 => (bif y107 then ((F125 n ({ T := a0.T, I := IntKind.i64.wrap (a0.I + 1), Open := a0.Open, Bad := a0.Bad, Fault := a0.Fault : Tplexusref16UP }) (1)).bind fun y109 => ((F124 n (y109.snd) ([40])).bind fun y110 => ((F121 n (y110.snd) ([41])).bind fun y111 => (bif !y111 then (F75_L3 y1 y109 n (y110.snd) ([])) else ((F124 n (y110.snd) ([41])).bind fun y137 => ((F124 n (y137.snd) ([111, 110])).bind fun y138 => ((F74 n (y138.snd)).bind fun y139 => ((F125 n (y138.snd) (1)).bind fun y140 => (bif decide ((([] : List TNode) ++ ([{ Kind := 48, Text := y140.fst, N := 0, At := y139.At, Kids := [] : TNode }] : List TNode)).length ≤ 274877906944) then ((F124 n (y140.snd) ([58])).bind fun y142 => ((F129 n (y142.snd)).bind fun y143 => ((F124 n (y143.snd) ([61])).bind fun y144 => ((F72 n (y144.snd)).bind fun y145 => (bif decide ((([] ++ [{ Kind := 48, Text := y140.fst, N := 0, At := y139.At, Kids := [] : TNode }] : List TNode) ++ ([y145.fst] : List TNode)).length ≤ 274877906944) then ((F124 n (y145.snd) ([59])).bind fun y147 => (some (({ Kind := 5, Text := y109.fst, N := y143.fst, At := y1.At, Kids := [] ++ [{ Kind := 48, Text := y140.fst, N := 0, At := y139.At, Kids := [] : TNode }] ++ [y145.fst] : TNode }), (y147.snd)))) else none))))) else none))))))))) else ((F125 n ({ T := a0.T, I := IntKind.i64.wrap (a0.I + 1), Open := a0.Open, Bad := a0.Bad, Fault := a0.Fault : Tplexusref16UP }) (1)).bind fun y148 => ((F124 n (y148.snd) ([40])).bind fun y149 => ((F121 n (y149.snd) ([41])).bind fun y150 => (bif !y150 then (F75_L4 y1 y148 n (y149.snd) ([])) else ((F124 n (y149.snd) ([41])).bind fun y174 => ((F124 n (y174.snd) ([111, 110])).bind fun y175 => ((F74 n (y175.snd)).bind fun y176 => ((F125 n (y175.snd) (1)).bind fun y177 => (bif decide ((([] : List TNode) ++ ([{ Kind := 48, Text := y177.fst, N := 0, At := y176.At, Kids := [] : TNode }] : List TNode)).length ≤ 274877906944) then ((F124 n (y177.snd) ([61])).bind fun y179 => ((F72 n (y179.snd)).bind fun y180 => (bif decide ((([] ++ [{ Kind := 48, Text := y177.fst, N := 0, At := y176.At, Kids := [] : TNode }] : List TNode) ++ ([y180.fst] : List TNode)).length ≤ 274877906944) then ((F124 n (y180.snd) ([59])).bind fun y182 => (some (({ Kind := 4, Text := y148.fst, N := 0, At := y1.At, Kids := [] ++ [{ Kind := 48, Text := y177.fst, N := 0, At := y176.At, Kids := [] : TNode }] ++ [y180.fst] : TNode }), (y182.snd)))) else none))) else none))))))))))))))))))
set_option maxRecDepth 100000 in
set_option maxHeartbeats 0 in
theorem F75_ok {n : Nat} {a0 : Tplexusref16UP} {r} (hr : F75 n a0 = some r) : SPure env 75 [(.own 0 0)] (.box (Tplexusref16UP.cs a0)) (.agg (TNode.cs r.1)) (.box (Tplexusref16UP.cs r.2)) := by
  unfold F75 at hr
  refine SPure.walk (E := env) Tryz.func75 rfl (by kernel_rfl) (rs := _) rfl Tryz.ntmps75 rfl ?_
  refine dr_run mixed 1000 ?_; conv => (arg 3; whnf)
  obtain ⟨y1, ey1, hr⟩ := bindO hr
  replace ey1 := (F74_ok ey1)
  refine Ok.val eqs_nil rfl rfl (DOpP.callF ey1 rfl rfl rfl eqs_nil (ImpL.refl _) (.inr rfl)) ?_
  refine dr_run mixed 1000 ?_; conv => (arg 3; whnf)
  obtain ⟨y2, ey2, hr⟩ := bindO hr
  replace ey2 := (F121_ok ey2)
  refine Ok.val eqs_nil rfl rfl (DOpP.callF ey2 rfl rfl rfl eqs_nil (ImpL.refl _) (.inr rfl)) ?_
  refine dr_run mixed 1000 ?_; conv => (arg 3; whnf)
  refine Ok.split ?_ ?_ <;> intro h3 <;> conv => (arg 3; whnf)
  · replace hr := bT h3 hr
    obtain ⟨y4, ey4, hr⟩ := bindO hr
    replace ey4 := (F121_ok ey4)
    refine Ok.val eqs_nil rfl rfl (DOpP.callF ey4 rfl rfl rfl eqs_nil (ImpL.refl _) (.inr rfl)) ?_
    refine dr_run mixed 1000 ?_; conv => (arg 3; whnf)
    refine Ok.split ?_ ?_ <;> intro h5 <;> conv => (arg 3; whnf)
    · replace hr := bT h5 hr
      obtain ⟨y6, ey6, hr⟩ := bindO hr
      replace ey6 := (F125_ok ey6)
      refine Ok.stuck eqs_nil ?_; refine DWP.callS 0 ey6 rfl rfl rfl rfl (SImp.box rfl (by exact ImpL.refl _)) rfl ?_
      refine dr_run mixed 1000 ?_; conv => (arg 3; whnf)
      obtain ⟨y7, ey7, hr⟩ := bindO hr
      replace ey7 := (F124_ok ey7)
      refine Ok.stuck eqs_nil ?_; refine DWP.callS 0 ey7 rfl rfl rfl rfl (SImp.box rfl (by exact ImpL.refl _)) rfl ?_
      refine dr_run mixed 1000 ?_; conv => (arg 3; whnf)
      obtain ⟨y8, ey8, hr⟩ := bindO hr
      replace ey8 := (F73_ok ey8)
      refine Ok.stuck eqs_nil ?_; refine DWP.callS 0 ey8 rfl rfl rfl rfl (SImp.box rfl (by exact ImpL.refl _)) rfl ?_
      refine dr_run mixed 1000 ?_; conv => (arg 3; whnf)
      obtain ⟨y9, ey9, hr⟩ := bindO hr
      replace ey9 := (F124_ok ey9)
      refine Ok.stuck eqs_nil ?_; refine DWP.callS 0 ey9 rfl rfl rfl rfl (SImp.box rfl (by exact ImpL.refl _)) rfl ?_
      refine dr_run mixed 1000 ?_; conv => (arg 3; whnf)
      refine Ok.fin (eqs_cons rfl eqs_nil) ?_
      obtain rfl := Option.some.inj hr
      exact RD.leafSB rfl rfl rfl eqs_nil rfl (by (try simp only [gsimp]); repeat (first | exact Imp.refl _ | exact Imp.nil _ | exact ImpL.nil | exact ImpR.nil | exact ImpL.refl _ | exact ImpR.refl _ | exact Imp.of (by simp only [gsimp]; rfl) | (dsimp only; try simp only [gsimp]) | apply Imp.agg | apply Imp.tup | apply Imp.ip | apply Imp.fn | apply ImpL.cons | apply Imp.sl | apply ImpR.cons | apply ImpR.append)) (by exact ImpL.refl _)
    replace hr := bF h5 hr
    obtain ⟨y10, ey10, hr⟩ := bindO hr
    replace ey10 := (F125_ok ey10)
    refine Ok.stuck eqs_nil ?_; refine DWP.callS 0 ey10 rfl rfl rfl rfl (SImp.box rfl (by exact ImpL.refl _)) rfl ?_
    refine dr_run mixed 1000 ?_; conv => (arg 3; whnf)
    obtain ⟨y11, ey11, hr⟩ := bindO hr
    replace ey11 := (F124_ok ey11)
    refine Ok.stuck eqs_nil ?_; refine DWP.callS 0 ey11 rfl rfl rfl rfl (SImp.box rfl (by exact ImpL.refl _)) rfl ?_
    refine dr_run mixed 1000 ?_; conv => (arg 3; whnf)
    obtain ⟨y12, ey12, hr⟩ := bindO hr
    replace ey12 := (F73_ok ey12)
    refine Ok.stuck eqs_nil ?_; refine DWP.callS 0 ey12 rfl rfl rfl rfl (SImp.box rfl (by exact ImpL.refl _)) rfl ?_
    refine dr_run mixed 1000 ?_; conv => (arg 3; whnf)
    obtain ⟨y13, ey13, hr⟩ := bindO hr
    replace ey13 := (F124_ok ey13)
    refine Ok.stuck eqs_nil ?_; refine DWP.callS 0 ey13 rfl rfl rfl rfl (SImp.box rfl (by exact ImpL.refl _)) rfl ?_
    refine dr_run mixed 1000 ?_; conv => (arg 3; whnf)
    refine Ok.fin (eqs_cons rfl eqs_nil) ?_
    obtain rfl := Option.some.inj hr
    exact RD.leafSB rfl rfl rfl eqs_nil rfl (by (try simp only [gsimp]); repeat (first | exact Imp.refl _ | exact Imp.nil _ | exact ImpL.nil | exact ImpR.nil | exact ImpL.refl _ | exact ImpR.refl _ | exact Imp.of (by simp only [gsimp]; rfl) | (dsimp only; try simp only [gsimp]) | apply Imp.agg | apply Imp.tup | apply Imp.ip | apply Imp.fn | apply ImpL.cons | apply Imp.sl | apply ImpR.cons | apply ImpR.append)) (by exact ImpL.refl _)
  replace hr := bF h3 hr
  obtain ⟨y14, ey14, hr⟩ := bindO hr
  replace ey14 := (F121_ok ey14)
  refine Ok.val eqs_nil rfl rfl (DOpP.callF ey14 rfl rfl rfl eqs_nil (ImpL.refl _) (.inr rfl)) ?_
  refine dr_run mixed 1000 ?_; conv => (arg 3; whnf)
  refine Ok.split ?_ ?_ <;> intro h15 <;> conv => (arg 3; whnf)
  · replace hr := bT h15 hr
    obtain ⟨y16, ey16, hr⟩ := bindO hr
    replace ey16 := (F121_ok ey16)
    refine Ok.val eqs_nil rfl rfl (DOpP.callF ey16 rfl rfl rfl eqs_nil (ImpL.refl _) (.inr rfl)) ?_
    refine dr_run mixed 1000 ?_; conv => (arg 3; whnf)
    refine Ok.split ?_ ?_ <;> intro h17 <;> conv => (arg 3; whnf)
    · replace hr := bT h17 hr
      obtain ⟨y18, ey18, hr⟩ := bindO hr
      replace ey18 := (F125_ok ey18)
      refine Ok.stuck eqs_nil ?_; refine DWP.callS 0 ey18 rfl rfl rfl rfl (SImp.box rfl (by exact ImpL.refl _)) rfl ?_
      refine dr_run mixed 1000 ?_; conv => (arg 3; whnf)
      obtain ⟨y19, ey19, hr⟩ := bindO hr
      replace ey19 := (F124_ok ey19)
      refine Ok.stuck eqs_nil ?_; refine DWP.callS 0 ey19 rfl rfl rfl rfl (SImp.box rfl (by exact ImpL.refl _)) rfl ?_
      refine dr_run mixed 1000 ?_; conv => (arg 3; whnf)
      obtain ⟨y20, ey20, hr⟩ := bindO hr
      replace ey20 := (F73_ok ey20)
      refine Ok.stuck eqs_nil ?_; refine DWP.callS 0 ey20 rfl rfl rfl rfl (SImp.box rfl (by exact ImpL.refl _)) rfl ?_
      refine dr_run mixed 1000 ?_; conv => (arg 3; whnf)
      obtain ⟨y21, ey21, hr⟩ := bindO hr
      replace ey21 := (F124_ok ey21)
      refine Ok.stuck eqs_nil ?_; refine DWP.callS 0 ey21 rfl rfl rfl rfl (SImp.box rfl (by exact ImpL.refl _)) rfl ?_
      refine dr_run mixed 1000 ?_; conv => (arg 3; whnf)
      refine Ok.fin (eqs_cons rfl eqs_nil) ?_
      obtain rfl := Option.some.inj hr
      exact RD.leafSB rfl rfl rfl eqs_nil rfl (by (try simp only [gsimp]); repeat (first | exact Imp.refl _ | exact Imp.nil _ | exact ImpL.nil | exact ImpR.nil | exact ImpL.refl _ | exact ImpR.refl _ | exact Imp.of (by simp only [gsimp]; rfl) | (dsimp only; try simp only [gsimp]) | apply Imp.agg | apply Imp.tup | apply Imp.ip | apply Imp.fn | apply ImpL.cons | apply Imp.sl | apply ImpR.cons | apply ImpR.append)) (by exact ImpL.refl _)
    replace hr := bF h17 hr
    obtain ⟨y22, ey22, hr⟩ := bindO hr
    replace ey22 := (F125_ok ey22)
    refine Ok.stuck eqs_nil ?_; refine DWP.callS 0 ey22 rfl rfl rfl rfl (SImp.box rfl (by exact ImpL.refl _)) rfl ?_
    refine dr_run mixed 1000 ?_; conv => (arg 3; whnf)
    obtain ⟨y23, ey23, hr⟩ := bindO hr
    replace ey23 := (F124_ok ey23)
    refine Ok.stuck eqs_nil ?_; refine DWP.callS 0 ey23 rfl rfl rfl rfl (SImp.box rfl (by exact ImpL.refl _)) rfl ?_
    refine dr_run mixed 1000 ?_; conv => (arg 3; whnf)
    obtain ⟨y24, ey24, hr⟩ := bindO hr
    replace ey24 := (F73_ok ey24)
    refine Ok.stuck eqs_nil ?_; refine DWP.callS 0 ey24 rfl rfl rfl rfl (SImp.box rfl (by exact ImpL.refl _)) rfl ?_
    refine dr_run mixed 1000 ?_; conv => (arg 3; whnf)
    obtain ⟨y25, ey25, hr⟩ := bindO hr
    replace ey25 := (F124_ok ey25)
    refine Ok.stuck eqs_nil ?_; refine DWP.callS 0 ey25 rfl rfl rfl rfl (SImp.box rfl (by exact ImpL.refl _)) rfl ?_
    refine dr_run mixed 1000 ?_; conv => (arg 3; whnf)
    refine Ok.fin (eqs_cons rfl eqs_nil) ?_
    obtain rfl := Option.some.inj hr
    exact RD.leafSB rfl rfl rfl eqs_nil rfl (by (try simp only [gsimp]); repeat (first | exact Imp.refl _ | exact Imp.nil _ | exact ImpL.nil | exact ImpR.nil | exact ImpL.refl _ | exact ImpR.refl _ | exact Imp.of (by simp only [gsimp]; rfl) | (dsimp only; try simp only [gsimp]) | apply Imp.agg | apply Imp.tup | apply Imp.ip | apply Imp.fn | apply ImpL.cons | apply Imp.sl | apply ImpR.cons | apply ImpR.append)) (by exact ImpL.refl _)
  replace hr := bF h15 hr
  obtain ⟨y26, ey26, hr⟩ := bindO hr
  replace ey26 := (F121_ok ey26)
  refine Ok.val eqs_nil rfl rfl (DOpP.callF ey26 rfl rfl rfl eqs_nil (ImpL.refl _) (.inr rfl)) ?_
  refine dr_run mixed 1000 ?_; conv => (arg 3; whnf)
  refine Ok.split ?_ ?_ <;> intro h27 <;> conv => (arg 3; whnf)
  · replace hr := bT h27 hr
    obtain ⟨y28, ey28, hr⟩ := bindO hr
    replace ey28 := (F121_ok ey28)
    refine Ok.val eqs_nil rfl rfl (DOpP.callF ey28 rfl rfl rfl eqs_nil (ImpL.refl _) (.inr rfl)) ?_
    refine dr_run mixed 1000 ?_; conv => (arg 3; whnf)
    refine Ok.split ?_ ?_ <;> intro h29 <;> conv => (arg 3; whnf)
    · replace hr := bT h29 hr
      obtain ⟨y30, ey30, hr⟩ := bindO hr
      replace ey30 := (F76_ok ey30)
      refine Ok.stuck eqs_nil ?_; refine DWP.callS 0 ey30 rfl rfl rfl rfl (SImp.box rfl (by exact ImpL.refl _)) rfl ?_
      refine dr_run mixed 1000 ?_; conv => (arg 3; whnf)
      refine Ok.fin eqs_nil ?_
      obtain rfl := Option.some.inj hr
      exact RD.leafSB rfl rfl rfl eqs_nil rfl (by (try simp only [gsimp]); repeat (first | exact Imp.refl _ | exact Imp.nil _ | exact ImpL.nil | exact ImpR.nil | exact ImpL.refl _ | exact ImpR.refl _ | exact Imp.of (by simp only [gsimp]; rfl) | (dsimp only; try simp only [gsimp]) | apply Imp.agg | apply Imp.tup | apply Imp.ip | apply Imp.fn | apply ImpL.cons | apply Imp.sl | apply ImpR.cons | apply ImpR.append)) (by exact ImpL.refl _)
    replace hr := bF h29 hr
    obtain ⟨y31, ey31, hr⟩ := bindO hr
    replace ey31 := (F121_ok ey31)
    refine Ok.val eqs_nil rfl rfl (DOpP.callF ey31 rfl rfl rfl eqs_nil (ImpL.refl _) (.inr rfl)) ?_
    refine dr_run mixed 1000 ?_; conv => (arg 3; whnf)
    refine Ok.split ?_ ?_ <;> intro h32 <;> conv => (arg 3; whnf)
    · replace hr := bT h32 hr
      obtain ⟨y33, ey33, hr⟩ := bindO hr
      replace ey33 := (F125_ok ey33)
      refine Ok.stuck eqs_nil ?_; refine DWP.callS 0 ey33 rfl rfl rfl rfl (SImp.box rfl (by exact ImpL.refl _)) rfl ?_
      refine dr_run mixed 1000 ?_; conv => (arg 3; whnf)
      obtain ⟨y34, ey34, hr⟩ := bindO hr
      replace ey34 := (F124_ok ey34)
      refine Ok.stuck eqs_nil ?_; refine DWP.callS 0 ey34 rfl rfl rfl rfl (SImp.box rfl (by exact ImpL.refl _)) rfl ?_
      refine dr_run mixed 1000 ?_; conv => (arg 3; whnf)
      obtain ⟨y35, ey35, hr⟩ := bindO hr
      replace ey35 := (F121_ok ey35)
      refine Ok.val eqs_nil rfl rfl (DOpP.callF ey35 rfl rfl rfl eqs_nil (ImpL.refl _) (.inr rfl)) ?_
      refine dr_run mixed 1000 ?_; conv => (arg 3; whnf)
      refine Ok.split ?_ ?_ <;> intro h36 <;> conv => (arg 3; whnf)
      · replace hr := bT h36 hr
        refine Ok.stuck eqs_nil ?_
        refine DWP.nilCell 2 4 25 5 3 rfl rfl rfl ?_
        refine DWP.loopA (S := Tplexusref16UP × (List TNode)) 4 [0, 2, 3] [] (fun s => []) (fun s => [(0, .box ((Tplexusref16UP.cs s.1).map .d)), (3, .row 25 5 (TNode.rows s.2)), (2, .box [.d (.v (.int .i64 (5))), .d (.v (.string ⟨⟨(y33.fst)⟩⟩)), .d (.v (.int .i64 (0))), .d (.v (.int .i64 (y1.At))), .os 3 (TNode.rows s.2).length])]) (fun m s => m ≤ n ∧ F75_L1 y1 y33 m s.1 s.2 = some r) n (y34.snd, []) rfl rfl rfl rfl rfl rfl ⟨Nat.le_refl _, hr⟩ ?_
        clear hr
        rintro n ⟨s37, s42⟩ ⟨hle, hr⟩
        rcases n with _ | n
        · exact noneO hr
        replace hr : F75_L1 y1 y33 (n + 1) s37 s42 = some r := hr
        rw [F75_L1] at hr
        refine dr_run mixed 1000 ?_; conv => (arg 3; whnf)
        obtain ⟨y43, ey43, hr⟩ := bindO hr
        replace ey43 := (F74_ok ey43)
        refine Ok.val eqs_nil rfl rfl (DOpP.callF ey43 rfl rfl rfl eqs_nil (ImpL.refl _) (.inr rfl)) ?_
        refine dr_run mixed 1000 ?_; conv => (arg 3; whnf)
        obtain ⟨y44, ey44, hr⟩ := bindO hr
        replace ey44 := (F125_ok ey44)
        refine Ok.stuck eqs_nil ?_; refine DWP.callS 0 ey44 rfl rfl rfl rfl (SImp.box rfl (by exact ImpL.refl _)) rfl ?_
        refine dr_run mixed 1000 ?_; conv => (arg 3; whnf)
        obtain ⟨y45, ey45, hr⟩ := bindO hr
        replace ey45 := (F124_ok ey45)
        refine Ok.stuck eqs_nil ?_; refine DWP.callS 0 ey45 rfl rfl rfl rfl (SImp.box rfl (by exact ImpL.refl _)) rfl ?_
        refine dr_run mixed 1000 ?_; conv => (arg 3; whnf)
        obtain ⟨y46, ey46, hr⟩ := bindO hr
        replace ey46 := (F129_ok ey46)
        refine Ok.stuck eqs_nil ?_; refine DWP.callS 0 ey46 rfl rfl rfl rfl (SImp.box rfl (by exact ImpL.refl _)) rfl ?_
        refine dr_run mixed 1000 ?_; conv => (arg 3; whnf)
        refine Ok.stuck eqs_nil ?_; refine DWP.rowImp 5 (rows' := TNode.rows ([{ Kind := 6, Text := y44.fst, N := y46.fst, At := y43.At, Kids := [] : TNode }])) rfl (by (try simp only [gsimp]); repeat (first | exact Imp.refl _ | exact Imp.nil _ | exact ImpL.nil | exact ImpR.nil | exact ImpL.refl _ | exact ImpR.refl _ | exact Imp.of (by simp only [gsimp]; rfl) | (dsimp only; try simp only [gsimp]) | apply Imp.agg | apply Imp.tup | apply Imp.ip | apply Imp.fn | apply ImpL.cons | apply Imp.sl | apply ImpR.cons | apply ImpR.append)) ?_
        refine dr_run mixed 1000 ?_; conv => (arg 3; whnf)
        obtain ⟨h47, hr⟩ := guardO hr
        refine Ok.stuck eqs_nil ?_; refine DO.appRow rfl rfl (by first | rfl | simp only [List.length_set] | simp only [glen, List.length_set, List.length_replicate, List.length_append, List.length_cons, List.length_nil]) rfl rfl (by first | rfl | simp only [List.length_set] | simp only [glen, List.length_set, List.length_replicate, List.length_append, List.length_cons, List.length_nil]) rfl rfl (TNode.rows_ones _) rfl rfl rfl (by have h0 := of_decide_eq_true h47; simp only [List.length_append, List.length_set, List.length_cons, List.length_nil, chunk_length, TNode.rows_len] at h0 ⊢; omega) ?_
        refine dr_run mixed 1000 ?_; conv => (arg 3; whnf)
        obtain ⟨y48, ey48, hr⟩ := bindO hr
        replace ey48 := (F121_ok ey48)
        refine Ok.val eqs_nil rfl rfl (DOpP.callF ey48 rfl rfl rfl eqs_nil (ImpL.refl _) (.inr rfl)) ?_
        refine dr_run mixed 1000 ?_; conv => (arg 3; whnf)
        refine Ok.split ?_ ?_ <;> intro h49 <;> conv => (arg 3; whnf)
        · replace hr := bT h49 hr
          obtain ⟨y50, ey50, hr⟩ := bindO hr
          replace ey50 := (F124_ok ey50)
          refine Ok.stuck eqs_nil ?_; refine DWP.callS 0 ey50 rfl rfl rfl rfl (SImp.box rfl (by exact ImpL.refl _)) rfl ?_
          refine dr_run mixed 1000 ?_; conv => (arg 3; whnf)
          obtain ⟨y51, ey51, hr⟩ := bindO hr
          replace ey51 := (F124_ok ey51)
          refine Ok.stuck eqs_nil ?_; refine DWP.callS 0 ey51 rfl rfl rfl rfl (SImp.box rfl (by exact ImpL.refl _)) rfl ?_
          refine dr_run mixed 1000 ?_; conv => (arg 3; whnf)
          obtain ⟨y52, ey52, hr⟩ := bindO hr
          replace ey52 := (F74_ok ey52)
          refine Ok.val eqs_nil rfl rfl (DOpP.callF ey52 rfl rfl rfl eqs_nil (ImpL.refl _) (.inr rfl)) ?_
          refine dr_run mixed 1000 ?_; conv => (arg 3; whnf)
          obtain ⟨y53, ey53, hr⟩ := bindO hr
          replace ey53 := (F125_ok ey53)
          refine Ok.stuck eqs_nil ?_; refine DWP.callS 0 ey53 rfl rfl rfl rfl (SImp.box rfl (by exact ImpL.refl _)) rfl ?_
          refine dr_run mixed 1000 ?_; conv => (arg 3; whnf)
          refine Ok.stuck eqs_nil ?_; refine DWP.rowImp 7 (rows' := TNode.rows ([{ Kind := 48, Text := y53.fst, N := 0, At := y52.At, Kids := [] : TNode }])) rfl (by (try simp only [gsimp]); repeat (first | exact Imp.refl _ | exact Imp.nil _ | exact ImpL.nil | exact ImpR.nil | exact ImpL.refl _ | exact ImpR.refl _ | exact Imp.of (by simp only [gsimp]; rfl) | (dsimp only; try simp only [gsimp]) | apply Imp.agg | apply Imp.tup | apply Imp.ip | apply Imp.fn | apply ImpL.cons | apply Imp.sl | apply ImpR.cons | apply ImpR.append)) ?_
          refine dr_run mixed 1000 ?_; conv => (arg 3; whnf)
          obtain ⟨h54, hr⟩ := guardO hr
          refine Ok.stuck eqs_nil ?_; refine DO.appRow rfl rfl (by first | rfl | simp only [List.length_set] | simp only [glen, List.length_set, List.length_replicate, List.length_append, List.length_cons, List.length_nil]) rfl rfl (by first | rfl | simp only [List.length_set] | simp only [glen, List.length_set, List.length_replicate, List.length_append, List.length_cons, List.length_nil]) rfl rfl (TNode.rows_ones _) rfl rfl rfl (by have h0 := of_decide_eq_true h54; simp only [List.length_append, List.length_set, List.length_cons, List.length_nil, chunk_length, TNode.rows_len] at h0 ⊢; omega) ?_
          refine dr_run mixed 1000 ?_; conv => (arg 3; whnf)
          obtain ⟨y55, ey55, hr⟩ := bindO hr
          replace ey55 := (F124_ok ey55)
          refine Ok.stuck eqs_nil ?_; refine DWP.callS 0 ey55 rfl rfl rfl rfl (SImp.box rfl (by exact ImpL.refl _)) rfl ?_
          refine dr_run mixed 1000 ?_; conv => (arg 3; whnf)
          obtain ⟨y56, ey56, hr⟩ := bindO hr
          replace ey56 := (F129_ok ey56)
          refine Ok.stuck eqs_nil ?_; refine DWP.callS 0 ey56 rfl rfl rfl rfl (SImp.box rfl (by exact ImpL.refl _)) rfl ?_
          refine dr_run mixed 1000 ?_; conv => (arg 3; whnf)
          obtain ⟨y57, ey57, hr⟩ := bindO hr
          replace ey57 := (F124_ok ey57)
          refine Ok.stuck eqs_nil ?_; refine DWP.callS 0 ey57 rfl rfl rfl rfl (SImp.box rfl (by exact ImpL.refl _)) rfl ?_
          refine dr_run mixed 1000 ?_; conv => (arg 3; whnf)
          refine Ok.open (id := 40) [] [(0, .fl), (1, .fl), (2, .fl), (3, .one), (4, .fl), (5, .one), (6, .fl), (7, .one)] [] eqs_nil mixed rfl (by kernel_rfl) (by kernel_rfl) ?_
          refine dr_run mixed 1000 ?_; conv => (arg 3; whnf)
          refine Ok.stuck eqs_nil ?_; refine DWP.tlStep mixed (by repeat (first | exact PendD.nil | refine PendD.cons rfl (DOpP.vop (cl := false) rfl eqs_nil) ?_ | refine PendD.skip rfl ?_ | refine PendD.cons rfl (vopL_ok (cl := false) rfl eqs_nil) ?_)) ?_; (conv => (arg 3; whnf)); refine Nx.go_ok eqs_nil ?_
          refine dr_run mixed 1000 ?_; conv => (arg 3; whnf)
          obtain ⟨y58, ey58, hr⟩ := bindO hr
          replace ey58 := (F72_ok ey58)
          refine Ok.stuck eqs_nil ?_; refine DWP.tlCallS 0 (by repeat (first | exact PendD.nil | refine PendD.cons rfl (DOpP.vop (cl := false) rfl eqs_nil) ?_ | refine PendD.skip rfl ?_ | refine PendD.cons rfl (vopL_ok (cl := false) rfl eqs_nil) ?_)) rfl rfl rfl rfl rfl ey58 rfl rfl rfl rfl (SImp.box rfl (by exact ImpL.refl _)) ?_
          refine dr_run mixed 1000 ?_; conv => (arg 3; whnf)
          refine Ok.stuck eqs_nil ?_; refine DWP.tlStep mixed (by repeat (first | exact PendD.nil | refine PendD.cons rfl (DOpP.vop (cl := false) rfl eqs_nil) ?_ | refine PendD.skip rfl ?_ | refine PendD.cons rfl (vopL_ok (cl := false) rfl eqs_nil) ?_)) ?_; (conv => (arg 3; whnf)); refine Nx.go_ok eqs_nil ?_
          refine dr_run mixed 1000 ?_; conv => (arg 3; whnf)
          obtain ⟨h59, hr⟩ := guardO hr
          refine Ok.stuck eqs_nil ?_; refine DWP.tlAppI (rows2 := (TNode.rows ([y58.fst]))) (by repeat (first | exact PendD.nil | refine PendD.cons rfl (DOpP.vop (cl := false) rfl eqs_nil) ?_ | refine PendD.skip rfl ?_ | refine PendD.cons rfl (vopL_ok (cl := false) rfl eqs_nil) ?_)) rfl rfl rfl rfl rfl (by first | rfl | simp only [List.length_set] | simp only [glen, List.length_set, List.length_replicate, List.length_append, List.length_cons, List.length_nil]) rfl (by exact Imp.of (by simp only [gsimp]; rfl)) rfl rfl (TNode.rows_ones _) rfl rfl (by have h0 := of_decide_eq_true h59; simp only [List.length_append, List.length_set, List.length_cons, List.length_nil, chunk_length, TNode.rows_len] at h0 ⊢; omega) ?_
          refine dr_run mixed 1000 ?_; conv => (arg 3; whnf)
          obtain ⟨y60, ey60, hr⟩ := bindO hr
          replace ey60 := (F124_ok ey60)
          refine Ok.stuck eqs_nil ?_; refine DWP.callS 0 ey60 rfl rfl rfl rfl (SImp.box rfl (by exact ImpL.refl _)) rfl ?_
          refine dr_run mixed 1000 ?_; conv => (arg 3; whnf)
          refine Ok.fin (eqs_cons rfl eqs_nil) ?_
          obtain rfl := Option.some.inj hr
          exact RD.leafSB rfl rfl rfl eqs_nil rfl (by (try simp only [gsimp]); repeat (first | exact Imp.refl _ | exact Imp.nil _ | exact ImpL.nil | exact ImpR.nil | exact ImpL.refl _ | exact ImpR.refl _ | exact Imp.of (by simp only [gsimp]; rfl) | (dsimp only; try simp only [gsimp]) | apply Imp.agg | apply Imp.tup | apply Imp.ip | apply Imp.fn | apply ImpL.cons | apply Imp.sl | apply ImpR.cons | apply ImpR.append)) (by exact ImpL.refl _)
        replace hr := bF h49 hr
        refine Ok.stuck eqs_nil ?_
        exact DWP.nextA ({ T := y46.snd.T, I := IntKind.i64.wrap (y46.snd.I + 1), Open := y46.snd.Open, Bad := y46.snd.Bad, Fault := y46.snd.Fault : Tplexusref16UP }, s42 ++ [{ Kind := 6, Text := y44.fst, N := y46.fst, At := y43.At, Kids := [] : TNode }]) n rfl rfl (by first | rfl | (simp only [gsimp]; rfl) | (simp only [gsimp, List.length_set]; rfl) | (simp only [gcs, gsimp, List.length_set]; rfl)) (by first | rfl | (simp only [gsimp]; rfl) | (simp only [gsimp, List.length_set]; rfl) | (simp only [gcs, gsimp, List.length_set]; rfl)) (by omega) ⟨by omega, by exact hr⟩
      replace hr := bF h36 hr
      obtain ⟨y61, ey61, hr⟩ := bindO hr
      replace ey61 := (F124_ok ey61)
      refine Ok.stuck eqs_nil ?_; refine DWP.callS 0 ey61 rfl rfl rfl rfl (SImp.box rfl (by exact ImpL.refl _)) rfl ?_
      refine dr_run mixed 1000 ?_; conv => (arg 3; whnf)
      obtain ⟨y62, ey62, hr⟩ := bindO hr
      replace ey62 := (F124_ok ey62)
      refine Ok.stuck eqs_nil ?_; refine DWP.callS 0 ey62 rfl rfl rfl rfl (SImp.box rfl (by exact ImpL.refl _)) rfl ?_
      refine dr_run mixed 1000 ?_; conv => (arg 3; whnf)
      obtain ⟨y63, ey63, hr⟩ := bindO hr
      replace ey63 := (F74_ok ey63)
      refine Ok.val eqs_nil rfl rfl (DOpP.callF ey63 rfl rfl rfl eqs_nil (ImpL.refl _) (.inr rfl)) ?_
      refine dr_run mixed 1000 ?_; conv => (arg 3; whnf)
      obtain ⟨y64, ey64, hr⟩ := bindO hr
      replace ey64 := (F125_ok ey64)
      refine Ok.stuck eqs_nil ?_; refine DWP.callS 0 ey64 rfl rfl rfl rfl (SImp.box rfl (by exact ImpL.refl _)) rfl ?_
      refine dr_run mixed 1000 ?_; conv => (arg 3; whnf)
      refine Ok.stuck eqs_nil ?_; refine DWP.rowImp 4 (rows' := TNode.rows ([{ Kind := 48, Text := y64.fst, N := 0, At := y63.At, Kids := [] : TNode }])) rfl (by (try simp only [gsimp]); repeat (first | exact Imp.refl _ | exact Imp.nil _ | exact ImpL.nil | exact ImpR.nil | exact ImpL.refl _ | exact ImpR.refl _ | exact Imp.of (by simp only [gsimp]; rfl) | (dsimp only; try simp only [gsimp]) | apply Imp.agg | apply Imp.tup | apply Imp.ip | apply Imp.fn | apply ImpL.cons | apply Imp.sl | apply ImpR.cons | apply ImpR.append)) ?_
      refine dr_run mixed 1000 ?_; conv => (arg 3; whnf)
      obtain ⟨h65, hr⟩ := guardO hr
      refine Ok.stuck eqs_nil ?_; refine DO.appRow rfl rfl (by first | rfl | simp only [List.length_set] | simp only [glen, List.length_set, List.length_replicate, List.length_append, List.length_cons, List.length_nil]) rfl rfl (by first | rfl | simp only [List.length_set] | simp only [glen, List.length_set, List.length_replicate, List.length_append, List.length_cons, List.length_nil]) rfl rfl (TNode.rows_ones _) rfl rfl rfl (by have h0 := of_decide_eq_true h65; simp only [List.length_append, List.length_set, List.length_cons, List.length_nil, chunk_length, TNode.rows_len] at h0 ⊢; omega) ?_
      refine dr_run mixed 1000 ?_; conv => (arg 3; whnf)
      obtain ⟨y66, ey66, hr⟩ := bindO hr
      replace ey66 := (F124_ok ey66)
      refine Ok.stuck eqs_nil ?_; refine DWP.callS 0 ey66 rfl rfl rfl rfl (SImp.box rfl (by exact ImpL.refl _)) rfl ?_
      refine dr_run mixed 1000 ?_; conv => (arg 3; whnf)
      obtain ⟨y67, ey67, hr⟩ := bindO hr
      replace ey67 := (F129_ok ey67)
      refine Ok.stuck eqs_nil ?_; refine DWP.callS 0 ey67 rfl rfl rfl rfl (SImp.box rfl (by exact ImpL.refl _)) rfl ?_
      refine dr_run mixed 1000 ?_; conv => (arg 3; whnf)
      obtain ⟨y68, ey68, hr⟩ := bindO hr
      replace ey68 := (F124_ok ey68)
      refine Ok.stuck eqs_nil ?_; refine DWP.callS 0 ey68 rfl rfl rfl rfl (SImp.box rfl (by exact ImpL.refl _)) rfl ?_
      refine dr_run mixed 1000 ?_; conv => (arg 3; whnf)
      refine Ok.open (id := 40) [] [(0, .fl), (1, .fl), (2, .fl), (3, .one), (4, .fl), (5, .one), (6, .fl), (7, .one)] [] eqs_nil mixed rfl (by kernel_rfl) (by kernel_rfl) ?_
      refine dr_run mixed 1000 ?_; conv => (arg 3; whnf)
      refine Ok.stuck eqs_nil ?_; refine DWP.tlStep mixed (by repeat (first | exact PendD.nil | refine PendD.cons rfl (DOpP.vop (cl := false) rfl eqs_nil) ?_ | refine PendD.skip rfl ?_ | refine PendD.cons rfl (vopL_ok (cl := false) rfl eqs_nil) ?_)) ?_; (conv => (arg 3; whnf)); refine Nx.go_ok eqs_nil ?_
      refine dr_run mixed 1000 ?_; conv => (arg 3; whnf)
      obtain ⟨y69, ey69, hr⟩ := bindO hr
      replace ey69 := (F72_ok ey69)
      refine Ok.stuck eqs_nil ?_; refine DWP.tlCallS 0 (by repeat (first | exact PendD.nil | refine PendD.cons rfl (DOpP.vop (cl := false) rfl eqs_nil) ?_ | refine PendD.skip rfl ?_ | refine PendD.cons rfl (vopL_ok (cl := false) rfl eqs_nil) ?_)) rfl rfl rfl rfl rfl ey69 rfl rfl rfl rfl (SImp.box rfl (by exact ImpL.refl _)) ?_
      refine dr_run mixed 1000 ?_; conv => (arg 3; whnf)
      refine Ok.stuck eqs_nil ?_; refine DWP.tlStep mixed (by repeat (first | exact PendD.nil | refine PendD.cons rfl (DOpP.vop (cl := false) rfl eqs_nil) ?_ | refine PendD.skip rfl ?_ | refine PendD.cons rfl (vopL_ok (cl := false) rfl eqs_nil) ?_)) ?_; (conv => (arg 3; whnf)); refine Nx.go_ok eqs_nil ?_
      refine dr_run mixed 1000 ?_; conv => (arg 3; whnf)
      obtain ⟨h70, hr⟩ := guardO hr
      refine Ok.stuck eqs_nil ?_; refine DWP.tlAppI (rows2 := (TNode.rows ([y69.fst]))) (by repeat (first | exact PendD.nil | refine PendD.cons rfl (DOpP.vop (cl := false) rfl eqs_nil) ?_ | refine PendD.skip rfl ?_ | refine PendD.cons rfl (vopL_ok (cl := false) rfl eqs_nil) ?_)) rfl rfl rfl rfl rfl (by first | rfl | simp only [List.length_set] | simp only [glen, List.length_set, List.length_replicate, List.length_append, List.length_cons, List.length_nil]) rfl (by exact Imp.of (by simp only [gsimp]; rfl)) rfl rfl (TNode.rows_ones _) rfl rfl (by have h0 := of_decide_eq_true h70; simp only [List.length_append, List.length_set, List.length_cons, List.length_nil, chunk_length, TNode.rows_len] at h0 ⊢; omega) ?_
      refine dr_run mixed 1000 ?_; conv => (arg 3; whnf)
      obtain ⟨y71, ey71, hr⟩ := bindO hr
      replace ey71 := (F124_ok ey71)
      refine Ok.stuck eqs_nil ?_; refine DWP.callS 0 ey71 rfl rfl rfl rfl (SImp.box rfl (by exact ImpL.refl _)) rfl ?_
      refine dr_run mixed 1000 ?_; conv => (arg 3; whnf)
      refine Ok.fin (eqs_cons rfl eqs_nil) ?_
      obtain rfl := Option.some.inj hr
      exact RD.leafSB rfl rfl rfl eqs_nil rfl (by exact Imp.refl _) (by exact ImpL.refl _)
    replace hr := bF h32 hr
    obtain ⟨y72, ey72, hr⟩ := bindO hr
    replace ey72 := (F125_ok ey72)
    refine Ok.stuck eqs_nil ?_; refine DWP.callS 0 ey72 rfl rfl rfl rfl (SImp.box rfl (by exact ImpL.refl _)) rfl ?_
    refine dr_run mixed 1000 ?_; conv => (arg 3; whnf)
    obtain ⟨y73, ey73, hr⟩ := bindO hr
    replace ey73 := (F124_ok ey73)
    refine Ok.stuck eqs_nil ?_; refine DWP.callS 0 ey73 rfl rfl rfl rfl (SImp.box rfl (by exact ImpL.refl _)) rfl ?_
    refine dr_run mixed 1000 ?_; conv => (arg 3; whnf)
    obtain ⟨y74, ey74, hr⟩ := bindO hr
    replace ey74 := (F121_ok ey74)
    refine Ok.val eqs_nil rfl rfl (DOpP.callF ey74 rfl rfl rfl eqs_nil (ImpL.refl _) (.inr rfl)) ?_
    refine dr_run mixed 1000 ?_; conv => (arg 3; whnf)
    refine Ok.split ?_ ?_ <;> intro h75 <;> conv => (arg 3; whnf)
    · replace hr := bT h75 hr
      refine Ok.stuck eqs_nil ?_
      refine DWP.nilCell 2 4 25 5 3 rfl rfl rfl ?_
      refine DWP.loopA (S := Tplexusref16UP × (List TNode)) 4 [0, 2, 3] [] (fun s => []) (fun s => [(0, .box ((Tplexusref16UP.cs s.1).map .d)), (3, .row 25 5 (TNode.rows s.2)), (2, .box [.d (.v (.int .i64 (4))), .d (.v (.string ⟨⟨(y72.fst)⟩⟩)), .d (.v (.int .i64 (0))), .d (.v (.int .i64 (y1.At))), .os 3 (TNode.rows s.2).length])]) (fun m s => m ≤ n ∧ F75_L2 y1 y72 m s.1 s.2 = some r) n (y73.snd, []) rfl rfl rfl rfl rfl rfl ⟨Nat.le_refl _, hr⟩ ?_
      clear hr
      rintro n ⟨s76, s81⟩ ⟨hle, hr⟩
      rcases n with _ | n
      · exact noneO hr
      replace hr : F75_L2 y1 y72 (n + 1) s76 s81 = some r := hr
      rw [F75_L2] at hr
      refine dr_run mixed 1000 ?_; conv => (arg 3; whnf)
      obtain ⟨y82, ey82, hr⟩ := bindO hr
      replace ey82 := (F74_ok ey82)
      refine Ok.val eqs_nil rfl rfl (DOpP.callF ey82 rfl rfl rfl eqs_nil (ImpL.refl _) (.inr rfl)) ?_
      refine dr_run mixed 1000 ?_; conv => (arg 3; whnf)
      obtain ⟨y83, ey83, hr⟩ := bindO hr
      replace ey83 := (F125_ok ey83)
      refine Ok.stuck eqs_nil ?_; refine DWP.callS 0 ey83 rfl rfl rfl rfl (SImp.box rfl (by exact ImpL.refl _)) rfl ?_
      refine dr_run mixed 1000 ?_; conv => (arg 3; whnf)
      obtain ⟨y84, ey84, hr⟩ := bindO hr
      replace ey84 := (F124_ok ey84)
      refine Ok.stuck eqs_nil ?_; refine DWP.callS 0 ey84 rfl rfl rfl rfl (SImp.box rfl (by exact ImpL.refl _)) rfl ?_
      refine dr_run mixed 1000 ?_; conv => (arg 3; whnf)
      obtain ⟨y85, ey85, hr⟩ := bindO hr
      replace ey85 := (F129_ok ey85)
      refine Ok.stuck eqs_nil ?_; refine DWP.callS 0 ey85 rfl rfl rfl rfl (SImp.box rfl (by exact ImpL.refl _)) rfl ?_
      refine dr_run mixed 1000 ?_; conv => (arg 3; whnf)
      refine Ok.stuck eqs_nil ?_; refine DWP.rowImp 5 (rows' := TNode.rows ([{ Kind := 6, Text := y83.fst, N := y85.fst, At := y82.At, Kids := [] : TNode }])) rfl (by (try simp only [gsimp]); repeat (first | exact Imp.refl _ | exact Imp.nil _ | exact ImpL.nil | exact ImpR.nil | exact ImpL.refl _ | exact ImpR.refl _ | exact Imp.of (by simp only [gsimp]; rfl) | (dsimp only; try simp only [gsimp]) | apply Imp.agg | apply Imp.tup | apply Imp.ip | apply Imp.fn | apply ImpL.cons | apply Imp.sl | apply ImpR.cons | apply ImpR.append)) ?_
      refine dr_run mixed 1000 ?_; conv => (arg 3; whnf)
      obtain ⟨h86, hr⟩ := guardO hr
      refine Ok.stuck eqs_nil ?_; refine DO.appRow rfl rfl (by first | rfl | simp only [List.length_set] | simp only [glen, List.length_set, List.length_replicate, List.length_append, List.length_cons, List.length_nil]) rfl rfl (by first | rfl | simp only [List.length_set] | simp only [glen, List.length_set, List.length_replicate, List.length_append, List.length_cons, List.length_nil]) rfl rfl (TNode.rows_ones _) rfl rfl rfl (by have h0 := of_decide_eq_true h86; simp only [List.length_append, List.length_set, List.length_cons, List.length_nil, chunk_length, TNode.rows_len] at h0 ⊢; omega) ?_
      refine dr_run mixed 1000 ?_; conv => (arg 3; whnf)
      obtain ⟨y87, ey87, hr⟩ := bindO hr
      replace ey87 := (F121_ok ey87)
      refine Ok.val eqs_nil rfl rfl (DOpP.callF ey87 rfl rfl rfl eqs_nil (ImpL.refl _) (.inr rfl)) ?_
      refine dr_run mixed 1000 ?_; conv => (arg 3; whnf)
      refine Ok.split ?_ ?_ <;> intro h88 <;> conv => (arg 3; whnf)
      · replace hr := bT h88 hr
        obtain ⟨y89, ey89, hr⟩ := bindO hr
        replace ey89 := (F124_ok ey89)
        refine Ok.stuck eqs_nil ?_; refine DWP.callS 0 ey89 rfl rfl rfl rfl (SImp.box rfl (by exact ImpL.refl _)) rfl ?_
        refine dr_run mixed 1000 ?_; conv => (arg 3; whnf)
        obtain ⟨y90, ey90, hr⟩ := bindO hr
        replace ey90 := (F124_ok ey90)
        refine Ok.stuck eqs_nil ?_; refine DWP.callS 0 ey90 rfl rfl rfl rfl (SImp.box rfl (by exact ImpL.refl _)) rfl ?_
        refine dr_run mixed 1000 ?_; conv => (arg 3; whnf)
        obtain ⟨y91, ey91, hr⟩ := bindO hr
        replace ey91 := (F74_ok ey91)
        refine Ok.val eqs_nil rfl rfl (DOpP.callF ey91 rfl rfl rfl eqs_nil (ImpL.refl _) (.inr rfl)) ?_
        refine dr_run mixed 1000 ?_; conv => (arg 3; whnf)
        obtain ⟨y92, ey92, hr⟩ := bindO hr
        replace ey92 := (F125_ok ey92)
        refine Ok.stuck eqs_nil ?_; refine DWP.callS 0 ey92 rfl rfl rfl rfl (SImp.box rfl (by exact ImpL.refl _)) rfl ?_
        refine dr_run mixed 1000 ?_; conv => (arg 3; whnf)
        refine Ok.stuck eqs_nil ?_; refine DWP.rowImp 7 (rows' := TNode.rows ([{ Kind := 48, Text := y92.fst, N := 0, At := y91.At, Kids := [] : TNode }])) rfl (by (try simp only [gsimp]); repeat (first | exact Imp.refl _ | exact Imp.nil _ | exact ImpL.nil | exact ImpR.nil | exact ImpL.refl _ | exact ImpR.refl _ | exact Imp.of (by simp only [gsimp]; rfl) | (dsimp only; try simp only [gsimp]) | apply Imp.agg | apply Imp.tup | apply Imp.ip | apply Imp.fn | apply ImpL.cons | apply Imp.sl | apply ImpR.cons | apply ImpR.append)) ?_
        refine dr_run mixed 1000 ?_; conv => (arg 3; whnf)
        obtain ⟨h93, hr⟩ := guardO hr
        refine Ok.stuck eqs_nil ?_; refine DO.appRow rfl rfl (by first | rfl | simp only [List.length_set] | simp only [glen, List.length_set, List.length_replicate, List.length_append, List.length_cons, List.length_nil]) rfl rfl (by first | rfl | simp only [List.length_set] | simp only [glen, List.length_set, List.length_replicate, List.length_append, List.length_cons, List.length_nil]) rfl rfl (TNode.rows_ones _) rfl rfl rfl (by have h0 := of_decide_eq_true h93; simp only [List.length_append, List.length_set, List.length_cons, List.length_nil, chunk_length, TNode.rows_len] at h0 ⊢; omega) ?_
        refine dr_run mixed 1000 ?_; conv => (arg 3; whnf)
        obtain ⟨y94, ey94, hr⟩ := bindO hr
        replace ey94 := (F124_ok ey94)
        refine Ok.stuck eqs_nil ?_; refine DWP.callS 0 ey94 rfl rfl rfl rfl (SImp.box rfl (by exact ImpL.refl _)) rfl ?_
        refine dr_run mixed 1000 ?_; conv => (arg 3; whnf)
        refine Ok.open (id := 40) [] [(0, .fl), (1, .fl), (2, .fl), (3, .one), (4, .fl), (5, .one), (6, .fl), (7, .one)] [] eqs_nil mixed rfl (by kernel_rfl) (by kernel_rfl) ?_
        refine dr_run mixed 1000 ?_; conv => (arg 3; whnf)
        refine Ok.stuck eqs_nil ?_; refine DWP.tlStep mixed (by repeat (first | exact PendD.nil | refine PendD.cons rfl (DOpP.vop (cl := false) rfl eqs_nil) ?_ | refine PendD.skip rfl ?_ | refine PendD.cons rfl (vopL_ok (cl := false) rfl eqs_nil) ?_)) ?_; (conv => (arg 3; whnf)); refine Nx.go_ok eqs_nil ?_
        refine dr_run mixed 1000 ?_; conv => (arg 3; whnf)
        obtain ⟨y95, ey95, hr⟩ := bindO hr
        replace ey95 := (F72_ok ey95)
        refine Ok.stuck eqs_nil ?_; refine DWP.tlCallS 0 (by repeat (first | exact PendD.nil | refine PendD.cons rfl (DOpP.vop (cl := false) rfl eqs_nil) ?_ | refine PendD.skip rfl ?_ | refine PendD.cons rfl (vopL_ok (cl := false) rfl eqs_nil) ?_)) rfl rfl rfl rfl rfl ey95 rfl rfl rfl rfl (SImp.box rfl (by exact ImpL.refl _)) ?_
        refine dr_run mixed 1000 ?_; conv => (arg 3; whnf)
        refine Ok.stuck eqs_nil ?_; refine DWP.tlStep mixed (by repeat (first | exact PendD.nil | refine PendD.cons rfl (DOpP.vop (cl := false) rfl eqs_nil) ?_ | refine PendD.skip rfl ?_ | refine PendD.cons rfl (vopL_ok (cl := false) rfl eqs_nil) ?_)) ?_; (conv => (arg 3; whnf)); refine Nx.go_ok eqs_nil ?_
        refine dr_run mixed 1000 ?_; conv => (arg 3; whnf)
        obtain ⟨h96, hr⟩ := guardO hr
        refine Ok.stuck eqs_nil ?_; refine DWP.tlAppI (rows2 := (TNode.rows ([y95.fst]))) (by repeat (first | exact PendD.nil | refine PendD.cons rfl (DOpP.vop (cl := false) rfl eqs_nil) ?_ | refine PendD.skip rfl ?_ | refine PendD.cons rfl (vopL_ok (cl := false) rfl eqs_nil) ?_)) rfl rfl rfl rfl rfl (by first | rfl | simp only [List.length_set] | simp only [glen, List.length_set, List.length_replicate, List.length_append, List.length_cons, List.length_nil]) rfl (by exact Imp.of (by simp only [gsimp]; rfl)) rfl rfl (TNode.rows_ones _) rfl rfl (by have h0 := of_decide_eq_true h96; simp only [List.length_append, List.length_set, List.length_cons, List.length_nil, chunk_length, TNode.rows_len] at h0 ⊢; omega) ?_
        refine dr_run mixed 1000 ?_; conv => (arg 3; whnf)
        obtain ⟨y97, ey97, hr⟩ := bindO hr
        replace ey97 := (F124_ok ey97)
        refine Ok.stuck eqs_nil ?_; refine DWP.callS 0 ey97 rfl rfl rfl rfl (SImp.box rfl (by exact ImpL.refl _)) rfl ?_
        refine dr_run mixed 1000 ?_; conv => (arg 3; whnf)
        refine Ok.fin (eqs_cons rfl eqs_nil) ?_
        obtain rfl := Option.some.inj hr
        exact RD.leafSB rfl rfl rfl eqs_nil rfl (by (try simp only [gsimp]); repeat (first | exact Imp.refl _ | exact Imp.nil _ | exact ImpL.nil | exact ImpR.nil | exact ImpL.refl _ | exact ImpR.refl _ | exact Imp.of (by simp only [gsimp]; rfl) | (dsimp only; try simp only [gsimp]) | apply Imp.agg | apply Imp.tup | apply Imp.ip | apply Imp.fn | apply ImpL.cons | apply Imp.sl | apply ImpR.cons | apply ImpR.append)) (by exact ImpL.refl _)
      replace hr := bF h88 hr
      refine Ok.stuck eqs_nil ?_
      exact DWP.nextA ({ T := y85.snd.T, I := IntKind.i64.wrap (y85.snd.I + 1), Open := y85.snd.Open, Bad := y85.snd.Bad, Fault := y85.snd.Fault : Tplexusref16UP }, s81 ++ [{ Kind := 6, Text := y83.fst, N := y85.fst, At := y82.At, Kids := [] : TNode }]) n rfl rfl (by first | rfl | (simp only [gsimp]; rfl) | (simp only [gsimp, List.length_set]; rfl) | (simp only [gcs, gsimp, List.length_set]; rfl)) (by first | rfl | (simp only [gsimp]; rfl) | (simp only [gsimp, List.length_set]; rfl) | (simp only [gcs, gsimp, List.length_set]; rfl)) (by omega) ⟨by omega, by exact hr⟩
    replace hr := bF h75 hr
    obtain ⟨y98, ey98, hr⟩ := bindO hr
    replace ey98 := (F124_ok ey98)
    refine Ok.stuck eqs_nil ?_; refine DWP.callS 0 ey98 rfl rfl rfl rfl (SImp.box rfl (by exact ImpL.refl _)) rfl ?_
    refine dr_run mixed 1000 ?_; conv => (arg 3; whnf)
    obtain ⟨y99, ey99, hr⟩ := bindO hr
    replace ey99 := (F124_ok ey99)
    refine Ok.stuck eqs_nil ?_; refine DWP.callS 0 ey99 rfl rfl rfl rfl (SImp.box rfl (by exact ImpL.refl _)) rfl ?_
    refine dr_run mixed 1000 ?_; conv => (arg 3; whnf)
    obtain ⟨y100, ey100, hr⟩ := bindO hr
    replace ey100 := (F74_ok ey100)
    refine Ok.val eqs_nil rfl rfl (DOpP.callF ey100 rfl rfl rfl eqs_nil (ImpL.refl _) (.inr rfl)) ?_
    refine dr_run mixed 1000 ?_; conv => (arg 3; whnf)
    obtain ⟨y101, ey101, hr⟩ := bindO hr
    replace ey101 := (F125_ok ey101)
    refine Ok.stuck eqs_nil ?_; refine DWP.callS 0 ey101 rfl rfl rfl rfl (SImp.box rfl (by exact ImpL.refl _)) rfl ?_
    refine dr_run mixed 1000 ?_; conv => (arg 3; whnf)
    refine Ok.stuck eqs_nil ?_; refine DWP.rowImp 4 (rows' := TNode.rows ([{ Kind := 48, Text := y101.fst, N := 0, At := y100.At, Kids := [] : TNode }])) rfl (by (try simp only [gsimp]); repeat (first | exact Imp.refl _ | exact Imp.nil _ | exact ImpL.nil | exact ImpR.nil | exact ImpL.refl _ | exact ImpR.refl _ | exact Imp.of (by simp only [gsimp]; rfl) | (dsimp only; try simp only [gsimp]) | apply Imp.agg | apply Imp.tup | apply Imp.ip | apply Imp.fn | apply ImpL.cons | apply Imp.sl | apply ImpR.cons | apply ImpR.append)) ?_
    refine dr_run mixed 1000 ?_; conv => (arg 3; whnf)
    obtain ⟨h102, hr⟩ := guardO hr
    refine Ok.stuck eqs_nil ?_; refine DO.appRow rfl rfl (by first | rfl | simp only [List.length_set] | simp only [glen, List.length_set, List.length_replicate, List.length_append, List.length_cons, List.length_nil]) rfl rfl (by first | rfl | simp only [List.length_set] | simp only [glen, List.length_set, List.length_replicate, List.length_append, List.length_cons, List.length_nil]) rfl rfl (TNode.rows_ones _) rfl rfl rfl (by have h0 := of_decide_eq_true h102; simp only [List.length_append, List.length_set, List.length_cons, List.length_nil, chunk_length, TNode.rows_len] at h0 ⊢; omega) ?_
    refine dr_run mixed 1000 ?_; conv => (arg 3; whnf)
    obtain ⟨y103, ey103, hr⟩ := bindO hr
    replace ey103 := (F124_ok ey103)
    refine Ok.stuck eqs_nil ?_; refine DWP.callS 0 ey103 rfl rfl rfl rfl (SImp.box rfl (by exact ImpL.refl _)) rfl ?_
    refine dr_run mixed 1000 ?_; conv => (arg 3; whnf)
    refine Ok.open (id := 40) [] [(0, .fl), (1, .fl), (2, .fl), (3, .one), (4, .fl), (5, .one), (6, .fl), (7, .one)] [] eqs_nil mixed rfl (by kernel_rfl) (by kernel_rfl) ?_
    refine dr_run mixed 1000 ?_; conv => (arg 3; whnf)
    refine Ok.stuck eqs_nil ?_; refine DWP.tlStep mixed (by repeat (first | exact PendD.nil | refine PendD.cons rfl (DOpP.vop (cl := false) rfl eqs_nil) ?_ | refine PendD.skip rfl ?_ | refine PendD.cons rfl (vopL_ok (cl := false) rfl eqs_nil) ?_)) ?_; (conv => (arg 3; whnf)); refine Nx.go_ok eqs_nil ?_
    refine dr_run mixed 1000 ?_; conv => (arg 3; whnf)
    obtain ⟨y104, ey104, hr⟩ := bindO hr
    replace ey104 := (F72_ok ey104)
    refine Ok.stuck eqs_nil ?_; refine DWP.tlCallS 0 (by repeat (first | exact PendD.nil | refine PendD.cons rfl (DOpP.vop (cl := false) rfl eqs_nil) ?_ | refine PendD.skip rfl ?_ | refine PendD.cons rfl (vopL_ok (cl := false) rfl eqs_nil) ?_)) rfl rfl rfl rfl rfl ey104 rfl rfl rfl rfl (SImp.box rfl (by exact ImpL.refl _)) ?_
    refine dr_run mixed 1000 ?_; conv => (arg 3; whnf)
    refine Ok.stuck eqs_nil ?_; refine DWP.tlStep mixed (by repeat (first | exact PendD.nil | refine PendD.cons rfl (DOpP.vop (cl := false) rfl eqs_nil) ?_ | refine PendD.skip rfl ?_ | refine PendD.cons rfl (vopL_ok (cl := false) rfl eqs_nil) ?_)) ?_; (conv => (arg 3; whnf)); refine Nx.go_ok eqs_nil ?_
    refine dr_run mixed 1000 ?_; conv => (arg 3; whnf)
    obtain ⟨h105, hr⟩ := guardO hr
    refine Ok.stuck eqs_nil ?_; refine DWP.tlAppI (rows2 := (TNode.rows ([y104.fst]))) (by repeat (first | exact PendD.nil | refine PendD.cons rfl (DOpP.vop (cl := false) rfl eqs_nil) ?_ | refine PendD.skip rfl ?_ | refine PendD.cons rfl (vopL_ok (cl := false) rfl eqs_nil) ?_)) rfl rfl rfl rfl rfl (by first | rfl | simp only [List.length_set] | simp only [glen, List.length_set, List.length_replicate, List.length_append, List.length_cons, List.length_nil]) rfl (by exact Imp.of (by simp only [gsimp]; rfl)) rfl rfl (TNode.rows_ones _) rfl rfl (by have h0 := of_decide_eq_true h105; simp only [List.length_append, List.length_set, List.length_cons, List.length_nil, chunk_length, TNode.rows_len] at h0 ⊢; omega) ?_
    refine dr_run mixed 1000 ?_; conv => (arg 3; whnf)
    obtain ⟨y106, ey106, hr⟩ := bindO hr
    replace ey106 := (F124_ok ey106)
    refine Ok.stuck eqs_nil ?_; refine DWP.callS 0 ey106 rfl rfl rfl rfl (SImp.box rfl (by exact ImpL.refl _)) rfl ?_
    refine dr_run mixed 1000 ?_; conv => (arg 3; whnf)
    refine Ok.fin (eqs_cons rfl eqs_nil) ?_
    obtain rfl := Option.some.inj hr
    exact RD.leafSB rfl rfl rfl eqs_nil rfl (by exact Imp.refl _) (by exact ImpL.refl _)
  replace hr := bF h27 hr
  obtain ⟨y107, ey107, hr⟩ := bindO hr
  replace ey107 := (F121_ok ey107)
  refine Ok.val eqs_nil rfl rfl (DOpP.callF ey107 rfl rfl rfl eqs_nil (ImpL.refl _) (.inr rfl)) ?_
  refine dr_run mixed 1000 ?_; conv => (arg 3; whnf)
  refine Ok.split ?_ ?_ <;> intro h108 <;> conv => (arg 3; whnf)
  · replace hr := bT h108 hr
    obtain ⟨y109, ey109, hr⟩ := bindO hr
    replace ey109 := (F125_ok ey109)
    refine Ok.stuck eqs_nil ?_; refine DWP.callS 0 ey109 rfl rfl rfl rfl (SImp.box rfl (by exact ImpL.refl _)) rfl ?_
    refine dr_run mixed 1000 ?_; conv => (arg 3; whnf)
    obtain ⟨y110, ey110, hr⟩ := bindO hr
    replace ey110 := (F124_ok ey110)
    refine Ok.stuck eqs_nil ?_; refine DWP.callS 0 ey110 rfl rfl rfl rfl (SImp.box rfl (by exact ImpL.refl _)) rfl ?_
    refine dr_run mixed 1000 ?_; conv => (arg 3; whnf)
    obtain ⟨y111, ey111, hr⟩ := bindO hr
    replace ey111 := (F121_ok ey111)
    refine Ok.val eqs_nil rfl rfl (DOpP.callF ey111 rfl rfl rfl eqs_nil (ImpL.refl _) (.inr rfl)) ?_
    refine dr_run mixed 1000 ?_; conv => (arg 3; whnf)
    refine Ok.split ?_ ?_ <;> intro h112 <;> conv => (arg 3; whnf)
    · replace hr := bT h112 hr
      refine Ok.stuck eqs_nil ?_
      refine DWP.nilCell 2 4 25 5 3 rfl rfl rfl ?_
      refine DWP.loopA (S := Tplexusref16UP × (List TNode)) 4 [0, 2, 3] [] (fun s => []) (fun s => [(0, .box ((Tplexusref16UP.cs s.1).map .d)), (3, .row 25 5 (TNode.rows s.2)), (2, .box [.d (.v (.int .i64 (5))), .d (.v (.string ⟨⟨(y109.fst)⟩⟩)), .d (.v (.int .i64 (0))), .d (.v (.int .i64 (y1.At))), .os 3 (TNode.rows s.2).length])]) (fun m s => m ≤ n ∧ F75_L3 y1 y109 m s.1 s.2 = some r) n (y110.snd, []) rfl rfl rfl rfl rfl rfl ⟨Nat.le_refl _, hr⟩ ?_
      clear hr
      rintro n ⟨s113, s118⟩ ⟨hle, hr⟩
      rcases n with _ | n
      · exact noneO hr
      replace hr : F75_L3 y1 y109 (n + 1) s113 s118 = some r := hr
      rw [F75_L3] at hr
      refine dr_run mixed 1000 ?_; conv => (arg 3; whnf)
      obtain ⟨y119, ey119, hr⟩ := bindO hr
      replace ey119 := (F74_ok ey119)
      refine Ok.val eqs_nil rfl rfl (DOpP.callF ey119 rfl rfl rfl eqs_nil (ImpL.refl _) (.inr rfl)) ?_
      refine dr_run mixed 1000 ?_; conv => (arg 3; whnf)
      obtain ⟨y120, ey120, hr⟩ := bindO hr
      replace ey120 := (F125_ok ey120)
      refine Ok.stuck eqs_nil ?_; refine DWP.callS 0 ey120 rfl rfl rfl rfl (SImp.box rfl (by exact ImpL.refl _)) rfl ?_
      refine dr_run mixed 1000 ?_; conv => (arg 3; whnf)
      obtain ⟨y121, ey121, hr⟩ := bindO hr
      replace ey121 := (F124_ok ey121)
      refine Ok.stuck eqs_nil ?_; refine DWP.callS 0 ey121 rfl rfl rfl rfl (SImp.box rfl (by exact ImpL.refl _)) rfl ?_
      refine dr_run mixed 1000 ?_; conv => (arg 3; whnf)
      obtain ⟨y122, ey122, hr⟩ := bindO hr
      replace ey122 := (F129_ok ey122)
      refine Ok.stuck eqs_nil ?_; refine DWP.callS 0 ey122 rfl rfl rfl rfl (SImp.box rfl (by exact ImpL.refl _)) rfl ?_
      refine dr_run mixed 1000 ?_; conv => (arg 3; whnf)
      refine Ok.stuck eqs_nil ?_; refine DWP.rowImp 5 (rows' := TNode.rows ([{ Kind := 6, Text := y120.fst, N := y122.fst, At := y119.At, Kids := [] : TNode }])) rfl (by (try simp only [gsimp]); repeat (first | exact Imp.refl _ | exact Imp.nil _ | exact ImpL.nil | exact ImpR.nil | exact ImpL.refl _ | exact ImpR.refl _ | exact Imp.of (by simp only [gsimp]; rfl) | (dsimp only; try simp only [gsimp]) | apply Imp.agg | apply Imp.tup | apply Imp.ip | apply Imp.fn | apply ImpL.cons | apply Imp.sl | apply ImpR.cons | apply ImpR.append)) ?_
      refine dr_run mixed 1000 ?_; conv => (arg 3; whnf)
      obtain ⟨h123, hr⟩ := guardO hr
      refine Ok.stuck eqs_nil ?_; refine DO.appRow rfl rfl (by first | rfl | simp only [List.length_set] | simp only [glen, List.length_set, List.length_replicate, List.length_append, List.length_cons, List.length_nil]) rfl rfl (by first | rfl | simp only [List.length_set] | simp only [glen, List.length_set, List.length_replicate, List.length_append, List.length_cons, List.length_nil]) rfl rfl (TNode.rows_ones _) rfl rfl rfl (by have h0 := of_decide_eq_true h123; simp only [List.length_append, List.length_set, List.length_cons, List.length_nil, chunk_length, TNode.rows_len] at h0 ⊢; omega) ?_
      refine dr_run mixed 1000 ?_; conv => (arg 3; whnf)
      obtain ⟨y124, ey124, hr⟩ := bindO hr
      replace ey124 := (F121_ok ey124)
      refine Ok.val eqs_nil rfl rfl (DOpP.callF ey124 rfl rfl rfl eqs_nil (ImpL.refl _) (.inr rfl)) ?_
      refine dr_run mixed 1000 ?_; conv => (arg 3; whnf)
      refine Ok.split ?_ ?_ <;> intro h125 <;> conv => (arg 3; whnf)
      · replace hr := bT h125 hr
        obtain ⟨y126, ey126, hr⟩ := bindO hr
        replace ey126 := (F124_ok ey126)
        refine Ok.stuck eqs_nil ?_; refine DWP.callS 0 ey126 rfl rfl rfl rfl (SImp.box rfl (by exact ImpL.refl _)) rfl ?_
        refine dr_run mixed 1000 ?_; conv => (arg 3; whnf)
        obtain ⟨y127, ey127, hr⟩ := bindO hr
        replace ey127 := (F124_ok ey127)
        refine Ok.stuck eqs_nil ?_; refine DWP.callS 0 ey127 rfl rfl rfl rfl (SImp.box rfl (by exact ImpL.refl _)) rfl ?_
        refine dr_run mixed 1000 ?_; conv => (arg 3; whnf)
        obtain ⟨y128, ey128, hr⟩ := bindO hr
        replace ey128 := (F74_ok ey128)
        refine Ok.val eqs_nil rfl rfl (DOpP.callF ey128 rfl rfl rfl eqs_nil (ImpL.refl _) (.inr rfl)) ?_
        refine dr_run mixed 1000 ?_; conv => (arg 3; whnf)
        obtain ⟨y129, ey129, hr⟩ := bindO hr
        replace ey129 := (F125_ok ey129)
        refine Ok.stuck eqs_nil ?_; refine DWP.callS 0 ey129 rfl rfl rfl rfl (SImp.box rfl (by exact ImpL.refl _)) rfl ?_
        refine dr_run mixed 1000 ?_; conv => (arg 3; whnf)
        refine Ok.stuck eqs_nil ?_; refine DWP.rowImp 7 (rows' := TNode.rows ([{ Kind := 48, Text := y129.fst, N := 0, At := y128.At, Kids := [] : TNode }])) rfl (by (try simp only [gsimp]); repeat (first | exact Imp.refl _ | exact Imp.nil _ | exact ImpL.nil | exact ImpR.nil | exact ImpL.refl _ | exact ImpR.refl _ | exact Imp.of (by simp only [gsimp]; rfl) | (dsimp only; try simp only [gsimp]) | apply Imp.agg | apply Imp.tup | apply Imp.ip | apply Imp.fn | apply ImpL.cons | apply Imp.sl | apply ImpR.cons | apply ImpR.append)) ?_
        refine dr_run mixed 1000 ?_; conv => (arg 3; whnf)
        obtain ⟨h130, hr⟩ := guardO hr
        refine Ok.stuck eqs_nil ?_; refine DO.appRow rfl rfl (by first | rfl | simp only [List.length_set] | simp only [glen, List.length_set, List.length_replicate, List.length_append, List.length_cons, List.length_nil]) rfl rfl (by first | rfl | simp only [List.length_set] | simp only [glen, List.length_set, List.length_replicate, List.length_append, List.length_cons, List.length_nil]) rfl rfl (TNode.rows_ones _) rfl rfl rfl (by have h0 := of_decide_eq_true h130; simp only [List.length_append, List.length_set, List.length_cons, List.length_nil, chunk_length, TNode.rows_len] at h0 ⊢; omega) ?_
        refine dr_run mixed 1000 ?_; conv => (arg 3; whnf)
        obtain ⟨y131, ey131, hr⟩ := bindO hr
        replace ey131 := (F124_ok ey131)
        refine Ok.stuck eqs_nil ?_; refine DWP.callS 0 ey131 rfl rfl rfl rfl (SImp.box rfl (by exact ImpL.refl _)) rfl ?_
        refine dr_run mixed 1000 ?_; conv => (arg 3; whnf)
        obtain ⟨y132, ey132, hr⟩ := bindO hr
        replace ey132 := (F129_ok ey132)
        refine Ok.stuck eqs_nil ?_; refine DWP.callS 0 ey132 rfl rfl rfl rfl (SImp.box rfl (by exact ImpL.refl _)) rfl ?_
        refine dr_run mixed 1000 ?_; conv => (arg 3; whnf)
        obtain ⟨y133, ey133, hr⟩ := bindO hr
        replace ey133 := (F124_ok ey133)
        refine Ok.stuck eqs_nil ?_; refine DWP.callS 0 ey133 rfl rfl rfl rfl (SImp.box rfl (by exact ImpL.refl _)) rfl ?_
        refine dr_run mixed 1000 ?_; conv => (arg 3; whnf)
        refine Ok.open (id := 40) [] [(0, .fl), (1, .fl), (2, .fl), (3, .one), (4, .fl), (5, .one), (6, .fl), (7, .one)] [] eqs_nil mixed rfl (by kernel_rfl) (by kernel_rfl) ?_
        refine dr_run mixed 1000 ?_; conv => (arg 3; whnf)
        refine Ok.stuck eqs_nil ?_; refine DWP.tlStep mixed (by repeat (first | exact PendD.nil | refine PendD.cons rfl (DOpP.vop (cl := false) rfl eqs_nil) ?_ | refine PendD.skip rfl ?_ | refine PendD.cons rfl (vopL_ok (cl := false) rfl eqs_nil) ?_)) ?_; (conv => (arg 3; whnf)); refine Nx.go_ok eqs_nil ?_
        refine dr_run mixed 1000 ?_; conv => (arg 3; whnf)
        obtain ⟨y134, ey134, hr⟩ := bindO hr
        replace ey134 := (F72_ok ey134)
        refine Ok.stuck eqs_nil ?_; refine DWP.tlCallS 0 (by repeat (first | exact PendD.nil | refine PendD.cons rfl (DOpP.vop (cl := false) rfl eqs_nil) ?_ | refine PendD.skip rfl ?_ | refine PendD.cons rfl (vopL_ok (cl := false) rfl eqs_nil) ?_)) rfl rfl rfl rfl rfl ey134 rfl rfl rfl rfl (SImp.box rfl (by exact ImpL.refl _)) ?_
        refine dr_run mixed 1000 ?_; conv => (arg 3; whnf)
        refine Ok.stuck eqs_nil ?_; refine DWP.tlStep mixed (by repeat (first | exact PendD.nil | refine PendD.cons rfl (DOpP.vop (cl := false) rfl eqs_nil) ?_ | refine PendD.skip rfl ?_ | refine PendD.cons rfl (vopL_ok (cl := false) rfl eqs_nil) ?_)) ?_; (conv => (arg 3; whnf)); refine Nx.go_ok eqs_nil ?_
        refine dr_run mixed 1000 ?_; conv => (arg 3; whnf)
        obtain ⟨h135, hr⟩ := guardO hr
        refine Ok.stuck eqs_nil ?_; refine DWP.tlAppI (rows2 := (TNode.rows ([y134.fst]))) (by repeat (first | exact PendD.nil | refine PendD.cons rfl (DOpP.vop (cl := false) rfl eqs_nil) ?_ | refine PendD.skip rfl ?_ | refine PendD.cons rfl (vopL_ok (cl := false) rfl eqs_nil) ?_)) rfl rfl rfl rfl rfl (by first | rfl | simp only [List.length_set] | simp only [glen, List.length_set, List.length_replicate, List.length_append, List.length_cons, List.length_nil]) rfl (by exact Imp.of (by simp only [gsimp]; rfl)) rfl rfl (TNode.rows_ones _) rfl rfl (by have h0 := of_decide_eq_true h135; simp only [List.length_append, List.length_set, List.length_cons, List.length_nil, chunk_length, TNode.rows_len] at h0 ⊢; omega) ?_
        refine dr_run mixed 1000 ?_; conv => (arg 3; whnf)
        obtain ⟨y136, ey136, hr⟩ := bindO hr
        replace ey136 := (F124_ok ey136)
        refine Ok.stuck eqs_nil ?_; refine DWP.callS 0 ey136 rfl rfl rfl rfl (SImp.box rfl (by exact ImpL.refl _)) rfl ?_
        refine dr_run mixed 1000 ?_; conv => (arg 3; whnf)
        refine Ok.fin (eqs_cons rfl eqs_nil) ?_
        obtain rfl := Option.some.inj hr
        exact RD.leafSB rfl rfl rfl eqs_nil rfl (by (try simp only [gsimp]); repeat (first | exact Imp.refl _ | exact Imp.nil _ | exact ImpL.nil | exact ImpR.nil | exact ImpL.refl _ | exact ImpR.refl _ | exact Imp.of (by simp only [gsimp]; rfl) | (dsimp only; try simp only [gsimp]) | apply Imp.agg | apply Imp.tup | apply Imp.ip | apply Imp.fn | apply ImpL.cons | apply Imp.sl | apply ImpR.cons | apply ImpR.append)) (by exact ImpL.refl _)
      replace hr := bF h125 hr
      refine Ok.stuck eqs_nil ?_
      exact DWP.nextA ({ T := y122.snd.T, I := IntKind.i64.wrap (y122.snd.I + 1), Open := y122.snd.Open, Bad := y122.snd.Bad, Fault := y122.snd.Fault : Tplexusref16UP }, s118 ++ [{ Kind := 6, Text := y120.fst, N := y122.fst, At := y119.At, Kids := [] : TNode }]) n rfl rfl (by first | rfl | (simp only [gsimp]; rfl) | (simp only [gsimp, List.length_set]; rfl) | (simp only [gcs, gsimp, List.length_set]; rfl)) (by first | rfl | (simp only [gsimp]; rfl) | (simp only [gsimp, List.length_set]; rfl) | (simp only [gcs, gsimp, List.length_set]; rfl)) (by omega) ⟨by omega, by exact hr⟩
    replace hr := bF h112 hr
    obtain ⟨y137, ey137, hr⟩ := bindO hr
    replace ey137 := (F124_ok ey137)
    refine Ok.stuck eqs_nil ?_; refine DWP.callS 0 ey137 rfl rfl rfl rfl (SImp.box rfl (by exact ImpL.refl _)) rfl ?_
    refine dr_run mixed 1000 ?_; conv => (arg 3; whnf)
    obtain ⟨y138, ey138, hr⟩ := bindO hr
    replace ey138 := (F124_ok ey138)
    refine Ok.stuck eqs_nil ?_; refine DWP.callS 0 ey138 rfl rfl rfl rfl (SImp.box rfl (by exact ImpL.refl _)) rfl ?_
    refine dr_run mixed 1000 ?_; conv => (arg 3; whnf)
    obtain ⟨y139, ey139, hr⟩ := bindO hr
    replace ey139 := (F74_ok ey139)
    refine Ok.val eqs_nil rfl rfl (DOpP.callF ey139 rfl rfl rfl eqs_nil (ImpL.refl _) (.inr rfl)) ?_
    refine dr_run mixed 1000 ?_; conv => (arg 3; whnf)
    obtain ⟨y140, ey140, hr⟩ := bindO hr
    replace ey140 := (F125_ok ey140)
    refine Ok.stuck eqs_nil ?_; refine DWP.callS 0 ey140 rfl rfl rfl rfl (SImp.box rfl (by exact ImpL.refl _)) rfl ?_
    refine dr_run mixed 1000 ?_; conv => (arg 3; whnf)
    refine Ok.stuck eqs_nil ?_; refine DWP.rowImp 4 (rows' := TNode.rows ([{ Kind := 48, Text := y140.fst, N := 0, At := y139.At, Kids := [] : TNode }])) rfl (by (try simp only [gsimp]); repeat (first | exact Imp.refl _ | exact Imp.nil _ | exact ImpL.nil | exact ImpR.nil | exact ImpL.refl _ | exact ImpR.refl _ | exact Imp.of (by simp only [gsimp]; rfl) | (dsimp only; try simp only [gsimp]) | apply Imp.agg | apply Imp.tup | apply Imp.ip | apply Imp.fn | apply ImpL.cons | apply Imp.sl | apply ImpR.cons | apply ImpR.append)) ?_
    refine dr_run mixed 1000 ?_; conv => (arg 3; whnf)
    obtain ⟨h141, hr⟩ := guardO hr
    refine Ok.stuck eqs_nil ?_; refine DO.appRow rfl rfl (by first | rfl | simp only [List.length_set] | simp only [glen, List.length_set, List.length_replicate, List.length_append, List.length_cons, List.length_nil]) rfl rfl (by first | rfl | simp only [List.length_set] | simp only [glen, List.length_set, List.length_replicate, List.length_append, List.length_cons, List.length_nil]) rfl rfl (TNode.rows_ones _) rfl rfl rfl (by have h0 := of_decide_eq_true h141; simp only [List.length_append, List.length_set, List.length_cons, List.length_nil, chunk_length, TNode.rows_len] at h0 ⊢; omega) ?_
    refine dr_run mixed 1000 ?_; conv => (arg 3; whnf)
    obtain ⟨y142, ey142, hr⟩ := bindO hr
    replace ey142 := (F124_ok ey142)
    refine Ok.stuck eqs_nil ?_; refine DWP.callS 0 ey142 rfl rfl rfl rfl (SImp.box rfl (by exact ImpL.refl _)) rfl ?_
    refine dr_run mixed 1000 ?_; conv => (arg 3; whnf)
    obtain ⟨y143, ey143, hr⟩ := bindO hr
    replace ey143 := (F129_ok ey143)
    refine Ok.stuck eqs_nil ?_; refine DWP.callS 0 ey143 rfl rfl rfl rfl (SImp.box rfl (by exact ImpL.refl _)) rfl ?_
    refine dr_run mixed 1000 ?_; conv => (arg 3; whnf)
    obtain ⟨y144, ey144, hr⟩ := bindO hr
    replace ey144 := (F124_ok ey144)
    refine Ok.stuck eqs_nil ?_; refine DWP.callS 0 ey144 rfl rfl rfl rfl (SImp.box rfl (by exact ImpL.refl _)) rfl ?_
    refine dr_run mixed 1000 ?_; conv => (arg 3; whnf)
    refine Ok.open (id := 40) [] [(0, .fl), (1, .fl), (2, .fl), (3, .one), (4, .fl), (5, .one), (6, .fl), (7, .one)] [] eqs_nil mixed rfl (by kernel_rfl) (by kernel_rfl) ?_
    refine dr_run mixed 1000 ?_; conv => (arg 3; whnf)
    refine Ok.stuck eqs_nil ?_; refine DWP.tlStep mixed (by repeat (first | exact PendD.nil | refine PendD.cons rfl (DOpP.vop (cl := false) rfl eqs_nil) ?_ | refine PendD.skip rfl ?_ | refine PendD.cons rfl (vopL_ok (cl := false) rfl eqs_nil) ?_)) ?_; (conv => (arg 3; whnf)); refine Nx.go_ok eqs_nil ?_
    refine dr_run mixed 1000 ?_; conv => (arg 3; whnf)
    obtain ⟨y145, ey145, hr⟩ := bindO hr
    replace ey145 := (F72_ok ey145)
    refine Ok.stuck eqs_nil ?_; refine DWP.tlCallS 0 (by repeat (first | exact PendD.nil | refine PendD.cons rfl (DOpP.vop (cl := false) rfl eqs_nil) ?_ | refine PendD.skip rfl ?_ | refine PendD.cons rfl (vopL_ok (cl := false) rfl eqs_nil) ?_)) rfl rfl rfl rfl rfl ey145 rfl rfl rfl rfl (SImp.box rfl (by exact ImpL.refl _)) ?_
    refine dr_run mixed 1000 ?_; conv => (arg 3; whnf)
    refine Ok.stuck eqs_nil ?_; refine DWP.tlStep mixed (by repeat (first | exact PendD.nil | refine PendD.cons rfl (DOpP.vop (cl := false) rfl eqs_nil) ?_ | refine PendD.skip rfl ?_ | refine PendD.cons rfl (vopL_ok (cl := false) rfl eqs_nil) ?_)) ?_; (conv => (arg 3; whnf)); refine Nx.go_ok eqs_nil ?_
    refine dr_run mixed 1000 ?_; conv => (arg 3; whnf)
    obtain ⟨h146, hr⟩ := guardO hr
    refine Ok.stuck eqs_nil ?_; refine DWP.tlAppI (rows2 := (TNode.rows ([y145.fst]))) (by repeat (first | exact PendD.nil | refine PendD.cons rfl (DOpP.vop (cl := false) rfl eqs_nil) ?_ | refine PendD.skip rfl ?_ | refine PendD.cons rfl (vopL_ok (cl := false) rfl eqs_nil) ?_)) rfl rfl rfl rfl rfl (by first | rfl | simp only [List.length_set] | simp only [glen, List.length_set, List.length_replicate, List.length_append, List.length_cons, List.length_nil]) rfl (by exact Imp.of (by simp only [gsimp]; rfl)) rfl rfl (TNode.rows_ones _) rfl rfl (by have h0 := of_decide_eq_true h146; simp only [List.length_append, List.length_set, List.length_cons, List.length_nil, chunk_length, TNode.rows_len] at h0 ⊢; omega) ?_
    refine dr_run mixed 1000 ?_; conv => (arg 3; whnf)
    obtain ⟨y147, ey147, hr⟩ := bindO hr
    replace ey147 := (F124_ok ey147)
    refine Ok.stuck eqs_nil ?_; refine DWP.callS 0 ey147 rfl rfl rfl rfl (SImp.box rfl (by exact ImpL.refl _)) rfl ?_
    refine dr_run mixed 1000 ?_; conv => (arg 3; whnf)
    refine Ok.fin (eqs_cons rfl eqs_nil) ?_
    obtain rfl := Option.some.inj hr
    exact RD.leafSB rfl rfl rfl eqs_nil rfl (by exact Imp.refl _) (by exact ImpL.refl _)
  replace hr := bF h108 hr
  obtain ⟨y148, ey148, hr⟩ := bindO hr
  replace ey148 := (F125_ok ey148)
  refine Ok.stuck eqs_nil ?_; refine DWP.callS 0 ey148 rfl rfl rfl rfl (SImp.box rfl (by exact ImpL.refl _)) rfl ?_
  refine dr_run mixed 1000 ?_; conv => (arg 3; whnf)
  obtain ⟨y149, ey149, hr⟩ := bindO hr
  replace ey149 := (F124_ok ey149)
  refine Ok.stuck eqs_nil ?_; refine DWP.callS 0 ey149 rfl rfl rfl rfl (SImp.box rfl (by exact ImpL.refl _)) rfl ?_
  refine dr_run mixed 1000 ?_; conv => (arg 3; whnf)
  obtain ⟨y150, ey150, hr⟩ := bindO hr
  replace ey150 := (F121_ok ey150)
  refine Ok.val eqs_nil rfl rfl (DOpP.callF ey150 rfl rfl rfl eqs_nil (ImpL.refl _) (.inr rfl)) ?_
  refine dr_run mixed 1000 ?_; conv => (arg 3; whnf)
  refine Ok.split ?_ ?_ <;> intro h151 <;> conv => (arg 3; whnf)
  · replace hr := bT h151 hr
    refine Ok.stuck eqs_nil ?_
    refine DWP.nilCell 2 4 25 5 3 rfl rfl rfl ?_
    refine DWP.loopA (S := Tplexusref16UP × (List TNode)) 4 [0, 2, 3] [] (fun s => []) (fun s => [(0, .box ((Tplexusref16UP.cs s.1).map .d)), (3, .row 25 5 (TNode.rows s.2)), (2, .box [.d (.v (.int .i64 (4))), .d (.v (.string ⟨⟨(y148.fst)⟩⟩)), .d (.v (.int .i64 (0))), .d (.v (.int .i64 (y1.At))), .os 3 (TNode.rows s.2).length])]) (fun m s => m ≤ n ∧ F75_L4 y1 y148 m s.1 s.2 = some r) n (y149.snd, []) rfl rfl rfl rfl rfl rfl ⟨Nat.le_refl _, hr⟩ ?_
    clear hr
    rintro n ⟨s152, s157⟩ ⟨hle, hr⟩
    rcases n with _ | n
    · exact noneO hr
    replace hr : F75_L4 y1 y148 (n + 1) s152 s157 = some r := hr
    rw [F75_L4] at hr
    refine dr_run mixed 1000 ?_; conv => (arg 3; whnf)
    obtain ⟨y158, ey158, hr⟩ := bindO hr
    replace ey158 := (F74_ok ey158)
    refine Ok.val eqs_nil rfl rfl (DOpP.callF ey158 rfl rfl rfl eqs_nil (ImpL.refl _) (.inr rfl)) ?_
    refine dr_run mixed 1000 ?_; conv => (arg 3; whnf)
    obtain ⟨y159, ey159, hr⟩ := bindO hr
    replace ey159 := (F125_ok ey159)
    refine Ok.stuck eqs_nil ?_; refine DWP.callS 0 ey159 rfl rfl rfl rfl (SImp.box rfl (by exact ImpL.refl _)) rfl ?_
    refine dr_run mixed 1000 ?_; conv => (arg 3; whnf)
    obtain ⟨y160, ey160, hr⟩ := bindO hr
    replace ey160 := (F124_ok ey160)
    refine Ok.stuck eqs_nil ?_; refine DWP.callS 0 ey160 rfl rfl rfl rfl (SImp.box rfl (by exact ImpL.refl _)) rfl ?_
    refine dr_run mixed 1000 ?_; conv => (arg 3; whnf)
    obtain ⟨y161, ey161, hr⟩ := bindO hr
    replace ey161 := (F129_ok ey161)
    refine Ok.stuck eqs_nil ?_; refine DWP.callS 0 ey161 rfl rfl rfl rfl (SImp.box rfl (by exact ImpL.refl _)) rfl ?_
    refine dr_run mixed 1000 ?_; conv => (arg 3; whnf)
    refine Ok.stuck eqs_nil ?_; refine DWP.rowImp 5 (rows' := TNode.rows ([{ Kind := 6, Text := y159.fst, N := y161.fst, At := y158.At, Kids := [] : TNode }])) rfl (by (try simp only [gsimp]); repeat (first | exact Imp.refl _ | exact Imp.nil _ | exact ImpL.nil | exact ImpR.nil | exact ImpL.refl _ | exact ImpR.refl _ | exact Imp.of (by simp only [gsimp]; rfl) | (dsimp only; try simp only [gsimp]) | apply Imp.agg | apply Imp.tup | apply Imp.ip | apply Imp.fn | apply ImpL.cons | apply Imp.sl | apply ImpR.cons | apply ImpR.append)) ?_
    refine dr_run mixed 1000 ?_; conv => (arg 3; whnf)
    obtain ⟨h162, hr⟩ := guardO hr
    refine Ok.stuck eqs_nil ?_; refine DO.appRow rfl rfl (by first | rfl | simp only [List.length_set] | simp only [glen, List.length_set, List.length_replicate, List.length_append, List.length_cons, List.length_nil]) rfl rfl (by first | rfl | simp only [List.length_set] | simp only [glen, List.length_set, List.length_replicate, List.length_append, List.length_cons, List.length_nil]) rfl rfl (TNode.rows_ones _) rfl rfl rfl (by have h0 := of_decide_eq_true h162; simp only [List.length_append, List.length_set, List.length_cons, List.length_nil, chunk_length, TNode.rows_len] at h0 ⊢; omega) ?_
    refine dr_run mixed 1000 ?_; conv => (arg 3; whnf)
    obtain ⟨y163, ey163, hr⟩ := bindO hr
    replace ey163 := (F121_ok ey163)
    refine Ok.val eqs_nil rfl rfl (DOpP.callF ey163 rfl rfl rfl eqs_nil (ImpL.refl _) (.inr rfl)) ?_
    refine dr_run mixed 1000 ?_; conv => (arg 3; whnf)
    refine Ok.split ?_ ?_ <;> intro h164 <;> conv => (arg 3; whnf)
    · replace hr := bT h164 hr
      obtain ⟨y165, ey165, hr⟩ := bindO hr
      replace ey165 := (F124_ok ey165)
      refine Ok.stuck eqs_nil ?_; refine DWP.callS 0 ey165 rfl rfl rfl rfl (SImp.box rfl (by exact ImpL.refl _)) rfl ?_
      refine dr_run mixed 1000 ?_; conv => (arg 3; whnf)
      obtain ⟨y166, ey166, hr⟩ := bindO hr
      replace ey166 := (F124_ok ey166)
      refine Ok.stuck eqs_nil ?_; refine DWP.callS 0 ey166 rfl rfl rfl rfl (SImp.box rfl (by exact ImpL.refl _)) rfl ?_
      refine dr_run mixed 1000 ?_; conv => (arg 3; whnf)
      obtain ⟨y167, ey167, hr⟩ := bindO hr
      replace ey167 := (F74_ok ey167)
      refine Ok.val eqs_nil rfl rfl (DOpP.callF ey167 rfl rfl rfl eqs_nil (ImpL.refl _) (.inr rfl)) ?_
      refine dr_run mixed 1000 ?_; conv => (arg 3; whnf)
      obtain ⟨y168, ey168, hr⟩ := bindO hr
      replace ey168 := (F125_ok ey168)
      refine Ok.stuck eqs_nil ?_; refine DWP.callS 0 ey168 rfl rfl rfl rfl (SImp.box rfl (by exact ImpL.refl _)) rfl ?_
      refine dr_run mixed 1000 ?_; conv => (arg 3; whnf)
      refine Ok.stuck eqs_nil ?_; refine DWP.rowImp 7 (rows' := TNode.rows ([{ Kind := 48, Text := y168.fst, N := 0, At := y167.At, Kids := [] : TNode }])) rfl (by (try simp only [gsimp]); repeat (first | exact Imp.refl _ | exact Imp.nil _ | exact ImpL.nil | exact ImpR.nil | exact ImpL.refl _ | exact ImpR.refl _ | exact Imp.of (by simp only [gsimp]; rfl) | (dsimp only; try simp only [gsimp]) | apply Imp.agg | apply Imp.tup | apply Imp.ip | apply Imp.fn | apply ImpL.cons | apply Imp.sl | apply ImpR.cons | apply ImpR.append)) ?_
      refine dr_run mixed 1000 ?_; conv => (arg 3; whnf)
      obtain ⟨h169, hr⟩ := guardO hr
      refine Ok.stuck eqs_nil ?_; refine DO.appRow rfl rfl (by first | rfl | simp only [List.length_set] | simp only [glen, List.length_set, List.length_replicate, List.length_append, List.length_cons, List.length_nil]) rfl rfl (by first | rfl | simp only [List.length_set] | simp only [glen, List.length_set, List.length_replicate, List.length_append, List.length_cons, List.length_nil]) rfl rfl (TNode.rows_ones _) rfl rfl rfl (by have h0 := of_decide_eq_true h169; simp only [List.length_append, List.length_set, List.length_cons, List.length_nil, chunk_length, TNode.rows_len] at h0 ⊢; omega) ?_
      refine dr_run mixed 1000 ?_; conv => (arg 3; whnf)
      obtain ⟨y170, ey170, hr⟩ := bindO hr
      replace ey170 := (F124_ok ey170)
      refine Ok.stuck eqs_nil ?_; refine DWP.callS 0 ey170 rfl rfl rfl rfl (SImp.box rfl (by exact ImpL.refl _)) rfl ?_
      refine dr_run mixed 1000 ?_; conv => (arg 3; whnf)
      refine Ok.open (id := 40) [] [(0, .fl), (1, .fl), (2, .fl), (3, .one), (4, .fl), (5, .one), (6, .fl), (7, .one)] [] eqs_nil mixed rfl (by kernel_rfl) (by kernel_rfl) ?_
      refine dr_run mixed 1000 ?_; conv => (arg 3; whnf)
      refine Ok.stuck eqs_nil ?_; refine DWP.tlStep mixed (by repeat (first | exact PendD.nil | refine PendD.cons rfl (DOpP.vop (cl := false) rfl eqs_nil) ?_ | refine PendD.skip rfl ?_ | refine PendD.cons rfl (vopL_ok (cl := false) rfl eqs_nil) ?_)) ?_; (conv => (arg 3; whnf)); refine Nx.go_ok eqs_nil ?_
      refine dr_run mixed 1000 ?_; conv => (arg 3; whnf)
      obtain ⟨y171, ey171, hr⟩ := bindO hr
      replace ey171 := (F72_ok ey171)
      refine Ok.stuck eqs_nil ?_; refine DWP.tlCallS 0 (by repeat (first | exact PendD.nil | refine PendD.cons rfl (DOpP.vop (cl := false) rfl eqs_nil) ?_ | refine PendD.skip rfl ?_ | refine PendD.cons rfl (vopL_ok (cl := false) rfl eqs_nil) ?_)) rfl rfl rfl rfl rfl ey171 rfl rfl rfl rfl (SImp.box rfl (by exact ImpL.refl _)) ?_
      refine dr_run mixed 1000 ?_; conv => (arg 3; whnf)
      refine Ok.stuck eqs_nil ?_; refine DWP.tlStep mixed (by repeat (first | exact PendD.nil | refine PendD.cons rfl (DOpP.vop (cl := false) rfl eqs_nil) ?_ | refine PendD.skip rfl ?_ | refine PendD.cons rfl (vopL_ok (cl := false) rfl eqs_nil) ?_)) ?_; (conv => (arg 3; whnf)); refine Nx.go_ok eqs_nil ?_
      refine dr_run mixed 1000 ?_; conv => (arg 3; whnf)
      obtain ⟨h172, hr⟩ := guardO hr
      refine Ok.stuck eqs_nil ?_; refine DWP.tlAppI (rows2 := (TNode.rows ([y171.fst]))) (by repeat (first | exact PendD.nil | refine PendD.cons rfl (DOpP.vop (cl := false) rfl eqs_nil) ?_ | refine PendD.skip rfl ?_ | refine PendD.cons rfl (vopL_ok (cl := false) rfl eqs_nil) ?_)) rfl rfl rfl rfl rfl (by first | rfl | simp only [List.length_set] | simp only [glen, List.length_set, List.length_replicate, List.length_append, List.length_cons, List.length_nil]) rfl (by exact Imp.of (by simp only [gsimp]; rfl)) rfl rfl (TNode.rows_ones _) rfl rfl (by have h0 := of_decide_eq_true h172; simp only [List.length_append, List.length_set, List.length_cons, List.length_nil, chunk_length, TNode.rows_len] at h0 ⊢; omega) ?_
      refine dr_run mixed 1000 ?_; conv => (arg 3; whnf)
      obtain ⟨y173, ey173, hr⟩ := bindO hr
      replace ey173 := (F124_ok ey173)
      refine Ok.stuck eqs_nil ?_; refine DWP.callS 0 ey173 rfl rfl rfl rfl (SImp.box rfl (by exact ImpL.refl _)) rfl ?_
      refine dr_run mixed 1000 ?_; conv => (arg 3; whnf)
      refine Ok.fin (eqs_cons rfl eqs_nil) ?_
      obtain rfl := Option.some.inj hr
      exact RD.leafSB rfl rfl rfl eqs_nil rfl (by (try simp only [gsimp]); repeat (first | exact Imp.refl _ | exact Imp.nil _ | exact ImpL.nil | exact ImpR.nil | exact ImpL.refl _ | exact ImpR.refl _ | exact Imp.of (by simp only [gsimp]; rfl) | (dsimp only; try simp only [gsimp]) | apply Imp.agg | apply Imp.tup | apply Imp.ip | apply Imp.fn | apply ImpL.cons | apply Imp.sl | apply ImpR.cons | apply ImpR.append)) (by exact ImpL.refl _)
    replace hr := bF h164 hr
    refine Ok.stuck eqs_nil ?_
    exact DWP.nextA ({ T := y161.snd.T, I := IntKind.i64.wrap (y161.snd.I + 1), Open := y161.snd.Open, Bad := y161.snd.Bad, Fault := y161.snd.Fault : Tplexusref16UP }, s157 ++ [{ Kind := 6, Text := y159.fst, N := y161.fst, At := y158.At, Kids := [] : TNode }]) n rfl rfl (by first | rfl | (simp only [gsimp]; rfl) | (simp only [gsimp, List.length_set]; rfl) | (simp only [gcs, gsimp, List.length_set]; rfl)) (by first | rfl | (simp only [gsimp]; rfl) | (simp only [gsimp, List.length_set]; rfl) | (simp only [gcs, gsimp, List.length_set]; rfl)) (by omega) ⟨by omega, by exact hr⟩
  replace hr := bF h151 hr
  obtain ⟨y174, ey174, hr⟩ := bindO hr
  replace ey174 := (F124_ok ey174)
  refine Ok.stuck eqs_nil ?_; refine DWP.callS 0 ey174 rfl rfl rfl rfl (SImp.box rfl (by exact ImpL.refl _)) rfl ?_
  refine dr_run mixed 1000 ?_; conv => (arg 3; whnf)
  obtain ⟨y175, ey175, hr⟩ := bindO hr
  replace ey175 := (F124_ok ey175)
  refine Ok.stuck eqs_nil ?_; refine DWP.callS 0 ey175 rfl rfl rfl rfl (SImp.box rfl (by exact ImpL.refl _)) rfl ?_
  refine dr_run mixed 1000 ?_; conv => (arg 3; whnf)
  obtain ⟨y176, ey176, hr⟩ := bindO hr
  replace ey176 := (F74_ok ey176)
  refine Ok.val eqs_nil rfl rfl (DOpP.callF ey176 rfl rfl rfl eqs_nil (ImpL.refl _) (.inr rfl)) ?_
  refine dr_run mixed 1000 ?_; conv => (arg 3; whnf)
  obtain ⟨y177, ey177, hr⟩ := bindO hr
  replace ey177 := (F125_ok ey177)
  refine Ok.stuck eqs_nil ?_; refine DWP.callS 0 ey177 rfl rfl rfl rfl (SImp.box rfl (by exact ImpL.refl _)) rfl ?_
  refine dr_run mixed 1000 ?_; conv => (arg 3; whnf)
  refine Ok.stuck eqs_nil ?_; refine DWP.rowImp 4 (rows' := TNode.rows ([{ Kind := 48, Text := y177.fst, N := 0, At := y176.At, Kids := [] : TNode }])) rfl (by (try simp only [gsimp]); repeat (first | exact Imp.refl _ | exact Imp.nil _ | exact ImpL.nil | exact ImpR.nil | exact ImpL.refl _ | exact ImpR.refl _ | exact Imp.of (by simp only [gsimp]; rfl) | (dsimp only; try simp only [gsimp]) | apply Imp.agg | apply Imp.tup | apply Imp.ip | apply Imp.fn | apply ImpL.cons | apply Imp.sl | apply ImpR.cons | apply ImpR.append)) ?_
  refine dr_run mixed 1000 ?_; conv => (arg 3; whnf)
  obtain ⟨h178, hr⟩ := guardO hr
  refine Ok.stuck eqs_nil ?_; refine DO.appRow rfl rfl (by first | rfl | simp only [List.length_set] | simp only [glen, List.length_set, List.length_replicate, List.length_append, List.length_cons, List.length_nil]) rfl rfl (by first | rfl | simp only [List.length_set] | simp only [glen, List.length_set, List.length_replicate, List.length_append, List.length_cons, List.length_nil]) rfl rfl (TNode.rows_ones _) rfl rfl rfl (by have h0 := of_decide_eq_true h178; simp only [List.length_append, List.length_set, List.length_cons, List.length_nil, chunk_length, TNode.rows_len] at h0 ⊢; omega) ?_
  refine dr_run mixed 1000 ?_; conv => (arg 3; whnf)
  obtain ⟨y179, ey179, hr⟩ := bindO hr
  replace ey179 := (F124_ok ey179)
  refine Ok.stuck eqs_nil ?_; refine DWP.callS 0 ey179 rfl rfl rfl rfl (SImp.box rfl (by exact ImpL.refl _)) rfl ?_
  refine dr_run mixed 1000 ?_; conv => (arg 3; whnf)
  refine Ok.open (id := 40) [] [(0, .fl), (1, .fl), (2, .fl), (3, .one), (4, .fl), (5, .one), (6, .fl), (7, .one)] [] eqs_nil mixed rfl (by kernel_rfl) (by kernel_rfl) ?_
  refine dr_run mixed 1000 ?_; conv => (arg 3; whnf)
  refine Ok.stuck eqs_nil ?_; refine DWP.tlStep mixed (by repeat (first | exact PendD.nil | refine PendD.cons rfl (DOpP.vop (cl := false) rfl eqs_nil) ?_ | refine PendD.skip rfl ?_ | refine PendD.cons rfl (vopL_ok (cl := false) rfl eqs_nil) ?_)) ?_; (conv => (arg 3; whnf)); refine Nx.go_ok eqs_nil ?_
  refine dr_run mixed 1000 ?_; conv => (arg 3; whnf)
  obtain ⟨y180, ey180, hr⟩ := bindO hr
  replace ey180 := (F72_ok ey180)
  refine Ok.stuck eqs_nil ?_; refine DWP.tlCallS 0 (by repeat (first | exact PendD.nil | refine PendD.cons rfl (DOpP.vop (cl := false) rfl eqs_nil) ?_ | refine PendD.skip rfl ?_ | refine PendD.cons rfl (vopL_ok (cl := false) rfl eqs_nil) ?_)) rfl rfl rfl rfl rfl ey180 rfl rfl rfl rfl (SImp.box rfl (by exact ImpL.refl _)) ?_
  refine dr_run mixed 1000 ?_; conv => (arg 3; whnf)
  refine Ok.stuck eqs_nil ?_; refine DWP.tlStep mixed (by repeat (first | exact PendD.nil | refine PendD.cons rfl (DOpP.vop (cl := false) rfl eqs_nil) ?_ | refine PendD.skip rfl ?_ | refine PendD.cons rfl (vopL_ok (cl := false) rfl eqs_nil) ?_)) ?_; (conv => (arg 3; whnf)); refine Nx.go_ok eqs_nil ?_
  refine dr_run mixed 1000 ?_; conv => (arg 3; whnf)
  obtain ⟨h181, hr⟩ := guardO hr
  refine Ok.stuck eqs_nil ?_; refine DWP.tlAppI (rows2 := (TNode.rows ([y180.fst]))) (by repeat (first | exact PendD.nil | refine PendD.cons rfl (DOpP.vop (cl := false) rfl eqs_nil) ?_ | refine PendD.skip rfl ?_ | refine PendD.cons rfl (vopL_ok (cl := false) rfl eqs_nil) ?_)) rfl rfl rfl rfl rfl (by first | rfl | simp only [List.length_set] | simp only [glen, List.length_set, List.length_replicate, List.length_append, List.length_cons, List.length_nil]) rfl (by exact Imp.of (by simp only [gsimp]; rfl)) rfl rfl (TNode.rows_ones _) rfl rfl (by have h0 := of_decide_eq_true h181; simp only [List.length_append, List.length_set, List.length_cons, List.length_nil, chunk_length, TNode.rows_len] at h0 ⊢; omega) ?_
  refine dr_run mixed 1000 ?_; conv => (arg 3; whnf)
  obtain ⟨y182, ey182, hr⟩ := bindO hr
  replace ey182 := (F124_ok ey182)
  refine Ok.stuck eqs_nil ?_; refine DWP.callS 0 ey182 rfl rfl rfl rfl (SImp.box rfl (by exact ImpL.refl _)) rfl ?_
  refine dr_run mixed 1000 ?_; conv => (arg 3; whnf)
  refine Ok.fin (eqs_cons rfl eqs_nil) ?_
  obtain rfl := Option.some.inj hr
  exact RD.leafSB rfl rfl rfl eqs_nil rfl (by exact Imp.refl _) (by exact ImpL.refl _)
end Go.Proofs.YtdmkbllocddkaaaGreat
end
