/-
  Own work, printed by a program. What the functions of the program answer, and that they do.
-/
import Derived.Test.YtdmkbllocddkaaaGreatKH3
set_option linter.unusedVariables false
set_option linter.unusedSimpArgs false
namespace Go.Proofs.YtdmkbllocddkaaaGreat
open Go Go.Bw
/- plexus.plexusref16.parse -/
def F33_L1 : Nat → Tplexusref16UP → (List TNode) → Option ((TNode × TFault))
  | 0, _, _ => none
  | n + 1, s17, s22 => (bif !s17.Bad then ((F74 n (s17)).bind fun y24 => (bif y24.Kind != 6 then ((F75 n (s17)).bind fun y26 => (bif decide (((s22 : List TNode) ++ ([y26.fst] : List TNode)).length ≤ 274877906944) then (F33_L1 n (y26.snd) (s22 ++ [y26.fst])) else none)) else ((F74 n (s17)).bind fun y28 => (bif y28.Kind != 6 then ((F76 n (s17) (2)).bind fun y30 => (bif y30.snd.Bad then (some (({ Kind := 0, Text := [], N := 0, At := 0, Kids := [] : TNode }, y30.snd.Fault))) else (some (({ Kind := 1, Text := [], N := 0, At := 0, Kids := s22 : TNode }, { Code := 0, At := 0 : TFault }))))) else (some (({ Kind := 1, Text := [], N := 0, At := 0, Kids := s22 : TNode }, { Code := 0, At := 0 : TFault }))))))) else (some (({ Kind := 0, Text := [], N := 0, At := 0, Kids := [] : TNode }, s17.Fault))))
def F33 (n : Nat) (a0 : (List UInt8)) (a1 : Int) : Option ((TNode × TFault)) := ((F71 n (a0)).bind fun y1 => (bif y1.snd.Code != 0 then (some (({ Kind := 0, Text := [], N := 0, At := 0, Kids := [] : TNode }, y1.snd))) else (bif a1 == 1 then ((F72 n ({ T := y1.fst, I := 0, Open := 0, Bad := false, Fault := { Code := 0, At := 0 : TFault } : Tplexusref16UP })).bind fun y4 => (bif !y4.snd.Bad then ((F74 n (y4.snd)).bind fun y6 => (bif y6.Kind != 6 then ((F76 n (y4.snd) (2)).bind fun y8 => (bif y8.snd.Bad then (some (({ Kind := 0, Text := [], N := 0, At := 0, Kids := [] : TNode }, y8.snd.Fault))) else (some ((y4.fst, { Code := 0, At := 0 : TFault }))))) else (some ((y4.fst, { Code := 0, At := 0 : TFault }))))) else (some (({ Kind := 0, Text := [], N := 0, At := 0, Kids := [] : TNode }, y4.snd.Fault))))) else (bif a1 == 2 then ((F73 n ({ T := y1.fst, I := 0, Open := 0, Bad := false, Fault := { Code := 0, At := 0 : TFault } : Tplexusref16UP })).bind fun y11 => (bif !y11.snd.Bad then ((F74 n (y11.snd)).bind fun y13 => (bif y13.Kind != 6 then ((F76 n (y11.snd) (2)).bind fun y15 => (bif y15.snd.Bad then (some (({ Kind := 0, Text := [], N := 0, At := 0, Kids := [] : TNode }, y15.snd.Fault))) else (some ((y11.fst, { Code := 0, At := 0 : TFault }))))) else (some ((y11.fst, { Code := 0, At := 0 : TFault }))))) else (some (({ Kind := 0, Text := [], N := 0, At := 0, Kids := [] : TNode }, y11.snd.Fault))))) else (F33_L1 n ({ T := y1.fst, I := 0, Open := 0, Bad := false, Fault := { Code := 0, At := 0 : TFault } : Tplexusref16UP }) ([]))))))
set_option maxRecDepth 100000 in
theorem F33_ok {n : Nat} {a0 : (List UInt8)} {a1 : Int} {r} (hr : F33 n a0 a1 = some r) : Pure env.toCx 33 [(.v (.string ⟨⟨a0⟩⟩)), (.v (.int .i64 a1))] (.ret (.tup [(.agg (TNode.cs r.1)), (.agg (TFault.cs r.2))])) := by
  unfold F33 at hr
  refine Pure.walk (E := env) Tryz.func33 rfl (by kernel_rfl) (rs := _) rfl Tryz.ntmps33 rfl ?_
  refine dr_run mixed 1000 ?_; conv => (arg 3; whnf)
  obtain ⟨y1, ey1, hr⟩ := bindO hr
  replace ey1 := (F71_ok ey1)
  refine Ok.val eqs_nil rfl rfl (DOpP.callF ey1 rfl rfl rfl eqs_nil (ImpL.refl _) (.inl rfl)) ?_
  refine dr_run mixed 1000 ?_; conv => (arg 3; whnf)
  refine Ok.split ?_ ?_ <;> intro h2 <;> conv => (arg 3; whnf)
  · replace hr := bT h2 hr
    refine Ok.open (id := 3) [] [(0, .fl), (1, .fl), (2, .one), (3, .one)] [] eqs_nil mixed rfl (by kernel_rfl) (by kernel_rfl) ?_
    refine dr_run mixed 1000 ?_; conv => (arg 3; whnf)
    refine Ok.stuck eqs_nil ?_; refine DWP.tlStep mixed (by repeat (first | exact PendD.nil | refine PendD.cons rfl (DOpP.vop (cl := false) rfl eqs_nil) ?_ | refine PendD.skip rfl ?_ | refine PendD.cons rfl (vopL_ok (cl := false) rfl eqs_nil) ?_)) ?_; (conv => (arg 3; whnf)); refine Nx.go_ok eqs_nil ?_
    refine dr_run mixed 1000 ?_; conv => (arg 3; whnf)
    refine Ok.stuck eqs_nil ?_; refine DWP.tlStep mixed (by repeat (first | exact PendD.nil | refine PendD.cons rfl (DOpP.vop (cl := false) rfl eqs_nil) ?_ | refine PendD.skip rfl ?_ | refine PendD.cons rfl (vopL_ok (cl := false) rfl eqs_nil) ?_)) ?_; (conv => (arg 3; whnf)); refine Nx.go_ok eqs_nil ?_
    refine dr_run mixed 1000 ?_; conv => (arg 3; whnf)
    refine Ok.fin eqs_nil ?_
    obtain rfl := Option.some.inj hr
    exact RD.leaf rfl rfl eqs_nil rfl (by (try simp only [gsimp]); repeat (first | exact Imp.refl _ | exact Imp.nil _ | exact ImpL.nil | exact ImpR.nil | exact ImpL.refl _ | exact ImpR.refl _ | exact Imp.of (by simp only [gsimp]; rfl) | (dsimp only; try simp only [gsimp]) | apply Imp.agg | apply Imp.tup | apply Imp.ip | apply Imp.fn | apply ImpL.cons | apply Imp.sl | apply ImpR.cons | apply ImpR.append))
  replace hr := bF h2 hr
  refine Ok.split ?_ ?_ <;> intro h3 <;> conv => (arg 3; whnf)
  · replace hr := bT h3 hr
    obtain ⟨y4, ey4, hr⟩ := bindO hr
    replace ey4 := (F72_ok ey4)
    refine Ok.stuck eqs_nil ?_; refine DWP.callS 3 ey4 rfl rfl rfl rfl (SImp.box rfl (by exact ImpL.refl _)) rfl ?_
    refine dr_run mixed 1000 ?_; conv => (arg 3; whnf)
    refine Ok.split ?_ ?_ <;> intro h5 <;> conv => (arg 3; whnf)
    · replace hr := bT h5 hr
      obtain ⟨y6, ey6, hr⟩ := bindO hr
      replace ey6 := (F74_ok ey6)
      refine Ok.val eqs_nil rfl rfl (DOpP.callF ey6 rfl rfl rfl eqs_nil (ImpL.refl _) (.inr rfl)) ?_
      refine dr_run mixed 1000 ?_; conv => (arg 3; whnf)
      refine Ok.split ?_ ?_ <;> intro h7 <;> conv => (arg 3; whnf)
      · replace hr := bT h7 hr
        obtain ⟨y8, ey8, hr⟩ := bindO hr
        replace ey8 := (F76_ok ey8)
        refine Ok.stuck eqs_nil ?_; refine DWP.callS 3 ey8 rfl rfl rfl rfl (SImp.box rfl (by exact ImpL.refl _)) rfl ?_
        refine dr_run mixed 1000 ?_; conv => (arg 3; whnf)
        refine Ok.split ?_ ?_ <;> intro h9 <;> conv => (arg 3; whnf)
        · replace hr := bT h9 hr
          refine Ok.open (id := 16) [] [(0, .fl), (1, .fl), (2, .fl), (3, .fl), (4, .fl), (5, .one), (6, .one)] [] eqs_nil mixed rfl (by kernel_rfl) (by kernel_rfl) ?_
          refine dr_run mixed 1000 ?_; conv => (arg 3; whnf)
          refine Ok.stuck eqs_nil ?_; refine DWP.tlStep mixed (by repeat (first | exact PendD.nil | refine PendD.cons rfl (DOpP.vop (cl := false) rfl eqs_nil) ?_ | refine PendD.skip rfl ?_ | refine PendD.cons rfl (vopL_ok (cl := false) rfl eqs_nil) ?_)) ?_; (conv => (arg 3; whnf)); refine Nx.go_ok eqs_nil ?_
          refine dr_run mixed 1000 ?_; conv => (arg 3; whnf)
          refine Ok.stuck eqs_nil ?_; refine DWP.tlStep mixed (by repeat (first | exact PendD.nil | refine PendD.cons rfl (DOpP.vop (cl := false) rfl eqs_nil) ?_ | refine PendD.skip rfl ?_ | refine PendD.cons rfl (vopL_ok (cl := false) rfl eqs_nil) ?_)) ?_; (conv => (arg 3; whnf)); refine Nx.go_ok eqs_nil ?_
          refine dr_run mixed 1000 ?_; conv => (arg 3; whnf)
          refine Ok.fin eqs_nil ?_
          obtain rfl := Option.some.inj hr
          exact RD.leaf rfl rfl eqs_nil rfl (by (try simp only [gsimp]); repeat (first | exact Imp.refl _ | exact Imp.nil _ | exact ImpL.nil | exact ImpR.nil | exact ImpL.refl _ | exact ImpR.refl _ | exact Imp.of (by simp only [gsimp]; rfl) | (dsimp only; try simp only [gsimp]) | apply Imp.agg | apply Imp.tup | apply Imp.ip | apply Imp.fn | apply ImpL.cons | apply Imp.sl | apply ImpR.cons | apply ImpR.append))
        replace hr := bF h9 hr
        refine Ok.fin eqs_nil ?_
        obtain rfl := Option.some.inj hr
        exact RD.leaf rfl rfl eqs_nil rfl (Imp.refl _)
      replace hr := bF h7 hr
      refine Ok.splitF (atomF h5) ?_; conv => (arg 3; whnf)
      refine Ok.fin eqs_nil ?_
      obtain rfl := Option.some.inj hr
      exact RD.leaf rfl rfl eqs_nil rfl (Imp.refl _)
    replace hr := bF h5 hr
    refine Ok.splitT (atomT h5) ?_; conv => (arg 3; whnf)
    refine Ok.open (id := 16) [] [(0, .fl), (1, .fl), (2, .fl), (3, .fl), (4, .fl), (5, .one), (6, .one)] [] eqs_nil mixed rfl (by kernel_rfl) (by kernel_rfl) ?_
    refine dr_run mixed 1000 ?_; conv => (arg 3; whnf)
    refine Ok.stuck eqs_nil ?_; refine DWP.tlStep mixed (by repeat (first | exact PendD.nil | refine PendD.cons rfl (DOpP.vop (cl := false) rfl eqs_nil) ?_ | refine PendD.skip rfl ?_ | refine PendD.cons rfl (vopL_ok (cl := false) rfl eqs_nil) ?_)) ?_; (conv => (arg 3; whnf)); refine Nx.go_ok eqs_nil ?_
    refine dr_run mixed 1000 ?_; conv => (arg 3; whnf)
    refine Ok.stuck eqs_nil ?_; refine DWP.tlStep mixed (by repeat (first | exact PendD.nil | refine PendD.cons rfl (DOpP.vop (cl := false) rfl eqs_nil) ?_ | refine PendD.skip rfl ?_ | refine PendD.cons rfl (vopL_ok (cl := false) rfl eqs_nil) ?_)) ?_; (conv => (arg 3; whnf)); refine Nx.go_ok eqs_nil ?_
    refine dr_run mixed 1000 ?_; conv => (arg 3; whnf)
    refine Ok.fin eqs_nil ?_
    obtain rfl := Option.some.inj hr
    exact RD.leaf rfl rfl eqs_nil rfl (by (try simp only [gsimp]); repeat (first | exact Imp.refl _ | exact Imp.nil _ | exact ImpL.nil | exact ImpR.nil | exact ImpL.refl _ | exact ImpR.refl _ | exact Imp.of (by simp only [gsimp]; rfl) | (dsimp only; try simp only [gsimp]) | apply Imp.agg | apply Imp.tup | apply Imp.ip | apply Imp.fn | apply ImpL.cons | apply Imp.sl | apply ImpR.cons | apply ImpR.append))
  replace hr := bF h3 hr
  refine Ok.split ?_ ?_ <;> intro h10 <;> conv => (arg 3; whnf)
  · replace hr := bT h10 hr
    obtain ⟨y11, ey11, hr⟩ := bindO hr
    replace ey11 := (F73_ok ey11)
    refine Ok.stuck eqs_nil ?_; refine DWP.callS 3 ey11 rfl rfl rfl rfl (SImp.box rfl (by exact ImpL.refl _)) rfl ?_
    refine dr_run mixed 1000 ?_; conv => (arg 3; whnf)
    refine Ok.split ?_ ?_ <;> intro h12 <;> conv => (arg 3; whnf)
    · replace hr := bT h12 hr
      obtain ⟨y13, ey13, hr⟩ := bindO hr
      replace ey13 := (F74_ok ey13)
      refine Ok.val eqs_nil rfl rfl (DOpP.callF ey13 rfl rfl rfl eqs_nil (ImpL.refl _) (.inr rfl)) ?_
      refine dr_run mixed 1000 ?_; conv => (arg 3; whnf)
      refine Ok.split ?_ ?_ <;> intro h14 <;> conv => (arg 3; whnf)
      · replace hr := bT h14 hr
        obtain ⟨y15, ey15, hr⟩ := bindO hr
        replace ey15 := (F76_ok ey15)
        refine Ok.stuck eqs_nil ?_; refine DWP.callS 3 ey15 rfl rfl rfl rfl (SImp.box rfl (by exact ImpL.refl _)) rfl ?_
        refine dr_run mixed 1000 ?_; conv => (arg 3; whnf)
        refine Ok.split ?_ ?_ <;> intro h16 <;> conv => (arg 3; whnf)
        · replace hr := bT h16 hr
          refine Ok.open (id := 16) [] [(0, .fl), (1, .fl), (2, .fl), (3, .fl), (4, .fl), (5, .one), (6, .one)] [] eqs_nil mixed rfl (by kernel_rfl) (by kernel_rfl) ?_
          refine dr_run mixed 1000 ?_; conv => (arg 3; whnf)
          refine Ok.stuck eqs_nil ?_; refine DWP.tlStep mixed (by repeat (first | exact PendD.nil | refine PendD.cons rfl (DOpP.vop (cl := false) rfl eqs_nil) ?_ | refine PendD.skip rfl ?_ | refine PendD.cons rfl (vopL_ok (cl := false) rfl eqs_nil) ?_)) ?_; (conv => (arg 3; whnf)); refine Nx.go_ok eqs_nil ?_
          refine dr_run mixed 1000 ?_; conv => (arg 3; whnf)
          refine Ok.stuck eqs_nil ?_; refine DWP.tlStep mixed (by repeat (first | exact PendD.nil | refine PendD.cons rfl (DOpP.vop (cl := false) rfl eqs_nil) ?_ | refine PendD.skip rfl ?_ | refine PendD.cons rfl (vopL_ok (cl := false) rfl eqs_nil) ?_)) ?_; (conv => (arg 3; whnf)); refine Nx.go_ok eqs_nil ?_
          refine dr_run mixed 1000 ?_; conv => (arg 3; whnf)
          refine Ok.fin eqs_nil ?_
          obtain rfl := Option.some.inj hr
          exact RD.leaf rfl rfl eqs_nil rfl (by (try simp only [gsimp]); repeat (first | exact Imp.refl _ | exact Imp.nil _ | exact ImpL.nil | exact ImpR.nil | exact ImpL.refl _ | exact ImpR.refl _ | exact Imp.of (by simp only [gsimp]; rfl) | (dsimp only; try simp only [gsimp]) | apply Imp.agg | apply Imp.tup | apply Imp.ip | apply Imp.fn | apply ImpL.cons | apply Imp.sl | apply ImpR.cons | apply ImpR.append))
        replace hr := bF h16 hr
        refine Ok.fin eqs_nil ?_
        obtain rfl := Option.some.inj hr
        exact RD.leaf rfl rfl eqs_nil rfl (Imp.refl _)
      replace hr := bF h14 hr
      refine Ok.splitF (atomF h12) ?_; conv => (arg 3; whnf)
      refine Ok.fin eqs_nil ?_
      obtain rfl := Option.some.inj hr
      exact RD.leaf rfl rfl eqs_nil rfl (Imp.refl _)
    replace hr := bF h12 hr
    refine Ok.splitT (atomT h12) ?_; conv => (arg 3; whnf)
    refine Ok.open (id := 16) [] [(0, .fl), (1, .fl), (2, .fl), (3, .fl), (4, .fl), (5, .one), (6, .one)] [] eqs_nil mixed rfl (by kernel_rfl) (by kernel_rfl) ?_
    refine dr_run mixed 1000 ?_; conv => (arg 3; whnf)
    refine Ok.stuck eqs_nil ?_; refine DWP.tlStep mixed (by repeat (first | exact PendD.nil | refine PendD.cons rfl (DOpP.vop (cl := false) rfl eqs_nil) ?_ | refine PendD.skip rfl ?_ | refine PendD.cons rfl (vopL_ok (cl := false) rfl eqs_nil) ?_)) ?_; (conv => (arg 3; whnf)); refine Nx.go_ok eqs_nil ?_
    refine dr_run mixed 1000 ?_; conv => (arg 3; whnf)
    refine Ok.stuck eqs_nil ?_; refine DWP.tlStep mixed (by repeat (first | exact PendD.nil | refine PendD.cons rfl (DOpP.vop (cl := false) rfl eqs_nil) ?_ | refine PendD.skip rfl ?_ | refine PendD.cons rfl (vopL_ok (cl := false) rfl eqs_nil) ?_)) ?_; (conv => (arg 3; whnf)); refine Nx.go_ok eqs_nil ?_
    refine dr_run mixed 1000 ?_; conv => (arg 3; whnf)
    refine Ok.fin eqs_nil ?_
    obtain rfl := Option.some.inj hr
    exact RD.leaf rfl rfl eqs_nil rfl (by (try simp only [gsimp]); repeat (first | exact Imp.refl _ | exact Imp.nil _ | exact ImpL.nil | exact ImpR.nil | exact ImpL.refl _ | exact ImpR.refl _ | exact Imp.of (by simp only [gsimp]; rfl) | (dsimp only; try simp only [gsimp]) | apply Imp.agg | apply Imp.tup | apply Imp.ip | apply Imp.fn | apply ImpL.cons | apply Imp.sl | apply ImpR.cons | apply ImpR.append))
  replace hr := bF h10 hr
  refine Ok.stuck eqs_nil ?_
  refine DWP.nilCell 4 4 25 5 5 rfl rfl rfl ?_
  refine DWP.loopA (S := Tplexusref16UP × (List TNode)) 6 [4, 5, 8, 9] [] (fun s => []) (fun s => [(3, .box ((Tplexusref16UP.cs s.1).map .d)), (5, .row 25 5 (TNode.rows s.2)), (4, .box [.d (.v (.int .i64 (1))), .d (.v (.string ⟨⟨([])⟩⟩)), .d (.v (.int .i64 (0))), .d (.v (.int .i64 (0))), .os 5 (TNode.rows s.2).length])]) (fun m s => m ≤ n ∧ F33_L1 m s.1 s.2 = some r) n ({ T := y1.fst, I := 0, Open := 0, Bad := false, Fault := { Code := 0, At := 0 : TFault } : Tplexusref16UP }, []) rfl rfl rfl rfl rfl rfl ⟨Nat.le_refl _, hr⟩ ?_
  clear hr
  rintro n ⟨s17, s22⟩ ⟨hle, hr⟩
  rcases n with _ | n
  · exact noneO hr
  replace hr : F33_L1 (n + 1) s17 s22 = some r := hr
  rw [F33_L1] at hr
  refine dr_run mixed 1000 ?_; conv => (arg 3; whnf)
  refine Ok.split ?_ ?_ <;> intro h23 <;> conv => (arg 3; whnf)
  · replace hr := bT h23 hr
    obtain ⟨y24, ey24, hr⟩ := bindO hr
    replace ey24 := (F74_ok ey24)
    refine Ok.val eqs_nil rfl rfl (DOpP.callF ey24 rfl rfl rfl eqs_nil (ImpL.refl _) (.inr rfl)) ?_
    refine dr_run mixed 1000 ?_; conv => (arg 3; whnf)
    refine Ok.split ?_ ?_ <;> intro h25 <;> conv => (arg 3; whnf)
    · replace hr := bT h25 hr
      refine Ok.open (id := 8) [] [(0, .fl), (1, .fl), (2, .fl), (3, .one), (4, .fl), (5, .one), (6, .fl), (7, .one)] [] eqs_nil mixed rfl (by kernel_rfl) (by kernel_rfl) ?_
      refine dr_run mixed 1000 ?_; conv => (arg 3; whnf)
      refine Ok.stuck eqs_nil ?_; refine DWP.tlStep mixed (by repeat (first | exact PendD.nil | refine PendD.cons rfl (DOpP.vop (cl := false) rfl eqs_nil) ?_ | refine PendD.skip rfl ?_ | refine PendD.cons rfl (vopL_ok (cl := false) rfl eqs_nil) ?_)) ?_; (conv => (arg 3; whnf)); refine Nx.go_ok eqs_nil ?_
      refine dr_run mixed 1000 ?_; conv => (arg 3; whnf)
      obtain ⟨y26, ey26, hr⟩ := bindO hr
      replace ey26 := (F75_ok ey26)
      refine Ok.stuck eqs_nil ?_; refine DWP.tlCallS 3 (by repeat (first | exact PendD.nil | refine PendD.cons rfl (DOpP.vop (cl := false) rfl eqs_nil) ?_ | refine PendD.skip rfl ?_ | refine PendD.cons rfl (vopL_ok (cl := false) rfl eqs_nil) ?_)) rfl rfl rfl rfl rfl ey26 rfl rfl rfl rfl (SImp.box rfl (by exact ImpL.refl _)) ?_
      refine dr_run mixed 1000 ?_; conv => (arg 3; whnf)
      refine Ok.stuck eqs_nil ?_; refine DWP.tlStep mixed (by repeat (first | exact PendD.nil | refine PendD.cons rfl (DOpP.vop (cl := false) rfl eqs_nil) ?_ | refine PendD.skip rfl ?_ | refine PendD.cons rfl (vopL_ok (cl := false) rfl eqs_nil) ?_)) ?_; (conv => (arg 3; whnf)); refine Nx.go_ok eqs_nil ?_
      refine dr_run mixed 1000 ?_; conv => (arg 3; whnf)
      obtain ⟨h27, hr⟩ := guardO hr
      refine Ok.stuck eqs_nil ?_; refine DWP.tlAppI (rows2 := (TNode.rows ([y26.fst]))) (by repeat (first | exact PendD.nil | refine PendD.cons rfl (DOpP.vop (cl := false) rfl eqs_nil) ?_ | refine PendD.skip rfl ?_ | refine PendD.cons rfl (vopL_ok (cl := false) rfl eqs_nil) ?_)) rfl rfl rfl rfl rfl (by first | rfl | simp only [List.length_set] | simp only [glen, List.length_set, List.length_replicate, List.length_append, List.length_cons, List.length_nil]) rfl (by exact Imp.of (by simp only [gsimp]; rfl)) rfl rfl (TNode.rows_ones _) rfl rfl (by have h0 := of_decide_eq_true h27; simp only [List.length_append, List.length_set, List.length_cons, List.length_nil, chunk_length, TNode.rows_len] at h0 ⊢; omega) ?_
      refine dr_run mixed 1000 ?_; conv => (arg 3; whnf)
      refine Ok.stuck eqs_nil ?_
      exact DWP.nextA (y26.snd, s22 ++ [y26.fst]) n rfl rfl (by first | rfl | (simp only [gsimp]; rfl) | (simp only [gsimp, List.length_set]; rfl) | (simp only [gcs, gsimp, List.length_set]; rfl)) (by first | rfl | (simp only [gsimp]; rfl) | (simp only [gsimp, List.length_set]; rfl) | (simp only [gcs, gsimp, List.length_set]; rfl)) (by omega) ⟨by omega, by exact hr⟩
    replace hr := bF h25 hr
    refine Ok.splitT (notT (atomF h23)) ?_; conv => (arg 3; whnf)
    obtain ⟨y28, ey28, hr⟩ := bindO hr
    replace ey28 := (F74_ok ey28)
    refine Ok.val eqs_nil rfl rfl (DOpP.callF ey28 rfl rfl rfl eqs_nil (ImpL.refl _) (.inr rfl)) ?_
    refine dr_run mixed 1000 ?_; conv => (arg 3; whnf)
    refine Ok.split ?_ ?_ <;> intro h29 <;> conv => (arg 3; whnf)
    · replace hr := bT h29 hr
      obtain ⟨y30, ey30, hr⟩ := bindO hr
      replace ey30 := (F76_ok ey30)
      refine Ok.stuck eqs_nil ?_; refine DWP.callS 3 ey30 rfl rfl rfl rfl (SImp.box rfl (by exact ImpL.refl _)) rfl ?_
      refine dr_run mixed 1000 ?_; conv => (arg 3; whnf)
      refine Ok.split ?_ ?_ <;> intro h31 <;> conv => (arg 3; whnf)
      · replace hr := bT h31 hr
        refine Ok.open (id := 16) [] [(0, .fl), (1, .fl), (2, .fl), (3, .fl), (4, .fl), (5, .one), (6, .one)] [] eqs_nil mixed rfl (by kernel_rfl) (by kernel_rfl) ?_
        refine dr_run mixed 1000 ?_; conv => (arg 3; whnf)
        refine Ok.stuck eqs_nil ?_; refine DWP.tlStep mixed (by repeat (first | exact PendD.nil | refine PendD.cons rfl (DOpP.vop (cl := false) rfl eqs_nil) ?_ | refine PendD.skip rfl ?_ | refine PendD.cons rfl (vopL_ok (cl := false) rfl eqs_nil) ?_)) ?_; (conv => (arg 3; whnf)); refine Nx.go_ok eqs_nil ?_
        refine dr_run mixed 1000 ?_; conv => (arg 3; whnf)
        refine Ok.stuck eqs_nil ?_; refine DWP.tlStep mixed (by repeat (first | exact PendD.nil | refine PendD.cons rfl (DOpP.vop (cl := false) rfl eqs_nil) ?_ | refine PendD.skip rfl ?_ | refine PendD.cons rfl (vopL_ok (cl := false) rfl eqs_nil) ?_)) ?_; (conv => (arg 3; whnf)); refine Nx.go_ok eqs_nil ?_
        refine dr_run mixed 1000 ?_; conv => (arg 3; whnf)
        refine Ok.fin eqs_nil ?_
        obtain rfl := Option.some.inj hr
        exact RD.leaf rfl rfl eqs_nil rfl (by (try simp only [gsimp]); repeat (first | exact Imp.refl _ | exact Imp.nil _ | exact ImpL.nil | exact ImpR.nil | exact ImpL.refl _ | exact ImpR.refl _ | exact Imp.of (by simp only [gsimp]; rfl) | (dsimp only; try simp only [gsimp]) | apply Imp.agg | apply Imp.tup | apply Imp.ip | apply Imp.fn | apply ImpL.cons | apply Imp.sl | apply ImpR.cons | apply ImpR.append))
      replace hr := bF h31 hr
      refine Ok.fin (eqs_cons rfl eqs_nil) ?_
      obtain rfl := Option.some.inj hr
      exact RD.leaf rfl rfl eqs_nil rfl (Imp.refl _)
    replace hr := bF h29 hr
    refine Ok.splitF (atomF h23) ?_; conv => (arg 3; whnf)
    refine Ok.fin (eqs_cons rfl eqs_nil) ?_
    obtain rfl := Option.some.inj hr
    exact RD.leaf rfl rfl eqs_nil rfl (Imp.refl _)
  replace hr := bF h23 hr
  refine Ok.splitF (notF (atomT h23)) ?_; conv => (arg 3; whnf)
  refine Ok.splitT (atomT h23) ?_; conv => (arg 3; whnf)
  refine Ok.open (id := 16) [] [(0, .fl), (1, .fl), (2, .fl), (3, .fl), (4, .fl), (5, .one), (6, .one)] [] eqs_nil mixed rfl (by kernel_rfl) (by kernel_rfl) ?_
  refine dr_run mixed 1000 ?_; conv => (arg 3; whnf)
  refine Ok.stuck eqs_nil ?_; refine DWP.tlStep mixed (by repeat (first | exact PendD.nil | refine PendD.cons rfl (DOpP.vop (cl := false) rfl eqs_nil) ?_ | refine PendD.skip rfl ?_ | refine PendD.cons rfl (vopL_ok (cl := false) rfl eqs_nil) ?_)) ?_; (conv => (arg 3; whnf)); refine Nx.go_ok eqs_nil ?_
  refine dr_run mixed 1000 ?_; conv => (arg 3; whnf)
  refine Ok.stuck eqs_nil ?_; refine DWP.tlStep mixed (by repeat (first | exact PendD.nil | refine PendD.cons rfl (DOpP.vop (cl := false) rfl eqs_nil) ?_ | refine PendD.skip rfl ?_ | refine PendD.cons rfl (vopL_ok (cl := false) rfl eqs_nil) ?_)) ?_; (conv => (arg 3; whnf)); refine Nx.go_ok eqs_nil ?_
  refine dr_run mixed 1000 ?_; conv => (arg 3; whnf)
  refine Ok.fin eqs_nil ?_
  obtain rfl := Option.some.inj hr
  exact RD.leaf rfl rfl eqs_nil rfl (by (try simp only [gsimp]); repeat (first | exact Imp.refl _ | exact Imp.nil _ | exact ImpL.nil | exact ImpR.nil | exact ImpL.refl _ | exact ImpR.refl _ | exact Imp.of (by simp only [gsimp]; rfl) | (dsimp only; try simp only [gsimp]) | apply Imp.agg | apply Imp.tup | apply Imp.ip | apply Imp.fn | apply ImpL.cons | apply Imp.sl | apply ImpR.cons | apply ImpR.append))
/- plexus.plexusref16.Parse -/
end Go.Proofs.YtdmkbllocddkaaaGreat
