/- What functions' texts ask for, and the walks that show it (printed by a program). -/
import Derived.Test.YtfcdelokijnkoaaGKp1
namespace Go.Proofs.Ytfcdelokijnkoaa
/-- tree.Least -/
def tree_Least_j2 (x743 : Int) (ag1 : (Int × (List Int)) → Prop) (l1061 : List Int) (r : Int) : Prop :=
  0 ≤ (x743 : Int) ∧ ∃ y1102 : Int, l1061[(x743 : Int).toNat]? = some y1102 ∧ 0 ≤ (x743 : Int) ∧ ∃ y1105 : Int, l1061[(x743 : Int).toNat]? = some y1105 ∧ InR (x743 + 1) ∧ ag1 ((x743 + 1), (l1061.set (x743 : Int).toNat (if 65537 < y1102 then 65537 else y1102)))
def tree_Least_l1 (x1 : (List (Int × Int × Int × Int × Int × Int × (Arr 4 (UInt64)))) × Int) (ag1 : (Int × (List Int)) → Prop) (x743 : Int) (l744 : List Int) (r : Int) : Prop :=
  ((x743 < (x1.1.length : Int) → 0 ≤ (x743 : Int) ∧ ∃ y1019 : Int × Int × Int × Int × Int × Int × (Arr 4 (UInt64)), x1.1[(x743 : Int).toNat]? = some y1019 ∧ ((y1019.1 = 1 → 0 ≤ (x743 : Int) ∧ ∃ y1064 : Int, l744[(x743 : Int).toNat]? = some y1064 ∧ tree_Least_j2 x743 ag1 (l744.set (x743 : Int).toNat 1) r) ∧ (¬ (y1019.1 = 1) → ((y1019.1 = 2 → 0 ≤ (y1019.2.1 : Int) ∧ ∃ y1069 : Int, l744[(y1019.2.1 : Int).toNat]? = some y1069 ∧ 0 ≤ (y1019.2.2.1 : Int) ∧ ∃ y1071 : Int, l744[(y1019.2.2.1 : Int).toNat]? = some y1071 ∧ InR (y1069 + y1071) ∧ 0 ≤ (x743 : Int) ∧ ∃ y1074 : Int, l744[(x743 : Int).toNat]? = some y1074 ∧ tree_Least_j2 x743 ag1 (l744.set (x743 : Int).toNat (y1069 + y1071)) r) ∧ (¬ (y1019.1 = 2) → ((y1019.1 = 3 → 0 ≤ (y1019.2.1 : Int) ∧ ∃ y1079 : Int, l744[(y1019.2.1 : Int).toNat]? = some y1079 ∧ 0 ≤ (y1019.2.2.1 : Int) ∧ ∃ y1081 : Int, l744[(y1019.2.2.1 : Int).toNat]? = some y1081 ∧ 0 ≤ (x743 : Int) ∧ ∃ y1084 : Int, l744[(x743 : Int).toNat]? = some y1084 ∧ tree_Least_j2 x743 ag1 (l744.set (x743 : Int).toNat (if y1081 < y1079 then y1081 else y1079)) r) ∧ (¬ (y1019.1 = 3) → ((y1019.1 = 4 → 0 ≤ (y1019.2.1 : Int) ∧ ∃ y1089 : Int, l744[(y1019.2.1 : Int).toNat]? = some y1089 ∧ InR (y1019.2.2.2.1 * y1089) ∧ 0 ≤ (x743 : Int) ∧ ∃ y1092 : Int, l744[(x743 : Int).toNat]? = some y1092 ∧ tree_Least_j2 x743 ag1 (l744.set (x743 : Int).toNat (y1019.2.2.2.1 * y1089)) r) ∧ (¬ (y1019.1 = 4) → ((y1019.1 = 5 → 0 ≤ (y1019.2.1 : Int) ∧ ∃ y1097 : Int, l744[(y1019.2.1 : Int).toNat]? = some y1097 ∧ 0 ≤ (x743 : Int) ∧ ∃ y1099 : Int, l744[(x743 : Int).toNat]? = some y1099 ∧ tree_Least_j2 x743 ag1 (l744.set (x743 : Int).toNat y1097) r) ∧ (¬ (y1019.1 = 5) → tree_Least_j2 x743 ag1 l744 r))))))))))) ∧ (¬ (x743 < (x1.1.length : Int)) → InR (((l744.length : Nat) : Int) - 1) ∧ 0 ≤ ((((l744.length : Nat) : Int) - 1) : Int) ∧ ∃ y1111 : Int, l744[((((l744.length : Nat) : Int) - 1) : Int).toNat]? = some y1111 ∧ r = y1111))
def tree_Least_R (x1 : (List (Int × Int × Int × Int × Int × Int × (Arr 4 (UInt64)))) × Int) (r : Int) : Prop :=
  ∃ y6 : Bool, tree_Right_R x1 y6 ∧ ((¬ (y6 = true) → r = 0) ∧ (¬ (¬ (y6 = true)) → MakeOk ((x1.1.length : Int)) ((x1.1.length : Int)) 8 ∧ LoopR (fun ag1 s => tree_Least_l1 x1 ag1 s.1 s.2 r) (0, (List.replicate ((x1.1.length : Int) : Int).toNat 0))))
def tree_Least_j2_ev (fuel : Nat) (x743 : Int) (ag1e : (Int × (List Int)) → Option (Int)) (l1061 : List Int) : Option (Int) :=
  (if 0 ≤ (x743 : Int) then ((l1061[(x743 : Int).toNat]?).bind fun y1102 => (if 0 ≤ (x743 : Int) then ((l1061[(x743 : Int).toNat]?).bind fun y1105 => (if InR (x743 + 1) then ag1e ((x743 + 1), (l1061.set (x743 : Int).toNat (if 65537 < y1102 then 65537 else y1102))) else none)) else none)) else none)
theorem tree_Least_j2_ok {fuel : Nat} {x743 : Int} {ag1 : (Int × (List Int)) → Prop} {ag1e : (Int × (List Int)) → Option (Int)} {l1061 : List Int} {r : Int} (hagag1 : ∀ s, ag1e s = some r → ag1 s) (h : tree_Least_j2_ev fuel x743 ag1e l1061 = some r) : tree_Least_j2 x743 ag1 l1061 r := by
  unfold tree_Least_j2_ev at h
  unfold tree_Least_j2
  obtain ⟨g106, h⟩ := if_ok h
  refine ⟨g106, ?_⟩
  obtain ⟨q107, g107, h⟩ := bind_ok h
  refine ⟨q107, g107, ?_⟩
  obtain ⟨g108, h⟩ := if_ok h
  refine ⟨g108, ?_⟩
  obtain ⟨q109, g109, h⟩ := bind_ok h
  refine ⟨q109, g109, ?_⟩
  obtain ⟨g110, h⟩ := if_ok h
  refine ⟨g110, ?_⟩
  exact hagag1 _ h
def tree_Least_l1_ev (fuel : Nat) (x1 : (List (Int × Int × Int × Int × Int × Int × (Arr 4 (UInt64)))) × Int) (ag1e : (Int × (List Int)) → Option (Int)) (x743 : Int) (l744 : List Int) : Option (Int) :=
  (if x743 < (x1.1.length : Int) then (if 0 ≤ (x743 : Int) then ((x1.1[(x743 : Int).toNat]?).bind fun y1019 => (if y1019.1 = 1 then (if 0 ≤ (x743 : Int) then ((l744[(x743 : Int).toNat]?).bind fun y1064 => tree_Least_j2_ev fuel x743 ag1e (l744.set (x743 : Int).toNat 1)) else none) else (if y1019.1 = 2 then (if 0 ≤ (y1019.2.1 : Int) then ((l744[(y1019.2.1 : Int).toNat]?).bind fun y1069 => (if 0 ≤ (y1019.2.2.1 : Int) then ((l744[(y1019.2.2.1 : Int).toNat]?).bind fun y1071 => (if InR (y1069 + y1071) then (if 0 ≤ (x743 : Int) then ((l744[(x743 : Int).toNat]?).bind fun y1074 => tree_Least_j2_ev fuel x743 ag1e (l744.set (x743 : Int).toNat (y1069 + y1071))) else none) else none)) else none)) else none) else (if y1019.1 = 3 then (if 0 ≤ (y1019.2.1 : Int) then ((l744[(y1019.2.1 : Int).toNat]?).bind fun y1079 => (if 0 ≤ (y1019.2.2.1 : Int) then ((l744[(y1019.2.2.1 : Int).toNat]?).bind fun y1081 => (if 0 ≤ (x743 : Int) then ((l744[(x743 : Int).toNat]?).bind fun y1084 => tree_Least_j2_ev fuel x743 ag1e (l744.set (x743 : Int).toNat (if y1081 < y1079 then y1081 else y1079))) else none)) else none)) else none) else (if y1019.1 = 4 then (if 0 ≤ (y1019.2.1 : Int) then ((l744[(y1019.2.1 : Int).toNat]?).bind fun y1089 => (if InR (y1019.2.2.2.1 * y1089) then (if 0 ≤ (x743 : Int) then ((l744[(x743 : Int).toNat]?).bind fun y1092 => tree_Least_j2_ev fuel x743 ag1e (l744.set (x743 : Int).toNat (y1019.2.2.2.1 * y1089))) else none) else none)) else none) else (if y1019.1 = 5 then (if 0 ≤ (y1019.2.1 : Int) then ((l744[(y1019.2.1 : Int).toNat]?).bind fun y1097 => (if 0 ≤ (x743 : Int) then ((l744[(x743 : Int).toNat]?).bind fun y1099 => tree_Least_j2_ev fuel x743 ag1e (l744.set (x743 : Int).toNat y1097)) else none)) else none) else tree_Least_j2_ev fuel x743 ag1e l744)))))) else none) else (if InR (((l744.length : Nat) : Int) - 1) then (if 0 ≤ ((((l744.length : Nat) : Int) - 1) : Int) then ((l744[((((l744.length : Nat) : Int) - 1) : Int).toNat]?).bind fun y1111 => some y1111) else none) else none))
theorem tree_Least_l1_ok {fuel : Nat} {x1 : (List (Int × Int × Int × Int × Int × Int × (Arr 4 (UInt64)))) × Int} {ag1e : (Int × (List Int)) → Option (Int)} {ag1 : (Int × (List Int)) → Prop} {x743 : Int} {l744 : List Int} {r : Int} (hagag1 : ∀ s, ag1e s = some r → ag1 s) (h : tree_Least_l1_ev fuel x1 ag1e x743 l744 = some r) : tree_Least_l1 x1 ag1 x743 l744 r := by
  unfold tree_Least_l1_ev at h
  unfold tree_Least_l1
  refine ⟨fun g111 => ?_, fun g111 => ?_⟩
  · rw [if_pos g111] at h
    obtain ⟨g112, h⟩ := if_ok h
    refine ⟨g112, ?_⟩
    obtain ⟨q113, g113, h⟩ := bind_ok h
    refine ⟨q113, g113, ?_⟩
    refine ⟨fun g114 => ?_, fun g114 => ?_⟩
    · rw [if_pos g114] at h
      obtain ⟨g115, h⟩ := if_ok h
      refine ⟨g115, ?_⟩
      obtain ⟨q116, g116, h⟩ := bind_ok h
      refine ⟨q116, g116, ?_⟩
      exact tree_Least_j2_ok hagag1 h
    · rw [if_neg g114] at h
      refine ⟨fun g117 => ?_, fun g117 => ?_⟩
      · rw [if_pos g117] at h
        obtain ⟨g118, h⟩ := if_ok h
        refine ⟨g118, ?_⟩
        obtain ⟨q119, g119, h⟩ := bind_ok h
        refine ⟨q119, g119, ?_⟩
        obtain ⟨g120, h⟩ := if_ok h
        refine ⟨g120, ?_⟩
        obtain ⟨q121, g121, h⟩ := bind_ok h
        refine ⟨q121, g121, ?_⟩
        obtain ⟨g122, h⟩ := if_ok h
        refine ⟨g122, ?_⟩
        obtain ⟨g123, h⟩ := if_ok h
        refine ⟨g123, ?_⟩
        obtain ⟨q124, g124, h⟩ := bind_ok h
        refine ⟨q124, g124, ?_⟩
        exact tree_Least_j2_ok hagag1 h
      · rw [if_neg g117] at h
        refine ⟨fun g125 => ?_, fun g125 => ?_⟩
        · rw [if_pos g125] at h
          obtain ⟨g126, h⟩ := if_ok h
          refine ⟨g126, ?_⟩
          obtain ⟨q127, g127, h⟩ := bind_ok h
          refine ⟨q127, g127, ?_⟩
          obtain ⟨g128, h⟩ := if_ok h
          refine ⟨g128, ?_⟩
          obtain ⟨q129, g129, h⟩ := bind_ok h
          refine ⟨q129, g129, ?_⟩
          obtain ⟨g130, h⟩ := if_ok h
          refine ⟨g130, ?_⟩
          obtain ⟨q131, g131, h⟩ := bind_ok h
          refine ⟨q131, g131, ?_⟩
          exact tree_Least_j2_ok hagag1 h
        · rw [if_neg g125] at h
          refine ⟨fun g132 => ?_, fun g132 => ?_⟩
          · rw [if_pos g132] at h
            obtain ⟨g133, h⟩ := if_ok h
            refine ⟨g133, ?_⟩
            obtain ⟨q134, g134, h⟩ := bind_ok h
            refine ⟨q134, g134, ?_⟩
            obtain ⟨g135, h⟩ := if_ok h
            refine ⟨g135, ?_⟩
            obtain ⟨g136, h⟩ := if_ok h
            refine ⟨g136, ?_⟩
            obtain ⟨q137, g137, h⟩ := bind_ok h
            refine ⟨q137, g137, ?_⟩
            exact tree_Least_j2_ok hagag1 h
          · rw [if_neg g132] at h
            refine ⟨fun g138 => ?_, fun g138 => ?_⟩
            · rw [if_pos g138] at h
              obtain ⟨g139, h⟩ := if_ok h
              refine ⟨g139, ?_⟩
              obtain ⟨q140, g140, h⟩ := bind_ok h
              refine ⟨q140, g140, ?_⟩
              obtain ⟨g141, h⟩ := if_ok h
              refine ⟨g141, ?_⟩
              obtain ⟨q142, g142, h⟩ := bind_ok h
              refine ⟨q142, g142, ?_⟩
              exact tree_Least_j2_ok hagag1 h
            · rw [if_neg g138] at h
              exact tree_Least_j2_ok hagag1 h
  · rw [if_neg g111] at h
    obtain ⟨g143, h⟩ := if_ok h
    refine ⟨g143, ?_⟩
    obtain ⟨g144, h⟩ := if_ok h
    refine ⟨g144, ?_⟩
    obtain ⟨q145, g145, h⟩ := bind_ok h
    refine ⟨q145, g145, ?_⟩
    exact (Option.some.inj h).symm
def tree_Least_ev (fuel : Nat) (x1 : (List (Int × Int × Int × Int × Int × Int × (Arr 4 (UInt64)))) × Int) : Option (Int) :=
  ((tree_Right_ev fuel x1).bind fun y6 => (if ¬ (y6 = true) then some 0 else (if MakeOk ((x1.1.length : Int)) ((x1.1.length : Int)) 8 then (loopE (fun ag1e s => tree_Least_l1_ev fuel x1 ag1e s.1 s.2) fuel (0, (List.replicate ((x1.1.length : Int) : Int).toNat 0))) else none)))
theorem tree_Least_ok {fuel : Nat} {x1 : (List (Int × Int × Int × Int × Int × Int × (Arr 4 (UInt64)))) × Int} {r : Int} (h : tree_Least_ev fuel x1 = some r) : tree_Least_R x1 r := by
  unfold tree_Least_ev at h
  unfold tree_Least_R
  obtain ⟨q146, g146, h⟩ := bind_ok h
  refine ⟨q146, tree_Right_ok g146, ?_⟩
  refine ⟨fun g147 => ?_, fun g147 => ?_⟩
  · rw [if_pos g147] at h
    exact (Option.some.inj h).symm
  · rw [if_neg g147] at h
    obtain ⟨g148, h⟩ := if_ok h
    refine ⟨g148, ?_⟩
    refine loopE_ok ?_ h
    intro ae ag s hag h
    exact tree_Least_l1_ok hag h
set_option maxHeartbeats 4000000 in
theorem tree_Least_con (x1 : (List (Int × Int × Int × Int × Int × Int × (Arr 4 (UInt64)))) × Int) (r : Int) (h : tree_Least_R x1 r) : Con Try.prog 15 [.agg [.sl 10 none (List.map E_palinode_api_Node x1.1), .v (.int .i64 x1.2)]] [] [] (Ret (.v (.int .i64 r))) := by
  refine xenter Try.func15 rfl rfl fun g hg => ?_
  simp only [Try.ntmps15, slots]
  refine xseq ?_
  refine xregion ?_
  refine xbox rfl rfl rfl rfl fun b1 => ?_
  refine xvalP (pv_assign rfl) rfl rfl ?_
  refine xnil ?_
  refine xthen ?_
  refine xseq ?_
  refine xseq ?_
  refine xregion ?_
  refine xval (qv_loadB 0 ShpC.h rfl rfl rfl rfl) rfl rfl ?_
  obtain ⟨y6, h5, h⟩ := h
  refine xcall0 (tree_Right_con x1 _ h5) Try.func16 (by kernel_rfl) rfl (.cons rfl (.refl _) .nil) rfl rfl ?_
  refine xvalP (pv_not rfl) rfl rfl ?_
  refine xnil ?_
  refine xthen ?_
  by_cases hp7 : ¬ (y6 = true)
  · replace h := h.1 hp7
    refine xcondT' (not_t (b_f hp7)) rfl ?_
    refine xseq ?_
    refine xregion ?_
    refine xvalP (pv_assign rfl) rfl rfl ?_
    refine xnil ?_
    refine xthen ?_
    refine xretc ?_
    refine xthen_ret ?_
    replace h := h.symm
    subst h
    exact xret1 hg rfl rfl (.refl _) (SubM.of (.nil _) (.nil _)) ⟨rfl, rfl, rfl⟩
  · replace h := h.2 hp7
    refine xcondF' (not_f (Decidable.of_not_not hp7)) rfl ?_
    refine xskipc ?_
    refine xthen ?_
    refine xseq ?_
    refine xregion ?_
    refine xvalP (qv_fieldAddrB FldC.h rfl) rfl rfl ?_
    refine xval (qv_loadB 0 ShpC.h rfl rfl rfl rfl) rfl rfl ?_
    refine xvalP (pv_lenM UndC.h rfl) rfl rfl ?_
    obtain ⟨h9, h⟩ := h
    refine xmakeRb (f := ei) 0 h9 UndC.h InfC.h (.refl _) rfl rfl rfl rfl fun i10 => ?_
    refine xvalP (pv_assign rfl) rfl rfl ?_
    refine xnil ?_
    refine xthen ?_
    refine xseq ?_
    refine xseq ?_
    refine xregion ?_
    refine xvalP (qv_fieldAddrB FldC.h rfl) rfl rfl ?_
    refine xval (qv_loadB 1 ShpC.h rfl rfl rfl rfl) rfl rfl ?_
    refine xvalP (pv_lenM UndC.h rfl) rfl rfl ?_
    refine xvalP (pv_move rfl) rfl rfl ?_
    refine xnil ?_
    refine xthen ?_
    refine xblock ?_
    obtain ⟨Inv, ⟨m0, hI⟩, hS⟩ := h
    refine xloop (fun σ m => ∃ (x743 : Int), ∃ (l744 : List Int), Inv (x743, l744) m ∧ σ = ⟨[(3, .rb i10 l744.length), (14, .sl 10 none (List.map E_palinode_api_Node x1.1)), (15, .v (.int .i64 ((x1.1.length : Int)))), (16, .v (.int .i64 x743))], [rbx i10 3 1 (List.map ei l744)], []⟩) ⟨0, (List.replicate ((x1.1.length : Int) : Int).toNat 0), hI, rfl⟩ ⟨(.cons rfl (.eq (by first | rfl | simp)) (.cons rfl (.refl _) (.cons rfl (.refl _) (.cons rfl (.refl _) (.nil _))))), by exact (SubM.of (.keep rfl rfl (.refl _) (.nil _)) (.nil _))⟩ ?_
    rintro _ m ⟨x743, l744, hI, rfl⟩
    obtain ⟨ag1, hag1, h⟩ : ∃ ag, (∀ s', ag s' → ∃ m', m' < m ∧ Inv s' m') ∧ tree_Least_l1 x1 ag x743 l744 r := ⟨_, fun _ h => h, hS (x743, l744) _ hI⟩
    clear hS hI
    refine xseq ?_
    refine xregion ?_
    refine xvalP (pv_bin2 rfl rfl rfl) rfl rfl ?_
    refine xnil ?_
    refine xthen ?_
    refine xseq ?_
    by_cases hp929 : x743 < (x1.1.length : Int)
    · replace h := h.1 hp929
      refine xcondT' (decide_eq_true hp929) rfl ?_
      refine xskipc ?_
      refine xthen ?_
      refine xseq ?_
      refine xblock ?_
      refine xseq ?_
      refine xregion ?_
      refine xvalP (pv_move rfl) rfl rfl ?_
      obtain ⟨h1020a, h⟩ := h
      obtain ⟨y1019, h1020b, h⟩ := h
      refine xvalP (pv_indexAddrM h1020a h1020b UndC.h ShpC.h rfl rfl) rfl rfl ?_
      refine xval (qv_loadEP ([.v (.int .i64 y1019.1), .v (.int .i64 y1019.2.1), .v (.int .i64 y1019.2.2.1), .v (.int .i64 y1019.2.2.2.1), .v (.int .i64 y1019.2.2.2.2.1), .v (.int .i64 y1019.2.2.2.2.2.1)] ++ (List.map ew y1019.2.2.2.2.2.2.l).flatten) [] (by first | rfl | exact (List.append_nil _).symm | exact List.append_nil _ | exact List.append_assoc _ _ _ | exact (List.append_assoc _ _ _).symm | exact congrArg _ (List.append_nil _).symm | exact congrArg _ (List.append_nil _) | (simp; done) | (simp [cellsS]; done)) (by first | rfl | exact seg_lenE (by rfl) | exact len_app rfl (seg_lenE (by rfl)) (by rfl) | exact len_app (seg_lenE (by rfl)) rfl (by rfl) | exact len_app rfl (len_app (seg_lenE (by rfl)) rfl (by rfl)) (by rfl) | (simp only [seg_len, cellsS, List.length_append, List.length_cons, List.length_nil]; done) | (simp only [seg_len, cellsS, List.length_append, List.length_cons, List.length_nil]; rfl)) (part_all (by first | rfl | exact seg_lenE (by rfl) | exact len_app rfl (seg_lenE (by rfl)) (by rfl) | exact len_app (seg_lenE (by rfl)) rfl (by rfl) | exact len_app rfl (len_app (seg_lenE (by rfl)) rfl (by rfl)) (by rfl) | (simp only [seg_len, cellsS, List.length_append, List.length_cons, List.length_nil]; done) | (simp only [seg_len, cellsS, List.length_append, List.length_cons, List.length_nil]; rfl))) ShpC.h rfl) rfl rfl ?_
      refine xalloc InfC.h rfl rfl fun b5 => ?_
      refine xreb 0 ([.v (.int .i64 0), .v (.int .i64 0), .v (.int .i64 0), .v (.int .i64 0), .v (.int .i64 0), .v (.int .i64 0)] ++ (List.map ew ((Arr.rep 4 (0 : UInt64))).l).flatten) rfl rfl ?_
      refine xvalP (pv_assign rfl) rfl rfl ?_
      refine xstoreP 0 [] ([.v (.int .i64 0), .v (.int .i64 0), .v (.int .i64 0), .v (.int .i64 0), .v (.int .i64 0), .v (.int .i64 0)] ++ (List.map ew ((Arr.rep 4 (0 : UInt64))).l).flatten) [] (by first | rfl | exact (List.append_nil _).symm | exact List.append_nil _ | exact List.append_assoc _ _ _ | exact (List.append_assoc _ _ _).symm | exact congrArg _ (List.append_nil _).symm | exact congrArg _ (List.append_nil _) | (simp; done) | (simp [cellsS]; done)) (by first | rfl | exact seg_lenE (by rfl) | exact len_app rfl (seg_lenE (by rfl)) (by rfl) | exact len_app (seg_lenE (by rfl)) rfl (by rfl) | exact len_app rfl (len_app (seg_lenE (by rfl)) rfl (by rfl)) (by rfl) | (simp only [seg_len, cellsS, List.length_append, List.length_cons, List.length_nil]; done) | (simp only [seg_len, cellsS, List.length_append, List.length_cons, List.length_nil]; rfl)) (by first | rfl | exact seg_lenE (by rfl) | exact len_app rfl (seg_lenE (by rfl)) (by rfl) | exact len_app (seg_lenE (by rfl)) rfl (by rfl) | exact len_app rfl (len_app (seg_lenE (by rfl)) rfl (by rfl)) (by rfl) | (simp only [seg_len, cellsS, List.length_append, List.length_cons, List.length_nil]; done) | (simp only [seg_len, cellsS, List.length_append, List.length_cons, List.length_nil]; rfl)) ShpC.h rfl rfl rfl rfl (by first | rfl | exact seg_lenE (by rfl) | exact len_app rfl (seg_lenE (by rfl)) (by rfl) | exact len_app (seg_lenE (by rfl)) rfl (by rfl) | exact len_app rfl (len_app (seg_lenE (by rfl)) rfl (by rfl)) (by rfl) | (simp only [seg_len, cellsS, List.length_append, List.length_cons, List.length_nil]; done) | (simp only [seg_len, cellsS, List.length_append, List.length_cons, List.length_nil]; rfl)) rfl ?_
      refine xreb 0 ([.v (.int .i64 y1019.1), .v (.int .i64 y1019.2.1), .v (.int .i64 y1019.2.2.1), .v (.int .i64 y1019.2.2.2.1), .v (.int .i64 y1019.2.2.2.2.1), .v (.int .i64 y1019.2.2.2.2.2.1)] ++ (List.map ew y1019.2.2.2.2.2.2.l).flatten) rfl (by first | rfl | exact (List.append_nil _).symm | exact List.append_nil _ | exact List.append_assoc _ _ _ | exact (List.append_assoc _ _ _).symm | exact congrArg _ (List.append_nil _).symm | exact congrArg _ (List.append_nil _) | (simp; done) | (simp [cellsS]; done)) ?_
      refine xnil ?_
      refine xthen ?_
      refine xseqM (fun σ => ∃ (l1061 : List Int), tree_Least_j2 x743 ag1 l1061 r ∧ σ = ⟨[(3, .rb i10 l1061.length), (4, .v (.int .i64 x743)), (14, .sl 10 none (List.map E_palinode_api_Node x1.1)), (15, .v (.int .i64 ((x1.1.length : Int)))), (16, .v (.int .i64 x743))], [rbx i10 3 1 (List.map ei l1061)], []⟩) ?_ ?_
      · refine xseq ?_
        refine xregion ?_
        refine xvalP (qv_fieldAddrB FldC.h rfl) rfl rfl ?_
        refine xval (qv_loadB 0 ShpC.h rfl rfl rfl rfl) rfl rfl ?_
        refine xnil ?_
        refine xthen ?_
        refine xblock ?_
        refine xseq ?_
        refine xregion ?_
        refine xvalP (pv_bin2 rfl rfl rfl) rfl rfl ?_
        refine xvalP (pv_assign rfl) rfl rfl ?_
        refine xnil ?_
        refine xthen ?_
        by_cases hp1063 : y1019.1 = 1
        · replace h := h.1 hp1063
          refine xcondT' (decide_eq_true hp1063) rfl ?_
          refine xregion ?_
          refine xvalP (pv_move rfl) rfl rfl ?_
          refine xvalP (pv_move rfl) rfl rfl ?_
          obtain ⟨h1065a, h⟩ := h
          obtain ⟨y1064, h1065b, h⟩ := h
          refine xvalP (pv_indexAddrRbM rfl h1065a h1065b UndC.h ShpC.h rfl rfl) rfl rfl ?_
          refine xstoreRb (f := ei) (k := 1) (off := 0) (i := (x743 : Int).toNat) 1 1 h1065b rfl (by decide) ShpC.h rfl rfl rfl rfl (by first | rfl | exact seg_lenE (by rfl) | exact len_app rfl (seg_lenE (by rfl)) (by rfl) | exact len_app (seg_lenE (by rfl)) rfl (by rfl) | exact len_app rfl (len_app (seg_lenE (by rfl)) rfl (by rfl)) (by rfl) | (simp only [seg_len, cellsS, List.length_append, List.length_cons, List.length_nil]; done) | (simp only [seg_len, cellsS, List.length_append, List.length_cons, List.length_nil]; rfl)) (.refl _) rfl ?_
          refine xnil ?_
          refine xin_normal ?_
          exact xmeet ⟨(l744.set (x743 : Int).toNat 1), h, rfl⟩ ⟨(.cons rfl (.eq (by first | rfl | simp)) (.cons rfl (.refl _) (.cons rfl (.refl _) (.cons rfl (.refl _) (.cons rfl (.refl _) (.nil _)))))), by exact (SubM.of (.drop (.keep rfl rfl (.refl _) (.nil _))) (.nil _))⟩
        · replace h := h.2 hp1063
          refine xcondF' (decide_eq_false hp1063) rfl ?_
          refine xseq ?_
          refine xregion ?_
          refine xvalP (pv_bin2 rfl rfl rfl) rfl rfl ?_
          refine xvalP (pv_assign rfl) rfl rfl ?_
          refine xnil ?_
          refine xthen ?_
          by_cases hp1068 : y1019.1 = 2
          · replace h := h.1 hp1068
            refine xcondT' (decide_eq_true hp1068) rfl ?_
            refine xregionD (m := 15) (by kernel_rfl) rfl ?_
            obtain ⟨h1070a, h⟩ := h
            obtain ⟨y1069, h1070b, h⟩ := h
            obtain ⟨h1072a, h⟩ := h
            obtain ⟨y1071, h1072b, h⟩ := h
            obtain ⟨h1073, h⟩ := h
            obtain ⟨h1075a, h⟩ := h
            obtain ⟨y1074, h1075b, h⟩ := h
            refine xpval 0 rfl (pv_move rfl) rfl rfl (by kernel_rfl) (by kernel_rfl) (by kernel_rfl) (fun _ _ _ _ h => h) ?_
            refine xpval 1 rfl (pv_move rfl) rfl rfl (by kernel_rfl) (by kernel_rfl) (by kernel_rfl) (fun _ _ _ _ h => h) ?_
            refine xpval 2 rfl (pv_move rfl) rfl rfl (by kernel_rfl) (by kernel_rfl) (by kernel_rfl) (fun _ _ _ _ h => h) ?_
            refine xpval 3 rfl (qv_fieldAddrB FldC.h rfl) rfl rfl (by kernel_rfl) (by kernel_rfl) (by kernel_rfl) (fun _ _ _ _ h => h) ?_
            refine xpval 7 rfl (pv_move rfl) rfl rfl (by kernel_rfl) (by kernel_rfl) (by kernel_rfl) (fun _ _ _ _ h => h) ?_
            refine xpval 8 rfl (qv_fieldAddrB FldC.h rfl) rfl rfl (by kernel_rfl) (by kernel_rfl) (by kernel_rfl) (fun _ _ _ _ h => h) ?_
            refine xpvalE 4 [9, 10, 11] rfl (qv_loadB 0 ShpC.h rfl rfl rfl rfl) rfl rfl (by kernel_rfl) (by kernel_rfl) (by kernel_rfl) (fun _ _ _ _ h => h) ?_
            refine xpval 5 rfl (pv_indexAddrRbM rfl h1070a h1070b UndC.h ShpC.h rfl rfl) rfl rfl (by kernel_rfl) (by kernel_rfl) (by kernel_rfl) (fun _ _ _ _ h => h) ?_
            refine xpvalE 6 [9, 10, 11] rfl (qv_loadRb (f := ei) (k := 1) (off := 0) (i := (y1019.2.1 : Int).toNat) 1 h1070b rfl (by decide) rfl ShpC.h rfl rfl) rfl rfl (by kernel_rfl) (by kernel_rfl) (by kernel_rfl) (fun _ _ _ _ h => h) ?_
            refine xpvalE 9 [] rfl (qv_loadB 0 ShpC.h rfl rfl rfl rfl) rfl rfl (by kernel_rfl) (by kernel_rfl) (by kernel_rfl) (fun _ _ _ _ h => h) ?_
            refine xpval 10 rfl (pv_indexAddrRbM rfl h1072a h1072b UndC.h ShpC.h rfl rfl) rfl rfl (by kernel_rfl) (by kernel_rfl) (by kernel_rfl) (fun _ _ _ _ h => h) ?_
            refine xpvalE 11 [] rfl (qv_loadRb (f := ei) (k := 1) (off := 0) (i := (y1019.2.2.1 : Int).toNat) 1 h1072b rfl (by decide) rfl ShpC.h rfl rfl) rfl rfl (by kernel_rfl) (by kernel_rfl) (by kernel_rfl) (fun _ _ _ _ h => h) ?_
            refine xpval 12 rfl (pv_addI h1073 rfl rfl) rfl rfl (by kernel_rfl) (by kernel_rfl) (by kernel_rfl) (fun _ _ _ _ h => h) ?_
            refine xpval 13 rfl (pv_indexAddrRbM rfl h1075a h1075b UndC.h ShpC.h rfl rfl) rfl rfl (by kernel_rfl) (by kernel_rfl) (by kernel_rfl) (fun _ _ _ _ h => h) ?_
            refine xpstep (i := 14) (by kernel_rfl) rfl ?_
            refine wstoreRb (f := ei) (k := 1) (off := 0) (i := (x743 : Int).toNat) 1 (y1069 + y1071) h1075b rfl (by decide) ShpC.h rfl rfl rfl rfl (by first | rfl | exact seg_lenE (by rfl) | exact len_app rfl (seg_lenE (by rfl)) (by rfl) | exact len_app (seg_lenE (by rfl)) rfl (by rfl) | exact len_app rfl (len_app (seg_lenE (by rfl)) rfl (by rfl)) (by rfl) | (simp only [seg_len, cellsS, List.length_append, List.length_cons, List.length_nil]; done) | (simp only [seg_len, cellsS, List.length_append, List.length_cons, List.length_nil]; rfl)) (.refl _) rfl ?_
            refine xpdone (by kernel_rfl) ?_
            refine xin_normal ?_
            exact xmeet ⟨(l744.set (x743 : Int).toNat (y1069 + y1071)), h, rfl⟩ ⟨(.cons rfl (.eq (by first | rfl | simp)) (.cons rfl (.refl _) (.cons rfl (.refl _) (.cons rfl (.refl _) (.cons rfl (.refl _) (.nil _)))))), by exact (SubM.of (.drop (.keep rfl rfl (.refl _) (.nil _))) (.nil _))⟩
          · replace h := h.2 hp1068
            refine xcondF' (decide_eq_false hp1068) rfl ?_
            refine xseq ?_
            refine xregion ?_
            refine xvalP (pv_bin2 rfl rfl rfl) rfl rfl ?_
            refine xvalP (pv_assign rfl) rfl rfl ?_
            refine xnil ?_
            refine xthen ?_
            by_cases hp1078 : y1019.1 = 3
            · replace h := h.1 hp1078
              refine xcondT' (decide_eq_true hp1078) rfl ?_
              refine xregionD (m := 15) (by kernel_rfl) rfl ?_
              obtain ⟨h1080a, h⟩ := h
              obtain ⟨y1079, h1080b, h⟩ := h
              obtain ⟨h1082a, h⟩ := h
              obtain ⟨y1081, h1082b, h⟩ := h
              obtain ⟨h1085a, h⟩ := h
              obtain ⟨y1084, h1085b, h⟩ := h
              refine xpval 0 rfl (pv_move rfl) rfl rfl (by kernel_rfl) (by kernel_rfl) (by kernel_rfl) (fun _ _ _ _ h => h) ?_
              refine xpval 1 rfl (pv_move rfl) rfl rfl (by kernel_rfl) (by kernel_rfl) (by kernel_rfl) (fun _ _ _ _ h => h) ?_
              refine xpval 2 rfl (pv_move rfl) rfl rfl (by kernel_rfl) (by kernel_rfl) (by kernel_rfl) (fun _ _ _ _ h => h) ?_
              refine xpval 3 rfl (qv_fieldAddrB FldC.h rfl) rfl rfl (by kernel_rfl) (by kernel_rfl) (by kernel_rfl) (fun _ _ _ _ h => h) ?_
              refine xpval 7 rfl (pv_move rfl) rfl rfl (by kernel_rfl) (by kernel_rfl) (by kernel_rfl) (fun _ _ _ _ h => h) ?_
              refine xpval 8 rfl (qv_fieldAddrB FldC.h rfl) rfl rfl (by kernel_rfl) (by kernel_rfl) (by kernel_rfl) (fun _ _ _ _ h => h) ?_
              refine xpvalE 4 [9, 10, 11] rfl (qv_loadB 0 ShpC.h rfl rfl rfl rfl) rfl rfl (by kernel_rfl) (by kernel_rfl) (by kernel_rfl) (fun _ _ _ _ h => h) ?_
              refine xpval 5 rfl (pv_indexAddrRbM rfl h1080a h1080b UndC.h ShpC.h rfl rfl) rfl rfl (by kernel_rfl) (by kernel_rfl) (by kernel_rfl) (fun _ _ _ _ h => h) ?_
              refine xpvalE 6 [9, 10, 11] rfl (qv_loadRb (f := ei) (k := 1) (off := 0) (i := (y1019.2.1 : Int).toNat) 1 h1080b rfl (by decide) rfl ShpC.h rfl rfl) rfl rfl (by kernel_rfl) (by kernel_rfl) (by kernel_rfl) (fun _ _ _ _ h => h) ?_
              refine xpvalE 9 [] rfl (qv_loadB 0 ShpC.h rfl rfl rfl rfl) rfl rfl (by kernel_rfl) (by kernel_rfl) (by kernel_rfl) (fun _ _ _ _ h => h) ?_
              refine xpval 10 rfl (pv_indexAddrRbM rfl h1082a h1082b UndC.h ShpC.h rfl rfl) rfl rfl (by kernel_rfl) (by kernel_rfl) (by kernel_rfl) (fun _ _ _ _ h => h) ?_
              refine xpvalE 11 [] rfl (qv_loadRb (f := ei) (k := 1) (off := 0) (i := (y1019.2.2.1 : Int).toNat) 1 h1082b rfl (by decide) rfl ShpC.h rfl rfl) rfl rfl (by kernel_rfl) (by kernel_rfl) (by kernel_rfl) (fun _ _ _ _ h => h) ?_
              refine xpval 12 rfl (pv_min rfl rfl) rfl rfl (by kernel_rfl) (by kernel_rfl) (by kernel_rfl) (fun _ _ _ _ h => h) ?_
              refine xpval 13 rfl (pv_indexAddrRbM rfl h1085a h1085b UndC.h ShpC.h rfl rfl) rfl rfl (by kernel_rfl) (by kernel_rfl) (by kernel_rfl) (fun _ _ _ _ h => h) ?_
              refine xpstep (i := 14) (by kernel_rfl) rfl ?_
              refine wstoreRb (f := ei) (k := 1) (off := 0) (i := (x743 : Int).toNat) 1 (if y1081 < y1079 then y1081 else y1079) h1085b rfl (by decide) ShpC.h rfl rfl rfl rfl (by first | rfl | exact seg_lenE (by rfl) | exact len_app rfl (seg_lenE (by rfl)) (by rfl) | exact len_app (seg_lenE (by rfl)) rfl (by rfl) | exact len_app rfl (len_app (seg_lenE (by rfl)) rfl (by rfl)) (by rfl) | (simp only [seg_len, cellsS, List.length_append, List.length_cons, List.length_nil]; done) | (simp only [seg_len, cellsS, List.length_append, List.length_cons, List.length_nil]; rfl)) (.refl _) rfl ?_
              refine xpdone (by kernel_rfl) ?_
              refine xin_normal ?_
              exact xmeet ⟨(l744.set (x743 : Int).toNat (if y1081 < y1079 then y1081 else y1079)), h, rfl⟩ ⟨(.cons rfl (.eq (by first | rfl | simp)) (.cons rfl (.refl _) (.cons rfl (.refl _) (.cons rfl (.refl _) (.cons rfl (.refl _) (.nil _)))))), by exact (SubM.of (.drop (.keep rfl rfl (.refl _) (.nil _))) (.nil _))⟩
            · replace h := h.2 hp1078
              refine xcondF' (decide_eq_false hp1078) rfl ?_
              refine xseq ?_
              refine xregion ?_
              refine xvalP (pv_bin2 rfl rfl rfl) rfl rfl ?_
              refine xvalP (pv_assign rfl) rfl rfl ?_
              refine xnil ?_
              refine xthen ?_
              by_cases hp1088 : y1019.1 = 4
              · replace h := h.1 hp1088
                refine xcondT' (decide_eq_true hp1088) rfl ?_
                refine xregionD (m := 12) (by kernel_rfl) rfl ?_
                obtain ⟨h1090a, h⟩ := h
                obtain ⟨y1089, h1090b, h⟩ := h
                obtain ⟨h1091, h⟩ := h
                obtain ⟨h1093a, h⟩ := h
                obtain ⟨y1092, h1093b, h⟩ := h
                refine xpval 0 rfl (pv_move rfl) rfl rfl (by kernel_rfl) (by kernel_rfl) (by kernel_rfl) (fun _ _ _ _ h => h) ?_
                refine xpval 1 rfl (pv_move rfl) rfl rfl (by kernel_rfl) (by kernel_rfl) (by kernel_rfl) (fun _ _ _ _ h => h) ?_
                refine xpval 2 rfl (qv_fieldAddrB FldC.h rfl) rfl rfl (by kernel_rfl) (by kernel_rfl) (by kernel_rfl) (fun _ _ _ _ h => h) ?_
                refine xpval 4 rfl (pv_move rfl) rfl rfl (by kernel_rfl) (by kernel_rfl) (by kernel_rfl) (fun _ _ _ _ h => h) ?_
                refine xpval 5 rfl (qv_fieldAddrB FldC.h rfl) rfl rfl (by kernel_rfl) (by kernel_rfl) (by kernel_rfl) (fun _ _ _ _ h => h) ?_
                refine xpvalE 3 [6, 7, 8] rfl (qv_loadB 0 ShpC.h rfl rfl rfl rfl) rfl rfl (by kernel_rfl) (by kernel_rfl) (by kernel_rfl) (fun _ _ _ _ h => h) ?_
                refine xpvalE 6 [] rfl (qv_loadB 0 ShpC.h rfl rfl rfl rfl) rfl rfl (by kernel_rfl) (by kernel_rfl) (by kernel_rfl) (fun _ _ _ _ h => h) ?_
                refine xpval 7 rfl (pv_indexAddrRbM rfl h1090a h1090b UndC.h ShpC.h rfl rfl) rfl rfl (by kernel_rfl) (by kernel_rfl) (by kernel_rfl) (fun _ _ _ _ h => h) ?_
                refine xpvalE 8 [] rfl (qv_loadRb (f := ei) (k := 1) (off := 0) (i := (y1019.2.1 : Int).toNat) 1 h1090b rfl (by decide) rfl ShpC.h rfl rfl) rfl rfl (by kernel_rfl) (by kernel_rfl) (by kernel_rfl) (fun _ _ _ _ h => h) ?_
                refine xpval 9 rfl (pv_mulI h1091 rfl rfl) rfl rfl (by kernel_rfl) (by kernel_rfl) (by kernel_rfl) (fun _ _ _ _ h => h) ?_
                refine xpval 10 rfl (pv_indexAddrRbM rfl h1093a h1093b UndC.h ShpC.h rfl rfl) rfl rfl (by kernel_rfl) (by kernel_rfl) (by kernel_rfl) (fun _ _ _ _ h => h) ?_
                refine xpstep (i := 11) (by kernel_rfl) rfl ?_
                refine wstoreRb (f := ei) (k := 1) (off := 0) (i := (x743 : Int).toNat) 1 (y1019.2.2.2.1 * y1089) h1093b rfl (by decide) ShpC.h rfl rfl rfl rfl (by first | rfl | exact seg_lenE (by rfl) | exact len_app rfl (seg_lenE (by rfl)) (by rfl) | exact len_app (seg_lenE (by rfl)) rfl (by rfl) | exact len_app rfl (len_app (seg_lenE (by rfl)) rfl (by rfl)) (by rfl) | (simp only [seg_len, cellsS, List.length_append, List.length_cons, List.length_nil]; done) | (simp only [seg_len, cellsS, List.length_append, List.length_cons, List.length_nil]; rfl)) (.refl _) rfl ?_
                refine xpdone (by kernel_rfl) ?_
                refine xin_normal ?_
                exact xmeet ⟨(l744.set (x743 : Int).toNat (y1019.2.2.2.1 * y1089)), h, rfl⟩ ⟨(.cons rfl (.eq (by first | rfl | simp)) (.cons rfl (.refl _) (.cons rfl (.refl _) (.cons rfl (.refl _) (.cons rfl (.refl _) (.nil _)))))), by exact (SubM.of (.drop (.keep rfl rfl (.refl _) (.nil _))) (.nil _))⟩
              · replace h := h.2 hp1088
                refine xcondF' (decide_eq_false hp1088) rfl ?_
                refine xseq ?_
                refine xregion ?_
                refine xvalP (pv_bin2 rfl rfl rfl) rfl rfl ?_
                refine xvalP (pv_assign rfl) rfl rfl ?_
                refine xnil ?_
                refine xthen ?_
                by_cases hp1096 : y1019.1 = 5
                · replace h := h.1 hp1096
                  refine xcondT' (decide_eq_true hp1096) rfl ?_
                  refine xregion ?_
                  refine xvalP (pv_move rfl) rfl rfl ?_
                  refine xvalP (pv_move rfl) rfl rfl ?_
                  refine xvalP (pv_move rfl) rfl rfl ?_
                  refine xvalP (qv_fieldAddrB FldC.h rfl) rfl rfl ?_
                  refine xval (qv_loadB 0 ShpC.h rfl rfl rfl rfl) rfl rfl ?_
                  obtain ⟨h1098a, h⟩ := h
                  obtain ⟨y1097, h1098b, h⟩ := h
                  refine xvalP (pv_indexAddrRbM rfl h1098a h1098b UndC.h ShpC.h rfl rfl) rfl rfl ?_
                  refine xval (qv_loadRb (f := ei) (k := 1) (off := 0) (i := (y1019.2.1 : Int).toNat) 1 h1098b rfl (by decide) rfl ShpC.h rfl rfl) rfl rfl ?_
                  obtain ⟨h1100a, h⟩ := h
                  obtain ⟨y1099, h1100b, h⟩ := h
                  refine xvalP (pv_indexAddrRbM rfl h1100a h1100b UndC.h ShpC.h rfl rfl) rfl rfl ?_
                  refine xstoreRb (f := ei) (k := 1) (off := 0) (i := (x743 : Int).toNat) 1 y1097 h1100b rfl (by decide) ShpC.h rfl rfl rfl rfl (by first | rfl | exact seg_lenE (by rfl) | exact len_app rfl (seg_lenE (by rfl)) (by rfl) | exact len_app (seg_lenE (by rfl)) rfl (by rfl) | exact len_app rfl (len_app (seg_lenE (by rfl)) rfl (by rfl)) (by rfl) | (simp only [seg_len, cellsS, List.length_append, List.length_cons, List.length_nil]; done) | (simp only [seg_len, cellsS, List.length_append, List.length_cons, List.length_nil]; rfl)) (.refl _) rfl ?_
                  refine xnil ?_
                  refine xin_normal ?_
                  exact xmeet ⟨(l744.set (x743 : Int).toNat y1097), h, rfl⟩ ⟨(.cons rfl (.eq (by first | rfl | simp)) (.cons rfl (.refl _) (.cons rfl (.refl _) (.cons rfl (.refl _) (.cons rfl (.refl _) (.nil _)))))), by exact (SubM.of (.drop (.keep rfl rfl (.refl _) (.nil _))) (.nil _))⟩
                · replace h := h.2 hp1096
                  refine xcondF' (decide_eq_false hp1096) rfl ?_
                  refine xskipc ?_
                  refine xin_normal ?_
                  exact xmeet ⟨l744, h, rfl⟩ ⟨(.cons rfl (.eq (by first | rfl | simp)) (.cons rfl (.refl _) (.cons rfl (.refl _) (.cons rfl (.refl _) (.cons rfl (.refl _) (.nil _)))))), by exact (SubM.of (.drop (.keep rfl rfl (.refl _) (.nil _))) (.nil _))⟩
      · clear h
        rintro _ ⟨l1061, h, rfl⟩
        refine xregion ?_
        refine xvalP (pv_move rfl) rfl rfl ?_
        refine xvalP (pv_move rfl) rfl rfl ?_
        refine xvalP (pv_move rfl) rfl rfl ?_
        refine xvalP (pv_move rfl) rfl rfl ?_
        obtain ⟨h1103a, h⟩ := h
        obtain ⟨y1102, h1103b, h⟩ := h
        refine xvalP (pv_indexAddrRbM rfl h1103a h1103b UndC.h ShpC.h rfl rfl) rfl rfl ?_
        refine xval (qv_loadRb (f := ei) (k := 1) (off := 0) (i := (x743 : Int).toNat) 0 h1103b rfl (by decide) rfl ShpC.h rfl rfl) rfl rfl ?_
        refine xvalP (pv_min rfl rfl) rfl rfl ?_
        obtain ⟨h1106a, h⟩ := h
        obtain ⟨y1105, h1106b, h⟩ := h
        refine xvalP (pv_indexAddrRbM rfl h1106a h1106b UndC.h ShpC.h rfl rfl) rfl rfl ?_
        refine xstoreRb (f := ei) (k := 1) (off := 0) (i := (x743 : Int).toNat) 0 (if 65537 < y1102 then 65537 else y1102) h1106b rfl (by decide) ShpC.h rfl rfl rfl rfl (by first | rfl | exact seg_lenE (by rfl) | exact len_app rfl (seg_lenE (by rfl)) (by rfl) | exact len_app (seg_lenE (by rfl)) rfl (by rfl) | exact len_app rfl (len_app (seg_lenE (by rfl)) rfl (by rfl)) (by rfl) | (simp only [seg_len, cellsS, List.length_append, List.length_cons, List.length_nil]; done) | (simp only [seg_len, cellsS, List.length_append, List.length_cons, List.length_nil]; rfl)) (.refl _) rfl ?_
        refine xnil ?_
        refine xin_normal ?_
        refine xthen ?_
        refine xregion ?_
        obtain ⟨h1108, h⟩ := h
        refine xvalP (pv_addI h1108 rfl rfl) rfl rfl ?_
        refine xvalP (pv_move rfl) rfl rfl ?_
        refine xnil ?_
        obtain ⟨m', hm, hI⟩ := hag1 _ h
        exact xagain ⟨(x743 + 1), (l1061.set (x743 : Int).toNat (if 65537 < y1102 then 65537 else y1102)), hI, rfl⟩ hm ⟨(.cons rfl (.eq (by first | rfl | simp)) (.cons rfl (.refl _) (.cons rfl (.refl _) (.cons rfl (.refl _) (.nil _))))), by exact (SubM.of (.keep rfl rfl (.refl _) (.nil _)) (.nil _))⟩
    · replace h := h.2 hp929
      refine xcondF' (decide_eq_false hp929) rfl ?_
      refine xexit ?_
      refine xthen_exit ?_
      refine xthen_exit ?_
      refine xin_same rfl ?_
      refine xthen ?_
      refine xseq ?_
      refine xregion ?_
      refine xvalP (pv_move rfl) rfl rfl ?_
      refine xvalP (pv_move rfl) rfl rfl ?_
      refine xvalP (pv_lenRb UndC.h rfl) rfl rfl ?_
      obtain ⟨h1110, h⟩ := h
      refine xvalP (pv_subI h1110 rfl rfl) rfl rfl ?_
      obtain ⟨h1112a, h⟩ := h
      obtain ⟨y1111, h1112b, h⟩ := h
      refine xvalP (pv_indexAddrRbM rfl h1112a h1112b UndC.h ShpC.h rfl rfl) rfl rfl ?_
      refine xval (qv_loadRb (f := ei) (k := 1) (off := 0) (i := ((((l744.length : Nat) : Int) - 1) : Int).toNat) 0 h1112b rfl (by decide) rfl ShpC.h rfl rfl) rfl rfl ?_
      refine xvalP (pv_assign rfl) rfl rfl ?_
      refine xnil ?_
      refine xthen ?_
      refine xretc ?_
      replace h := h.symm
      subst h
      exact xret1 hg rfl rfl (.refl _) (SubM.of (.nil _) (.nil _)) ⟨rfl, rfl, rfl⟩
/-- slices.Equal [ []api.Node,api.Node] -/
def slices_Equal_l1 (s11 : List (Int × Int × Int × Int × Int × Int × (Arr 4 (UInt64)))) (s22 : List (Int × Int × Int × Int × Int × Int × (Arr 4 (UInt64)))) (ag1 : (Int) → Prop) (x118 : Int) (r : Bool) : Prop :=
  ((x118 < (s11.length : Int) → 0 ≤ (x118 : Int) ∧ ∃ y164 : Int × Int × Int × Int × Int × Int × (Arr 4 (UInt64)), s11[(x118 : Int).toNat]? = some y164 ∧ 0 ≤ (x118 : Int) ∧ ∃ y166 : Int × Int × Int × Int × Int × Int × (Arr 4 (UInt64)), s22[(x118 : Int).toNat]? = some y166 ∧ ((¬ ((y164 : Int × Int × Int × Int × Int × Int × (Arr 4 (UInt64))) = y166) → r = false) ∧ (¬ (¬ ((y164 : Int × Int × Int × Int × Int × Int × (Arr 4 (UInt64))) = y166)) → InR (x118 + 1) ∧ ag1 (x118 + 1)))) ∧ (¬ (x118 < (s11.length : Int)) → r = true))
def slices_Equal_R (s11 : List (Int × Int × Int × Int × Int × Int × (Arr 4 (UInt64)))) (s22 : List (Int × Int × Int × Int × Int × Int × (Arr 4 (UInt64)))) (r : Bool) : Prop :=
  ((¬ ((s11.length : Int) = (s22.length : Int)) → r = false) ∧ (¬ (¬ ((s11.length : Int) = (s22.length : Int))) → LoopR (fun ag1 s => slices_Equal_l1 s11 s22 ag1 s r) 0))
def slices_Equal_l1_ev (fuel : Nat) (s11 : List (Int × Int × Int × Int × Int × Int × (Arr 4 (UInt64)))) (s22 : List (Int × Int × Int × Int × Int × Int × (Arr 4 (UInt64)))) (ag1e : (Int) → Option (Bool)) (x118 : Int) : Option (Bool) :=
  (if x118 < (s11.length : Int) then (if 0 ≤ (x118 : Int) then ((s11[(x118 : Int).toNat]?).bind fun y164 => (if 0 ≤ (x118 : Int) then ((s22[(x118 : Int).toNat]?).bind fun y166 => (if ¬ ((y164 : Int × Int × Int × Int × Int × Int × (Arr 4 (UInt64))) = y166) then some false else (if InR (x118 + 1) then ag1e (x118 + 1) else none))) else none)) else none) else some true)
theorem slices_Equal_l1_ok {fuel : Nat} {s11 : List (Int × Int × Int × Int × Int × Int × (Arr 4 (UInt64)))} {s22 : List (Int × Int × Int × Int × Int × Int × (Arr 4 (UInt64)))} {ag1e : (Int) → Option (Bool)} {ag1 : (Int) → Prop} {x118 : Int} {r : Bool} (hagag1 : ∀ s, ag1e s = some r → ag1 s) (h : slices_Equal_l1_ev fuel s11 s22 ag1e x118 = some r) : slices_Equal_l1 s11 s22 ag1 x118 r := by
  unfold slices_Equal_l1_ev at h
  unfold slices_Equal_l1
  refine ⟨fun g149 => ?_, fun g149 => ?_⟩
  · rw [if_pos g149] at h
    obtain ⟨g150, h⟩ := if_ok h
    refine ⟨g150, ?_⟩
    obtain ⟨q151, g151, h⟩ := bind_ok h
    refine ⟨q151, g151, ?_⟩
    obtain ⟨g152, h⟩ := if_ok h
    refine ⟨g152, ?_⟩
    obtain ⟨q153, g153, h⟩ := bind_ok h
    refine ⟨q153, g153, ?_⟩
    refine ⟨fun g154 => ?_, fun g154 => ?_⟩
    · rw [if_pos g154] at h
      exact (Option.some.inj h).symm
    · rw [if_neg g154] at h
      obtain ⟨g155, h⟩ := if_ok h
      refine ⟨g155, ?_⟩
      exact hagag1 _ h
  · rw [if_neg g149] at h
    exact (Option.some.inj h).symm
def slices_Equal_ev (fuel : Nat) (s11 : List (Int × Int × Int × Int × Int × Int × (Arr 4 (UInt64)))) (s22 : List (Int × Int × Int × Int × Int × Int × (Arr 4 (UInt64)))) : Option (Bool) :=
  (if ¬ ((s11.length : Int) = (s22.length : Int)) then some false else (loopE (fun ag1e s => slices_Equal_l1_ev fuel s11 s22 ag1e s) fuel 0))
theorem slices_Equal_ok {fuel : Nat} {s11 : List (Int × Int × Int × Int × Int × Int × (Arr 4 (UInt64)))} {s22 : List (Int × Int × Int × Int × Int × Int × (Arr 4 (UInt64)))} {r : Bool} (h : slices_Equal_ev fuel s11 s22 = some r) : slices_Equal_R s11 s22 r := by
  unfold slices_Equal_ev at h
  unfold slices_Equal_R
  refine ⟨fun g156 => ?_, fun g156 => ?_⟩
  · rw [if_pos g156] at h
    exact (Option.some.inj h).symm
  · rw [if_neg g156] at h
    refine loopE_ok ?_ h
    intro ae ag s hag h
    exact slices_Equal_l1_ok hag h
set_option maxHeartbeats 4000000 in
theorem slices_Equal_con (s11 : List (Int × Int × Int × Int × Int × Int × (Arr 4 (UInt64)))) (s22 : List (Int × Int × Int × Int × Int × Int × (Arr 4 (UInt64)))) (r : Bool) (h : slices_Equal_R s11 s22 r) : Con Try.prog 17 [.sl 10 none (List.map E_palinode_api_Node s11), .sl 10 none (List.map E_palinode_api_Node s22)] [] [] (Ret (.v (.bool r))) := by
  refine xenter Try.func17 rfl rfl fun g hg => ?_
  simp only [Try.ntmps17, slots]
  refine xseq ?_
  refine xregion ?_
  refine xvalP (pv_assign rfl) rfl rfl ?_
  refine xnil ?_
  refine xthen ?_
  refine xseq ?_
  refine xseq ?_
  refine xregion ?_
  refine xvalP (pv_move rfl) rfl rfl ?_
  refine xvalP (pv_lenM UndC.h rfl) rfl rfl ?_
  refine xvalP (pv_move rfl) rfl rfl ?_
  refine xvalP (pv_lenM UndC.h rfl) rfl rfl ?_
  refine xvalP (pv_bin2 rfl rfl rfl) rfl rfl ?_
  refine xnil ?_
  refine xthen ?_
  by_cases hp10 : ¬ ((s11.length : Int) = (s22.length : Int))
  · replace h := h.1 hp10
    refine xcondT' (not_t (decide_eq_false hp10)) rfl ?_
    refine xseq ?_
    refine xregion ?_
    refine xvalP (pv_assign rfl) rfl rfl ?_
    refine xnil ?_
    refine xthen ?_
    refine xretc ?_
    refine xthen_ret ?_
    replace h := h.symm
    subst h
    exact xret1 hg rfl rfl (.refl _) (SubM.of (.nil _) (.nil _)) ⟨rfl, rfl, rfl⟩
  · replace h := h.2 hp10
    refine xcondF' (not_f (decide_eq_true (Decidable.of_not_not hp10))) rfl ?_
    refine xskipc ?_
    refine xthen ?_
    refine xseq ?_
    refine xseq ?_
    refine xregion ?_
    refine xvalP (pv_move rfl) rfl rfl ?_
    refine xvalP (pv_lenM UndC.h rfl) rfl rfl ?_
    refine xvalP (pv_move rfl) rfl rfl ?_
    refine xnil ?_
    refine xthen ?_
    refine xblock ?_
    obtain ⟨Inv, ⟨m0, hI⟩, hS⟩ := h
    refine xloop (fun σ m => ∃ (x118 : Int), Inv x118 m ∧ σ = ⟨[(0, .sl 10 none (List.map E_palinode_api_Node s11)), (1, .sl 10 none (List.map E_palinode_api_Node s22)), (12, .v (.int .i64 ((s11.length : Int)))), (13, .v (.int .i64 x118))], [], []⟩) ⟨0, hI, rfl⟩ ⟨(.cons rfl (.refl _) (.cons rfl (.refl _) (.cons rfl (.refl _) (.cons rfl (.refl _) (.nil _))))), (SubM.of (.nil _) (.nil _))⟩ ?_
    rintro _ m ⟨x118, hI, rfl⟩
    obtain ⟨ag1, hag1, h⟩ : ∃ ag, (∀ s', ag s' → ∃ m', m' < m ∧ Inv s' m') ∧ slices_Equal_l1 s11 s22 ag x118 r := ⟨_, fun _ h => h, hS x118 _ hI⟩
    clear hS hI
    refine xseq ?_
    refine xregion ?_
    refine xvalP (pv_bin2 rfl rfl rfl) rfl rfl ?_
    refine xnil ?_
    refine xthen ?_
    refine xseq ?_
    by_cases hp147 : x118 < (s11.length : Int)
    · replace h := h.1 hp147
      refine xcondT' (decide_eq_true hp147) rfl ?_
      refine xskipc ?_
      refine xthen ?_
      refine xseq ?_
      refine xblock ?_
      refine xseq ?_
      refine xregion ?_
      refine xvalP (pv_move rfl) rfl rfl ?_
      refine xvalP (pv_assign rfl) rfl rfl ?_
      refine xnil ?_
      refine xthen ?_
      refine xseq ?_
      refine xregionD (m := 9) (by kernel_rfl) rfl ?_
      obtain ⟨h165a, h⟩ := h
      obtain ⟨y164, h165b, h⟩ := h
      obtain ⟨h167a, h⟩ := h
      obtain ⟨y166, h167b, h⟩ := h
      refine xpval 0 rfl (pv_move rfl) rfl rfl (by kernel_rfl) (by kernel_rfl) (by kernel_rfl) (fun _ _ _ _ h => h) ?_
      refine xpval 1 rfl (pv_move rfl) rfl rfl (by kernel_rfl) (by kernel_rfl) (by kernel_rfl) (fun _ _ _ _ h => h) ?_
      refine xpval 2 rfl (pv_indexAddrM h165a h165b UndC.h ShpC.h rfl rfl) rfl rfl (by kernel_rfl) (by kernel_rfl) (by kernel_rfl) (fun _ _ _ _ h => h) ?_
      refine xpval 4 rfl (pv_move rfl) rfl rfl (by kernel_rfl) (by kernel_rfl) (by kernel_rfl) (fun _ _ _ _ h => h) ?_
      refine xpval 5 rfl (pv_move rfl) rfl rfl (by kernel_rfl) (by kernel_rfl) (by kernel_rfl) (fun _ _ _ _ h => h) ?_
      refine xpval 6 rfl (pv_indexAddrM h167a h167b UndC.h ShpC.h rfl rfl) rfl rfl (by kernel_rfl) (by kernel_rfl) (by kernel_rfl) (fun _ _ _ _ h => h) ?_
      refine xpvalE 3 [7] rfl (qv_loadEP ([.v (.int .i64 y164.1), .v (.int .i64 y164.2.1), .v (.int .i64 y164.2.2.1), .v (.int .i64 y164.2.2.2.1), .v (.int .i64 y164.2.2.2.2.1), .v (.int .i64 y164.2.2.2.2.2.1)] ++ (List.map ew y164.2.2.2.2.2.2.l).flatten) [] (by first | rfl | exact (List.append_nil _).symm | exact List.append_nil _ | exact List.append_assoc _ _ _ | exact (List.append_assoc _ _ _).symm | exact congrArg _ (List.append_nil _).symm | exact congrArg _ (List.append_nil _) | (simp; done) | (simp [cellsS]; done)) (by first | rfl | exact seg_lenE (by rfl) | exact len_app rfl (seg_lenE (by rfl)) (by rfl) | exact len_app (seg_lenE (by rfl)) rfl (by rfl) | exact len_app rfl (len_app (seg_lenE (by rfl)) rfl (by rfl)) (by rfl) | (simp only [seg_len, cellsS, List.length_append, List.length_cons, List.length_nil]; done) | (simp only [seg_len, cellsS, List.length_append, List.length_cons, List.length_nil]; rfl)) (part_all (by first | rfl | exact seg_lenE (by rfl) | exact len_app rfl (seg_lenE (by rfl)) (by rfl) | exact len_app (seg_lenE (by rfl)) rfl (by rfl) | exact len_app rfl (len_app (seg_lenE (by rfl)) rfl (by rfl)) (by rfl) | (simp only [seg_len, cellsS, List.length_append, List.length_cons, List.length_nil]; done) | (simp only [seg_len, cellsS, List.length_append, List.length_cons, List.length_nil]; rfl))) ShpC.h rfl) rfl rfl (by kernel_rfl) (by kernel_rfl) (by kernel_rfl) (fun _ _ _ _ h => h) ?_
      refine xpvalE 7 [] rfl (qv_loadEP ([.v (.int .i64 y166.1), .v (.int .i64 y166.2.1), .v (.int .i64 y166.2.2.1), .v (.int .i64 y166.2.2.2.1), .v (.int .i64 y166.2.2.2.2.1), .v (.int .i64 y166.2.2.2.2.2.1)] ++ (List.map ew y166.2.2.2.2.2.2.l).flatten) [] (by first | rfl | exact (List.append_nil _).symm | exact List.append_nil _ | exact List.append_assoc _ _ _ | exact (List.append_assoc _ _ _).symm | exact congrArg _ (List.append_nil _).symm | exact congrArg _ (List.append_nil _) | (simp; done) | (simp [cellsS]; done)) (by first | rfl | exact seg_lenE (by rfl) | exact len_app rfl (seg_lenE (by rfl)) (by rfl) | exact len_app (seg_lenE (by rfl)) rfl (by rfl) | exact len_app rfl (len_app (seg_lenE (by rfl)) rfl (by rfl)) (by rfl) | (simp only [seg_len, cellsS, List.length_append, List.length_cons, List.length_nil]; done) | (simp only [seg_len, cellsS, List.length_append, List.length_cons, List.length_nil]; rfl)) (part_all (by first | rfl | exact seg_lenE (by rfl) | exact len_app rfl (seg_lenE (by rfl)) (by rfl) | exact len_app (seg_lenE (by rfl)) rfl (by rfl) | exact len_app rfl (len_app (seg_lenE (by rfl)) rfl (by rfl)) (by rfl) | (simp only [seg_len, cellsS, List.length_append, List.length_cons, List.length_nil]; done) | (simp only [seg_len, cellsS, List.length_append, List.length_cons, List.length_nil]; rfl))) ShpC.h rfl) rfl rfl (by kernel_rfl) (by kernel_rfl) (by kernel_rfl) (fun _ _ _ _ h => h) ?_
      refine xpval 8 rfl (pv_neAgg (f := E_palinode_api_Node) (a := y164) (b := y166) eqc_42 (by decide) (by kernel_rfl) (by first | rfl | exact congrArg (fun q => some (Sd.agg q)) (by first | rfl | exact (List.append_nil _).symm | exact List.append_nil _ | exact List.append_assoc _ _ _ | exact (List.append_assoc _ _ _).symm | exact congrArg _ (List.append_nil _).symm | exact congrArg _ (List.append_nil _) | (simp; done) | (simp [cellsS]; done))) (by first | rfl | exact congrArg (fun q => some (Sd.agg q)) (by first | rfl | exact (List.append_nil _).symm | exact List.append_nil _ | exact List.append_assoc _ _ _ | exact (List.append_assoc _ _ _).symm | exact congrArg _ (List.append_nil _).symm | exact congrArg _ (List.append_nil _) | (simp; done) | (simp [cellsS]; done)))) rfl rfl (by kernel_rfl) (by kernel_rfl) (by kernel_rfl) (fun _ _ _ _ h => h) ?_
      refine xpdone (by kernel_rfl) ?_
      refine xthen ?_
      by_cases hp169 : ¬ ((y164 : Int × Int × Int × Int × Int × Int × (Arr 4 (UInt64))) = y166)
      · replace h := h.1 hp169
        refine xcondT' (not_t (decide_eq_false hp169)) rfl ?_
        refine xseq ?_
        refine xregion ?_
        refine xvalP (pv_assign rfl) rfl rfl ?_
        refine xnil ?_
        refine xthen ?_
        refine xretc ?_
        refine xin_ret ?_
        refine xthen_ret ?_
        refine xthen_ret ?_
        refine xin_ret ?_
        refine xthen_ret ?_
        replace h := h.symm
        subst h
        exact xret1 hg rfl rfl (.refl _) (SubM.of (.nil _) (.nil _)) ⟨rfl, rfl, rfl⟩
      · replace h := h.2 hp169
        refine xcondF' (not_f (decide_eq_true (Decidable.of_not_not hp169))) rfl ?_
        refine xskipc ?_
        refine xin_normal ?_
        refine xthen ?_
        refine xregion ?_
        obtain ⟨h170, h⟩ := h
        refine xvalP (pv_addI h170 rfl rfl) rfl rfl ?_
        refine xvalP (pv_move rfl) rfl rfl ?_
        refine xnil ?_
        obtain ⟨m', hm, hI⟩ := hag1 _ h
        exact xagain ⟨(x118 + 1), hI, rfl⟩ hm ⟨(.cons rfl (.refl _) (.cons rfl (.refl _) (.cons rfl (.refl _) (.cons rfl (.refl _) (.nil _))))), (SubM.of (.nil _) (.nil _))⟩
    · replace h := h.2 hp147
      refine xcondF' (decide_eq_false hp147) rfl ?_
      refine xexit ?_
      refine xthen_exit ?_
      refine xthen_exit ?_
      refine xin_same rfl ?_
      refine xthen ?_
      refine xseq ?_
      refine xregion ?_
      refine xvalP (pv_assign rfl) rfl rfl ?_
      refine xnil ?_
      refine xthen ?_
      refine xretc ?_
      replace h := h.symm
      subst h
      exact xret1 hg rfl rfl (.refl _) (SubM.of (.nil _) (.nil _)) ⟨rfl, rfl, rfl⟩
/-- tree.Same -/
def tree_Same_R (a1 : (List (Int × Int × Int × Int × Int × Int × (Arr 4 (UInt64)))) × Int) (bv2 : (List (Int × Int × Int × Int × Int × Int × (Arr 4 (UInt64)))) × Int) (r : Bool) : Prop :=
  ((a1.2 = bv2.2 → ∃ y10 : Bool, slices_Equal_R a1.1 bv2.1 y10 ∧ r = y10) ∧ (¬ (a1.2 = bv2.2) → r = false))
def tree_Same_ev (fuel : Nat) (a1 : (List (Int × Int × Int × Int × Int × Int × (Arr 4 (UInt64)))) × Int) (bv2 : (List (Int × Int × Int × Int × Int × Int × (Arr 4 (UInt64)))) × Int) : Option (Bool) :=
  (if a1.2 = bv2.2 then ((slices_Equal_ev fuel a1.1 bv2.1).bind fun y10 => some y10) else some false)
theorem tree_Same_ok {fuel : Nat} {a1 : (List (Int × Int × Int × Int × Int × Int × (Arr 4 (UInt64)))) × Int} {bv2 : (List (Int × Int × Int × Int × Int × Int × (Arr 4 (UInt64)))) × Int} {r : Bool} (h : tree_Same_ev fuel a1 bv2 = some r) : tree_Same_R a1 bv2 r := by
  unfold tree_Same_ev at h
  unfold tree_Same_R
  refine ⟨fun g157 => ?_, fun g157 => ?_⟩
  · rw [if_pos g157] at h
    obtain ⟨q158, g158, h⟩ := bind_ok h
    refine ⟨q158, slices_Equal_ok g158, ?_⟩
    exact (Option.some.inj h).symm
  · rw [if_neg g157] at h
    exact (Option.some.inj h).symm
set_option maxHeartbeats 4000000 in
theorem tree_Same_con (a1 : (List (Int × Int × Int × Int × Int × Int × (Arr 4 (UInt64)))) × Int) (bv2 : (List (Int × Int × Int × Int × Int × Int × (Arr 4 (UInt64)))) × Int) (r : Bool) (h : tree_Same_R a1 bv2 r) : Con Try.prog 6 [.agg [.sl 10 none (List.map E_palinode_api_Node a1.1), .v (.int .i64 a1.2)], .agg [.sl 10 none (List.map E_palinode_api_Node bv2.1), .v (.int .i64 bv2.2)]] [] [] (Ret (.v (.bool r))) := by
  refine xenter Try.func6 rfl rfl fun g hg => ?_
  simp only [Try.ntmps6, slots]
  refine xseq ?_
  refine xregion ?_
  refine xbox rfl rfl rfl rfl fun b2 => ?_
  refine xbox rfl rfl rfl rfl fun b3 => ?_
  refine xvalP (pv_assign rfl) rfl rfl ?_
  refine xnil ?_
  refine xthen ?_
  refine xseq ?_
  refine xregion ?_
  refine xvalP (qv_fieldAddrB FldC.h rfl) rfl rfl ?_
  refine xval (qv_loadB 1 ShpC.h rfl rfl rfl rfl) rfl rfl ?_
  refine xvalP (qv_fieldAddrB FldC.h rfl) rfl rfl ?_
  refine xval (qv_loadB 0 ShpC.h rfl rfl rfl rfl) rfl rfl ?_
  refine xvalP (pv_bin2 rfl rfl rfl) rfl rfl ?_
  refine xvalP (pv_move rfl) rfl rfl ?_
  by_cases hp8 : a1.2 = bv2.2
  · replace h := h.1 hp8
    refine xsetB 10 (decide_eq_true hp8) rfl ?_
    refine xvalP (qv_fieldAddrB FldC.h rfl) rfl rfl ?_
    refine xval (qv_loadB 1 ShpC.h rfl rfl rfl rfl) rfl rfl ?_
    refine xvalP (qv_fieldAddrB FldC.h rfl) rfl rfl ?_
    refine xval (qv_loadB 0 ShpC.h rfl rfl rfl rfl) rfl rfl ?_
    obtain ⟨y10, h9, h⟩ := h
    refine xcall0 (slices_Equal_con a1.1 bv2.1 _ h9) Try.func17 (by kernel_rfl) rfl (.cons rfl (.refl _) (.cons rfl (.refl _) .nil)) rfl rfl ?_
    refine xvalP (pv_pick rfl rfl) rfl rfl ?_
    refine xvalP (pv_assign rfl) rfl rfl ?_
    refine xnil ?_
    refine xthen ?_
    refine xretc ?_
    replace h := h.symm
    subst h
    exact xret1 hg rfl rfl (.refl _) (SubM.of (.nil _) (.nil _)) ⟨rfl, rfl, rfl⟩
  · replace h := h.2 hp8
    refine xsetB 10 (decide_eq_false hp8) rfl ?_
    refine xskip rfl rfl ?_
    refine xskip rfl rfl ?_
    refine xskip rfl rfl ?_
    refine xskip rfl rfl ?_
    refine xskip rfl rfl ?_
    refine xvalP (pv_pick rfl rfl) rfl rfl ?_
    refine xvalP (pv_assign rfl) rfl rfl ?_
    refine xnil ?_
    refine xthen ?_
    refine xretc ?_
    replace h := h.symm
    subst h
    exact xret1 hg rfl rfl (.refl _) (SubM.of (.nil _) (.nil _)) ⟨rfl, rfl, rfl⟩
/-- palinodelaw06.awake -/
def palinodelaw06_awake_j1 (x27 : Bool) (r : Bool) : Prop :=
  r = x27
def palinodelaw06_awake_R (r : Bool) : Prop :=
  ∃ y2 : Int × ((List (Int × Int × Int × Int × Int × Int × (Arr 4 (UInt64)))) × Int), tree_Builder_Set_R (([] : List (Int × Int × Int × Int × Int × Int × (Arr 4 (UInt64)))), 0) (Arr.set (Arr.rep 4 (0 : UInt64)) 0 (2 : UInt64)) y2 ∧ ∃ y5 : Int × ((List (Int × Int × Int × Int × Int × Int × (Arr 4 (UInt64)))) × Int), tree_Builder_Set_R (y2.2.1, y2.2.2) (Arr.set (Arr.rep 4 (0 : UInt64)) 0 (4 : UInt64)) y5 ∧ ∃ y8 : Int × ((List (Int × Int × Int × Int × Int × Int × (Arr 4 (UInt64)))) × Int), tree_Builder_Cat_R (y5.2.1, y5.2.2) ([y2.1, y5.1]) y8 ∧ ∃ y11 : ((List (Int × Int × Int × Int × Int × Int × (Arr 4 (UInt64)))) × Int) × Bool, tree_Builder_Re_R (y8.2.1, y8.2.2) y8.1 y11 ∧ ((y8.1 = 2 → ((y11.2 = true → (((y11.1.1.length : Int) = 3 → ∃ y35 : Int, tree_Least_R y11.1 y35 ∧ ((y35 = 2 → ∃ y39 : Bool, tree_Right_R y11.1 y39 ∧ ((y39 = true → ∃ y42 : Bool, tree_Same_R y11.1 y11.1 y42 ∧ palinodelaw06_awake_j1 y42 r) ∧ (¬ (y39 = true) → palinodelaw06_awake_j1 false r))) ∧ (¬ (y35 = 2) → palinodelaw06_awake_j1 false r))) ∧ (¬ ((y11.1.1.length : Int) = 3) → palinodelaw06_awake_j1 false r))) ∧ (¬ (y11.2 = true) → palinodelaw06_awake_j1 false r))) ∧ (¬ (y8.1 = 2) → palinodelaw06_awake_j1 false r))
def palinodelaw06_awake_j1_ev (fuel : Nat) (x27 : Bool) : Option (Bool) :=
  some x27
theorem palinodelaw06_awake_j1_ok {fuel : Nat} {x27 : Bool} {r : Bool} (h : palinodelaw06_awake_j1_ev fuel x27 = some r) : palinodelaw06_awake_j1 x27 r := by
  unfold palinodelaw06_awake_j1_ev at h
  unfold palinodelaw06_awake_j1
  exact (Option.some.inj h).symm
def palinodelaw06_awake_ev (fuel : Nat) : Option (Bool) :=
  ((tree_Builder_Set_ev fuel (([] : List (Int × Int × Int × Int × Int × Int × (Arr 4 (UInt64)))), 0) (Arr.set (Arr.rep 4 (0 : UInt64)) 0 (2 : UInt64))).bind fun y2 => ((tree_Builder_Set_ev fuel (y2.2.1, y2.2.2) (Arr.set (Arr.rep 4 (0 : UInt64)) 0 (4 : UInt64))).bind fun y5 => ((tree_Builder_Cat_ev fuel (y5.2.1, y5.2.2) ([y2.1, y5.1])).bind fun y8 => ((tree_Builder_Re_ev fuel (y8.2.1, y8.2.2) y8.1).bind fun y11 => (if y8.1 = 2 then (if y11.2 = true then (if (y11.1.1.length : Int) = 3 then ((tree_Least_ev fuel y11.1).bind fun y35 => (if y35 = 2 then ((tree_Right_ev fuel y11.1).bind fun y39 => (if y39 = true then ((tree_Same_ev fuel y11.1 y11.1).bind fun y42 => palinodelaw06_awake_j1_ev fuel y42) else palinodelaw06_awake_j1_ev fuel false)) else palinodelaw06_awake_j1_ev fuel false)) else palinodelaw06_awake_j1_ev fuel false) else palinodelaw06_awake_j1_ev fuel false) else palinodelaw06_awake_j1_ev fuel false)))))
theorem palinodelaw06_awake_ok {fuel : Nat} {r : Bool} (h : palinodelaw06_awake_ev fuel = some r) : palinodelaw06_awake_R r := by
  unfold palinodelaw06_awake_ev at h
  unfold palinodelaw06_awake_R
  obtain ⟨q159, g159, h⟩ := bind_ok h
  refine ⟨q159, tree_Builder_Set_ok g159, ?_⟩
  obtain ⟨q160, g160, h⟩ := bind_ok h
  refine ⟨q160, tree_Builder_Set_ok g160, ?_⟩
  obtain ⟨q161, g161, h⟩ := bind_ok h
  refine ⟨q161, tree_Builder_Cat_ok g161, ?_⟩
  obtain ⟨q162, g162, h⟩ := bind_ok h
  refine ⟨q162, tree_Builder_Re_ok g162, ?_⟩
  refine ⟨fun g163 => ?_, fun g163 => ?_⟩
  · rw [if_pos g163] at h
    refine ⟨fun g164 => ?_, fun g164 => ?_⟩
    · rw [if_pos g164] at h
      refine ⟨fun g165 => ?_, fun g165 => ?_⟩
      · rw [if_pos g165] at h
        obtain ⟨q166, g166, h⟩ := bind_ok h
        refine ⟨q166, tree_Least_ok g166, ?_⟩
        refine ⟨fun g167 => ?_, fun g167 => ?_⟩
        · rw [if_pos g167] at h
          obtain ⟨q168, g168, h⟩ := bind_ok h
          refine ⟨q168, tree_Right_ok g168, ?_⟩
          refine ⟨fun g169 => ?_, fun g169 => ?_⟩
          · rw [if_pos g169] at h
            obtain ⟨q170, g170, h⟩ := bind_ok h
            refine ⟨q170, tree_Same_ok g170, ?_⟩
            exact palinodelaw06_awake_j1_ok h
          · rw [if_neg g169] at h
            exact palinodelaw06_awake_j1_ok h
        · rw [if_neg g167] at h
          exact palinodelaw06_awake_j1_ok h
      · rw [if_neg g165] at h
        exact palinodelaw06_awake_j1_ok h
    · rw [if_neg g164] at h
      exact palinodelaw06_awake_j1_ok h
  · rw [if_neg g163] at h
    exact palinodelaw06_awake_j1_ok h
set_option maxHeartbeats 4000000 in
theorem palinodelaw06_awake_con (r : Bool) (h : palinodelaw06_awake_R r) : Con Try.prog 5 [] [] [] (Ret (.v (.bool r))) := by
  refine xenter Try.func5 rfl rfl fun g hg => ?_
  simp only [Try.ntmps5, slots]
  refine xseq ?_
  refine xregion ?_
  refine xvalP (pv_assign rfl) rfl rfl ?_
  refine xnil ?_
  refine xthen ?_
  refine xseq ?_
  refine xregion ?_
  refine xalloc InfC.h rfl rfl fun b1 => ?_
  refine xnil ?_
  refine xthen ?_
  refine xseq ?_
  refine xregion ?_
  refine xvalP (pv_buildAC (cs := ((List.map ew ((Arr.set (Arr.rep 4 (0 : UInt64)) 0 (2 : UInt64))).l).flatten)) UndC.h ShpC.h InfC.h rfl (by rfl)) rfl rfl ?_
  obtain ⟨y2, h1, h⟩ := h
  refine xcallF (Fb := []) (Ft := []) (tree_Builder_Set_con (([] : List (Int × Int × Int × Int × Int × Int × (Arr 4 (UInt64)))), 0) (Arr.set (Arr.rep 4 (0 : UInt64)) 0 (2 : UInt64)) b1 none _ h1) Try.func10 (by kernel_rfl) rfl (.cons rfl (.refl _) (.cons rfl (.refl _) .nil)) (by exact (SubM.of (by repeat (first | with_reducible exact SubB.refl _ | exact SubB.nil _ | refine SubB.keep rfl rfl (by first | with_reducible exact WkL.refl _ | ((repeat (first | exact WkL.nil | refine WkL.cons (by first | with_reducible exact Wk.refl _ | exact Wk.nil_own _ | exact Wk.nil_pl _ | with_reducible exact Wk.tok _ _ _ | exact Wk.tok _ _ _ | exact Wk.eq (by first | rfl | (simp []; done) | (simp []; omega))) ?_)); done) | exact WkL.refl _) ?_ | refine SubB.drop ?_)) (by repeat (first | exact SubT.nil _ | refine SubT.add ?_ | (refine SubT.keep ?_ ?_; focus (first | with_reducible rfl | (simp []; done))) | refine SubT.drop ?_)))) rfl rfl ?_
  rintro _ _ _ ⟨i3, rfl, rfl, rfl⟩
  simp only [List.nil_append, List.cons_append]
  refine xvalP (pv_buildAC (cs := ((List.map ew ((Arr.set (Arr.rep 4 (0 : UInt64)) 0 (4 : UInt64))).l).flatten)) UndC.h ShpC.h InfC.h rfl (by rfl)) rfl rfl ?_
  obtain ⟨y5, h4, h⟩ := h
  refine xcallF (Fb := []) (Ft := []) (tree_Builder_Set_con (y2.2.1, y2.2.2) (Arr.set (Arr.rep 4 (0 : UInt64)) 0 (4 : UInt64)) b1 i3 _ h4) Try.func10 (by kernel_rfl) rfl (.cons rfl (.refl _) (.cons rfl (.refl _) .nil)) (by exact (SubM.of (by repeat (first | with_reducible exact SubB.refl _ | exact SubB.nil _ | refine SubB.keep rfl rfl (by first | with_reducible exact WkL.refl _ | ((repeat (first | exact WkL.nil | refine WkL.cons (by first | with_reducible exact Wk.refl _ | exact Wk.nil_own _ | exact Wk.nil_pl _ | with_reducible exact Wk.tok _ _ _ | exact Wk.tok _ _ _ | exact Wk.eq (by first | rfl | (simp []; done) | (simp []; omega))) ?_)); done) | exact WkL.refl _) ?_ | refine SubB.drop ?_)) (by repeat (first | exact SubT.nil _ | refine SubT.add ?_ | (refine SubT.keep ?_ ?_; focus (first | with_reducible rfl | (simp []; done))) | refine SubT.drop ?_)))) rfl rfl ?_
  rintro _ _ _ ⟨i6, rfl, rfl, rfl⟩
  simp only [List.nil_append, List.cons_append]
  refine xbuildSliceM (f := ei) [y2.1, y5.1] UndC.h InfC.h rfl rfl (by first | exact wkR_of rfl | (repeat (first | exact WkR.nil | refine WkR.cons (by (repeat (first | exact WkL.nil | refine WkL.cons (by first | with_reducible exact Wk.refl _ | exact Wk.nil_own _ | exact Wk.nil_pl _ | with_reducible exact Wk.tok _ _ _ | exact Wk.tok _ _ _ | exact Wk.eq (by first | rfl | (simp []; done) | (simp []; omega))) ?_))) ?_))) rfl rfl rfl rfl fun s9 => ?_
  obtain ⟨y8, h7, h⟩ := h
  refine xcallF (Fb := []) (Ft := [⟨(some (s9, 2)), 3, 1, ([y2.1, y5.1]).length⟩]) (tree_Builder_Cat_con (y5.2.1, y5.2.2) ([y2.1, y5.1]) b1 i6 _ h7) Try.func11 (by kernel_rfl) rfl (.cons rfl (.refl _) (.cons rfl (.tok _ _ _) .nil)) (by refine SubM.trans (SubM.mvT 1 rfl) ?_; (simp only [List.eraseIdx]); exact (SubM.of (by repeat (first | with_reducible exact SubB.refl _ | exact SubB.nil _ | refine SubB.keep rfl rfl (by first | with_reducible exact WkL.refl _ | ((repeat (first | exact WkL.nil | refine WkL.cons (by first | with_reducible exact Wk.refl _ | exact Wk.nil_own _ | exact Wk.nil_pl _ | with_reducible exact Wk.tok _ _ _ | exact Wk.tok _ _ _ | exact Wk.eq (by first | rfl | (simp []; done) | (simp []; omega))) ?_)); done) | exact WkL.refl _) ?_ | refine SubB.drop ?_)) (by repeat (first | exact SubT.nil _ | refine SubT.add ?_ | (refine SubT.keep ?_ ?_; focus (first | with_reducible rfl | (simp []; done))) | refine SubT.drop ?_)))) rfl rfl ?_
  rintro _ _ _ ⟨i9, rfl, rfl, rfl⟩
  simp only [List.nil_append, List.cons_append]
  refine xvalP (pv_assign rfl) rfl rfl ?_
  refine xnil ?_
  refine xthen ?_
  refine xseq ?_
  refine xregion ?_
  refine xvalP (pv_move rfl) rfl rfl ?_
  obtain ⟨y11, h10, h⟩ := h
  refine xcallF (Fb := []) (Ft := [⟨(some (s9, 2)), 3, 1, ([y2.1, y5.1]).length⟩]) (tree_Builder_Re_con (y8.2.1, y8.2.2) y8.1 b1 i9 _ h10) Try.func13 (by kernel_rfl) rfl (.cons rfl (.refl _) (.cons rfl (.refl _) .nil)) (by exact (SubM.of (by repeat (first | with_reducible exact SubB.refl _ | exact SubB.nil _ | refine SubB.keep rfl rfl (by first | with_reducible exact WkL.refl _ | ((repeat (first | exact WkL.nil | refine WkL.cons (by first | with_reducible exact Wk.refl _ | exact Wk.nil_own _ | exact Wk.nil_pl _ | with_reducible exact Wk.tok _ _ _ | exact Wk.tok _ _ _ | exact Wk.eq (by first | rfl | (simp []; done) | (simp []; omega))) ?_)); done) | exact WkL.refl _) ?_ | refine SubB.drop ?_)) (by repeat (first | exact SubT.nil _ | refine SubT.add ?_ | (refine SubT.keep ?_ ?_; focus (first | with_reducible rfl | (simp []; done))) | refine SubT.drop ?_)))) rfl rfl ?_
  rintro _ _ _ ⟨rfl, rfl, rfl⟩
  simp only [List.nil_append, List.cons_append]
  refine xvalP (pv_move rfl) rfl rfl ?_
  refine xvalP (pv_extract rfl rfl) rfl rfl ?_
  refine xvalP (pv_extract rfl rfl) rfl rfl ?_
  refine xalloc InfC.h rfl rfl fun b3 => ?_
  refine xstore 0 ShpC.h rfl rfl rfl rfl rfl rfl rfl ?_
  refine xvalP (pv_assign rfl) rfl rfl ?_
  refine xnil ?_
  refine xthen ?_
  refine xseqM (fun σ => ∃ (x27 : Bool), palinodelaw06_awake_j1 x27 r ∧ σ = ⟨[(0, .v (.bool x27))], [], []⟩) ?_ ?_
  · refine xregion ?_
    refine xvalP (pv_move rfl) rfl rfl ?_
    refine xvalP (pv_bin2 rfl rfl rfl) rfl rfl ?_
    refine xvalP (pv_move rfl) rfl rfl ?_
    by_cases hp29 : y8.1 = 2
    · replace h := h.1 hp29
      refine xsetB 18 (decide_eq_true hp29) rfl ?_
      refine xvalP (pv_move rfl) rfl rfl ?_
      refine xvalP (pv_pick rfl rfl) rfl rfl ?_
      refine xvalP (pv_move rfl) rfl rfl ?_
      by_cases hp30 : y11.2 = true
      · replace h := h.1 hp30
        refine xsetB 21 hp30 rfl ?_
        refine xvalP (qv_fieldAddrB FldC.h rfl) rfl rfl ?_
        refine xval (qv_loadB 0 ShpC.h rfl rfl rfl rfl) rfl rfl ?_
        refine xvalP (pv_lenM UndC.h rfl) rfl rfl ?_
        refine xvalP (pv_bin2 rfl rfl rfl) rfl rfl ?_
        refine xvalP (pv_pick rfl rfl) rfl rfl ?_
        refine xvalP (pv_move rfl) rfl rfl ?_
        by_cases hp33 : (y11.1.1.length : Int) = 3
        · replace h := h.1 hp33
          refine xsetB 27 (decide_eq_true hp33) rfl ?_
          refine xval (qv_loadB 0 ShpC.h rfl rfl rfl rfl) rfl rfl ?_
          obtain ⟨y35, h34, h⟩ := h
          refine xcall0 (tree_Least_con y11.1 _ h34) Try.func15 (by kernel_rfl) rfl (.cons rfl (.refl _) .nil) rfl rfl ?_
          refine xvalP (pv_bin2 rfl rfl rfl) rfl rfl ?_
          refine xvalP (pv_pick rfl rfl) rfl rfl ?_
          refine xvalP (pv_move rfl) rfl rfl ?_
          by_cases hp37 : y35 = 2
          · replace h := h.1 hp37
            refine xsetB 32 (decide_eq_true hp37) rfl ?_
            refine xval (qv_loadB 0 ShpC.h rfl rfl rfl rfl) rfl rfl ?_
            obtain ⟨y39, h38, h⟩ := h
            refine xcall0 (tree_Right_con y11.1 _ h38) Try.func16 (by kernel_rfl) rfl (.cons rfl (.refl _) .nil) rfl rfl ?_
            refine xvalP (pv_pick rfl rfl) rfl rfl ?_
            refine xvalP (pv_move rfl) rfl rfl ?_
            by_cases hp40 : y39 = true
            · replace h := h.1 hp40
              refine xsetB 36 hp40 rfl ?_
              refine xval (qv_loadB 0 ShpC.h rfl rfl rfl rfl) rfl rfl ?_
              refine xval (qv_loadB 0 ShpC.h rfl rfl rfl rfl) rfl rfl ?_
              obtain ⟨y42, h41, h⟩ := h
              refine xcall0 (tree_Same_con y11.1 y11.1 _ h41) Try.func6 (by kernel_rfl) rfl (.cons rfl (.refl _) (.cons rfl (.refl _) .nil)) rfl rfl ?_
              refine xvalP (pv_pick rfl rfl) rfl rfl ?_
              refine xvalP (pv_assign rfl) rfl rfl ?_
              refine xnil ?_
              exact xmeet ⟨y42, h, rfl⟩ ⟨(.cons rfl (.refl _) (.nil _)), (SubM.of (.nil _) (.nil _))⟩
            · replace h := h.2 hp40
              refine xsetB 36 (b_f hp40) rfl ?_
              refine xskip rfl rfl ?_
              refine xskip rfl rfl ?_
              refine xskip rfl rfl ?_
              refine xvalP (pv_pick rfl rfl) rfl rfl ?_
              refine xvalP (pv_assign rfl) rfl rfl ?_
              refine xnil ?_
              exact xmeet ⟨false, h, rfl⟩ ⟨(.cons rfl (.refl _) (.nil _)), (SubM.of (.nil _) (.nil _))⟩
          · replace h := h.2 hp37
            refine xsetB 32 (decide_eq_false hp37) rfl ?_
            refine xskip rfl rfl ?_
            refine xskip rfl rfl ?_
            refine xvalP (pv_pick rfl rfl) rfl rfl ?_
            refine xvalP (pv_move rfl) rfl rfl ?_
            refine xskip rfl rfl ?_
            refine xskip rfl rfl ?_
            refine xskip rfl rfl ?_
            refine xvalP (pv_pick rfl rfl) rfl rfl ?_
            refine xvalP (pv_assign rfl) rfl rfl ?_
            refine xnil ?_
            exact xmeet ⟨false, h, rfl⟩ ⟨(.cons rfl (.refl _) (.nil _)), (SubM.of (.nil _) (.nil _))⟩
        · replace h := h.2 hp33
          refine xsetB 27 (decide_eq_false hp33) rfl ?_
          refine xskip rfl rfl ?_
          refine xskip rfl rfl ?_
          refine xskip rfl rfl ?_
          refine xvalP (pv_pick rfl rfl) rfl rfl ?_
          refine xvalP (pv_move rfl) rfl rfl ?_
          refine xskip rfl rfl ?_
          refine xskip rfl rfl ?_
          refine xvalP (pv_pick rfl rfl) rfl rfl ?_
          refine xvalP (pv_move rfl) rfl rfl ?_
          refine xskip rfl rfl ?_
          refine xskip rfl rfl ?_
          refine xskip rfl rfl ?_
          refine xvalP (pv_pick rfl rfl) rfl rfl ?_
          refine xvalP (pv_assign rfl) rfl rfl ?_
          refine xnil ?_
          exact xmeet ⟨false, h, rfl⟩ ⟨(.cons rfl (.refl _) (.nil _)), (SubM.of (.nil _) (.nil _))⟩
      · replace h := h.2 hp30
        refine xsetB 21 (b_f hp30) rfl ?_
        refine xskip rfl rfl ?_
        refine xskip rfl rfl ?_
        refine xskip rfl rfl ?_
        refine xskip rfl rfl ?_
        refine xvalP (pv_pick rfl rfl) rfl rfl ?_
        refine xvalP (pv_move rfl) rfl rfl ?_
        refine xskip rfl rfl ?_
        refine xskip rfl rfl ?_
        refine xskip rfl rfl ?_
        refine xvalP (pv_pick rfl rfl) rfl rfl ?_
        refine xvalP (pv_move rfl) rfl rfl ?_
        refine xskip rfl rfl ?_
        refine xskip rfl rfl ?_
        refine xvalP (pv_pick rfl rfl) rfl rfl ?_
        refine xvalP (pv_move rfl) rfl rfl ?_
        refine xskip rfl rfl ?_
        refine xskip rfl rfl ?_
        refine xskip rfl rfl ?_
        refine xvalP (pv_pick rfl rfl) rfl rfl ?_
        refine xvalP (pv_assign rfl) rfl rfl ?_
        refine xnil ?_
        exact xmeet ⟨false, h, rfl⟩ ⟨(.cons rfl (.refl _) (.nil _)), (SubM.of (.nil _) (.nil _))⟩
    · replace h := h.2 hp29
      refine xsetB 18 (decide_eq_false hp29) rfl ?_
      refine xskip rfl rfl ?_
      refine xvalP (pv_pick rfl rfl) rfl rfl ?_
      refine xvalP (pv_move rfl) rfl rfl ?_
      refine xskip rfl rfl ?_
      refine xskip rfl rfl ?_
      refine xskip rfl rfl ?_
      refine xskip rfl rfl ?_
      refine xvalP (pv_pick rfl rfl) rfl rfl ?_
      refine xvalP (pv_move rfl) rfl rfl ?_
      refine xskip rfl rfl ?_
      refine xskip rfl rfl ?_
      refine xskip rfl rfl ?_
      refine xvalP (pv_pick rfl rfl) rfl rfl ?_
      refine xvalP (pv_move rfl) rfl rfl ?_
      refine xskip rfl rfl ?_
      refine xskip rfl rfl ?_
      refine xvalP (pv_pick rfl rfl) rfl rfl ?_
      refine xvalP (pv_move rfl) rfl rfl ?_
      refine xskip rfl rfl ?_
      refine xskip rfl rfl ?_
      refine xskip rfl rfl ?_
      refine xvalP (pv_pick rfl rfl) rfl rfl ?_
      refine xvalP (pv_assign rfl) rfl rfl ?_
      refine xnil ?_
      exact xmeet ⟨false, h, rfl⟩ ⟨(.cons rfl (.refl _) (.nil _)), (SubM.of (.nil _) (.nil _))⟩
  · clear h
    rintro _ ⟨x27, h, rfl⟩
    refine xretc ?_
    replace h := h.symm
    subst h
    exact xret1 hg rfl rfl (.refl _) (SubM.of (.nil _) (.nil _)) ⟨rfl, rfl, rfl⟩
/-- palinoderef06.Same -/
def palinoderef06_Same_l1 (a1 : (List (Int × Int × Int × Int × Int × Int × (Arr 4 (UInt64)))) × Int) (bv2 : (List (Int × Int × Int × Int × Int × Int × (Arr 4 (UInt64)))) × Int) (ag1 : (Int) → Prop) (iv142 : Int) (r : Bool) : Prop :=
  ((iv142 < (a1.1.length : Int) → 0 ≤ (iv142 : Int) ∧ ∃ y194 : Int × Int × Int × Int × Int × Int × (Arr 4 (UInt64)), a1.1[(iv142 : Int).toNat]? = some y194 ∧ 0 ≤ (iv142 : Int) ∧ ∃ y196 : Int × Int × Int × Int × Int × Int × (Arr 4 (UInt64)), bv2.1[(iv142 : Int).toNat]? = some y196 ∧ ((¬ ((y194 : Int × Int × Int × Int × Int × Int × (Arr 4 (UInt64))) = y196) → r = false) ∧ (¬ (¬ ((y194 : Int × Int × Int × Int × Int × Int × (Arr 4 (UInt64))) = y196)) → InR (iv142 + 1) ∧ ag1 (iv142 + 1)))) ∧ (¬ (iv142 < (a1.1.length : Int)) → r = true))
def palinoderef06_Same_R (a1 : (List (Int × Int × Int × Int × Int × Int × (Arr 4 (UInt64)))) × Int) (bv2 : (List (Int × Int × Int × Int × Int × Int × (Arr 4 (UInt64)))) × Int) (r : Bool) : Prop :=
  ((¬ (a1.2 = bv2.2) → r = false) ∧ (¬ (¬ (a1.2 = bv2.2)) → ((¬ ((a1.1.length : Int) = (bv2.1.length : Int)) → r = false) ∧ (¬ (¬ ((a1.1.length : Int) = (bv2.1.length : Int))) → LoopR (fun ag1 s => palinoderef06_Same_l1 a1 bv2 ag1 s r) 0))))
def palinoderef06_Same_l1_ev (fuel : Nat) (a1 : (List (Int × Int × Int × Int × Int × Int × (Arr 4 (UInt64)))) × Int) (bv2 : (List (Int × Int × Int × Int × Int × Int × (Arr 4 (UInt64)))) × Int) (ag1e : (Int) → Option (Bool)) (iv142 : Int) : Option (Bool) :=
  (if iv142 < (a1.1.length : Int) then (if 0 ≤ (iv142 : Int) then ((a1.1[(iv142 : Int).toNat]?).bind fun y194 => (if 0 ≤ (iv142 : Int) then ((bv2.1[(iv142 : Int).toNat]?).bind fun y196 => (if ¬ ((y194 : Int × Int × Int × Int × Int × Int × (Arr 4 (UInt64))) = y196) then some false else (if InR (iv142 + 1) then ag1e (iv142 + 1) else none))) else none)) else none) else some true)
theorem palinoderef06_Same_l1_ok {fuel : Nat} {a1 : (List (Int × Int × Int × Int × Int × Int × (Arr 4 (UInt64)))) × Int} {bv2 : (List (Int × Int × Int × Int × Int × Int × (Arr 4 (UInt64)))) × Int} {ag1e : (Int) → Option (Bool)} {ag1 : (Int) → Prop} {iv142 : Int} {r : Bool} (hagag1 : ∀ s, ag1e s = some r → ag1 s) (h : palinoderef06_Same_l1_ev fuel a1 bv2 ag1e iv142 = some r) : palinoderef06_Same_l1 a1 bv2 ag1 iv142 r := by
  unfold palinoderef06_Same_l1_ev at h
  unfold palinoderef06_Same_l1
  refine ⟨fun g171 => ?_, fun g171 => ?_⟩
  · rw [if_pos g171] at h
    obtain ⟨g172, h⟩ := if_ok h
    refine ⟨g172, ?_⟩
    obtain ⟨q173, g173, h⟩ := bind_ok h
    refine ⟨q173, g173, ?_⟩
    obtain ⟨g174, h⟩ := if_ok h
    refine ⟨g174, ?_⟩
    obtain ⟨q175, g175, h⟩ := bind_ok h
    refine ⟨q175, g175, ?_⟩
    refine ⟨fun g176 => ?_, fun g176 => ?_⟩
    · rw [if_pos g176] at h
      exact (Option.some.inj h).symm
    · rw [if_neg g176] at h
      obtain ⟨g177, h⟩ := if_ok h
      refine ⟨g177, ?_⟩
      exact hagag1 _ h
  · rw [if_neg g171] at h
    exact (Option.some.inj h).symm
def palinoderef06_Same_ev (fuel : Nat) (a1 : (List (Int × Int × Int × Int × Int × Int × (Arr 4 (UInt64)))) × Int) (bv2 : (List (Int × Int × Int × Int × Int × Int × (Arr 4 (UInt64)))) × Int) : Option (Bool) :=
  (if ¬ (a1.2 = bv2.2) then some false else (if ¬ ((a1.1.length : Int) = (bv2.1.length : Int)) then some false else (loopE (fun ag1e s => palinoderef06_Same_l1_ev fuel a1 bv2 ag1e s) fuel 0)))
theorem palinoderef06_Same_ok {fuel : Nat} {a1 : (List (Int × Int × Int × Int × Int × Int × (Arr 4 (UInt64)))) × Int} {bv2 : (List (Int × Int × Int × Int × Int × Int × (Arr 4 (UInt64)))) × Int} {r : Bool} (h : palinoderef06_Same_ev fuel a1 bv2 = some r) : palinoderef06_Same_R a1 bv2 r := by
  unfold palinoderef06_Same_ev at h
  unfold palinoderef06_Same_R
  refine ⟨fun g178 => ?_, fun g178 => ?_⟩
  · rw [if_pos g178] at h
    exact (Option.some.inj h).symm
  · rw [if_neg g178] at h
    refine ⟨fun g179 => ?_, fun g179 => ?_⟩
    · rw [if_pos g179] at h
      exact (Option.some.inj h).symm
    · rw [if_neg g179] at h
      refine loopE_ok ?_ h
      intro ae ag s hag h
      exact palinoderef06_Same_l1_ok hag h
set_option maxHeartbeats 4000000 in
theorem palinoderef06_Same_con (a1 : (List (Int × Int × Int × Int × Int × Int × (Arr 4 (UInt64)))) × Int) (bv2 : (List (Int × Int × Int × Int × Int × Int × (Arr 4 (UInt64)))) × Int) (r : Bool) (h : palinoderef06_Same_R a1 bv2 r) : Con Try.prog 7 [.agg [.sl 10 none (List.map E_palinode_api_Node a1.1), .v (.int .i64 a1.2)], .agg [.sl 10 none (List.map E_palinode_api_Node bv2.1), .v (.int .i64 bv2.2)]] [] [] (Ret (.v (.bool r))) := by
  refine xenter Try.func7 rfl rfl fun g hg => ?_
  simp only [Try.ntmps7, slots]
  refine xseq ?_
  refine xregion ?_
  refine xbox rfl rfl rfl rfl fun b2 => ?_
  refine xbox rfl rfl rfl rfl fun b3 => ?_
  refine xvalP (pv_assign rfl) rfl rfl ?_
  refine xnil ?_
  refine xthen ?_
  refine xseq ?_
  refine xseq ?_
  refine xregion ?_
  refine xvalP (qv_fieldAddrB FldC.h rfl) rfl rfl ?_
  refine xval (qv_loadB 1 ShpC.h rfl rfl rfl rfl) rfl rfl ?_
  refine xvalP (qv_fieldAddrB FldC.h rfl) rfl rfl ?_
  refine xval (qv_loadB 0 ShpC.h rfl rfl rfl rfl) rfl rfl ?_
  refine xvalP (pv_bin2 rfl rfl rfl) rfl rfl ?_
  refine xvalP (pv_move rfl) rfl rfl ?_
  by_cases hp20 : ¬ (a1.2 = bv2.2)
  · replace h := h.1 hp20
    refine xsetB 11 (not_t (decide_eq_false hp20)) rfl ?_
    refine xskip rfl rfl ?_
    refine xskip rfl rfl ?_
    refine xskip rfl rfl ?_
    refine xskip rfl rfl ?_
    refine xskip rfl rfl ?_
    refine xskip rfl rfl ?_
    refine xskip rfl rfl ?_
    refine xvalP (pv_pick rfl rfl) rfl rfl ?_
    refine xnil ?_
    refine xthen ?_
    refine xcondT rfl ?_
    refine xseq ?_
    refine xregion ?_
    refine xvalP (pv_assign rfl) rfl rfl ?_
    refine xnil ?_
    refine xthen ?_
    refine xretc ?_
    refine xthen_ret ?_
    replace h := h.symm
    subst h
    exact xret1 hg rfl rfl (.refl _) (SubM.of (.nil _) (.nil _)) ⟨rfl, rfl, rfl⟩
  · replace h := h.2 hp20
    refine xsetB 11 (not_f (decide_eq_true (Decidable.of_not_not hp20))) rfl ?_
    refine xvalP (qv_fieldAddrB FldC.h rfl) rfl rfl ?_
    refine xval (qv_loadB 1 ShpC.h rfl rfl rfl rfl) rfl rfl ?_
    refine xvalP (pv_lenM UndC.h rfl) rfl rfl ?_
    refine xvalP (qv_fieldAddrB FldC.h rfl) rfl rfl ?_
    refine xval (qv_loadB 0 ShpC.h rfl rfl rfl rfl) rfl rfl ?_
    refine xvalP (pv_lenM UndC.h rfl) rfl rfl ?_
    refine xvalP (pv_bin2 rfl rfl rfl) rfl rfl ?_
    refine xvalP (pv_pick rfl rfl) rfl rfl ?_
    refine xnil ?_
    refine xthen ?_
    by_cases hp24 : ¬ ((a1.1.length : Int) = (bv2.1.length : Int))
    · replace h := h.1 hp24
      refine xcondT' (not_t (decide_eq_false hp24)) rfl ?_
      refine xseq ?_
      refine xregion ?_
      refine xvalP (pv_assign rfl) rfl rfl ?_
      refine xnil ?_
      refine xthen ?_
      refine xretc ?_
      refine xthen_ret ?_
      replace h := h.symm
      subst h
      exact xret1 hg rfl rfl (.refl _) (SubM.of (.nil _) (.nil _)) ⟨rfl, rfl, rfl⟩
    · replace h := h.2 hp24
      refine xcondF' (not_f (decide_eq_true (Decidable.of_not_not hp24))) rfl ?_
      refine xskipc ?_
      refine xthen ?_
      refine xseq ?_
      refine xseq ?_
      refine xregion ?_
      refine xvalP (pv_assign rfl) rfl rfl ?_
      refine xnil ?_
      refine xthen ?_
      refine xblock ?_
      obtain ⟨Inv, ⟨m0, hI⟩, hS⟩ := h
      refine xloop (fun σ m => ∃ (iv142 : Int), Inv iv142 m ∧ σ = ⟨[(2, .v (.pointer (some ⟨b2, 0, none⟩))), (3, .v (.pointer (some ⟨b3, 0, none⟩))), (5, .v (.int .i64 iv142))], [⟨b3, 24, [.sl 10 none (List.map E_palinode_api_Node bv2.1), .v (.int .i64 bv2.2)]⟩, ⟨b2, 24, [.sl 10 none (List.map E_palinode_api_Node a1.1), .v (.int .i64 a1.2)]⟩], []⟩) ⟨0, hI, rfl⟩ ⟨(.cons rfl (.refl _) (.cons rfl (.refl _) (.cons rfl (.refl _) (.nil _)))), (SubM.of (.keep rfl rfl (.refl _) (.keep rfl rfl (.refl _) (.nil _))) (.nil _))⟩ ?_
      rintro _ m ⟨iv142, hI, rfl⟩
      obtain ⟨ag1, hag1, h⟩ : ∃ ag, (∀ s', ag s' → ∃ m', m' < m ∧ Inv s' m') ∧ palinoderef06_Same_l1 a1 bv2 ag iv142 r := ⟨_, fun _ h => h, hS iv142 _ hI⟩
      clear hS hI
      refine xseq ?_
      refine xseq ?_
      refine xregion ?_
      refine xvalP (pv_move rfl) rfl rfl ?_
      refine xvalP (qv_fieldAddrB FldC.h rfl) rfl rfl ?_
      refine xval (qv_loadB 1 ShpC.h rfl rfl rfl rfl) rfl rfl ?_
      refine xvalP (pv_lenM UndC.h rfl) rfl rfl ?_
      refine xvalP (pv_bin2 rfl rfl rfl) rfl rfl ?_
      refine xnil ?_
      refine xthen ?_
      by_cases hp177 : iv142 < (a1.1.length : Int)
      · replace h := h.1 hp177
        refine xcondT' (decide_eq_true hp177) rfl ?_
        refine xskipc ?_
        refine xthen ?_
        refine xseq ?_
        refine xblock ?_
        refine xseq ?_
        refine xregionD (m := 11) (by kernel_rfl) rfl ?_
        obtain ⟨h195a, h⟩ := h
        obtain ⟨y194, h195b, h⟩ := h
        obtain ⟨h197a, h⟩ := h
        obtain ⟨y196, h197b, h⟩ := h
        refine xpval 0 rfl (qv_fieldAddrB FldC.h rfl) rfl rfl (by kernel_rfl) (by kernel_rfl) (by kernel_rfl) (fun _ _ _ _ h => h) ?_
        refine xpval 2 rfl (pv_move rfl) rfl rfl (by kernel_rfl) (by kernel_rfl) (by kernel_rfl) (fun _ _ _ _ h => h) ?_
        refine xpval 5 rfl (qv_fieldAddrB FldC.h rfl) rfl rfl (by kernel_rfl) (by kernel_rfl) (by kernel_rfl) (fun _ _ _ _ h => h) ?_
        refine xpval 7 rfl (pv_move rfl) rfl rfl (by kernel_rfl) (by kernel_rfl) (by kernel_rfl) (fun _ _ _ _ h => h) ?_
        refine xpvalE 1 [6, 8, 9] rfl (qv_loadB 1 ShpC.h rfl rfl rfl rfl) rfl rfl (by kernel_rfl) (by kernel_rfl) (by kernel_rfl) (fun _ _ _ _ h => h) ?_
        refine xpval 3 rfl (pv_indexAddrM h195a h195b UndC.h ShpC.h rfl rfl) rfl rfl (by kernel_rfl) (by kernel_rfl) (by kernel_rfl) (fun _ _ _ _ h => h) ?_
        refine xpvalE 4 [6, 8, 9] rfl (qv_loadEP ([.v (.int .i64 y194.1), .v (.int .i64 y194.2.1), .v (.int .i64 y194.2.2.1), .v (.int .i64 y194.2.2.2.1), .v (.int .i64 y194.2.2.2.2.1), .v (.int .i64 y194.2.2.2.2.2.1)] ++ (List.map ew y194.2.2.2.2.2.2.l).flatten) [] (by first | rfl | exact (List.append_nil _).symm | exact List.append_nil _ | exact List.append_assoc _ _ _ | exact (List.append_assoc _ _ _).symm | exact congrArg _ (List.append_nil _).symm | exact congrArg _ (List.append_nil _) | (simp; done) | (simp [cellsS]; done)) (by first | rfl | exact seg_lenE (by rfl) | exact len_app rfl (seg_lenE (by rfl)) (by rfl) | exact len_app (seg_lenE (by rfl)) rfl (by rfl) | exact len_app rfl (len_app (seg_lenE (by rfl)) rfl (by rfl)) (by rfl) | (simp only [seg_len, cellsS, List.length_append, List.length_cons, List.length_nil]; done) | (simp only [seg_len, cellsS, List.length_append, List.length_cons, List.length_nil]; rfl)) (part_all (by first | rfl | exact seg_lenE (by rfl) | exact len_app rfl (seg_lenE (by rfl)) (by rfl) | exact len_app (seg_lenE (by rfl)) rfl (by rfl) | exact len_app rfl (len_app (seg_lenE (by rfl)) rfl (by rfl)) (by rfl) | (simp only [seg_len, cellsS, List.length_append, List.length_cons, List.length_nil]; done) | (simp only [seg_len, cellsS, List.length_append, List.length_cons, List.length_nil]; rfl))) ShpC.h rfl) rfl rfl (by kernel_rfl) (by kernel_rfl) (by kernel_rfl) (fun _ _ _ _ h => h) ?_
        refine xpvalE 6 [] rfl (qv_loadB 0 ShpC.h rfl rfl rfl rfl) rfl rfl (by kernel_rfl) (by kernel_rfl) (by kernel_rfl) (fun _ _ _ _ h => h) ?_
        refine xpval 8 rfl (pv_indexAddrM h197a h197b UndC.h ShpC.h rfl rfl) rfl rfl (by kernel_rfl) (by kernel_rfl) (by kernel_rfl) (fun _ _ _ _ h => h) ?_
        refine xpvalE 9 [] rfl (qv_loadEP ([.v (.int .i64 y196.1), .v (.int .i64 y196.2.1), .v (.int .i64 y196.2.2.1), .v (.int .i64 y196.2.2.2.1), .v (.int .i64 y196.2.2.2.2.1), .v (.int .i64 y196.2.2.2.2.2.1)] ++ (List.map ew y196.2.2.2.2.2.2.l).flatten) [] (by first | rfl | exact (List.append_nil _).symm | exact List.append_nil _ | exact List.append_assoc _ _ _ | exact (List.append_assoc _ _ _).symm | exact congrArg _ (List.append_nil _).symm | exact congrArg _ (List.append_nil _) | (simp; done) | (simp [cellsS]; done)) (by first | rfl | exact seg_lenE (by rfl) | exact len_app rfl (seg_lenE (by rfl)) (by rfl) | exact len_app (seg_lenE (by rfl)) rfl (by rfl) | exact len_app rfl (len_app (seg_lenE (by rfl)) rfl (by rfl)) (by rfl) | (simp only [seg_len, cellsS, List.length_append, List.length_cons, List.length_nil]; done) | (simp only [seg_len, cellsS, List.length_append, List.length_cons, List.length_nil]; rfl)) (part_all (by first | rfl | exact seg_lenE (by rfl) | exact len_app rfl (seg_lenE (by rfl)) (by rfl) | exact len_app (seg_lenE (by rfl)) rfl (by rfl) | exact len_app rfl (len_app (seg_lenE (by rfl)) rfl (by rfl)) (by rfl) | (simp only [seg_len, cellsS, List.length_append, List.length_cons, List.length_nil]; done) | (simp only [seg_len, cellsS, List.length_append, List.length_cons, List.length_nil]; rfl))) ShpC.h rfl) rfl rfl (by kernel_rfl) (by kernel_rfl) (by kernel_rfl) (fun _ _ _ _ h => h) ?_
        refine xpval 10 rfl (pv_neAgg (f := E_palinode_api_Node) (a := y194) (b := y196) eqc_42 (by decide) (by kernel_rfl) (by first | rfl | exact congrArg (fun q => some (Sd.agg q)) (by first | rfl | exact (List.append_nil _).symm | exact List.append_nil _ | exact List.append_assoc _ _ _ | exact (List.append_assoc _ _ _).symm | exact congrArg _ (List.append_nil _).symm | exact congrArg _ (List.append_nil _) | (simp; done) | (simp [cellsS]; done))) (by first | rfl | exact congrArg (fun q => some (Sd.agg q)) (by first | rfl | exact (List.append_nil _).symm | exact List.append_nil _ | exact List.append_assoc _ _ _ | exact (List.append_assoc _ _ _).symm | exact congrArg _ (List.append_nil _).symm | exact congrArg _ (List.append_nil _) | (simp; done) | (simp [cellsS]; done)))) rfl rfl (by kernel_rfl) (by kernel_rfl) (by kernel_rfl) (fun _ _ _ _ h => h) ?_
        refine xpdone (by kernel_rfl) ?_
        refine xthen ?_
        by_cases hp199 : ¬ ((y194 : Int × Int × Int × Int × Int × Int × (Arr 4 (UInt64))) = y196)
        · replace h := h.1 hp199
          refine xcondT' (not_t (decide_eq_false hp199)) rfl ?_
          refine xseq ?_
          refine xregion ?_
          refine xvalP (pv_assign rfl) rfl rfl ?_
          refine xnil ?_
          refine xthen ?_
          refine xretc ?_
          refine xin_ret ?_
          refine xthen_ret ?_
          refine xthen_ret ?_
          refine xin_ret ?_
          refine xthen_ret ?_
          replace h := h.symm
          subst h
          exact xret1 hg rfl rfl (.refl _) (SubM.of (.nil _) (.nil _)) ⟨rfl, rfl, rfl⟩
        · replace h := h.2 hp199
          refine xcondF' (not_f (decide_eq_true (Decidable.of_not_not hp199))) rfl ?_
          refine xskipc ?_
          refine xin_normal ?_
          refine xthen ?_
          refine xregion ?_
          refine xvalP (pv_move rfl) rfl rfl ?_
          obtain ⟨h200, h⟩ := h
          refine xvalP (pv_addI h200 rfl rfl) rfl rfl ?_
          refine xvalP (pv_assign rfl) rfl rfl ?_
          refine xnil ?_
          obtain ⟨m', hm, hI⟩ := hag1 _ h
          exact xagain ⟨(iv142 + 1), hI, rfl⟩ hm ⟨(.cons rfl (.refl _) (.cons rfl (.refl _) (.cons rfl (.refl _) (.nil _)))), (SubM.of (.keep rfl rfl (.refl _) (.keep rfl rfl (.refl _) (.nil _))) (.nil _))⟩
      · replace h := h.2 hp177
        refine xcondF' (decide_eq_false hp177) rfl ?_
        refine xexit ?_
        refine xthen_exit ?_
        refine xthen_exit ?_
        refine xin_same rfl ?_
        refine xthen ?_
        refine xseq ?_
        refine xregion ?_
        refine xvalP (pv_assign rfl) rfl rfl ?_
        refine xnil ?_
        refine xthen ?_
        refine xretc ?_
        replace h := h.symm
        subst h
        exact xret1 hg rfl rfl (.refl _) (SubM.of (.nil _) (.nil _)) ⟨rfl, rfl, rfl⟩
/-- (*tree.Builder).Open -/
def tree_Builder_Open_R (o1 : (List (Int × Int × Int × Int × Int × Int × (Arr 4 (UInt64)))) × Int) (r : Int × ((List (Int × Int × Int × Int × Int × Int × (Arr 4 (UInt64)))) × Int)) : Prop :=
  ((9 ≤ o1.2 → r = ((-1), (o1.1, o1.2))) ∧ (¬ (9 ≤ o1.2) → InR (o1.2 + 1) ∧ r = ((o1.2 + 1), (o1.1, (o1.2 + 1)))))
def tree_Builder_Open_ev (fuel : Nat) (o1 : (List (Int × Int × Int × Int × Int × Int × (Arr 4 (UInt64)))) × Int) : Option (Int × ((List (Int × Int × Int × Int × Int × Int × (Arr 4 (UInt64)))) × Int)) :=
  (if 9 ≤ o1.2 then some ((-1), (o1.1, o1.2)) else (if InR (o1.2 + 1) then some ((o1.2 + 1), (o1.1, (o1.2 + 1))) else none))
theorem tree_Builder_Open_ok {fuel : Nat} {o1 : (List (Int × Int × Int × Int × Int × Int × (Arr 4 (UInt64)))) × Int} {r : Int × ((List (Int × Int × Int × Int × Int × Int × (Arr 4 (UInt64)))) × Int)} (h : tree_Builder_Open_ev fuel o1 = some r) : tree_Builder_Open_R o1 r := by
  unfold tree_Builder_Open_ev at h
  unfold tree_Builder_Open_R
  refine ⟨fun g188 => ?_, fun g188 => ?_⟩
  · rw [if_pos g188] at h
    exact (Option.some.inj h).symm
  · rw [if_neg g188] at h
    obtain ⟨g189, h⟩ := if_ok h
    refine ⟨g189, ?_⟩
    exact (Option.some.inj h).symm
set_option maxHeartbeats 4000000 in
theorem tree_Builder_Open_con (o1 : (List (Int × Int × Int × Int × Int × Int × (Arr 4 (UInt64)))) × Int) (bx0 : Nat) (ia2 : Option (Nat × Nat)) (r : Int × ((List (Int × Int × Int × Int × Int × Int × (Arr 4 (UInt64)))) × Int)) (h : tree_Builder_Open_R o1 r) : Con Try.prog 8 [.v (.pointer (some ⟨bx0, 0, none⟩))] [⟨bx0, 28, [.sl 10 (some ia2) (List.map E_palinode_api_Node o1.1), .v (.int .i64 o1.2)]⟩] [⟨ia2, 42, 10, o1.1.length⟩] (fun rr bx tk => ∃ j1, rr = .v (.int .i64 r.1) ∧ bx = [⟨bx0, 28, [.sl 10 (some j1) (List.map E_palinode_api_Node r.2.1), .v (.int .i64 r.2.2)]⟩] ∧ tk = [⟨j1, 42, 10, r.2.1.length⟩]) := by
  refine xenter Try.func8 rfl rfl fun g hg => ?_
  simp only [Try.ntmps8, slots]
  refine xseq ?_
  refine xregion ?_
  refine xvalP (pv_assign rfl) rfl rfl ?_
  refine xnil ?_
  refine xthen ?_
  refine xseq ?_
  refine xseq ?_
  refine xregion ?_
  refine xvalP (pv_move rfl) rfl rfl ?_
  refine xvalP (pv_nilCheck rfl) rfl rfl ?_
  refine xvalP (qv_fieldAddrB FldC.h rfl) rfl rfl ?_
  refine xval (qv_loadB 0 ShpC.h rfl rfl rfl rfl) rfl rfl ?_
  refine xvalP (pv_bin2 rfl rfl rfl) rfl rfl ?_
  refine xnil ?_
  refine xthen ?_
  by_cases hp6 : 9 ≤ o1.2
  · replace h := h.1 hp6
    refine xcondT' (decide_eq_true hp6) rfl ?_
    refine xseq ?_
    refine xregion ?_
    refine xvalP (pv_assign rfl) rfl rfl ?_
    refine xnil ?_
    refine xthen ?_
    refine xretc ?_
    refine xthen_ret ?_
    replace h := h.symm
    subst h
    exact xret1 hg rfl rfl (.refl _) (SubM.of (.keep rfl rfl (.refl _) (.nil _)) (.keep rfl (.nil _))) ⟨ia2, rfl, rfl, rfl⟩
  · replace h := h.2 hp6
    refine xcondF' (decide_eq_false hp6) rfl ?_
    refine xskipc ?_
    refine xthen ?_
    refine xseq ?_
    refine xregion ?_
    refine xvalP (pv_move rfl) rfl rfl ?_
    refine xvalP (pv_nilCheck rfl) rfl rfl ?_
    refine xvalP (qv_fieldAddrB FldC.h rfl) rfl rfl ?_
    refine xval (qv_loadB 0 ShpC.h rfl rfl rfl rfl) rfl rfl ?_
    obtain ⟨h7, h⟩ := h
    refine xvalP (pv_addI h7 rfl rfl) rfl rfl ?_
    refine xvalP (pv_nilCheck rfl) rfl rfl ?_
    refine xvalP (qv_fieldAddrB FldC.h rfl) rfl rfl ?_
    refine xstore 0 ShpC.h rfl rfl rfl rfl rfl rfl rfl ?_
    refine xnil ?_
    refine xthen ?_
    refine xseq ?_
    refine xregion ?_
    refine xvalP (pv_move rfl) rfl rfl ?_
    refine xvalP (pv_nilCheck rfl) rfl rfl ?_
    refine xvalP (qv_fieldAddrB FldC.h rfl) rfl rfl ?_
    refine xval (qv_loadB 0 ShpC.h rfl rfl rfl rfl) rfl rfl ?_
    refine xvalP (pv_assign rfl) rfl rfl ?_
    refine xnil ?_
    refine xthen ?_
    refine xretc ?_
    replace h := h.symm
    subst h
    exact xret1 hg rfl rfl (.refl _) (SubM.of (.keep rfl rfl (.refl _) (.nil _)) (.keep rfl (.nil _))) ⟨ia2, rfl, rfl, rfl⟩
/-- (*tree.Builder).Bol -/
def tree_Builder_Bol_R (o1 : (List (Int × Int × Int × Int × Int × Int × (Arr 4 (UInt64)))) × Int) (r : Int × ((List (Int × Int × Int × Int × Int × Int × (Arr 4 (UInt64)))) × Int)) : Prop :=
  ∃ y4 : Int × ((List (Int × Int × Int × Int × Int × Int × (Arr 4 (UInt64)))) × Int), tree_Builder_put_R (o1.1, o1.2) (7, 0, 0, 0, 0, 0, (Arr.rep 4 (0 : UInt64))) y4 ∧ r = (y4.1, (y4.2.1, y4.2.2))
def tree_Builder_Bol_ev (fuel : Nat) (o1 : (List (Int × Int × Int × Int × Int × Int × (Arr 4 (UInt64)))) × Int) : Option (Int × ((List (Int × Int × Int × Int × Int × Int × (Arr 4 (UInt64)))) × Int)) :=
  ((tree_Builder_put_ev fuel (o1.1, o1.2) (7, 0, 0, 0, 0, 0, (Arr.rep 4 (0 : UInt64)))).bind fun y4 => some (y4.1, (y4.2.1, y4.2.2)))
theorem tree_Builder_Bol_ok {fuel : Nat} {o1 : (List (Int × Int × Int × Int × Int × Int × (Arr 4 (UInt64)))) × Int} {r : Int × ((List (Int × Int × Int × Int × Int × Int × (Arr 4 (UInt64)))) × Int)} (h : tree_Builder_Bol_ev fuel o1 = some r) : tree_Builder_Bol_R o1 r := by
  unfold tree_Builder_Bol_ev at h
  unfold tree_Builder_Bol_R
  obtain ⟨q190, g190, h⟩ := bind_ok h
  refine ⟨q190, tree_Builder_put_ok g190, ?_⟩
  exact (Option.some.inj h).symm
set_option maxHeartbeats 4000000 in
theorem tree_Builder_Bol_con (o1 : (List (Int × Int × Int × Int × Int × Int × (Arr 4 (UInt64)))) × Int) (bx0 : Nat) (ia2 : Option (Nat × Nat)) (r : Int × ((List (Int × Int × Int × Int × Int × Int × (Arr 4 (UInt64)))) × Int)) (h : tree_Builder_Bol_R o1 r) : Con Try.prog 9 [.v (.pointer (some ⟨bx0, 0, none⟩))] [⟨bx0, 28, [.sl 10 (some ia2) (List.map E_palinode_api_Node o1.1), .v (.int .i64 o1.2)]⟩] [⟨ia2, 42, 10, o1.1.length⟩] (fun rr bx tk => ∃ j1, rr = .v (.int .i64 r.1) ∧ bx = [⟨bx0, 28, [.sl 10 (some j1) (List.map E_palinode_api_Node r.2.1), .v (.int .i64 r.2.2)]⟩] ∧ tk = [⟨j1, 42, 10, r.2.1.length⟩]) := by
  refine xenter Try.func9 rfl rfl fun g hg => ?_
  simp only [Try.ntmps9, slots]
  refine xseq ?_
  refine xregion ?_
  refine xvalP (pv_assign rfl) rfl rfl ?_
  refine xnil ?_
  refine xthen ?_
  refine xseq ?_
  refine xregion ?_
  refine xvalP (pv_move rfl) rfl rfl ?_
  refine xvalP (pv_buildC (cs := ([.v (.int .i64 7), .v (.int .i64 0), .v (.int .i64 0), .v (.int .i64 0), .v (.int .i64 0), .v (.int .i64 0)] ++ (List.map ew ((Arr.rep 4 (0 : UInt64))).l).flatten)) StrC.h rfl (by refine fill_step [] [.v (.int .i64 0)] ([.v (.int .i64 0), .v (.int .i64 0), .v (.int .i64 0), .v (.int .i64 0), .v (.int .i64 0)] ++ (List.map ew ((Arr.rep 4 (0 : UInt64))).l).flatten) (by first | rfl | exact (List.append_nil _).symm | exact List.append_nil _ | exact List.append_assoc _ _ _ | exact (List.append_assoc _ _ _).symm | exact congrArg _ (List.append_nil _).symm | exact congrArg _ (List.append_nil _) | (simp; done) | (simp [cellsS]; done)) (by first | rfl | exact seg_lenE (by rfl) | exact len_app rfl (seg_lenE (by rfl)) (by rfl) | exact len_app (seg_lenE (by rfl)) rfl (by rfl) | exact len_app rfl (len_app (seg_lenE (by rfl)) rfl (by rfl)) (by rfl) | (simp only [seg_len, cellsS, List.length_append, List.length_cons, List.length_nil]; done) | (simp only [seg_len, cellsS, List.length_append, List.length_cons, List.length_nil]; rfl)) (by first | rfl | exact seg_lenE (by rfl) | exact len_app rfl (seg_lenE (by rfl)) (by rfl) | exact len_app (seg_lenE (by rfl)) rfl (by rfl) | exact len_app rfl (len_app (seg_lenE (by rfl)) rfl (by rfl)) (by rfl) | (simp only [seg_len, cellsS, List.length_append, List.length_cons, List.length_nil]; done) | (simp only [seg_len, cellsS, List.length_append, List.length_cons, List.length_nil]; rfl)) (by first | rfl | exact seg_lenE (by rfl) | exact len_app rfl (seg_lenE (by rfl)) (by rfl) | exact len_app (seg_lenE (by rfl)) rfl (by rfl) | exact len_app rfl (len_app (seg_lenE (by rfl)) rfl (by rfl)) (by rfl) | (simp only [seg_len, cellsS, List.length_append, List.length_cons, List.length_nil]; done) | (simp only [seg_len, cellsS, List.length_append, List.length_cons, List.length_nil]; rfl)) rfl rfl ?_; exact congrArg some (by first | rfl | exact (List.append_nil _).symm | exact List.append_nil _ | exact List.append_assoc _ _ _ | exact (List.append_assoc _ _ _).symm | exact congrArg _ (List.append_nil _).symm | exact congrArg _ (List.append_nil _) | (simp; done) | (simp [cellsS]; done)))) rfl rfl ?_
  obtain ⟨y4, h3, h⟩ := h
  refine xcallF (Fb := []) (Ft := []) (tree_Builder_put_con (o1.1, o1.2) (7, 0, 0, 0, 0, 0, (Arr.rep 4 (0 : UInt64))) bx0 ia2 _ h3) Try.func18 (by kernel_rfl) rfl (.cons rfl (.refl _) (.cons rfl (.refl _) .nil)) (by exact (SubM.of (by repeat (first | with_reducible exact SubB.refl _ | exact SubB.nil _ | refine SubB.keep rfl rfl (by first | with_reducible exact WkL.refl _ | ((repeat (first | exact WkL.nil | refine WkL.cons (by first | with_reducible exact Wk.refl _ | exact Wk.nil_own _ | exact Wk.nil_pl _ | with_reducible exact Wk.tok _ _ _ | exact Wk.tok _ _ _ | exact Wk.eq (by first | rfl | (simp []; done) | (simp []; omega))) ?_)); done) | exact WkL.refl _) ?_ | refine SubB.drop ?_)) (by repeat (first | exact SubT.nil _ | refine SubT.add ?_ | (refine SubT.keep ?_ ?_; focus (first | with_reducible rfl | (simp []; done))) | refine SubT.drop ?_)))) rfl rfl ?_
  rintro _ _ _ ⟨i5, rfl, rfl, rfl⟩
  simp only [List.nil_append, List.cons_append]
  refine xvalP (pv_assign rfl) rfl rfl ?_
  refine xnil ?_
  refine xthen ?_
  refine xretc ?_
  replace h := h.symm
  subst h
  exact xret1 hg rfl rfl (.refl _) (SubM.of (.keep rfl rfl (.refl _) (.nil _)) (.keep rfl (.nil _))) ⟨i5, rfl, rfl, rfl⟩
/-- (*tree.Builder).Alt -/
def tree_Builder_Alt_R (o1 : (List (Int × Int × Int × Int × Int × Int × (Arr 4 (UInt64)))) × Int) (l3 : List Int) (r : Int × ((List (Int × Int × Int × Int × Int × Int × (Arr 4 (UInt64)))) × Int)) : Prop :=
  (((l3.length : Int) = 0 → r = ((-1), (o1.1, o1.2))) ∧ (¬ ((l3.length : Int) = 0) → ∃ y11 : Int × ((List (Int × Int × Int × Int × Int × Int × (Arr 4 (UInt64)))) × Int), tree_Builder_fold_R (o1.1, o1.2) 3 l3 y11 ∧ r = (y11.1, (y11.2.1, y11.2.2))))
def tree_Builder_Alt_ev (fuel : Nat) (o1 : (List (Int × Int × Int × Int × Int × Int × (Arr 4 (UInt64)))) × Int) (l3 : List Int) : Option (Int × ((List (Int × Int × Int × Int × Int × Int × (Arr 4 (UInt64)))) × Int)) :=
  (if (l3.length : Int) = 0 then some ((-1), (o1.1, o1.2)) else ((tree_Builder_fold_ev fuel (o1.1, o1.2) 3 l3).bind fun y11 => some (y11.1, (y11.2.1, y11.2.2))))
theorem tree_Builder_Alt_ok {fuel : Nat} {o1 : (List (Int × Int × Int × Int × Int × Int × (Arr 4 (UInt64)))) × Int} {l3 : List Int} {r : Int × ((List (Int × Int × Int × Int × Int × Int × (Arr 4 (UInt64)))) × Int)} (h : tree_Builder_Alt_ev fuel o1 l3 = some r) : tree_Builder_Alt_R o1 l3 r := by
  unfold tree_Builder_Alt_ev at h
  unfold tree_Builder_Alt_R
  refine ⟨fun g191 => ?_, fun g191 => ?_⟩
  · rw [if_pos g191] at h
    exact (Option.some.inj h).symm
  · rw [if_neg g191] at h
    obtain ⟨q192, g192, h⟩ := bind_ok h
    refine ⟨q192, tree_Builder_fold_ok g192, ?_⟩
    exact (Option.some.inj h).symm
set_option maxHeartbeats 4000000 in
theorem tree_Builder_Alt_con (o1 : (List (Int × Int × Int × Int × Int × Int × (Arr 4 (UInt64)))) × Int) (l3 : List Int) (bx0 : Nat) (ia2 : Option (Nat × Nat)) (r : Int × ((List (Int × Int × Int × Int × Int × Int × (Arr 4 (UInt64)))) × Int)) (h : tree_Builder_Alt_R o1 l3 r) : Con Try.prog 14 [.v (.pointer (some ⟨bx0, 0, none⟩)), .sl 1 none (List.map ei l3)] [⟨bx0, 28, [.sl 10 (some ia2) (List.map E_palinode_api_Node o1.1), .v (.int .i64 o1.2)]⟩] [⟨ia2, 42, 10, o1.1.length⟩] (fun rr bx tk => ∃ j1, rr = .v (.int .i64 r.1) ∧ bx = [⟨bx0, 28, [.sl 10 (some j1) (List.map E_palinode_api_Node r.2.1), .v (.int .i64 r.2.2)]⟩] ∧ tk = [⟨j1, 42, 10, r.2.1.length⟩]) := by
  refine xenter Try.func14 rfl rfl fun g hg => ?_
  simp only [Try.ntmps14, slots]
  refine xseq ?_
  refine xregion ?_
  refine xvalP (pv_assign rfl) rfl rfl ?_
  refine xnil ?_
  refine xthen ?_
  refine xseq ?_
  refine xseq ?_
  refine xregion ?_
  refine xvalP (pv_move rfl) rfl rfl ?_
  refine xvalP (pv_lenM UndC.h rfl) rfl rfl ?_
  refine xvalP (pv_bin2 rfl rfl rfl) rfl rfl ?_
  refine xnil ?_
  refine xthen ?_
  by_cases hp9 : (l3.length : Int) = 0
  · replace h := h.1 hp9
    refine xcondT' (decide_eq_true hp9) rfl ?_
    refine xseq ?_
    refine xregion ?_
    refine xvalP (pv_assign rfl) rfl rfl ?_
    refine xnil ?_
    refine xthen ?_
    refine xretc ?_
    refine xthen_ret ?_
    replace h := h.symm
    subst h
    exact xret1 hg rfl rfl (.refl _) (SubM.of (.keep rfl rfl (.refl _) (.nil _)) (.keep rfl (.nil _))) ⟨ia2, rfl, rfl, rfl⟩
  · replace h := h.2 hp9
    refine xcondF' (decide_eq_false hp9) rfl ?_
    refine xskipc ?_
    refine xthen ?_
    refine xseq ?_
    refine xregion ?_
    refine xvalP (pv_move rfl) rfl rfl ?_
    refine xvalP (pv_move rfl) rfl rfl ?_
    obtain ⟨y11, h10, h⟩ := h
    refine xcallF (Fb := []) (Ft := []) (tree_Builder_fold_con (o1.1, o1.2) 3 l3 bx0 ia2 _ h10) Try.func19 (by kernel_rfl) rfl (.cons rfl (.refl _) (.cons rfl (.refl _) (.cons rfl (.refl _) .nil))) (by exact (SubM.of (by repeat (first | with_reducible exact SubB.refl _ | exact SubB.nil _ | refine SubB.keep rfl rfl (by first | with_reducible exact WkL.refl _ | ((repeat (first | exact WkL.nil | refine WkL.cons (by first | with_reducible exact Wk.refl _ | exact Wk.nil_own _ | exact Wk.nil_pl _ | with_reducible exact Wk.tok _ _ _ | exact Wk.tok _ _ _ | exact Wk.eq (by first | rfl | (simp []; done) | (simp []; omega))) ?_)); done) | exact WkL.refl _) ?_ | refine SubB.drop ?_)) (by repeat (first | exact SubT.nil _ | refine SubT.add ?_ | (refine SubT.keep ?_ ?_; focus (first | with_reducible rfl | (simp []; done))) | refine SubT.drop ?_)))) rfl rfl ?_
    rintro _ _ _ ⟨i12, rfl, rfl, rfl⟩
    simp only [List.nil_append, List.cons_append]
    refine xvalP (pv_assign rfl) rfl rfl ?_
    refine xnil ?_
    refine xthen ?_
    refine xretc ?_
    replace h := h.symm
    subst h
    exact xret1 hg rfl rfl (.refl _) (SubM.of (.keep rfl rfl (.refl _) (.nil _)) (.keep rfl (.nil _))) ⟨i12, rfl, rfl, rfl⟩
end Go.Proofs.Ytfcdelokijnkoaa
