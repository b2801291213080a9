
/- What functions' texts ask for, and the walks that show it (printed by a program). -/
import Derived.Test.YtnefabncdpkbmaaGKp7
namespace Go.Proofs.Ytnefabncdpkbmaa
/-- palinoderef11.Better -/
def palinoderef11_Better_l1 (a1 : (Arr 10 (Int × Int))) (bv2 : (Arr 10 (Int × Int))) (ag1 : (Int) → Prop) (gv230 : Int) (r : Bool) : Prop :=
  ((gv230 < 10 → (0 ≤ (gv230 : Int) ∧ (gv230 : Int) < 10) ∧ ∃ y310 : Int × Int, a1.l[(gv230 : Int).toNat]? = some y310 ∧ (0 ≤ (gv230 : Int) ∧ (gv230 : Int) < 10) ∧ ∃ y312 : Int × Int, bv2.l[(gv230 : Int).toNat]? = some y312 ∧ (((y310 : Int × Int) = y312 → InR (gv230 + 1) ∧ ag1 (gv230 + 1)) ∧ (¬ ((y310 : Int × Int) = y312) → ((y310.1 < 0 → r = false) ∧ (¬ (y310.1 < 0) → ((y312.1 < 0 → r = true) ∧ (¬ (y312.1 < 0) → ((¬ (y310.1 = y312.1) → r = (decide (y310.1 < y312.1))) ∧ (¬ (¬ (y310.1 = y312.1)) → r = (decide (y312.2 < y310.2))))))))))) ∧ (¬ (gv230 < 10) → r = false))
def palinoderef11_Better_R (a1 : (Arr 10 (Int × Int))) (bv2 : (Arr 10 (Int × Int))) (r : Bool) : Prop :=
  (0 ≤ (0 : Int) ∧ (0 : Int) < 10) ∧ ∃ y15 : Int × Int, a1.l[(0 : Int).toNat]? = some y15 ∧ (0 ≤ (0 : Int) ∧ (0 : Int) < 10) ∧ ∃ y17 : Int × Int, bv2.l[(0 : Int).toNat]? = some y17 ∧ ((¬ (y15.2 = y17.2) → (0 ≤ (0 : Int) ∧ (0 : Int) < 10) ∧ ∃ y21 : Int × Int, a1.l[(0 : Int).toNat]? = some y21 ∧ (0 ≤ (0 : Int) ∧ (0 : Int) < 10) ∧ ∃ y23 : Int × Int, bv2.l[(0 : Int).toNat]? = some y23 ∧ r = (decide (y23.2 < y21.2))) ∧ (¬ (¬ (y15.2 = y17.2)) → LoopR (fun ag1 s => palinoderef11_Better_l1 a1 bv2 ag1 s r) 1))
set_option maxHeartbeats 4000000 in
theorem palinoderef11_Better_con (a1 : (Arr 10 (Int × Int))) (bv2 : (Arr 10 (Int × Int))) (r : Bool) (h : palinoderef11_Better_R a1 bv2 r) : Con Try.prog 20 [.agg ((List.map E_palinode_api_Span a1.l).flatten), .agg ((List.map E_palinode_api_Span bv2.l).flatten)] [] [] (Ret (.v (.bool r))) := by
  refine xenter Try.func20 rfl rfl fun g hg => ?_
  simp only [Try.ntmps20, slots]
  refine xseq ?_
  refine xregion ?_
  refine xbox rfl rfl rfl rfl fun b2 => ?_
  refine xbox rfl rfl rfl rfl fun b3 => ?_
  refine xvalP (pv_assign rfl) rfl rfl ?_
  refine xnil ?_
  refine xthen ?_
  refine xseq ?_
  refine xseq ?_
  refine xregion ?_
  refine xvalP (qv_fieldAddrB FldC.h rfl) rfl rfl ?_
  obtain ⟨h14, h⟩ := h
  obtain ⟨y15, h14b, h⟩ := h
  refine xvalP (pv_indexAddrBA h14 UndC.h ShpC.h rfl rfl) rfl rfl ?_
  refine xvalP (qv_fieldAddrB FldC.h rfl) rfl rfl ?_
  refine xval (qv_loadA (f := E_palinode_api_Span) (a := a1) (k := 2) (off := 1) (i := (0 : Int).toNat) 1 [] [] h14b sq_ so_ (by decide) rfl ShpC.h rfl rfl) rfl rfl ?_
  refine xvalP (qv_fieldAddrB FldC.h rfl) rfl rfl ?_
  obtain ⟨h16, h⟩ := h
  obtain ⟨y17, h16b, h⟩ := h
  refine xvalP (pv_indexAddrBA h16 UndC.h ShpC.h rfl rfl) rfl rfl ?_
  refine xvalP (qv_fieldAddrB FldC.h rfl) rfl rfl ?_
  refine xval (qv_loadA (f := E_palinode_api_Span) (a := bv2) (k := 2) (off := 1) (i := (0 : Int).toNat) 0 [] [] h16b sq_ so_ (by decide) rfl ShpC.h rfl rfl) rfl rfl ?_
  refine xvalP (pv_bin2 rfl rfl rfl) rfl rfl ?_
  refine xnil ?_
  refine xthen ?_
  by_cases hp19 : ¬ (y15.2 = y17.2)
  · replace h := h.1 hp19
    refine xcondT' (not_t (decide_eq_false hp19)) rfl ?_
    refine xseq ?_
    refine xregion ?_
    refine xvalP (qv_fieldAddrB FldC.h rfl) rfl rfl ?_
    obtain ⟨h20, h⟩ := h
    obtain ⟨y21, h20b, h⟩ := h
    refine xvalP (pv_indexAddrBA h20 UndC.h ShpC.h rfl rfl) rfl rfl ?_
    refine xvalP (qv_fieldAddrB FldC.h rfl) rfl rfl ?_
    refine xval (qv_loadA (f := E_palinode_api_Span) (a := a1) (k := 2) (off := 1) (i := (0 : Int).toNat) 1 [] [] h20b sq_ so_ (by decide) rfl ShpC.h rfl rfl) rfl rfl ?_
    refine xvalP (qv_fieldAddrB FldC.h rfl) rfl rfl ?_
    obtain ⟨h22, h⟩ := h
    obtain ⟨y23, h22b, h⟩ := h
    refine xvalP (pv_indexAddrBA h22 UndC.h ShpC.h rfl rfl) rfl rfl ?_
    refine xvalP (qv_fieldAddrB FldC.h rfl) rfl rfl ?_
    refine xval (qv_loadA (f := E_palinode_api_Span) (a := bv2) (k := 2) (off := 1) (i := (0 : Int).toNat) 0 [] [] h22b sq_ so_ (by decide) rfl ShpC.h rfl rfl) rfl rfl ?_
    refine xvalP (pv_bin2 rfl rfl rfl) rfl rfl ?_
    refine xvalP (pv_assign rfl) rfl rfl ?_
    refine xnil ?_
    refine xthen ?_
    refine xretc ?_
    refine xthen_ret ?_
    replace h := h.symm
    subst h
    exact xret1 hg rfl rfl (.refl _) (SubM.of (.nil _) (.nil _)) ⟨rfl, rfl, rfl⟩
  · replace h := h.2 hp19
    refine xcondF' (not_f (decide_eq_true (Decidable.of_not_not hp19))) rfl ?_
    refine xskipc ?_
    refine xthen ?_
    refine xseq ?_
    refine xseq ?_
    refine xregion ?_
    refine xvalP (pv_assign rfl) rfl rfl ?_
    refine xnil ?_
    refine xthen ?_
    refine xblock ?_
    obtain ⟨Inv, ⟨m0, hI⟩, hS⟩ := h
    refine xloop (fun σ m => ∃ (gv230 : Int), Inv gv230 m ∧ σ = ⟨[(2, .v (.pointer (some ⟨b2, 0, none⟩))), (3, .v (.pointer (some ⟨b3, 0, none⟩))), (5, .v (.int .i64 gv230))], [⟨b3, 31, ((List.map E_palinode_api_Span bv2.l).flatten)⟩, ⟨b2, 31, ((List.map E_palinode_api_Span a1.l).flatten)⟩], []⟩) ⟨1, hI, rfl⟩ ⟨(.cons rfl (.refl _) (.cons rfl (.refl _) (.cons rfl (.refl _) (.nil _)))), (SubM.of (.keep rfl rfl (.refl _) (.keep rfl rfl (.refl _) (.nil _))) (.nil _))⟩ ?_
    rintro _ m ⟨gv230, hI, rfl⟩
    obtain ⟨ag1, hag1, h⟩ : ∃ ag, (∀ s', ag s' → ∃ m', m' < m ∧ Inv s' m') ∧ palinoderef11_Better_l1 a1 bv2 ag gv230 r := ⟨_, fun _ h => h, hS gv230 _ hI⟩
    clear hS hI
    refine xseq ?_
    refine xseq ?_
    refine xregion ?_
    refine xvalP (pv_move rfl) rfl rfl ?_
    refine xvalP (pv_bin2 rfl rfl rfl) rfl rfl ?_
    refine xnil ?_
    refine xthen ?_
    by_cases hp285 : gv230 < 10
    · replace h := h.1 hp285
      refine xcondT' (decide_eq_true hp285) rfl ?_
      refine xskipc ?_
      refine xthen ?_
      refine xseq ?_
      refine xblock ?_
      refine xseq ?_
      refine xregion ?_
      refine xvalP (pv_move rfl) rfl rfl ?_
      refine xvalP (qv_fieldAddrB FldC.h rfl) rfl rfl ?_
      obtain ⟨h309, h⟩ := h
      obtain ⟨y310, h309b, h⟩ := h
      refine xvalP (pv_indexAddrBA h309 UndC.h ShpC.h rfl rfl) rfl rfl ?_
      refine xval (qv_loadA (f := E_palinode_api_Span) (a := a1) (k := 2) (off := 0) (i := (gv230 : Int).toNat) 1 [] [] h309b sq_ so_ (by decide) (by first | rfl | exact part_all sl_) ShpC.h rfl rfl) rfl rfl ?_
      refine xalloc InfC.h rfl rfl fun b6 => ?_
      refine xstore 0 ShpC.h rfl rfl rfl rfl rfl rfl rfl ?_
      refine xnil ?_
      refine xthen ?_
      refine xseq ?_
      refine xregion ?_
      refine xvalP (pv_move rfl) rfl rfl ?_
      refine xvalP (qv_fieldAddrB FldC.h rfl) rfl rfl ?_
      obtain ⟨h311, h⟩ := h
      obtain ⟨y312, h311b, h⟩ := h
      refine xvalP (pv_indexAddrBA h311 UndC.h ShpC.h rfl rfl) rfl rfl ?_
      refine xval (qv_loadA (f := E_palinode_api_Span) (a := bv2) (k := 2) (off := 0) (i := (gv230 : Int).toNat) 1 [] [] h311b sq_ so_ (by decide) (by first | rfl | exact part_all sl_) ShpC.h rfl rfl) rfl rfl ?_
      refine xalloc InfC.h rfl rfl fun b7 => ?_
      refine xstore 0 ShpC.h rfl rfl rfl rfl rfl rfl rfl ?_
      refine xnil ?_
      refine xthen ?_
      refine xseq ?_
      refine xseq ?_
      refine xregion ?_
      refine xval (qv_loadB 1 ShpC.h rfl rfl rfl rfl) rfl rfl ?_
      refine xval (qv_loadB 0 ShpC.h rfl rfl rfl rfl) rfl rfl ?_
      refine xvalP (pv_eqAgg (f := E_palinode_api_Span) (a := y310) (b := y312) eqc_28 (by decide) (by kernel_rfl) ev_ ev_) rfl rfl ?_
      refine xnil ?_
      refine xthen ?_
      by_cases hp316 : (y310 : Int × Int) = y312
      · replace h := h.1 hp316
        refine xcondT' (decide_eq_true hp316) rfl ?_
        refine xexit ?_
        refine xthen_exit ?_
        refine xin_same rfl ?_
        refine xthen ?_
        refine xregion ?_
        refine xvalP (pv_move rfl) rfl rfl ?_
        obtain ⟨h317, h⟩ := h
        refine xvalP (pv_addI h317 rfl rfl) rfl rfl ?_
        refine xvalP (pv_assign rfl) rfl rfl ?_
        refine xnil ?_
        obtain ⟨m', hm, hI⟩ := hag1 _ h
        exact xagain ⟨(gv230 + 1), hI, rfl⟩ hm ⟨(.cons rfl (.refl _) (.cons rfl (.refl _) (.cons rfl (.refl _) (.nil _)))), (SubM.of (.drop (.drop (.keep rfl rfl (.refl _) (.keep rfl rfl (.refl _) (.nil _))))) (.nil _))⟩
      · replace h := h.2 hp316
        refine xcondF' (decide_eq_false hp316) rfl ?_
        refine xskipc ?_
        refine xthen ?_
        refine xseq ?_
        refine xseq ?_
        refine xregion ?_
        refine xvalP (qv_fieldAddrB FldC.h rfl) rfl rfl ?_
        refine xval (qv_loadB 1 ShpC.h rfl rfl rfl rfl) rfl rfl ?_
        refine xvalP (pv_bin2 rfl rfl rfl) rfl rfl ?_
        refine xnil ?_
        refine xthen ?_
        by_cases hp321 : y310.1 < 0
        · replace h := h.1 hp321
          refine xcondT' (decide_eq_true hp321) rfl ?_
          refine xseq ?_
          refine xregion ?_
          refine xvalP (pv_assign rfl) rfl rfl ?_
          refine xnil ?_
          refine xthen ?_
          refine xretc ?_
          refine xthen_ret ?_
          refine xin_ret ?_
          refine xthen_ret ?_
          refine xthen_ret ?_
          refine xin_ret ?_
          refine xthen_ret ?_
          replace h := h.symm
          subst h
          exact xret1 hg rfl rfl (.refl _) (SubM.of (.nil _) (.nil _)) ⟨rfl, rfl, rfl⟩
        · replace h := h.2 hp321
          refine xcondF' (decide_eq_false hp321) rfl ?_
          refine xskipc ?_
          refine xthen ?_
          refine xseq ?_
          refine xseq ?_
          refine xregion ?_
          refine xvalP (qv_fieldAddrB FldC.h rfl) rfl rfl ?_
          refine xval (qv_loadB 0 ShpC.h rfl rfl rfl rfl) rfl rfl ?_
          refine xvalP (pv_bin2 rfl rfl rfl) rfl rfl ?_
          refine xnil ?_
          refine xthen ?_
          by_cases hp325 : y312.1 < 0
          · replace h := h.1 hp325
            refine xcondT' (decide_eq_true hp325) rfl ?_
            refine xseq ?_
            refine xregion ?_
            refine xvalP (pv_assign rfl) rfl rfl ?_
            refine xnil ?_
            refine xthen ?_
            refine xretc ?_
            refine xthen_ret ?_
            refine xin_ret ?_
            refine xthen_ret ?_
            refine xthen_ret ?_
            refine xin_ret ?_
            refine xthen_ret ?_
            replace h := h.symm
            subst h
            exact xret1 hg rfl rfl (.refl _) (SubM.of (.nil _) (.nil _)) ⟨rfl, rfl, rfl⟩
          · replace h := h.2 hp325
            refine xcondF' (decide_eq_false hp325) rfl ?_
            refine xskipc ?_
            refine xthen ?_
            refine xseq ?_
            refine xseq ?_
            refine xregion ?_
            refine xvalP (qv_fieldAddrB FldC.h rfl) rfl rfl ?_
            refine xval (qv_loadB 1 ShpC.h rfl rfl rfl rfl) rfl rfl ?_
            refine xvalP (qv_fieldAddrB FldC.h rfl) rfl rfl ?_
            refine xval (qv_loadB 0 ShpC.h rfl rfl rfl rfl) rfl rfl ?_
            refine xvalP (pv_bin2 rfl rfl rfl) rfl rfl ?_
            refine xnil ?_
            refine xthen ?_
            by_cases hp330 : ¬ (y310.1 = y312.1)
            · replace h := h.1 hp330
              refine xcondT' (not_t (decide_eq_false hp330)) rfl ?_
              refine xseq ?_
              refine xregion ?_
              refine xvalP (qv_fieldAddrB FldC.h rfl) rfl rfl ?_
              refine xval (qv_loadB 1 ShpC.h rfl rfl rfl rfl) rfl rfl ?_
              refine xvalP (qv_fieldAddrB FldC.h rfl) rfl rfl ?_
              refine xval (qv_loadB 0 ShpC.h rfl rfl rfl rfl) rfl rfl ?_
              refine xvalP (pv_bin2 rfl rfl rfl) rfl rfl ?_
              refine xvalP (pv_assign rfl) rfl rfl ?_
              refine xnil ?_
              refine xthen ?_
              refine xretc ?_
              refine xthen_ret ?_
              refine xin_ret ?_
              refine xthen_ret ?_
              refine xthen_ret ?_
              refine xin_ret ?_
              refine xthen_ret ?_
              replace h := h.symm
              subst h
              exact xret1 hg rfl rfl (.refl _) (SubM.of (.nil _) (.nil _)) ⟨rfl, rfl, rfl⟩
            · replace h := h.2 hp330
              refine xcondF' (not_f (decide_eq_true (Decidable.of_not_not hp330))) rfl ?_
              refine xskipc ?_
              refine xthen ?_
              refine xseq ?_
              refine xregion ?_
              refine xvalP (qv_fieldAddrB FldC.h rfl) rfl rfl ?_
              refine xval (qv_loadB 1 ShpC.h rfl rfl rfl rfl) rfl rfl ?_
              refine xvalP (qv_fieldAddrB FldC.h rfl) rfl rfl ?_
              refine xval (qv_loadB 0 ShpC.h rfl rfl rfl rfl) rfl rfl ?_
              refine xvalP (pv_bin2 rfl rfl rfl) rfl rfl ?_
              refine xvalP (pv_assign rfl) rfl rfl ?_
              refine xnil ?_
              refine xthen ?_
              refine xretc ?_
              refine xin_ret ?_
              refine xthen_ret ?_
              refine xthen_ret ?_
              refine xin_ret ?_
              refine xthen_ret ?_
              replace h := h.symm
              subst h
              exact xret1 hg rfl rfl (.refl _) (SubM.of (.nil _) (.nil _)) ⟨rfl, rfl, rfl⟩
    · replace h := h.2 hp285
      refine xcondF' (decide_eq_false hp285) rfl ?_
      refine xexit ?_
      refine xthen_exit ?_
      refine xthen_exit ?_
      refine xin_same rfl ?_
      refine xthen ?_
      refine xseq ?_
      refine xregion ?_
      refine xvalP (pv_assign rfl) rfl rfl ?_
      refine xnil ?_
      refine xthen ?_
      refine xretc ?_
      replace h := h.symm
      subst h
      exact xret1 hg rfl rfl (.refl _) (SubM.of (.nil _) (.nil _)) ⟨rfl, rfl, rfl⟩
/-- palinoderef11.row -/
def palinoderef11_row_R (l1 : List (Int × Int × Int × Int)) (ahead2 : List (Int × Int × Int × Int)) (r : (List (Int × Int × Int × Int))) : Prop :=
  Room ((([] : List (Int × Int × Int × Int))).length + ahead2.length) 32 ∧ Room (((([] : List (Int × Int × Int × Int)) ++ ahead2)).length + l1.length) 32 ∧ r = ((([] : List (Int × Int × Int × Int)) ++ ahead2) ++ l1)
set_option maxHeartbeats 4000000 in
theorem palinoderef11_row_con (l1 : List (Int × Int × Int × Int)) (ahead2 : List (Int × Int × Int × Int)) (r : (List (Int × Int × Int × Int))) (h : palinoderef11_row_R l1 ahead2 r) : Con Try.prog 26 [.sl 4 none (List.map E_palinode_palinoderef11_Task l1), .sl 4 none (List.map E_palinode_palinoderef11_Task ahead2)] [] [] (RetM 4 68 E_palinode_palinoderef11_Task r) := by
  refine xenter Try.func26 rfl rfl fun g hg => ?_
  simp only [Try.ntmps26, slots]
  refine xseq ?_
  refine xregion ?_
  refine xvalP (pv_assign rfl) rfl rfl ?_
  refine xnil ?_
  refine xthen ?_
  refine xseq ?_
  refine xregion ?_
  refine xbuildSliceM (f := E_palinode_palinoderef11_Task) ([] : List (Int × Int × Int × Int)) UndC.h InfC.h rfl rfl wr_ rfl rfl rfl rfl fun s5 => ?_
  refine xvalP (pv_move rfl) rfl rfl ?_
  obtain ⟨h3, h⟩ := h
  refine xappendM (l := ([] : List (Int × Int × Int × Int))) (l2 := ahead2) 0 h3 UndC.h InfC.h rfl rfl rfl (.refl _) rfl rfl rfl fun i4 => ?_
  refine xvalP (pv_move rfl) rfl rfl ?_
  obtain ⟨h5, h⟩ := h
  refine xappendM (l := (([] : List (Int × Int × Int × Int)) ++ ahead2)) (l2 := l1) 0 h5 UndC.h InfC.h rfl rfl rfl (.refl _) rfl rfl rfl fun i6 => ?_
  refine xvalP (pv_assign rfl) rfl rfl ?_
  refine xnil ?_
  refine xthen ?_
  refine xretc ?_
  replace h := h.symm
  subst h
  exact xret1 hg rfl rfl (.refl _) (SubM.of (.nil _) (.keep rfl (.nil _))) ⟨i6, rfl, rfl, rfl⟩
/-- palinoderef05.Has -/
def palinoderef05_Has_l1 (c2 : UInt8) (ag1 : (UInt64 × UInt8) → Prop) (w57 : UInt64) (iv58 : UInt8) (r : Bool) : Prop :=
  (64 : Int) ≠ 0 ∧ ∃ c76 : UInt8, (c76.toNat : Int) = (((c2.toNat : Int)).tmod 64) ∧ (((iv58.toNat : Int) < (c76.toNat : Int) → (2 : Int) ≠ 0 ∧ ∃ c80 : UInt64, (c80.toNat : Int) = IntKind.u64.wrap (((w57.toNat : Int)).tdiv 2) ∧ ∃ c82 : UInt8, (c82.toNat : Int) = IntKind.u8.wrap ((iv58.toNat : Int) + 1) ∧ ag1 (c80, c82)) ∧ (¬ ((iv58.toNat : Int) < (c76.toNat : Int)) → (2 : Int) ≠ 0 ∧ ∃ c84 : UInt64, (c84.toNat : Int) = (((w57.toNat : Int)).tmod 2) ∧ r = (decide ((c84.toNat : Int) = 1))))
def palinoderef05_Has_R (sv1 : Arr 4 (UInt64)) (c2 : UInt8) (r : Bool) : Prop :=
  (64 : Int) ≠ 0 ∧ ∃ c4 : UInt8, (c4.toNat : Int) = IntKind.u8.wrap (((c2.toNat : Int)).tdiv 64) ∧ (0 ≤ ((c4.toNat : Int) : Int) ∧ ((c4.toNat : Int) : Int) < 4) ∧ ∃ y6 : UInt64, sv1.l[((c4.toNat : Int) : Int).toNat]? = some y6 ∧ LoopR (fun ag1 s => palinoderef05_Has_l1 c2 ag1 s.1 s.2 r) (y6, (0 : UInt8))
set_option maxHeartbeats 4000000 in
theorem palinoderef05_Has_con (sv1 : Arr 4 (UInt64)) (c2 : UInt8) (r : Bool) (h : palinoderef05_Has_R sv1 c2 r) : Con Try.prog 28 [.agg ((List.map ew sv1.l).flatten), .v (.int .u8 ((c2.toNat : Int)))] [] [] (Ret (.v (.bool r))) := by
  refine xenter Try.func28 rfl rfl fun g hg => ?_
  simp only [Try.ntmps28, slots]
  refine xseq ?_
  refine xregion ?_
  refine xbox rfl rfl rfl rfl fun b2 => ?_
  refine xvalP (pv_assign rfl) rfl rfl ?_
  refine xnil ?_
  refine xthen ?_
  refine xseq ?_
  refine xregion ?_
  refine xvalP (pv_move rfl) rfl rfl ?_
  obtain ⟨h3, h⟩ := h
  obtain ⟨c4, h3r, h⟩ := h
  refine xvalP (pv_quoW h3 h3r rfl rfl rfl) rfl rfl ?_
  obtain ⟨h5, h⟩ := h
  obtain ⟨y6, h5b, h⟩ := h
  refine xvalP (pv_indexAddrBA h5 UndC.h ShpC.h rfl rfl) rfl rfl ?_
  refine xval (qv_loadA (f := ew) (a := sv1) (k := 1) (off := 0) (i := ((c4.toNat : Int) : Int).toNat) 0 [] [] h5b sq_ so_ (by decide) rfl ShpC.h rfl rfl) rfl rfl ?_
  refine xvalP (pv_assign rfl) rfl rfl ?_
  refine xnil ?_
  refine xthen ?_
  refine xseq ?_
  refine xseq ?_
  refine xregion ?_
  refine xvalP (pv_assign rfl) rfl rfl ?_
  refine xnil ?_
  refine xthen ?_
  refine xblock ?_
  obtain ⟨Inv, ⟨m0, hI⟩, hS⟩ := h
  refine xloop (fun σ m => ∃ (w57 : UInt64), ∃ (iv58 : UInt8), Inv (w57, iv58) m ∧ σ = ⟨[(1, .v (.int .u8 ((c2.toNat : Int)))), (5, .v (.int .u64 ((w57.toNat : Int)))), (6, .v (.int .u8 ((iv58.toNat : Int))))], [], []⟩) ⟨y6, (0 : UInt8), hI, rfl⟩ ⟨(.cons rfl (.refl _) (.cons rfl (.refl _) (.cons rfl (.refl _) (.nil _)))), (SubM.of (.nil _) (.nil _))⟩ ?_
  rintro _ m ⟨w57, iv58, hI, rfl⟩
  obtain ⟨ag1, hag1, h⟩ : ∃ ag, (∀ s', ag s' → ∃ m', m' < m ∧ Inv s' m') ∧ palinoderef05_Has_l1 c2 ag w57 iv58 r := ⟨_, fun _ h => h, hS (w57, iv58) _ hI⟩
  clear hS hI
  refine xseq ?_
  refine xseq ?_
  refine xregion ?_
  refine xvalP (pv_move rfl) rfl rfl ?_
  refine xvalP (pv_move rfl) rfl rfl ?_
  obtain ⟨h75, h⟩ := h
  obtain ⟨c76, h75r, h⟩ := h
  refine xvalP (pv_remW h75 h75r rfl rfl rfl) rfl rfl ?_
  refine xvalP (pv_bin2 rfl rfl rfl) rfl rfl ?_
  refine xnil ?_
  refine xthen ?_
  by_cases hp78 : (iv58.toNat : Int) < (c76.toNat : Int)
  · replace h := h.1 hp78
    refine xcondT' (decide_eq_true hp78) rfl ?_
    refine xskipc ?_
    refine xthen ?_
    refine xseq ?_
    refine xblock ?_
    refine xregion ?_
    refine xvalP (pv_move rfl) rfl rfl ?_
    obtain ⟨h79, h⟩ := h
    obtain ⟨c80, h79r, h⟩ := h
    refine xvalP (pv_quoW h79 h79r rfl rfl rfl) rfl rfl ?_
    refine xvalP (pv_assign rfl) rfl rfl ?_
    refine xnil ?_
    refine xin_normal ?_
    refine xthen ?_
    refine xregion ?_
    refine xvalP (pv_move rfl) rfl rfl ?_
    obtain ⟨c82, h81, h⟩ := h
    refine xvalP (pv_wr h81 rfl rfl rfl) rfl rfl ?_
    refine xvalP (pv_assign rfl) rfl rfl ?_
    refine xnil ?_
    obtain ⟨m', hm, hI⟩ := hag1 _ h
    exact xagain ⟨c80, c82, hI, rfl⟩ hm ⟨(.cons rfl (.refl _) (.cons rfl (.refl _) (.cons rfl (.refl _) (.nil _)))), (SubM.of (.nil _) (.nil _))⟩
  · replace h := h.2 hp78
    refine xcondF' (decide_eq_false hp78) rfl ?_
    refine xexit ?_
    refine xthen_exit ?_
    refine xthen_exit ?_
    refine xin_same rfl ?_
    refine xthen ?_
    refine xseq ?_
    refine xregion ?_
    refine xvalP (pv_move rfl) rfl rfl ?_
    obtain ⟨h83, h⟩ := h
    obtain ⟨c84, h83r, h⟩ := h
    refine xvalP (pv_remW h83 h83r rfl rfl rfl) rfl rfl ?_
    refine xvalP (pv_bin2 rfl rfl rfl) rfl rfl ?_
    refine xvalP (pv_assign rfl) rfl rfl ?_
    refine xnil ?_
    refine xthen ?_
    refine xretc ?_
    replace h := h.symm
    subst h
    exact xret1 hg rfl rfl (.refl _) (SubM.of (.nil _) (.nil _)) ⟨rfl, rfl, rfl⟩
/-- palinoderef11.Same -/
def palinoderef11_Same_l1 (sv2 : Int × Int) (text1 : List UInt8) (atv3 : Int) (ag1 : (Int) → Prop) (iv179 : Int) (r : Int) : Prop :=
  InR (sv2.2 - sv2.1) ∧ ((iv179 < (sv2.2 - sv2.1) → InR (sv2.1 + iv179) ∧ 0 ≤ ((sv2.1 + iv179) : Int) ∧ ∃ y246 : UInt8, text1[((sv2.1 + iv179) : Int).toNat]? = some y246 ∧ InR (atv3 + iv179) ∧ 0 ≤ ((atv3 + iv179) : Int) ∧ ∃ y249 : UInt8, text1[((atv3 + iv179) : Int).toNat]? = some y249 ∧ ((¬ ((y246.toNat : Int) = (y249.toNat : Int)) → r = (-1)) ∧ (¬ (¬ ((y246.toNat : Int) = (y249.toNat : Int))) → InR (iv179 + 1) ∧ ag1 (iv179 + 1)))) ∧ (¬ (iv179 < (sv2.2 - sv2.1)) → InR (atv3 + sv2.2) ∧ InR ((atv3 + sv2.2) - sv2.1) ∧ r = ((atv3 + sv2.2) - sv2.1)))
def palinoderef11_Same_R (text1 : List UInt8) (sv2 : Int × Int) (atv3 : Int) (r : Int) : Prop :=
  ((sv2.1 < 0 → r = (-1)) ∧ (¬ (sv2.1 < 0) → InR (sv2.2 - sv2.1) ∧ InR ((text1.length : Int) - atv3) ∧ ((((text1.length : Int) - atv3) < (sv2.2 - sv2.1) → r = (-1)) ∧ (¬ (((text1.length : Int) - atv3) < (sv2.2 - sv2.1)) → LoopR (fun ag1 s => palinoderef11_Same_l1 sv2 text1 atv3 ag1 s r) 0))))
set_option maxHeartbeats 4000000 in
theorem palinoderef11_Same_con (text1 : List UInt8) (sv2 : Int × Int) (atv3 : Int) (r : Int) (h : palinoderef11_Same_R text1 sv2 atv3 r) : Con Try.prog 31 [.sl 1 none (List.map eb text1), .agg [.v (.int .i64 sv2.1), .v (.int .i64 sv2.2)], .v (.int .i64 atv3)] [] [] (Ret (.v (.int .i64 r))) := by
  refine xenter Try.func31 rfl rfl fun g hg => ?_
  simp only [Try.ntmps31, slots]
  refine xseq ?_
  refine xregion ?_
  refine xbox rfl rfl rfl rfl fun b4 => ?_
  refine xvalP (pv_assign rfl) rfl rfl ?_
  refine xnil ?_
  refine xthen ?_
  refine xseq ?_
  refine xseq ?_
  refine xregion ?_
  refine xvalP (qv_fieldAddrB FldC.h rfl) rfl rfl ?_
  refine xval (qv_loadB 0 ShpC.h rfl rfl rfl rfl) rfl rfl ?_
  refine xvalP (pv_bin2 rfl rfl rfl) rfl rfl ?_
  refine xvalP (pv_move rfl) rfl rfl ?_
  by_cases hp24 : sv2.1 < 0
  · replace h := h.1 hp24
    refine xsetB 11 (decide_eq_true hp24) rfl ?_
    refine xskip rfl rfl ?_
    refine xskip rfl rfl ?_
    refine xskip rfl rfl ?_
    refine xskip rfl rfl ?_
    refine xskip rfl rfl ?_
    refine xskip rfl rfl ?_
    refine xskip rfl rfl ?_
    refine xskip rfl rfl ?_
    refine xskip rfl rfl ?_
    refine xskip rfl rfl ?_
    refine xvalP (pv_pick rfl rfl) rfl rfl ?_
    refine xnil ?_
    refine xthen ?_
    refine xcondT rfl ?_
    refine xseq ?_
    refine xregion ?_
    refine xvalP (pv_assign rfl) rfl rfl ?_
    refine xnil ?_
    refine xthen ?_
    refine xretc ?_
    refine xthen_ret ?_
    replace h := h.symm
    subst h
    exact xret1 hg rfl rfl (.refl _) (SubM.of (.nil _) (.nil _)) ⟨rfl, rfl, rfl⟩
  · replace h := h.2 hp24
    refine xsetB 11 (decide_eq_false hp24) rfl ?_
    refine xvalP (qv_fieldAddrB FldC.h rfl) rfl rfl ?_
    refine xval (qv_loadB 0 ShpC.h rfl rfl rfl rfl) rfl rfl ?_
    refine xvalP (qv_fieldAddrB FldC.h rfl) rfl rfl ?_
    refine xval (qv_loadB 0 ShpC.h rfl rfl rfl rfl) rfl rfl ?_
    obtain ⟨h25, h⟩ := h
    refine xvalP (pv_subI h25 rfl rfl) rfl rfl ?_
    refine xvalP (pv_move rfl) rfl rfl ?_
    refine xvalP (pv_lenM UndC.h rfl) rfl rfl ?_
    refine xvalP (pv_move rfl) rfl rfl ?_
    obtain ⟨h27, h⟩ := h
    refine xvalP (pv_subI h27 rfl rfl) rfl rfl ?_
    refine xvalP (pv_bin2 rfl rfl rfl) rfl rfl ?_
    refine xvalP (pv_pick rfl rfl) rfl rfl ?_
    refine xnil ?_
    refine xthen ?_
    by_cases hp29 : ((text1.length : Int) - atv3) < (sv2.2 - sv2.1)
    · replace h := h.1 hp29
      refine xcondT' (decide_eq_true hp29) rfl ?_
      refine xseq ?_
      refine xregion ?_
      refine xvalP (pv_assign rfl) rfl rfl ?_
      refine xnil ?_
      refine xthen ?_
      refine xretc ?_
      refine xthen_ret ?_
      replace h := h.symm
      subst h
      exact xret1 hg rfl rfl (.refl _) (SubM.of (.nil _) (.nil _)) ⟨rfl, rfl, rfl⟩
    · replace h := h.2 hp29
      refine xcondF' (decide_eq_false hp29) rfl ?_
      refine xskipc ?_
      refine xthen ?_
      refine xseq ?_
      refine xseq ?_
      refine xregion ?_
      refine xvalP (pv_assign rfl) rfl rfl ?_
      refine xnil ?_
      refine xthen ?_
      refine xblock ?_
      obtain ⟨Inv, ⟨m0, hI⟩, hS⟩ := h
      refine xloop (fun σ m => ∃ (iv179 : Int), Inv iv179 m ∧ σ = ⟨[(0, .sl 1 none (List.map eb text1)), (2, .v (.int .i64 atv3)), (4, .v (.pointer (some ⟨b4, 0, none⟩))), (7, .v (.int .i64 iv179))], [⟨b4, 28, [.v (.int .i64 sv2.1), .v (.int .i64 sv2.2)]⟩], []⟩) ⟨0, hI, rfl⟩ ⟨(.cons rfl (.refl _) (.cons rfl (.refl _) (.cons rfl (.refl _) (.cons rfl (.refl _) (.nil _))))), (SubM.of (.keep rfl rfl (.refl _) (.nil _)) (.nil _))⟩ ?_
      rintro _ m ⟨iv179, hI, rfl⟩
      obtain ⟨ag1, hag1, h⟩ : ∃ ag, (∀ s', ag s' → ∃ m', m' < m ∧ Inv s' m') ∧ palinoderef11_Same_l1 sv2 text1 atv3 ag iv179 r := ⟨_, fun _ h => h, hS iv179 _ hI⟩
      clear hS hI
      refine xseq ?_
      refine xseq ?_
      refine xregion ?_
      refine xvalP (pv_move rfl) rfl rfl ?_
      refine xvalP (qv_fieldAddrB FldC.h rfl) rfl rfl ?_
      refine xval (qv_loadB 0 ShpC.h rfl rfl rfl rfl) rfl rfl ?_
      refine xvalP (qv_fieldAddrB FldC.h rfl) rfl rfl ?_
      refine xval (qv_loadB 0 ShpC.h rfl rfl rfl rfl) rfl rfl ?_
      obtain ⟨h220, h⟩ := h
      refine xvalP (pv_subI h220 rfl rfl) rfl rfl ?_
      refine xvalP (pv_bin2 rfl rfl rfl) rfl rfl ?_
      refine xnil ?_
      refine xthen ?_
      by_cases hp222 : iv179 < (sv2.2 - sv2.1)
      · replace h := h.1 hp222
        refine xcondT' (decide_eq_true hp222) rfl ?_
        refine xskipc ?_
        refine xthen ?_
        refine xseq ?_
        refine xblock ?_
        refine xseq ?_
        refine xregionD (m := 14) (by kernel_rfl) rfl ?_
        obtain ⟨h245, h⟩ := h
        obtain ⟨h247a, h⟩ := h
        obtain ⟨y246, h247b, h⟩ := h
        obtain ⟨h248, h⟩ := h
        obtain ⟨h250a, h⟩ := h
        obtain ⟨y249, h250b, h⟩ := h
        refine xpval 0 rfl (pv_move rfl) rfl rfl (by kernel_rfl) (by kernel_rfl) (by kernel_rfl) (fun _ _ _ _ h => h) ?_
        refine xpval 1 rfl (qv_fieldAddrB FldC.h rfl) rfl rfl (by kernel_rfl) (by kernel_rfl) (by kernel_rfl) (fun _ _ _ _ h => h) ?_
        refine xpval 3 rfl (pv_move rfl) rfl rfl (by kernel_rfl) (by kernel_rfl) (by kernel_rfl) (fun _ _ _ _ h => h) ?_
        refine xpval 7 rfl (pv_move rfl) rfl rfl (by kernel_rfl) (by kernel_rfl) (by kernel_rfl) (fun _ _ _ _ h => h) ?_
        refine xpval 8 rfl (pv_move rfl) rfl rfl (by kernel_rfl) (by kernel_rfl) (by kernel_rfl) (fun _ _ _ _ h => h) ?_
        refine xpval 9 rfl (pv_move rfl) rfl rfl (by kernel_rfl) (by kernel_rfl) (by kernel_rfl) (fun _ _ _ _ h => h) ?_
        refine xpval 10 rfl (pv_addI h248 rfl rfl) rfl rfl (by kernel_rfl) (by kernel_rfl) (by kernel_rfl) (fun _ _ _ _ h => h) ?_
        refine xpval 11 rfl (pv_indexAddrM h250a h250b UndC.h ShpC.h rfl rfl) rfl rfl (by kernel_rfl) (by kernel_rfl) (by kernel_rfl) (fun _ _ _ _ h => h) ?_
        refine xpvalE 2 [12] rfl (qv_loadB 0 ShpC.h rfl rfl rfl rfl) rfl rfl (by kernel_rfl) (by kernel_rfl) (by kernel_rfl) (fun _ _ _ _ h => h) ?_
        refine xpval 4 rfl (pv_addI h245 rfl rfl) rfl rfl (by kernel_rfl) (by kernel_rfl) (by kernel_rfl) (fun _ _ _ _ h => h) ?_
        refine xpval 5 rfl (pv_indexAddrM h247a h247b UndC.h ShpC.h rfl rfl) rfl rfl (by kernel_rfl) (by kernel_rfl) (by kernel_rfl) (fun _ _ _ _ h => h) ?_
        refine xpvalE 6 [12] rfl (qv_load ShpC.h rfl rfl rfl) rfl rfl (by kernel_rfl) (by kernel_rfl) (by kernel_rfl) (fun _ _ _ _ h => h) ?_
        refine xpvalE 12 [] rfl (qv_load ShpC.h rfl rfl rfl) rfl rfl (by kernel_rfl) (by kernel_rfl) (by kernel_rfl) (fun _ _ _ _ h => h) ?_
        refine xpval 13 rfl (pv_bin2 rfl rfl rfl) rfl rfl (by kernel_rfl) (by kernel_rfl) (by kernel_rfl) (fun _ _ _ _ h => h) ?_
        refine xpdone (by kernel_rfl) ?_
        refine xthen ?_
        by_cases hp252 : ¬ ((y246.toNat : Int) = (y249.toNat : Int))
        · replace h := h.1 hp252
          refine xcondT' (not_t (decide_eq_false hp252)) rfl ?_
          refine xseq ?_
          refine xregion ?_
          refine xvalP (pv_assign rfl) rfl rfl ?_
          refine xnil ?_
          refine xthen ?_
          refine xretc ?_
          refine xin_ret ?_
          refine xthen_ret ?_
          refine xthen_ret ?_
          refine xin_ret ?_
          refine xthen_ret ?_
          replace h := h.symm
          subst h
          exact xret1 hg rfl rfl (.refl _) (SubM.of (.nil _) (.nil _)) ⟨rfl, rfl, rfl⟩
        · replace h := h.2 hp252
          refine xcondF' (not_f (decide_eq_true (Decidable.of_not_not hp252))) rfl ?_
          refine xskipc ?_
          refine xin_normal ?_
          refine xthen ?_
          refine xregion ?_
          refine xvalP (pv_move rfl) rfl rfl ?_
          obtain ⟨h253, h⟩ := h
          refine xvalP (pv_addI h253 rfl rfl) rfl rfl ?_
          refine xvalP (pv_assign rfl) rfl rfl ?_
          refine xnil ?_
          obtain ⟨m', hm, hI⟩ := hag1 _ h
          exact xagain ⟨(iv179 + 1), hI, rfl⟩ hm ⟨(.cons rfl (.refl _) (.cons rfl (.refl _) (.cons rfl (.refl _) (.cons rfl (.refl _) (.nil _))))), (SubM.of (.keep rfl rfl (.refl _) (.nil _)) (.nil _))⟩
      · replace h := h.2 hp222
        refine xcondF' (decide_eq_false hp222) rfl ?_
        refine xexit ?_
        refine xthen_exit ?_
        refine xthen_exit ?_
        refine xin_same rfl ?_
        refine xthen ?_
        refine xseq ?_
        refine xregion ?_
        refine xvalP (pv_move rfl) rfl rfl ?_
        refine xvalP (qv_fieldAddrB FldC.h rfl) rfl rfl ?_
        refine xval (qv_loadB 0 ShpC.h rfl rfl rfl rfl) rfl rfl ?_
        obtain ⟨h254, h⟩ := h
        refine xvalP (pv_addI h254 rfl rfl) rfl rfl ?_
        refine xvalP (qv_fieldAddrB FldC.h rfl) rfl rfl ?_
        refine xval (qv_loadB 0 ShpC.h rfl rfl rfl rfl) rfl rfl ?_
        obtain ⟨h255, h⟩ := h
        refine xvalP (pv_subI h255 rfl rfl) rfl rfl ?_
        refine xvalP (pv_assign rfl) rfl rfl ?_
        refine xnil ?_
        refine xthen ?_
        refine xretc ?_
        replace h := h.symm
        subst h
        exact xret1 hg rfl rfl (.refl _) (SubM.of (.nil _) (.nil _)) ⟨rfl, rfl, rfl⟩
end Go.Proofs.Ytnefabncdpkbmaa
