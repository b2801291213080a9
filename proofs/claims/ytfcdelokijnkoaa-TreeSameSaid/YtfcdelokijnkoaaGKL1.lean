/- What functions' texts ask for, and the walks that show it (printed by a program). -/
import Derived.Test.YtfcdelokijnkoaaGK
namespace Go.Proofs.Ytfcdelokijnkoaa
/-- palinodelaw06.TreeSame -/
def palinodelaw06_TreeSame_j1 (a1 : (List (Int × Int × Int × Int × Int × Int × (Arr 4 (UInt64)))) × Int) (bv2 : (List (Int × Int × Int × Int × Int × Int × (Arr 4 (UInt64)))) × Int) (x22 : Bool) (r : Bool) : Prop :=
  ((x22 = true → ∃ y30 : Bool, palinodelaw06_awake_R y30 ∧ r = y30) ∧ (¬ (x22 = true) → ∃ y45 : Bool, tree_Same_R a1 bv2 y45 ∧ ∃ y47 : Bool, palinoderef06_Same_R a1 bv2 y47 ∧ (((y45 == y47) = true → ∃ y52 : Bool, tree_Same_R a1 a1 y52 ∧ ((y52 = true → ∃ y55 : Bool, palinodelaw06_awake_R y55 ∧ r = y55) ∧ (¬ (y52 = true) → r = false))) ∧ (¬ ((y45 == y47) = true) → r = false))))
def palinodelaw06_TreeSame_R (a1 : (List (Int × Int × Int × Int × Int × Int × (Arr 4 (UInt64)))) × Int) (bv2 : (List (Int × Int × Int × Int × Int × Int × (Arr 4 (UInt64)))) × Int) (r : Bool) : Prop :=
  palinodelaw06_TreeSame_j1 a1 bv2 ((decide (100 < (a1.1.length : Int))) || (decide (100 < (bv2.1.length : Int)))) r
def palinodelaw06_TreeSame_j1_ev (fuel : Nat) (a1 : (List (Int × Int × Int × Int × Int × Int × (Arr 4 (UInt64)))) × Int) (bv2 : (List (Int × Int × Int × Int × Int × Int × (Arr 4 (UInt64)))) × Int) (x22 : Bool) : Option (Bool) :=
  (if x22 = true then ((palinodelaw06_awake_ev fuel).bind fun y30 => some y30) else ((tree_Same_ev fuel a1 bv2).bind fun y45 => ((palinoderef06_Same_ev fuel a1 bv2).bind fun y47 => (if (y45 == y47) = true then ((tree_Same_ev fuel a1 a1).bind fun y52 => (if y52 = true then ((palinodelaw06_awake_ev fuel).bind fun y55 => some y55) else some false)) else some false))))
theorem palinodelaw06_TreeSame_j1_ok {fuel : Nat} {a1 : (List (Int × Int × Int × Int × Int × Int × (Arr 4 (UInt64)))) × Int} {bv2 : (List (Int × Int × Int × Int × Int × Int × (Arr 4 (UInt64)))) × Int} {x22 : Bool} {r : Bool} (h : palinodelaw06_TreeSame_j1_ev fuel a1 bv2 x22 = some r) : palinodelaw06_TreeSame_j1 a1 bv2 x22 r := by
  unfold palinodelaw06_TreeSame_j1_ev at h
  unfold palinodelaw06_TreeSame_j1
  refine ⟨fun g180 => ?_, fun g180 => ?_⟩
  · rw [if_pos g180] at h
    obtain ⟨q181, g181, h⟩ := bind_ok h
    refine ⟨q181, palinodelaw06_awake_ok g181, ?_⟩
    exact (Option.some.inj h).symm
  · rw [if_neg g180] at h
    obtain ⟨q182, g182, h⟩ := bind_ok h
    refine ⟨q182, tree_Same_ok g182, ?_⟩
    obtain ⟨q183, g183, h⟩ := bind_ok h
    refine ⟨q183, palinoderef06_Same_ok g183, ?_⟩
    refine ⟨fun g184 => ?_, fun g184 => ?_⟩
    · rw [if_pos g184] at h
      obtain ⟨q185, g185, h⟩ := bind_ok h
      refine ⟨q185, tree_Same_ok g185, ?_⟩
      refine ⟨fun g186 => ?_, fun g186 => ?_⟩
      · rw [if_pos g186] at h
        obtain ⟨q187, g187, h⟩ := bind_ok h
        refine ⟨q187, palinodelaw06_awake_ok g187, ?_⟩
        exact (Option.some.inj h).symm
      · rw [if_neg g186] at h
        exact (Option.some.inj h).symm
    · rw [if_neg g184] at h
      exact (Option.some.inj h).symm
def palinodelaw06_TreeSame_ev (fuel : Nat) (a1 : (List (Int × Int × Int × Int × Int × Int × (Arr 4 (UInt64)))) × Int) (bv2 : (List (Int × Int × Int × Int × Int × Int × (Arr 4 (UInt64)))) × Int) : Option (Bool) :=
  palinodelaw06_TreeSame_j1_ev fuel a1 bv2 ((decide (100 < (a1.1.length : Int))) || (decide (100 < (bv2.1.length : Int))))
theorem palinodelaw06_TreeSame_ok {fuel : Nat} {a1 : (List (Int × Int × Int × Int × Int × Int × (Arr 4 (UInt64)))) × Int} {bv2 : (List (Int × Int × Int × Int × Int × Int × (Arr 4 (UInt64)))) × Int} {r : Bool} (h : palinodelaw06_TreeSame_ev fuel a1 bv2 = some r) : palinodelaw06_TreeSame_R a1 bv2 r := by
  unfold palinodelaw06_TreeSame_ev at h
  unfold palinodelaw06_TreeSame_R
  exact palinodelaw06_TreeSame_j1_ok h
set_option maxHeartbeats 4000000 in
theorem palinodelaw06_TreeSame_con (a1 : (List (Int × Int × Int × Int × Int × Int × (Arr 4 (UInt64)))) × Int) (bv2 : (List (Int × Int × Int × Int × Int × Int × (Arr 4 (UInt64)))) × Int) (r : Bool) (h : palinodelaw06_TreeSame_R a1 bv2 r) : Con Try.prog 3 [.agg [.sl 10 none (List.map E_palinode_api_Node a1.1), .v (.int .i64 a1.2)], .agg [.sl 10 none (List.map E_palinode_api_Node bv2.1), .v (.int .i64 bv2.2)]] [] [] (Ret (.v (.bool r))) := by
  refine xenter Try.func3 rfl rfl fun g hg => ?_
  simp only [Try.ntmps3, slots]
  unfold palinodelaw06_TreeSame_R at h
  refine xseq ?_
  refine xregion ?_
  refine xbox rfl rfl rfl rfl fun b2 => ?_
  refine xbox rfl rfl rfl rfl fun b3 => ?_
  refine xvalP (pv_assign rfl) rfl rfl ?_
  refine xnil ?_
  refine xthen ?_
  refine xseq ?_
  refine xseqM (fun σ => ∃ (x22 : Bool), palinodelaw06_TreeSame_j1 a1 bv2 x22 r ∧ σ = ⟨[(2, .v (.pointer (some ⟨b2, 0, none⟩))), (3, .v (.pointer (some ⟨b3, 0, none⟩))), (14, .v (.bool x22))], [⟨b3, 24, [.sl 10 none (List.map E_palinode_api_Node bv2.1), .v (.int .i64 bv2.2)]⟩, ⟨b2, 24, [.sl 10 none (List.map E_palinode_api_Node a1.1), .v (.int .i64 a1.2)]⟩], []⟩) ?_ ?_
  · refine xregion ?_
    refine xvalP (qv_fieldAddrB FldC.h rfl) rfl rfl ?_
    refine xval (qv_loadB 1 ShpC.h rfl rfl rfl rfl) rfl rfl ?_
    refine xvalP (pv_lenM UndC.h rfl) rfl rfl ?_
    refine xvalP (pv_bin2 rfl rfl rfl) rfl rfl ?_
    refine xvalP (pv_move rfl) rfl rfl ?_
    by_cases hp25 : 100 < (a1.1.length : Int)
    · rw [show (decide (100 < (a1.1.length : Int))) = true from (decide_eq_true hp25), Bool.true_or] at h
      refine xsetB 9 (decide_eq_true hp25) rfl ?_
      refine xskip rfl rfl ?_
      refine xskip rfl rfl ?_
      refine xskip rfl rfl ?_
      refine xskip rfl rfl ?_
      refine xvalP (pv_pick rfl rfl) rfl rfl ?_
      refine xnil ?_
      exact xmeet ⟨true, h, rfl⟩ ⟨(.cons rfl (.refl _) (.cons rfl (.refl _) (.cons rfl (.refl _) (.nil _)))), (SubM.of (.keep rfl rfl (.refl _) (.keep rfl rfl (.refl _) (.nil _))) (.nil _))⟩
    · rw [show (decide (100 < (a1.1.length : Int))) = false from (decide_eq_false hp25), Bool.false_or] at h
      refine xsetB 9 (decide_eq_false hp25) rfl ?_
      refine xvalP (qv_fieldAddrB FldC.h rfl) rfl rfl ?_
      refine xval (qv_loadB 0 ShpC.h rfl rfl rfl rfl) rfl rfl ?_
      refine xvalP (pv_lenM UndC.h rfl) rfl rfl ?_
      refine xvalP (pv_bin2 rfl rfl rfl) rfl rfl ?_
      refine xvalP (pv_pick rfl rfl) rfl rfl ?_
      refine xnil ?_
      exact xmeet ⟨(decide (100 < (bv2.1.length : Int))), h, rfl⟩ ⟨(.cons rfl (.refl _) (.cons rfl (.refl _) (.cons rfl (.refl _) (.nil _)))), (SubM.of (.keep rfl rfl (.refl _) (.keep rfl rfl (.refl _) (.nil _))) (.nil _))⟩
  · clear h
    rintro _ ⟨x22, h, rfl⟩
    by_cases hp28 : x22 = true
    · replace h := h.1 hp28
      refine xcondT' hp28 rfl ?_
      refine xseq ?_
      refine xregion ?_
      obtain ⟨y30, h29, h⟩ := h
      refine xcall0 (palinodelaw06_awake_con _ h29) Try.func5 (by kernel_rfl) rfl .nil rfl rfl ?_
      refine xvalP (pv_assign rfl) rfl rfl ?_
      refine xnil ?_
      refine xthen ?_
      refine xretc ?_
      refine xthen_ret ?_
      replace h := h.symm
      subst h
      exact xret1 hg rfl rfl (.refl _) (SubM.of (.nil _) (.nil _)) ⟨rfl, rfl, rfl⟩
    · replace h := h.2 hp28
      refine xcondF' (b_f hp28) rfl ?_
      refine xskipc ?_
      refine xthen ?_
      refine xseq ?_
      refine xregionD (m := 16) (by kernel_rfl) rfl ?_
      obtain ⟨y45, h44, h⟩ := h
      obtain ⟨y47, h46, h⟩ := h
      refine xpcut 11 #[true, true, true, true, true, false, false, false, false, false, false, false, false, false, false, false] (fun σ => σ = ⟨[(2, .v (.pointer (some ⟨b2, 0, none⟩))), (18, .v (.bool y45)), (19, .agg [.sl 10 none (List.map E_palinode_api_Node a1.1), .v (.int .i64 a1.2)]), (20, .agg [.sl 10 none (List.map E_palinode_api_Node bv2.1), .v (.int .i64 bv2.2)])], [⟨b2, 24, [.sl 10 none (List.map E_palinode_api_Node a1.1), .v (.int .i64 a1.2)]⟩], []⟩) ?_ (fun key49 => ?_)
      · rintro _ rfl
        refine xpstep (i := 5) (by kernel_rfl) rfl ?_
        refine wcall0 (palinoderef06_Same_con a1 bv2 _ h46) Try.func7 (by kernel_rfl) rfl (.cons rfl (.refl _) (.cons rfl (.refl _) .nil)) rfl rfl ?_
        refine xpval 6 rfl (pv_eqB UndC.h rfl rfl) rfl rfl (by kernel_rfl) (by kernel_rfl) (by kernel_rfl) (fun _ _ _ _ h => h) ?_
        refine xpval 7 rfl (pv_move rfl) rfl rfl (by kernel_rfl) (by kernel_rfl) (by kernel_rfl) (fun _ _ _ _ h => h) ?_
        by_cases hp50 : (y45 == y47) = true
        · replace h := h.1 hp50
          refine psetB 23 hp50 rfl ?_
          obtain ⟨y52, h51, h⟩ := h
          refine xpvalE 8 [9] rfl (qv_loadB 0 ShpC.h rfl rfl rfl rfl) rfl rfl (by kernel_rfl) (by kernel_rfl) (by kernel_rfl) (fun _ _ _ _ h => h) ?_
          refine xpvalE 9 [] rfl (qv_loadB 0 ShpC.h rfl rfl rfl rfl) rfl rfl (by kernel_rfl) (by kernel_rfl) (by kernel_rfl) (fun _ _ _ _ h => h) ?_
          refine xpstep (i := 10) (by kernel_rfl) rfl ?_
          refine wcall0 (tree_Same_con a1 a1 _ h51) Try.func6 (by kernel_rfl) rfl (.cons rfl (.refl _) (.cons rfl (.refl _) .nil)) rfl rfl ?_
          refine xpval 11 rfl (pv_pick rfl rfl) rfl rfl (by kernel_rfl) (by kernel_rfl) (by kernel_rfl) (fun _ _ _ _ h => h) ?_
          refine xpval 12 rfl (pv_move rfl) rfl rfl (by kernel_rfl) (by kernel_rfl) (by kernel_rfl) (fun _ _ _ _ h => h) ?_
          by_cases hp53 : y52 = true
          · replace h := h.1 hp53
            refine psetB 28 hp53 rfl ?_
            obtain ⟨y55, h54, h⟩ := h
            refine xpstep (i := 13) (by kernel_rfl) rfl ?_
            refine wcall0 (palinodelaw06_awake_con _ h54) Try.func5 (by kernel_rfl) rfl .nil rfl rfl ?_
            refine xpval 14 rfl (pv_pick rfl rfl) rfl rfl (by kernel_rfl) (by kernel_rfl) (by kernel_rfl) (fun _ _ _ _ h => h) ?_
            refine xpval 15 rfl (pv_assign rfl) rfl rfl (by kernel_rfl) (by kernel_rfl) (by kernel_rfl) (fun _ _ _ _ h => h) ?_
            refine xpdone (by kernel_rfl) ?_
            refine xthen ?_
            refine xretc ?_
            replace h := h.symm
            subst h
            exact xret1 hg rfl rfl (.refl _) (SubM.of (.nil _) (.nil _)) ⟨rfl, rfl, rfl⟩
          · replace h := h.2 hp53
            refine psetB 28 (b_f hp53) rfl ?_
            refine xpskip 13 rfl rfl rfl (by kernel_rfl) (by kernel_rfl) (by kernel_rfl) (fun _ _ _ _ h => h) ?_
            refine xpval 14 rfl (pv_pick rfl rfl) rfl rfl (by kernel_rfl) (by kernel_rfl) (by kernel_rfl) (fun _ _ _ _ h => h) ?_
            refine xpval 15 rfl (pv_assign rfl) rfl rfl (by kernel_rfl) (by kernel_rfl) (by kernel_rfl) (fun _ _ _ _ h => h) ?_
            refine xpdone (by kernel_rfl) ?_
            refine xthen ?_
            refine xretc ?_
            replace h := h.symm
            subst h
            exact xret1 hg rfl rfl (.refl _) (SubM.of (.nil _) (.nil _)) ⟨rfl, rfl, rfl⟩
        · replace h := h.2 hp50
          refine psetB 23 (b_f hp50) rfl ?_
          refine xpskip 8 rfl rfl rfl (by kernel_rfl) (by kernel_rfl) (by kernel_rfl) (fun _ _ _ _ h => h) ?_
          refine xpskip 9 rfl rfl rfl (by kernel_rfl) (by kernel_rfl) (by kernel_rfl) (fun _ _ _ _ h => h) ?_
          refine xpskip 10 rfl rfl rfl (by kernel_rfl) (by kernel_rfl) (by kernel_rfl) (fun _ _ _ _ h => h) ?_
          refine xpval 11 rfl (pv_pick rfl rfl) rfl rfl (by kernel_rfl) (by kernel_rfl) (by kernel_rfl) (fun _ _ _ _ h => h) ?_
          refine xpval 12 rfl (pv_move rfl) rfl rfl (by kernel_rfl) (by kernel_rfl) (by kernel_rfl) (fun _ _ _ _ h => h) ?_
          refine xpskip 13 rfl rfl rfl (by kernel_rfl) (by kernel_rfl) (by kernel_rfl) (fun _ _ _ _ h => h) ?_
          refine xpval 14 rfl (pv_pick rfl rfl) rfl rfl (by kernel_rfl) (by kernel_rfl) (by kernel_rfl) (fun _ _ _ _ h => h) ?_
          refine xpval 15 rfl (pv_assign rfl) rfl rfl (by kernel_rfl) (by kernel_rfl) (by kernel_rfl) (fun _ _ _ _ h => h) ?_
          refine xpdone (by kernel_rfl) ?_
          refine xthen ?_
          refine xretc ?_
          replace h := h.symm
          subst h
          exact xret1 hg rfl rfl (.refl _) (SubM.of (.nil _) (.nil _)) ⟨rfl, rfl, rfl⟩
      refine xpcut 12 #[true, true, false, true, true, false, false, false, false, false, false, false, false, false, false, false] (fun σ => σ = ⟨[(2, .v (.pointer (some ⟨b2, 0, none⟩))), (16, .agg [.sl 10 none (List.map E_palinode_api_Node a1.1), .v (.int .i64 a1.2)]), (17, .agg [.sl 10 none (List.map E_palinode_api_Node bv2.1), .v (.int .i64 bv2.2)]), (19, .agg [.sl 10 none (List.map E_palinode_api_Node a1.1), .v (.int .i64 a1.2)]), (20, .agg [.sl 10 none (List.map E_palinode_api_Node bv2.1), .v (.int .i64 bv2.2)])], [⟨b2, 24, [.sl 10 none (List.map E_palinode_api_Node a1.1), .v (.int .i64 a1.2)]⟩], []⟩) ?_ (fun key56 => ?_)
      · rintro _ rfl
        refine xpstep (i := 2) (by kernel_rfl) rfl ?_
        refine wcall0 (tree_Same_con a1 bv2 _ h44) Try.func6 (by kernel_rfl) rfl (.cons rfl (.refl _) (.cons rfl (.refl _) .nil)) rfl rfl ?_
        exact xpuse key49 rfl ⟨(.cons rfl (.refl _) (.cons rfl (.refl _) (.cons rfl (.refl _) (.cons rfl (.refl _) (.nil _))))), (SubM.of (.keep rfl rfl (.refl _) (.nil _)) (.nil _))⟩ rfl (by kernel_rfl)
      refine xpvalE 0 [1, 3, 4] rfl (qv_loadB 1 ShpC.h rfl rfl rfl rfl) rfl rfl (by kernel_rfl) (by kernel_rfl) (by kernel_rfl) (fun _ _ _ _ h => h) ?_
      refine xpvalE 1 [3, 4] rfl (qv_loadB 0 ShpC.h rfl rfl rfl rfl) rfl rfl (by kernel_rfl) (by kernel_rfl) (by kernel_rfl) (fun _ _ _ _ h => h) ?_
      refine xpstepN (is := [2, 3, 4]) (by kernel_rfl) (by simp) ?_
      intro i hi; simp only [List.mem_cons, List.not_mem_nil, or_false] at hi; rcases hi with rfl | rfl | rfl
      · refine ⟨_, rfl, ?_⟩
        refine wcall0 (tree_Same_con a1 bv2 _ h44) Try.func6 (by kernel_rfl) rfl (.cons rfl (.refl _) (.cons rfl (.refl _) .nil)) rfl rfl ?_
        refine xpvalE 3 [4] rfl (qv_loadB 1 ShpC.h rfl rfl rfl rfl) rfl rfl (by kernel_rfl) (by kernel_rfl) (by kernel_rfl) (fun _ _ _ _ h => h) ?_
        refine xpvalE 4 [] rfl (qv_loadB 0 ShpC.h rfl rfl rfl rfl) rfl rfl (by kernel_rfl) (by kernel_rfl) (by kernel_rfl) (fun _ _ _ _ h => h) ?_
        exact xpuse key49 rfl ⟨(.cons rfl (.refl _) (.cons rfl (.refl _) (.cons rfl (.refl _) (.cons rfl (.refl _) (.nil _))))), (SubM.of (.drop (.keep rfl rfl (.refl _) (.nil _))) (.nil _))⟩ rfl (by kernel_rfl)
      · refine ⟨_, rfl, ?_⟩
        refine wval (qv_loadB 1 ShpC.h rfl rfl rfl rfl) rfl rfl ?_
        refine xpstepN (is := [2, 4]) (by kernel_rfl) (by simp) ?_
        intro i hi; simp only [List.mem_cons, List.not_mem_nil, or_false] at hi; rcases hi with rfl | rfl
        · refine ⟨_, rfl, ?_⟩
          refine wcall0 (tree_Same_con a1 bv2 _ h44) Try.func6 (by kernel_rfl) rfl (.cons rfl (.refl _) (.cons rfl (.refl _) .nil)) rfl rfl ?_
          refine xpvalE 4 [] rfl (qv_loadB 0 ShpC.h rfl rfl rfl rfl) rfl rfl (by kernel_rfl) (by kernel_rfl) (by kernel_rfl) (fun _ _ _ _ h => h) ?_
          exact xpuse key49 rfl ⟨(.cons rfl (.refl _) (.cons rfl (.refl _) (.cons rfl (.refl _) (.cons rfl (.refl _) (.nil _))))), (SubM.of (.drop (.keep rfl rfl (.refl _) (.nil _))) (.nil _))⟩ rfl (by kernel_rfl)
        · refine ⟨_, rfl, ?_⟩
          refine wval (qv_loadB 0 ShpC.h rfl rfl rfl rfl) rfl rfl ?_
          exact xpuse key56 rfl ⟨(.cons rfl (.refl _) (.cons rfl (.refl _) (.cons rfl (.refl _) (.cons rfl (.refl _) (.cons rfl (.refl _) (.nil _)))))), (SubM.of (.drop (.keep rfl rfl (.refl _) (.nil _))) (.nil _))⟩ rfl (by kernel_rfl)
      · refine ⟨_, rfl, ?_⟩
        refine wval (qv_loadB 0 ShpC.h rfl rfl rfl rfl) rfl rfl ?_
        refine xpstepN (is := [2, 3]) (by kernel_rfl) (by simp) ?_
        intro i hi; simp only [List.mem_cons, List.not_mem_nil, or_false] at hi; rcases hi with rfl | rfl
        · refine ⟨_, rfl, ?_⟩
          refine wcall0 (tree_Same_con a1 bv2 _ h44) Try.func6 (by kernel_rfl) rfl (.cons rfl (.refl _) (.cons rfl (.refl _) .nil)) rfl rfl ?_
          refine xpvalE 3 [] rfl (qv_loadB 1 ShpC.h rfl rfl rfl rfl) rfl rfl (by kernel_rfl) (by kernel_rfl) (by kernel_rfl) (fun _ _ _ _ h => h) ?_
          exact xpuse key49 rfl ⟨(.cons rfl (.refl _) (.cons rfl (.refl _) (.cons rfl (.refl _) (.cons rfl (.refl _) (.nil _))))), (SubM.of (.drop (.keep rfl rfl (.refl _) (.nil _))) (.nil _))⟩ rfl (by kernel_rfl)
        · refine ⟨_, rfl, ?_⟩
          refine wval (qv_loadB 1 ShpC.h rfl rfl rfl rfl) rfl rfl ?_
          exact xpuse key56 rfl ⟨(.cons rfl (.refl _) (.cons rfl (.refl _) (.cons rfl (.refl _) (.cons rfl (.refl _) (.cons rfl (.refl _) (.nil _)))))), (SubM.of (.drop (.keep rfl rfl (.refl _) (.nil _))) (.nil _))⟩ rfl (by kernel_rfl)
end Go.Proofs.Ytfcdelokijnkoaa
