/- What functions' texts ask for, and the walks that show it (printed by a program). -/
import Derived.Test.YtncnfohhjbadgaaGK
namespace Go.Proofs.Ytncnfohhjbadgaa
/-- palinodelaw12.FindApart -/
def palinodelaw12_FindApart_j3 (x499 : Int) (ag2 : (Int) → Prop) (x664 : Int) (x665 : Int) (x666 : Bool) (x667 : Int) (x668 : Bool) (f669 : Int) (f670 : Int) (r : Bool) : Prop :=
  InR (x499 + 1) ∧ ag2 (x499 + 1)
def palinodelaw12_FindApart_l2 (y32 : (List ((Arr 10 (Int × Int)))) × Int × Int) (x2 : List UInt8) (ag2 : (Int) → Prop) (x499 : Int) (r : Bool) : Prop :=
  ((x499 < (y32.1.length : Int) → 0 ≤ (x499 : Int) ∧ ∃ y671 : (Arr 10 (Int × Int)), y32.1[(x499 : Int).toNat]? = some y671 ∧ (0 ≤ (0 : Int) ∧ (0 : Int) < 10) ∧ ∃ y674 : Int × Int, y671.l[(0 : Int).toNat]? = some y674 ∧ ((y674.1 < 0 → r = false) ∧ (¬ (y674.1 < 0) → ((y674.2 < y674.1 → r = false) ∧ (¬ (y674.2 < y674.1) → (((x2.length : Int) < y674.2 → r = false) ∧ (¬ ((x2.length : Int) < y674.2) → ((0 < x499 → InR (x499 - 1) ∧ 0 ≤ ((x499 - 1) : Int) ∧ ∃ y704 : (Arr 10 (Int × Int)), y32.1[((x499 - 1) : Int).toNat]? = some y704 ∧ (0 ≤ (0 : Int) ∧ (0 : Int) < 10) ∧ ∃ y707 : Int × Int, y704.l[(0 : Int).toNat]? = some y707 ∧ ((y674.1 < y707.2 → r = false) ∧ (¬ (y674.1 < y707.2) → ((y674.1 = y674.2 → ((y674.1 = y707.2 → r = false) ∧ (¬ (y674.1 = y707.2) → palinodelaw12_FindApart_j3 x499 ag2 y674.2 y674.1 (decide (y674.2 < y674.1)) y674.2 (decide ((x2.length : Int) < y674.2)) y674.1 y674.2 r))) ∧ (¬ (y674.1 = y674.2) → palinodelaw12_FindApart_j3 x499 ag2 y674.2 y674.1 (decide (y674.2 < y674.1)) y674.2 (decide ((x2.length : Int) < y674.2)) y674.1 y674.2 r))))) ∧ (¬ (0 < x499) → palinodelaw12_FindApart_j3 x499 ag2 y674.2 y674.1 (decide (y674.2 < y674.1)) y674.2 (decide ((x2.length : Int) < y674.2)) y674.1 y674.2 r))))))))) ∧ (¬ (x499 < (y32.1.length : Int)) → ∃ y721 : Bool, palinodelaw12_awake_R y721 ∧ r = y721))
def palinodelaw12_FindApart_j1 (x1 : (List (Int × Int × Int × Int × Int × Int × (Arr 4 (UInt64)))) × Int) (x2 : List UInt8) (x22 : Bool) (r : Bool) : Prop :=
  ((x22 = true → ∃ y30 : Bool, palinodelaw12_awake_R y30 ∧ r = y30) ∧ (¬ (x22 = true) → ∃ y32 : (List ((Arr 10 (Int × Int)))) × Int × Int, find_All_R x1 x2 3000 y32 ∧ ((¬ (y32.2.2 = 0) → (((y32.1.length : Int) = 0 → ∃ y57 : Bool, palinodelaw12_awake_R y57 ∧ r = y57) ∧ (¬ ((y32.1.length : Int) = 0) → r = false))) ∧ (¬ (¬ (y32.2.2 = 0)) → LoopR (fun ag2 s => palinodelaw12_FindApart_l2 y32 x2 ag2 s r) 0))))
def palinodelaw12_FindApart_R (x1 : (List (Int × Int × Int × Int × Int × Int × (Arr 4 (UInt64)))) × Int) (x2 : List UInt8) (r : Bool) : Prop :=
  palinodelaw12_FindApart_j1 x1 x2 ((decide (40 < (x1.1.length : Int))) || (decide (10 < (x2.length : Int)))) r
def palinodelaw12_FindApart_j3_ev (fuel : Nat) (x499 : Int) (ag2e : (Int) → Option (Bool)) (x664 : Int) (x665 : Int) (x666 : Bool) (x667 : Int) (x668 : Bool) (f669 : Int) (f670 : Int) : Option (Bool) :=
  (if InR (x499 + 1) then ag2e (x499 + 1) else none)
theorem palinodelaw12_FindApart_j3_ok {fuel : Nat} {x499 : Int} {ag2 : (Int) → Prop} {ag2e : (Int) → Option (Bool)} {x664 : Int} {x665 : Int} {x666 : Bool} {x667 : Int} {x668 : Bool} {f669 : Int} {f670 : Int} {r : Bool} (hagag2 : ∀ s, ag2e s = some r → ag2 s) (h : palinodelaw12_FindApart_j3_ev fuel x499 ag2e x664 x665 x666 x667 x668 f669 f670 = some r) : palinodelaw12_FindApart_j3 x499 ag2 x664 x665 x666 x667 x668 f669 f670 r := by
  unfold palinodelaw12_FindApart_j3_ev at h
  unfold palinodelaw12_FindApart_j3
  obtain ⟨g284, h⟩ := if_ok h
  refine ⟨g284, ?_⟩
  exact hagag2 _ h
def palinodelaw12_FindApart_l2_ev (fuel : Nat) (y32 : (List ((Arr 10 (Int × Int)))) × Int × Int) (x2 : List UInt8) (ag2e : (Int) → Option (Bool)) (x499 : Int) : Option (Bool) :=
  (if x499 < (y32.1.length : Int) then (if 0 ≤ (x499 : Int) then ((y32.1[(x499 : Int).toNat]?).bind fun y671 => (if (0 ≤ (0 : Int) ∧ (0 : Int) < 10) then ((y671.l[(0 : Int).toNat]?).bind fun y674 => (if y674.1 < 0 then some false else (if y674.2 < y674.1 then some false else (if (x2.length : Int) < y674.2 then some false else (if 0 < x499 then (if InR (x499 - 1) then (if 0 ≤ ((x499 - 1) : Int) then ((y32.1[((x499 - 1) : Int).toNat]?).bind fun y704 => (if (0 ≤ (0 : Int) ∧ (0 : Int) < 10) then ((y704.l[(0 : Int).toNat]?).bind fun y707 => (if y674.1 < y707.2 then some false else (if y674.1 = y674.2 then (if y674.1 = y707.2 then some false else palinodelaw12_FindApart_j3_ev fuel x499 ag2e y674.2 y674.1 (decide (y674.2 < y674.1)) y674.2 (decide ((x2.length : Int) < y674.2)) y674.1 y674.2) else palinodelaw12_FindApart_j3_ev fuel x499 ag2e y674.2 y674.1 (decide (y674.2 < y674.1)) y674.2 (decide ((x2.length : Int) < y674.2)) y674.1 y674.2))) else none)) else none) else none) else palinodelaw12_FindApart_j3_ev fuel x499 ag2e y674.2 y674.1 (decide (y674.2 < y674.1)) y674.2 (decide ((x2.length : Int) < y674.2)) y674.1 y674.2))))) else none)) else none) else ((palinodelaw12_awake_ev fuel).bind fun y721 => some y721))
theorem palinodelaw12_FindApart_l2_ok {fuel : Nat} {y32 : (List ((Arr 10 (Int × Int)))) × Int × Int} {x2 : List UInt8} {ag2e : (Int) → Option (Bool)} {ag2 : (Int) → Prop} {x499 : Int} {r : Bool} (hagag2 : ∀ s, ag2e s = some r → ag2 s) (h : palinodelaw12_FindApart_l2_ev fuel y32 x2 ag2e x499 = some r) : palinodelaw12_FindApart_l2 y32 x2 ag2 x499 r := by
  unfold palinodelaw12_FindApart_l2_ev at h
  unfold palinodelaw12_FindApart_l2
  refine ⟨fun g285 => ?_, fun g285 => ?_⟩
  · rw [if_pos g285] at h
    obtain ⟨g286, h⟩ := if_ok h
    refine ⟨g286, ?_⟩
    obtain ⟨q287, g287, h⟩ := bind_ok h
    refine ⟨q287, g287, ?_⟩
    obtain ⟨g288, h⟩ := if_ok h
    refine ⟨g288, ?_⟩
    obtain ⟨q289, g289, h⟩ := bind_ok h
    refine ⟨q289, g289, ?_⟩
    refine ⟨fun g290 => ?_, fun g290 => ?_⟩
    · rw [if_pos g290] at h
      exact (Option.some.inj h).symm
    · rw [if_neg g290] at h
      refine ⟨fun g291 => ?_, fun g291 => ?_⟩
      · rw [if_pos g291] at h
        exact (Option.some.inj h).symm
      · rw [if_neg g291] at h
        refine ⟨fun g292 => ?_, fun g292 => ?_⟩
        · rw [if_pos g292] at h
          exact (Option.some.inj h).symm
        · rw [if_neg g292] at h
          refine ⟨fun g293 => ?_, fun g293 => ?_⟩
          · rw [if_pos g293] at h
            obtain ⟨g294, h⟩ := if_ok h
            refine ⟨g294, ?_⟩
            obtain ⟨g295, h⟩ := if_ok h
            refine ⟨g295, ?_⟩
            obtain ⟨q296, g296, h⟩ := bind_ok h
            refine ⟨q296, g296, ?_⟩
            obtain ⟨g297, h⟩ := if_ok h
            refine ⟨g297, ?_⟩
            obtain ⟨q298, g298, h⟩ := bind_ok h
            refine ⟨q298, g298, ?_⟩
            refine ⟨fun g299 => ?_, fun g299 => ?_⟩
            · rw [if_pos g299] at h
              exact (Option.some.inj h).symm
            · rw [if_neg g299] at h
              refine ⟨fun g300 => ?_, fun g300 => ?_⟩
              · rw [if_pos g300] at h
                refine ⟨fun g301 => ?_, fun g301 => ?_⟩
                · rw [if_pos g301] at h
                  exact (Option.some.inj h).symm
                · rw [if_neg g301] at h
                  exact palinodelaw12_FindApart_j3_ok hagag2 h
              · rw [if_neg g300] at h
                exact palinodelaw12_FindApart_j3_ok hagag2 h
          · rw [if_neg g293] at h
            exact palinodelaw12_FindApart_j3_ok hagag2 h
  · rw [if_neg g285] at h
    obtain ⟨q302, g302, h⟩ := bind_ok h
    refine ⟨q302, palinodelaw12_awake_ok g302, ?_⟩
    exact (Option.some.inj h).symm
def palinodelaw12_FindApart_j1_ev (fuel : Nat) (x1 : (List (Int × Int × Int × Int × Int × Int × (Arr 4 (UInt64)))) × Int) (x2 : List UInt8) (x22 : Bool) : Option (Bool) :=
  (if x22 = true then ((palinodelaw12_awake_ev fuel).bind fun y30 => some y30) else ((find_All_ev fuel x1 x2 3000).bind fun y32 => (if ¬ (y32.2.2 = 0) then (if (y32.1.length : Int) = 0 then ((palinodelaw12_awake_ev fuel).bind fun y57 => some y57) else some false) else (loopE (fun ag2e s => palinodelaw12_FindApart_l2_ev fuel y32 x2 ag2e s) fuel 0))))
theorem palinodelaw12_FindApart_j1_ok {fuel : Nat} {x1 : (List (Int × Int × Int × Int × Int × Int × (Arr 4 (UInt64)))) × Int} {x2 : List UInt8} {x22 : Bool} {r : Bool} (h : palinodelaw12_FindApart_j1_ev fuel x1 x2 x22 = some r) : palinodelaw12_FindApart_j1 x1 x2 x22 r := by
  unfold palinodelaw12_FindApart_j1_ev at h
  unfold palinodelaw12_FindApart_j1
  refine ⟨fun g303 => ?_, fun g303 => ?_⟩
  · rw [if_pos g303] at h
    obtain ⟨q304, g304, h⟩ := bind_ok h
    refine ⟨q304, palinodelaw12_awake_ok g304, ?_⟩
    exact (Option.some.inj h).symm
  · rw [if_neg g303] at h
    obtain ⟨q305, g305, h⟩ := bind_ok h
    refine ⟨q305, find_All_ok g305, ?_⟩
    refine ⟨fun g306 => ?_, fun g306 => ?_⟩
    · rw [if_pos g306] at h
      refine ⟨fun g307 => ?_, fun g307 => ?_⟩
      · rw [if_pos g307] at h
        obtain ⟨q308, g308, h⟩ := bind_ok h
        refine ⟨q308, palinodelaw12_awake_ok g308, ?_⟩
        exact (Option.some.inj h).symm
      · rw [if_neg g307] at h
        exact (Option.some.inj h).symm
    · rw [if_neg g306] at h
      refine loopE_ok ?_ h
      intro ae ag s hag h
      exact palinodelaw12_FindApart_l2_ok hag h
def palinodelaw12_FindApart_ev (fuel : Nat) (x1 : (List (Int × Int × Int × Int × Int × Int × (Arr 4 (UInt64)))) × Int) (x2 : List UInt8) : Option (Bool) :=
  palinodelaw12_FindApart_j1_ev fuel x1 x2 ((decide (40 < (x1.1.length : Int))) || (decide (10 < (x2.length : Int))))
theorem palinodelaw12_FindApart_ok {fuel : Nat} {x1 : (List (Int × Int × Int × Int × Int × Int × (Arr 4 (UInt64)))) × Int} {x2 : List UInt8} {r : Bool} (h : palinodelaw12_FindApart_ev fuel x1 x2 = some r) : palinodelaw12_FindApart_R x1 x2 r := by
  unfold palinodelaw12_FindApart_ev at h
  unfold palinodelaw12_FindApart_R
  exact palinodelaw12_FindApart_j1_ok h
set_option maxHeartbeats 4000000 in
theorem palinodelaw12_FindApart_con (x1 : (List (Int × Int × Int × Int × Int × Int × (Arr 4 (UInt64)))) × Int) (x2 : List UInt8) (r : Bool) (h : palinodelaw12_FindApart_R x1 x2 r) : Con Try.prog 6 [.agg [.sl 10 none (List.map E_palinode_api_Node x1.1), .v (.int .i64 x1.2)], .sl 1 none (List.map eb x2)] [] [] (Ret (.v (.bool r))) := by
  refine xenter Try.func6 rfl rfl fun g hg => ?_
  simp only [Try.ntmps6, slots]
  unfold palinodelaw12_FindApart_R at h
  refine xseq ?_
  refine xregion ?_
  refine xbox rfl rfl rfl rfl fun b2 => ?_
  refine xvalP (pv_assign rfl) rfl rfl ?_
  refine xnil ?_
  refine xthen ?_
  refine xseq ?_
  refine xseqM (fun σ => ∃ (x22 : Bool), palinodelaw12_FindApart_j1 x1 x2 x22 r ∧ σ = ⟨[(1, .sl 1 none (List.map eb x2)), (2, .v (.pointer (some ⟨b2, 0, none⟩))), (19, .v (.bool x22))], [⟨b2, 24, [.sl 10 none (List.map E_palinode_api_Node x1.1), .v (.int .i64 x1.2)]⟩], []⟩) ?_ ?_
  · refine xregion ?_
    refine xvalP (qv_fieldAddrB FldC.h rfl) rfl rfl ?_
    refine xval (qv_loadB 0 ShpC.h rfl rfl rfl rfl) rfl rfl ?_
    refine xvalP (pv_lenM UndC.h rfl) rfl rfl ?_
    refine xvalP (pv_bin2 rfl rfl rfl) rfl rfl ?_
    refine xvalP (pv_move rfl) rfl rfl ?_
    by_cases hp25 : 40 < (x1.1.length : Int)
    · rw [show (decide (40 < (x1.1.length : Int))) = true from (decide_eq_true hp25), Bool.true_or] at h
      refine xsetB 15 (decide_eq_true hp25) rfl ?_
      refine xskip rfl rfl ?_
      refine xskip rfl rfl ?_
      refine xskip rfl rfl ?_
      refine xvalP (pv_pick rfl rfl) rfl rfl ?_
      refine xnil ?_
      exact xmeet ⟨true, h, rfl⟩ ⟨(.cons rfl (.refl _) (.cons rfl (.refl _) (.cons rfl (.refl _) (.nil _)))), (SubM.of (.keep rfl rfl (.refl _) (.nil _)) (.nil _))⟩
    · rw [show (decide (40 < (x1.1.length : Int))) = false from (decide_eq_false hp25), Bool.false_or] at h
      refine xsetB 15 (decide_eq_false hp25) rfl ?_
      refine xvalP (pv_move rfl) rfl rfl ?_
      refine xvalP (pv_lenM UndC.h rfl) rfl rfl ?_
      refine xvalP (pv_bin2 rfl rfl rfl) rfl rfl ?_
      refine xvalP (pv_pick rfl rfl) rfl rfl ?_
      refine xnil ?_
      exact xmeet ⟨(decide (10 < (x2.length : Int))), h, rfl⟩ ⟨(.cons rfl (.refl _) (.cons rfl (.refl _) (.cons rfl (.refl _) (.nil _)))), (SubM.of (.keep rfl rfl (.refl _) (.nil _)) (.nil _))⟩
  · clear h
    rintro _ ⟨x22, h, rfl⟩
    by_cases hp28 : x22 = true
    · replace h := h.1 hp28
      refine xcondT' hp28 rfl ?_
      refine xseq ?_
      refine xregion ?_
      obtain ⟨y30, h29, h⟩ := h
      refine xcall0 (palinodelaw12_awake_con _ h29) Try.func7 (by kernel_rfl) rfl .nil rfl rfl ?_
      refine xvalP (pv_assign rfl) rfl rfl ?_
      refine xnil ?_
      refine xthen ?_
      refine xretc ?_
      refine xthen_ret ?_
      replace h := h.symm
      subst h
      exact xret1 hg rfl rfl (.refl _) (SubM.of (.nil _) (.nil _)) ⟨rfl, rfl, rfl⟩
    · replace h := h.2 hp28
      refine xcondF' (b_f hp28) rfl ?_
      refine xskipc ?_
      refine xthen ?_
      refine xseq ?_
      refine xregion ?_
      refine xval (qv_loadB 0 ShpC.h rfl rfl rfl rfl) rfl rfl ?_
      refine xvalP (pv_move rfl) rfl rfl ?_
      obtain ⟨y32, h31, h⟩ := h
      refine xcallF (Fb := [⟨b2, 24, [.sl 10 none (List.map E_palinode_api_Node x1.1), .v (.int .i64 x1.2)]⟩]) (Ft := []) (find_All_con x1 x2 3000 _ h31) Try.func11 (by kernel_rfl) rfl (.cons rfl (.refl _) (.cons rfl (.refl _) (.cons rfl (.refl _) .nil))) (by exact sm_) rfl rfl ?_
      rintro _ _ _ ⟨i33, rfl, rfl, rfl⟩
      simp only [List.nil_append, List.cons_append]
      refine xvalP (pv_move rfl) rfl rfl ?_
      refine xvalP (pv_extract rfl rfl) rfl rfl ?_
      refine xvalP (pv_extract rfl rfl) rfl rfl ?_
      refine xvalP (pv_extract rfl rfl) rfl rfl ?_
      refine xvalP (pv_assign rfl) rfl rfl ?_
      refine xvalP (pv_assign rfl) rfl rfl ?_
      refine xvalP (pv_assign rfl) rfl rfl ?_
      refine xnil ?_
      refine xthen ?_
      refine xseq ?_
      refine xseq ?_
      refine xregion ?_
      refine xvalP (pv_move rfl) rfl rfl ?_
      refine xvalP (pv_bin2 rfl rfl rfl) rfl rfl ?_
      refine xnil ?_
      refine xthen ?_
      by_cases hp47 : ¬ (y32.2.2 = 0)
      · replace h := h.1 hp47
        refine xcondT' (not_t (decide_eq_false hp47)) rfl ?_
        refine xseq ?_
        refine xregion ?_
        refine xvalP (pv_move rfl) rfl rfl ?_
        refine xvalP (pv_lenM UndC.h rfl) rfl rfl ?_
        refine xvalP (pv_bin2 rfl rfl rfl) rfl rfl ?_
        refine xvalP (pv_move rfl) rfl rfl ?_
        by_cases hp55 : (y32.1.length : Int) = 0
        · replace h := h.1 hp55
          refine xsetB 33 (decide_eq_true hp55) rfl ?_
          obtain ⟨y57, h56, h⟩ := h
          refine xcall0 (palinodelaw12_awake_con _ h56) Try.func7 (by kernel_rfl) rfl .nil rfl rfl ?_
          refine xvalP (pv_pick rfl rfl) rfl rfl ?_
          refine xvalP (pv_assign rfl) rfl rfl ?_
          refine xnil ?_
          refine xthen ?_
          refine xretc ?_
          refine xthen_ret ?_
          replace h := h.symm
          subst h
          exact xret1 hg rfl rfl (.refl _) (SubM.of (.nil _) (.nil _)) ⟨rfl, rfl, rfl⟩
        · replace h := h.2 hp55
          refine xsetB 33 (decide_eq_false hp55) rfl ?_
          refine xskip rfl rfl ?_
          refine xvalP (pv_pick rfl rfl) rfl rfl ?_
          refine xvalP (pv_assign rfl) rfl rfl ?_
          refine xnil ?_
          refine xthen ?_
          refine xretc ?_
          refine xthen_ret ?_
          replace h := h.symm
          subst h
          exact xret1 hg rfl rfl (.refl _) (SubM.of (.nil _) (.nil _)) ⟨rfl, rfl, rfl⟩
      · replace h := h.2 hp47
        refine xcondF' (not_f (decide_eq_true (Decidable.of_not_not hp47))) rfl ?_
        refine xskipc ?_
        refine xthen ?_
        refine xseq ?_
        refine xseq ?_
        refine xregion ?_
        refine xvalP (pv_assign rfl) rfl rfl ?_
        refine xnil ?_
        refine xthen ?_
        refine xblock ?_
        obtain ⟨Inv, ⟨m0, hI⟩, hS⟩ := h
        refine xloop (fun σ m => ∃ (x499 : Int), Inv x499 m ∧ σ = ⟨[(1, .sl 1 none (List.map eb x2)), (5, .sl 20 (some i33) (List.map E_palinode_api_Hit y32.1)), (8, .v (.int .i64 x499))], [], [⟨i33, 31, 20, y32.1.length⟩]⟩) ⟨0, hI, rfl⟩ ⟨(.cons rfl (.refl _) (.cons rfl (.refl _) (.cons rfl (.refl _) (.nil _)))), (SubM.of (.nil _) (.keep rfl (.nil _)))⟩ ?_
        rintro _ m ⟨x499, hI, rfl⟩
        obtain ⟨ag2, hag2, h⟩ : ∃ ag, (∀ s', ag s' → ∃ m', m' < m ∧ Inv s' m') ∧ palinodelaw12_FindApart_l2 y32 x2 ag x499 r := ⟨_, fun _ h => h, hS x499 _ hI⟩
        clear hS hI
        refine xseq ?_
        refine xseq ?_
        refine xregion ?_
        refine xvalP (pv_move rfl) rfl rfl ?_
        refine xvalP (pv_move rfl) rfl rfl ?_
        refine xvalP (pv_lenM UndC.h rfl) rfl rfl ?_
        refine xvalP (pv_bin2 rfl rfl rfl) rfl rfl ?_
        refine xnil ?_
        refine xthen ?_
        by_cases hp615 : x499 < (y32.1.length : Int)
        · replace h := h.1 hp615
          refine xcondT' (decide_eq_true hp615) rfl ?_
          refine xskipc ?_
          refine xthen ?_
          refine xseqM (fun σ => ∃ (x664 : Int), ∃ (x665 : Int), ∃ (x666 : Bool), ∃ (x667 : Int), ∃ (x668 : Bool), ∃ (f669 : Int), ∃ (f670 : Int), ∃ (b9 : Nat), palinodelaw12_FindApart_j3 x499 ag2 x664 x665 x666 x667 x668 f669 f670 r ∧ σ = ⟨[(1, .sl 1 none (List.map eb x2)), (5, .sl 20 (some i33) (List.map E_palinode_api_Hit y32.1)), (8, .v (.int .i64 x499)), (52, .v (.pointer (some ⟨b9, 1, none⟩))), (53, .v (.int .i64 x664)), (54, .v (.pointer (some ⟨b9, 0, none⟩))), (55, .v (.int .i64 x665)), (56, .v (.bool x666)), (59, .v (.pointer (some ⟨b9, 1, none⟩))), (60, .v (.int .i64 x667)), (61, .sl 1 none (List.map eb x2)), (62, .v (.int .i64 ((x2.length : Int)))), (63, .v (.bool x668))], [⟨b9, 28, [.v (.int .i64 f669), .v (.int .i64 f670)]⟩], [⟨i33, 31, 20, y32.1.length⟩]⟩) ?_ ?_
          · refine xblock ?_
            refine xseq ?_
            refine xregion ?_
            refine xvalP (pv_move rfl) rfl rfl ?_
            refine xvalP (pv_move rfl) rfl rfl ?_
            obtain ⟨h672a, h⟩ := h
            obtain ⟨y671, h672b, h⟩ := h
            refine xvalP (pv_indexAddrM h672a h672b UndC.h ShpC.h rfl rfl) rfl rfl ?_
            refine xvalP (qv_fieldAddrE FldC.h rfl) rfl rfl ?_
            obtain ⟨h673, h⟩ := h
            obtain ⟨y674, h673b, h⟩ := h
            refine xvalP (pv_indexAddrEA (f := E_palinode_api_Span) (a := y671) [] h673 h673b sq_ UndC.h ShpC.h rfl rfl) rfl rfl ?_
            refine xval (qv_load ShpC.h rfl rfl rfl) rfl rfl ?_
            refine xalloc InfC.h rfl rfl fun b9 => ?_
            refine xstore 0 ShpC.h rfl rfl rfl rfl rfl rfl rfl ?_
            refine xnil ?_
            refine xthen ?_
            refine xseq ?_
            refine xseq ?_
            refine xregion ?_
            refine xvalP (qv_fieldAddrB FldC.h rfl) rfl rfl ?_
            refine xval (qv_loadB 0 ShpC.h rfl rfl rfl rfl) rfl rfl ?_
            refine xvalP (pv_bin2 rfl rfl rfl) rfl rfl ?_
            refine xvalP (pv_move rfl) rfl rfl ?_
            by_cases hp695 : y674.1 < 0
            · replace h := h.1 hp695
              refine xsetB 51 (decide_eq_true hp695) rfl ?_
              refine xskip rfl rfl ?_
              refine xskip rfl rfl ?_
              refine xskip rfl rfl ?_
              refine xskip rfl rfl ?_
              refine xskip rfl rfl ?_
              refine xvalP (pv_pick rfl rfl) rfl rfl ?_
              refine xvalP (pv_move rfl) rfl rfl ?_
              refine xskip rfl rfl ?_
              refine xskip rfl rfl ?_
              refine xskip rfl rfl ?_
              refine xskip rfl rfl ?_
              refine xskip rfl rfl ?_
              refine xvalP (pv_pick rfl rfl) rfl rfl ?_
              refine xnil ?_
              refine xthen ?_
              refine xcondT rfl ?_
              refine xseq ?_
              refine xregion ?_
              refine xvalP (pv_assign rfl) rfl rfl ?_
              refine xnil ?_
              refine xthen ?_
              refine xretc ?_
              refine xthen_ret ?_
              refine xin_ret ?_
              refine xthen_ret ?_
              refine xthen_ret ?_
              refine xin_ret ?_
              refine xthen_ret ?_
              replace h := h.symm
              subst h
              exact xret1 hg rfl rfl (.refl _) (SubM.of (.nil _) (.nil _)) ⟨rfl, rfl, rfl⟩
            · replace h := h.2 hp695
              refine xsetB 51 (decide_eq_false hp695) rfl ?_
              refine xvalP (qv_fieldAddrB FldC.h rfl) rfl rfl ?_
              refine xval (qv_loadB 0 ShpC.h rfl rfl rfl rfl) rfl rfl ?_
              refine xvalP (qv_fieldAddrB FldC.h rfl) rfl rfl ?_
              refine xval (qv_loadB 0 ShpC.h rfl rfl rfl rfl) rfl rfl ?_
              refine xvalP (pv_bin2 rfl rfl rfl) rfl rfl ?_
              refine xvalP (pv_pick rfl rfl) rfl rfl ?_
              refine xvalP (pv_move rfl) rfl rfl ?_
              by_cases hp697 : y674.2 < y674.1
              · replace h := h.1 hp697
                refine xsetB 58 (decide_eq_true hp697) rfl ?_
                refine xskip rfl rfl ?_
                refine xskip rfl rfl ?_
                refine xskip rfl rfl ?_
                refine xskip rfl rfl ?_
                refine xskip rfl rfl ?_
                refine xvalP (pv_pick rfl rfl) rfl rfl ?_
                refine xnil ?_
                refine xthen ?_
                refine xcondT rfl ?_
                refine xseq ?_
                refine xregion ?_
                refine xvalP (pv_assign rfl) rfl rfl ?_
                refine xnil ?_
                refine xthen ?_
                refine xretc ?_
                refine xthen_ret ?_
                refine xin_ret ?_
                refine xthen_ret ?_
                refine xthen_ret ?_
                refine xin_ret ?_
                refine xthen_ret ?_
                replace h := h.symm
                subst h
                exact xret1 hg rfl rfl (.refl _) (SubM.of (.nil _) (.nil _)) ⟨rfl, rfl, rfl⟩
              · replace h := h.2 hp697
                refine xsetB 58 (decide_eq_false hp697) rfl ?_
                refine xvalP (qv_fieldAddrB FldC.h rfl) rfl rfl ?_
                refine xval (qv_loadB 0 ShpC.h rfl rfl rfl rfl) rfl rfl ?_
                refine xvalP (pv_move rfl) rfl rfl ?_
                refine xvalP (pv_lenM UndC.h rfl) rfl rfl ?_
                refine xvalP (pv_bin2 rfl rfl rfl) rfl rfl ?_
                refine xvalP (pv_pick rfl rfl) rfl rfl ?_
                refine xnil ?_
                refine xthen ?_
                by_cases hp700 : (x2.length : Int) < y674.2
                · replace h := h.1 hp700
                  refine xcondT' (decide_eq_true hp700) rfl ?_
                  refine xseq ?_
                  refine xregion ?_
                  refine xvalP (pv_assign rfl) rfl rfl ?_
                  refine xnil ?_
                  refine xthen ?_
                  refine xretc ?_
                  refine xthen_ret ?_
                  refine xin_ret ?_
                  refine xthen_ret ?_
                  refine xthen_ret ?_
                  refine xin_ret ?_
                  refine xthen_ret ?_
                  replace h := h.symm
                  subst h
                  exact xret1 hg rfl rfl (.refl _) (SubM.of (.nil _) (.nil _)) ⟨rfl, rfl, rfl⟩
                · replace h := h.2 hp700
                  refine xcondF' (decide_eq_false hp700) rfl ?_
                  refine xskipc ?_
                  refine xthen ?_
                  refine xseq ?_
                  refine xregion ?_
                  refine xvalP (pv_move rfl) rfl rfl ?_
                  refine xvalP (pv_bin2 rfl rfl rfl) rfl rfl ?_
                  refine xnil ?_
                  refine xthen ?_
                  by_cases hp702 : 0 < x499
                  · replace h := h.1 hp702
                    refine xcondT' (decide_eq_true hp702) rfl ?_
                    refine xseq ?_
                    refine xregion ?_
                    refine xvalP (pv_move rfl) rfl rfl ?_
                    refine xvalP (pv_move rfl) rfl rfl ?_
                    obtain ⟨h703, h⟩ := h
                    refine xvalP (pv_subI h703 rfl rfl) rfl rfl ?_
                    obtain ⟨h705a, h⟩ := h
                    obtain ⟨y704, h705b, h⟩ := h
                    refine xvalP (pv_indexAddrM h705a h705b UndC.h ShpC.h rfl rfl) rfl rfl ?_
                    refine xvalP (qv_fieldAddrE FldC.h rfl) rfl rfl ?_
                    obtain ⟨h706, h⟩ := h
                    obtain ⟨y707, h706b, h⟩ := h
                    refine xvalP (pv_indexAddrEA (f := E_palinode_api_Span) (a := y704) [] h706 h706b sq_ UndC.h ShpC.h rfl rfl) rfl rfl ?_
                    refine xval (qv_load ShpC.h rfl rfl rfl) rfl rfl ?_
                    refine xalloc InfC.h rfl rfl fun b10 => ?_
                    refine xstore 0 ShpC.h rfl rfl rfl rfl rfl rfl rfl ?_
                    refine xnil ?_
                    refine xthen ?_
                    refine xseq ?_
                    refine xregion ?_
                    refine xvalP (qv_fieldAddrB FldC.h rfl) rfl rfl ?_
                    refine xval (qv_loadB 1 ShpC.h rfl rfl rfl rfl) rfl rfl ?_
                    refine xvalP (qv_fieldAddrB FldC.h rfl) rfl rfl ?_
                    refine xval (qv_loadB 0 ShpC.h rfl rfl rfl rfl) rfl rfl ?_
                    refine xvalP (pv_bin2 rfl rfl rfl) rfl rfl ?_
                    refine xvalP (pv_move rfl) rfl rfl ?_
                    by_cases hp714 : y674.1 < y707.2
                    · replace h := h.1 hp714
                      refine xsetB 79 (decide_eq_true hp714) rfl ?_
                      refine xskip rfl rfl ?_
                      refine xskip rfl rfl ?_
                      refine xskip rfl rfl ?_
                      refine xskip rfl rfl ?_
                      refine xskip rfl rfl ?_
                      refine xskip rfl rfl ?_
                      refine xskip rfl rfl ?_
                      refine xskip rfl rfl ?_
                      refine xskip rfl rfl ?_
                      refine xskip rfl rfl ?_
                      refine xskip rfl rfl ?_
                      refine xskip rfl rfl ?_
                      refine xvalP (pv_pick rfl rfl) rfl rfl ?_
                      refine xnil ?_
                      refine xthen ?_
                      refine xcondT rfl ?_
                      refine xseq ?_
                      refine xregion ?_
                      refine xvalP (pv_assign rfl) rfl rfl ?_
                      refine xnil ?_
                      refine xthen ?_
                      refine xretc ?_
                      refine xin_ret ?_
                      refine xthen_ret ?_
                      refine xthen_ret ?_
                      refine xin_ret ?_
                      refine xthen_ret ?_
                      replace h := h.symm
                      subst h
                      exact xret1 hg rfl rfl (.refl _) (SubM.of (.nil _) (.nil _)) ⟨rfl, rfl, rfl⟩
                    · replace h := h.2 hp714
                      refine xsetB 79 (decide_eq_false hp714) rfl ?_
                      refine xvalP (qv_fieldAddrB FldC.h rfl) rfl rfl ?_
                      refine xval (qv_loadB 1 ShpC.h rfl rfl rfl rfl) rfl rfl ?_
                      refine xvalP (qv_fieldAddrB FldC.h rfl) rfl rfl ?_
                      refine xval (qv_loadB 1 ShpC.h rfl rfl rfl rfl) rfl rfl ?_
                      refine xvalP (pv_bin2 rfl rfl rfl) rfl rfl ?_
                      refine xvalP (pv_move rfl) rfl rfl ?_
                      by_cases hp716 : y674.1 = y674.2
                      · replace h := h.1 hp716
                        refine xsetB 85 (decide_eq_true hp716) rfl ?_
                        refine xvalP (qv_fieldAddrB FldC.h rfl) rfl rfl ?_
                        refine xval (qv_loadB 1 ShpC.h rfl rfl rfl rfl) rfl rfl ?_
                        refine xvalP (qv_fieldAddrB FldC.h rfl) rfl rfl ?_
                        refine xval (qv_loadB 0 ShpC.h rfl rfl rfl rfl) rfl rfl ?_
                        refine xvalP (pv_bin2 rfl rfl rfl) rfl rfl ?_
                        refine xvalP (pv_pick rfl rfl) rfl rfl ?_
                        refine xvalP (pv_pick rfl rfl) rfl rfl ?_
                        refine xnil ?_
                        refine xthen ?_
                        by_cases hp718 : y674.1 = y707.2
                        · replace h := h.1 hp718
                          refine xcondT' (decide_eq_true hp718) rfl ?_
                          refine xseq ?_
                          refine xregion ?_
                          refine xvalP (pv_assign rfl) rfl rfl ?_
                          refine xnil ?_
                          refine xthen ?_
                          refine xretc ?_
                          refine xin_ret ?_
                          refine xthen_ret ?_
                          refine xthen_ret ?_
                          refine xin_ret ?_
                          refine xthen_ret ?_
                          replace h := h.symm
                          subst h
                          exact xret1 hg rfl rfl (.refl _) (SubM.of (.nil _) (.nil _)) ⟨rfl, rfl, rfl⟩
                        · replace h := h.2 hp718
                          refine xcondF' (decide_eq_false hp718) rfl ?_
                          refine xskipc ?_
                          refine xin_normal ?_
                          exact xmeet ⟨y674.2, y674.1, (decide (y674.2 < y674.1)), y674.2, (decide ((x2.length : Int) < y674.2)), y674.1, y674.2, b9, h, rfl⟩ ⟨(.cons rfl (.refl _) (.cons rfl (.refl _) (.cons rfl (.refl _) (.cons rfl (.refl _) (.cons rfl (.refl _) (.cons rfl (.refl _) (.cons rfl (.refl _) (.cons rfl (.refl _) (.cons rfl (.refl _) (.cons rfl (.refl _) (.cons rfl (.refl _) (.cons rfl (.refl _) (.cons rfl (.refl _) (.nil _)))))))))))))), (SubM.of (.drop (.keep rfl rfl (.refl _) (.nil _))) (.keep rfl (.nil _)))⟩
                      · replace h := h.2 hp716
                        refine xsetB 85 (decide_eq_false hp716) rfl ?_
                        refine xskip rfl rfl ?_
                        refine xskip rfl rfl ?_
                        refine xskip rfl rfl ?_
                        refine xskip rfl rfl ?_
                        refine xskip rfl rfl ?_
                        refine xvalP (pv_pick rfl rfl) rfl rfl ?_
                        refine xvalP (pv_pick rfl rfl) rfl rfl ?_
                        refine xnil ?_
                        refine xthen ?_
                        refine xcondF rfl ?_
                        refine xskipc ?_
                        refine xin_normal ?_
                        exact xmeet ⟨y674.2, y674.1, (decide (y674.2 < y674.1)), y674.2, (decide ((x2.length : Int) < y674.2)), y674.1, y674.2, b9, h, rfl⟩ ⟨(.cons rfl (.refl _) (.cons rfl (.refl _) (.cons rfl (.refl _) (.cons rfl (.refl _) (.cons rfl (.refl _) (.cons rfl (.refl _) (.cons rfl (.refl _) (.cons rfl (.refl _) (.cons rfl (.refl _) (.cons rfl (.refl _) (.cons rfl (.refl _) (.cons rfl (.refl _) (.cons rfl (.refl _) (.nil _)))))))))))))), (SubM.of (.drop (.keep rfl rfl (.refl _) (.nil _))) (.keep rfl (.nil _)))⟩
                  · replace h := h.2 hp702
                    refine xcondF' (decide_eq_false hp702) rfl ?_
                    refine xskipc ?_
                    refine xin_normal ?_
                    exact xmeet ⟨y674.2, y674.1, (decide (y674.2 < y674.1)), y674.2, (decide ((x2.length : Int) < y674.2)), y674.1, y674.2, b9, h, rfl⟩ ⟨(.cons rfl (.refl _) (.cons rfl (.refl _) (.cons rfl (.refl _) (.cons rfl (.refl _) (.cons rfl (.refl _) (.cons rfl (.refl _) (.cons rfl (.refl _) (.cons rfl (.refl _) (.cons rfl (.refl _) (.cons rfl (.refl _) (.cons rfl (.refl _) (.cons rfl (.refl _) (.cons rfl (.refl _) (.nil _)))))))))))))), (SubM.of (.keep rfl rfl (.refl _) (.nil _)) (.keep rfl (.nil _)))⟩
          · clear h
            rintro _ ⟨x664, x665, x666, x667, x668, f669, f670, b9, h, rfl⟩
            refine xregion ?_
            refine xvalP (pv_move rfl) rfl rfl ?_
            obtain ⟨h719, h⟩ := h
            refine xvalP (pv_addI h719 rfl rfl) rfl rfl ?_
            refine xvalP (pv_assign rfl) rfl rfl ?_
            refine xnil ?_
            obtain ⟨m', hm, hI⟩ := hag2 _ h
            exact xagain ⟨(x499 + 1), hI, rfl⟩ hm ⟨(.cons rfl (.refl _) (.cons rfl (.refl _) (.cons rfl (.refl _) (.nil _)))), (SubM.of (.nil _) (.keep rfl (.nil _)))⟩
        · replace h := h.2 hp615
          refine xcondF' (decide_eq_false hp615) rfl ?_
          refine xexit ?_
          refine xthen_exit ?_
          refine xthen_exit ?_
          refine xin_same rfl ?_
          refine xthen ?_
          refine xseq ?_
          refine xregion ?_
          obtain ⟨y721, h720, h⟩ := h
          refine xcall0 (palinodelaw12_awake_con _ h720) Try.func7 (by kernel_rfl) rfl .nil rfl rfl ?_
          refine xvalP (pv_assign rfl) rfl rfl ?_
          refine xnil ?_
          refine xthen ?_
          refine xretc ?_
          replace h := h.symm
          subst h
          exact xret1 hg rfl rfl (.refl _) (SubM.of (.nil _) (.nil _)) ⟨rfl, rfl, rfl⟩
end Go.Proofs.Ytncnfohhjbadgaa
