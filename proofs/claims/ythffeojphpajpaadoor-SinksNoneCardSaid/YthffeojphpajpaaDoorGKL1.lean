/- What functions' texts ask for, and the walks that show it (printed by a program). -/
import Derived.Test.YthffeojphpajpaaDoorGK
namespace Go.Proofs.YthffeojphpajpaaDoor
/-- palinodelaw19.SinksNone -/
def palinodelaw19_SinksNone_j1 (x1 : List UInt8) (x2 : Int) (x84 : Bool) (r : Bool) : Prop :=
  ((x84 = true → r = false) ∧ (¬ (x84 = true) → ∃ y110 : (List UInt8), palinoderef01_Copy_R x1 y110 ∧ Room (y110.length + ([(1 : UInt8), (2 : UInt8), (3 : UInt8)]).length) 1 ∧ (0 ≤ ((x1.length : Int) : Int) ∧ ((x1.length : Int) : Int) ≤ (((y110 ++ [(1 : UInt8), (2 : UInt8), (3 : UInt8)])).length : Int)) ∧ ∃ y151 : Int × (List UInt8) × Bool, sinks_Sink_Text_v2_R false 500 ([] : List UInt8) (((y110 ++ [(1 : UInt8), (2 : UInt8), (3 : UInt8)])).take ((x1.length : Int) : Int).toNat) y151 ∧ ((¬ (y151.1 = 0) → r = false) ∧ (¬ (¬ (y151.1 = 0)) → ∃ y156 : Int × (List UInt8) × Bool, sinks_Sink_Number_v2_R y151.2.2 500 y151.2.1 x2 y156 ∧ ((¬ (y156.1 = 0) → r = false) ∧ (¬ (¬ (y156.1 = 0)) → ∃ y171 : (List UInt8), palinoderef01_Copy_R x1 y171 ∧ Room (y171.length + ([(1 : UInt8), (2 : UInt8), (3 : UInt8)]).length) 1 ∧ ∃ y176 : Bool, palinoderef01_Same_R (y110 ++ [(1 : UInt8), (2 : UInt8), (3 : UInt8)]) (y171 ++ [(1 : UInt8), (2 : UInt8), (3 : UInt8)]) y176 ∧ ((y176 = true → ∃ y179 : Bool, palinodelaw19_awake_R y179 ∧ r = y179) ∧ (¬ (y176 = true) → r = false))))))))
def palinodelaw19_SinksNone_R (x1 : List UInt8) (x2 : Int) (r : Bool) : Prop :=
  ((60 < (x1.length : Int) → ∃ y12 : Bool, palinodelaw19_awake_R y12 ∧ r = y12) ∧ (¬ (60 < (x1.length : Int)) → ∃ y86 : Int, sinks_Sink_Line_v2_R (x1, false) y86 ∧ ((¬ (y86 = 1) → palinodelaw19_SinksNone_j1 x1 x2 true r) ∧ (¬ (¬ (y86 = 1)) → ∃ y90 : Int, sinks_Sink_Lines_R ([] : List ((List UInt8) × Bool)) y90 ∧ ((¬ (y90 = 1) → palinodelaw19_SinksNone_j1 x1 x2 true r) ∧ (¬ (¬ (y90 = 1)) → ∃ y94 : Int, sinks_Sink_Text_R x1 y94 ∧ ((¬ (y94 = 1) → palinodelaw19_SinksNone_j1 x1 x2 true r) ∧ (¬ (¬ (y94 = 1)) → ∃ y98 : Int, sinks_Sink_Text_R ([] : List UInt8) y98 ∧ ((¬ (y98 = 1) → palinodelaw19_SinksNone_j1 x1 x2 true r) ∧ (¬ (¬ (y98 = 1)) → ∃ y102 : Int, sinks_Sink_Number_R x2 y102 ∧ ((¬ (y102 = 1) → palinodelaw19_SinksNone_j1 x1 x2 true r) ∧ (¬ (¬ (y102 = 1)) → ∃ y106 : Unit, sinks_Sink_Copy_R y106 ∧ palinodelaw19_SinksNone_j1 x1 x2 false r))))))))))))
def palinodelaw19_SinksNone_j1_ev (fuel : Nat) (x1 : List UInt8) (x2 : Int) (x84 : Bool) : Option (Bool) :=
  (if x84 = true then some false else ((palinoderef01_Copy_ev fuel x1).bind fun y110 => (if Room (y110.length + ([(1 : UInt8), (2 : UInt8), (3 : UInt8)]).length) 1 then (if (0 ≤ ((x1.length : Int) : Int) ∧ ((x1.length : Int) : Int) ≤ (((y110 ++ [(1 : UInt8), (2 : UInt8), (3 : UInt8)])).length : Int)) then ((sinks_Sink_Text_v2_ev fuel false 500 ([] : List UInt8) (((y110 ++ [(1 : UInt8), (2 : UInt8), (3 : UInt8)])).take ((x1.length : Int) : Int).toNat)).bind fun y151 => (if ¬ (y151.1 = 0) then some false else ((sinks_Sink_Number_v2_ev fuel y151.2.2 500 y151.2.1 x2).bind fun y156 => (if ¬ (y156.1 = 0) then some false else ((palinoderef01_Copy_ev fuel x1).bind fun y171 => (if Room (y171.length + ([(1 : UInt8), (2 : UInt8), (3 : UInt8)]).length) 1 then ((palinoderef01_Same_ev fuel (y110 ++ [(1 : UInt8), (2 : UInt8), (3 : UInt8)]) (y171 ++ [(1 : UInt8), (2 : UInt8), (3 : UInt8)])).bind fun y176 => (if y176 = true then ((palinodelaw19_awake_ev fuel).bind fun y179 => some y179) else some false)) else none)))))) else none) else none)))
theorem palinodelaw19_SinksNone_j1_ok {fuel : Nat} {x1 : List UInt8} {x2 : Int} {x84 : Bool} {r : Bool} (h : palinodelaw19_SinksNone_j1_ev fuel x1 x2 x84 = some r) : palinodelaw19_SinksNone_j1 x1 x2 x84 r := by
  unfold palinodelaw19_SinksNone_j1_ev at h
  unfold palinodelaw19_SinksNone_j1
  refine ⟨fun g51 => ?_, fun g51 => ?_⟩
  · rw [if_pos g51] at h
    exact (Option.some.inj h).symm
  · rw [if_neg g51] at h
    obtain ⟨q52, g52, h⟩ := bind_ok h
    refine ⟨q52, palinoderef01_Copy_ok g52, ?_⟩
    obtain ⟨g53, h⟩ := if_ok h
    refine ⟨g53, ?_⟩
    obtain ⟨g54, h⟩ := if_ok h
    refine ⟨g54, ?_⟩
    obtain ⟨q55, g55, h⟩ := bind_ok h
    refine ⟨q55, sinks_Sink_Text_v2_ok g55, ?_⟩
    refine ⟨fun g56 => ?_, fun g56 => ?_⟩
    · rw [if_pos g56] at h
      exact (Option.some.inj h).symm
    · rw [if_neg g56] at h
      obtain ⟨q57, g57, h⟩ := bind_ok h
      refine ⟨q57, sinks_Sink_Number_v2_ok g57, ?_⟩
      refine ⟨fun g58 => ?_, fun g58 => ?_⟩
      · rw [if_pos g58] at h
        exact (Option.some.inj h).symm
      · rw [if_neg g58] at h
        obtain ⟨q59, g59, h⟩ := bind_ok h
        refine ⟨q59, palinoderef01_Copy_ok g59, ?_⟩
        obtain ⟨g60, h⟩ := if_ok h
        refine ⟨g60, ?_⟩
        obtain ⟨q61, g61, h⟩ := bind_ok h
        refine ⟨q61, palinoderef01_Same_ok g61, ?_⟩
        refine ⟨fun g62 => ?_, fun g62 => ?_⟩
        · rw [if_pos g62] at h
          obtain ⟨q63, g63, h⟩ := bind_ok h
          refine ⟨q63, palinodelaw19_awake_ok g63, ?_⟩
          exact (Option.some.inj h).symm
        · rw [if_neg g62] at h
          exact (Option.some.inj h).symm
def palinodelaw19_SinksNone_ev (fuel : Nat) (x1 : List UInt8) (x2 : Int) : Option (Bool) :=
  (if 60 < (x1.length : Int) then ((palinodelaw19_awake_ev fuel).bind fun y12 => some y12) else ((sinks_Sink_Line_v2_ev fuel (x1, false)).bind fun y86 => (if ¬ (y86 = 1) then palinodelaw19_SinksNone_j1_ev fuel x1 x2 true else ((sinks_Sink_Lines_ev fuel ([] : List ((List UInt8) × Bool))).bind fun y90 => (if ¬ (y90 = 1) then palinodelaw19_SinksNone_j1_ev fuel x1 x2 true else ((sinks_Sink_Text_ev fuel x1).bind fun y94 => (if ¬ (y94 = 1) then palinodelaw19_SinksNone_j1_ev fuel x1 x2 true else ((sinks_Sink_Text_ev fuel ([] : List UInt8)).bind fun y98 => (if ¬ (y98 = 1) then palinodelaw19_SinksNone_j1_ev fuel x1 x2 true else ((sinks_Sink_Number_ev fuel x2).bind fun y102 => (if ¬ (y102 = 1) then palinodelaw19_SinksNone_j1_ev fuel x1 x2 true else ((sinks_Sink_Copy_ev fuel).bind fun y106 => palinodelaw19_SinksNone_j1_ev fuel x1 x2 false))))))))))))
theorem palinodelaw19_SinksNone_ok {fuel : Nat} {x1 : List UInt8} {x2 : Int} {r : Bool} (h : palinodelaw19_SinksNone_ev fuel x1 x2 = some r) : palinodelaw19_SinksNone_R x1 x2 r := by
  unfold palinodelaw19_SinksNone_ev at h
  unfold palinodelaw19_SinksNone_R
  refine ⟨fun g64 => ?_, fun g64 => ?_⟩
  · rw [if_pos g64] at h
    obtain ⟨q65, g65, h⟩ := bind_ok h
    refine ⟨q65, palinodelaw19_awake_ok g65, ?_⟩
    exact (Option.some.inj h).symm
  · rw [if_neg g64] at h
    obtain ⟨q66, g66, h⟩ := bind_ok h
    refine ⟨q66, sinks_Sink_Line_v2_ok g66, ?_⟩
    refine ⟨fun g67 => ?_, fun g67 => ?_⟩
    · rw [if_pos g67] at h
      exact palinodelaw19_SinksNone_j1_ok h
    · rw [if_neg g67] at h
      obtain ⟨q68, g68, h⟩ := bind_ok h
      refine ⟨q68, sinks_Sink_Lines_ok g68, ?_⟩
      refine ⟨fun g69 => ?_, fun g69 => ?_⟩
      · rw [if_pos g69] at h
        exact palinodelaw19_SinksNone_j1_ok h
      · rw [if_neg g69] at h
        obtain ⟨q70, g70, h⟩ := bind_ok h
        refine ⟨q70, sinks_Sink_Text_ok g70, ?_⟩
        refine ⟨fun g71 => ?_, fun g71 => ?_⟩
        · rw [if_pos g71] at h
          exact palinodelaw19_SinksNone_j1_ok h
        · rw [if_neg g71] at h
          obtain ⟨q72, g72, h⟩ := bind_ok h
          refine ⟨q72, sinks_Sink_Text_ok g72, ?_⟩
          refine ⟨fun g73 => ?_, fun g73 => ?_⟩
          · rw [if_pos g73] at h
            exact palinodelaw19_SinksNone_j1_ok h
          · rw [if_neg g73] at h
            obtain ⟨q74, g74, h⟩ := bind_ok h
            refine ⟨q74, sinks_Sink_Number_ok g74, ?_⟩
            refine ⟨fun g75 => ?_, fun g75 => ?_⟩
            · rw [if_pos g75] at h
              exact palinodelaw19_SinksNone_j1_ok h
            · rw [if_neg g75] at h
              obtain ⟨q76, g76, h⟩ := bind_ok h
              refine ⟨q76, sinks_Sink_Copy_ok g76, ?_⟩
              exact palinodelaw19_SinksNone_j1_ok h
set_option maxHeartbeats 4000000 in
theorem palinodelaw19_SinksNone_con (x1 : List UInt8) (x2 : Int) (r : Bool) (h : palinodelaw19_SinksNone_R x1 x2 r) : Con Tryd.prog 3 [.sl 1 none (List.map eb x1), .v (.int .i64 x2)] [] [] (Ret (.v (.bool r))) := by
  refine xenter Tryd.func3 rfl rfl fun g hg => ?_
  simp only [Tryd.ntmps3, slots]
  refine xseq ?_
  refine xregion ?_
  refine xvalP (pv_assign rfl) rfl rfl ?_
  refine xnil ?_
  refine xthen ?_
  refine xseq ?_
  refine xseq ?_
  refine xregion ?_
  refine xvalP (pv_move rfl) rfl rfl ?_
  refine xvalP (pv_lenM UndC.h rfl) rfl rfl ?_
  refine xvalP (pv_bin2 rfl rfl rfl) rfl rfl ?_
  refine xnil ?_
  refine xthen ?_
  by_cases hp10 : 60 < (x1.length : Int)
  · replace h := h.1 hp10
    refine xcondT' (decide_eq_true hp10) rfl ?_
    refine xseq ?_
    refine xregion ?_
    obtain ⟨y12, h11, h⟩ := h
    refine xcall0 (palinodelaw19_awake_con _ h11) Tryd.func4 (by kernel_rfl) rfl .nil rfl rfl ?_
    refine xvalP (pv_assign rfl) rfl rfl ?_
    refine xnil ?_
    refine xthen ?_
    refine xretc ?_
    refine xthen_ret ?_
    replace h := h.symm
    subst h
    exact xret1 hg rfl rfl (.refl _) (SubM.of (.nil _) (.nil _)) ⟨rfl, rfl, rfl⟩
  · replace h := h.2 hp10
    refine xcondF' (decide_eq_false hp10) rfl ?_
    refine xskipc ?_
    refine xthen ?_
    refine xseq ?_
    refine xregion ?_
    refine xvalP (pv_assign rfl) rfl rfl ?_
    refine xnil ?_
    refine xthen ?_
    refine xseq ?_
    refine xseqM (fun σ => ∃ (x84 : Bool), palinodelaw19_SinksNone_j1 x1 x2 x84 r ∧ σ = ⟨[(0, .sl 1 none (List.map eb x1)), (1, .v (.int .i64 x2)), (43, .v (.bool x84))], [], []⟩) ?_ ?_
    · refine xregion ?_
      refine xvalP (pv_move rfl) rfl rfl ?_
      refine xvalP (pv_move rfl) rfl rfl ?_
      refine xvalP (pv_buildC StrC.h rfl rfl) rfl rfl ?_
      obtain ⟨y86, h85, h⟩ := h
      refine xcall0 (sinks_Sink_Line_v2_con (x1, false) _ h85) Tryd.func5 (by kernel_rfl) rfl (.cons rfl (.refl _) (.cons rfl (.refl _) .nil)) rfl rfl ?_
      refine xvalP (pv_bin2 rfl rfl rfl) rfl rfl ?_
      refine xvalP (pv_move rfl) rfl rfl ?_
      by_cases hp88 : ¬ (y86 = 1)
      · replace h := h.1 hp88
        refine xsetB 17 (not_t (decide_eq_false hp88)) rfl ?_
        refine xskip rfl rfl ?_
        refine xskip rfl rfl ?_
        refine xskip rfl rfl ?_
        refine xvalP (pv_pick rfl rfl) rfl rfl ?_
        refine xvalP (pv_move rfl) rfl rfl ?_
        refine xskip rfl rfl ?_
        refine xskip rfl rfl ?_
        refine xskip rfl rfl ?_
        refine xskip rfl rfl ?_
        refine xvalP (pv_pick rfl rfl) rfl rfl ?_
        refine xvalP (pv_move rfl) rfl rfl ?_
        refine xskip rfl rfl ?_
        refine xskip rfl rfl ?_
        refine xskip rfl rfl ?_
        refine xvalP (pv_pick rfl rfl) rfl rfl ?_
        refine xvalP (pv_move rfl) rfl rfl ?_
        refine xskip rfl rfl ?_
        refine xskip rfl rfl ?_
        refine xskip rfl rfl ?_
        refine xskip rfl rfl ?_
        refine xvalP (pv_pick rfl rfl) rfl rfl ?_
        refine xvalP (pv_move rfl) rfl rfl ?_
        refine xskip rfl rfl ?_
        refine xskip rfl rfl ?_
        refine xskip rfl rfl ?_
        refine xvalP (pv_pick rfl rfl) rfl rfl ?_
        refine xnil ?_
        exact xmeet ⟨true, h, rfl⟩ ⟨(.cons rfl (.refl _) (.cons rfl (.refl _) (.cons rfl (.refl _) (.nil _)))), (SubM.of (.nil _) (.nil _))⟩
      · replace h := h.2 hp88
        refine xsetB 17 (not_f (decide_eq_true (Decidable.of_not_not hp88))) rfl ?_
        refine xvalP (pv_move rfl) rfl rfl ?_
        obtain ⟨y90, h89, h⟩ := h
        refine xcall0 (sinks_Sink_Lines_con ([] : List ((List UInt8) × Bool)) _ h89) Tryd.func6 (by kernel_rfl) rfl (.cons rfl (.refl _) (.cons rfl (.nil_pl _) .nil)) rfl rfl ?_
        refine xvalP (pv_bin2 rfl rfl rfl) rfl rfl ?_
        refine xvalP (pv_pick rfl rfl) rfl rfl ?_
        refine xvalP (pv_move rfl) rfl rfl ?_
        by_cases hp92 : ¬ (y90 = 1)
        · replace h := h.1 hp92
          refine xsetB 22 (not_t (decide_eq_false hp92)) rfl ?_
          refine xskip rfl rfl ?_
          refine xskip rfl rfl ?_
          refine xskip rfl rfl ?_
          refine xskip rfl rfl ?_
          refine xvalP (pv_pick rfl rfl) rfl rfl ?_
          refine xvalP (pv_move rfl) rfl rfl ?_
          refine xskip rfl rfl ?_
          refine xskip rfl rfl ?_
          refine xskip rfl rfl ?_
          refine xvalP (pv_pick rfl rfl) rfl rfl ?_
          refine xvalP (pv_move rfl) rfl rfl ?_
          refine xskip rfl rfl ?_
          refine xskip rfl rfl ?_
          refine xskip rfl rfl ?_
          refine xskip rfl rfl ?_
          refine xvalP (pv_pick rfl rfl) rfl rfl ?_
          refine xvalP (pv_move rfl) rfl rfl ?_
          refine xskip rfl rfl ?_
          refine xskip rfl rfl ?_
          refine xskip rfl rfl ?_
          refine xvalP (pv_pick rfl rfl) rfl rfl ?_
          refine xnil ?_
          exact xmeet ⟨true, h, rfl⟩ ⟨(.cons rfl (.refl _) (.cons rfl (.refl _) (.cons rfl (.refl _) (.nil _)))), (SubM.of (.nil _) (.nil _))⟩
        · replace h := h.2 hp92
          refine xsetB 22 (not_f (decide_eq_true (Decidable.of_not_not hp92))) rfl ?_
          refine xvalP (pv_move rfl) rfl rfl ?_
          refine xvalP (pv_move rfl) rfl rfl ?_
          obtain ⟨y94, h93, h⟩ := h
          refine xcall0 (sinks_Sink_Text_con x1 _ h93) Tryd.func7 (by kernel_rfl) rfl (.cons rfl (.refl _) (.cons rfl (.refl _) .nil)) rfl rfl ?_
          refine xvalP (pv_bin2 rfl rfl rfl) rfl rfl ?_
          refine xvalP (pv_pick rfl rfl) rfl rfl ?_
          refine xvalP (pv_move rfl) rfl rfl ?_
          by_cases hp96 : ¬ (y94 = 1)
          · replace h := h.1 hp96
            refine xsetB 28 (not_t (decide_eq_false hp96)) rfl ?_
            refine xskip rfl rfl ?_
            refine xskip rfl rfl ?_
            refine xskip rfl rfl ?_
            refine xvalP (pv_pick rfl rfl) rfl rfl ?_
            refine xvalP (pv_move rfl) rfl rfl ?_
            refine xskip rfl rfl ?_
            refine xskip rfl rfl ?_
            refine xskip rfl rfl ?_
            refine xskip rfl rfl ?_
            refine xvalP (pv_pick rfl rfl) rfl rfl ?_
            refine xvalP (pv_move rfl) rfl rfl ?_
            refine xskip rfl rfl ?_
            refine xskip rfl rfl ?_
            refine xskip rfl rfl ?_
            refine xvalP (pv_pick rfl rfl) rfl rfl ?_
            refine xnil ?_
            exact xmeet ⟨true, h, rfl⟩ ⟨(.cons rfl (.refl _) (.cons rfl (.refl _) (.cons rfl (.refl _) (.nil _)))), (SubM.of (.nil _) (.nil _))⟩
          · replace h := h.2 hp96
            refine xsetB 28 (not_f (decide_eq_true (Decidable.of_not_not hp96))) rfl ?_
            refine xvalP (pv_move rfl) rfl rfl ?_
            obtain ⟨y98, h97, h⟩ := h
            refine xcall0 (sinks_Sink_Text_con ([] : List UInt8) _ h97) Tryd.func7 (by kernel_rfl) rfl (.cons rfl (.refl _) (.cons rfl (.nil_pl _) .nil)) rfl rfl ?_
            refine xvalP (pv_bin2 rfl rfl rfl) rfl rfl ?_
            refine xvalP (pv_pick rfl rfl) rfl rfl ?_
            refine xvalP (pv_move rfl) rfl rfl ?_
            by_cases hp100 : ¬ (y98 = 1)
            · replace h := h.1 hp100
              refine xsetB 33 (not_t (decide_eq_false hp100)) rfl ?_
              refine xskip rfl rfl ?_
              refine xskip rfl rfl ?_
              refine xskip rfl rfl ?_
              refine xskip rfl rfl ?_
              refine xvalP (pv_pick rfl rfl) rfl rfl ?_
              refine xvalP (pv_move rfl) rfl rfl ?_
              refine xskip rfl rfl ?_
              refine xskip rfl rfl ?_
              refine xskip rfl rfl ?_
              refine xvalP (pv_pick rfl rfl) rfl rfl ?_
              refine xnil ?_
              exact xmeet ⟨true, h, rfl⟩ ⟨(.cons rfl (.refl _) (.cons rfl (.refl _) (.cons rfl (.refl _) (.nil _)))), (SubM.of (.nil _) (.nil _))⟩
            · replace h := h.2 hp100
              refine xsetB 33 (not_f (decide_eq_true (Decidable.of_not_not hp100))) rfl ?_
              refine xvalP (pv_move rfl) rfl rfl ?_
              refine xvalP (pv_move rfl) rfl rfl ?_
              obtain ⟨y102, h101, h⟩ := h
              refine xcall0 (sinks_Sink_Number_con x2 _ h101) Tryd.func8 (by kernel_rfl) rfl (.cons rfl (.refl _) (.cons rfl (.refl _) .nil)) rfl rfl ?_
              refine xvalP (pv_bin2 rfl rfl rfl) rfl rfl ?_
              refine xvalP (pv_pick rfl rfl) rfl rfl ?_
              refine xvalP (pv_move rfl) rfl rfl ?_
              by_cases hp104 : ¬ (y102 = 1)
              · replace h := h.1 hp104
                refine xsetB 39 (not_t (decide_eq_false hp104)) rfl ?_
                refine xskip rfl rfl ?_
                refine xskip rfl rfl ?_
                refine xskip rfl rfl ?_
                refine xvalP (pv_pick rfl rfl) rfl rfl ?_
                refine xnil ?_
                exact xmeet ⟨true, h, rfl⟩ ⟨(.cons rfl (.refl _) (.cons rfl (.refl _) (.cons rfl (.refl _) (.nil _)))), (SubM.of (.nil _) (.nil _))⟩
              · replace h := h.2 hp104
                refine xsetB 39 (not_f (decide_eq_true (Decidable.of_not_not hp104))) rfl ?_
                refine xvalP (pv_move rfl) rfl rfl ?_
                obtain ⟨y106, h105, h⟩ := h
                refine xcallF (Fb := []) (Ft := []) (sinks_Sink_Copy_con _ h105) Tryd.func9 (by kernel_rfl) rfl (.cons rfl (.refl _) .nil) (by exact sm_) rfl rfl ?_
                rintro _ _ _ ⟨rfl, rfl, rfl⟩
                simp only [List.nil_append, List.cons_append]
                refine xvalP (pv_neNilN UndC.h rfl rfl) rfl rfl ?_
                refine xvalP (pv_pick rfl rfl) rfl rfl ?_
                refine xnil ?_
                exact xmeet ⟨false, h, rfl⟩ ⟨(.cons rfl (.refl _) (.cons rfl (.refl _) (.cons rfl (.refl _) (.nil _)))), (SubM.of (.nil _) (.nil _))⟩
    · clear h
      rintro _ ⟨x84, h, rfl⟩
      by_cases hp108 : x84 = true
      · replace h := h.1 hp108
        refine xcondT' hp108 rfl ?_
        refine xseq ?_
        refine xregion ?_
        refine xvalP (pv_assign rfl) rfl rfl ?_
        refine xnil ?_
        refine xthen ?_
        refine xretc ?_
        refine xthen_ret ?_
        replace h := h.symm
        subst h
        exact xret1 hg rfl rfl (.refl _) (SubM.of (.nil _) (.nil _)) ⟨rfl, rfl, rfl⟩
      · replace h := h.2 hp108
        refine xcondF' (b_f hp108) rfl ?_
        refine xskipc ?_
        refine xthen ?_
        refine xseq ?_
        refine xregion ?_
        refine xvalP (pv_move rfl) rfl rfl ?_
        obtain ⟨y110, h109, h⟩ := h
        refine xcallM (palinoderef01_Copy_con x1 _ h109) Tryd.func10 (by kernel_rfl) rfl (.cons rfl (.refl _) .nil) rfl rfl fun i111 => ?_
        refine xbuildSliceM (f := eb) [(1 : UInt8), (2 : UInt8), (3 : UInt8)] UndC.h InfC.h rfl rfl wr_ rfl rfl rfl rfl fun s46 => ?_
        obtain ⟨h112, h⟩ := h
        refine xappendM (l := y110) (l2 := [(1 : UInt8), (2 : UInt8), (3 : UInt8)]) 1 h112 UndC.h InfC.h rfl rfl rfl (.refl _) rfl rfl rfl fun i113 => ?_
        refine xvalP (pv_assign rfl) rfl rfl ?_
        refine xnil ?_
        refine xthen ?_
        refine xseq ?_
        refine xregion ?_
        refine xvalP (pv_buildC StrC.h rfl rfl) rfl rfl ?_
        refine xbox rfl rfl rfl rfl fun b49 => ?_
        refine xaddRb eb 5 1 ?_
        refine xwkB 1 [.rb none (([] : List UInt8).length), .v (.bool false), .v (.int .i64 500)] rfl (.cons Wk.nil_rb (.cons (.refl _) (.cons (.refl _) .nil))) ?_
        refine xvalP (pv_assign rfl) rfl rfl ?_
        refine xnil ?_
        refine xthen ?_
        refine xseq ?_
        refine xseq ?_
        refine xregion ?_
        refine xvalP (pv_move rfl) rfl rfl ?_
        refine xvalP (pv_move rfl) rfl rfl ?_
        refine xvalP (pv_move rfl) rfl rfl ?_
        refine xvalP (pv_lenM UndC.h rfl) rfl rfl ?_
        obtain ⟨h149, h⟩ := h
        refine xvalP (pv_sliceHi h149 UndC.h ShpC.h rfl rfl) rfl rfl ?_
        obtain ⟨y151, h150, h⟩ := h
        refine xcallF (Fb := []) (Ft := [⟨(some (s46, 3)), 5, 1, ([(1 : UInt8), (2 : UInt8), (3 : UInt8)]).length⟩, ⟨i113, 5, 1, ((y110 ++ [(1 : UInt8), (2 : UInt8), (3 : UInt8)])).length⟩]) (sinks_Sink_Text_v2_con false 500 ([] : List UInt8) (((y110 ++ [(1 : UInt8), (2 : UInt8), (3 : UInt8)])).take ((x1.length : Int) : Int).toNat) b49 none _ h150) Tryd.func7 (by kernel_rfl) rfl (.cons rfl (.refl _) (.cons rfl (.refl _) .nil)) (by refine SubM.trans (SubM.mvB 0 rfl) ?_; refine SubM.trans (SubM.mvB 1 rfl) ?_; (simp only [List.eraseIdx]); exact sm_) rfl rfl ?_
        rintro _ _ _ ⟨i152, rfl, rfl, rfl⟩
        simp only [List.nil_append, List.cons_append]
        refine xvalP (pv_bin2 rfl rfl rfl) rfl rfl ?_
        refine xvalP (pv_move rfl) rfl rfl ?_
        by_cases hp154 : ¬ (y151.1 = 0)
        · replace h := h.1 hp154
          refine xsetB 57 (not_t (decide_eq_false hp154)) rfl ?_
          refine xskip rfl rfl ?_
          refine xskip rfl rfl ?_
          refine xskip rfl rfl ?_
          refine xskip rfl rfl ?_
          refine xvalP (pv_pick rfl rfl) rfl rfl ?_
          refine xnil ?_
          refine xthen ?_
          refine xcondT rfl ?_
          refine xseq ?_
          refine xregion ?_
          refine xvalP (pv_assign rfl) rfl rfl ?_
          refine xnil ?_
          refine xthen ?_
          refine xretc ?_
          refine xthen_ret ?_
          replace h := h.symm
          subst h
          exact xret1 (bx' := []) (tk' := []) hg rfl rfl (.refl _) (SubM.of (.nil _) (.nil _)) ⟨rfl, rfl, rfl⟩
        · replace h := h.2 hp154
          refine xsetB 57 (not_f (decide_eq_true (Decidable.of_not_not hp154))) rfl ?_
          refine xvalP (pv_move rfl) rfl rfl ?_
          refine xvalP (pv_move rfl) rfl rfl ?_
          obtain ⟨y156, h155, h⟩ := h
          refine xcallF (Fb := []) (Ft := [⟨(some (s46, 3)), 5, 1, ([(1 : UInt8), (2 : UInt8), (3 : UInt8)]).length⟩, ⟨i113, 5, 1, ((y110 ++ [(1 : UInt8), (2 : UInt8), (3 : UInt8)])).length⟩]) (sinks_Sink_Number_v2_con y151.2.2 500 y151.2.1 x2 b49 i152 _ h155) Tryd.func8 (by kernel_rfl) rfl (.cons rfl (.refl _) (.cons rfl (.refl _) .nil)) (by refine SubM.trans (SubM.mvB 0 rfl) ?_; refine SubM.trans (SubM.mvB 1 rfl) ?_; (simp only [List.eraseIdx]); exact sm_) rfl rfl ?_
          rintro _ _ _ ⟨i157, rfl, rfl, rfl⟩
          simp only [List.nil_append, List.cons_append]
          refine xvalP (pv_bin2 rfl rfl rfl) rfl rfl ?_
          refine xvalP (pv_pick rfl rfl) rfl rfl ?_
          refine xnil ?_
          refine xthen ?_
          by_cases hp159 : ¬ (y156.1 = 0)
          · replace h := h.1 hp159
            refine xcondT' (not_t (decide_eq_false hp159)) rfl ?_
            refine xseq ?_
            refine xregion ?_
            refine xvalP (pv_assign rfl) rfl rfl ?_
            refine xnil ?_
            refine xthen ?_
            refine xretc ?_
            refine xthen_ret ?_
            replace h := h.symm
            subst h
            exact xret1 (bx' := []) (tk' := []) hg rfl rfl (.refl _) (SubM.of (.nil _) (.nil _)) ⟨rfl, rfl, rfl⟩
          · replace h := h.2 hp159
            refine xcondF' (not_f (decide_eq_true (Decidable.of_not_not hp159))) rfl ?_
            refine xskipc ?_
            refine xthen ?_
            refine xseq ?_
            refine xregion ?_
            refine xvalP (pv_move rfl) rfl rfl ?_
            refine xvalP (pv_move rfl) rfl rfl ?_
            obtain ⟨y171, h170, h⟩ := h
            refine xcallM (palinoderef01_Copy_con x1 _ h170) Tryd.func10 (by kernel_rfl) rfl (.cons rfl (.refl _) .nil) rfl rfl fun i172 => ?_
            refine xbuildSliceM (f := eb) [(1 : UInt8), (2 : UInt8), (3 : UInt8)] UndC.h InfC.h rfl rfl wr_ rfl rfl rfl rfl fun s66 => ?_
            obtain ⟨h173, h⟩ := h
            refine xappendM (l := y171) (l2 := [(1 : UInt8), (2 : UInt8), (3 : UInt8)]) 1 h173 UndC.h InfC.h rfl rfl rfl (.refl _) rfl rfl rfl fun i174 => ?_
            obtain ⟨y176, h175, h⟩ := h
            refine xcall0 (palinoderef01_Same_con (y110 ++ [(1 : UInt8), (2 : UInt8), (3 : UInt8)]) (y171 ++ [(1 : UInt8), (2 : UInt8), (3 : UInt8)]) _ h175) Tryd.func11 (by kernel_rfl) rfl (.cons rfl (.tok _ _ _) (.cons rfl (.tok _ _ _) .nil)) rfl rfl ?_
            refine xvalP (pv_move rfl) rfl rfl ?_
            by_cases hp177 : y176 = true
            · replace h := h.1 hp177
              refine xsetB 69 hp177 rfl ?_
              obtain ⟨y179, h178, h⟩ := h
              refine xcall0 (palinodelaw19_awake_con _ h178) Tryd.func4 (by kernel_rfl) rfl .nil rfl rfl ?_
              refine xvalP (pv_pick rfl rfl) rfl rfl ?_
              refine xvalP (pv_assign rfl) rfl rfl ?_
              refine xnil ?_
              refine xthen ?_
              refine xretc ?_
              replace h := h.symm
              subst h
              exact xret1 (bx' := []) (tk' := []) hg rfl rfl (.refl _) (SubM.of (.nil _) (.nil _)) ⟨rfl, rfl, rfl⟩
            · replace h := h.2 hp177
              refine xsetB 69 (b_f hp177) rfl ?_
              refine xskip rfl rfl ?_
              refine xvalP (pv_pick rfl rfl) rfl rfl ?_
              refine xvalP (pv_assign rfl) rfl rfl ?_
              refine xnil ?_
              refine xthen ?_
              refine xretc ?_
              replace h := h.symm
              subst h
              exact xret1 (bx' := []) (tk' := []) hg rfl rfl (.refl _) (SubM.of (.nil _) (.nil _)) ⟨rfl, rfl, rfl⟩
end Go.Proofs.YthffeojphpajpaaDoor
