/- What functions' texts ask for, and the walks that show it (printed by a program). -/
import Derived.Test.YtefpkpiadnpkeaaGK
namespace Go.Proofs.Ytefpkpiadnpkeaa
/-- palinodelaw04.ShowUnquotes -/
def palinodelaw04_ShowUnquotes_j1 (x28 : Bool) (r : Bool) : Prop :=
  r = x28
def palinodelaw04_ShowUnquotes_R (sv1 : ByteArray) (atv2 : Int) (r : Bool) : Prop :=
  ((100 < (sv1.size : Int) → ∃ y12 : Bool, palinodelaw04_awake_R y12 ∧ r = y12) ∧ (¬ (100 < (sv1.size : Int)) → ∃ y14 : (List UInt8) × Int × Int, show_Unquote_R sv1 atv2 y14 ∧ ∃ y17 : (List UInt8) × Int × Int, palinoderef04_Unquote_R sv1 atv2 y17 ∧ ∃ y30 : Bool, palinoderef01_Same_v2_R y14.1 y17.1 y30 ∧ ((y30 = true → ((y14.2.1 = y17.2.1 → ((y14.2.2 = y17.2.2 → ∃ y37 : Bool, palinodelaw04_awake_R y37 ∧ palinodelaw04_ShowUnquotes_j1 y37 r) ∧ (¬ (y14.2.2 = y17.2.2) → palinodelaw04_ShowUnquotes_j1 false r))) ∧ (¬ (y14.2.1 = y17.2.1) → palinodelaw04_ShowUnquotes_j1 false r))) ∧ (¬ (y30 = true) → palinodelaw04_ShowUnquotes_j1 false r))))
def palinodelaw04_ShowUnquotes_j1_ev (fuel : Nat) (x28 : Bool) : Option (Bool) :=
  some x28
theorem palinodelaw04_ShowUnquotes_j1_ok {fuel : Nat} {x28 : Bool} {r : Bool} (h : palinodelaw04_ShowUnquotes_j1_ev fuel x28 = some r) : palinodelaw04_ShowUnquotes_j1 x28 r := by
  unfold palinodelaw04_ShowUnquotes_j1_ev at h
  unfold palinodelaw04_ShowUnquotes_j1
  exact (Option.some.inj h).symm
def palinodelaw04_ShowUnquotes_ev (fuel : Nat) (sv1 : ByteArray) (atv2 : Int) : Option (Bool) :=
  (if 100 < (sv1.size : Int) then ((palinodelaw04_awake_ev fuel).bind fun y12 => some y12) else ((show_Unquote_ev fuel sv1 atv2).bind fun y14 => ((palinoderef04_Unquote_ev fuel sv1 atv2).bind fun y17 => ((palinoderef01_Same_v2_ev fuel y14.1 y17.1).bind fun y30 => (if y30 = true then (if y14.2.1 = y17.2.1 then (if y14.2.2 = y17.2.2 then ((palinodelaw04_awake_ev fuel).bind fun y37 => palinodelaw04_ShowUnquotes_j1_ev fuel y37) else palinodelaw04_ShowUnquotes_j1_ev fuel false) else palinodelaw04_ShowUnquotes_j1_ev fuel false) else palinodelaw04_ShowUnquotes_j1_ev fuel false)))))
theorem palinodelaw04_ShowUnquotes_ok {fuel : Nat} {sv1 : ByteArray} {atv2 : Int} {r : Bool} (h : palinodelaw04_ShowUnquotes_ev fuel sv1 atv2 = some r) : palinodelaw04_ShowUnquotes_R sv1 atv2 r := by
  unfold palinodelaw04_ShowUnquotes_ev at h
  unfold palinodelaw04_ShowUnquotes_R
  refine ⟨fun g270 => ?_, fun g270 => ?_⟩
  · rw [if_pos g270] at h
    obtain ⟨q271, g271, h⟩ := bind_ok h
    refine ⟨q271, palinodelaw04_awake_ok g271, ?_⟩
    exact (Option.some.inj h).symm
  · rw [if_neg g270] at h
    obtain ⟨q272, g272, h⟩ := bind_ok h
    refine ⟨q272, show_Unquote_ok g272, ?_⟩
    obtain ⟨q273, g273, h⟩ := bind_ok h
    refine ⟨q273, palinoderef04_Unquote_ok g273, ?_⟩
    obtain ⟨q274, g274, h⟩ := bind_ok h
    refine ⟨q274, palinoderef01_Same_v2_ok g274, ?_⟩
    refine ⟨fun g275 => ?_, fun g275 => ?_⟩
    · rw [if_pos g275] at h
      refine ⟨fun g276 => ?_, fun g276 => ?_⟩
      · rw [if_pos g276] at h
        refine ⟨fun g277 => ?_, fun g277 => ?_⟩
        · rw [if_pos g277] at h
          obtain ⟨q278, g278, h⟩ := bind_ok h
          refine ⟨q278, palinodelaw04_awake_ok g278, ?_⟩
          exact palinodelaw04_ShowUnquotes_j1_ok h
        · rw [if_neg g277] at h
          exact palinodelaw04_ShowUnquotes_j1_ok h
      · rw [if_neg g276] at h
        exact palinodelaw04_ShowUnquotes_j1_ok h
    · rw [if_neg g275] at h
      exact palinodelaw04_ShowUnquotes_j1_ok h
set_option maxHeartbeats 4000000 in
theorem palinodelaw04_ShowUnquotes_con (sv1 : ByteArray) (atv2 : Int) (r : Bool) (h : palinodelaw04_ShowUnquotes_R sv1 atv2 r) : Con Try.prog 6 [.v (.string sv1), .v (.int .i64 atv2)] [] [] (Ret (.v (.bool r))) := by
  refine xenter Try.func6 rfl rfl fun g hg => ?_
  simp only [Try.ntmps6, slots]
  refine xseq ?_
  refine xregion ?_
  refine xvalP (pv_assign rfl) rfl rfl ?_
  refine xnil ?_
  refine xthen ?_
  refine xseq ?_
  refine xseq ?_
  refine xregion ?_
  refine xvalP (pv_move rfl) rfl rfl ?_
  refine xvalP (pv_lenS UndC.h rfl) rfl rfl ?_
  refine xvalP (pv_bin2 rfl rfl rfl) rfl rfl ?_
  refine xnil ?_
  refine xthen ?_
  by_cases hp10 : 100 < (sv1.size : Int)
  · replace h := h.1 hp10
    refine xcondT' (decide_eq_true hp10) rfl ?_
    refine xseq ?_
    refine xregion ?_
    obtain ⟨y12, h11, h⟩ := h
    refine xcall0 (palinodelaw04_awake_con _ h11) Try.func7 (by kernel_rfl) rfl .nil rfl rfl ?_
    refine xvalP (pv_assign rfl) rfl rfl ?_
    refine xnil ?_
    refine xthen ?_
    refine xretc ?_
    refine xthen_ret ?_
    replace h := h.symm
    subst h
    exact xret1 hg rfl rfl (.refl _) (SubM.of (.nil _) (.nil _)) ⟨rfl, rfl, rfl⟩
  · replace h := h.2 hp10
    refine xcondF' (decide_eq_false hp10) rfl ?_
    refine xskipc ?_
    refine xthen ?_
    refine xseq ?_
    refine xregion ?_
    refine xvalP (pv_move rfl) rfl rfl ?_
    refine xvalP (pv_move rfl) rfl rfl ?_
    obtain ⟨y14, h13, h⟩ := h
    refine xcallF (Fb := []) (Ft := []) (show_Unquote_con sv1 atv2 _ h13) Try.func12 (by kernel_rfl) rfl (.cons rfl (.refl _) (.cons rfl (.refl _) .nil)) (by exact (SubM.of (by repeat (first | with_reducible exact SubB.refl _ | exact SubB.nil _ | refine SubB.keep rfl rfl (by first | with_reducible exact WkL.refl _ | ((repeat (first | exact WkL.nil | refine WkL.cons (by first | with_reducible exact Wk.refl _ | exact Wk.nil_own _ | exact Wk.nil_pl _ | with_reducible exact Wk.tok _ _ _ | exact Wk.tok _ _ _ | exact Wk.eq (by first | rfl | (simp []; done) | (simp []; omega))) ?_)); done) | exact WkL.refl _) ?_ | refine SubB.drop ?_)) (by repeat (first | exact SubT.nil _ | refine SubT.add ?_ | (refine SubT.keep ?_ ?_; focus (first | with_reducible rfl | (simp []; done))) | refine SubT.drop ?_)))) rfl rfl ?_
    rintro _ _ _ ⟨i15, rfl, rfl, rfl⟩
    simp only [List.nil_append, List.cons_append]
    refine xvalP (pv_move rfl) rfl rfl ?_
    refine xvalP (pv_extract rfl rfl) rfl rfl ?_
    refine xvalP (pv_extract rfl rfl) rfl rfl ?_
    refine xvalP (pv_extract rfl rfl) rfl rfl ?_
    refine xvalP (pv_assign rfl) rfl rfl ?_
    refine xvalP (pv_assign rfl) rfl rfl ?_
    refine xvalP (pv_assign rfl) rfl rfl ?_
    refine xnil ?_
    refine xthen ?_
    refine xseq ?_
    refine xregion ?_
    refine xvalP (pv_move rfl) rfl rfl ?_
    refine xvalP (pv_move rfl) rfl rfl ?_
    obtain ⟨y17, h16, h⟩ := h
    refine xcallF (Fb := []) (Ft := [⟨i15, 5, 1, y14.1.length⟩]) (palinoderef04_Unquote_con sv1 atv2 _ h16) Try.func14 (by kernel_rfl) rfl (.cons rfl (.refl _) (.cons rfl (.refl _) .nil)) (by exact (SubM.of (by repeat (first | with_reducible exact SubB.refl _ | exact SubB.nil _ | refine SubB.keep rfl rfl (by first | with_reducible exact WkL.refl _ | ((repeat (first | exact WkL.nil | refine WkL.cons (by first | with_reducible exact Wk.refl _ | exact Wk.nil_own _ | exact Wk.nil_pl _ | with_reducible exact Wk.tok _ _ _ | exact Wk.tok _ _ _ | exact Wk.eq (by first | rfl | (simp []; done) | (simp []; omega))) ?_)); done) | exact WkL.refl _) ?_ | refine SubB.drop ?_)) (by repeat (first | exact SubT.nil _ | refine SubT.add ?_ | (refine SubT.keep ?_ ?_; focus (first | with_reducible rfl | (simp []; done))) | refine SubT.drop ?_)))) rfl rfl ?_
    rintro _ _ _ ⟨i18, rfl, rfl, rfl⟩
    simp only [List.nil_append, List.cons_append]
    refine xvalP (pv_move rfl) rfl rfl ?_
    refine xvalP (pv_extract rfl rfl) rfl rfl ?_
    refine xvalP (pv_extract rfl rfl) rfl rfl ?_
    refine xvalP (pv_extract rfl rfl) rfl rfl ?_
    refine xvalP (pv_assign rfl) rfl rfl ?_
    refine xvalP (pv_assign rfl) rfl rfl ?_
    refine xvalP (pv_assign rfl) rfl rfl ?_
    refine xnil ?_
    refine xthen ?_
    refine xseqM (fun σ => ∃ (x28 : Bool), palinodelaw04_ShowUnquotes_j1 x28 r ∧ σ = ⟨[(4, .v (.bool x28))], [], []⟩) ?_ ?_
    · refine xregion ?_
      refine xvalP (pv_move rfl) rfl rfl ?_
      refine xvalP (pv_move rfl) rfl rfl ?_
      obtain ⟨y30, h29, h⟩ := h
      refine xcall0 (palinoderef01_Same_v2_con y14.1 y17.1 _ h29) Try.func9 (by kernel_rfl) rfl (.cons rfl (.tok _ _ _) (.cons rfl (.tok _ _ _) .nil)) rfl rfl ?_
      refine xvalP (pv_move rfl) rfl rfl ?_
      by_cases hp31 : y30 = true
      · replace h := h.1 hp31
        refine xsetB 32 hp31 rfl ?_
        refine xvalP (pv_move rfl) rfl rfl ?_
        refine xvalP (pv_move rfl) rfl rfl ?_
        refine xvalP (pv_bin2 rfl rfl rfl) rfl rfl ?_
        refine xvalP (pv_pick rfl rfl) rfl rfl ?_
        refine xvalP (pv_move rfl) rfl rfl ?_
        by_cases hp33 : y14.2.1 = y17.2.1
        · replace h := h.1 hp33
          refine xsetB 37 (decide_eq_true hp33) rfl ?_
          refine xvalP (pv_move rfl) rfl rfl ?_
          refine xvalP (pv_move rfl) rfl rfl ?_
          refine xvalP (pv_bin2 rfl rfl rfl) rfl rfl ?_
          refine xvalP (pv_pick rfl rfl) rfl rfl ?_
          refine xvalP (pv_move rfl) rfl rfl ?_
          by_cases hp35 : y14.2.2 = y17.2.2
          · replace h := h.1 hp35
            refine xsetB 42 (decide_eq_true hp35) rfl ?_
            obtain ⟨y37, h36, h⟩ := h
            refine xcall0 (palinodelaw04_awake_con _ h36) Try.func7 (by kernel_rfl) rfl .nil rfl rfl ?_
            refine xvalP (pv_pick rfl rfl) rfl rfl ?_
            refine xvalP (pv_assign rfl) rfl rfl ?_
            refine xnil ?_
            exact xmeet ⟨y37, h, rfl⟩ ⟨(.cons rfl (.refl _) (.nil _)), (SubM.of (.nil _) (.nil _))⟩
          · replace h := h.2 hp35
            refine xsetB 42 (decide_eq_false hp35) rfl ?_
            refine xskip rfl rfl ?_
            refine xvalP (pv_pick rfl rfl) rfl rfl ?_
            refine xvalP (pv_assign rfl) rfl rfl ?_
            refine xnil ?_
            exact xmeet ⟨false, h, rfl⟩ ⟨(.cons rfl (.refl _) (.nil _)), (SubM.of (.nil _) (.nil _))⟩
        · replace h := h.2 hp33
          refine xsetB 37 (decide_eq_false hp33) rfl ?_
          refine xskip rfl rfl ?_
          refine xskip rfl rfl ?_
          refine xskip rfl rfl ?_
          refine xvalP (pv_pick rfl rfl) rfl rfl ?_
          refine xvalP (pv_move rfl) rfl rfl ?_
          refine xskip rfl rfl ?_
          refine xvalP (pv_pick rfl rfl) rfl rfl ?_
          refine xvalP (pv_assign rfl) rfl rfl ?_
          refine xnil ?_
          exact xmeet ⟨false, h, rfl⟩ ⟨(.cons rfl (.refl _) (.nil _)), (SubM.of (.nil _) (.nil _))⟩
      · replace h := h.2 hp31
        refine xsetB 32 (b_f hp31) rfl ?_
        refine xskip rfl rfl ?_
        refine xskip rfl rfl ?_
        refine xskip rfl rfl ?_
        refine xvalP (pv_pick rfl rfl) rfl rfl ?_
        refine xvalP (pv_move rfl) rfl rfl ?_
        refine xskip rfl rfl ?_
        refine xskip rfl rfl ?_
        refine xskip rfl rfl ?_
        refine xvalP (pv_pick rfl rfl) rfl rfl ?_
        refine xvalP (pv_move rfl) rfl rfl ?_
        refine xskip rfl rfl ?_
        refine xvalP (pv_pick rfl rfl) rfl rfl ?_
        refine xvalP (pv_assign rfl) rfl rfl ?_
        refine xnil ?_
        exact xmeet ⟨false, h, rfl⟩ ⟨(.cons rfl (.refl _) (.nil _)), (SubM.of (.nil _) (.nil _))⟩
    · clear h
      rintro _ ⟨x28, h, rfl⟩
      refine xretc ?_
      replace h := h.symm
      subst h
      exact xret1 hg rfl rfl (.refl _) (SubM.of (.nil _) (.nil _)) ⟨rfl, rfl, rfl⟩
end Go.Proofs.Ytefpkpiadnpkeaa
