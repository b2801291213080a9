/- What functions' texts ask for, and the walks that show it (printed by a program). -/
import Derived.Test.YtfngfgiikpofgaaGK
namespace Go.Proofs.Ytfngfgiikpofgaa
/-- palinodelaw14.ScanTexts -/
def palinodelaw14_ScanTexts_j2 (x80 : Bool) (r : Bool) : Prop :=
  r = x80
def palinodelaw14_ScanTexts_j1 (x1 : List UInt8) (x2 : List UInt8) (x22 : Bool) (r : Bool) : Prop :=
  ((x22 = true → ∃ y30 : Bool, palinodelaw14_awake_R y30 ∧ r = y30) ∧ (¬ (x22 = true) → ∃ y32 : (List UInt8), palinodelaw14_bent_R x1 (10 : UInt8) y32 ∧ ∃ y35 : (List UInt8), palinoderef01_Copy_R x1 y35 ∧ Room (y35.length + ([(10 : UInt8)]).length) 1 ∧ ∃ y40 : ((List UInt8) × Int), scan_Open_R y32 y40 ∧ ∃ y44 : (List UInt8) × Int × ((List UInt8) × Int), scan_Cursor_Text_R (y40.1, y40.2) y44 ∧ ∃ y48 : (List UInt8), palinoderef01_Copy_R y32 y48 ∧ Room (y48.length + ([(10 : UInt8)]).length) 1 ∧ Room (((y48 ++ [(10 : UInt8)])).length + x2.length) 1 ∧ ∃ y55 : ((List UInt8) × Int), scan_Open_R ((y48 ++ [(10 : UInt8)]) ++ x2) y55 ∧ ∃ y59 : (List UInt8) × Int × ((List UInt8) × Int), scan_Cursor_Text_R (y55.1, y55.2) y59 ∧ ((y44.2.1 = 0 → ((y59.2.1 = 0 → ∃ y86 : Bool, palinoderef01_Same_R y44.1 (y35 ++ [(10 : UInt8)]) y86 ∧ ((y86 = true → ∃ y89 : Bool, palinoderef01_Same_R y59.1 (y35 ++ [(10 : UInt8)]) y89 ∧ ((y89 = true → ∃ y92 : Int, scan_Cursor_At_R (y59.2.2.1, y59.2.2.2) y92 ∧ InR ((y32.length : Int) + 1) ∧ ((y92 = ((y32.length : Int) + 1) → ∃ y98 : Bool, palinodelaw14_awake_R y98 ∧ palinodelaw14_ScanTexts_j2 y98 r) ∧ (¬ (y92 = ((y32.length : Int) + 1)) → palinodelaw14_ScanTexts_j2 false r))) ∧ (¬ (y89 = true) → palinodelaw14_ScanTexts_j2 false r))) ∧ (¬ (y86 = true) → palinodelaw14_ScanTexts_j2 false r))) ∧ (¬ (y59.2.1 = 0) → palinodelaw14_ScanTexts_j2 false r))) ∧ (¬ (y44.2.1 = 0) → palinodelaw14_ScanTexts_j2 false r))))
def palinodelaw14_ScanTexts_R (x1 : List UInt8) (x2 : List UInt8) (r : Bool) : Prop :=
  palinodelaw14_ScanTexts_j1 x1 x2 ((decide (100 < (x1.length : Int))) || (decide (100 < (x2.length : Int)))) r
set_option maxHeartbeats 4000000 in
theorem palinodelaw14_ScanTexts_con (x1 : List UInt8) (x2 : List UInt8) (r : Bool) (h : palinodelaw14_ScanTexts_R x1 x2 r) : Con Try.prog 4 [.sl 1 none (List.map eb x1), .sl 1 none (List.map eb x2)] [] [] (Ret (.v (.bool r))) := by
  refine xenter Try.func4 rfl rfl fun g hg => ?_
  simp only [Try.ntmps4, slots]
  unfold palinodelaw14_ScanTexts_R at h
  refine xseq ?_
  refine xregion ?_
  refine xvalP (pv_assign rfl) rfl rfl ?_
  refine xnil ?_
  refine xthen ?_
  refine xseq ?_
  refine xseqM (fun σ => ∃ (x22 : Bool), palinodelaw14_ScanTexts_j1 x1 x2 x22 r ∧ σ = ⟨[(0, .sl 1 none (List.map eb x1)), (1, .sl 1 none (List.map eb x2)), (19, .v (.bool x22))], [], []⟩) ?_ ?_
  · refine xregion ?_
    refine xvalP (pv_move rfl) rfl rfl ?_
    refine xvalP (pv_lenM UndC.h rfl) rfl rfl ?_
    refine xvalP (pv_bin2 rfl rfl rfl) rfl rfl ?_
    refine xvalP (pv_move rfl) rfl rfl ?_
    by_cases hp25 : 100 < (x1.length : Int)
    · rw [show (decide (100 < (x1.length : Int))) = true from (decide_eq_true hp25), Bool.true_or] at h
      refine xsetB 15 (decide_eq_true hp25) rfl ?_
      refine xskip rfl rfl ?_
      refine xskip rfl rfl ?_
      refine xskip rfl rfl ?_
      refine xvalP (pv_pick rfl rfl) rfl rfl ?_
      refine xnil ?_
      exact xmeet ⟨true, h, rfl⟩ ⟨(.cons rfl (.refl _) (.cons rfl (.refl _) (.cons rfl (.refl _) (.nil _)))), (SubM.of (.nil _) (.nil _))⟩
    · rw [show (decide (100 < (x1.length : Int))) = false from (decide_eq_false hp25), Bool.false_or] at h
      refine xsetB 15 (decide_eq_false hp25) rfl ?_
      refine xvalP (pv_move rfl) rfl rfl ?_
      refine xvalP (pv_lenM UndC.h rfl) rfl rfl ?_
      refine xvalP (pv_bin2 rfl rfl rfl) rfl rfl ?_
      refine xvalP (pv_pick rfl rfl) rfl rfl ?_
      refine xnil ?_
      exact xmeet ⟨(decide (100 < (x2.length : Int))), h, rfl⟩ ⟨(.cons rfl (.refl _) (.cons rfl (.refl _) (.cons rfl (.refl _) (.nil _)))), (SubM.of (.nil _) (.nil _))⟩
  · clear h
    rintro _ ⟨x22, h, rfl⟩
    by_cases hp28 : x22 = true
    · replace h := h.1 hp28
      refine xcondT' hp28 rfl ?_
      refine xseq ?_
      refine xregion ?_
      obtain ⟨y30, h29, h⟩ := h
      refine xcall0 (palinodelaw14_awake_con _ h29) Try.func12 (by kernel_rfl) rfl .nil rfl rfl ?_
      refine xvalP (pv_assign rfl) rfl rfl ?_
      refine xnil ?_
      refine xthen ?_
      refine xretc ?_
      refine xthen_ret ?_
      replace h := h.symm
      subst h
      exact xret1 hg rfl rfl (.refl _) (SubM.of (.nil _) (.nil _)) ⟨rfl, rfl, rfl⟩
    · replace h := h.2 hp28
      refine xcondF' (b_f hp28) rfl ?_
      refine xskipc ?_
      refine xthen ?_
      refine xseq ?_
      refine xregion ?_
      refine xvalP (pv_move rfl) rfl rfl ?_
      obtain ⟨y32, h31, h⟩ := h
      refine xcallM (palinodelaw14_bent_con x1 (10 : UInt8) _ h31) Try.func13 (by kernel_rfl) rfl (.cons rfl (.refl _) (.cons rfl (.refl _) .nil)) rfl rfl fun i33 => ?_
      refine xvalP (pv_assign rfl) rfl rfl ?_
      refine xnil ?_
      refine xthen ?_
      refine xseq ?_
      refine xregion ?_
      refine xvalP (pv_move rfl) rfl rfl ?_
      obtain ⟨y35, h34, h⟩ := h
      refine xcallM (palinoderef01_Copy_con x1 _ h34) Try.func14 (by kernel_rfl) rfl (.cons rfl (.refl _) .nil) rfl rfl fun i36 => ?_
      refine xbuildSliceM (f := eb) [(10 : UInt8)] UndC.h InfC.h rfl rfl (by first | exact wkR_of rfl | (repeat (first | exact WkR.nil | refine WkR.cons (by (repeat (first | exact WkL.nil | refine WkL.cons (by first | with_reducible exact Wk.refl _ | exact Wk.nil_own _ | exact Wk.nil_pl _ | with_reducible exact Wk.tok _ _ _ | exact Wk.tok _ _ _ | exact Wk.eq (by first | rfl | (simp []; done) | (simp []; omega))) ?_))) ?_))) rfl rfl rfl rfl fun s25 => ?_
      obtain ⟨h37, h⟩ := h
      refine xappendM (l := y35) (l2 := [(10 : UInt8)]) 1 h37 UndC.h InfC.h rfl rfl rfl (.refl _) rfl rfl rfl fun i38 => ?_
      refine xvalP (pv_assign rfl) rfl rfl ?_
      refine xnil ?_
      refine xthen ?_
      refine xseq ?_
      refine xregion ?_
      refine xvalP (pv_move rfl) rfl rfl ?_
      obtain ⟨y40, h39, h⟩ := h
      refine xcallF (Fb := []) (Ft := [⟨(some (s25, 1)), 5, 1, ([(10 : UInt8)]).length⟩, ⟨i38, 5, 1, ((y35 ++ [(10 : UInt8)])).length⟩, ⟨i33, 5, 1, y32.length⟩]) (scan_Open_con y32 _ h39) Try.func7 (by kernel_rfl) rfl (.cons rfl (.tok _ _ _) .nil) (by exact (SubM.of (by repeat (first | with_reducible exact SubB.refl _ | exact SubB.nil _ | refine SubB.keep rfl rfl (by first | with_reducible exact WkL.refl _ | ((repeat (first | exact WkL.nil | refine WkL.cons (by first | with_reducible exact Wk.refl _ | exact Wk.nil_own _ | exact Wk.nil_pl _ | with_reducible exact Wk.tok _ _ _ | exact Wk.tok _ _ _ | exact Wk.eq (by first | rfl | (simp []; done) | (simp []; omega))) ?_)); done) | exact WkL.refl _) ?_ | refine SubB.drop ?_)) (by repeat (first | exact SubT.nil _ | refine SubT.add ?_ | (refine SubT.keep ?_ ?_; focus (first | with_reducible rfl | (simp []; done))) | refine SubT.drop ?_)))) rfl rfl ?_
      rintro _ _ _ ⟨b42, i41, rfl, rfl, rfl⟩
      simp only [List.nil_append, List.cons_append]
      obtain ⟨y44, h43, h⟩ := h
      refine xcallF (Fb := []) (Ft := [⟨(some (s25, 1)), 5, 1, ([(10 : UInt8)]).length⟩, ⟨i38, 5, 1, ((y35 ++ [(10 : UInt8)])).length⟩, ⟨i33, 5, 1, y32.length⟩]) (scan_Cursor_Text_con (y40.1, y40.2) b42 i41 _ h43) Try.func15 (by kernel_rfl) rfl (.cons rfl (.refl _) .nil) (by exact (SubM.of (by repeat (first | with_reducible exact SubB.refl _ | exact SubB.nil _ | refine SubB.keep rfl rfl (by first | with_reducible exact WkL.refl _ | ((repeat (first | exact WkL.nil | refine WkL.cons (by first | with_reducible exact Wk.refl _ | exact Wk.nil_own _ | exact Wk.nil_pl _ | with_reducible exact Wk.tok _ _ _ | exact Wk.tok _ _ _ | exact Wk.eq (by first | rfl | (simp []; done) | (simp []; omega))) ?_)); done) | exact WkL.refl _) ?_ | refine SubB.drop ?_)) (by repeat (first | exact SubT.nil _ | refine SubT.add ?_ | (refine SubT.keep ?_ ?_; focus (first | with_reducible rfl | (simp []; done))) | refine SubT.drop ?_)))) rfl rfl ?_
      rintro _ _ _ ⟨i45, i46, rfl, rfl, rfl⟩
      simp only [List.nil_append, List.cons_append]
      refine xvalP (pv_move rfl) rfl rfl ?_
      refine xvalP (pv_extract rfl rfl) rfl rfl ?_
      refine xvalP (pv_extract rfl rfl) rfl rfl ?_
      refine xvalP (pv_assign rfl) rfl rfl ?_
      refine xvalP (pv_assign rfl) rfl rfl ?_
      refine xnil ?_
      refine xthen ?_
      refine xseq ?_
      refine xregion ?_
      refine xvalP (pv_move rfl) rfl rfl ?_
      obtain ⟨y48, h47, h⟩ := h
      refine xcallM (palinoderef01_Copy_con y32 _ h47) Try.func14 (by kernel_rfl) rfl (.cons rfl (.tok _ _ _) .nil) rfl rfl fun i49 => ?_
      refine xbuildSliceM (f := eb) [(10 : UInt8)] UndC.h InfC.h rfl rfl (by first | exact wkR_of rfl | (repeat (first | exact WkR.nil | refine WkR.cons (by (repeat (first | exact WkL.nil | refine WkL.cons (by first | with_reducible exact Wk.refl _ | exact Wk.nil_own _ | exact Wk.nil_pl _ | with_reducible exact Wk.tok _ _ _ | exact Wk.tok _ _ _ | exact Wk.eq (by first | rfl | (simp []; done) | (simp []; omega))) ?_))) ?_))) rfl rfl rfl rfl fun s35 => ?_
      obtain ⟨h50, h⟩ := h
      refine xappendM (l := y48) (l2 := [(10 : UInt8)]) 1 h50 UndC.h InfC.h rfl rfl rfl (.refl _) rfl rfl rfl fun i51 => ?_
      refine xvalP (pv_move rfl) rfl rfl ?_
      obtain ⟨h52, h⟩ := h
      refine xappendM (l := (y48 ++ [(10 : UInt8)])) (l2 := x2) 1 h52 UndC.h InfC.h rfl rfl rfl (.refl _) rfl rfl rfl fun i53 => ?_
      obtain ⟨y55, h54, h⟩ := h
      refine xcallF (Fb := [⟨b42, 45, [.sl 1 (some i46) (List.map eb y44.2.2.1), .v (.int .i64 y44.2.2.2)]⟩]) (Ft := [⟨(some (s35, 1)), 5, 1, ([(10 : UInt8)]).length⟩, ⟨i53, 5, 1, (((y48 ++ [(10 : UInt8)]) ++ x2)).length⟩, ⟨i45, 5, 1, y44.1.length⟩, ⟨i46, 5, 1, y44.2.2.1.length⟩, ⟨(some (s25, 1)), 5, 1, ([(10 : UInt8)]).length⟩, ⟨i38, 5, 1, ((y35 ++ [(10 : UInt8)])).length⟩, ⟨i33, 5, 1, y32.length⟩]) (scan_Open_con ((y48 ++ [(10 : UInt8)]) ++ x2) _ h54) Try.func7 (by kernel_rfl) rfl (.cons rfl (.tok _ _ _) .nil) (by exact (SubM.of (by repeat (first | with_reducible exact SubB.refl _ | exact SubB.nil _ | refine SubB.keep rfl rfl (by first | with_reducible exact WkL.refl _ | ((repeat (first | exact WkL.nil | refine WkL.cons (by first | with_reducible exact Wk.refl _ | exact Wk.nil_own _ | exact Wk.nil_pl _ | with_reducible exact Wk.tok _ _ _ | exact Wk.tok _ _ _ | exact Wk.eq (by first | rfl | (simp []; done) | (simp []; omega))) ?_)); done) | exact WkL.refl _) ?_ | refine SubB.drop ?_)) (by repeat (first | exact SubT.nil _ | refine SubT.add ?_ | (refine SubT.keep ?_ ?_; focus (first | with_reducible rfl | (simp []; done))) | refine SubT.drop ?_)))) rfl rfl ?_
      rintro _ _ _ ⟨b57, i56, rfl, rfl, rfl⟩
      simp only [List.nil_append, List.cons_append]
      refine xvalP (pv_assign rfl) rfl rfl ?_
      refine xnil ?_
      refine xthen ?_
      refine xseq ?_
      refine xregion ?_
      refine xvalP (pv_move rfl) rfl rfl ?_
      obtain ⟨y59, h58, h⟩ := h
      refine xcallF (Fb := [⟨b42, 45, [.sl 1 (some i46) (List.map eb y44.2.2.1), .v (.int .i64 y44.2.2.2)]⟩]) (Ft := [⟨(some (s35, 1)), 5, 1, ([(10 : UInt8)]).length⟩, ⟨i53, 5, 1, (((y48 ++ [(10 : UInt8)]) ++ x2)).length⟩, ⟨i45, 5, 1, y44.1.length⟩, ⟨i46, 5, 1, y44.2.2.1.length⟩, ⟨(some (s25, 1)), 5, 1, ([(10 : UInt8)]).length⟩, ⟨i38, 5, 1, ((y35 ++ [(10 : UInt8)])).length⟩, ⟨i33, 5, 1, y32.length⟩]) (scan_Cursor_Text_con (y55.1, y55.2) b57 i56 _ h58) Try.func15 (by kernel_rfl) rfl (.cons rfl (.refl _) .nil) (by exact (SubM.of (by repeat (first | with_reducible exact SubB.refl _ | exact SubB.nil _ | refine SubB.keep rfl rfl (by first | with_reducible exact WkL.refl _ | ((repeat (first | exact WkL.nil | refine WkL.cons (by first | with_reducible exact Wk.refl _ | exact Wk.nil_own _ | exact Wk.nil_pl _ | with_reducible exact Wk.tok _ _ _ | exact Wk.tok _ _ _ | exact Wk.eq (by first | rfl | (simp []; done) | (simp []; omega))) ?_)); done) | exact WkL.refl _) ?_ | refine SubB.drop ?_)) (by repeat (first | exact SubT.nil _ | refine SubT.add ?_ | (refine SubT.keep ?_ ?_; focus (first | with_reducible rfl | (simp []; done))) | refine SubT.drop ?_)))) rfl rfl ?_
      rintro _ _ _ ⟨i60, i61, rfl, rfl, rfl⟩
      simp only [List.nil_append, List.cons_append]
      refine xvalP (pv_move rfl) rfl rfl ?_
      refine xvalP (pv_extract rfl rfl) rfl rfl ?_
      refine xvalP (pv_extract rfl rfl) rfl rfl ?_
      refine xvalP (pv_assign rfl) rfl rfl ?_
      refine xvalP (pv_assign rfl) rfl rfl ?_
      refine xnil ?_
      refine xthen ?_
      refine xseqM (fun σ => ∃ (x80 : Bool), palinodelaw14_ScanTexts_j2 x80 r ∧ σ = ⟨[(4, .v (.bool x80))], [], []⟩) ?_ ?_
      · refine xregion ?_
        refine xvalP (pv_move rfl) rfl rfl ?_
        refine xvalP (pv_bin2 rfl rfl rfl) rfl rfl ?_
        refine xvalP (pv_move rfl) rfl rfl ?_
        by_cases hp82 : y44.2.1 = 0
        · replace h := h.1 hp82
          refine xsetB 47 (decide_eq_true hp82) rfl ?_
          refine xvalP (pv_move rfl) rfl rfl ?_
          refine xvalP (pv_bin2 rfl rfl rfl) rfl rfl ?_
          refine xvalP (pv_pick rfl rfl) rfl rfl ?_
          refine xvalP (pv_move rfl) rfl rfl ?_
          by_cases hp84 : y59.2.1 = 0
          · replace h := h.1 hp84
            refine xsetB 51 (decide_eq_true hp84) rfl ?_
            refine xvalP (pv_move rfl) rfl rfl ?_
            refine xvalP (pv_move rfl) rfl rfl ?_
            obtain ⟨y86, h85, h⟩ := h
            refine xcall0 (palinoderef01_Same_con y44.1 (y35 ++ [(10 : UInt8)]) _ h85) Try.func16 (by kernel_rfl) rfl (.cons rfl (.tok _ _ _) (.cons rfl (.tok _ _ _) .nil)) rfl rfl ?_
            refine xvalP (pv_pick rfl rfl) rfl rfl ?_
            refine xvalP (pv_move rfl) rfl rfl ?_
            by_cases hp87 : y86 = true
            · replace h := h.1 hp87
              refine xsetB 56 hp87 rfl ?_
              refine xvalP (pv_move rfl) rfl rfl ?_
              refine xvalP (pv_move rfl) rfl rfl ?_
              obtain ⟨y89, h88, h⟩ := h
              refine xcall0 (palinoderef01_Same_con y59.1 (y35 ++ [(10 : UInt8)]) _ h88) Try.func16 (by kernel_rfl) rfl (.cons rfl (.tok _ _ _) (.cons rfl (.tok _ _ _) .nil)) rfl rfl ?_
              refine xvalP (pv_pick rfl rfl) rfl rfl ?_
              refine xvalP (pv_move rfl) rfl rfl ?_
              by_cases hp90 : y89 = true
              · replace h := h.1 hp90
                refine xsetB 61 hp90 rfl ?_
                refine xvalP (pv_move rfl) rfl rfl ?_
                obtain ⟨y92, h91, h⟩ := h
                refine xcallF (Fb := [⟨b42, 45, [.sl 1 (some i46) (List.map eb y44.2.2.1), .v (.int .i64 y44.2.2.2)]⟩]) (Ft := [⟨i60, 5, 1, y59.1.length⟩, ⟨(some (s35, 1)), 5, 1, ([(10 : UInt8)]).length⟩, ⟨i53, 5, 1, (((y48 ++ [(10 : UInt8)]) ++ x2)).length⟩, ⟨i45, 5, 1, y44.1.length⟩, ⟨i46, 5, 1, y44.2.2.1.length⟩, ⟨(some (s25, 1)), 5, 1, ([(10 : UInt8)]).length⟩, ⟨i38, 5, 1, ((y35 ++ [(10 : UInt8)])).length⟩, ⟨i33, 5, 1, y32.length⟩]) (scan_Cursor_At_con (y59.2.2.1, y59.2.2.2) b57 i61 _ h91) Try.func11 (by kernel_rfl) rfl (.cons rfl (.refl _) .nil) (by refine SubM.trans (SubM.mvT 1 rfl) ?_; (simp only [List.eraseIdx]); exact (SubM.of (by repeat (first | with_reducible exact SubB.refl _ | exact SubB.nil _ | refine SubB.keep rfl rfl (by first | with_reducible exact WkL.refl _ | ((repeat (first | exact WkL.nil | refine WkL.cons (by first | with_reducible exact Wk.refl _ | exact Wk.nil_own _ | exact Wk.nil_pl _ | with_reducible exact Wk.tok _ _ _ | exact Wk.tok _ _ _ | exact Wk.eq (by first | rfl | (simp []; done) | (simp []; omega))) ?_)); done) | exact WkL.refl _) ?_ | refine SubB.drop ?_)) (by repeat (first | exact SubT.nil _ | refine SubT.add ?_ | (refine SubT.keep ?_ ?_; focus (first | with_reducible rfl | (simp []; done))) | refine SubT.drop ?_)))) rfl rfl ?_
                rintro _ _ _ ⟨rfl, rfl, rfl⟩
                simp only [List.nil_append, List.cons_append]
                refine xvalP (pv_move rfl) rfl rfl ?_
                refine xvalP (pv_lenM UndC.h rfl) rfl rfl ?_
                obtain ⟨h94, h⟩ := h
                refine xvalP (pv_addI h94 rfl rfl) rfl rfl ?_
                refine xvalP (pv_bin2 rfl rfl rfl) rfl rfl ?_
                refine xvalP (pv_pick rfl rfl) rfl rfl ?_
                refine xvalP (pv_move rfl) rfl rfl ?_
                by_cases hp96 : y92 = ((y32.length : Int) + 1)
                · replace h := h.1 hp96
                  refine xsetB 69 (decide_eq_true hp96) rfl ?_
                  obtain ⟨y98, h97, h⟩ := h
                  refine xcall0 (palinodelaw14_awake_con _ h97) Try.func12 (by kernel_rfl) rfl .nil rfl rfl ?_
                  refine xvalP (pv_pick rfl rfl) rfl rfl ?_
                  refine xvalP (pv_assign rfl) rfl rfl ?_
                  refine xnil ?_
                  exact xmeet ⟨y98, h, rfl⟩ ⟨(.cons rfl (.refl _) (.nil _)), (SubM.of (.nil _) (.nil _))⟩
                · replace h := h.2 hp96
                  refine xsetB 69 (decide_eq_false hp96) rfl ?_
                  refine xskip rfl rfl ?_
                  refine xvalP (pv_pick rfl rfl) rfl rfl ?_
                  refine xvalP (pv_assign rfl) rfl rfl ?_
                  refine xnil ?_
                  exact xmeet ⟨false, h, rfl⟩ ⟨(.cons rfl (.refl _) (.nil _)), (SubM.of (.nil _) (.nil _))⟩
              · replace h := h.2 hp90
                refine xsetB 61 (b_f hp90) rfl ?_
                refine xskip rfl rfl ?_
                refine xskip rfl rfl ?_
                refine xskip rfl rfl ?_
                refine xskip rfl rfl ?_
                refine xskip rfl rfl ?_
                refine xskip rfl rfl ?_
                refine xvalP (pv_pick rfl rfl) rfl rfl ?_
                refine xvalP (pv_move rfl) rfl rfl ?_
                refine xskip rfl rfl ?_
                refine xvalP (pv_pick rfl rfl) rfl rfl ?_
                refine xvalP (pv_assign rfl) rfl rfl ?_
                refine xnil ?_
                exact xmeet ⟨false, h, rfl⟩ ⟨(.cons rfl (.refl _) (.nil _)), (SubM.of (.nil _) (.nil _))⟩
            · replace h := h.2 hp87
              refine xsetB 56 (b_f hp87) rfl ?_
              refine xskip rfl rfl ?_
              refine xskip rfl rfl ?_
              refine xskip rfl rfl ?_
              refine xvalP (pv_pick rfl rfl) rfl rfl ?_
              refine xvalP (pv_move rfl) rfl rfl ?_
              refine xskip rfl rfl ?_
              refine xskip rfl rfl ?_
              refine xskip rfl rfl ?_
              refine xskip rfl rfl ?_
              refine xskip rfl rfl ?_
              refine xskip rfl rfl ?_
              refine xvalP (pv_pick rfl rfl) rfl rfl ?_
              refine xvalP (pv_move rfl) rfl rfl ?_
              refine xskip rfl rfl ?_
              refine xvalP (pv_pick rfl rfl) rfl rfl ?_
              refine xvalP (pv_assign rfl) rfl rfl ?_
              refine xnil ?_
              exact xmeet ⟨false, h, rfl⟩ ⟨(.cons rfl (.refl _) (.nil _)), (SubM.of (.nil _) (.nil _))⟩
          · replace h := h.2 hp84
            refine xsetB 51 (decide_eq_false hp84) rfl ?_
            refine xskip rfl rfl ?_
            refine xskip rfl rfl ?_
            refine xskip rfl rfl ?_
            refine xvalP (pv_pick rfl rfl) rfl rfl ?_
            refine xvalP (pv_move rfl) rfl rfl ?_
            refine xskip rfl rfl ?_
            refine xskip rfl rfl ?_
            refine xskip rfl rfl ?_
            refine xvalP (pv_pick rfl rfl) rfl rfl ?_
            refine xvalP (pv_move rfl) rfl rfl ?_
            refine xskip rfl rfl ?_
            refine xskip rfl rfl ?_
            refine xskip rfl rfl ?_
            refine xskip rfl rfl ?_
            refine xskip rfl rfl ?_
            refine xskip rfl rfl ?_
            refine xvalP (pv_pick rfl rfl) rfl rfl ?_
            refine xvalP (pv_move rfl) rfl rfl ?_
            refine xskip rfl rfl ?_
            refine xvalP (pv_pick rfl rfl) rfl rfl ?_
            refine xvalP (pv_assign rfl) rfl rfl ?_
            refine xnil ?_
            exact xmeet ⟨false, h, rfl⟩ ⟨(.cons rfl (.refl _) (.nil _)), (SubM.of (.nil _) (.nil _))⟩
        · replace h := h.2 hp82
          refine xsetB 47 (decide_eq_false hp82) rfl ?_
          refine xskip rfl rfl ?_
          refine xskip rfl rfl ?_
          refine xvalP (pv_pick rfl rfl) rfl rfl ?_
          refine xvalP (pv_move rfl) rfl rfl ?_
          refine xskip rfl rfl ?_
          refine xskip rfl rfl ?_
          refine xskip rfl rfl ?_
          refine xvalP (pv_pick rfl rfl) rfl rfl ?_
          refine xvalP (pv_move rfl) rfl rfl ?_
          refine xskip rfl rfl ?_
          refine xskip rfl rfl ?_
          refine xskip rfl rfl ?_
          refine xvalP (pv_pick rfl rfl) rfl rfl ?_
          refine xvalP (pv_move rfl) rfl rfl ?_
          refine xskip rfl rfl ?_
          refine xskip rfl rfl ?_
          refine xskip rfl rfl ?_
          refine xskip rfl rfl ?_
          refine xskip rfl rfl ?_
          refine xskip rfl rfl ?_
          refine xvalP (pv_pick rfl rfl) rfl rfl ?_
          refine xvalP (pv_move rfl) rfl rfl ?_
          refine xskip rfl rfl ?_
          refine xvalP (pv_pick rfl rfl) rfl rfl ?_
          refine xvalP (pv_assign rfl) rfl rfl ?_
          refine xnil ?_
          exact xmeet ⟨false, h, rfl⟩ ⟨(.cons rfl (.refl _) (.nil _)), (SubM.of (.nil _) (.nil _))⟩
      · clear h
        rintro _ ⟨x80, h, rfl⟩
        refine xretc ?_
        replace h := h.symm
        subst h
        exact xret1 hg rfl rfl (.refl _) (SubM.of (.nil _) (.nil _)) ⟨rfl, rfl, rfl⟩
end Go.Proofs.Ytfngfgiikpofgaa
