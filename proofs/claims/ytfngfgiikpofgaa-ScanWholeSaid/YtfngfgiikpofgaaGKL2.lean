/- What functions' texts ask for, and the walks that show it (printed by a program). -/
import Derived.Test.YtfngfgiikpofgaaGK
namespace Go.Proofs.Ytfngfgiikpofgaa
/-- palinodelaw14.ScanUntil -/
def palinodelaw14_ScanUntil_j2 (x88 : Bool) (r : Bool) : Prop :=
  r = x88
def palinodelaw14_ScanUntil_j1 (x1 : List UInt8) (x3 : UInt8) (x2 : List UInt8) (x32 : Bool) (r : Bool) : Prop :=
  ((x32 = true → ∃ y43 : Bool, palinodelaw14_awake_R y43 ∧ r = y43) ∧ (¬ (x32 = true) → ∃ y45 : (List UInt8), palinodelaw14_bent_R x1 x3 y45 ∧ ∃ y48 : (List UInt8), palinoderef01_Copy_R y45 y48 ∧ Room (y48.length + ([x3]).length) 1 ∧ Room (((y48 ++ [x3])).length + x2.length) 1 ∧ ∃ y55 : ((List UInt8) × Int), scan_Open_R ((y48 ++ [x3]) ++ x2) y55 ∧ ∃ y59 : (List UInt8) × Int × ((List UInt8) × Int), scan_Cursor_Until_R (y55.1, y55.2) x3 y59 ∧ ((y59.2.1 = 0 → ∃ y92 : Bool, palinoderef01_Same_R y59.1 y45 y92 ∧ ((y92 = true → ∃ y95 : Int, scan_Cursor_At_R (y59.2.2.1, y59.2.2.2) y95 ∧ InR ((y45.length : Int) + 1) ∧ ((y95 = ((y45.length : Int) + 1) → ∃ y101 : ((List UInt8) × Int), scan_Open_R x2 y101 ∧ ∃ y105 : (List UInt8) × ((List UInt8) × Int), scan_Cursor_Rest_R (y101.1, y101.2) y105 ∧ ∃ y108 : (List UInt8) × ((List UInt8) × Int), scan_Cursor_Rest_v2_R (y59.2.2.1, y59.2.2.2) y108 ∧ ∃ y111 : Bool, palinoderef01_Same_R y105.1 y108.1 y111 ∧ ((y111 = true → ∃ y114 : Bool, palinodelaw14_awake_R y114 ∧ palinodelaw14_ScanUntil_j2 y114 r) ∧ (¬ (y111 = true) → palinodelaw14_ScanUntil_j2 false r))) ∧ (¬ (y95 = ((y45.length : Int) + 1)) → palinodelaw14_ScanUntil_j2 false r))) ∧ (¬ (y92 = true) → palinodelaw14_ScanUntil_j2 false r))) ∧ (¬ (y59.2.1 = 0) → palinodelaw14_ScanUntil_j2 false r))))
def palinodelaw14_ScanUntil_R (x1 : List UInt8) (x2 : List UInt8) (x3 : UInt8) (r : Bool) : Prop :=
  ((100 < (x1.length : Int) → palinodelaw14_ScanUntil_j1 x1 x3 x2 true r) ∧ (¬ (100 < (x1.length : Int)) → ((100 < (x2.length : Int) → palinodelaw14_ScanUntil_j1 x1 x3 x2 true r) ∧ (¬ (100 < (x2.length : Int)) → ∃ y40 : Bool, palinoderef14_IsDelim_R x3 y40 ∧ palinodelaw14_ScanUntil_j1 x1 x3 x2 (!y40) r))))
set_option maxHeartbeats 4000000 in
theorem palinodelaw14_ScanUntil_con (x1 : List UInt8) (x2 : List UInt8) (x3 : UInt8) (r : Bool) (h : palinodelaw14_ScanUntil_R x1 x2 x3 r) : Con Try.prog 5 [.sl 1 none (List.map eb x1), .sl 1 none (List.map eb x2), .v (.int .u8 ((x3.toNat : Int)))] [] [] (Ret (.v (.bool r))) := by
  refine xenter Try.func5 rfl rfl fun g hg => ?_
  simp only [Try.ntmps5, slots]
  refine xseq ?_
  refine xregion ?_
  refine xvalP (pv_assign rfl) rfl rfl ?_
  refine xnil ?_
  refine xthen ?_
  refine xseq ?_
  refine xseqM (fun σ => ∃ (x32 : Bool), palinodelaw14_ScanUntil_j1 x1 x3 x2 x32 r ∧ σ = ⟨[(0, .sl 1 none (List.map eb x1)), (1, .sl 1 none (List.map eb x2)), (2, .v (.int .u8 ((x3.toNat : Int)))), (23, .v (.bool x32))], [], []⟩) ?_ ?_
  · refine xregion ?_
    refine xvalP (pv_move rfl) rfl rfl ?_
    refine xvalP (pv_lenM UndC.h rfl) rfl rfl ?_
    refine xvalP (pv_bin2 rfl rfl rfl) rfl rfl ?_
    refine xvalP (pv_move rfl) rfl rfl ?_
    by_cases hp35 : 100 < (x1.length : Int)
    · replace h := h.1 hp35
      refine xsetB 14 (decide_eq_true hp35) rfl ?_
      refine xskip rfl rfl ?_
      refine xskip rfl rfl ?_
      refine xskip rfl rfl ?_
      refine xvalP (pv_pick rfl rfl) rfl rfl ?_
      refine xvalP (pv_move rfl) rfl rfl ?_
      refine xskip rfl rfl ?_
      refine xskip rfl rfl ?_
      refine xskip rfl rfl ?_
      refine xvalP (pv_pick rfl rfl) rfl rfl ?_
      refine xnil ?_
      exact xmeet ⟨true, h, rfl⟩ ⟨(.cons rfl (.refl _) (.cons rfl (.refl _) (.cons rfl (.refl _) (.cons rfl (.refl _) (.nil _))))), (SubM.of (.nil _) (.nil _))⟩
    · replace h := h.2 hp35
      refine xsetB 14 (decide_eq_false hp35) rfl ?_
      refine xvalP (pv_move rfl) rfl rfl ?_
      refine xvalP (pv_lenM UndC.h rfl) rfl rfl ?_
      refine xvalP (pv_bin2 rfl rfl rfl) rfl rfl ?_
      refine xvalP (pv_pick rfl rfl) rfl rfl ?_
      refine xvalP (pv_move rfl) rfl rfl ?_
      by_cases hp38 : 100 < (x2.length : Int)
      · replace h := h.1 hp38
        refine xsetB 19 (decide_eq_true hp38) rfl ?_
        refine xskip rfl rfl ?_
        refine xskip rfl rfl ?_
        refine xskip rfl rfl ?_
        refine xvalP (pv_pick rfl rfl) rfl rfl ?_
        refine xnil ?_
        exact xmeet ⟨true, h, rfl⟩ ⟨(.cons rfl (.refl _) (.cons rfl (.refl _) (.cons rfl (.refl _) (.cons rfl (.refl _) (.nil _))))), (SubM.of (.nil _) (.nil _))⟩
      · replace h := h.2 hp38
        refine xsetB 19 (decide_eq_false hp38) rfl ?_
        refine xvalP (pv_move rfl) rfl rfl ?_
        obtain ⟨y40, h39, h⟩ := h
        refine xcall0 (palinoderef14_IsDelim_con x3 _ h39) Try.func9 (by kernel_rfl) rfl (.cons rfl (.refl _) .nil) rfl rfl ?_
        refine xvalP (pv_not rfl) rfl rfl ?_
        refine xvalP (pv_pick rfl rfl) rfl rfl ?_
        refine xnil ?_
        exact xmeet ⟨(!y40), h, rfl⟩ ⟨(.cons rfl (.refl _) (.cons rfl (.refl _) (.cons rfl (.refl _) (.cons rfl (.refl _) (.nil _))))), (SubM.of (.nil _) (.nil _))⟩
  · clear h
    rintro _ ⟨x32, h, rfl⟩
    by_cases hp41 : x32 = true
    · replace h := h.1 hp41
      refine xcondT' hp41 rfl ?_
      refine xseq ?_
      refine xregion ?_
      obtain ⟨y43, h42, h⟩ := h
      refine xcall0 (palinodelaw14_awake_con _ h42) Try.func12 (by kernel_rfl) rfl .nil rfl rfl ?_
      refine xvalP (pv_assign rfl) rfl rfl ?_
      refine xnil ?_
      refine xthen ?_
      refine xretc ?_
      refine xthen_ret ?_
      replace h := h.symm
      subst h
      exact xret1 hg rfl rfl (.refl _) (SubM.of (.nil _) (.nil _)) ⟨rfl, rfl, rfl⟩
    · replace h := h.2 hp41
      refine xcondF' (b_f hp41) rfl ?_
      refine xskipc ?_
      refine xthen ?_
      refine xseq ?_
      refine xregion ?_
      refine xvalP (pv_move rfl) rfl rfl ?_
      refine xvalP (pv_move rfl) rfl rfl ?_
      obtain ⟨y45, h44, h⟩ := h
      refine xcallM (palinodelaw14_bent_con x1 x3 _ h44) Try.func13 (by kernel_rfl) rfl (.cons rfl (.refl _) (.cons rfl (.refl _) .nil)) rfl rfl fun i46 => ?_
      refine xvalP (pv_assign rfl) rfl rfl ?_
      refine xnil ?_
      refine xthen ?_
      refine xseq ?_
      refine xregion ?_
      refine xvalP (pv_move rfl) rfl rfl ?_
      obtain ⟨y48, h47, h⟩ := h
      refine xcallM (palinoderef01_Copy_con y45 _ h47) Try.func14 (by kernel_rfl) rfl (.cons rfl (.tok _ _ _) .nil) rfl rfl fun i49 => ?_
      refine xvalP (pv_move rfl) rfl rfl ?_
      refine xbuildSliceM (f := eb) [x3] UndC.h InfC.h rfl rfl (by first | exact wkR_of rfl | (repeat (first | exact WkR.nil | refine WkR.cons (by (repeat (first | exact WkL.nil | refine WkL.cons (by first | with_reducible exact Wk.refl _ | exact Wk.nil_own _ | exact Wk.nil_pl _ | with_reducible exact Wk.tok _ _ _ | exact Wk.tok _ _ _ | exact Wk.eq (by first | rfl | (simp []; done) | (simp []; omega))) ?_))) ?_))) rfl rfl rfl rfl fun s31 => ?_
      obtain ⟨h50, h⟩ := h
      refine xappendM (l := y48) (l2 := [x3]) 1 h50 UndC.h InfC.h rfl rfl rfl (.refl _) rfl rfl rfl fun i51 => ?_
      refine xvalP (pv_move rfl) rfl rfl ?_
      obtain ⟨h52, h⟩ := h
      refine xappendM (l := (y48 ++ [x3])) (l2 := x2) 1 h52 UndC.h InfC.h rfl rfl rfl (.refl _) rfl rfl rfl fun i53 => ?_
      obtain ⟨y55, h54, h⟩ := h
      refine xcallF (Fb := []) (Ft := [⟨(some (s31, 1)), 5, 1, ([x3]).length⟩, ⟨i53, 5, 1, (((y48 ++ [x3]) ++ x2)).length⟩, ⟨i46, 5, 1, y45.length⟩]) (scan_Open_con ((y48 ++ [x3]) ++ x2) _ h54) Try.func7 (by kernel_rfl) rfl (.cons rfl (.tok _ _ _) .nil) (by exact (SubM.of (by repeat (first | with_reducible exact SubB.refl _ | exact SubB.nil _ | refine SubB.keep rfl rfl (by first | with_reducible exact WkL.refl _ | ((repeat (first | exact WkL.nil | refine WkL.cons (by first | with_reducible exact Wk.refl _ | exact Wk.nil_own _ | exact Wk.nil_pl _ | with_reducible exact Wk.tok _ _ _ | exact Wk.tok _ _ _ | exact Wk.eq (by first | rfl | (simp []; done) | (simp []; omega))) ?_)); done) | exact WkL.refl _) ?_ | refine SubB.drop ?_)) (by repeat (first | exact SubT.nil _ | refine SubT.add ?_ | (refine SubT.keep ?_ ?_; focus (first | with_reducible rfl | (simp []; done))) | refine SubT.drop ?_)))) rfl rfl ?_
      rintro _ _ _ ⟨b57, i56, rfl, rfl, rfl⟩
      simp only [List.nil_append, List.cons_append]
      refine xvalP (pv_assign rfl) rfl rfl ?_
      refine xnil ?_
      refine xthen ?_
      refine xseq ?_
      refine xregion ?_
      refine xvalP (pv_move rfl) rfl rfl ?_
      refine xvalP (pv_move rfl) rfl rfl ?_
      obtain ⟨y59, h58, h⟩ := h
      refine xcallF (Fb := []) (Ft := [⟨(some (s31, 1)), 5, 1, ([x3]).length⟩, ⟨i53, 5, 1, (((y48 ++ [x3]) ++ x2)).length⟩, ⟨i46, 5, 1, y45.length⟩]) (scan_Cursor_Until_con (y55.1, y55.2) x3 b57 i56 _ h58) Try.func8 (by kernel_rfl) rfl (.cons rfl (.refl _) (.cons rfl (.refl _) .nil)) (by exact (SubM.of (by repeat (first | with_reducible exact SubB.refl _ | exact SubB.nil _ | refine SubB.keep rfl rfl (by first | with_reducible exact WkL.refl _ | ((repeat (first | exact WkL.nil | refine WkL.cons (by first | with_reducible exact Wk.refl _ | exact Wk.nil_own _ | exact Wk.nil_pl _ | with_reducible exact Wk.tok _ _ _ | exact Wk.tok _ _ _ | exact Wk.eq (by first | rfl | (simp []; done) | (simp []; omega))) ?_)); done) | exact WkL.refl _) ?_ | refine SubB.drop ?_)) (by repeat (first | exact SubT.nil _ | refine SubT.add ?_ | (refine SubT.keep ?_ ?_; focus (first | with_reducible rfl | (simp []; done))) | refine SubT.drop ?_)))) rfl rfl ?_
      rintro _ _ _ ⟨i60, i61, rfl, rfl, rfl⟩
      simp only [List.nil_append, List.cons_append]
      refine xvalP (pv_move rfl) rfl rfl ?_
      refine xvalP (pv_extract rfl rfl) rfl rfl ?_
      refine xvalP (pv_extract rfl rfl) rfl rfl ?_
      refine xvalP (pv_assign rfl) rfl rfl ?_
      refine xvalP (pv_assign rfl) rfl rfl ?_
      refine xnil ?_
      refine xthen ?_
      refine xseqM (fun σ => ∃ (x88 : Bool), palinodelaw14_ScanUntil_j2 x88 r ∧ σ = ⟨[(6, .v (.bool x88))], [], []⟩) ?_ ?_
      · refine xregion ?_
        refine xvalP (pv_move rfl) rfl rfl ?_
        refine xvalP (pv_bin2 rfl rfl rfl) rfl rfl ?_
        refine xvalP (pv_move rfl) rfl rfl ?_
        by_cases hp90 : y59.2.1 = 0
        · replace h := h.1 hp90
          refine xsetB 44 (decide_eq_true hp90) rfl ?_
          refine xvalP (pv_move rfl) rfl rfl ?_
          refine xvalP (pv_move rfl) rfl rfl ?_
          obtain ⟨y92, h91, h⟩ := h
          refine xcall0 (palinoderef01_Same_con y59.1 y45 _ h91) Try.func16 (by kernel_rfl) rfl (.cons rfl (.tok _ _ _) (.cons rfl (.tok _ _ _) .nil)) rfl rfl ?_
          refine xvalP (pv_pick rfl rfl) rfl rfl ?_
          refine xvalP (pv_move rfl) rfl rfl ?_
          by_cases hp93 : y92 = true
          · replace h := h.1 hp93
            refine xsetB 49 hp93 rfl ?_
            refine xvalP (pv_move rfl) rfl rfl ?_
            obtain ⟨y95, h94, h⟩ := h
            refine xcallF (Fb := []) (Ft := [⟨i60, 5, 1, y59.1.length⟩, ⟨(some (s31, 1)), 5, 1, ([x3]).length⟩, ⟨i53, 5, 1, (((y48 ++ [x3]) ++ x2)).length⟩, ⟨i46, 5, 1, y45.length⟩]) (scan_Cursor_At_con (y59.2.2.1, y59.2.2.2) b57 i61 _ h94) Try.func11 (by kernel_rfl) rfl (.cons rfl (.refl _) .nil) (by refine SubM.trans (SubM.mvT 1 rfl) ?_; (simp only [List.eraseIdx]); exact (SubM.of (by repeat (first | with_reducible exact SubB.refl _ | exact SubB.nil _ | refine SubB.keep rfl rfl (by first | with_reducible exact WkL.refl _ | ((repeat (first | exact WkL.nil | refine WkL.cons (by first | with_reducible exact Wk.refl _ | exact Wk.nil_own _ | exact Wk.nil_pl _ | with_reducible exact Wk.tok _ _ _ | exact Wk.tok _ _ _ | exact Wk.eq (by first | rfl | (simp []; done) | (simp []; omega))) ?_)); done) | exact WkL.refl _) ?_ | refine SubB.drop ?_)) (by repeat (first | exact SubT.nil _ | refine SubT.add ?_ | (refine SubT.keep ?_ ?_; focus (first | with_reducible rfl | (simp []; done))) | refine SubT.drop ?_)))) rfl rfl ?_
            rintro _ _ _ ⟨rfl, rfl, rfl⟩
            simp only [List.nil_append, List.cons_append]
            refine xvalP (pv_move rfl) rfl rfl ?_
            refine xvalP (pv_lenM UndC.h rfl) rfl rfl ?_
            obtain ⟨h97, h⟩ := h
            refine xvalP (pv_addI h97 rfl rfl) rfl rfl ?_
            refine xvalP (pv_bin2 rfl rfl rfl) rfl rfl ?_
            refine xvalP (pv_pick rfl rfl) rfl rfl ?_
            refine xvalP (pv_move rfl) rfl rfl ?_
            by_cases hp99 : y95 = ((y45.length : Int) + 1)
            · replace h := h.1 hp99
              refine xsetB 57 (decide_eq_true hp99) rfl ?_
              refine xvalP (pv_move rfl) rfl rfl ?_
              obtain ⟨y101, h100, h⟩ := h
              refine xcallF (Fb := [⟨b57, 45, [.sl 1 (some i61) (List.map eb y59.2.2.1), .v (.int .i64 y59.2.2.2)]⟩]) (Ft := [⟨i60, 5, 1, y59.1.length⟩, ⟨(some (s31, 1)), 5, 1, ([x3]).length⟩, ⟨i53, 5, 1, (((y48 ++ [x3]) ++ x2)).length⟩, ⟨i46, 5, 1, y45.length⟩]) (scan_Open_con x2 _ h100) Try.func7 (by kernel_rfl) rfl (.cons rfl (.refl _) .nil) (by exact (SubM.of (by repeat (first | with_reducible exact SubB.refl _ | exact SubB.nil _ | refine SubB.keep rfl rfl (by first | with_reducible exact WkL.refl _ | ((repeat (first | exact WkL.nil | refine WkL.cons (by first | with_reducible exact Wk.refl _ | exact Wk.nil_own _ | exact Wk.nil_pl _ | with_reducible exact Wk.tok _ _ _ | exact Wk.tok _ _ _ | exact Wk.eq (by first | rfl | (simp []; done) | (simp []; omega))) ?_)); done) | exact WkL.refl _) ?_ | refine SubB.drop ?_)) (by repeat (first | exact SubT.nil _ | refine SubT.add ?_ | (refine SubT.keep ?_ ?_; focus (first | with_reducible rfl | (simp []; done))) | refine SubT.drop ?_)))) rfl rfl ?_
              rintro _ _ _ ⟨b103, i102, rfl, rfl, rfl⟩
              simp only [List.nil_append, List.cons_append]
              obtain ⟨y105, h104, h⟩ := h
              refine xcallF (Fb := [⟨b57, 45, [.sl 1 (some i61) (List.map eb y59.2.2.1), .v (.int .i64 y59.2.2.2)]⟩]) (Ft := [⟨i60, 5, 1, y59.1.length⟩, ⟨(some (s31, 1)), 5, 1, ([x3]).length⟩, ⟨i53, 5, 1, (((y48 ++ [x3]) ++ x2)).length⟩, ⟨i46, 5, 1, y45.length⟩]) (scan_Cursor_Rest_con (y101.1, y101.2) b103 i102 _ h104) Try.func17 (by kernel_rfl) rfl (.cons rfl (.refl _) .nil) (by exact (SubM.of (by repeat (first | with_reducible exact SubB.refl _ | exact SubB.nil _ | refine SubB.keep rfl rfl (by first | with_reducible exact WkL.refl _ | ((repeat (first | exact WkL.nil | refine WkL.cons (by first | with_reducible exact Wk.refl _ | exact Wk.nil_own _ | exact Wk.nil_pl _ | with_reducible exact Wk.tok _ _ _ | exact Wk.tok _ _ _ | exact Wk.eq (by first | rfl | (simp []; done) | (simp []; omega))) ?_)); done) | exact WkL.refl _) ?_ | refine SubB.drop ?_)) (by repeat (first | exact SubT.nil _ | refine SubT.add ?_ | (refine SubT.keep ?_ ?_; focus (first | with_reducible rfl | (simp []; done))) | refine SubT.drop ?_)))) rfl rfl ?_
              rintro _ _ _ ⟨i106, rfl, rfl, rfl⟩
              simp only [List.nil_append, List.cons_append]
              refine xvalP (pv_move rfl) rfl rfl ?_
              obtain ⟨y108, h107, h⟩ := h
              refine xcallF (Fb := [⟨b103, 45, [.sl 1 none (List.map eb y105.2.1), .v (.int .i64 y105.2.2)]⟩]) (Ft := [⟨i106, 5, 1, y105.1.length⟩, ⟨i60, 5, 1, y59.1.length⟩, ⟨(some (s31, 1)), 5, 1, ([x3]).length⟩, ⟨i53, 5, 1, (((y48 ++ [x3]) ++ x2)).length⟩, ⟨i46, 5, 1, y45.length⟩]) (scan_Cursor_Rest_v2_con (y59.2.2.1, y59.2.2.2) b57 _ h107) Try.func17 (by kernel_rfl) rfl (.cons rfl (.refl _) .nil) (by refine SubM.trans (SubM.mvB 1 rfl) ?_; (simp only [List.eraseIdx]); exact (SubM.of (by repeat (first | with_reducible exact SubB.refl _ | exact SubB.nil _ | refine SubB.keep rfl rfl (by first | with_reducible exact WkL.refl _ | ((repeat (first | exact WkL.nil | refine WkL.cons (by first | with_reducible exact Wk.refl _ | exact Wk.nil_own _ | exact Wk.nil_pl _ | with_reducible exact Wk.tok _ _ _ | exact Wk.tok _ _ _ | exact Wk.eq (by first | rfl | (simp []; done) | (simp []; omega))) ?_)); done) | exact WkL.refl _) ?_ | refine SubB.drop ?_)) (by repeat (first | exact SubT.nil _ | refine SubT.add ?_ | (refine SubT.keep ?_ ?_; focus (first | with_reducible rfl | (simp []; done))) | refine SubT.drop ?_)))) rfl rfl ?_
              rintro _ _ _ ⟨i109, rfl, rfl, rfl⟩
              simp only [List.nil_append, List.cons_append]
              obtain ⟨y111, h110, h⟩ := h
              refine xcall0 (palinoderef01_Same_con y105.1 y108.1 _ h110) Try.func16 (by kernel_rfl) rfl (.cons rfl (.tok _ _ _) (.cons rfl (.tok _ _ _) .nil)) rfl rfl ?_
              refine xvalP (pv_pick rfl rfl) rfl rfl ?_
              refine xvalP (pv_move rfl) rfl rfl ?_
              by_cases hp112 : y111 = true
              · replace h := h.1 hp112
                refine xsetB 65 hp112 rfl ?_
                obtain ⟨y114, h113, h⟩ := h
                refine xcall0 (palinodelaw14_awake_con _ h113) Try.func12 (by kernel_rfl) rfl .nil rfl rfl ?_
                refine xvalP (pv_pick rfl rfl) rfl rfl ?_
                refine xvalP (pv_assign rfl) rfl rfl ?_
                refine xnil ?_
                exact xmeet ⟨y114, h, rfl⟩ ⟨(.cons rfl (.refl _) (.nil _)), (SubM.of (.nil _) (.nil _))⟩
              · replace h := h.2 hp112
                refine xsetB 65 (b_f hp112) rfl ?_
                refine xskip rfl rfl ?_
                refine xvalP (pv_pick rfl rfl) rfl rfl ?_
                refine xvalP (pv_assign rfl) rfl rfl ?_
                refine xnil ?_
                exact xmeet ⟨false, h, rfl⟩ ⟨(.cons rfl (.refl _) (.nil _)), (SubM.of (.nil _) (.nil _))⟩
            · replace h := h.2 hp99
              refine xsetB 57 (decide_eq_false hp99) rfl ?_
              refine xskip rfl rfl ?_
              refine xskip rfl rfl ?_
              refine xskip rfl rfl ?_
              refine xskip rfl rfl ?_
              refine xskip rfl rfl ?_
              refine xskip rfl rfl ?_
              refine xvalP (pv_pick rfl rfl) rfl rfl ?_
              refine xvalP (pv_move rfl) rfl rfl ?_
              refine xskip rfl rfl ?_
              refine xvalP (pv_pick rfl rfl) rfl rfl ?_
              refine xvalP (pv_assign rfl) rfl rfl ?_
              refine xnil ?_
              exact xmeet ⟨false, h, rfl⟩ ⟨(.cons rfl (.refl _) (.nil _)), (SubM.of (.nil _) (.nil _))⟩
          · replace h := h.2 hp93
            refine xsetB 49 (b_f hp93) rfl ?_
            refine xskip rfl rfl ?_
            refine xskip rfl rfl ?_
            refine xskip rfl rfl ?_
            refine xskip rfl rfl ?_
            refine xskip rfl rfl ?_
            refine xskip rfl rfl ?_
            refine xvalP (pv_pick rfl rfl) rfl rfl ?_
            refine xvalP (pv_move rfl) rfl rfl ?_
            refine xskip rfl rfl ?_
            refine xskip rfl rfl ?_
            refine xskip rfl rfl ?_
            refine xskip rfl rfl ?_
            refine xskip rfl rfl ?_
            refine xskip rfl rfl ?_
            refine xvalP (pv_pick rfl rfl) rfl rfl ?_
            refine xvalP (pv_move rfl) rfl rfl ?_
            refine xskip rfl rfl ?_
            refine xvalP (pv_pick rfl rfl) rfl rfl ?_
            refine xvalP (pv_assign rfl) rfl rfl ?_
            refine xnil ?_
            exact xmeet ⟨false, h, rfl⟩ ⟨(.cons rfl (.refl _) (.nil _)), (SubM.of (.nil _) (.nil _))⟩
        · replace h := h.2 hp90
          refine xsetB 44 (decide_eq_false hp90) rfl ?_
          refine xskip rfl rfl ?_
          refine xskip rfl rfl ?_
          refine xskip rfl rfl ?_
          refine xvalP (pv_pick rfl rfl) rfl rfl ?_
          refine xvalP (pv_move rfl) rfl rfl ?_
          refine xskip rfl rfl ?_
          refine xskip rfl rfl ?_
          refine xskip rfl rfl ?_
          refine xskip rfl rfl ?_
          refine xskip rfl rfl ?_
          refine xskip rfl rfl ?_
          refine xvalP (pv_pick rfl rfl) rfl rfl ?_
          refine xvalP (pv_move rfl) rfl rfl ?_
          refine xskip rfl rfl ?_
          refine xskip rfl rfl ?_
          refine xskip rfl rfl ?_
          refine xskip rfl rfl ?_
          refine xskip rfl rfl ?_
          refine xskip rfl rfl ?_
          refine xvalP (pv_pick rfl rfl) rfl rfl ?_
          refine xvalP (pv_move rfl) rfl rfl ?_
          refine xskip rfl rfl ?_
          refine xvalP (pv_pick rfl rfl) rfl rfl ?_
          refine xvalP (pv_assign rfl) rfl rfl ?_
          refine xnil ?_
          exact xmeet ⟨false, h, rfl⟩ ⟨(.cons rfl (.refl _) (.nil _)), (SubM.of (.nil _) (.nil _))⟩
      · clear h
        rintro _ ⟨x88, h, rfl⟩
        refine xretc ?_
        replace h := h.symm
        subst h
        exact xret1 hg rfl rfl (.refl _) (SubM.of (.nil _) (.nil _)) ⟨rfl, rfl, rfl⟩
end Go.Proofs.Ytfngfgiikpofgaa
