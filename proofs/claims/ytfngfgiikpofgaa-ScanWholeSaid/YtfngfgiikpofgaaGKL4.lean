/- What functions' texts ask for, and the walks that show it (printed by a program). -/
import Derived.Test.YtfngfgiikpofgaaGK
namespace Go.Proofs.Ytfngfgiikpofgaa
/-- palinodelaw14.ScanWhole -/
def palinodelaw14_ScanWhole_j5 (x360 : List UInt8) (x1 : List UInt8) (f362 : List UInt8) (f363 : Int) (x792 : Bool) (r : Bool) : Prop :=
  ((x792 = true → r = false) ∧ (¬ (x792 = true) → ∃ y829 : Bool, palinoderef01_Same_R x360 x1 y829 ∧ ((y829 = true → ∃ y832 : Int, scan_Cursor_At_v2_R (f362, f363) y832 ∧ ((y832 = (x1.length : Int) → ∃ y837 : Bool, palinodelaw14_awake_R y837 ∧ r = y837) ∧ (¬ (y832 = (x1.length : Int)) → r = false))) ∧ (¬ (y829 = true) → r = false))))
def palinodelaw14_ScanWhole_j1 (x1 : List UInt8) (x360 : List UInt8) (f362 : List UInt8) (f363 : Int) (r : Bool) : Prop :=
  ∃ y709 : UInt8 × Bool, scan_Cursor_Peek_v3_R y709 ∧ ∃ y711 : UInt8 × Bool, scan_Cursor_Next_v3_R y711 ∧ ∃ y713 : Int × Int, scan_Cursor_Num_R 5 y713 ∧ ∃ y715 : (List UInt8) × Int, scan_Cursor_Until_v2_R (47 : UInt8) y715 ∧ ∃ y717 : (List UInt8) × Int, scan_Cursor_Text_v2_R y717 ∧ ((y709.2 = true → palinodelaw14_ScanWhole_j5 x360 x1 f362 f363 true r) ∧ (¬ (y709.2 = true) → ((y711.2 = true → palinodelaw14_ScanWhole_j5 x360 x1 f362 f363 true r) ∧ (¬ (y711.2 = true) → ((¬ (y713.2 = 1) → palinodelaw14_ScanWhole_j5 x360 x1 f362 f363 true r) ∧ (¬ (¬ (y713.2 = 1)) → ((¬ (y715.2 = 1) → palinodelaw14_ScanWhole_j5 x360 x1 f362 f363 true r) ∧ (¬ (¬ (y715.2 = 1)) → ((¬ (y717.2 = 1) → palinodelaw14_ScanWhole_j5 x360 x1 f362 f363 true r) ∧ (¬ (¬ (y717.2 = 1)) → ∃ y802 : Int, scan_Cursor_At_v3_R y802 ∧ ((¬ (y802 = 0) → palinodelaw14_ScanWhole_j5 x360 x1 f362 f363 true r) ∧ (¬ (¬ (y802 = 0)) → ∃ y806 : Int, scan_Cursor_Skip_R ([(32 : UInt8)]) y806 ∧ ((¬ (y806 = 0) → palinodelaw14_ScanWhole_j5 x360 x1 f362 f363 true r) ∧ (¬ (¬ (y806 = 0)) → ∃ y810 : ByteArray, scan_Cursor_Word_R y810 ∧ ((¬ ((y810.toList == ((⟨#[]⟩ : ByteArray)).toList) = true) → palinodelaw14_ScanWhole_j5 x360 x1 f362 f363 true r) ∧ (¬ (¬ ((y810.toList == ((⟨#[]⟩ : ByteArray)).toList) = true)) → ∃ y814 : (List UInt8), scan_Cursor_Rest_v3_R y814 ∧ palinodelaw14_ScanWhole_j5 x360 x1 f362 f363 (!(decide ((y814.length : Int) = 0))) r))))))))))))))))
def palinodelaw14_ScanWhole_j3 (x479 : Int) (ag2 : ((List UInt8) × Int × (List UInt8) × Int) → Prop) (x664 : List UInt8) (f666 : List UInt8) (f667 : Int) (r : Bool) : Prop :=
  InR (x479 + 1) ∧ ag2 (x664, (x479 + 1), f666, f667)
def palinodelaw14_ScanWhole_j4 (x477 : List UInt8) (y669 : (List UInt8) × ((List UInt8) × Int)) (x479 : Int) (ag2 : ((List UInt8) × Int × (List UInt8) × Int) → Prop) (x688 : Bool) (r : Bool) : Prop :=
  ((x688 = true → Room (((x477 ++ y669.1)).length + ([(10 : UInt8)]).length) 1 ∧ palinodelaw14_ScanWhole_j3 x479 ag2 ((x477 ++ y669.1) ++ [(10 : UInt8)]) y669.2.1 y669.2.2 r) ∧ (¬ (x688 = true) → palinodelaw14_ScanWhole_j3 x479 ag2 (x477 ++ y669.1) y669.2.1 y669.2.2 r))
def palinodelaw14_ScanWhole_l2 (x1 : List UInt8) (ag2 : ((List UInt8) × Int × (List UInt8) × Int) → Prop) (x477 : List UInt8) (x479 : Int) (f480 : List UInt8) (f481 : Int) (r : Bool) : Prop :=
  ((x479 ≤ (x1.length : Int) → ∃ y621 : Int, scan_Cursor_At_v2_R (f480, f481) y621 ∧ ((y621 < (x1.length : Int) → ∃ y669 : (List UInt8) × ((List UInt8) × Int), scan_Cursor_Rest_v2_R (f480, f481) y669 ∧ Room (x477.length + y669.1.length) 1 ∧ ∃ y690 : Int, scan_Cursor_At_v2_R y669.2 y690 ∧ ((0 < y690 → ∃ y694 : Int, scan_Cursor_At_v2_R y669.2 y694 ∧ ((y694 ≤ (x1.length : Int) → ∃ y699 : Int, scan_Cursor_At_v2_R y669.2 y699 ∧ InR (y699 - 1) ∧ 0 ≤ ((y699 - 1) : Int) ∧ ∃ y701 : UInt8, x1[((y699 - 1) : Int).toNat]? = some y701 ∧ palinodelaw14_ScanWhole_j4 x477 y669 x479 ag2 (decide ((y701.toNat : Int) = 10)) r) ∧ (¬ (y694 ≤ (x1.length : Int)) → palinodelaw14_ScanWhole_j4 x477 y669 x479 ag2 false r))) ∧ (¬ (0 < y690) → palinodelaw14_ScanWhole_j4 x477 y669 x479 ag2 false r))) ∧ (¬ (y621 < (x1.length : Int)) → palinodelaw14_ScanWhole_j1 x1 x477 f480 f481 r))) ∧ (¬ (x479 ≤ (x1.length : Int)) → palinodelaw14_ScanWhole_j1 x1 x477 f480 f481 r))
def palinodelaw14_ScanWhole_R (x1 : List UInt8) (r : Bool) : Prop :=
  ((200 < (x1.length : Int) → ∃ y11 : Bool, palinodelaw14_awake_R y11 ∧ r = y11) ∧ (¬ (200 < (x1.length : Int)) → ∃ y13 : ((List UInt8) × Int), scan_Open_R x1 y13 ∧ LoopR (fun ag2 s => palinodelaw14_ScanWhole_l2 x1 ag2 s.1 s.2.1 s.2.2.1 s.2.2.2 r) (([] : List UInt8), 0, y13.1, y13.2)))
set_option maxHeartbeats 4000000 in
theorem palinodelaw14_ScanWhole_con (x1 : List UInt8) (r : Bool) (h : palinodelaw14_ScanWhole_R x1 r) : Con Try.prog 6 [.sl 1 none (List.map eb x1)] [] [] (Ret (.v (.bool r))) := by
  refine xenter Try.func6 rfl rfl fun g hg => ?_
  simp only [Try.ntmps6, slots]
  refine xseq ?_
  refine xregion ?_
  refine xvalP (pv_assign rfl) rfl rfl ?_
  refine xnil ?_
  refine xthen ?_
  refine xseq ?_
  refine xseq ?_
  refine xregion ?_
  refine xvalP (pv_move rfl) rfl rfl ?_
  refine xvalP (pv_lenM UndC.h rfl) rfl rfl ?_
  refine xvalP (pv_bin2 rfl rfl rfl) rfl rfl ?_
  refine xnil ?_
  refine xthen ?_
  by_cases hp9 : 200 < (x1.length : Int)
  · replace h := h.1 hp9
    refine xcondT' (decide_eq_true hp9) rfl ?_
    refine xseq ?_
    refine xregion ?_
    obtain ⟨y11, h10, h⟩ := h
    refine xcall0 (palinodelaw14_awake_con _ h10) Try.func12 (by kernel_rfl) rfl .nil rfl rfl ?_
    refine xvalP (pv_assign rfl) rfl rfl ?_
    refine xnil ?_
    refine xthen ?_
    refine xretc ?_
    refine xthen_ret ?_
    replace h := h.symm
    subst h
    exact xret1 hg rfl rfl (.refl _) (SubM.of (.nil _) (.nil _)) ⟨rfl, rfl, rfl⟩
  · replace h := h.2 hp9
    refine xcondF' (decide_eq_false hp9) rfl ?_
    refine xskipc ?_
    refine xthen ?_
    refine xseq ?_
    refine xregion ?_
    refine xvalP (pv_move rfl) rfl rfl ?_
    obtain ⟨y13, h12, h⟩ := h
    refine xcallF (Fb := []) (Ft := []) (scan_Open_con x1 _ h12) Try.func7 (by kernel_rfl) rfl (.cons rfl (.refl _) .nil) (by exact (SubM.of (by repeat (first | with_reducible exact SubB.refl _ | exact SubB.nil _ | refine SubB.keep rfl rfl (by first | with_reducible exact WkL.refl _ | ((repeat (first | exact WkL.nil | refine WkL.cons (by first | with_reducible exact Wk.refl _ | exact Wk.nil_own _ | exact Wk.nil_pl _ | with_reducible exact Wk.tok _ _ _ | exact Wk.tok _ _ _ | exact Wk.eq (by first | rfl | (simp []; done) | (simp []; omega))) ?_)); done) | exact WkL.refl _) ?_ | refine SubB.drop ?_)) (by repeat (first | exact SubT.nil _ | refine SubT.add ?_ | (refine SubT.keep ?_ ?_; focus (first | with_reducible rfl | (simp []; done))) | refine SubT.drop ?_)))) rfl rfl ?_
    rintro _ _ _ ⟨b15, i14, rfl, rfl, rfl⟩
    simp only [List.nil_append, List.cons_append]
    refine xvalP (pv_assign rfl) rfl rfl ?_
    refine xnil ?_
    refine xthen ?_
    refine xseq ?_
    refine xregion ?_
    refine xvalP (pv_assign rfl) rfl rfl ?_
    refine xnil ?_
    refine xthen ?_
    refine xseqM (fun σ => ∃ (x360 : List UInt8), ∃ (f362 : List UInt8), ∃ (f363 : Int), ∃ (i361 : Option (Nat × Nat)), palinodelaw14_ScanWhole_j1 x1 x360 f362 f363 r ∧ σ = ⟨[(0, .sl 1 none (List.map eb x1)), (3, .v (.pointer (some ⟨b15, 0, none⟩))), (4, .sl 1 (some i361) (List.map eb x360))], [⟨b15, 45, [.sl 1 none (List.map eb f362), .v (.int .i64 f363)]⟩], [⟨i361, 5, 1, x360.length⟩]⟩) ?_ ?_
    · refine xseq ?_
      refine xregion ?_
      refine xvalP (pv_assign rfl) rfl rfl ?_
      refine xnil ?_
      refine xthen ?_
      refine xblock ?_
      obtain ⟨Inv, ⟨m0, hI⟩, hS⟩ := h
      refine xloop (fun σ m => ∃ (x477 : List UInt8), ∃ (x479 : Int), ∃ (f480 : List UInt8), ∃ (f481 : Int), ∃ (i478 : Option (Nat × Nat)), Inv (x477, x479, f480, f481) m ∧ σ = ⟨[(0, .sl 1 none (List.map eb x1)), (3, .v (.pointer (some ⟨b15, 0, none⟩))), (4, .sl 1 (some i478) (List.map eb x477)), (5, .v (.int .i64 x479))], [⟨b15, 45, [.sl 1 none (List.map eb f480), .v (.int .i64 f481)]⟩], [⟨i478, 5, 1, x477.length⟩]⟩) ⟨([] : List UInt8), 0, y13.1, y13.2, none, hI, rfl⟩ ⟨(.cons rfl (.refl _) (.cons rfl (.refl _) (.cons rfl (.nil_own _) (.cons rfl (.refl _) (.nil _))))), (SubM.of (.keep rfl rfl (.cons (.tok _ _ _) (.cons (.refl _) .nil)) (.nil _)) (.add (.nil _)))⟩ ?_
      rintro _ m ⟨x477, x479, f480, f481, i478, hI, rfl⟩
      obtain ⟨ag2, hag2, h⟩ : ∃ ag, (∀ s', ag s' → ∃ m', m' < m ∧ Inv s' m') ∧ palinodelaw14_ScanWhole_l2 x1 ag x477 x479 f480 f481 r := ⟨_, fun _ h => h, hS (x477, x479, f480, f481) _ hI⟩
      clear hS hI
      refine xseq ?_
      refine xseq ?_
      refine xregion ?_
      refine xvalP (pv_move rfl) rfl rfl ?_
      refine xvalP (pv_move rfl) rfl rfl ?_
      refine xvalP (pv_lenM UndC.h rfl) rfl rfl ?_
      refine xvalP (pv_bin2 rfl rfl rfl) rfl rfl ?_
      refine xvalP (pv_move rfl) rfl rfl ?_
      by_cases hp619 : x479 ≤ (x1.length : Int)
      · replace h := h.1 hp619
        refine xsetB 27 (decide_eq_true hp619) rfl ?_
        refine xvalP (pv_move rfl) rfl rfl ?_
        obtain ⟨y621, h620, h⟩ := h
        refine xcallF (Fb := []) (Ft := [⟨i478, 5, 1, x477.length⟩]) (scan_Cursor_At_v2_con (f480, f481) b15 _ h620) Try.func11 (by kernel_rfl) rfl (.cons rfl (.refl _) .nil) (by exact (SubM.of (by repeat (first | with_reducible exact SubB.refl _ | exact SubB.nil _ | refine SubB.keep rfl rfl (by first | with_reducible exact WkL.refl _ | ((repeat (first | exact WkL.nil | refine WkL.cons (by first | with_reducible exact Wk.refl _ | exact Wk.nil_own _ | exact Wk.nil_pl _ | with_reducible exact Wk.tok _ _ _ | exact Wk.tok _ _ _ | exact Wk.eq (by first | rfl | (simp []; done) | (simp []; omega))) ?_)); done) | exact WkL.refl _) ?_ | refine SubB.drop ?_)) (by repeat (first | exact SubT.nil _ | refine SubT.add ?_ | (refine SubT.keep ?_ ?_; focus (first | with_reducible rfl | (simp []; done))) | refine SubT.drop ?_)))) rfl rfl ?_
        rintro _ _ _ ⟨rfl, rfl, rfl⟩
        simp only [List.nil_append, List.cons_append]
        refine xvalP (pv_move rfl) rfl rfl ?_
        refine xvalP (pv_lenM UndC.h rfl) rfl rfl ?_
        refine xvalP (pv_bin2 rfl rfl rfl) rfl rfl ?_
        refine xvalP (pv_pick rfl rfl) rfl rfl ?_
        refine xnil ?_
        refine xthen ?_
        by_cases hp624 : y621 < (x1.length : Int)
        · replace h := h.1 hp624
          refine xcondT' (decide_eq_true hp624) rfl ?_
          refine xskipc ?_
          refine xthen ?_
          refine xseqM (fun σ => ∃ (x664 : List UInt8), ∃ (f666 : List UInt8), ∃ (f667 : Int), ∃ (i665 : Option (Nat × Nat)), palinodelaw14_ScanWhole_j3 x479 ag2 x664 f666 f667 r ∧ σ = ⟨[(0, .sl 1 none (List.map eb x1)), (3, .v (.pointer (some ⟨b15, 0, none⟩))), (4, .sl 1 (some i665) (List.map eb x664)), (5, .v (.int .i64 x479)), (28, .v (.pointer (some ⟨b15, 0, none⟩))), (29, .v (.int .i64 y621)), (30, .sl 1 none (List.map eb x1)), (31, .v (.int .i64 ((x1.length : Int)))), (32, .v (.bool (decide (y621 < (x1.length : Int)))))], [⟨b15, 45, [.sl 1 none (List.map eb f666), .v (.int .i64 f667)]⟩], [⟨i665, 5, 1, x664.length⟩]⟩) ?_ ?_
          · refine xblock ?_
            refine xseq ?_
            refine xregion ?_
            refine xvalP (pv_move rfl) rfl rfl ?_
            refine xvalP (pv_move rfl) rfl rfl ?_
            obtain ⟨y669, h668, h⟩ := h
            refine xcallF (Fb := []) (Ft := [⟨i478, 5, 1, x477.length⟩]) (scan_Cursor_Rest_v2_con (f480, f481) b15 _ h668) Try.func17 (by kernel_rfl) rfl (.cons rfl (.refl _) .nil) (by exact (SubM.of (by repeat (first | with_reducible exact SubB.refl _ | exact SubB.nil _ | refine SubB.keep rfl rfl (by first | with_reducible exact WkL.refl _ | ((repeat (first | exact WkL.nil | refine WkL.cons (by first | with_reducible exact Wk.refl _ | exact Wk.nil_own _ | exact Wk.nil_pl _ | with_reducible exact Wk.tok _ _ _ | exact Wk.tok _ _ _ | exact Wk.eq (by first | rfl | (simp []; done) | (simp []; omega))) ?_)); done) | exact WkL.refl _) ?_ | refine SubB.drop ?_)) (by repeat (first | exact SubT.nil _ | refine SubT.add ?_ | (refine SubT.keep ?_ ?_; focus (first | with_reducible rfl | (simp []; done))) | refine SubT.drop ?_)))) rfl rfl ?_
            rintro _ _ _ ⟨i670, rfl, rfl, rfl⟩
            simp only [List.nil_append, List.cons_append]
            obtain ⟨h671, h⟩ := h
            refine xappendM (l := x477) (l2 := y669.1) 1 h671 UndC.h InfC.h rfl rfl rfl (.refl _) rfl rfl rfl fun i672 => ?_
            refine xvalP (pv_assign rfl) rfl rfl ?_
            refine xnil ?_
            refine xthen ?_
            refine xseqM (fun σ => ∃ (x688 : Bool), palinodelaw14_ScanWhole_j4 x477 y669 x479 ag2 x688 r ∧ σ = ⟨[(0, .sl 1 none (List.map eb x1)), (3, .v (.pointer (some ⟨b15, 0, none⟩))), (4, .sl 1 (some i672) (List.map eb ((x477 ++ y669.1)))), (5, .v (.int .i64 x479)), (28, .v (.pointer (some ⟨b15, 0, none⟩))), (29, .v (.int .i64 y621)), (30, .sl 1 none (List.map eb x1)), (31, .v (.int .i64 ((x1.length : Int)))), (32, .v (.bool (decide (y621 < (x1.length : Int))))), (58, .v (.bool x688))], [⟨b15, 45, [.sl 1 none (List.map eb y669.2.1), .v (.int .i64 y669.2.2)]⟩], [⟨i672, 5, 1, ((x477 ++ y669.1)).length⟩]⟩) ?_ ?_
            · refine xregion ?_
              refine xvalP (pv_move rfl) rfl rfl ?_
              obtain ⟨y690, h689, h⟩ := h
              refine xcallF (Fb := []) (Ft := [⟨i670, 5, 1, y669.1.length⟩, ⟨i672, 5, 1, ((x477 ++ y669.1)).length⟩]) (scan_Cursor_At_v2_con y669.2 b15 _ h689) Try.func11 (by kernel_rfl) rfl (.cons rfl (.refl _) .nil) (by exact (SubM.of (by repeat (first | with_reducible exact SubB.refl _ | exact SubB.nil _ | refine SubB.keep rfl rfl (by first | with_reducible exact WkL.refl _ | ((repeat (first | exact WkL.nil | refine WkL.cons (by first | with_reducible exact Wk.refl _ | exact Wk.nil_own _ | exact Wk.nil_pl _ | with_reducible exact Wk.tok _ _ _ | exact Wk.tok _ _ _ | exact Wk.eq (by first | rfl | (simp []; done) | (simp []; omega))) ?_)); done) | exact WkL.refl _) ?_ | refine SubB.drop ?_)) (by repeat (first | exact SubT.nil _ | refine SubT.add ?_ | (refine SubT.keep ?_ ?_; focus (first | with_reducible rfl | (simp []; done))) | refine SubT.drop ?_)))) rfl rfl ?_
              rintro _ _ _ ⟨rfl, rfl, rfl⟩
              simp only [List.nil_append, List.cons_append]
              refine xvalP (pv_bin2 rfl rfl rfl) rfl rfl ?_
              refine xvalP (pv_move rfl) rfl rfl ?_
              by_cases hp692 : 0 < y690
              · replace h := h.1 hp692
                refine xsetB 43 (decide_eq_true hp692) rfl ?_
                refine xvalP (pv_move rfl) rfl rfl ?_
                obtain ⟨y694, h693, h⟩ := h
                refine xcallF (Fb := []) (Ft := [⟨i670, 5, 1, y669.1.length⟩, ⟨i672, 5, 1, ((x477 ++ y669.1)).length⟩]) (scan_Cursor_At_v2_con y669.2 b15 _ h693) Try.func11 (by kernel_rfl) rfl (.cons rfl (.refl _) .nil) (by exact (SubM.of (by repeat (first | with_reducible exact SubB.refl _ | exact SubB.nil _ | refine SubB.keep rfl rfl (by first | with_reducible exact WkL.refl _ | ((repeat (first | exact WkL.nil | refine WkL.cons (by first | with_reducible exact Wk.refl _ | exact Wk.nil_own _ | exact Wk.nil_pl _ | with_reducible exact Wk.tok _ _ _ | exact Wk.tok _ _ _ | exact Wk.eq (by first | rfl | (simp []; done) | (simp []; omega))) ?_)); done) | exact WkL.refl _) ?_ | refine SubB.drop ?_)) (by repeat (first | exact SubT.nil _ | refine SubT.add ?_ | (refine SubT.keep ?_ ?_; focus (first | with_reducible rfl | (simp []; done))) | refine SubT.drop ?_)))) rfl rfl ?_
                rintro _ _ _ ⟨rfl, rfl, rfl⟩
                simp only [List.nil_append, List.cons_append]
                refine xvalP (pv_move rfl) rfl rfl ?_
                refine xvalP (pv_lenM UndC.h rfl) rfl rfl ?_
                refine xvalP (pv_bin2 rfl rfl rfl) rfl rfl ?_
                refine xvalP (pv_pick rfl rfl) rfl rfl ?_
                refine xvalP (pv_move rfl) rfl rfl ?_
                by_cases hp697 : y694 ≤ (x1.length : Int)
                · replace h := h.1 hp697
                  refine xsetB 50 (decide_eq_true hp697) rfl ?_
                  refine xvalP (pv_move rfl) rfl rfl ?_
                  refine xvalP (pv_move rfl) rfl rfl ?_
                  obtain ⟨y699, h698, h⟩ := h
                  refine xcallF (Fb := []) (Ft := [⟨i670, 5, 1, y669.1.length⟩, ⟨i672, 5, 1, ((x477 ++ y669.1)).length⟩]) (scan_Cursor_At_v2_con y669.2 b15 _ h698) Try.func11 (by kernel_rfl) rfl (.cons rfl (.refl _) .nil) (by exact (SubM.of (by repeat (first | with_reducible exact SubB.refl _ | exact SubB.nil _ | refine SubB.keep rfl rfl (by first | with_reducible exact WkL.refl _ | ((repeat (first | exact WkL.nil | refine WkL.cons (by first | with_reducible exact Wk.refl _ | exact Wk.nil_own _ | exact Wk.nil_pl _ | with_reducible exact Wk.tok _ _ _ | exact Wk.tok _ _ _ | exact Wk.eq (by first | rfl | (simp []; done) | (simp []; omega))) ?_)); done) | exact WkL.refl _) ?_ | refine SubB.drop ?_)) (by repeat (first | exact SubT.nil _ | refine SubT.add ?_ | (refine SubT.keep ?_ ?_; focus (first | with_reducible rfl | (simp []; done))) | refine SubT.drop ?_)))) rfl rfl ?_
                  rintro _ _ _ ⟨rfl, rfl, rfl⟩
                  simp only [List.nil_append, List.cons_append]
                  obtain ⟨h700, h⟩ := h
                  refine xvalP (pv_subI h700 rfl rfl) rfl rfl ?_
                  obtain ⟨h702a, h⟩ := h
                  obtain ⟨y701, h702b, h⟩ := h
                  refine xvalP (pv_indexAddrM h702a h702b UndC.h ShpC.h rfl rfl) rfl rfl ?_
                  refine xval (qv_load ShpC.h rfl rfl rfl) rfl rfl ?_
                  refine xvalP (pv_bin2 rfl rfl rfl) rfl rfl ?_
                  refine xvalP (pv_pick rfl rfl) rfl rfl ?_
                  refine xnil ?_
                  exact xmeet ⟨(decide ((y701.toNat : Int) = 10)), h, rfl⟩ ⟨(.cons rfl (.refl _) (.cons rfl (.refl _) (.cons rfl (.refl _) (.cons rfl (.refl _) (.cons rfl (.refl _) (.cons rfl (.refl _) (.cons rfl (.refl _) (.cons rfl (.refl _) (.cons rfl (.refl _) (.cons rfl (.refl _) (.nil _))))))))))), (SubM.of (.keep rfl rfl (.refl _) (.nil _)) (.drop (.keep rfl (.nil _))))⟩
                · replace h := h.2 hp697
                  refine xsetB 50 (decide_eq_false hp697) rfl ?_
                  refine xskip rfl rfl ?_
                  refine xskip rfl rfl ?_
                  refine xskip rfl rfl ?_
                  refine xskip rfl rfl ?_
                  refine xskip rfl rfl ?_
                  refine xskip rfl rfl ?_
                  refine xskip rfl rfl ?_
                  refine xvalP (pv_pick rfl rfl) rfl rfl ?_
                  refine xnil ?_
                  exact xmeet ⟨false, h, rfl⟩ ⟨(.cons rfl (.refl _) (.cons rfl (.refl _) (.cons rfl (.refl _) (.cons rfl (.refl _) (.cons rfl (.refl _) (.cons rfl (.refl _) (.cons rfl (.refl _) (.cons rfl (.refl _) (.cons rfl (.refl _) (.cons rfl (.refl _) (.nil _))))))))))), (SubM.of (.keep rfl rfl (.refl _) (.nil _)) (.drop (.keep rfl (.nil _))))⟩
              · replace h := h.2 hp692
                refine xsetB 43 (decide_eq_false hp692) rfl ?_
                refine xskip rfl rfl ?_
                refine xskip rfl rfl ?_
                refine xskip rfl rfl ?_
                refine xskip rfl rfl ?_
                refine xskip rfl rfl ?_
                refine xvalP (pv_pick rfl rfl) rfl rfl ?_
                refine xvalP (pv_move rfl) rfl rfl ?_
                refine xskip rfl rfl ?_
                refine xskip rfl rfl ?_
                refine xskip rfl rfl ?_
                refine xskip rfl rfl ?_
                refine xskip rfl rfl ?_
                refine xskip rfl rfl ?_
                refine xskip rfl rfl ?_
                refine xvalP (pv_pick rfl rfl) rfl rfl ?_
                refine xnil ?_
                exact xmeet ⟨false, h, rfl⟩ ⟨(.cons rfl (.refl _) (.cons rfl (.refl _) (.cons rfl (.refl _) (.cons rfl (.refl _) (.cons rfl (.refl _) (.cons rfl (.refl _) (.cons rfl (.refl _) (.cons rfl (.refl _) (.cons rfl (.refl _) (.cons rfl (.refl _) (.nil _))))))))))), (SubM.of (.keep rfl rfl (.refl _) (.nil _)) (.drop (.keep rfl (.nil _))))⟩
            · clear h
              rintro _ ⟨x688, h, rfl⟩
              by_cases hp704 : x688 = true
              · replace h := h.1 hp704
                refine xcondT' hp704 rfl ?_
                refine xregion ?_
                refine xvalP (pv_move rfl) rfl rfl ?_
                refine xbuildSliceM (f := eb) [(10 : UInt8)] UndC.h InfC.h rfl rfl (by first | exact wkR_of rfl | (repeat (first | exact WkR.nil | refine WkR.cons (by (repeat (first | exact WkL.nil | refine WkL.cons (by first | with_reducible exact Wk.refl _ | exact Wk.nil_own _ | exact Wk.nil_pl _ | with_reducible exact Wk.tok _ _ _ | exact Wk.tok _ _ _ | exact Wk.eq (by first | rfl | (simp []; done) | (simp []; omega))) ?_))) ?_))) rfl rfl rfl rfl fun s60 => ?_
                obtain ⟨h705, h⟩ := h
                refine xappendM (l := (x477 ++ y669.1)) (l2 := [(10 : UInt8)]) 1 h705 UndC.h InfC.h rfl rfl rfl (.refl _) rfl rfl rfl fun i706 => ?_
                refine xvalP (pv_assign rfl) rfl rfl ?_
                refine xnil ?_
                refine xin_normal ?_
                exact xmeet ⟨((x477 ++ y669.1) ++ [(10 : UInt8)]), y669.2.1, y669.2.2, i706, h, rfl⟩ ⟨(.cons rfl (.refl _) (.cons rfl (.refl _) (.cons rfl (.refl _) (.cons rfl (.refl _) (.cons rfl (.refl _) (.cons rfl (.refl _) (.cons rfl (.refl _) (.cons rfl (.refl _) (.cons rfl (.refl _) (.nil _)))))))))), (SubM.of (.keep rfl rfl (.refl _) (.nil _)) (.drop (.keep rfl (.nil _))))⟩
              · replace h := h.2 hp704
                refine xcondF' (b_f hp704) rfl ?_
                refine xskipc ?_
                refine xin_normal ?_
                exact xmeet ⟨(x477 ++ y669.1), y669.2.1, y669.2.2, i672, h, rfl⟩ ⟨(.cons rfl (.refl _) (.cons rfl (.refl _) (.cons rfl (.refl _) (.cons rfl (.refl _) (.cons rfl (.refl _) (.cons rfl (.refl _) (.cons rfl (.refl _) (.cons rfl (.refl _) (.cons rfl (.refl _) (.nil _)))))))))), (SubM.of (.keep rfl rfl (.refl _) (.nil _)) (.keep rfl (.nil _)))⟩
          · clear h
            rintro _ ⟨x664, f666, f667, i665, h, rfl⟩
            refine xregion ?_
            refine xvalP (pv_move rfl) rfl rfl ?_
            obtain ⟨h707, h⟩ := h
            refine xvalP (pv_addI h707 rfl rfl) rfl rfl ?_
            refine xvalP (pv_assign rfl) rfl rfl ?_
            refine xnil ?_
            obtain ⟨m', hm, hI⟩ := hag2 _ h
            exact xagain ⟨x664, (x479 + 1), f666, f667, i665, hI, rfl⟩ hm ⟨(.cons rfl (.refl _) (.cons rfl (.refl _) (.cons rfl (.refl _) (.cons rfl (.refl _) (.nil _))))), (SubM.of (.keep rfl rfl (.refl _) (.nil _)) (.keep rfl (.nil _)))⟩
        · replace h := h.2 hp624
          refine xcondF' (decide_eq_false hp624) rfl ?_
          refine xexit ?_
          refine xthen_exit ?_
          refine xthen_exit ?_
          refine xin_same rfl ?_
          exact xmeet ⟨x477, f480, f481, i478, h, rfl⟩ ⟨(.cons rfl (.refl _) (.cons rfl (.refl _) (.cons rfl (.refl _) (.nil _)))), (SubM.of (.keep rfl rfl (.refl _) (.nil _)) (.keep rfl (.nil _)))⟩
      · replace h := h.2 hp619
        refine xsetB 27 (decide_eq_false hp619) rfl ?_
        refine xskip rfl rfl ?_
        refine xskip rfl rfl ?_
        refine xskip rfl rfl ?_
        refine xskip rfl rfl ?_
        refine xskip rfl rfl ?_
        refine xvalP (pv_pick rfl rfl) rfl rfl ?_
        refine xnil ?_
        refine xthen ?_
        refine xcondF rfl ?_
        refine xexit ?_
        refine xthen_exit ?_
        refine xthen_exit ?_
        refine xin_same rfl ?_
        exact xmeet ⟨x477, f480, f481, i478, h, rfl⟩ ⟨(.cons rfl (.refl _) (.cons rfl (.refl _) (.cons rfl (.refl _) (.nil _)))), (SubM.of (.keep rfl rfl (.refl _) (.nil _)) (.keep rfl (.nil _)))⟩
    · clear h
      rintro _ ⟨x360, f362, f363, i361, h, rfl⟩
      refine xseq ?_
      refine xregion ?_
      refine xvalP (pv_assign rfl) rfl rfl ?_
      refine xnil ?_
      refine xthen ?_
      refine xseq ?_
      refine xregion ?_
      refine xvalP (pv_move rfl) rfl rfl ?_
      obtain ⟨y709, h708, h⟩ := h
      refine xcallF (Fb := [⟨b15, 45, [.sl 1 none (List.map eb f362), .v (.int .i64 f363)]⟩]) (Ft := [⟨i361, 5, 1, x360.length⟩]) (scan_Cursor_Peek_v3_con _ h708) Try.func18 (by kernel_rfl) rfl (.cons rfl (.refl _) .nil) (by exact (SubM.of (by repeat (first | with_reducible exact SubB.refl _ | exact SubB.nil _ | refine SubB.keep rfl rfl (by first | with_reducible exact WkL.refl _ | ((repeat (first | exact WkL.nil | refine WkL.cons (by first | with_reducible exact Wk.refl _ | exact Wk.nil_own _ | exact Wk.nil_pl _ | with_reducible exact Wk.tok _ _ _ | exact Wk.tok _ _ _ | exact Wk.eq (by first | rfl | (simp []; done) | (simp []; omega))) ?_)); done) | exact WkL.refl _) ?_ | refine SubB.drop ?_)) (by repeat (first | exact SubT.nil _ | refine SubT.add ?_ | (refine SubT.keep ?_ ?_; focus (first | with_reducible rfl | (simp []; done))) | refine SubT.drop ?_)))) rfl rfl ?_
      rintro _ _ _ ⟨rfl, rfl, rfl⟩
      simp only [List.nil_append, List.cons_append]
      refine xvalP (pv_move rfl) rfl rfl ?_
      refine xvalP (pv_extract rfl rfl) rfl rfl ?_
      refine xvalP (pv_extract rfl rfl) rfl rfl ?_
      refine xvalP (pv_assign rfl) rfl rfl ?_
      refine xvalP (pv_assign rfl) rfl rfl ?_
      refine xnil ?_
      refine xthen ?_
      refine xseq ?_
      refine xregion ?_
      refine xvalP (pv_move rfl) rfl rfl ?_
      obtain ⟨y711, h710, h⟩ := h
      refine xcallF (Fb := [⟨b15, 45, [.sl 1 none (List.map eb f362), .v (.int .i64 f363)]⟩]) (Ft := [⟨i361, 5, 1, x360.length⟩]) (scan_Cursor_Next_v3_con _ h710) Try.func19 (by kernel_rfl) rfl (.cons rfl (.refl _) .nil) (by exact (SubM.of (by repeat (first | with_reducible exact SubB.refl _ | exact SubB.nil _ | refine SubB.keep rfl rfl (by first | with_reducible exact WkL.refl _ | ((repeat (first | exact WkL.nil | refine WkL.cons (by first | with_reducible exact Wk.refl _ | exact Wk.nil_own _ | exact Wk.nil_pl _ | with_reducible exact Wk.tok _ _ _ | exact Wk.tok _ _ _ | exact Wk.eq (by first | rfl | (simp []; done) | (simp []; omega))) ?_)); done) | exact WkL.refl _) ?_ | refine SubB.drop ?_)) (by repeat (first | exact SubT.nil _ | refine SubT.add ?_ | (refine SubT.keep ?_ ?_; focus (first | with_reducible rfl | (simp []; done))) | refine SubT.drop ?_)))) rfl rfl ?_
      rintro _ _ _ ⟨rfl, rfl, rfl⟩
      simp only [List.nil_append, List.cons_append]
      refine xvalP (pv_move rfl) rfl rfl ?_
      refine xvalP (pv_extract rfl rfl) rfl rfl ?_
      refine xvalP (pv_extract rfl rfl) rfl rfl ?_
      refine xvalP (pv_assign rfl) rfl rfl ?_
      refine xvalP (pv_assign rfl) rfl rfl ?_
      refine xnil ?_
      refine xthen ?_
      refine xseq ?_
      refine xregion ?_
      refine xvalP (pv_move rfl) rfl rfl ?_
      obtain ⟨y713, h712, h⟩ := h
      refine xcallF (Fb := [⟨b15, 45, [.sl 1 none (List.map eb f362), .v (.int .i64 f363)]⟩]) (Ft := [⟨i361, 5, 1, x360.length⟩]) (scan_Cursor_Num_con 5 _ h712) Try.func20 (by kernel_rfl) rfl (.cons rfl (.refl _) (.cons rfl (.refl _) .nil)) (by exact (SubM.of (by repeat (first | with_reducible exact SubB.refl _ | exact SubB.nil _ | refine SubB.keep rfl rfl (by first | with_reducible exact WkL.refl _ | ((repeat (first | exact WkL.nil | refine WkL.cons (by first | with_reducible exact Wk.refl _ | exact Wk.nil_own _ | exact Wk.nil_pl _ | with_reducible exact Wk.tok _ _ _ | exact Wk.tok _ _ _ | exact Wk.eq (by first | rfl | (simp []; done) | (simp []; omega))) ?_)); done) | exact WkL.refl _) ?_ | refine SubB.drop ?_)) (by repeat (first | exact SubT.nil _ | refine SubT.add ?_ | (refine SubT.keep ?_ ?_; focus (first | with_reducible rfl | (simp []; done))) | refine SubT.drop ?_)))) rfl rfl ?_
      rintro _ _ _ ⟨rfl, rfl, rfl⟩
      simp only [List.nil_append, List.cons_append]
      refine xvalP (pv_move rfl) rfl rfl ?_
      refine xvalP (pv_extract rfl rfl) rfl rfl ?_
      refine xvalP (pv_extract rfl rfl) rfl rfl ?_
      refine xvalP (pv_assign rfl) rfl rfl ?_
      refine xvalP (pv_assign rfl) rfl rfl ?_
      refine xnil ?_
      refine xthen ?_
      refine xseq ?_
      refine xregion ?_
      refine xvalP (pv_move rfl) rfl rfl ?_
      obtain ⟨y715, h714, h⟩ := h
      refine xcallF (Fb := [⟨b15, 45, [.sl 1 none (List.map eb f362), .v (.int .i64 f363)]⟩]) (Ft := [⟨i361, 5, 1, x360.length⟩]) (scan_Cursor_Until_v2_con (47 : UInt8) _ h714) Try.func8 (by kernel_rfl) rfl (.cons rfl (.refl _) (.cons rfl (.refl _) .nil)) (by exact (SubM.of (by repeat (first | with_reducible exact SubB.refl _ | exact SubB.nil _ | refine SubB.keep rfl rfl (by first | with_reducible exact WkL.refl _ | ((repeat (first | exact WkL.nil | refine WkL.cons (by first | with_reducible exact Wk.refl _ | exact Wk.nil_own _ | exact Wk.nil_pl _ | with_reducible exact Wk.tok _ _ _ | exact Wk.tok _ _ _ | exact Wk.eq (by first | rfl | (simp []; done) | (simp []; omega))) ?_)); done) | exact WkL.refl _) ?_ | refine SubB.drop ?_)) (by repeat (first | exact SubT.nil _ | refine SubT.add ?_ | (refine SubT.keep ?_ ?_; focus (first | with_reducible rfl | (simp []; done))) | refine SubT.drop ?_)))) rfl rfl ?_
      rintro _ _ _ ⟨rfl, rfl, rfl⟩
      simp only [List.nil_append, List.cons_append]
      refine xvalP (pv_move rfl) rfl rfl ?_
      refine xvalP (pv_extract rfl rfl) rfl rfl ?_
      refine xvalP (pv_extract rfl rfl) rfl rfl ?_
      refine xvalP (pv_assign rfl) rfl rfl ?_
      refine xvalP (pv_assign rfl) rfl rfl ?_
      refine xnil ?_
      refine xthen ?_
      refine xseq ?_
      refine xregion ?_
      refine xvalP (pv_move rfl) rfl rfl ?_
      obtain ⟨y717, h716, h⟩ := h
      refine xcallF (Fb := [⟨b15, 45, [.sl 1 none (List.map eb f362), .v (.int .i64 f363)]⟩]) (Ft := [⟨i361, 5, 1, x360.length⟩]) (scan_Cursor_Text_v2_con _ h716) Try.func15 (by kernel_rfl) rfl (.cons rfl (.refl _) .nil) (by exact (SubM.of (by repeat (first | with_reducible exact SubB.refl _ | exact SubB.nil _ | refine SubB.keep rfl rfl (by first | with_reducible exact WkL.refl _ | ((repeat (first | exact WkL.nil | refine WkL.cons (by first | with_reducible exact Wk.refl _ | exact Wk.nil_own _ | exact Wk.nil_pl _ | with_reducible exact Wk.tok _ _ _ | exact Wk.tok _ _ _ | exact Wk.eq (by first | rfl | (simp []; done) | (simp []; omega))) ?_)); done) | exact WkL.refl _) ?_ | refine SubB.drop ?_)) (by repeat (first | exact SubT.nil _ | refine SubT.add ?_ | (refine SubT.keep ?_ ?_; focus (first | with_reducible rfl | (simp []; done))) | refine SubT.drop ?_)))) rfl rfl ?_
      rintro _ _ _ ⟨rfl, rfl, rfl⟩
      simp only [List.nil_append, List.cons_append]
      refine xvalP (pv_move rfl) rfl rfl ?_
      refine xvalP (pv_extract rfl rfl) rfl rfl ?_
      refine xvalP (pv_extract rfl rfl) rfl rfl ?_
      refine xvalP (pv_assign rfl) rfl rfl ?_
      refine xvalP (pv_assign rfl) rfl rfl ?_
      refine xnil ?_
      refine xthen ?_
      refine xseq ?_
      refine xseqM (fun σ => ∃ (x792 : Bool), palinodelaw14_ScanWhole_j5 x360 x1 f362 f363 x792 r ∧ σ = ⟨[(0, .sl 1 none (List.map eb x1)), (3, .v (.pointer (some ⟨b15, 0, none⟩))), (4, .sl 1 (some i361) (List.map eb x360)), (124, .v (.bool x792))], [⟨b15, 45, [.sl 1 none (List.map eb f362), .v (.int .i64 f363)]⟩], [⟨i361, 5, 1, x360.length⟩]⟩) ?_ ?_
      · refine xregion ?_
        refine xvalP (pv_move rfl) rfl rfl ?_
        refine xvalP (pv_move rfl) rfl rfl ?_
        by_cases hp793 : y709.2 = true
        · replace h := h.1 hp793
          refine xsetB 88 hp793 rfl ?_
          refine xskip rfl rfl ?_
          refine xvalP (pv_pick rfl rfl) rfl rfl ?_
          refine xvalP (pv_move rfl) rfl rfl ?_
          refine xskip rfl rfl ?_
          refine xskip rfl rfl ?_
          refine xvalP (pv_pick rfl rfl) rfl rfl ?_
          refine xvalP (pv_move rfl) rfl rfl ?_
          refine xskip rfl rfl ?_
          refine xskip rfl rfl ?_
          refine xvalP (pv_pick rfl rfl) rfl rfl ?_
          refine xvalP (pv_move rfl) rfl rfl ?_
          refine xskip rfl rfl ?_
          refine xskip rfl rfl ?_
          refine xvalP (pv_pick rfl rfl) rfl rfl ?_
          refine xvalP (pv_move rfl) rfl rfl ?_
          refine xskip rfl rfl ?_
          refine xskip rfl rfl ?_
          refine xskip rfl rfl ?_
          refine xvalP (pv_pick rfl rfl) rfl rfl ?_
          refine xvalP (pv_move rfl) rfl rfl ?_
          refine xskip rfl rfl ?_
          refine xskip rfl rfl ?_
          refine xskip rfl rfl ?_
          refine xskip rfl rfl ?_
          refine xvalP (pv_pick rfl rfl) rfl rfl ?_
          refine xvalP (pv_move rfl) rfl rfl ?_
          refine xskip rfl rfl ?_
          refine xskip rfl rfl ?_
          refine xskip rfl rfl ?_
          refine xvalP (pv_pick rfl rfl) rfl rfl ?_
          refine xvalP (pv_move rfl) rfl rfl ?_
          refine xskip rfl rfl ?_
          refine xskip rfl rfl ?_
          refine xskip rfl rfl ?_
          refine xskip rfl rfl ?_
          refine xvalP (pv_pick rfl rfl) rfl rfl ?_
          refine xnil ?_
          exact xmeet ⟨true, h, rfl⟩ ⟨(.cons rfl (.refl _) (.cons rfl (.refl _) (.cons rfl (.refl _) (.cons rfl (.refl _) (.nil _))))), (SubM.of (.keep rfl rfl (.refl _) (.nil _)) (.keep rfl (.nil _)))⟩
        · replace h := h.2 hp793
          refine xsetB 88 (b_f hp793) rfl ?_
          refine xvalP (pv_move rfl) rfl rfl ?_
          refine xvalP (pv_pick rfl rfl) rfl rfl ?_
          refine xvalP (pv_move rfl) rfl rfl ?_
          by_cases hp794 : y711.2 = true
          · replace h := h.1 hp794
            refine xsetB 91 hp794 rfl ?_
            refine xskip rfl rfl ?_
            refine xskip rfl rfl ?_
            refine xvalP (pv_pick rfl rfl) rfl rfl ?_
            refine xvalP (pv_move rfl) rfl rfl ?_
            refine xskip rfl rfl ?_
            refine xskip rfl rfl ?_
            refine xvalP (pv_pick rfl rfl) rfl rfl ?_
            refine xvalP (pv_move rfl) rfl rfl ?_
            refine xskip rfl rfl ?_
            refine xskip rfl rfl ?_
            refine xvalP (pv_pick rfl rfl) rfl rfl ?_
            refine xvalP (pv_move rfl) rfl rfl ?_
            refine xskip rfl rfl ?_
            refine xskip rfl rfl ?_
            refine xskip rfl rfl ?_
            refine xvalP (pv_pick rfl rfl) rfl rfl ?_
            refine xvalP (pv_move rfl) rfl rfl ?_
            refine xskip rfl rfl ?_
            refine xskip rfl rfl ?_
            refine xskip rfl rfl ?_
            refine xskip rfl rfl ?_
            refine xvalP (pv_pick rfl rfl) rfl rfl ?_
            refine xvalP (pv_move rfl) rfl rfl ?_
            refine xskip rfl rfl ?_
            refine xskip rfl rfl ?_
            refine xskip rfl rfl ?_
            refine xvalP (pv_pick rfl rfl) rfl rfl ?_
            refine xvalP (pv_move rfl) rfl rfl ?_
            refine xskip rfl rfl ?_
            refine xskip rfl rfl ?_
            refine xskip rfl rfl ?_
            refine xskip rfl rfl ?_
            refine xvalP (pv_pick rfl rfl) rfl rfl ?_
            refine xnil ?_
            exact xmeet ⟨true, h, rfl⟩ ⟨(.cons rfl (.refl _) (.cons rfl (.refl _) (.cons rfl (.refl _) (.cons rfl (.refl _) (.nil _))))), (SubM.of (.keep rfl rfl (.refl _) (.nil _)) (.keep rfl (.nil _)))⟩
          · replace h := h.2 hp794
            refine xsetB 91 (b_f hp794) rfl ?_
            refine xvalP (pv_move rfl) rfl rfl ?_
            refine xvalP (pv_bin2 rfl rfl rfl) rfl rfl ?_
            refine xvalP (pv_pick rfl rfl) rfl rfl ?_
            refine xvalP (pv_move rfl) rfl rfl ?_
            by_cases hp796 : ¬ (y713.2 = 1)
            · replace h := h.1 hp796
              refine xsetB 95 (not_t (decide_eq_false hp796)) rfl ?_
              refine xskip rfl rfl ?_
              refine xskip rfl rfl ?_
              refine xvalP (pv_pick rfl rfl) rfl rfl ?_
              refine xvalP (pv_move rfl) rfl rfl ?_
              refine xskip rfl rfl ?_
              refine xskip rfl rfl ?_
              refine xvalP (pv_pick rfl rfl) rfl rfl ?_
              refine xvalP (pv_move rfl) rfl rfl ?_
              refine xskip rfl rfl ?_
              refine xskip rfl rfl ?_
              refine xskip rfl rfl ?_
              refine xvalP (pv_pick rfl rfl) rfl rfl ?_
              refine xvalP (pv_move rfl) rfl rfl ?_
              refine xskip rfl rfl ?_
              refine xskip rfl rfl ?_
              refine xskip rfl rfl ?_
              refine xskip rfl rfl ?_
              refine xvalP (pv_pick rfl rfl) rfl rfl ?_
              refine xvalP (pv_move rfl) rfl rfl ?_
              refine xskip rfl rfl ?_
              refine xskip rfl rfl ?_
              refine xskip rfl rfl ?_
              refine xvalP (pv_pick rfl rfl) rfl rfl ?_
              refine xvalP (pv_move rfl) rfl rfl ?_
              refine xskip rfl rfl ?_
              refine xskip rfl rfl ?_
              refine xskip rfl rfl ?_
              refine xskip rfl rfl ?_
              refine xvalP (pv_pick rfl rfl) rfl rfl ?_
              refine xnil ?_
              exact xmeet ⟨true, h, rfl⟩ ⟨(.cons rfl (.refl _) (.cons rfl (.refl _) (.cons rfl (.refl _) (.cons rfl (.refl _) (.nil _))))), (SubM.of (.keep rfl rfl (.refl _) (.nil _)) (.keep rfl (.nil _)))⟩
            · replace h := h.2 hp796
              refine xsetB 95 (not_f (decide_eq_true (Decidable.of_not_not hp796))) rfl ?_
              refine xvalP (pv_move rfl) rfl rfl ?_
              refine xvalP (pv_bin2 rfl rfl rfl) rfl rfl ?_
              refine xvalP (pv_pick rfl rfl) rfl rfl ?_
              refine xvalP (pv_move rfl) rfl rfl ?_
              by_cases hp798 : ¬ (y715.2 = 1)
              · replace h := h.1 hp798
                refine xsetB 99 (not_t (decide_eq_false hp798)) rfl ?_
                refine xskip rfl rfl ?_
                refine xskip rfl rfl ?_
                refine xvalP (pv_pick rfl rfl) rfl rfl ?_
                refine xvalP (pv_move rfl) rfl rfl ?_
                refine xskip rfl rfl ?_
                refine xskip rfl rfl ?_
                refine xskip rfl rfl ?_
                refine xvalP (pv_pick rfl rfl) rfl rfl ?_
                refine xvalP (pv_move rfl) rfl rfl ?_
                refine xskip rfl rfl ?_
                refine xskip rfl rfl ?_
                refine xskip rfl rfl ?_
                refine xskip rfl rfl ?_
                refine xvalP (pv_pick rfl rfl) rfl rfl ?_
                refine xvalP (pv_move rfl) rfl rfl ?_
                refine xskip rfl rfl ?_
                refine xskip rfl rfl ?_
                refine xskip rfl rfl ?_
                refine xvalP (pv_pick rfl rfl) rfl rfl ?_
                refine xvalP (pv_move rfl) rfl rfl ?_
                refine xskip rfl rfl ?_
                refine xskip rfl rfl ?_
                refine xskip rfl rfl ?_
                refine xskip rfl rfl ?_
                refine xvalP (pv_pick rfl rfl) rfl rfl ?_
                refine xnil ?_
                exact xmeet ⟨true, h, rfl⟩ ⟨(.cons rfl (.refl _) (.cons rfl (.refl _) (.cons rfl (.refl _) (.cons rfl (.refl _) (.nil _))))), (SubM.of (.keep rfl rfl (.refl _) (.nil _)) (.keep rfl (.nil _)))⟩
              · replace h := h.2 hp798
                refine xsetB 99 (not_f (decide_eq_true (Decidable.of_not_not hp798))) rfl ?_
                refine xvalP (pv_move rfl) rfl rfl ?_
                refine xvalP (pv_bin2 rfl rfl rfl) rfl rfl ?_
                refine xvalP (pv_pick rfl rfl) rfl rfl ?_
                refine xvalP (pv_move rfl) rfl rfl ?_
                by_cases hp800 : ¬ (y717.2 = 1)
                · replace h := h.1 hp800
                  refine xsetB 103 (not_t (decide_eq_false hp800)) rfl ?_
                  refine xskip rfl rfl ?_
                  refine xskip rfl rfl ?_
                  refine xskip rfl rfl ?_
                  refine xvalP (pv_pick rfl rfl) rfl rfl ?_
                  refine xvalP (pv_move rfl) rfl rfl ?_
                  refine xskip rfl rfl ?_
                  refine xskip rfl rfl ?_
                  refine xskip rfl rfl ?_
                  refine xskip rfl rfl ?_
                  refine xvalP (pv_pick rfl rfl) rfl rfl ?_
                  refine xvalP (pv_move rfl) rfl rfl ?_
                  refine xskip rfl rfl ?_
                  refine xskip rfl rfl ?_
                  refine xskip rfl rfl ?_
                  refine xvalP (pv_pick rfl rfl) rfl rfl ?_
                  refine xvalP (pv_move rfl) rfl rfl ?_
                  refine xskip rfl rfl ?_
                  refine xskip rfl rfl ?_
                  refine xskip rfl rfl ?_
                  refine xskip rfl rfl ?_
                  refine xvalP (pv_pick rfl rfl) rfl rfl ?_
                  refine xnil ?_
                  exact xmeet ⟨true, h, rfl⟩ ⟨(.cons rfl (.refl _) (.cons rfl (.refl _) (.cons rfl (.refl _) (.cons rfl (.refl _) (.nil _))))), (SubM.of (.keep rfl rfl (.refl _) (.nil _)) (.keep rfl (.nil _)))⟩
                · replace h := h.2 hp800
                  refine xsetB 103 (not_f (decide_eq_true (Decidable.of_not_not hp800))) rfl ?_
                  refine xvalP (pv_move rfl) rfl rfl ?_
                  obtain ⟨y802, h801, h⟩ := h
                  refine xcall0 (scan_Cursor_At_v3_con _ h801) Try.func11 (by kernel_rfl) rfl (.cons rfl (.refl _) .nil) rfl rfl ?_
                  refine xvalP (pv_bin2 rfl rfl rfl) rfl rfl ?_
                  refine xvalP (pv_pick rfl rfl) rfl rfl ?_
                  refine xvalP (pv_move rfl) rfl rfl ?_
                  by_cases hp804 : ¬ (y802 = 0)
                  · replace h := h.1 hp804
                    refine xsetB 108 (not_t (decide_eq_false hp804)) rfl ?_
                    refine xskip rfl rfl ?_
                    refine xskip rfl rfl ?_
                    refine xskip rfl rfl ?_
                    refine xskip rfl rfl ?_
                    refine xvalP (pv_pick rfl rfl) rfl rfl ?_
                    refine xvalP (pv_move rfl) rfl rfl ?_
                    refine xskip rfl rfl ?_
                    refine xskip rfl rfl ?_
                    refine xskip rfl rfl ?_
                    refine xvalP (pv_pick rfl rfl) rfl rfl ?_
                    refine xvalP (pv_move rfl) rfl rfl ?_
                    refine xskip rfl rfl ?_
                    refine xskip rfl rfl ?_
                    refine xskip rfl rfl ?_
                    refine xskip rfl rfl ?_
                    refine xvalP (pv_pick rfl rfl) rfl rfl ?_
                    refine xnil ?_
                    exact xmeet ⟨true, h, rfl⟩ ⟨(.cons rfl (.refl _) (.cons rfl (.refl _) (.cons rfl (.refl _) (.cons rfl (.refl _) (.nil _))))), (SubM.of (.keep rfl rfl (.refl _) (.nil _)) (.keep rfl (.nil _)))⟩
                  · replace h := h.2 hp804
                    refine xsetB 108 (not_f (decide_eq_true (Decidable.of_not_not hp804))) rfl ?_
                    refine xvalP (pv_move rfl) rfl rfl ?_
                    refine xbuildSliceM (f := eb) [(32 : UInt8)] UndC.h InfC.h rfl rfl (by first | exact wkR_of rfl | (repeat (first | exact WkR.nil | refine WkR.cons (by (repeat (first | exact WkL.nil | refine WkL.cons (by first | with_reducible exact Wk.refl _ | exact Wk.nil_own _ | exact Wk.nil_pl _ | with_reducible exact Wk.tok _ _ _ | exact Wk.tok _ _ _ | exact Wk.eq (by first | rfl | (simp []; done) | (simp []; omega))) ?_))) ?_))) rfl rfl rfl rfl fun s110 => ?_
                    obtain ⟨y806, h805, h⟩ := h
                    refine xcall0 (scan_Cursor_Skip_con ([(32 : UInt8)]) _ h805) Try.func21 (by kernel_rfl) rfl (.cons rfl (.refl _) (.cons rfl (.tok _ _ _) .nil)) rfl rfl ?_
                    refine xvalP (pv_bin2 rfl rfl rfl) rfl rfl ?_
                    refine xvalP (pv_pick rfl rfl) rfl rfl ?_
                    refine xvalP (pv_move rfl) rfl rfl ?_
                    by_cases hp808 : ¬ (y806 = 0)
                    · replace h := h.1 hp808
                      refine xsetB 114 (not_t (decide_eq_false hp808)) rfl ?_
                      refine xskip rfl rfl ?_
                      refine xskip rfl rfl ?_
                      refine xskip rfl rfl ?_
                      refine xvalP (pv_pick rfl rfl) rfl rfl ?_
                      refine xvalP (pv_move rfl) rfl rfl ?_
                      refine xskip rfl rfl ?_
                      refine xskip rfl rfl ?_
                      refine xskip rfl rfl ?_
                      refine xskip rfl rfl ?_
                      refine xvalP (pv_pick rfl rfl) rfl rfl ?_
                      refine xnil ?_
                      exact xmeet ⟨true, h, rfl⟩ ⟨(.cons rfl (.refl _) (.cons rfl (.refl _) (.cons rfl (.refl _) (.cons rfl (.refl _) (.nil _))))), (SubM.of (.keep rfl rfl (.refl _) (.nil _)) (.drop (.keep rfl (.nil _))))⟩
                    · replace h := h.2 hp808
                      refine xsetB 114 (not_f (decide_eq_true (Decidable.of_not_not hp808))) rfl ?_
                      refine xvalP (pv_move rfl) rfl rfl ?_
                      obtain ⟨y810, h809, h⟩ := h
                      refine xcall0 (scan_Cursor_Word_con _ h809) Try.func22 (by kernel_rfl) rfl (.cons rfl (.refl _) .nil) rfl rfl ?_
                      refine xvalP (pv_bin2 rfl rfl rfl) rfl rfl ?_
                      refine xvalP (pv_pick rfl rfl) rfl rfl ?_
                      refine xvalP (pv_move rfl) rfl rfl ?_
                      by_cases hp812 : ¬ ((y810.toList == ((⟨#[]⟩ : ByteArray)).toList) = true)
                      · replace h := h.1 hp812
                        refine xsetB 119 (not_t (b_f hp812)) rfl ?_
                        refine xskip rfl rfl ?_
                        refine xskip rfl rfl ?_
                        refine xskip rfl rfl ?_
                        refine xskip rfl rfl ?_
                        refine xvalP (pv_pick rfl rfl) rfl rfl ?_
                        refine xnil ?_
                        exact xmeet ⟨true, h, rfl⟩ ⟨(.cons rfl (.refl _) (.cons rfl (.refl _) (.cons rfl (.refl _) (.cons rfl (.refl _) (.nil _))))), (SubM.of (.keep rfl rfl (.refl _) (.nil _)) (.drop (.keep rfl (.nil _))))⟩
                      · replace h := h.2 hp812
                        refine xsetB 119 (not_f (Decidable.of_not_not hp812)) rfl ?_
                        refine xvalP (pv_move rfl) rfl rfl ?_
                        obtain ⟨y814, h813, h⟩ := h
                        refine xcall0 (scan_Cursor_Rest_v3_con _ h813) Try.func17 (by kernel_rfl) rfl (.cons rfl (.refl _) .nil) rfl rfl ?_
                        refine xvalP (pv_lenM UndC.h rfl) rfl rfl ?_
                        refine xvalP (pv_bin2 rfl rfl rfl) rfl rfl ?_
                        refine xvalP (pv_pick rfl rfl) rfl rfl ?_
                        refine xnil ?_
                        exact xmeet ⟨(!(decide ((y814.length : Int) = 0))), h, rfl⟩ ⟨(.cons rfl (.refl _) (.cons rfl (.refl _) (.cons rfl (.refl _) (.cons rfl (.refl _) (.nil _))))), (SubM.of (.keep rfl rfl (.refl _) (.nil _)) (.drop (.keep rfl (.nil _))))⟩
      · clear h
        rintro _ ⟨x792, h, rfl⟩
        by_cases hp817 : x792 = true
        · replace h := h.1 hp817
          refine xcondT' hp817 rfl ?_
          refine xseq ?_
          refine xregion ?_
          refine xvalP (pv_assign rfl) rfl rfl ?_
          refine xnil ?_
          refine xthen ?_
          refine xretc ?_
          refine xthen_ret ?_
          replace h := h.symm
          subst h
          exact xret1 hg rfl rfl (.refl _) (SubM.of (.nil _) (.nil _)) ⟨rfl, rfl, rfl⟩
        · replace h := h.2 hp817
          refine xcondF' (b_f hp817) rfl ?_
          refine xskipc ?_
          refine xthen ?_
          refine xseq ?_
          refine xregion ?_
          refine xvalP (pv_move rfl) rfl rfl ?_
          refine xvalP (pv_move rfl) rfl rfl ?_
          obtain ⟨y829, h828, h⟩ := h
          refine xcall0 (palinoderef01_Same_con x360 x1 _ h828) Try.func16 (by kernel_rfl) rfl (.cons rfl (.tok _ _ _) (.cons rfl (.refl _) .nil)) rfl rfl ?_
          refine xvalP (pv_move rfl) rfl rfl ?_
          by_cases hp830 : y829 = true
          · replace h := h.1 hp830
            refine xsetB 128 hp830 rfl ?_
            refine xvalP (pv_move rfl) rfl rfl ?_
            obtain ⟨y832, h831, h⟩ := h
            refine xcallF (Fb := []) (Ft := [⟨i361, 5, 1, x360.length⟩]) (scan_Cursor_At_v2_con (f362, f363) b15 _ h831) Try.func11 (by kernel_rfl) rfl (.cons rfl (.refl _) .nil) (by exact (SubM.of (by repeat (first | with_reducible exact SubB.refl _ | exact SubB.nil _ | refine SubB.keep rfl rfl (by first | with_reducible exact WkL.refl _ | ((repeat (first | exact WkL.nil | refine WkL.cons (by first | with_reducible exact Wk.refl _ | exact Wk.nil_own _ | exact Wk.nil_pl _ | with_reducible exact Wk.tok _ _ _ | exact Wk.tok _ _ _ | exact Wk.eq (by first | rfl | (simp []; done) | (simp []; omega))) ?_)); done) | exact WkL.refl _) ?_ | refine SubB.drop ?_)) (by repeat (first | exact SubT.nil _ | refine SubT.add ?_ | (refine SubT.keep ?_ ?_; focus (first | with_reducible rfl | (simp []; done))) | refine SubT.drop ?_)))) rfl rfl ?_
            rintro _ _ _ ⟨rfl, rfl, rfl⟩
            simp only [List.nil_append, List.cons_append]
            refine xvalP (pv_move rfl) rfl rfl ?_
            refine xvalP (pv_lenM UndC.h rfl) rfl rfl ?_
            refine xvalP (pv_bin2 rfl rfl rfl) rfl rfl ?_
            refine xvalP (pv_pick rfl rfl) rfl rfl ?_
            refine xvalP (pv_move rfl) rfl rfl ?_
            by_cases hp835 : y832 = (x1.length : Int)
            · replace h := h.1 hp835
              refine xsetB 135 (decide_eq_true hp835) rfl ?_
              obtain ⟨y837, h836, h⟩ := h
              refine xcall0 (palinodelaw14_awake_con _ h836) Try.func12 (by kernel_rfl) rfl .nil rfl rfl ?_
              refine xvalP (pv_pick rfl rfl) rfl rfl ?_
              refine xvalP (pv_assign rfl) rfl rfl ?_
              refine xnil ?_
              refine xthen ?_
              refine xretc ?_
              replace h := h.symm
              subst h
              exact xret1 hg rfl rfl (.refl _) (SubM.of (.nil _) (.nil _)) ⟨rfl, rfl, rfl⟩
            · replace h := h.2 hp835
              refine xsetB 135 (decide_eq_false hp835) rfl ?_
              refine xskip rfl rfl ?_
              refine xvalP (pv_pick rfl rfl) rfl rfl ?_
              refine xvalP (pv_assign rfl) rfl rfl ?_
              refine xnil ?_
              refine xthen ?_
              refine xretc ?_
              replace h := h.symm
              subst h
              exact xret1 hg rfl rfl (.refl _) (SubM.of (.nil _) (.nil _)) ⟨rfl, rfl, rfl⟩
          · replace h := h.2 hp830
            refine xsetB 128 (b_f hp830) rfl ?_
            refine xskip rfl rfl ?_
            refine xskip rfl rfl ?_
            refine xskip rfl rfl ?_
            refine xskip rfl rfl ?_
            refine xskip rfl rfl ?_
            refine xvalP (pv_pick rfl rfl) rfl rfl ?_
            refine xvalP (pv_move rfl) rfl rfl ?_
            refine xskip rfl rfl ?_
            refine xvalP (pv_pick rfl rfl) rfl rfl ?_
            refine xvalP (pv_assign rfl) rfl rfl ?_
            refine xnil ?_
            refine xthen ?_
            refine xretc ?_
            replace h := h.symm
            subst h
            exact xret1 hg rfl rfl (.refl _) (SubM.of (.nil _) (.nil _)) ⟨rfl, rfl, rfl⟩
end Go.Proofs.Ytfngfgiikpofgaa
