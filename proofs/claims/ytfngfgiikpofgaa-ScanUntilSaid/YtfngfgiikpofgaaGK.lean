/- What functions' texts ask for, and the walks that show it (printed by a program). -/
import Derived.Test.YtfngfgiikpofgaaGKp1
namespace Go.Proofs.Ytfngfgiikpofgaa
/-- (*scan.Cursor).Next -/
def scan_Cursor_Next_v2_j1 (y3 : UInt8 × Bool) (o1 : (List UInt8) × Int) (f6 : Int) (r : UInt8 × Bool × ((List UInt8) × Int)) : Prop :=
  r = (y3.1, y3.2, (o1.1, f6))
def scan_Cursor_Next_v2_R (o1 : (List UInt8) × Int) (r : UInt8 × Bool × ((List UInt8) × Int)) : Prop :=
  ∃ y3 : UInt8 × Bool, scan_Cursor_Peek_v2_R o1 y3 ∧ ((y3.2 = true → InR (o1.2 + 1) ∧ scan_Cursor_Next_v2_j1 y3 o1 (o1.2 + 1) r) ∧ (¬ (y3.2 = true) → scan_Cursor_Next_v2_j1 y3 o1 o1.2 r))
set_option maxHeartbeats 4000000 in
theorem scan_Cursor_Next_v2_con (o1 : (List UInt8) × Int) (bx0 : Nat) (r : UInt8 × Bool × ((List UInt8) × Int)) (h : scan_Cursor_Next_v2_R o1 r) : Con Try.prog 19 [.v (.pointer (some ⟨bx0, 0, none⟩))] [⟨bx0, 45, [.sl 1 none (List.map eb o1.1), .v (.int .i64 o1.2)]⟩] [] (fun rr bx tk => rr = .tup [.v (.int .u8 ((r.1.toNat : Int))), .v (.bool r.2.1)] ∧ bx = [⟨bx0, 45, [.sl 1 none (List.map eb r.2.2.1), .v (.int .i64 r.2.2.2)]⟩] ∧ tk = []) := by
  refine xenter Try.func19 rfl rfl fun g hg => ?_
  simp only [Try.ntmps19, slots]
  refine xseq ?_
  refine xregion ?_
  refine xvalP (pv_assign rfl) rfl rfl ?_
  refine xvalP (pv_assign rfl) rfl rfl ?_
  refine xnil ?_
  refine xthen ?_
  refine xseq ?_
  refine xregion ?_
  refine xvalP (pv_move rfl) rfl rfl ?_
  obtain ⟨y3, h2, h⟩ := h
  refine xcallF (Fb := []) (Ft := []) (scan_Cursor_Peek_v2_con o1 bx0 _ h2) Try.func18 (by kernel_rfl) rfl (.cons rfl (.refl _) .nil) (by exact (SubM.of (by repeat (first | with_reducible exact SubB.refl _ | exact SubB.nil _ | refine SubB.keep rfl rfl (by first | with_reducible exact WkL.refl _ | ((repeat (first | exact WkL.nil | refine WkL.cons (by first | with_reducible exact Wk.refl _ | exact Wk.nil_own _ | exact Wk.nil_pl _ | with_reducible exact Wk.tok _ _ _ | exact Wk.tok _ _ _ | exact Wk.eq (by first | rfl | (simp []; done) | (simp []; omega))) ?_)); done) | exact WkL.refl _) ?_ | refine SubB.drop ?_)) (by repeat (first | exact SubT.nil _ | refine SubT.add ?_ | (refine SubT.keep ?_ ?_; focus (first | with_reducible rfl | (simp []; done))) | refine SubT.drop ?_)))) rfl rfl ?_
  rintro _ _ _ ⟨rfl, rfl, rfl⟩
  simp only [List.nil_append, List.cons_append]
  refine xvalP (pv_move rfl) rfl rfl ?_
  refine xvalP (pv_extract rfl rfl) rfl rfl ?_
  refine xvalP (pv_extract rfl rfl) rfl rfl ?_
  refine xvalP (pv_assign rfl) rfl rfl ?_
  refine xvalP (pv_assign rfl) rfl rfl ?_
  refine xnil ?_
  refine xthen ?_
  refine xseqM (fun σ => ∃ (f6 : Int), scan_Cursor_Next_v2_j1 y3 o1 f6 r ∧ σ = ⟨[(4, .v (.int .u8 ((y3.1.toNat : Int)))), (5, .v (.bool y3.2))], [⟨bx0, 45, [.sl 1 none (List.map eb o1.1), .v (.int .i64 f6)]⟩], []⟩) ?_ ?_
  · refine xseq ?_
    refine xregion ?_
    refine xvalP (pv_move rfl) rfl rfl ?_
    refine xnil ?_
    refine xthen ?_
    by_cases hp7 : y3.2 = true
    · replace h := h.1 hp7
      refine xcondT' hp7 rfl ?_
      refine xregion ?_
      refine xvalP (pv_move rfl) rfl rfl ?_
      refine xvalP (pv_nilCheck rfl) rfl rfl ?_
      refine xvalP (qv_fieldAddrB FldC.h rfl) rfl rfl ?_
      refine xval (qv_loadB 0 ShpC.h rfl rfl rfl rfl) rfl rfl ?_
      obtain ⟨h8, h⟩ := h
      refine xvalP (pv_addI h8 rfl rfl) rfl rfl ?_
      refine xvalP (pv_nilCheck rfl) rfl rfl ?_
      refine xvalP (qv_fieldAddrB FldC.h rfl) rfl rfl ?_
      refine xstore 0 ShpC.h rfl rfl rfl rfl rfl rfl rfl ?_
      refine xnil ?_
      exact xmeet ⟨(o1.2 + 1), h, rfl⟩ ⟨(.cons rfl (.refl _) (.cons rfl (.refl _) (.nil _))), (SubM.of (.keep rfl rfl (.refl _) (.nil _)) (.nil _))⟩
    · replace h := h.2 hp7
      refine xcondF' (b_f hp7) rfl ?_
      refine xskipc ?_
      exact xmeet ⟨o1.2, h, rfl⟩ ⟨(.cons rfl (.refl _) (.cons rfl (.refl _) (.nil _))), (SubM.of (.keep rfl rfl (.refl _) (.nil _)) (.nil _))⟩
  · clear h
    rintro _ ⟨f6, h, rfl⟩
    refine xseq ?_
    refine xregion ?_
    refine xvalP (pv_move rfl) rfl rfl ?_
    refine xvalP (pv_move rfl) rfl rfl ?_
    refine xvalP (pv_assign rfl) rfl rfl ?_
    refine xvalP (pv_assign rfl) rfl rfl ?_
    refine xnil ?_
    refine xthen ?_
    refine xretc ?_
    replace h := h.symm
    subst h
    exact xret2 hg rfl rfl (.eq rfl) rfl (.refl _) (SubM.of (.keep rfl rfl (.refl _) (.nil _)) (.nil _)) ⟨rfl, rfl, rfl⟩
/-- (*scan.Cursor).Rest -/
def scan_Cursor_Rest_v2_R (o1 : (List UInt8) × Int) (r : (List UInt8) × ((List UInt8) × Int)) : Prop :=
  ∃ y3 : (List UInt8) × ((List UInt8) × Int), scan_Cursor_while_v2_R o1 y3 ∧ ∃ y6 : UInt8 × Bool × ((List UInt8) × Int), scan_Cursor_Next_v2_R y3.2 y6 ∧ r = (y3.1, y6.2.2)
set_option maxHeartbeats 4000000 in
theorem scan_Cursor_Rest_v2_con (o1 : (List UInt8) × Int) (bx0 : Nat) (r : (List UInt8) × ((List UInt8) × Int)) (h : scan_Cursor_Rest_v2_R o1 r) : Con Try.prog 17 [.v (.pointer (some ⟨bx0, 0, none⟩))] [⟨bx0, 45, [.sl 1 none (List.map eb o1.1), .v (.int .i64 o1.2)]⟩] [] (fun rr bx tk => ∃ j1, rr = .sl 1 (some j1) (List.map eb r.1) ∧ bx = [⟨bx0, 45, [.sl 1 none (List.map eb r.2.1), .v (.int .i64 r.2.2)]⟩] ∧ tk = [⟨j1, 5, 1, r.1.length⟩]) := by
  refine xenter Try.func17 rfl rfl fun g hg => ?_
  simp only [Try.ntmps17, slots]
  refine xseq ?_
  refine xregion ?_
  refine xvalP (pv_assign rfl) rfl rfl ?_
  refine xnil ?_
  refine xthen ?_
  refine xseq ?_
  refine xregion ?_
  refine xvalP (pv_move rfl) rfl rfl ?_
  obtain ⟨y3, h2, h⟩ := h
  refine xcallF (Fb := []) (Ft := []) (scan_Cursor_while_v2_con o1 bx0 _ h2) Try.func27 (by kernel_rfl) rfl (.cons rfl (.refl _) (.cons rfl (.refl _) .nil)) (by exact (SubM.of (by repeat (first | with_reducible exact SubB.refl _ | exact SubB.nil _ | refine SubB.keep rfl rfl (by first | with_reducible exact WkL.refl _ | ((repeat (first | exact WkL.nil | refine WkL.cons (by first | with_reducible exact Wk.refl _ | exact Wk.nil_own _ | exact Wk.nil_pl _ | with_reducible exact Wk.tok _ _ _ | exact Wk.tok _ _ _ | exact Wk.eq (by first | rfl | (simp []; done) | (simp []; omega))) ?_)); done) | exact WkL.refl _) ?_ | refine SubB.drop ?_)) (by repeat (first | exact SubT.nil _ | refine SubT.add ?_ | (refine SubT.keep ?_ ?_; focus (first | with_reducible rfl | (simp []; done))) | refine SubT.drop ?_)))) rfl rfl ?_
  rintro _ _ _ ⟨i4, rfl, rfl, rfl⟩
  simp only [List.nil_append, List.cons_append]
  refine xvalP (pv_assign rfl) rfl rfl ?_
  refine xnil ?_
  refine xthen ?_
  refine xseq ?_
  refine xregion ?_
  refine xvalP (pv_move rfl) rfl rfl ?_
  obtain ⟨y6, h5, h⟩ := h
  refine xcallF (Fb := []) (Ft := [⟨i4, 5, 1, y3.1.length⟩]) (scan_Cursor_Next_v2_con y3.2 bx0 _ h5) Try.func19 (by kernel_rfl) rfl (.cons rfl (.refl _) .nil) (by exact (SubM.of (by repeat (first | with_reducible exact SubB.refl _ | exact SubB.nil _ | refine SubB.keep rfl rfl (by first | with_reducible exact WkL.refl _ | ((repeat (first | exact WkL.nil | refine WkL.cons (by first | with_reducible exact Wk.refl _ | exact Wk.nil_own _ | exact Wk.nil_pl _ | with_reducible exact Wk.tok _ _ _ | exact Wk.tok _ _ _ | exact Wk.eq (by first | rfl | (simp []; done) | (simp []; omega))) ?_)); done) | exact WkL.refl _) ?_ | refine SubB.drop ?_)) (by repeat (first | exact SubT.nil _ | refine SubT.add ?_ | (refine SubT.keep ?_ ?_; focus (first | with_reducible rfl | (simp []; done))) | refine SubT.drop ?_)))) rfl rfl ?_
  rintro _ _ _ ⟨rfl, rfl, rfl⟩
  simp only [List.nil_append, List.cons_append]
  refine xnil ?_
  refine xthen ?_
  refine xseq ?_
  refine xregion ?_
  refine xvalP (pv_move rfl) rfl rfl ?_
  refine xvalP (pv_assign rfl) rfl rfl ?_
  refine xnil ?_
  refine xthen ?_
  refine xretc ?_
  replace h := h.symm
  subst h
  exact xret1 hg rfl rfl (.refl _) (SubM.of (.keep rfl rfl (.refl _) (.nil _)) (.keep rfl (.nil _))) ⟨i4, rfl, rfl, rfl⟩
end Go.Proofs.Ytfngfgiikpofgaa
